/- A verified interpreter of the model's Code: what it makes of a function, the model does. No condition. -/
import Derived.Test.YtmddopocbbnhlaaGreatDoorRc
import Derived.Test.YtmddopocbbnhlaaGreatDoorRb
import Derived.Recover
import Derived.Below
set_option linter.all false
namespace Go.RX
def ni (n : Nat) (K : Nat → Prop) : Prop := match n with
 | 0 => K 0
 | n + 1 => K (n + 1)
theorem ek (n : Nat) (K : Nat → Prop) : ni n K = K n := by cases n <;> rfl
def qmx (i : Int) (K : Int → Prop) : Prop := match i with
 | .ofNat n => ni n fun n => K (.ofNat n)
 | .negSucc n => ni n fun n => K (.negSucc n)
theorem qc8 (i : Int) (K : Int → Prop) : qmx i K = K i := by cases i <;> simp only [qmx, ek]
def qgb (b : Bool) (K : Bool → Prop) : Prop := match b with
 | true => K true
 | false => K false
theorem tz (b : Bool) (K : Bool → Prop) : qgb b K = K b := by cases b <;> rfl
def fL {α : Type} : List α → (List α → Prop) → Prop
 | [], K => K []
 | x :: r, K => fL r fun r => K (x :: r)
theorem qls {α : Type} : ∀ (l : List α) (K : List α → Prop), fL l K = K l
 | [], _ => rfl
 | x :: r, K => by simp only [fL, qls r]
def qqc (s : ByteArray) (K : ByteArray → Prop) : Prop := match s with
 | ⟨⟨l⟩⟩ => fL l fun l => K ⟨⟨l⟩⟩
theorem qjd (s : ByteArray) (K : ByteArray → Prop) : qqc s K = K s := by obtain ⟨⟨l⟩⟩ := s; simp only [qqc, qls]
mutual
def fPV : PV → (PV → Prop) → Prop
 | .bool b, K => qgb b fun b => K (.bool b)
 | .int k n, K => qmx n fun n => K (.int k n)
 | .str s, K => qqc s fun s => K (.str s)
 | .nilp, K => K .nilp
 | .nils, K => K .nils
 | .nilm, K => K .nilm
 | .nilf, K => K .nilf
 | .nili, K => K .nili
 | .fnc f, K => ni f fun f => K (.fnc f)
 | .arr m n g, K => qgb m fun m => ni n fun n => K (.arr m n g)
 | .agg cs, K => qhz cs fun cs => K (.agg cs)
def qhz : List PV → (List PV → Prop) → Prop
 | [], K => K []
 | x :: r, K => fPV x fun x => qhz r fun r => K (x :: r)
end
mutual
theorem qc9 : ∀ (x : PV) (K : PV → Prop), fPV x K = K x
 | .bool _, _ => by simp only [fPV, tz]
 | .int _ _, _ => by simp only [fPV, qc8]
 | .str _, _ => by simp only [fPV, qjd]
 | .nilp, _ => by simp only [fPV]
 | .nils, _ => by simp only [fPV]
 | .nilm, _ => by simp only [fPV]
 | .nilf, _ => by simp only [fPV]
 | .nili, _ => by simp only [fPV]
 | .fnc _, _ => by simp only [fPV, ek]
 | .arr _ _ _, _ => by simp only [fPV, tz, ek]
 | .agg cs, _ => by simp only [fPV, ua cs]
theorem ua : ∀ (x : List PV) (K : List PV → Prop), qhz x K = K x
 | [], _ => by simp only [qhz]
 | x :: r, _ => by simp only [qhz, qc9 x, ua r]
end
mutual
def fAV : AV → (AV → Prop) → Prop
 | .undef, K => K .undef
 | .p x, K => fPV x fun x => K (.p x)
 | .ptr i o, K => ni i fun i => ni o fun o => K (.ptr i o)
 | .eptr i k o, K => ni i fun i => ni k fun k => ni o fun o => K (.eptr i k o)
 | .rop cs, K => qhz cs fun cs => K (.rop cs)
 | .row i, K => ni i fun i => K (.row i)
 | .map i, K => ni i fun i => K (.map i)
 | .iter i, K => ni i fun i => K (.iter i)
 | .sub i k, K => ni i fun i => ni k fun k => K (.sub i k)
 | .func f a b, K => xz a fun a => xz b fun b => K (.func f a b)
 | .agg cs, K => xz cs fun cs => K (.agg cs)
 | .tup cs, K => xz cs fun cs => K (.tup cs)
 | .iface t v, K => fAV v fun v => K (.iface t v)
def xz : List AV → (List AV → Prop) → Prop
 | [], K => K []
 | x :: r, K => fAV x fun x => xz r fun r => K (x :: r)
end
mutual
theorem vl : ∀ (x : AV) (K : AV → Prop), fAV x K = K x
 | .undef, _ => by simp only [fAV]
 | .p _, _ => by simp only [fAV, qc9]
 | .ptr _ _, _ => by simp only [fAV, ek]
 | .eptr _ _ _, _ => by simp only [fAV, ek]
 | .rop _, _ => by simp only [fAV, ua]
 | .row _, _ => by simp only [fAV, ek]
 | .map _, _ => by simp only [fAV, ek]
 | .iter _, _ => by simp only [fAV, ek]
 | .sub _ _, _ => by simp only [fAV, ek]
 | .func _ a b, _ => by simp only [fAV, jg a, jg b]
 | .agg cs, _ => by simp only [fAV, jg cs]
 | .tup cs, _ => by simp only [fAV, jg cs]
 | .iface _ v, _ => by simp only [fAV, vl v]
theorem jg : ∀ (x : List AV) (K : List AV → Prop), xz x K = K x
 | [], _ => by simp only [xz]
 | x :: r, _ => by simp only [xz, vl x, jg r]
end
def fPP : List (PV × PV) → (List (PV × PV) → Prop) → Prop
 | [], K => K []
 | (x, y) :: r, K => fPV x fun x => fPV y fun y => fPP r fun r => K ((x, y) :: r)
theorem qhy : ∀ (l : List (PV × PV)) (K : List (PV × PV) → Prop), fPP l K = K l
 | [], _ => rfl
 | (x, y) :: r, _ => by simp only [fPP, qc9, qhy r]
def fAO (o : AO) (K : AO → Prop) : Prop := match o with
 | .dead => K .dead
 | .box cs => xz cs fun cs => K (.box cs)
 | .row e sz xs => K (.row e sz xs)
 | .ice sz xs => K (.ice sz xs)
 | .map k es => K (.map k es)
 | .iter s p => K (.iter s p)
theorem qhw (o : AO) (K : AO → Prop) : fAO o K = K o := by cases o <;> simp only [fAO, jg]
def qqb (o : AO) (K : AO → Prop) : Prop := match o with
 | .dead => K .dead
 | .box cs => xz cs fun cs => K (.box cs)
 | .row e sz xs => qhz xs fun xs => K (.row e sz xs)
 | .ice sz xs => qhz xs fun xs => K (.ice sz xs)
 | .map k es => fPP es fun es => K (.map k es)
 | .iter s p => ni p fun p => K (.iter s p)
theorem qjc (o : AO) (K : AO → Prop) : qqb o K = K o := by cases o <;> simp only [qqb, jg, ua, qhy, ek]
def fWr (d : Bool) : List (Nat × AO) → (List (Nat × AO) → Prop) → Prop
 | [], K => K []
 | (i, o) :: r, K => ni i fun i => match d with
  | true => qqb o fun o => fWr d r fun r => K ((i, o) :: r)
  | false => fAO o fun o => fWr d r fun r => K ((i, o) :: r)
theorem qda (d : Bool) : ∀ (l : List (Nat × AO)) (K : List (Nat × AO) → Prop), fWr d l K = K l
 | [], _ => rfl
 | (i, o) :: r, K => by cases d <;> simp only [fWr, ek, qjc, qhw, qda _ r]
def qhx : List AO → (List AO → Prop) → Prop
 | [], K => K []
 | x :: r, K => fAO x fun x => qhx r fun r => K (x :: r)
theorem xy : ∀ (x : List AO) (K : List AO → Prop), qhx x K = K x
 | [], _ => by simp only [qhx]
 | x :: r, _ => by simp only [qhx, qhw x, xy r]
def wAV (x : AV) (K : AV → Prop) : Prop := match x with
 | .undef => K .undef
 | .p x => match x with
  | .bool b => qgb b fun b => K (.p (.bool b))
  | .int k n => qmx n fun n => K (.p (.int k n))
  | .arr m n g => ni n fun n => K (.p (.arr m n g))
  | x => K (.p x)
 | .ptr i o => ni i fun i => ni o fun o => K (.ptr i o)
 | .eptr i k o => ni i fun i => ni k fun k => ni o fun o => K (.eptr i k o)
 | .row i => ni i fun i => K (.row i)
 | .map i => ni i fun i => K (.map i)
 | .iter i => ni i fun i => K (.iter i)
 | .sub i k => ni i fun i => ni k fun k => K (.sub i k)
 | .func f a b => xz a fun a => xz b fun b => K (.func f a b)
 | .agg cs => xz cs fun cs => K (.agg cs)
 | .tup cs => xz cs fun cs => K (.tup cs)
 | x => K x
theorem qmw (x : AV) (K : AV → Prop) : wAV x K = K x := by
 cases x with
 | p x => cases x <;> simp only [wAV, tz, qc8, ek]
 | _ => simp only [wAV, ek, jg]
def fSl (sl : List (Nat × AV)) : List Nat → (List (Nat × AV) → Prop) → Prop
 | [], K => K []
 | t :: r, K => wAV (bj sl t) fun v => fSl sl r fun r => K ((t, v) :: r)
theorem qh0 (sl : List (Nat × AV)) : ∀ (l : List Nat) (K : List (Nat × AV) → Prop), fSl sl l K = K (gp sl l)
 | [], _ => by simp only [fSl, gp]
 | t :: r, _ => by simp only [fSl, gp, qmw, qh0 sl r]
def fSt (l : List Nat) (s : St) (K : St → Prop) : Prop := fSl s.sl l fun sl => qhx s.hp fun hp => K ⟨sl, hp⟩
theorem qh1 (l : List Nat) (s : St) (K : St → Prop) : fSt l s K = K ⟨gp s.sl l, s.hp⟩ := by simp only [fSt, qh0, xy]
def qh5 : PV → Bool
 | .agg _ => true
 | _ => false
def vwC (P : Program) (t : TypeId) (x : PV) (K : List PV → Prop) : Prop :=
 match b7 P t, bx P t with
 | some true, some n => match x with
  | .agg cs => match Nat.beq cs.length n && Nat.blt 0 n with | true => K cs | false => False
  | _ => False
 | some false, some n => match qh5 x with
  | true => False
  | false => match Nat.beq n 1 with | true => K [x] | false => False
 | _, _ => False
theorem qa8 (P : Program) : qhn P (vwC P) := by
 intro t x K h
 unfold vwC at h
 split at h
 ·rename_i n hA hS
  split at h
  ·rename_i cs
   split at h
   ·rename_i hb
    simp only [Bool.and_eq_true] at hb
    have h1 := Nat.eq_of_beq_eq_true hb.1
    have h2 := du hb.2
    exact ⟨cs, h, by rw [hS, h1], by omega, .inl ⟨hA, rfl⟩⟩
   ·exact h.elim
  ·exact h.elim
 ·rename_i n hA hS
  split at h
  ·exact h.elim
  ·rename_i hx
   split at h
   ·rename_i hb
    have h1 := Nat.eq_of_beq_eq_true hb
    exact ⟨[x], h, by rw [hS, h1]; rfl, by simp, .inr ⟨hA, fun xs e => by subst e; simp [qh5] at hx, rfl⟩⟩
   ·exact h.elim
 ·exact h.elim
def ifB (b : Bool) (K : Prop) : Prop := match b with
 | true => K
 | false => False
theorem cq {b : Bool} {K : Prop} (h : ifB b K) : b = true ∧ K := by
 cases b with
 | true => exact ⟨rfl, h⟩
 | false => exact h.elim
def qdi (op : BinOp) (k : IntKind) (a b : Int) (K : AV → Prop) : Prop :=
 match op with
 | .quo => ifB (!(decide (b = 0))) (K (.p (.int k (k.wrap (a.tdiv b)))))
 | .rem => ifB (!(decide (b = 0))) (K (.p (.int k (a.tmod b))))
 | .shl => ifB (decide (0 ≤ b)) (K (.p (.int k (k.wrap (a * 2 ^ (min b.toNat k.bits))))))
 | .shr => ifB (decide (0 ≤ b)) (K (.p (.int k (a.fdiv (2 ^ (min b.toNat k.bits))))))
 | op => yd op k a b K
theorem ye {op : BinOp} {k : IntKind} {a b : Int} {K : AV → Prop} (h : qdi op k a b K) : yd op k a b K := by
 cases op <;> simp only [qdi] at h <;> try exact h
 all_goals
  obtain ⟨h1, h2⟩ := cq h
  exact ⟨by simpa using h1, h2⟩
def qc : List UInt8 → List UInt8 → Bool
 | [], [] => true
 | x :: xs, y :: ys => match Nat.beq x.toNat y.toNat with
  | true => qc xs ys
  | false => false
 | _, _ => false
theorem np : ∀ (a b : List UInt8), qc a b = (a == b)
 | [], [] => rfl
 | [], _ :: _ => rfl
 | _ :: _, [] => rfl
 | x :: xs, y :: ys => by
  simp only [qc, List.cons_beq_cons]
  cases hb : Nat.beq x.toNat y.toNat with
  | true =>
   have : x = y := UInt8.toNat_inj.1 (Nat.eq_of_beq_eq_true hb)
   subst this
   simp [np xs ys]
  | false =>
   have : (x == y) = false := by
    apply Bool.eq_false_iff.2
    intro h
    have := eq_of_beq h
    subst this
    rw [Nat.beq_refl] at hb
    cases hb
   simp [this]
def qkg (op : BinOp) (a b : ByteArray) (K : AV → Prop) : Prop :=
 match op with
 | .add => ifB (Nat.ble (a.size + b.size) 9223372036854775807) (K (.p (.str ⟨⟨a.data.toList ++ b.data.toList⟩⟩)))
 | .eql => K (.p (.bool (qc a.data.toList b.data.toList)))
 | .neq => K (.p (.bool (!(qc a.data.toList b.data.toList))))
 | op => y8 op a b K
theorem toList_data (a : ByteArray) : a.toList = a.data.toList := ByteArray.toList_eq a
theorem qkh {op : BinOp} {a b : ByteArray} {K : AV → Prop} (h : qkg op a b K) : y8 op a b K := by
 cases op <;> simp only [qkg] at h <;> try exact h
 ·obtain ⟨h1, h2⟩ := cq h
  refine ⟨Nat.le_of_ble_eq_true h1, ?_⟩
  have : (⟨⟨a.data.toList ++ b.data.toList⟩⟩ : ByteArray) = a ++ b := by
   apply ByteArray.ext
   simp
  rw [this] at h2
  exact h2
 ·simp only [y8]
  rw [np, ← toList_data, ← toList_data] at h
  exact h
 ·simp only [y8]
  rw [np, ← toList_data, ← toList_data] at h
  exact h
def qgv (P : Program) (plain : bf) (rd : Nat → AO) (op : BinOp) (t : TypeId) (y : Operand) (u v : AV) (K : AV → Prop) : Prop :=
 match isEq op, qm0 P rd t (isConst y) u v with
 | some p, some b => K (.p (.bool (flp p b)))
 | _, _ => qk1 P plain op t u v K
def qnq (P : Program) (plain : bf) (rd : Nat → AO) (op : BinOp) (t : TypeId) (y : Operand) (u v : AV) (K : AV → Prop) : Prop :=
 match u, v with
 | .p (.int k a), .p (.int k' b) => match op with
  | .shl => qdi .shl k a b K
  | .shr => qdi .shr k a b K
  | op => match decide (k = k') with | true => qdi op k a b K | false => False
 | .p (.str a), .p (.str b) => qkg op a b K
 | u, v => qgv P plain rd op t y u v K
section
variable {P : Program} {ρ : Operand → AV} {rd : Nat → AO} {fresh : Nat} {dst : Option Tmp} {ty : TypeId} {pos : String} {after : Array Edge} {guard : Option (Nat × Bool)}
theorem qg9 {plain : bf} (hpl : fl P plain) (op : BinOp) (t yt : TypeId) (x y : Operand) {K : AV → Prop} (h : qnq P plain rd op t y (ρ x) (ρ y) K) :
  ∃ v, K v ∧ ay P ⟨dst, .binOp op t x y yt, ty, pos, after, guard⟩ ρ rd fresh v [] := by
 unfold qnq at h
 split at h
 ·rename_i k a k' b hx hy
  refine rb hpl op t yt x y ?_
  rw [hx, hy]
  unfold qk1
  split at h
  ·exact ye h
  ·exact ye h
  ·split at h
   ·rename_i hd
    have : k = k' := of_decide_eq_true hd
    subst this
    simp only [decide_true]
    cases op <;> exact ye h
   ·exact h.elim
 ·rename_i a b hx hy
  refine rb hpl op t yt x y ?_
  rw [hx, hy]
  exact qkh h
 ·unfold qgv at h
  split at h
  ·rename_i p b hp hb
   exact ⟨_, h, qaz op t yt x y hp hb⟩
  ·exact rb hpl op t yt x y h
end
def ru (sz : Nat) : List PV → Bool
 | [] => true
 | x :: r => match Nat.beq (cf x) sz with | true => ru sz r | false => false
theorem fa {sz : Nat} : ∀ {l : List PV}, ru sz l = true → ∀ x ∈ l, cf x = sz
 | [], _, x, hx => by simp at hx
 | y :: r, h, x, hx => by
  simp only [ru] at h
  split at h
  ·rename_i hb
   rcases List.mem_cons.1 hx with e | e
   ·rw [e]; exact Nat.eq_of_beq_eq_true hb
   ·exact fa h x e
  ·cases h
def qhr (g : Nat → PV) : Nat → List PV → List PV
 | 0, acc => acc
 | n + 1, acc => qhr g n (g n :: acc)
theorem tp (g : Nat → PV) : ∀ (n : Nat) (acc : List PV), qhr g n acc = (List.range n).map g ++ acc
 | 0, acc => by simp [qhr]
 | n + 1, acc => by simp [qhr, tp g n, List.range_succ]
def qjt (rd : Nat → AO) (sz : Nat) (x : AV) (K : List PV → Prop) : Prop :=
 match x with
 | .p .nils => K []
 | .p (.arr _ n g) => ifB (ru sz (qhr g n [])) (K (qhr g n []))
 | .row id => match rd id with
  | .row _ sz' xs => match Nat.beq sz' sz with | true => K xs | false => False
  | .ice _ xs => ifB (ru sz xs) (K xs)
  | _ => False
 | _ => False
theorem qju {rd : Nat → AO} {sz : Nat} {x : AV} {K : List PV → Prop} (h : qjt rd sz x K) : qt rd sz x K := by
 unfold qjt at h
 split at h
 ·exact h
 ·rename_i m n g
  obtain ⟨h1, h2⟩ := cq h
  rw [tp, List.append_nil] at h1 h2
  exact ⟨fun i hi => fa h1 _ (List.mem_map.2 ⟨i, List.mem_range.2 hi, rfl⟩), h2⟩
 ·rename_i id
  split at h
  ·rename_i hr
   simp only [qt, hr]; exact h
  ·rename_i sz' xs hr
   simp only [qt, hr]
   obtain ⟨h1, h2⟩ := cq h
   refine ⟨fun i hi => fa h1 _ ?_, h2⟩
   rw [List.getD_eq_getElem?_getD, List.getElem?_eq_getElem hi]
   exact List.getElem_mem hi
  ·exact h.elim
 ·exact h.elim
def xh (P : Program) (rd : Nat → AO) (fresh : Nat) (t : TypeId) (s x : AV) (K : KA) : Prop :=
 match P.underlying t with
 | some (.slice e) => match bx P e, mq P e, jc P e with
  | some sz, some by_, some z => match Nat.blt 0 sz && Nat.blt 0 by_ && Nat.beq (cf z) sz with
   | true => qjt rd sz x fun ys =>
    match s with
    | .p .nils => ifB (Nat.ble (ys.length * by_) 140737488355328) (K (.row fresh) [(fresh, .row e sz ys)])
    | .row id => match rd id with
     | .row e' sz' xs => match Nat.beq e e' && Nat.beq sz sz' with
      | true => ifB (Nat.ble ((xs.length + ys.length) * by_) 140737488355328) (K (.row fresh) [(id, .dead), (fresh, .row e sz (xs ++ ys))])
      | false => False
     | _ => False
    | _ => False
   | false => False
  | _, _, _ => False
 | _ => False
theorem qbw {rd : Nat → AO} {sz : Nat} {x : AV} {K K' : List PV → Prop} (hk : ∀ ys, K ys → K' ys) (h : qt rd sz x K) : qt rd sz x K' := by
 unfold qt at h
 split at h
 ·exact hk _ h
 ·exact ⟨h.1, hk _ h.2⟩
 ·split at h
  ·rename_i hr
   split at h
   ·rename_i hb; simp only [qt, hr, hb]; exact hk _ h
   ·exact h.elim
  ·rename_i hr
   simp only [qt, hr]
   exact ⟨h.1, hk _ h.2⟩
  ·exact h.elim
 ·exact h.elim
theorem qcq {P : Program} {rd : Nat → AO} {fresh : Nat} {t : TypeId} {s x : AV} {K : KA} (h : xh P rd fresh t s x K) : py P rd fresh t s x K := by
 unfold xh at h
 unfold py
 split at h
 ·rename_i e he
  simp only [he]
  split at h
  ·rename_i sz by_ z h1 h2 h3
   simp only [h1, h2, h3]
   split at h
   ·rename_i hc
    simp only [hc]
    refine qbw (fun ys hk => ?_) (qju h)
    split at hk
    ·obtain ⟨q1, q2⟩ := cq hk
     exact ⟨Nat.le_of_ble_eq_true q1, q2⟩
    ·split at hk
     ·rename_i hr
      simp only [hr]
      split at hk
      ·rename_i hb
       simp only [hb]
       obtain ⟨q1, q2⟩ := cq hk
       exact ⟨Nat.le_of_ble_eq_true q1, q2⟩
      ·exact hk.elim
     ·exact hk.elim
    ·exact hk.elim
   ·exact h.elim
  ·exact h.elim
 ·exact h.elim
def inB (i : Int) (n : Nat) : Bool := match i with
 | .ofNat k => Nat.blt k n
 | .negSucc _ => false
theorem kf {i : Int} {n : Nat} (h : inB i n = true) : 0 ≤ i ∧ i < n := by
 cases i with
 | ofNat k => have := du h; simp only [Int.ofNat_eq_natCast]; omega
 | negSucc k => cases h
def qi7 (env : Env) (rd : Nat → AO) (t : TypeId) (x : AV) (i : Int) (K : KA) : Prop :=
 match env.P.underlying t with
 | some (.slice e) => match x with
  | .p (.arr _ n g) => ifB (inB i n) (env.vw e (g i.toNat) fun cs => K (.rop cs) [])
  | .row id => match rd id with
   | .row _ sz xs => match bx env.P e with
    | some n => match Nat.beq n sz with
     | true => ifB (inB i xs.length) (K (.eptr id i.toNat 0) [])
     | false => False
    | none => False
   | .ice _ xs => ifB (inB i xs.length) (env.vw e (xs.getD i.toNat .nilp) fun cs => K (.rop cs) [])
   | _ => False
  | _ => False
 | _ => False
theorem qi8 {env : Env} {rd : Nat → AO} {t : TypeId} {x : AV} {i : Int} {K : KA} (h : qi7 env rd t x i K) : qc6 env rd t x i K := by
 unfold qi7 at h
 unfold qc6
 split at h
 ·rename_i e he
  simp only [he]
  split at h
  ·obtain ⟨q1, q2⟩ := cq h
   exact ⟨(kf q1).1, (kf q1).2, q2⟩
  ·split at h
   ·rename_i hr
    simp only [hr]
    split at h
    ·rename_i n hn
     simp only [hn]
     split at h
     ·rename_i hb
      simp only [hb]
      obtain ⟨q1, q2⟩ := cq h
      exact ⟨(kf q1).1, (kf q1).2, q2⟩
     ·exact h.elim
    ·exact h.elim
   ·rename_i hr
    simp only [hr]
    obtain ⟨q1, q2⟩ := cq h
    exact ⟨(kf q1).1, (kf q1).2, q2⟩
   ·exact h.elim
  ·exact h.elim
 ·exact h.elim
def ry (c : Cx) (id : Nat) : Cx := { c with I := fun b => c.I b ∨ (c.β id).block = some b }
theorem vm {c : Cx} {h : HP} (hh : HR c h) {id e sz : Nat} {xs : List PV} (hi : h id = some (.row e sz xs)) :
  HR (ry c id) (dq h [(id, .ice sz xs)]) ∧ Ext c (ry c id) ∧ Fr c h (ry c id) (dq h [(id, .ice sz xs)]) ∧ ∀ v, V c (.row id) v → V (ry c id) (.p (.arr true xs.length fun j => xs.getD j .nilp)) v := by
 have ext : Ext c (ry c id) := ⟨fun _ h => h, fun _ _ => rfl, fun _ h => .inl h, fun _ _ => rfl, rfl⟩
 have hlive : Live h id := ⟨_, hi, rfl⟩
 have live : ∀ j, Live (dq h [(id, .ice sz xs)]) j → j ≠ id ∧ Live h j := fun j hj => by
  rcases dm hj with ⟨_, h2⟩ | h2
  ·simp [dz] at h2
  ·exact h2
 have arr : ∀ v sz', c.β id = .rowv v sz' → RoC (ry c id).J (ry c id).w (.arr true xs.length fun j => xs.getD j .nilp) [v] := fun v sz' hb => by
  have h2 := (hh.obj id _ hi).2
  rw [hb] at h2
  simp only [OR] at h2
  obtain ⟨_, hsz, cells, h3, h4⟩ := h2
  exact nk (I' := (ry c id).J) ext.J hsz h3 h4 fun b hb' hc => ⟨.inr (by rw [hb]; exact hb'), fun _ => ⟨hh.low id b hlive (by rw [hb]; exact hb'), hc⟩⟩
 refine ⟨⟨fun j o ho => ?_, fun i j b hj hk hjb hkb => hh.inj i j b (live i hj).2 (live j hk).2 hjb hkb, fun i b hj hjb hI => ?_, fun b hb => ?_, fun i b hj hjb => hh.size i b (live i hj).2 hjb, fun i b hj hjb => hh.low i b (live i hj).2 hjb, hh.base⟩, ext,
  ⟨rfl, rfl, rfl, Nat.le_refl _, fun _ _ _ => rfl, fun _ h => .inl h, fun b hb => ?_, fun i b hj hjb => .inr ⟨i, (live i hj).2, hjb⟩, rfl⟩, fun v hv => ?_⟩
 ·simp only [dq] at ho
  by_cases ej : j = id
  ·rw [if_pos ej] at ho
   injection ho with ho
   subst ho ej
   obtain ⟨h1, h2⟩ := hh.obj j _ hi
   refine ⟨h1, ?_⟩
   show OR _ _ (c.β j)
   cases hl : c.β j with
   | none => rw [hl] at h2; simp only [OR] at h2
   | blk _ => rw [hl] at h2; simp only [OR] at h2
   | rowv v sz' =>
    simp only [OR]
    exact arr v sz' hl
  ·rw [if_neg ej] at ho
   obtain ⟨h1, h2⟩ := hh.obj j o ho
   exact ⟨h1, h2.mono ext fun _ _ => rfl⟩
 ·rcases hI with hI | hI
  ·exact hh.apart i b (live i hj).2 hjb hI
  ·exact (live i hj).1 (hh.inj i id b (live i hj).2 hlive hjb hI)
 ·rcases hb with hb | hb
  ·exact hh.bound b hb
  ·exact hh.size id b hlive hb
 ·rcases hb with hb | hb
  ·exact .inl hb
  ·exact .inr (.inr ⟨id, hlive, hb⟩)
 ·simp only [V] at hv ⊢
  obtain ⟨_, a, n, cp, s, rfl, hb⟩ := hv
  exact arr _ _ hb
def gj (id : Nat) (xs : List PV) (v : AV) : AV := match v with
 | .row i => match Nat.beq i id with
  | true => .p (.arr true xs.length fun j => xs.getD j .nilp)
  | false => .row i
 | v => v
theorem wo {P : Program} {ρ : Operand → AV} {rd : Nat → AO} {fresh : Nat} {dst : Option Tmp} {ty : TypeId} {pos : String} {after : Array Edge} {guard : Option (Nat × Bool)}
  (t e e' sz n id : Nat) (x lo hi : Operand) (k k' : IntKind) (l h : Int) (xs : List PV) (he : P.underlying t = some (.slice e)) (hs : bx P e = some n) (hx : ρ x = .row id) (hrow : rd id = .row e' sz xs)
  (hlo : ρ lo = .p (.int k l)) (hhi : ρ hi = .p (.int k' h)) (hsz : ∀ y ∈ xs, cf y = n) (h0 : 0 ≤ l) (h1 : l ≤ h) (h2 : h ≤ xs.length) :
  ay P ⟨dst, .slice t x (some lo) (some hi) none, ty, pos, after, guard⟩ ρ rd fresh (.p (.arr true (h.toNat - l.toNat) fun i => xs.getD (l.toNat + i) .nilp)) [(id, .ice sz xs)] := by
 intro c hp a next Q hv hrd hf hh hnext
 have hpi : hp id = some (.row e' sz xs) := by rw [← hrow]; exact hrd id (by rw [hrow]; simp)
 obtain ⟨k1, k2, k3, k4⟩ := vm hh hpi
 have hx' : gj id xs (ρ x) = .p (.arr true xs.length fun j => xs.getD j .nilp) := by rw [hx]; simp [gj]
 obtain ⟨v, q1, q2⟩ := i9 (P := P) (ρ := fun y => gj id xs (ρ y)) (rd := fun _ => .dead) (fresh := fresh) (dst := dst) (ty := ty) (pos := pos) (after := after) (guard := guard) t x (some lo) (some hi) none (K := fun v => v = .p (.arr true (h.toNat - l.toNat) fun i => xs.getD (l.toNat + i) .nilp)) (by
  have hl' : gj id xs (ρ lo) = .p (.int k l) := by rw [hlo]; rfl
  have hh' : gj id xs (ρ hi) = .p (.int k' h) := by rw [hhi]; rfl
  simp only [Option.map_some, Option.map_none, hx', hl', hh']
  unfold ng
  simp only [he, hs, gy]
  refine ⟨fun i hi => hsz _ ?_, h0, h1, h2, trivial⟩
  simp [List.getD, hi])
 subst q1
 refine q2 (ry c id) (dq hp [(id, .ice sz xs)]) a next Q (fun y hy => ?_) (fun i hi => absurd rfl hi) (fun i _ hn => by obtain ⟨o, ho⟩ := hn; cases ho) k1 fun u c' hu hr hext hfr hb => hnext u c' hu hr (k2.trans hext) (k3.trans hfr) fun i hi => ?_
 ·have := hv y hy
  show V _ (gj id xs (ρ y)) _
  unfold gj
  split
  ·rename_i i hri
   split
   ·rename_i hbi
    have := Nat.eq_of_beq_eq_true hbi
    subst this
    exact k4 _ (by rw [← hri]; exact hv y hy)
   ·rw [← hri]
    exact V.mono k2 _ _ (hv y hy)
  ·exact V.mono k2 _ _ this
 ·rcases hb i hi with hb | ⟨o, ho⟩
  ·exact .inl hb
  ·cases ho
theorem qb2 {P : Program} {ρ : Operand → AV} {rd : Nat → AO} {fresh : Nat} {dst : Option Tmp} {ty : TypeId} {pos : String} {after : Array Edge} {guard : Option (Nat × Bool)}
  (t e e' sz n id : Nat) (x hi : Operand) (k' : IntKind) (h : Int) (xs : List PV) (he : P.underlying t = some (.slice e)) (hs : bx P e = some n) (hx : ρ x = .row id) (hrow : rd id = .row e' sz xs)
  (hhi : ρ hi = .p (.int k' h)) (hsz : ∀ y ∈ xs, cf y = n) (h1 : 0 ≤ h) (h2 : h ≤ xs.length) :
  ay P ⟨dst, .slice t x none (some hi) none, ty, pos, after, guard⟩ ρ rd fresh (.p (.arr true (h.toNat - (0 : Int).toNat) fun i => xs.getD ((0 : Int).toNat + i) .nilp)) [(id, .ice sz xs)] := by
 intro c hp a next Q hv hrd hf hh hnext
 have hpi : hp id = some (.row e' sz xs) := by rw [← hrow]; exact hrd id (by rw [hrow]; simp)
 obtain ⟨k1, k2, k3, k4⟩ := vm hh hpi
 have hx' : gj id xs (ρ x) = .p (.arr true xs.length fun j => xs.getD j .nilp) := by rw [hx]; simp [gj]
 obtain ⟨v, q1, q2⟩ := i9 (P := P) (ρ := fun y => gj id xs (ρ y)) (rd := fun _ => .dead) (fresh := fresh) (dst := dst) (ty := ty) (pos := pos) (after := after) (guard := guard) t x none (some hi) none (K := fun v => v = .p (.arr true (h.toNat - (0 : Int).toNat) fun i => xs.getD ((0 : Int).toNat + i) .nilp)) (by
  have hh' : gj id xs (ρ hi) = .p (.int k' h) := by rw [hhi]; rfl
  simp only [Option.map_some, Option.map_none, hx', hh']
  unfold ng
  simp only [he, hs, gy]
  refine ⟨fun i hi => hsz _ ?_, Int.le_refl _, h1, h2, trivial⟩
  simp [List.getD, hi])
 subst q1
 refine q2 (ry c id) (dq hp [(id, .ice sz xs)]) a next Q (fun y hy => ?_) (fun i hi => absurd rfl hi) (fun i _ hn => by obtain ⟨o, ho⟩ := hn; cases ho) k1 fun u c' hu hr hext hfr hb => hnext u c' hu hr (k2.trans hext) (k3.trans hfr) fun i hi => ?_
 ·have := hv y hy
  show V _ (gj id xs (ρ y)) _
  unfold gj
  split
  ·rename_i i hri
   split
   ·rename_i hbi
    have := Nat.eq_of_beq_eq_true hbi
    subst this
    exact k4 _ (by rw [← hri]; exact hv y hy)
   ·rw [← hri]
    exact V.mono k2 _ _ (hv y hy)
  ·exact V.mono k2 _ _ this
 ·rcases hb i hi with hb | ⟨o, ho⟩
  ·exact .inl hb
  ·cases ho
theorem qiu {c : Cx} {h : HP} (hh : HR c h) {id sz : Nat} {xs : List PV} (hi : h id = some (.ice sz xs)) {v : AV} {u : Value} (hv : V c v u) : V c (gj id xs v) u := by
 unfold gj
 split
 ·rename_i i
  split
  ·rename_i hb
   have := Nat.eq_of_beq_eq_true hb
   subst this
   simp only [V] at hv ⊢
   obtain ⟨_, a, n, cp, s, rfl, hb⟩ := hv
   have := (hh.obj i _ hi).2
   rw [hb] at this
   exact this
  ·exact hv
 ·exact hv
theorem wu {P : Program} {ρ : Operand → AV} {rd : Nat → AO} {fresh : Nat} {dst : Option Tmp} {ty : TypeId} {pos : String} {after : Array Edge} {guard : Option (Nat × Bool)}
  (t : TypeId) (x : Operand) (lo hi mx : Option Operand) {id sz : Nat} {xs : List PV} (hrow : rd id = .ice sz xs) {K : AV → Prop}
  (h : ng P t (gj id xs (ρ x)) (lo.map fun y => gj id xs (ρ y)) (hi.map fun y => gj id xs (ρ y)) (mx.map fun y => gj id xs (ρ y)) K) :
  ∃ v, K v ∧ ay P ⟨dst, .slice t x lo hi mx, ty, pos, after, guard⟩ ρ rd fresh v [] := by
 obtain ⟨v, q1, q2⟩ := i9 (P := P) (ρ := fun y => gj id xs (ρ y)) (rd := fun _ => .dead) (fresh := fresh) (dst := dst) (ty := ty) (pos := pos) (after := after) (guard := guard) t x lo hi mx h
 refine ⟨v, q1, fun c hp a next Q hv hrd hf hh hnext => ?_⟩
 have hpi : hp id = some (.ice sz xs) := by rw [← hrow]; exact hrd id (by rw [hrow]; simp)
 exact q2 c hp a next Q (fun y hy => qiu hh hpi (hv y hy)) (fun i hi => absurd rfl hi) hf hh hnext
def xj (x : Option AV) (d : Nat) : Option Nat := match x with
 | none => some d
 | some (.p (.int _ (.ofNat n))) => some n
 | _ => none
theorem sd {x : Option AV} {d n : Nat} (h : xj x d = some n) (K : Int → Prop) (hk : K n) : gy x d K := by
 unfold xj at h
 unfold gy
 split at h
 ·injection h with h; subst h; exact hk
 ·injection h with h; subst h; exact hk
 ·cases h
def qnt (l : Nat) (h : Nat) (s : ByteArray) : ByteArray := ⟨⟨(s.data.toList.drop l).take (h - l)⟩⟩
theorem qi4 (l h : Nat) (s : ByteArray) : qnt l h s = s.extract l h := by
 apply ByteArray.ext
 apply Array.ext'
 simp [qnt, List.extract]
def qer (P : Program) (rd : Nat → AO) (fresh : Nat) (t : TypeId) (x : AV) (lo hi mx : Option AV) (K : KA) : Prop :=
 match mx, P.underlying t, x with
 | none, some .string, .p (.str s) => match xj hi s.size, xj lo 0 with
  | some h, some l => ifB (Nat.ble l h && Nat.ble h s.size) (K (.p (.str (qnt l h s))) [])
  | _, _ => False
 | none, some (.slice e), .p (.arr m n g) => match bx P e, xj hi n, xj lo 0 with
  | some sz, some h, some l => ifB (ru sz (qhr g n []) && Nat.ble l h && Nat.ble h n) (K (.p (.arr m (h - l) fun i => g (l + i))) [])
  | _, _, _ => False
 | none, some (.slice e), .p .nils => match bx P e, lo, xj hi 0 with
  | some _, none, some 0 => K (.p .nils) []
  | _, _, _ => False
 | none, some (.slice e), .row id => match bx P e, lo, rd id with
  | some _, none, .row e' sz xs => match xj hi xs.length with
   | some h => ifB (Nat.ble h xs.length) (K (.row fresh) [(id, .dead), (fresh, .row e' sz (xs.take h))])
   | none => False
  | some n, some (.p (.int _ (.ofNat l))), .row _ sz xs => match hi with
   | none => ifB (Nat.beq n sz && Nat.blt l xs.length) (K (.sub id l) [])
   | some _ => match xj hi xs.length with
    | some h => ifB (ru n xs && Nat.ble l h && Nat.ble h xs.length) (K (.p (.arr true (h - l) fun i => xs.getD (l + i) .nilp)) [(id, .ice sz xs)])
    | none => False
  | some sz, _, .ice _ xs => match xj hi xs.length, xj lo 0 with
   | some h, some l => ifB (ru sz xs && Nat.ble l h && Nat.ble h xs.length) (K (.p (.arr true (h - l) fun i => xs.getD (l + i) .nilp)) [])
   | _, _ => False
  | _, _, _ => False
 | _, _, _ => False
theorem mn {x : Option AV} {d n : Nat} (h : xj x d = some n) : (x = none ∧ (n : Int) = d) ∨ ∃ k, x = some (.p (.int k n)) := by
 unfold xj at h
 split at h
 ·injection h with h; subst h; exact .inl ⟨rfl, rfl⟩
 ·injection h with h; subst h; exact .inr ⟨_, rfl⟩
 ·cases h
theorem se {ρ : Operand → AV} {id : Nat} {xs : List PV} {o : Option Operand} {d n : Nat} (h : xj (o.map ρ) d = some n) : (o.map fun y => gj id xs (ρ y)) = o.map ρ := by
 cases o with
 | none => rfl
 | some y =>
  rcases mn h with ⟨e, _⟩ | ⟨k, e⟩
  ·cases e
  ·simp only [Option.map_some, Option.some.injEq] at e ⊢
   rw [e]
   rfl
section
variable {P : Program} {ρ : Operand → AV} {rd : Nat → AO} {fresh : Nat} {dst : Option Tmp} {ty : TypeId} {pos : String} {after : Array Edge} {guard : Option (Nat × Bool)}
theorem qb5 (t : TypeId) (x : Operand) (lo hi mx : Option Operand) {K : KA} (h : qer P rd fresh t (ρ x) (lo.map ρ) (hi.map ρ) (mx.map ρ) K) :
  ∃ v wr, K v wr ∧ ay P ⟨dst, .slice t x lo hi mx, ty, pos, after, guard⟩ ρ rd fresh v wr := by
 unfold qer at h
 split at h
 ·rename_i s hm ht hx
  split at h
  ·rename_i hh ll h1 h2
   obtain ⟨q1, q2⟩ := cq h
   simp only [Bool.and_eq_true] at q1
   have b1 := Nat.le_of_ble_eq_true q1.1
   have b2 := Nat.le_of_ble_eq_true q1.2
   obtain ⟨v, k1, k2⟩ := i9 (P := P) (ρ := ρ) (rd := rd) (fresh := fresh) (dst := dst) (ty := ty) (pos := pos) (after := after) (guard := guard) t x lo hi mx (K := fun v => K v []) (by
    unfold ng
    rw [hm, ht, hx]
    refine sd h1 _ (sd h2 _ ⟨by omega, by omega, by omega, ?_⟩)
    rw [qi4] at q2
    simpa using q2)
   exact ⟨v, [], k1, k2⟩
  ·exact h.elim
 ·rename_i e m n g hm ht hx
  split at h
  ·rename_i sz hh ll h0 h1 h2
   obtain ⟨q1, q2⟩ := cq h
   simp only [Bool.and_eq_true] at q1
   have b1 := Nat.le_of_ble_eq_true q1.1.2
   have b2 := Nat.le_of_ble_eq_true q1.2
   have b3 := q1.1.1
   rw [tp, List.append_nil] at b3
   obtain ⟨v, k1, k2⟩ := i9 (P := P) (ρ := ρ) (rd := rd) (fresh := fresh) (dst := dst) (ty := ty) (pos := pos) (after := after) (guard := guard) t x lo hi mx (K := fun v => K v []) (by
    unfold ng
    rw [hm, ht, hx]
    simp only [h0]
    refine ⟨fun i hi => fa b3 _ (List.mem_map.2 ⟨i, List.mem_range.2 hi, rfl⟩), sd h1 _ (sd h2 _ ⟨by omega, by omega, by omega, ?_⟩)⟩
    simpa using q2)
   exact ⟨v, [], k1, k2⟩
  ·exact h.elim
 ·rename_i e hm ht hx
  split at h
  ·rename_i sz h0 h1 h2
   have e1 : mx = none := by cases mx <;> simp_all
   have e2 : lo = none := by cases lo <;> simp_all
   subst e1 e2
   refine ⟨_, _, h, wv t e _ x hi ht h0 hx ?_⟩
   rcases mn h2 with ⟨q, _⟩ | ⟨k, q⟩
   ·exact .inl q
   ·exact .inr ⟨k, by simpa using q⟩
  ·exact h.elim
 ·rename_i e id hm ht hx
  split at h
  ·rename_i n e' sz xs h0 h1 h2
   have e1 : mx = none := by cases mx <;> simp_all
   have e2 : lo = none := by cases lo <;> simp_all
   subst e1 e2
   split at h
   ·rename_i hh h3
    obtain ⟨q1, q2⟩ := cq h
    have b1 := Nat.le_of_ble_eq_true q1
    refine ⟨_, _, q2, ?_⟩
    have := wx (P := P) (ρ := ρ) (rd := rd) (fresh := fresh) (dst := dst) (ty := ty) (pos := pos) (after := after) (guard := guard) t e e' n sz id x hi xs hh ht h0 hx h2 (mn h3) (by omega) (by omega)
    simpa using this
   ·exact h.elim
  ·rename_i n kk l' e' sz xs h0 h1 h2
   have e1 : mx = none := by cases mx <;> simp_all
   subst e1
   split at h
   ·rename_i hhi
    have e2 : hi = none := by cases hi <;> simp_all
    subst e2
    obtain ⟨q1, q2⟩ := cq h
    simp only [Bool.and_eq_true] at q1
    have b1 := Nat.eq_of_beq_eq_true q1.1
    have b2 := du q1.2
    subst b1
    cases lo with
    | none => simp at h1
    | some lo =>
     simp only [Option.map_some, Option.some.injEq] at h1
     refine ⟨_, _, q2, ?_⟩
     have := qb7 (P := P) (ρ := ρ) (rd := rd) (fresh := fresh) (dst := dst) (ty := ty) (pos := pos) (after := after) (guard := guard) t e _ _ id x lo _ _ xs ht h0 hx h2 h1 (Int.natCast_nonneg l') (Int.ofNat_lt.2 b2)
     simpa using this
   ·rename_i hv hhi
    split at h
    ·rename_i hh hb
     obtain ⟨q1, q2⟩ := cq h
     simp only [Bool.and_eq_true] at q1
     have b1 := q1.1.1
     have b2 := Nat.le_of_ble_eq_true q1.1.2
     have b3 := Nat.le_of_ble_eq_true q1.2
     rw [hhi] at hb
     cases lo with
     | none => simp at h1
     | some lo =>
      cases hi with
      | none => simp at hhi
      | some hi =>
       simp only [Option.map_some, Option.some.injEq] at h1 hhi
       rcases mn hb with ⟨e1, _⟩ | ⟨k, e1⟩
       ·cases e1
       ·simp only [Option.some.injEq] at e1
        rw [e1] at hhi
        refine ⟨_, _, q2, ?_⟩
        have := wo (P := P) (ρ := ρ) (rd := rd) (fresh := fresh) (dst := dst) (ty := ty) (pos := pos) (after := after) (guard := guard) t e e' sz n id x lo hi _ k _ (hh : Int) xs ht h0 hx h2 h1 hhi (fun y hy => fa b1 y hy) (Int.natCast_nonneg l') (Int.ofNat_le.2 b2) (Int.ofNat_le.2 b3)
        simpa using this
    ·exact h.elim
  ·rename_i n _ _ xs h0 h2
   have e1 : mx = none := by cases mx <;> simp_all
   subst e1
   split at h
   ·rename_i hh ll h3 h4
    obtain ⟨q1, q2⟩ := cq h
    simp only [Bool.and_eq_true] at q1
    have b1 := q1.1.1
    have b2 := Nat.le_of_ble_eq_true q1.1.2
    have b3 := Nat.le_of_ble_eq_true q1.2
    obtain ⟨v, k1, k2⟩ := wu (P := P) (ρ := ρ) (rd := rd) (fresh := fresh) (dst := dst) (ty := ty) (pos := pos) (after := after) (guard := guard) t x lo hi none h2 (K := fun v => K v []) (by
     rw [hx, se h3, se h4]
     unfold ng
     have ea : gj id xs (.row id) = .p (.arr true xs.length fun j => xs.getD j .nilp) := by simp [gj]
     simp only [ea, ht, h0, Option.map_none]
     refine ⟨fun i hi => fa b1 _ (by simp [List.getD, hi]), sd h3 _ (sd h4 _ ⟨by omega, by omega, by omega, ?_⟩)⟩
     simpa using q2)
    exact ⟨v, [], k1, k2⟩
   ·exact h.elim
  ·exact h.elim
 ·exact h.elim
end
def unF (v : AV) : AV := match v with
 | .p (.fnc f) => .func (.func f) [] []
 | v => v
theorem qq9 {c : Cx} {v : AV} {u : Value} (h : V c v u) : V c (unF v) u := by
 unfold unF
 split
 ·simp only [V, RoC, List.cons.injEq, and_true] at h
  subst h
  simp only [V]
  exact ⟨#[], #[], rfl, by simp [Vs], by simp [Vs]⟩
 ·exact h
theorem ay.unF {P : Program} {o : Oper} {ρ : Operand → AV} {rd : Nat → AO} {fresh : Nat} {v : AV} {wr : List (Nat × AO)} (h : ay P o (fun x => unF (ρ x)) rd fresh v wr) : ay P o ρ rd fresh v wr :=
 fun c hp a next Q hv => h c hp a next Q fun x hx => qq9 (hv x hx)
def qqv (v : AV) : Bool := match v with
 | .p (.fnc _) => true
 | _ => false
def qcv (env : Env) (rd : Nat → AO) (fresh : Nat) (ρ : Operand → AV) (cl : Call) (K : KA) : Prop :=
 match cl.callee with
 | .builtin .append => match cl.args.toList, cl.argTypes.toList with
  | [s, x], [t, t'] => match Nat.beq t t' with
   | true => xh env.P rd fresh t (ρ s) (ρ x) K
   | false => match env.P.underlying t, env.P.underlying t', ρ s, ρ x with
    | some (.slice e), some (.int _), .p .nils, .p (.int _ (.ofNat n)) => match bx env.P e, mq env.P e, jc env.P e with
     | some sz, some by_, some z => ifB (Nat.blt 0 n && Nat.ble n 140737488355328 && Nat.ble (n * by_) 140737488355328 && Nat.blt 0 sz && Nat.beq (cf z) sz) (K (.row fresh) [(fresh, .row e sz (List.replicate n z))])
     | _, _, _ => False
    | _, _, _, _ => False
  | _, _ => False
 | .builtin .cap => match cl.args.toList, cl.argTypes[0]? with
  | [x], some t => match env.P.underlying t, ρ x with
   | some (.slice _), .p .nils => K (.p (.int .i64 0)) []
   | _, _ => False
  | _, _ => False
 | .builtin .max => match cl.args.toList with
  | [x, y] => match ρ x, ρ y with
   | .p (.int k m), .p (.int _ n) => K (.p (.int k (if n > m then n else m))) []
   | _, _ => False
  | _ => False
 | .builtin .clear => match cl.args.toList, cl.argTypes.toList with
  | [x], [t] => match env.P.underlying t, ρ x with
   | some (.slice e), .sub id lo => match jc env.P e, rd id with
    | some z, .row e' sz xs => ifB (Nat.beq (cf z) sz) (K (.tup []) [(id, .row e' sz (xs.take lo ++ List.replicate (xs.length - lo) z))])
    | _, _ => False
   | _, _ => False
  | _, _ => False
 | .value g => match qqv (ρ g) with
  | true => qbk env rd fresh (fun x => unF (ρ x)) cl K
  | false => qbk env rd fresh ρ cl K
 | _ => qbk env rd fresh ρ cl K
theorem vd {env : Env} {plain : bf} (hE : og env plain) (cl : Call) (ρ : Operand → AV) (rd : Nat → AO) (fresh : Nat) {dst : Option Tmp} {ty : TypeId} {pos : String} {after : Array Edge} {guard : Option (Nat × Bool)} {K : KA}
  (h : qcv env rd fresh ρ cl K) : ∃ v wr, K v wr ∧ ay env.P ⟨dst, .call cl, ty, pos, after, guard⟩ ρ rd fresh v wr := by
 have h0 := h
 obtain ⟨callee, args, ats⟩ := cl
 unfold qcv at h
 simp only at h
 split at h
 ·split at h
  ·rename_i s x t t' hx hat
   have e1 : args = #[s, x] := Array.toList_inj.1 hx
   have e2 : ats = #[t, t'] := Array.toList_inj.1 hat
   subst e1 e2
   split at h
   ·rename_i hb
    have := Nat.eq_of_beq_eq_true hb
    subst this
    exact tf _ _ _ (qcq h)
   ·split at h
    ·rename_i e k k' n he ht hs hn
     split at h
     ·rename_i sz by_ z g1 g2 g3
      obtain ⟨q1, q2⟩ := cq h
      simp only [Bool.and_eq_true] at q1
      have b1 := du q1.1.1.1.1
      have b2 := Nat.le_of_ble_eq_true q1.1.1.1.2
      have b3 := Nat.le_of_ble_eq_true q1.1.1.2
      have b4 := du q1.1.2
      have b5 := Nat.eq_of_beq_eq_true q1.2
      have h9 : (n : Int) * (by_ : Int) ≤ 140737488355328 := by
       rw [← Int.natCast_mul]; omega
      refine ⟨_, _, q2, ?_⟩
      have := ra (P := env.P) (ρ := ρ) (rd := rd) (fresh := fresh) (dst := dst) (ty := ty) (pos := pos) (after := after) (guard := guard) t t' e sz by_ _ _ s x n z he ht g1 g2 g3 b4 b5 hs hn (by omega) (by omega) h9
      simpa using this
     ·exact h.elim
    ·exact h.elim
  ·exact h.elim
 ·split at h
  ·rename_i x t hx hat
   have e1 : args = #[x] := Array.toList_inj.1 hx
   subst e1
   split at h
   ·rename_i e he hn
    exact ⟨_, _, h, qb1 _ x t e hat he hn⟩
   ·exact h.elim
  ·exact h.elim
 ·split at h
  ·rename_i x y hx
   have e1 : args = #[x, y] := Array.toList_inj.1 hx
   subst e1
   split at h
   ·rename_i k m k' n hm hn
    exact ⟨_, _, h, qka _ x y k k' m n hm hn⟩
   ·exact h.elim
  ·exact h.elim
 ·split at h
  ·rename_i x t hx hat
   have e1 : args = #[x] := Array.toList_inj.1 hx
   have e2 : ats = #[t] := Array.toList_inj.1 hat
   subst e1 e2
   split at h
   ·rename_i e id lo he hx
    split at h
    ·rename_i z e' sz xs hz hr
     obtain ⟨q1, q2⟩ := cq h
     exact ⟨_, _, q2, qem t e e' sz id lo x z xs he hz (Nat.eq_of_beq_eq_true q1) hx hr⟩
    ·exact h.elim
   ·exact h.elim
  ·exact h.elim
 ·split at h
  ·obtain ⟨v, wr, h1, h2⟩ := je hE _ _ _ _ h
   exact ⟨v, wr, h1, h2.unF⟩
  ·exact je hE _ _ _ _ h
 ·exact je hE _ _ _ _ h
def qkc (env : Env) (plain : bf) (o : Oper) (ρ : Operand → AV) (rd : Nat → AO) (fresh : Nat) (K : KA) : Prop :=
 match o.op with
 | .binOp op t x y _ => qnq env.P plain rd op t y (ρ x) (ρ y) fun v => K v []
 | .indexAddr t x i => match ρ i with
  | .p (.int _ n) => qi7 env rd t (ρ x) n K
  | _ => False
 | .index t x i => match ρ i, ρ x, env.P.underlying t with
  | .p (.int _ n), .p (.str s), some .string => ifB (inB n s.size) (K (.p (.int .u8 (bh s n.toNat))) [])
  | _, _, _ => False
 | .slice t x lo hi mx => qer env.P rd fresh t (ρ x) (lo.map ρ) (hi.map ρ) (mx.map ρ) K
 | .call cl => qcv env rd fresh ρ cl K
 | .convert s d x => match env.P.underlying s, env.P.underlying d, ρ x with
  | some .string, some (.slice e), .p (.str b) => match env.P.underlying e with
   | some (.int .u8) => ifB (Nat.ble b.size 4294967296) (K (.p (.arr false b.size fun i => .int .u8 (bh b i))) [])
   | _ => False
  | _, _, _ => step env plain o ρ rd fresh K
 | _ => step env plain o ρ rd fresh K
theorem yz {env : Env} {plain : bf} (hE : og env plain) (o : Oper) (ρ : Operand → AV) (rd : Nat → AO) (fresh : Nat) {K : KA} (h : qkc env plain o ρ rd fresh K) :
  ∃ v wr, K v wr ∧ ay env.P o ρ rd fresh v wr := by
 obtain ⟨dst, op, ty, pos, after, guard⟩ := o
 unfold qkc at h
 simp only at h
 split at h
 ·obtain ⟨v, h1, h2⟩ := qg9 hE.plain _ _ _ _ _ h
  exact ⟨v, [], h1, h2⟩
 ·split at h
  ·rename_i k n hy
   obtain ⟨v, h1, h2⟩ := nf env rfl hE.vw _ _ _ k n hy (qi8 h)
   exact ⟨v, [], h1, h2⟩
  ·exact h.elim
 ·split at h
  ·rename_i k n s hy hx ht
   obtain ⟨q1, q2⟩ := cq h
   exact ⟨_, _, q2, wq _ _ _ k n s hy hx ht (kf q1).1 (kf q1).2⟩
  ·exact h.elim
 ·exact qb5 _ _ _ _ _ h
 ·exact vd hE _ _ _ _ h
 ·split at h
  ·rename_i e b hs hd hx
   split at h
   ·rename_i he
    obtain ⟨q1, q2⟩ := cq h
    exact ⟨_, _, q2, uv _ _ e _ b hs hd he hx (Nat.le_of_ble_eq_true q1)⟩
   ·exact h.elim
  ·exact lu hE _ _ _ _ h
 ·exact lu hE _ _ _ _ h
def qke (env : Env) (plain : bf) (o : Oper) (ρ : Operand → AV) (rd : Nat → AO) (fresh : Nat) (K : KA) : Prop :=
 match o.op with
 | .binOp op t x y _ => qgv env.P plain rd op t y (ρ x) (ρ y) fun v => K v []
 | _ => step env plain o ρ rd fresh K
theorem y5 {env : Env} {plain : bf} (hE : og env plain) (o : Oper) (ρ : Operand → AV) (rd : Nat → AO) (fresh : Nat) {K : KA} (h : qke env plain o ρ rd fresh K) :
  ∃ v wr, K v wr ∧ ay env.P o ρ rd fresh v wr := by
 obtain ⟨dst, op, ty, pos, after, guard⟩ := o
 unfold qke at h
 simp only at h
 split at h
 ·unfold qgv at h
  split at h
  ·rename_i p b hp hb
   exact ⟨_, _, h, qaz _ _ _ _ _ hp hb⟩
  ·obtain ⟨v, h1, h2⟩ := rb hE.plain _ _ _ _ _ h
   exact ⟨v, [], h1, h2⟩
 ·exact lu hE _ _ _ _ h
def ql9 (o : Oper) : Bool := match o.op with
 | .call cl => match cl.callee with
  | .value _ => true
  | _ => false
 | _ => false
def qb9 (env : Env) (plain : bf) (o : Oper) (ρ : Operand → AV) (rd : Nat → AO) (fresh : Nat) (K : KA) : Prop :=
 qkc env plain o ρ rd fresh fun v wr => fAV v fun v => fWr (!(ql9 o)) wr fun wr => K v wr
theorem js {env : Env} {plain : bf} (hE : og env plain) (o : Oper) (ρ : Operand → AV) (rd : Nat → AO) (fresh : Nat) {K : KA} (h : qb9 env plain o ρ rd fresh K) :
  ∃ v wr, K v wr ∧ ay env.P o ρ rd fresh v wr := by
 unfold qb9 at h
 simp only [vl, qda] at h
 exact yz hE o ρ rd fresh h
def qes (P : Program) (rd : Nat → AO) (t : TypeId) (x hi : AV) (K : KA) : Prop := match P.underlying t, x with
 | some (.slice e), .row id => match bx P e, rd id, xj (some hi) 0 with
  | some n, .row _ sz xs, some h => ifB (ru n xs && Nat.ble h xs.length) (K (.p (.arr true (h - 0) fun i => xs.getD (0 + i) .nilp)) [(id, .ice sz xs)])
  | _, _, _ => False
 | _, _ => False
def qkf (env : Env) (plain : bf) (o : Oper) (ρ : Operand → AV) (rd : Nat → AO) (fresh : Nat) (K : KA) : Prop := match o.op with
 | .slice t x none (some hi) none => match ρ x with
  | .row id => match rd id with
   | .row _ _ _ => qes env.P rd t (ρ x) (ρ hi) fun v wr => fAV v fun v => fWr true wr fun wr => K v wr
   | _ => qb9 env plain o ρ rd fresh K
  | _ => qb9 env plain o ρ rd fresh K
 | _ => qb9 env plain o ρ rd fresh K
theorem qb6 {P : Program} {ρ : Operand → AV} {rd : Nat → AO} {fresh : Nat} {dst : Option Tmp} {ty : TypeId} {pos : String} {after : Array Edge} {guard : Option (Nat × Bool)}
  (t : TypeId) (x hi : Operand) {K : KA} (h : qes P rd t (ρ x) (ρ hi) K) : ∃ v wr, K v wr ∧ ay P ⟨dst, .slice t x none (some hi) none, ty, pos, after, guard⟩ ρ rd fresh v wr := by
 unfold qes at h
 split at h
 ·rename_i e id he hx
  split at h
  ·rename_i n e' sz xs hh hn hr hb
   obtain ⟨q1, q2⟩ := cq h
   simp only [Bool.and_eq_true] at q1
   have b3 := Nat.le_of_ble_eq_true q1.2
   rcases mn hb with ⟨e1, _⟩ | ⟨k, e1⟩
   ·cases e1
   ·simp only [Option.some.injEq] at e1
    refine ⟨_, _, q2, ?_⟩
    have := qb2 (P := P) (ρ := ρ) (rd := rd) (fresh := fresh) (dst := dst) (ty := ty) (pos := pos) (after := after) (guard := guard) t e e' sz n id x hi k (hh : Int) xs he hn hx hr e1 (fun y hy => fa q1.1 y hy) (Int.natCast_nonneg hh) (Int.ofNat_le.2 b3)
    simpa using this
  ·exact h.elim
 ·exact h.elim
theorem y7 {env : Env} {plain : bf} (hE : og env plain) (o : Oper) (ρ : Operand → AV) (rd : Nat → AO) (fresh : Nat) {K : KA} (h : qkf env plain o ρ rd fresh K) :
  ∃ v wr, K v wr ∧ ay env.P o ρ rd fresh v wr := by
 have h0 := h
 obtain ⟨dst, op, ty, pos, after, guard⟩ := o
 unfold qkf at h
 simp only at h
 split at h
 ·split at h
  ·split at h
   ·simp only [vl, qda] at h
    exact qb6 _ _ _ h
   ·exact js hE _ _ _ _ h
  ·exact js hE _ _ _ _ h
 ·exact js hE _ _ _ _ h
def qut : List Nat → Bool
 | n :: _ => Nat.beq n 999999
 | [] => false
def qkd (kp : List Nat) (env : Env) (plain : bf) (o : Oper) (ρ : Operand → AV) (rd : Nat → AO) (fresh : Nat) (K : KA) : Prop := match qut kp with
 | true => qkf env plain o ρ rd fresh K
 | false => qb9 env plain o ρ rd fresh K
theorem mf {kp : List Nat} {env : Env} {plain : bf} (hE : og env plain) (o : Oper) (ρ : Operand → AV) (rd : Nat → AO) (fresh : Nat) {K : KA} (h : qkd kp env plain o ρ rd fresh K) :
  ∃ v wr, K v wr ∧ ay env.P o ρ rd fresh v wr := by
 unfold qkd at h
 split at h
 ·exact y7 hE _ _ _ _ h
 ·exact js hE _ _ _ _ h
def fzN (rd : Nat → AO) : AV → AV
 | .agg cs => .agg (cs.map (fz1 rd))
 | v => fz1 rd v
def z8 (rd : Nat → AO) : AV → AV
 | .tup vs => .tup (vs.map (fzN rd))
 | v => fzN rd v
theorem qco {c : Cx} {h : List AO} (hh : HR c (bg h)) {rows : List Nat} : ∀ {xs : List AV} {us : List Value}, Vs c xs us → (∀ i ∈ xs.flatMap jn, i ∈ rows) → Vs (j3 c h rows) (xs.map (fz1 (df h))) us
 | [], _, hv, _ => hv
 | x :: xs, us, hv, hr => by
  simp only [Vs, List.map_cons] at hv ⊢
  obtain ⟨y, ys, rfl, h1, h2⟩ := hv
  simp only [List.flatMap_cons, List.mem_append] at hr
  exact ⟨y, ys, rfl, qfe hh h1 (fun i hi => hr i (.inl hi)), qco hh h2 fun i hi => hr i (.inr hi)⟩
theorem qir {c : Cx} {h : List AO} (hh : HR c (bg h)) {rows : List Nat} {x : AV} {u : Value} (hx : V c x u) (hr : ∀ i ∈ rowsOf x, i ∈ rows) : V (j3 c h rows) (fzN (df h) x) u := by
 cases x with
 | agg cs =>
  simp only [V] at hx
  obtain ⟨C, rfl, h1, h2⟩ := hx
  simp only [fzN, V]
  exact ⟨C, rfl, qco hh h1 hr, h2⟩
 | _ => exact qfe hh hx hr
theorem qff {c : Cx} {h : List AO} (hh : HR c (bg h)) {x : AV} {u : Value} (hx : V c x u) : V (j3 c h (i1 x)) (z8 (df h) x) u := by
 cases x with
 | tup vs =>
  simp only [V] at hx
  obtain ⟨C, rfl, h1⟩ := hx
  simp only [z8, V]
  refine ⟨C, rfl, ?_⟩
  have : ∀ {xs : List AV} {us : List Value} (rows : List Nat), Vs c xs us → (∀ i ∈ xs.flatMap rowsOf, i ∈ rows) → Vs (j3 c h rows) (xs.map (fzN (df h))) us := by
   intro xs
   induction xs with
   | nil => intro us rows hv _; exact hv
   | cons y ys ih =>
    intro us rows hv hr
    simp only [Vs, List.map_cons] at hv ⊢
    obtain ⟨z, zs, rfl, h3, h4⟩ := hv
    simp only [List.flatMap_cons, List.mem_append] at hr
    exact ⟨z, zs, rfl, qir hh h3 (fun i hi => hr i (.inl hi)), ih rows h4 fun i hi => hr i (.inr hi)⟩
  exact this _ h1 fun i hi => hi
 | _ => exact qir hh hx fun i hi => hi
def qkl (s : St) (x : Operand) : St := match x with
 | .tmp t => match rowsOf (bj s.sl t) with
  | [] => s
  | i :: r => ⟨(t, fzN (df s.hp) (bj s.sl t)) :: s.sl, gm s.hp (i :: r)⟩
 | _ => s
def qlw : List Operand → St → St
 | [], s => s
 | x :: r, s => qlw r (qkl s x)
def qmv (v : AV) : AV := match v with
 | .func (.func f) [] [] => .p (.fnc f)
 | v => v
def toF (v : AV) : AV := match v with
 | .agg cs => .agg (cs.map qmv)
 | v => qmv v
def qqs : List AV → Bool
 | [] => false
 | .func (.func _) [] [] :: _ => true
 | _ :: r => qqs r
def qsv (v : AV) : Bool := match v with
 | .agg cs => qqs cs
 | v => qqs [v]
def fn1 (s : St) (x : Operand) : St := match x with
 | .tmp t => match qsv (bj s.sl t) with
  | true => ⟨(t, toF (bj s.sl t)) :: s.sl, s.hp⟩
  | false => s
 | _ => s
def fnL : List Operand → St → St
 | [], s => s
 | x :: r, s => fnL r (fn1 s x)
theorem qij {c : Cx} {v : AV} {u : Value} (h : V c v u) : V c (qmv v) u := by
 unfold qmv
 split
 ·simp only [V] at h
  obtain ⟨F, G, rfl, h1, h2⟩ := h
  simp only [Vs] at h1 h2
  have e1 : F = #[] := Array.toList_inj.1 h1
  have e2 : G = #[] := Array.toList_inj.1 h2
  subst e1 e2
  simp [V, RoC]
 ·exact h
theorem qey {c : Cx} : ∀ {vs : List AV} {us : List Value}, Vs c vs us → Vs c (vs.map qmv) us
 | [], _, h => h
 | x :: xs, us, h => by
  simp only [Vs, List.map_cons] at h ⊢
  obtain ⟨y, ys, rfl, h1, h2⟩ := h
  exact ⟨y, ys, rfl, qij h1, qey h2⟩
theorem qq7 {c : Cx} {v : AV} {u : Value} (h : V c v u) : V c (toF v) u := by
 unfold toF
 split
 ·simp only [V] at h ⊢
  obtain ⟨C, rfl, h1, h2⟩ := h
  exact ⟨C, rfl, qey h1, h2⟩
 ·exact qij h
theorem qlv {nt : Nat} {D : List Deferred} {c : Cx} {a : Act} (s : St) (x : Operand) (hs : SR nt D s c a) : SR nt D (fn1 s x) c a ∧ (fn1 s x).hp = s.hp := by
 unfold fn1
 split
 ·split
  ·rename_i t _
   refine ⟨⟨fun u => ?_, hs.hp, hs.size, hs.defers⟩, rfl⟩
   rw [b6]
   split
   ·rename_i e
    subst e
    exact qq7 (hs.sl _)
   ·exact hs.sl u
  ·exact ⟨hs, rfl⟩
 ·exact ⟨hs, rfl⟩
theorem qh2 {nt : Nat} {D : List Deferred} {c : Cx} {a : Act} : ∀ (l : List Operand) (s : St), SR nt D s c a → SR nt D (fnL l s) c a ∧ (fnL l s).hp = s.hp
 | [], s, hs => ⟨hs, rfl⟩
 | x :: r, s, hs => by
  obtain ⟨h1, h2⟩ := qlv s x hs
  obtain ⟨h3, h4⟩ := qh2 r _ h1
  exact ⟨h3, h4.trans h2⟩
def qmi (o : Oper) (s : St) : St := match o.op with
 | .buildSlice _ _ parts => fnL (parts.toList.map (·.2)) (qlw (parts.toList.map (·.2)) s)
 | .store _ a x => match j1 s.sl a with
  | .eptr _ _ _ => qkl s x
  | _ => s
 | .mapUpdate _ _ _ x => qkl s x
 | _ => s
theorem x4 {nt : Nat} (s : St) (x : Operand) (n0 : Nat) (D : List Deferred) (c : Cx) (a : Act) (hs : SR nt D s c a) : ∃ c', c'.w = c.w ∧ SR nt D (qkl s x) c' a ∧ Kept n0 c (bg s.hp) c' (bg (qkl s x).hp) := by
 unfold qkl
 split
 ·rename_i t
  split
  ·exact ⟨c, rfl, hs, Kept.refl _ _ _⟩
  ·rename_i i r hrows
   obtain ⟨k1, k2⟩ := qdd hs.hp.hr (i :: r)
   refine ⟨j3 c s.hp (i :: r), rfl, ⟨fun u => ?_, ⟨k1, fun j => ?_⟩, hs.size, hs.defers⟩, Kept.m7 (gn c _ _) k2⟩
   ·rw [b6]
    split
    ·rename_i e
     subst e
     exact qir hs.hp.hr (hs.sl t) (fun j hj => by rw [hrows] at hj; exact hj)
    ·exact V.mono (gn c _ _) _ _ (hs.sl u)
   ·show _ ↔ j < (gm s.hp (i :: r)).length
    rw [fx]
    exact hs.hp.born j
 ·exact ⟨c, rfl, hs, Kept.refl _ _ _⟩
theorem x5 {nt : Nat} : ∀ (l : List Operand) (s : St) (n0 : Nat) (D : List Deferred) (c : Cx) (a : Act), SR nt D s c a → ∃ c', c'.w = c.w ∧ SR nt D (qlw l s) c' a ∧ Kept n0 c (bg s.hp) c' (bg (qlw l s).hp)
 | [], s, _, _, c, _, hs => ⟨c, rfl, hs, Kept.refl _ _ _⟩
 | x :: r, s, n0, D, c, a, hs => by
  obtain ⟨c1, h1, h2, h3⟩ := x4 s x n0 D c a hs
  obtain ⟨c2, h4, h5, h6⟩ := x5 r _ n0 D c1 a h2
  exact ⟨c2, h4.trans h1, h5, h3.trans h6⟩
theorem uk {nt : Nat} (o : Oper) (s : St) (n0 : Nat) (D : List Deferred) (c : Cx) (a : Act) (hs : SR nt D s c a) : ∃ c', c'.w = c.w ∧ SR nt D (qmi o s) c' a ∧ Kept n0 c (bg s.hp) c' (bg (qmi o s).hp) := by
 unfold qmi
 split
 ·obtain ⟨c1, h1, h2, h3⟩ := x5 _ s n0 D c a hs
  obtain ⟨h4, h5⟩ := qh2 _ _ h2
  exact ⟨c1, h1, h4, by rw [h5]; exact h3⟩
 ·split
  ·exact x4 _ _ _ _ _ _ hs
  ·exact ⟨c, rfl, hs, Kept.refl _ _ _⟩
 ·exact x4 _ _ _ _ _ _ hs
 ·exact ⟨c, rfl, hs, Kept.refl _ _ _⟩
mutual
def qcc : PV → PV
 | .arr _ n g => .arr false n fun i => qcc (g i)
 | .agg cs => .agg (qa9 cs)
 | .bool b => .bool b
 | .int k n => .int k n
 | .str s => .str s
 | .nilp => .nilp
 | .nils => .nils
 | .nilm => .nilm
 | .nilf => .nilf
 | .nili => .nili
 | .fnc f => .fnc f
def qa9 : List PV → List PV
 | [] => []
 | x :: r => qcc x :: qa9 r
end
mutual
theorem u4 {I : Bool → Nat → Prop} {w : World} (hI : ∀ b, I true b → I false b) : ∀ {x : PV} {cs : List Value}, RoC I w x cs → RoC I w (qcc x) cs
 | .arr m n g, cs, k => by
  simp only [qcc, RoC] at k ⊢
  obtain ⟨a, c, e1, e2, e3⟩ := k
  refine ⟨a, c, e1, e2, fun h0 => ?_⟩
  obtain ⟨b, off, sz, k1, k2, k3, k4, k5⟩ := e3 h0
  refine ⟨b, off, sz, k1, ?_, k3, (fun e => by cases e), fun i hi => ?_⟩
  ·cases m
   ·exact k2
   ·exact hI b k2
  ·obtain ⟨es, q1, q2, q3⟩ := k5 i hi
   exact ⟨es, q1, u4 hI q2, q3⟩
 | .agg xs, cs, k => by
  simp only [qcc, RoC] at k ⊢
  exact w5 hI k
 | .bool _, _, k => k
 | .int _ _, _, k => k
 | .str _, _, k => k
 | .nilp, _, k => k
 | .nils, _, k => k
 | .nilm, _, k => k
 | .nilf, _, k => k
 | .nili, _, k => k
 | .fnc _, _, k => k
theorem w5 {I : Bool → Nat → Prop} {w : World} (hI : ∀ b, I true b → I false b) : ∀ {xs : List PV} {cs : List Value}, b9 I w xs cs → b9 I w (qa9 xs) cs
 | [], _, k => k
 | x :: xs, cs, k => by
  simp only [qa9, b9] at k ⊢
  obtain ⟨u, us, rfl, k1, k2⟩ := k
  exact ⟨u, us, rfl, u4 hI k1, w5 hI k2⟩
end
def w6 : AV → AV
 | .p x => .p (qcc x)
 | v => v
def qhg : AV → AV
 | .agg cs => .agg (cs.map w6)
 | v => w6 v
theorem w7 {c : Cx} {x : AV} {v : Value} (h : V c x v) : V c (w6 x) v := by
 cases x with
 | p y => simp only [w6, V] at h ⊢; exact u4 c.u5 h
 | _ => exact h
theorem w8 {c : Cx} : ∀ {xs : List AV} {vs : List Value}, Vs c xs vs → Vs c (xs.map w6) vs
 | [], _, h => h
 | x :: xs, vs, h => by
  simp only [Vs, List.map_cons] at h ⊢
  obtain ⟨u, us, rfl, k1, k2⟩ := h
  exact ⟨u, us, rfl, w7 k1, w8 k2⟩
theorem qhh {c : Cx} {x : AV} {v : Value} (h : V c x v) : V c (qhg x) v := by
 cases x with
 | agg cs =>
  simp only [qhg, V] at h ⊢
  obtain ⟨C, rfl, k1, k2⟩ := h
  exact ⟨C, rfl, w8 k1, k2⟩
 | _ => exact w7 h
def wkL : List Operand → St → St
 | [], s => s
 | .tmp t :: r, s => wkL r ⟨(t, qhg (bj s.sl t)) :: s.sl, s.hp⟩
 | _ :: r, s => wkL r s
theorem w9 {nt : Nat} {D : List Deferred} {c : Cx} {a : Act} : ∀ (l : List Operand) (s : St), SR nt D s c a → SR nt D (wkL l s) c a ∧ (wkL l s).hp = s.hp
 | [], s, hs => ⟨hs, rfl⟩
 | .tmp t :: r, s, hs => by
  have h1 : SR nt D ⟨(t, qhg (bj s.sl t)) :: s.sl, s.hp⟩ c a := ⟨fun u => by
   rw [b6]
   split
   ·rename_i e; subst e; exact qhh (hs.sl t)
   ·exact hs.sl u, hs.hp, hs.size, hs.defers⟩
  exact w9 r _ h1
 | .const _ :: r, s, hs => w9 r s hs
 | .global _ :: r, s, hs => w9 r s hs
 | .func _ :: r, s, hs => w9 r s hs
def qm3 (fz : FuncId → Bool) (o : Oper) (s : St) : St := match o.op with
 | .call cl => match cl.callee with
  | .value (.func f) => match fz f with
   | true => wkL cl.args.toList (qlw cl.args.toList s)
   | false => s
  | _ => s
 | _ => qmi o s
theorem qjy {fz : FuncId → Bool} {nt : Nat} (o : Oper) (s : St) (n0 : Nat) (D : List Deferred) (c : Cx) (a : Act) (hs : SR nt D s c a) : ∃ c', c'.w = c.w ∧ SR nt D (qm3 fz o s) c' a ∧ Kept n0 c (bg s.hp) c' (bg (qm3 fz o s).hp) := by
 unfold qm3
 split
 ·split
  ·split
   ·obtain ⟨c1, h1, h2, h3⟩ := x5 _ s n0 D c a hs
    obtain ⟨h4, h5⟩ := w9 _ _ h2
    exact ⟨c1, h1, h4, by rw [h5]; exact h3⟩
   ·exact ⟨c, rfl, hs, Kept.refl _ _ _⟩
  ·exact ⟨c, rfl, hs, Kept.refl _ _ _⟩
 ·exact uk _ _ _ _ _ _ hs
def qib (P : Program) (vw : TypeId → PV → (List PV → Prop) → Prop) (wk wkB fz : FuncId → Bool) (plain : bf) (C : FuncId → bb) (nt n0 : Nat) (L : List (Nat × bp)) (ll : List (Nat × List Nat)) (le : List (Nat × List (Nat × List Nat))) (lret : List Nat) (th : List (Nat × List (Nat × (Nat × Option Nat)))) (anc : List (Nat × List Nat)) : Env :=
 { qq4 P vw wk wkB plain C nt n0 L ll le lret th anc with pre := qm3 fz }
theorem an {P : Program} {vw : TypeId → PV → (List PV → Prop) → Prop} {wk wkB fz : FuncId → Bool} {plain : bf} {C : FuncId → bb} {nt n0 : Nat} {L : List (Nat × bp)} {ll : List (Nat × List Nat)} {le : List (Nat × List (Nat × List Nat))} {lret : List Nat} {th : List (Nat × List (Nat × (Nat × Option Nat)))} {anc : List (Nat × List Nat)}
  (h1 : qhn P vw) (h2 : ∀ f, ah P f (C f)) (h3 : fl P plain) : j0 (qib P vw wk wkB fz plain C nt n0 L ll le lret th anc) plain :=
 ⟨fun o ρ rd fresh _ h => lu (env := qia P vw wk wkB C) ⟨h1, h2, h3⟩ o ρ rd fresh h, qjy⟩
def qkt : List Oper → Nat → List Did → List Nat
 | [], _, _ => []
 | o :: os, n, ds => qe4 ds o.after.toList :: qkt os (n + 1) (⟨n, qe4 ds o.after.toList, none, [], [], []⟩ :: ds)
def ij (id : Nat) : Code → Option (Array Oper)
 | .region i ops true => match Nat.beq i id with | true => some ops | false => none
 | .seq x y => match ij id x with | some r => some r | none => ij id y
 | .cond _ x y => match ij id x with | some r => some r | none => ij id y
 | .block _ c => ij id c
 | .loop c => ij id c
 | .scope c => ij id c
 | _ => none
def qsu (code : Code) (id : Nat) : List Nat := match ij id code with
 | some ops => qkt ops.toList 0 []
 | none => []
def qkk (P : Program) (C : FuncId → bb) : Env :=
 { P := P, nt := 0, n0 := 0, weak := fun _ => false, weakB := fun _ => false, vw := vwC P, C := C, X := fun _ _ _ => False, S := fun _ _ _ _ _ => False, pre := fun _ s => s, L := fun _ => l4, G := fun _ => l4, lloop := fun _ => [], lexit := fun _ _ => [], lret := [], thaw := fun _ => [], anc := fun _ => [] }
def xn (P : Program) (pl : bf) (C : FuncId → bb) (code : Code) (kp : List Nat) (nt n0 : Nat) (L G : Nat → bp) : Env :=
 { P := P, nt := nt, n0 := n0, weak := fun _ => false, weakB := fun _ => false, vw := vwC P, C := C, X := fun _ _ _ => False, S := qkd kp (qkk P C) pl, pre := qmi, L := L, G := G, lloop := fun _ => kp, lexit := fun _ _ => kp, lret := kp, thaw := fun _ => [], anc := qsu code }
def qjl (env : Env) (pl : bf) (code : Code) (R : Nat → bp) (b : Nat) : bp := fun s K => match c7 b 0 code with
 | some c => fSt env.lret s fun s => exec env pl b c s fun e s' => match e with
  | .normal => R b s' K
  | e => K e s'
 | none => False
def jt : Code → Option Code
 | .scope c => some c
 | .seq x y => match jt x with
  | some c => some c
  | none => jt y
 | _ => none
theorem y9 {a : Nat} {c : Code} : ∀ {code : Code}, jt code = some c → (∀ p ∈ aj a c, p ∈ aj a code) ∧ (c :: av c).length ≤ (av code).length ∧ c ∈ av code := by
 intro code
 induction code with
 | scope d ih =>
  intro h
  simp only [jt] at h
  injection h with h
  subst h
  exact ⟨fun p hp => by simpa only [aj] using hp, by simp only [av]; exact Nat.le_refl _, by simp [av]⟩
 | seq x y ihx ihy =>
  intro h
  simp only [jt] at h
  split at h
  ·rename_i d hd
   injection h with h
   subst h
   obtain ⟨h1, h2, h3⟩ := ihx hd
   exact ⟨fun p hp => by simp only [aj, List.mem_append]; exact .inl (h1 p hp), by simp only [av, List.length_append]; omega, by simp only [av, List.mem_append]; exact .inl h3⟩
  ·obtain ⟨h1, h2, h3⟩ := ihy h
   exact ⟨fun p hp => by simp only [aj, List.mem_append]; exact .inr (h1 p hp), by simp only [av, List.length_append]; omega, by simp only [av, List.mem_append]; exact .inr h3⟩
 | _ => intro h; simp [jt] at h
def qje (env : Env) (pl : bf) (code : Code) (R : Nat → bp) (l : Nat) : bp := fun s K => match jt code with
 | some c => match findLabel c l with
  | some rest => fSt env.lret s fun s => exec env pl 0 rest s fun e s' => match e with
   | .goto l' => R l' s' K
   | e => K e s'
  | none => False
 | _ => False
def o3 (P : Program) (pl : bf) (C : FuncId → bb) (code : Code) (kp : List Nat) (nt n0 : Nat) : Nat → (Nat → bp) × (Nat → bp)
 | 0 => (fun _ => l4, fun _ => l4)
 | n + 1 => (qjl (xn P pl C code kp nt n0 (o3 P pl C code kp nt n0 n).1 (o3 P pl C code kp nt n0 n).2) pl code (o3 P pl C code kp nt n0 n).1, qje (xn P pl C code kp nt n0 (o3 P pl C code kp nt n0 n).1 (o3 P pl C code kp nt n0 n).2) pl code (o3 P pl C code kp nt n0 n).2)
def dv (P : Program) (pl : bf) (C : FuncId → bb) (code : Code) (kp : List Nat) (nt n0 n : Nat) : Env :=
 xn P pl C code kp nt n0 (o3 P pl C code kp nt n0 n).1 (o3 P pl C code kp nt n0 n).2
theorem ud {a l : Nat} : ∀ {c rest : Code}, findLabel c l = some rest → ∀ p ∈ aj a rest, p ∈ aj a c := by
 intro c
 induction c with
 | seq x y ihx ihy =>
  intro rest h p hp
  simp only [findLabel] at h
  split at h
  ·rename_i r hr
   injection h with h
   subst h
   simp only [aj, List.mem_append] at hp ⊢
   exact hp.imp (ihx hr p) id
  ·simp only [aj, List.mem_append]
   exact .inr (ihy h p hp)
 | label l' =>
  intro rest h p hp
  simp only [findLabel] at h
  split at h
  ·injection h with h; subst h; simp [aj] at hp
  ·cases h
 | _ => intro rest h; simp [findLabel] at h
theorem r7 {l : Nat} : ∀ {c rest : Code}, findLabel c l = some rest → ∀ p ∈ av rest, p ∈ av c := by
 intro c
 induction c with
 | seq x y ihx ihy =>
  intro rest h p hp
  simp only [findLabel] at h
  split at h
  ·rename_i r hr
   injection h with h
   subst h
   simp only [av, List.mem_append] at hp ⊢
   exact hp.imp (ihx hr p) id
  ·simp only [av, List.mem_append]
   exact .inr (ihy h p hp)
 | label l' =>
  intro rest h p hp
  simp only [findLabel] at h
  split at h
  ·injection h with h; subst h; simp [av] at hp
  ·cases h
 | _ => intro rest h; simp [findLabel] at h
theorem uu {a : Nat} {p : Nat × Code} : ∀ {c : Code}, p ∈ aj a c → ∀ q ∈ av p.2, q ∈ av c := by
 intro c
 induction c generalizing a with
 | seq x y ihx ihy =>
  intro h q hq
  simp only [aj, av, List.mem_append] at h ⊢
  exact h.imp (fun h => ihx h q hq) (fun h => ihy h q hq)
 | cond d x y ihx ihy =>
  intro h q hq
  simp only [aj, av, List.mem_append] at h ⊢
  exact h.imp (fun h => ihx h q hq) (fun h => ihy h q hq)
 | block id d ih => intro h q hq; simp only [aj, av] at h ⊢; exact ih h q hq
 | scope d ih => intro h q hq; simp only [aj, av] at h ⊢; exact List.mem_cons_of_mem _ (ih h q hq)
 | loop d ih =>
  intro h q hq
  simp only [aj, List.mem_cons] at h
  simp only [av]
  rcases h with h | h
  ·subst h; exact hq
  ·exact ih h q hq
 | _ => intro h; simp [aj] at h
section
variable {P : Program} {pl : bf} {C : FuncId → bb} {code : Code} {kp : List Nat} {nt n0 : Nat}
theorem vu {nt : Nat} {kp : List Nat} {s : St} {c : Cx} {a : Act} {D : List Deferred} (h : SR nt D s c a) : SR nt D ⟨gp s.sl kp, s.hp⟩ c a := nx h _
theorem tv (hC : ∀ f, ah P f (C f)) (hpl : fl P pl) (hm : P.follows .mixedOrders = true) (hn : (keys (aj 0 code)).Nodup) (hs1 : (av code).length ≤ 1) :
  ∀ n, (∀ p ∈ aj 0 code, dt (dv P pl C code kp nt n0 n) p.2 ((o3 P pl C code kp nt n0 n).1 p.1)) ∧ (∀ c ∈ av code, oe (dv P pl C code kp nt n0 n) c (o3 P pl C code kp nt n0 n).2)
 | 0 => ⟨fun _ _ _ _ h => h.elim, fun _ _ _ _ _ h => h.elim⟩
 | n + 1 => by
  obtain ⟨ihL, ihG⟩ := tv hC hpl hm hn hs1 n
  have hE : j0 (dv P pl C code kp nt n0 n) pl := ⟨fun o ρ rd fresh _ h => mf (env := qkk P C) ⟨qa8 P, hC, hpl⟩ o ρ rd fresh h, uk⟩
  refine ⟨fun p hp s K h => ?_, fun c hc l s K h => ?_⟩
  ·have hp' : (p.1, p.2) ∈ aj 0 code := hp
   have h' : qjl (dv P pl C code kp nt n0 n) pl code (o3 P pl C code kp nt n0 n).1 p.1 s K := h
   unfold qjl at h'
   rw [ss hn hp'] at h'
   simp only [qh1] at h'
   obtain ⟨ex, s1, h1, h2'⟩ := ei hE hm p.2 p.1 (fun q hq => ihL q (m0 hp' q hq)) (fun q hq => ihG q (uu hp q hq)) _ _ h'
   have h2 : ∀ (D : List Deferred) (c0 : Cx) (a : Act), SR nt D s c0 a → p.2.wp P (xa D (dv P pl C code kp nt n0 n) s1 ex c0 (bg s.hp)) a c0.w := fun D c0 a hs => h2' D c0 a (vu hs)
   have other : (ex ≠ .normal) → K ex s1 → ∃ n ex s', K ex s' ∧ ∀ (D : List Deferred) (c0 : Cx) (a : Act), SR nt D s c0 a → Code.rounds P p.2 (xa D (dv P pl C code kp nt n0 n) s' ex c0 (bg s.hp)) n a c0.w := fun hne hk => by
    refine ⟨1, ex, s1, hk, fun D c0 a hs => ?_⟩
    rw [rounds_succ]
    refine wp_mono (h2 D c0 a hs) fun e a' w' he => ?_
    have e1 := he.1
    cases ex with
    | normal => exact absurd rfl hne
    | _ => subst e1; exact he
   cases ex with
   | normal =>
    obtain ⟨m, ex2, s2, h3, h4⟩ := ihL p hp _ K h1
    refine ⟨m + 1, ex2, s2, h3, fun D c0 a hs => ?_⟩
    rw [rounds_succ]
    refine wp_mono (h2 D c0 a hs) fun e a' w' he => ?_
    obtain ⟨rfl, c', rfl, hs', hk⟩ := he
    exact jm (fun _ _ _ hp => hp.mono hk) (h4 D c' a' hs')
   | exit id => exact other (fun e => by cases e) h1
   | ret => exact other (fun e => by cases e) h1
   | goto l => exact other (fun e => by cases e) h1
  ·have h' : qje (dv P pl C code kp nt n0 n) pl code (o3 P pl C code kp nt n0 n).2 l s K := h
   unfold qje at h'
   split at h'
   ·rename_i c1 htop
    obtain ⟨t1, t2, t3⟩ := y9 (a := 0) htop
    have hnil : av c1 = [] := List.eq_nil_of_length_eq_zero (by simp only [List.length_cons] at t2; omega)
    have : c = c1 := by
     have hl : (av code).length = 1 := by simp only [List.length_cons] at t2; omega
     obtain ⟨x, hx⟩ := List.length_eq_one_iff.1 hl
     rw [hx] at hc t3
     simp at hc t3
     rw [hc, t3]
    subst this
    split at h'
    ·rename_i rest hrest
     simp only [qh1] at h'
     obtain ⟨ex, s1, h1, h2'⟩ := ei hE hm rest 0 (fun q hq => ihL q (t1 q (ud hrest q hq))) (fun q hq => by have := r7 hrest q hq; rw [hnil] at this; cases this) _ _ h'
     have h2 : ∀ (D : List Deferred) (c0 : Cx) (a : Act), SR nt D s c0 a → rest.wp P (xa D (dv P pl C code kp nt n0 n) s1 ex c0 (bg s.hp)) a c0.w := fun D c0 a hs => h2' D c0 a (vu hs)
     have other : (∀ l, ex ≠ .goto l) → K ex s1 → ∃ n ex s', K ex s' ∧ ∀ (D : List Deferred) (c0 : Cx) (a : Act), SR nt D s c0 a → jumps P c (xa D (dv P pl C code kp nt n0 n) s' ex c0 (bg s.hp)) n l a c0.w := fun hne hk => by
      refine ⟨1, ex, s1, hk, fun D c0 a hs => ⟨rest, hrest, wp_mono (h2 D c0 a hs) fun e a' w' he => ?_⟩⟩
      have e1 := he.1
      cases ex with
      | goto l => exact absurd rfl (hne l)
      | _ => subst e1; exact he
     cases ex with
     | goto l' =>
      obtain ⟨m, ex2, s2, h3, h4⟩ := ihG c hc l' _ K h1
      refine ⟨m + 1, ex2, s2, h3, fun D c0 a hs => ⟨rest, hrest, wp_mono (h2 D c0 a hs) fun e a' w' he => ?_⟩⟩
      obtain ⟨rfl, c', rfl, hs', hk⟩ := he
      exact nw (fun _ _ _ hp => hp.mono hk) (h4 D c' a' hs')
     | normal => exact other (fun _ e => by cases e) h1
     | exit id => exact other (fun _ e => by cases e) h1
     | ret => exact other (fun _ e => by cases e) h1
    ·exact h'.elim
   ·exact h'.elim
def qkn (env : Env) (soft : Bool) (res : List ResultVar) (s : St) (K : AV → List AO → Prop) : Prop :=
 jk env s res fun vs =>
  let v := c8 vs
  let v' := match soft with | true => z8 (df s.hp) v | false => v
  let h := match soft with | true => gm s.hp (i1 v) | false => s.hp
  let L := reach (df h) 1000 (jw (df h) (upto env.n0) ++ j4 v') (upto env.n0)
  match nodup L && ga env.n0 L 0 && fw h.length L with
  | true => K (gr (place L) v') (dy (place L) (pick h L))
  | false => False
theorem tc {env : Env} {soft : Bool} {fn : Func} {s : St} {K : AV → List AO → Prop} (h : qkn env soft fn.results.toList s K) :
  ∃ r h', K r h' ∧ ∀ D c a, SR env.nt D s c a → ∃ v c', c'.w = c.w ∧ (results fn a.tmps).run env.P c.w = .ok v c.w ∧ V c' r v ∧ HRl c' h' ∧ Kept env.n0 c (bg s.hp) c' (bg h') ∧ env.n0 ≤ h'.length := by
 unfold qkn at h
 obtain ⟨vs, h1, h2⟩ := jl h
 cases soft with
 | false =>
  refine pn (v' := c8 vs) (hh := s.hp) (fun D c a hs => ?_) h1
  obtain ⟨v, h3, h4⟩ := h2 D c a hs
  exact ⟨v, c, rfl, h3, h4, hs.hp, Kept.refl _ _ _⟩
 | true =>
  refine pn (v' := z8 (df s.hp) (c8 vs)) (hh := gm s.hp (i1 (c8 vs))) (fun D c a hs => ?_) h1
  obtain ⟨v, h3, h4⟩ := h2 D c a hs
  obtain ⟨k1, k2⟩ := qdd hs.hp.hr (i1 (c8 vs))
  refine ⟨v, j3 c s.hp (i1 (c8 vs)), rfl, h3, qff hs.hp.hr h4, ⟨k1, fun i => ?_⟩, Kept.m7 (gn c _ _) k2⟩
  rw [fx]
  exact hs.hp.born i
def qfu (env : Env) (plain : bf) (soft : Bool) (fn : Func) (code : Code) (args : List AV) (h : List AO) (K : AV → List AO → Prop) : Prop :=
 match Nat.beq fn.ntmps env.nt && Nat.ble args.length fn.ntmps && Nat.beq h.length env.n0 with
 | true => exec env plain 0 code ⟨number 0 args, h⟩ fun e s => match e with
  | .normal => qkn env soft fn.results.toList s K
  | .ret => qkn env soft fn.results.toList s K
  | _ => False
 | false => False
theorem qj3 {env : Env} {f : FuncId} {fn : Func} (hf : cz env.P f fn) {code : Code} (hcode : fn.body = some code) {args : List AV} {hp : List AO} {ex : Ex} {s' : St} {r : AV} {h' : List AO}
  (e1 : fn.ntmps = env.nt) (e2 : args.length ≤ fn.ntmps) (e3 : hp.length = env.n0) (hg : qnf env code ⟨number 0 args, hp⟩ ex s') (hex : ex = .normal ∨ ex = .ret)
  (hret : ∀ D c a, SR env.nt D s' c a → ∃ v c', c'.w = c.w ∧ (results fn a.tmps).run env.P c.w = .ok v c.w ∧ V c' r v ∧ HRl c' h' ∧ Kept env.n0 c (bg s'.hp) c' (bg h') ∧ env.n0 ≤ h'.length) : ct env.P f args hp r h' := by
 refine fun c vals o a next Q hv hr hnext => ?_
 have hrun : (callFunc f vals).run env.P c.w = .ok (.enter f vals) c.w := by
  simp [callFunc, hf.at_, hf.ne, hcode]
 rw [hrun, Oper.upon_enter]
 have hvl : vals.size = args.length := by simpa using hv.length
 refine calls_of_wp hf.at_ hcode ?_
 refine wp_mono (hg [] c { tmps := vals ++ Array.replicate (fn.ntmps - vals.size) undef, defers := [] } ⟨fun t => ?_, hr, by simp; omega, rfl⟩) fun e a' w' he => ?_
 ·have := ib args 0 t
  rw [Nat.zero_add] at this
  rw [this]
  cases ha : args[t]? with
  | none => simp [V]
  | some x =>
   obtain ⟨u, h6, h7⟩ := hv.get t x ha
   have hlt : t < vals.size := by
    have := (List.getElem?_eq_some_iff.1 h6).1
    simpa using this
   have h8 : vals[t]? = some u := by simpa using h6
   have h9 : (vals ++ Array.replicate (fn.ntmps - vals.size) undef).getD t undef = u := by
    simp only [Array.getD_eq_getD_getElem?]
    rw [Array.getElem?_append_left hlt, h8]
    rfl
   show V c ((some x).getD .undef) _
   rw [h9]
   exact h7
 ·obtain ⟨e4, c', rfl, hs', hk'⟩ := he
  obtain ⟨v, c2, h6, h7, h8, h9, h10, h11⟩ := hret [] c' a' hs'
  have hpost : bodyPost env.P fn (fun e w'' => match e with
    | .returned v => next (a.put o.dst v) w''
    | .panicked chain => Q (.panic chain) a w''
    | .outgrown => LetsOut Q) e a' c'.w := by
   have hK := hk'.trans h10
   have hnx : next (a.put o.dst v) c'.w := by
    rw [← h6]
    refine hnext v c2 h8 h9 hK.fr (by rw [e3]; exact h11) fun i hi => ?_
    exact (hK.β i (by rw [← e3]; exact hi) ((hr.born i).2 hi)).2
   rcases hex with rfl | rfl
   ·subst e4
    exact ⟨hs'.defers, v, h7, hnx⟩
   ·subst e4
    exact ⟨hs'.defers, v, h7, hnx⟩
  exact hpost
theorem pz {env : Env} {plain : bf} (hE : j0 env plain) (hm : env.P.follows .mixedOrders = true) {f : FuncId} {fn : Func} (hf : cz env.P f fn) {code : Code} (hcode : fn.body = some code)
  (hl : ∀ p ∈ aj 0 code, dt env p.2 (env.L p.1)) (hG : ∀ c ∈ av code, oe env c env.G) (soft : Bool) {args : List AV} {hp : List AO} {K : AV → List AO → Prop} (hb : qfu env plain soft fn code args hp K) : ∃ r h', K r h' ∧ ct env.P f args hp r h' := by
 unfold qfu at hb
 split at hb
 ·rename_i hchk
  simp only [Bool.and_eq_true] at hchk
  obtain ⟨⟨h1, h2⟩, h3⟩ := hchk
  obtain ⟨ex, s', h4, h5⟩ := ei hE hm code 0 hl hG _ _ hb
  have key : (ex = .normal ∨ ex = .ret) → qkn env soft fn.results.toList s' K → ∃ r h', K r h' ∧ ct env.P f args hp r h' := fun hex hk => by
   obtain ⟨r, h', h6, h7⟩ := tc hk
   exact ⟨r, h', h6, qj3 hf hcode (Nat.eq_of_beq_eq_true h1) (Nat.le_of_ble_eq_true h2) (Nat.eq_of_beq_eq_true h3) h5 hex h7⟩
  cases ex with
  | normal => exact key (.inl rfl) h4
  | ret => exact key (.inr rfl) h4
  | exit id => exact h4.elim
  | goto l => exact h4.elim
 ·exact hb.elim
structure za (P : Program) where
 f : FuncId
 run : bb → bb
 ok : ∀ fb, ah P f fb → ah P f (run fb)
def qga {P : Program} (f : FuncId) : List (za P) → Option (bb → bb)
 | [] => none
 | e :: r => match Nat.beq e.f f with | true => some e.run | false => qga f r
theorem z6 {P : Program} {f : FuncId} : ∀ {l : List (za P)} {c : bb → bb}, qga f l = some c → ∀ fb, ah P f fb → ah P f (c fb)
 | [], _, h => by cases h
 | e :: r, c, h => by
  simp only [qga] at h
  split at h
  ·rename_i hb
   injection h with h
   have := Nat.eq_of_beq_eq_true hb
   subst this h
   exact e.ok
  ·exact z6 h
end
end Go.RX
namespace Go.RX
def qj (o : Oper) : Bool := match o.op with
 | .call cl => match cl.callee with
  | .builtin .recover => true
  | _ => false
 | _ => false
def q7 (env : Env) : List Oper → St → (St → Prop) → Prop
 | [], s, K => K s
 | o :: os, s, K => match o.guard, rv env.nt o.dst with
  | none, true => match qj o with
   | true => q7 env os ⟨(s.put o.dst (.p .nili)).sl, s.hp⟩ K
   | false => env.S o (j1 s.sl) (df s.hp) s.hp.length fun v wr => match qcf s.hp.length wr with
    | true => q7 env os ⟨(s.put o.dst v).sl, dg s.hp wr⟩ K
    | false => False
  | _, _ => False
def nq (env : Env) : Code → St → (Ex → St → Prop) → Prop
 | .skip, s, K => K .normal s
 | .region _ ops false, s, K => q7 env ops.toList s fun s' => K .normal s'
 | .seq x y, s, K => nq env x s fun e s' => match e with
  | .normal => nq env y s' K
  | .ret => K .ret s'
  | _ => False
 | .cond c x y, s, K => vc (j1 s.sl c) fun t => match t with
  | true => nq env x s K
  | false => nq env y s K
 | .ret, s, K => K .ret s
 | _, _, _ => False
def uo (env : Env) : List Oper → St → (St → Prop) → Prop
 | [], s, K => K s
 | o :: os, s, K => match o.guard, rv env.nt o.dst with
  | none, true => env.S o (j1 s.sl) (df s.hp) s.hp.length fun v wr => match qcf s.hp.length wr with
    | true => uo env os ⟨(s.put o.dst v).sl, dg s.hp wr⟩ K
    | false => False
  | _, _ => False
section
variable {env : Env} {plain : bf}
theorem na (hE : j0 env plain) (ops : Array Oper) (n0 : Nat) : ∀ (os pre post : List Oper), ops.toList = pre ++ (os ++ post) → ∀ (s : St) (K : St → Prop), uo env os s K →
  ∃ s', K s' ∧ ∀ (D : List Deferred) (c : Cx) (a : Act) (Q : Exit → Act → World → Prop) (l : List Nat), SR env.nt D s c a →
   (∀ c' a', SR env.nt D s' c' a' → Kept n0 c (bg s.hp) c' (bg s'.hp) → wpOps env.P ops Q l a' c'.w) → wpOps env.P ops Q (List.range' pre.length os.length ++ l) a c.w
 | [], pre, post, _, s, K, h => ⟨s, h, fun D c a Q l hs hq => by simpa using hq c a hs (Kept.refl n0 c _)⟩
 | o :: os, pre, post, hops, s, K, h => by
  simp only [uo] at h
  split at h
  ·rename_i hg hd
   have ho : ops[pre.length]? = some o := by
    rw [← Array.getElem?_toList, hops]
    simp
   have hops' : ops.toList = (pre ++ [o]) ++ (os ++ post) := by simpa using hops
   have hlen : (pre ++ [o]).length = pre.length + 1 := by simp
   obtain ⟨v, wr, h2, h3⟩ := hE.S o _ _ _ h
   split at h2
   ·rename_i hok
    obtain ⟨s', h4, h5⟩ := na hE ops n0 os (pre ++ [o]) post hops' _ K h2
    refine ⟨s', h4, fun D c a Q l hs hq => ?_⟩
    rw [List.length_cons, List.range'_succ, List.cons_append]
    simp only [wpOps, ho]
    rw [gw hg]
    simp only [if_true]
    refine .inl (h3 c (bg s.hp) a _ Q (fun x _ => ka hs.sl x) (fun i hi => gl hi) (fun i hi _ hb => ?_) hs.hr fun u c' hu hr he hf hb => ?_)
    ·have := (hs.hp.born i).1 hb
     omega
    ·obtain ⟨k1, k2⟩ := tk (n0 := n0) hd hok hs hu hr he hf hb
     rw [← hlen]
     exact h5 D c' _ Q l k1 fun c2 a2 hs2 hk2 => hq c2 a2 hs2 (Kept.trans k2 hk2)
   ·exact h2.elim
  ·exact h.elim
theorem yq {P : Program} {o : Oper} (h : qj o = true) (a : Act) (w : World) : (execOp a.eval o).run P w = .ok .recover w := by
 obtain ⟨dst, op, ty, pos, after, guard⟩ := o
 unfold qj at h
 simp only at h
 split at h
 ·rename_i cl
  split at h
  ·rename_i hc
   obtain ⟨callee, args, ats⟩ := cl
   simp only at hc
   subst hc
   simp [execOp, resolve, invoke, builtin]
  ·cases h
 ·cases h
theorem jq (hE : j0 env plain) (ops : Array Oper) (n0 : Nat) : ∀ (os pre : List Oper), ops.toList = pre ++ os → ∀ (s : St) (K : St → Prop), q7 env os s K →
  ∃ s', K s' ∧ ∀ (D : List Deferred) (c : Cx) (a : Act) (cs : List Frame) (Q : Exit → Act → List Frame → World → Prop), recoverD cs = none → SR env.nt D s c a →
   (∀ c' a', SR env.nt D s' c' a' → Kept n0 c (bg s.hp) c' (bg s'.hp) → Q .normal a' cs c'.w) → wpOpsS env.P ops Q (List.range' pre.length os.length) a cs c.w
 | [], pre, _, s, K, h => ⟨s, h, fun D c a cs Q _ hs hq => by simpa [wpOpsS] using hq c a hs (Kept.refl n0 c _)⟩
 | o :: os, pre, hops, s, K, h => by
  simp only [q7] at h
  split at h
  ·rename_i hg hd
   have ho : ops[pre.length]? = some o := by
    rw [← Array.getElem?_toList, hops]
    simp
   have hops' : ops.toList = (pre ++ [o]) ++ os := by simpa using hops
   have hlen : (pre ++ [o]).length = pre.length + 1 := by simp
   split at h
   ·rename_i hrec
    obtain ⟨s', h4, h5⟩ := jq hE ops n0 os (pre ++ [o]) hops' _ K h
    refine ⟨s', h4, fun D c a cs Q hcs hs hq => ?_⟩
    rw [List.length_cons, List.range'_succ]
    simp only [wpOpsS, ho]
    rw [gw hg]
    simp only [if_true, yq hrec, hcs]
    rw [← hlen]
    exact h5 D c _ cs Q hcs ⟨qfg hd hs.size hs.sl (v := .p .nili) (by simp [V, RoC]), hs.hp, by rw [lk]; exact hs.size, by rw [put_defers]; exact hs.defers⟩ fun c2 a2 hs2 hk2 => hq c2 a2 hs2 hk2
   ·obtain ⟨v, wr, h2, h3⟩ := hE.S o _ _ _ h
    split at h2
    ·rename_i hok
     obtain ⟨s', h4, h5⟩ := jq hE ops n0 os (pre ++ [o]) hops' _ K h2
     refine ⟨s', h4, fun D c a cs Q hcs hs hq => ?_⟩
     rw [List.length_cons, List.range'_succ]
     simp only [wpOpsS, ho]
     rw [gw hg]
     simp only [if_true]
     have hw := h3 c (bg s.hp) a (fun a' w' => wpOpsS env.P ops Q (List.range' (pre.length + 1) os.length) a' cs w') (fun e a' w' => Q e a' cs w') (fun x _ => ka hs.sl x) (fun i hi => gl hi) (fun i hi _ hb => by
      have := (hs.hp.born i).1 hb
      omega) hs.hr fun u c' hu hr he hf hb => by
       obtain ⟨k1, k2⟩ := tk (n0 := n0) hd hok hs hu hr he hf hb
       rw [← hlen]
       exact h5 D c' _ cs Q hcs k1 fun c2 a2 hs2 hk2 => hq c2 a2 hs2 (Kept.trans k2 hk2)
     unfold Oper.wp at hw
     revert hw
     generalize (execOp a.eval o).run env.P c.w = r
     intro hw
     split
     ·exact hw.elim
     ·exact hw
    ·exact h2.elim
  ·exact h.elim
theorem pt {P : Program} {c : Code} {Q Q' : Exit → Act → List Frame → World → Prop} {a : Act} {cs : List Frame} {w : World} (h : c.wpS P Q a cs w) (hq : ∀ e a cs w, Q e a cs w → Q' e a cs w) : c.wpS P Q' a cs w :=
 fun b k h1 h2 => let ⟨e, a', cs', w', q, r⟩ := h b k h1 h2; ⟨e, a', cs', w', hq _ _ _ _ q, r⟩
def qkq (D : List Deferred) (env : Env) (s' : St) (ex : Ex) (c0 : Cx) (h0 : HP) (cs : List Frame) : Exit → Act → List Frame → World → Prop := fun e a cs' w => cs' = cs ∧ xa D env s' ex c0 h0 e a w
def qng (env : Env) (code : Code) (s : St) (ex : Ex) (s' : St) : Prop :=
 ∀ (D : List Deferred) (c : Cx) (a : Act) (cs : List Frame), recoverD cs = none → SR env.nt D s c a → code.wpS env.P (qkq D env s' ex c (bg s.hp) cs) a cs c.w
theorem xw (hE : j0 env plain) : ∀ (code : Code) (s : St) (K : Ex → St → Prop), nq env code s K → ∃ ex s', K ex s' ∧ (ex = .normal ∨ ex = .ret) ∧ qng env code s ex s' := by
 intro code
 induction code with
 | skip =>
  intro s K h
  simp only [nq] at h
  exact ⟨.normal, s, h, .inl rfl, fun D c a cs _ hs => wpS_of_wp (wp_skip ⟨rfl, rfl, c, rfl, hs, Kept.refl _ _ _⟩)⟩
 | ret =>
  intro s K h
  simp only [nq] at h
  exact ⟨.ret, s, h, .inr rfl, fun D c a cs _ hs => wpS_of_wp (wp_ret ⟨rfl, rfl, c, rfl, hs, Kept.refl _ _ _⟩)⟩
 | region id ops draw =>
  intro s K h
  cases draw with
  | true => simp only [nq] at h
  | false =>
   simp only [nq] at h
   obtain ⟨s', h1, h2⟩ := jq hE ops env.n0 ops.toList [] rfl s _ h
   refine ⟨.normal, s', h1, .inl rfl, fun D c a cs hcs hs => wpS_region ?_⟩
   have := h2 D c a cs (qkq D env s' .normal c (bg s.hp) cs) hcs hs fun c' a' hs' hk => ⟨rfl, rfl, c', rfl, hs', hk⟩
   rw [List.range_eq_range', ← Array.length_toList]
   exact this
 | seq x y ihx ihy =>
  intro s K h
  simp only [nq] at h
  obtain ⟨ex, s1, h1, hex, h2⟩ := ihx s _ h
  rcases hex with rfl | rfl
  ·obtain ⟨ex2, s2, h3, hex2, h4⟩ := ihy s1 K h1
   refine ⟨ex2, s2, h3, hex2, fun D c a cs hcs hs => wpS_seq (pt (h2 D c a cs hcs hs) fun e a' cs' w' he => ?_)⟩
   obtain ⟨rfl, rfl, c', rfl, hs', hk⟩ := he
   exact pt (h4 D c' a' cs' hcs hs') fun _ _ _ _ hp => ⟨hp.1, hp.2.mono hk⟩
  ·refine ⟨.ret, s1, h1, .inr rfl, fun D c a cs hcs hs => wpS_seq (pt (h2 D c a cs hcs hs) fun e a' cs' w' he => ?_)⟩
   obtain ⟨e1, e2, r⟩ := he
   subst e2
   exact ⟨e1, rfl, r⟩
 | cond c x y ihx ihy =>
  intro s K h
  simp only [nq] at h
  obtain ⟨t, ht, h1⟩ := j8 h
  cases t with
  | true =>
   obtain ⟨ex, s', h2, hex, h3⟩ := ihx s K h1
   refine ⟨ex, s', h2, hex, fun D cx a cs hcs hs => ?_⟩
   have hb := mh (by have := ka hs.sl c; rw [ht] at this; exact this)
   exact wpS_cond hb (h3 D cx a cs hcs hs)
  | false =>
   obtain ⟨ex, s', h2, hex, h3⟩ := ihy s K h1
   refine ⟨ex, s', h2, hex, fun D cx a cs hcs hs => ?_⟩
   have hb := mh (by have := ka hs.sl c; rw [ht] at this; exact this)
   exact wpS_cond hb (h3 D cx a cs hcs hs)
 | _ =>
  intro s K h
  simp only [nq] at h
theorem Kept.le {m n : Nat} {c c' : Cx} {h h' : HP} (hmn : m ≤ n) (k : Kept n c h c' h') : Kept m c h c' h' := ⟨k.fr, fun i hi hb => k.β i (Nat.lt_of_lt_of_le hi hmn) hb⟩
theorem Kept.ext {n : Nat} {c c' : Cx} {h h' : HP} (hh : HR c h) (hb : ∀ i, c.born i → i < n) (k : Kept n c h c' h') : Ext c c' :=
 ⟨fun i hi => (k.β i (hb i hi) hi).1, fun i hi => (k.β i (hb i hi) hi).2, k.fr.mono, fun b hI => k.fr.keep b (hh.bound b hI) fun i hl hbl => hh.apart i b hl hbl hI, k.fr.base⟩
def fq (n : Nat) : List AV → Bool
 | [] => true
 | .ptr i _ :: r => match Nat.blt i n with | true => fq n r | false => false
 | _ => false
theorem zf {n : Nat} {c c' : Cx} (hk : ∀ i, i < n → c.born i → c'.born i ∧ c'.β i = c.β i) : ∀ {l : List AV} {vs : List Value}, fq n l = true → Vs c l vs → Vs c' l vs
 | [], _, _, h => h
 | .ptr i o :: r, vs, ha, h => by
  simp only [fq] at ha
  split at ha
  ·rename_i hb
   simp only [Vs, V] at h ⊢
   obtain ⟨y, ys, rfl, ⟨h1, b, h2, h3⟩, h4⟩ := h
   obtain ⟨q1, q2⟩ := hk i (du hb) h1
   exact ⟨y, ys, rfl, ⟨q1, b, q2.trans h2, h3⟩, zf hk ha h4⟩
  ·cases ha
 | .undef :: _, _, ha, _ => by simp [fq] at ha
 | .p _ :: _, _, ha, _ => by simp [fq] at ha
 | .eptr _ _ _ :: _, _, ha, _ => by simp [fq] at ha
 | .rop _ :: _, _, ha, _ => by simp [fq] at ha
 | .row _ :: _, _, ha, _ => by simp [fq] at ha
 | .map _ :: _, _, ha, _ => by simp [fq] at ha
 | .iter _ :: _, _, ha, _ => by simp [fq] at ha
 | .sub _ _ :: _, _, ha, _ => by simp [fq] at ha
 | .func _ _ _ :: _, _, ha, _ => by simp [fq] at ha
 | .agg _ :: _, _, ha, _ => by simp [fq] at ha
 | .tup _ :: _, _, ha, _ => by simp [fq] at ha
 | .iface _ _ :: _, _, ha, _ => by simp [fq] at ha
def tx (o : Oper) : Option Tmp := match o.op, o.guard, o.dst with
 | .defer cl, none, none => match cl.callee, cl.args.toList with
  | .value (.tmp t), [] => some t
  | _, _ => none
 | _, _, _ => none
def yc : List Oper → List Oper
 | [] => []
 | [_] => []
 | o :: r => o :: yc r
def qdj : List Oper → Option Oper
 | [] => none
 | [o] => some o
 | _ :: r => qdj r
theorem vr : ∀ {l : List Oper} {o : Oper}, qdj l = some o → l = yc l ++ [o]
 | [], _, h => by cases h
 | [x], o, h => by simp [qdj] at h; simp [yc, h]
 | x :: y :: r, o, h => by
  simp only [qdj, yc] at h ⊢
  rw [List.cons_append, ← vr (l := y :: r) h]
end
structure Sp where
 x : Code
 id : Nat
 ops : Array Oper
 t : Tmp
 rest : Code
def qa2 : Code → Option Sp
 | .seq x (.seq (.region id ops false) rest) => match qdj ops.toList with
  | some o => match tx o with
   | some t => some ⟨x, id, ops, t, rest⟩
   | none => none
  | none => none
 | _ => none
def qix (env : Env) (envR : Nat → Env) (envG : Nat → Nat → Env) (plain : bf) (soft : Bool) (fn : Func) (sp : Sp) (gf : FuncId → Option Func) (args : List AV) (h : List AO) (K : AV → List AO → Prop) : Prop :=
 match Nat.beq fn.ntmps env.nt && Nat.ble args.length fn.ntmps && Nat.beq h.length env.n0 with
 | true => exec env plain 0 sp.x ⟨number 0 args, h⟩ fun e s1 => match e with
  | .normal => uo env (yc sp.ops.toList) s1 fun s2 => match Nat.ble env.n0 s2.hp.length, bj s2.sl sp.t with
   | true, .func (.func g) first captured => match gf g, fq s2.hp.length (first ++ captured) with
    | some gfn, true => match gfn.body, gfn.results.toList, Nat.ble (first ++ captured).length gfn.ntmps with
     | some gcode, [], true => exec (envR s2.hp.length) plain 0 sp.rest s2 fun e s3 => match e with
      | .ret => nq (envG gfn.ntmps s3.hp.length) gcode ⟨number 0 (first ++ captured), s3.hp⟩ fun _ s4 => qkn env soft fn.results.toList ⟨s3.sl, s4.hp⟩ K
      | _ => False
     | _, _, _ => False
    | _, _ => False
   | _, _ => False
  | _ => False
 | false => False
theorem qam {c : Cx} {args : List AV} {vals : Array Value} (hv : Vs c args vals.toList) (k : Nat) (t : Nat) : V c (bj (number 0 args) t) ((vals ++ Array.replicate k undef).getD t undef) := by
 have := ib args 0 t
 rw [Nat.zero_add] at this
 rw [this]
 cases ha : args[t]? with
 | none => simp [V]
 | some x =>
  obtain ⟨u, h6, h7⟩ := hv.get t x ha
  have hlt : t < vals.size := by
   have := (List.getElem?_eq_some_iff.1 h6).1
   simpa using this
  have h8 : vals[t]? = some u := by simpa using h6
  have h9 : (vals ++ Array.replicate k undef).getD t undef = u := by
   simp only [Array.getD_eq_getD_getElem?]
   rw [Array.getElem?_append_left hlt, h8]
   rfl
  show V c ((some x).getD .undef) _
  rw [h9]
  exact h7
theorem xp {o : Oper} {t : Tmp} (h : tx o = some t) : ∃ ats ty pos after, o = ⟨none, .defer ⟨.value (.tmp t), #[], ats⟩, ty, pos, after, none⟩ := by
 obtain ⟨dst, op, ty, pos, after, guard⟩ := o
 unfold tx at h
 simp only at h
 split at h
 ·rename_i cl
  split at h
  ·rename_i t' hc ha
   injection h with h
   obtain ⟨callee, args, ats⟩ := cl
   simp only at hc ha
   have : args = #[] := Array.toList_inj.1 ha
   subst hc this h
   exact ⟨ats, ty, pos, after, rfl⟩
  ·cases h
 ·cases h
theorem qb8 {code : Code} {sp : Sp} (h : qa2 code = some sp) : ∃ o, code = .seq sp.x (.seq (.region sp.id sp.ops false) sp.rest) ∧ sp.ops.toList = yc sp.ops.toList ++ [o] ∧ tx o = some sp.t := by
 unfold qa2 at h
 split at h
 ·rename_i x id ops rest
  split at h
  ·rename_i o hl
   split at h
   ·rename_i t ht
    injection h with h
    subst h
    exact ⟨o, rfl, vr hl, ht⟩
   ·cases h
  ·cases h
 ·cases h
set_option maxHeartbeats 2000000 in
theorem xk {P : Program} {pl : bf} {C : FuncId → bb} {code : Code} {kp : List Nat} {nt n0 n : Nat} (hC : ∀ f, ah P f (C f)) (hpl : fl P pl) (hm : P.follows .mixedOrders = true)
  (hnm : ∀ (f : FuncId) (fn : Func), P.funcs[f]? = some fn → (fn.name == "runtime.NumGoroutine") = false) (hn : (keys (aj 0 code)).Nodup) (hs1 : (av code).length ≤ 1)
  {f : FuncId} {fn : Func} (hf : cz P f fn) (hcode : fn.body = some code) (soft : Bool) {sp : Sp} (hsp : qa2 code = some sp) {args : List AV} {hp : List AO} {K : AV → List AO → Prop}
  (hb : qix (dv P pl C code kp nt n0 n) (fun m => dv P pl C code kp nt m n) (fun nt m => dv P pl C .skip [] nt m 0) pl soft fn sp (fun g => P.funcs[g]?) args hp K) : ∃ r h', K r h' ∧ ct P f args hp r h' := by
 obtain ⟨o, ec, eo, hdo⟩ := qb8 hsp
 obtain ⟨ats, ty, pos, after, rfl⟩ := xp hdo
 have hE : ∀ {code : Code} {kp : List Nat} {nt n0 n : Nat}, j0 (dv P pl C code kp nt n0 n) pl := ⟨fun o ρ rd fresh _ h => mf (env := qkk P C) ⟨qa8 P, hC, hpl⟩ o ρ rd fresh h, uk⟩
 have hLG := fun m => tv (kp := kp) (nt := nt) (n0 := m) hC hpl hm hn hs1 n
 have lx : ∀ p ∈ aj 0 sp.x, p ∈ aj 0 code := fun p hp => by rw [ec]; simp only [aj, List.mem_append]; exact .inl hp
 have lr : ∀ p ∈ aj 0 sp.rest, p ∈ aj 0 code := fun p hp => by rw [ec]; simp only [aj, List.mem_append]; exact .inr (.inr hp)
 have sx : ∀ p ∈ av sp.x, p ∈ av code := fun p hp => by rw [ec]; simp only [av, List.mem_append]; exact .inl hp
 have sr : ∀ p ∈ av sp.rest, p ∈ av code := fun p hp => by rw [ec]; simp only [av, List.mem_append]; exact .inr (.inr hp)
 unfold qix at hb
 generalize yc sp.ops.toList = il at hb eo
 split at hb
 ·rename_i hchk
  simp only [Bool.and_eq_true] at hchk
  obtain ⟨⟨c1, c2⟩, c3⟩ := hchk
  have q1 : fn.ntmps = nt := Nat.eq_of_beq_eq_true c1
  have q2 := Nat.le_of_ble_eq_true c2
  have q3 : hp.length = n0 := Nat.eq_of_beq_eq_true c3
  obtain ⟨ex1, s1, h1, g1⟩ := ei hE hm sp.x 0 (fun p hp => (hLG n0).1 p (lx p hp)) (fun p hp => (hLG n0).2 p (sx p hp)) _ _ hb
  cases ex1 with
  | exit id => exact h1.elim
  | ret => exact h1.elim
  | goto l => exact h1.elim
  | normal =>
  obtain ⟨s2, h2, g2⟩ := na hE sp.ops n0 (il) [] [_] (by simpa using eo) s1 _ h1
  split at h2
  ·rename_i g first captured hle hslot
   have hn2 : n0 ≤ s2.hp.length := Nat.le_of_ble_eq_true hle
   split at h2
   ·rename_i gfn hgf hap
    split at h2
    ·rename_i gcode hgb hgr hga
     have hga' := Nat.le_of_ble_eq_true hga
     obtain ⟨ex3, s3, h3, g3⟩ := ei hE hm sp.rest 0 (fun p hp => (hLG s2.hp.length).1 p (lr p hp)) (fun p hp => (hLG s2.hp.length).2 p (sr p hp)) _ _ h2
     cases ex3 with
     | normal => exact h3.elim
     | exit id => exact h3.elim
     | goto l => exact h3.elim
     | ret =>
     obtain ⟨ex4, s4, h4, hex4, g4⟩ := xw hE gcode _ _ h3
     obtain ⟨r, h', h5, g5⟩ := tc h4
     refine ⟨r, h', h5, fun c vals o a next Q hv hr hnext => ?_⟩
     have hrun : (callFunc f vals).run P c.w = .ok (.enter f vals) c.w := by
      simp [callFunc, hf.at_, hf.ne, hcode]
     rw [hrun, Oper.upon_enter]
     have hvl : vals.size = args.length := by simpa using hv.length
     have hgn : gfn.name ≠ "runtime.NumGoroutine" := by simpa using hnm g gfn hgf
     refine calls_of_wp_defers hf.at_ hcode ?_
     rw [ec]
     refine wp_seq (wp_mono (g1 [] c { tmps := vals ++ Array.replicate (fn.ntmps - vals.size) undef, defers := [] } ⟨fun t => qam hv _ t, hr, by show _ = nt; simp; omega, rfl⟩) fun e1 a1 w1 he1 => ?_)
     obtain ⟨rfl, c1, rfl, hs1', hk1⟩ := he1
     refine wp_seq (wp_region ?_)
     have hsz : List.range sp.ops.size = List.range' 0 (il).length ++ [(il).length] := by
      have : sp.ops.size = il.length + 1 := by
       rw [← Array.length_toList, eo]
       simp
      rw [this, List.range_succ, List.range_eq_range']
     rw [hsz]
     refine g2 [] c1 a1 _ _ hs1' fun c2 a2 hs2 hk2 => ?_
     have hlast : sp.ops[(il).length]? = some ⟨none, .defer ⟨.value (.tmp sp.t), #[], ats⟩, ty, pos, after, none⟩ := by
      rw [← Array.getElem?_toList, eo]
      simp
     have hslotV := hs2.sl sp.t
     rw [hslot] at hslotV
     simp only [V] at hslotV
     obtain ⟨F, G, hcl, hF, hG⟩ := hslotV
     have hdrun : (execOp a2.eval ⟨none, .defer ⟨.value (.tmp sp.t), #[], ats⟩, ty, pos, after, none⟩).run P c2.w = .ok (.defer { target := .fn (.func g) G, args := F ++ #[] }) c2.w := by
      simp [execOp, resolve, Act.eval, hcl, Deferred.ofValue]
     simp only [wpOps, hlast]
     rw [gw rfl]
     simp only [if_true]
     refine .inl ?_
     unfold Oper.wp
     show Oper.upon P _ a2 _ _ ((execOp a2.eval _).run P c2.w)
     rw [hdrun, Oper.upon_defer]
     show Exit.then _ _ .normal _ _
     simp only [Exit.then]
     refine wp_mono (g3 [{ target := .fn (.func g) G, args := F ++ #[] }] c2 { a2 with defers := [{ target := .fn (.func g) G, args := F ++ #[] }] } ⟨hs2.sl, hs2.hp, hs2.size, rfl⟩ |> fun z => by
      have e0 : ({ a2 with defers := { target := .fn (.func g) G, args := F ++ #[] } :: a2.defers } : Act).put none undef = { a2 with defers := [{ target := .fn (.func g) G, args := F ++ #[] }] } := by
       simp [Act.put, hs2.defers]
      rw [e0]
      exact z) fun e3 a3 w3 he3 => ?_
     obtain ⟨rfl, c3, rfl, hs3, hk3⟩ := he3
     show Leaves P fn a3.tmps _ a3.defers .returning c3.w
     rw [hs3.defers]
     have hFG : Vs c3 (first ++ captured) (F ++ #[] ++ G).toList := by
      have h0 : Vs c2 (first ++ captured) (F ++ #[] ++ G).toList := by
       simpa using Vs.append hF hG
      exact zf (fun i hi hb => hk3.β i hi hb) hap h0
     have hFGs : (F ++ #[] ++ G).size = (first ++ captured).length := by have := hFG.length; simpa using this
     have hinv : (invoke (.fn (.func g) G) (F ++ #[])).run P c3.w = .ok (.enter g (F ++ #[] ++ G)) c3.w := by simp [invoke, callFunc, hgf, hgn, hgb]
     refine leaves_cons (by simp) hinv ?_
     generalize F ++ #[] ++ G = W at hFG hFGs
     have hSR : SR gfn.ntmps [] ⟨number 0 (first ++ captured), s3.hp⟩ c3 { tmps := W ++ Array.replicate (gfn.ntmps - W.size) undef, defers := [] } :=
      ⟨fun t => qam hFG _ t, hs3.hp, by show (W ++ Array.replicate (gfn.ntmps - W.size) undef).size = gfn.ntmps; rw [Array.size_append, Array.size_replicate]; omega, rfl⟩
     refine callsD_of_wpS hgf hgb fun c0 cs hu => ?_
     have hrec : recoverD (c0 :: cs) = none := by simp [recoverD, hu]
     refine pt (g4 [] c3 _ (c0 :: cs) hrec hSR) fun e4 a4 cs4 w4 he4 => ?_
     obtain ⟨rfl, e4', c4, rfl, hs4, hk4⟩ := he4
     obtain ⟨_, _, hresg⟩ := jl (env := dv P pl C .skip [] gfn.ntmps s3.hp.length 0) (s := s4) (fn := gfn) (K := fun _ => True) (by rw [hgr]; trivial)
     obtain ⟨vg, hvg, _⟩ := hresg [] c4 a4 hs4
     have hext : Ext c3 c4 := hk4.ext hs3.hr fun i hi => (hs3.hp.born i).1 hi
     obtain ⟨v, c5, h6, h7, h8, h9, h10, h11⟩ := g5 [] c4 { tmps := a3.tmps, defers := [] } ⟨fun t => V.mono hext _ _ (hs3.sl t), hs4.hp, hs3.size, rfl⟩
     have hfin : Leaves P fn a3.tmps (fun e w'' => match e with
       | .returned v => next (a.put o.dst v) w''
       | .panicked chain => Q (.panic chain) a w''
       | .outgrown => LetsOut Q) [] .returning c4.w := by
      refine ⟨v, h7, ?_⟩
      have hk3' : Kept n0 c2 (bg s2.hp) c3 (bg s3.hp) := Kept.le hn2 hk3
      have hk4' : Kept n0 c3 (bg s3.hp) c4 (bg s4.hp) := ⟨hk4.fr, fun i _ hb => ⟨hext.born i hb, hext.β i hb⟩⟩
      have hK : Kept n0 c (bg hp) c5 (bg h') := (((hk1.trans hk2).trans hk3').trans hk4').trans h10
      show next (a.put o.dst v) c4.w
      rw [← h6]
      exact hnext v c5 h8 h9 hK.fr (by rw [q3]; exact h11) fun i hi => (hK.β i (by rw [← q3]; exact hi) ((hr.born i).2 hi)).2
     have hcs : (c0 :: cs) = ({ c0 with mode := .returning } :: cs : List Frame) := by rw [← hu]
     rcases hex4 with rfl | rfl
     ·subst e4'
      exact ⟨hs4.defers, .returning, hcs, vg, hvg, hfin⟩
     ·subst e4'
      exact ⟨hs4.defers, .returning, hcs, vg, hvg, hfin⟩
    ·exact h2.elim
   ·exact h2.elim
  ·exact h2.elim
 ·exact hb.elim
def qm2 (P : Program) (pl : bf) (soft : FuncId → Bool) (kp : FuncId → List Nat) (C : FuncId → bb) (n : Nat) (f : FuncId) : bb := fun args h K =>
 match P.funcs[f]? with
 | some fn => match fn.body with
  | some code => match nodup (keys (aj 0 code)) && Nat.ble (av code).length 1 with
   | true => xz args fun args => qhx h fun h => match qa2 code with
    | some sp => qix (dv P pl C code (kp f) fn.ntmps h.length n) (fun m => dv P pl C code (kp f) fn.ntmps m n) (fun nt m => dv P pl C .skip [] nt m 0) pl (soft f) fn sp (fun g => P.funcs[g]?) args h fun r h' => fAV r fun r => qhx h' fun h' => K r h'
    | none => qfu (dv P pl C code (kp f) fn.ntmps h.length n) pl (soft f) fn code args h fun r h' => fAV r fun r => qhx h' fun h' => K r h'
   | false => False
  | none => False
 | none => False
theorem qdx {P : Program} {pl : bf} {soft : FuncId → Bool} {kp : FuncId → List Nat} {C : FuncId → bb} {n : Nat} {f : FuncId} (hC : ∀ f, ah P f (C f)) (hpl : fl P pl) (hm : P.follows .mixedOrders = true) (hnm : ∀ (f : FuncId) (fn : Func), P.funcs[f]? = some fn → (fn.name == "runtime.NumGoroutine") = false) :
  ah P f (qm2 P pl soft kp C n f) := by
 intro args h K hk
 unfold qm2 at hk
 split at hk
 ·rename_i fn hfn
  split at hk
  ·rename_i code hcode
   split at hk
   ·rename_i hchk
    simp only [Bool.and_eq_true] at hchk
    simp only [jg, xy, vl] at hk
    have hn := nodup_iff.1 hchk.1
    have hs := Nat.le_of_ble_eq_true hchk.2
    split at hk
    ·rename_i sp hsp
     exact xk hC hpl hm hnm hn hs ⟨hfn, hnm f fn hfn⟩ hcode (soft f) hsp hk
    ·obtain ⟨hL, hG⟩ := tv (kp := kp f) (nt := fn.ntmps) (n0 := h.length) hC hpl hm hn hs n
     exact pz (env := dv P pl C code (kp f) fn.ntmps h.length n) ⟨fun o ρ rd fresh _ h => mf (env := qkk P C) ⟨qa8 P, hC, hpl⟩ o ρ rd fresh h, uk⟩ hm ⟨hfn, hnm f fn hfn⟩ hcode hL hG (soft f) hk
   ·exact hk.elim
  ·exact hk.elim
 ·exact hk.elim
def qk6 (P : Program) (pl : bf) (soft : FuncId → Bool) (kp : FuncId → List Nat) (ext : List (za P)) (n : Nat) : Nat → FuncId → bb
 | 0 => fun _ => m4
 | k + 1 => fun f => match qga f ext with
  | some c => c (qm2 P pl soft kp (qk6 P pl soft kp ext n k) n f)
  | none => qm2 P pl soft kp (qk6 P pl soft kp ext n k) n f
theorem xo {P : Program} {pl : bf} {soft : FuncId → Bool} {kp : FuncId → List Nat} {ext : List (za P)} {n : Nat} (hpl : fl P pl) (hm : P.follows .mixedOrders = true) (hnm : ∀ (f : FuncId) (fn : Func), P.funcs[f]? = some fn → (fn.name == "runtime.NumGoroutine") = false) :
  ∀ k f, ah P f (qk6 P pl soft kp ext n k f)
 | 0, f => m5 P f
 | k + 1, f => by
  unfold qk6
  split
  ·rename_i c hc
   exact z6 hc _ (qdx (xo hpl hm hnm k) hpl hm hnm)
  ·exact qdx (xo hpl hm hnm k) hpl hm hnm
end Go.RX
namespace Go.RX
structure rp where
 args : List AV
 r : AV
 h : List AO
def yf (fb : bb) : List rp → List AV → (AV → List AO → Prop) → Prop
 | [], args, K => fb args [] K
 | k :: l, args, K => match o6 k.args args with
  | true => K k.r k.h
  | false => yf fb l args K
def qh7 (l : List rp) (fb : bb) : bb := fun args h K => match h with
 | [] => yf fb l args K
 | h => fb args h K
theorem ct.le {P : Program} {f : FuncId} {xs ys : List AV} {r : AV} {h : List AO} (hl : o6 xs ys = true) (k : ct P f xs [] r h) : ct P f ys [] r h :=
 fun c vals o a next Q hv hr hn => k c vals o a next Q (jh hl hv) hr hn
theorem ld {P : Program} {f : FuncId} {l : List rp} (hl : ∀ k ∈ l, ct P f k.args [] k.r k.h) : ∀ fb, ah P f fb → ah P f (qh7 l fb) := by
 intro fb hfb args h K hk
 unfold qh7 at hk
 split at hk
 ·induction l with
  | nil => exact hfb _ _ _ hk
  | cons k l ih =>
   simp only [yf] at hk
   split at hk
   ·rename_i hle
    exact ⟨_, _, hk, (hl k List.mem_cons_self).le hle⟩
   ·exact ih (fun x hx => hl x (List.mem_cons_of_mem _ hx)) hk
 ·exact hfb _ _ _ hk
theorem dc {P : Program} {f : FuncId} {C : bb} {args : List AV} {h : List AO} {r : AV} {h' : List AO} (hC : ah P f C) (he : ∀ K : AV → List AO → Prop, C args h K = K r h') : ct P f args h r h' := by
 obtain ⟨r1, h1, ⟨rfl, rfl⟩, h3⟩ := hC args h (fun r1 h1 => r1 = r ∧ h1 = h') (by rw [he]; exact ⟨rfl, rfl⟩)
 exact h3
def qgc : AV → AV
 | .tup (a :: _) => a
 | v => v
end Go.RX
namespace Go.RX
theorem ct.turn {P : Program} {f : FuncId} {args : List AV} {h h' : List AO} {r r' : AV} (hr : ∀ c v, V c r v → V c r' v) (k : ct P f args h r h') : ct P f args h r' h' :=
 fun c vals o a next Q hv hh hn => k c vals o a next Q hv hh fun v c' q1 => hn v c' (hr c' v q1)
theorem qcr {c : Cx} {m : Bool} {n : Nat} {g g' : Nat → PV} {v : Value} (hg : ∀ i, i < n → g' i = g i) (h : V c (.p (.arr m n g)) v) : V c (.p (.arr m n g')) v := by
 simp only [V, RoC] at h ⊢
 obtain ⟨a, cp, h1, h2, h3⟩ := h
 refine ⟨a, cp, h1, h2, fun h0 => ?_⟩
 obtain ⟨b, off, sz, k1, k2, k3, k4, k5⟩ := h3 h0
 exact ⟨b, off, sz, k1, k2, k3, k4, fun i hi => by rw [hg i hi]; exact k5 i hi⟩
def qrj (P : Program) (pl : bf) (nt : Nat) : Env :=
 { P := P, nt := nt, n0 := 0, weak := fun _ => false, weakB := fun _ => false, vw := vwC P, C := fun _ => m4, X := fun _ _ _ => False, S := qke (qkk P fun _ => m4) pl, pre := fun _ s => s, L := fun _ => l4, G := fun _ => l4, lloop := fun _ => [], lexit := fun _ _ => [], lret := [], thaw := fun _ => [], anc := fun _ => [] }
theorem qi9 {P : Program} {pl : bf} (hpl : fl P pl) (nt : Nat) : j0 (qrj P pl nt) pl :=
 ⟨fun o ρ rd fresh _ h => y5 (env := qkk P fun _ => m4) ⟨qa8 P, fun f => m5 P f, hpl⟩ o ρ rd fresh h, fun _ _ _ _ c _ hs => ⟨c, rfl, hs, Kept.refl _ _ _⟩⟩
theorem sf {P : Program} {pl : bf} (hpl : fl P pl) (hm : P.follows .mixedOrders = true) {f : FuncId} {fn : Func} (hf : cz P f fn) {code : Code} (hcode : fn.body = some code) (hl : aj 0 code = []) (hsc : av code = []) {e sz by_ : Nat}
  (h1 : ∀ (m : Bool) (k : Nat) (g : Nat → PV) (K : AV → List AO → Prop), qfu (qrj P pl fn.ntmps) pl true fn code [.p (.arr m (k + 1) g)] [] K =
   ((∀ i, i < k + 1 → cf (g i) = sz) ∧ (([] : List PV).length + ((List.range (k + 1)).map g).length) * by_ ≤ 140737488355328 ∧ K (.p (.arr true (([] : List PV) ++ (List.range (k + 1)).map g).length fun j => (([] : List PV) ++ (List.range (k + 1)).map g).getD j .nilp)) []))
  (h0 : ∀ (w : World) (a : Option Addr) (c : Nat), Calls P f #[.slice a 0 c] w fun e' w' => (e' = .returned (.slice none 0 0) ∧ w' = w) ∨ (e' = .returned (.slice (some ⟨w.heap.size, 0, none⟩) 0 0) ∧ w' = w.alloc (.cells #[] e)))
  (m : Bool) (n : Nat) (g : Nat → PV) (hsz : ∀ i, i < n → cf (g i) = sz) (hn : n * by_ ≤ 140737488355328) : ct P f [.p (.arr m n g)] [] (.p (.arr true n g)) [] := by
 cases n with
 | zero =>
  intro c vals o a next Q hv hh hnext
  simp only [Vs, V, RoC] at hv
  obtain ⟨y, ys, hy, ⟨ad, cp, hy1, _⟩, hys⟩ := hv
  simp at hy1
  subst hy1 hys
  have hvals : vals = #[.slice ad 0 cp] := Array.toList_inj.1 hy
  subst hvals
  have hrun : (callFunc f #[.slice ad 0 cp]).run P c.w = .ok (.enter f #[.slice ad 0 cp]) c.w := by
   simp [callFunc, hf.at_, hf.ne, hcode]
  rw [hrun, Oper.upon_enter]
  refine (h0 c.w ad cp).mono fun e' w' he => ?_
  rcases he with ⟨rfl, rfl⟩ | ⟨rfl, rfl⟩
  ·exact hnext _ c (by simp only [V, RoC]; exact ⟨none, 0, rfl, ⟨Nat.le_refl _, Nat.zero_le _⟩, fun h => absurd h (by omega)⟩) hh (Fr.refl _ _) (Nat.le_refl _) fun _ _ => rfl
  ·have hlive : ∀ i, ¬ Live (bg []) i := fun i ⟨o, h, _⟩ => by simp [bg] at h
   have hnb : ∀ i, ¬ c.born i := fun i hi => by have := (hh.born i).1 hi; simp at this
   refine hnext _ { c with w := c.w.alloc (.cells #[] e) } (by simp only [V, RoC]; exact ⟨_, 0, rfl, ⟨Nat.le_refl _, Nat.zero_le _⟩, fun h => absurd h (by omega)⟩) ⟨⟨fun i o h => by simp [bg] at h, fun i j b hi => absurd hi (hlive i), fun i b hi => absurd hi (hlive i), fun b hb => ?_, fun i b hi => absurd hi (hlive i), fun i b hi => absurd hi (hlive i), ?_⟩, hh.born⟩
    ⟨rfl, rfl, rfl, ?_, fun b hb _ => heap_alloc_old c.w _ b hb, fun _ h => h, fun _ h => .inl h, fun i b hi => absurd hi (hlive i), rfl⟩ (Nat.le_refl _) fun _ _ => rfl
   ·have := hh.hr.bound b hb
    show b < (c.w.alloc _).heap.size
    rw [World.size_alloc]; omega
   ·have := hh.hr.base
    show c.base ≤ (c.w.alloc _).heap.size
    rw [World.size_alloc]; omega
   ·show c.w.heap.size ≤ (c.w.alloc _).heap.size
    rw [World.size_alloc]; omega
 | succ k =>
  obtain ⟨r, h', ⟨e1, e2⟩, h3⟩ := pz (qi9 hpl fn.ntmps) hm hf hcode (by rw [hl]; intro p hp; cases hp) (by rw [hsc]; intro p hp; cases hp) true (args := [.p (.arr m (k + 1) g)]) (hp := []) (K := fun r h' => r = (.p (.arr true (([] : List PV) ++ (List.range (k + 1)).map g).length fun j => (([] : List PV) ++ (List.range (k + 1)).map g).getD j .nilp)) ∧ h' = []) (by
   rw [h1]
   exact ⟨hsz, by simpa using hn, rfl, rfl⟩)
  subst e1 e2
  refine h3.turn fun c v hv => ?_
  have : (([] : List PV) ++ (List.range (k + 1)).map g).length = k + 1 := by simp
  rw [this] at hv
  refine qcr (fun i hi => ?_) hv
  simp [List.getD_eq_getElem?_getD, hi]
def zu (sz by_ : Nat) : bb := fun args h K => match args, h with
 | [.p (.arr _ n g)], [] => ifB (ru sz (qhr g n []) && Nat.ble (n * by_) 140737488355328) (K (.p (.arr true n g)) [])
 | [.p .nils], [] => K (.p (.arr true 0 fun _ => .nilp)) []
 | _, _ => False
theorem qgw {c : Cx} {m : Bool} {g : Nat → PV} {v : Value} (h : V c (.p .nils) v) : V c (.p (.arr m 0 g)) v := by
 simp only [V, RoC] at h ⊢
 exact ⟨none, 0, h, ⟨Nat.le_refl _, Nat.zero_le _⟩, fun h => absurd h (by omega)⟩
theorem ve {P : Program} {f : FuncId} {sz by_ : Nat} (h : ∀ (m : Bool) (n : Nat) (g : Nat → PV), (∀ i, i < n → cf (g i) = sz) → n * by_ ≤ 140737488355328 → ct P f [.p (.arr m n g)] [] (.p (.arr true n g)) []) : ah P f (zu sz by_) := by
 intro args hp K hk
 unfold zu at hk
 split at hk
 ·rename_i m n g
  obtain ⟨h1, h2⟩ := cq hk
  simp only [Bool.and_eq_true] at h1
  have b := h1.1
  rw [tp, List.append_nil] at b
  exact ⟨_, _, h2, h m n g (fun i hi => fa b _ (List.mem_map.2 ⟨i, List.mem_range.2 hi, rfl⟩)) (Nat.le_of_ble_eq_true h1.2)⟩
 ·refine ⟨_, _, hk, fun c vals o a next Q hv hh hn => ?_⟩
  refine h true 0 (fun _ => .nilp) (fun i hi => absurd hi (by omega)) (by omega) c vals o a next Q ?_ hh hn
  simp only [Vs] at hv ⊢
  obtain ⟨y, ys, e1, e2, e3⟩ := hv
  exact ⟨y, ys, e1, qgw e2, e3⟩
 ·exact hk.elim
end Go.RX
