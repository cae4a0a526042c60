/- A verified interpreter of the model's Code: what it makes of a function, the model does. No condition. -/
import Derived.Test.YtacceochippkaaaGreatDoorRc
import Derived.Test.YtacceochippkaaaGreatDoorRb
import Derived.Recover
import Derived.Below
set_option linter.all false
namespace Go.RX
def x5 (n : Nat) (K : Nat → Prop) : Prop := match n with
 | 0 => K 0
 | n + 1 => K (n + 1)
theorem ky (n : Nat) (K : Nat → Prop) : x5 n K = K n := by cases n <;> rfl
def qzz (i : Int) (K : Int → Prop) : Prop := match i with
 | .ofNat n => x5 n fun n => K (.ofNat n)
 | .negSucc n => x5 n fun n => K (.negSucc n)
theorem qle (i : Int) (K : Int → Prop) : qzz i K = K i := by cases i <;> simp only [qzz, ky]
def qok (b : Bool) (K : Bool → Prop) : Prop := match b with
 | true => K true
 | false => K false
theorem qcg (b : Bool) (K : Bool → Prop) : qok b K = K b := by cases b <;> rfl
def fL {α : Type} : List α → (List α → Prop) → Prop
 | [], K => K []
 | x :: r, K => fL r fun r => K (x :: r)
theorem qxc {α : Type} : ∀ (l : List α) (K : List α → Prop), fL l K = K l
 | [], _ => rfl
 | x :: r, K => by simp only [fL, qxc r]
def q44 (s : ByteArray) (K : ByteArray → Prop) : Prop := match s with
 | ⟨⟨l⟩⟩ => fL l fun l => K ⟨⟨l⟩⟩
theorem qrl (s : ByteArray) (K : ByteArray → Prop) : q44 s K = K s := by obtain ⟨⟨l⟩⟩ := s; simp only [q44, qxc]
mutual
def fPV : PV → (PV → Prop) → Prop
 | .bool b, K => qok b fun b => K (.bool b)
 | .int k n, K => qzz n fun n => K (.int k n)
 | .str s, K => q44 s fun s => K (.str s)
 | .nilp, K => K .nilp
 | .nils, K => K .nils
 | .nilm, K => K .nilm
 | .nilf, K => K .nilf
 | .nili, K => K .nili
 | .arr m n g, K => qok m fun m => x5 n fun n => K (.arr m n g)
 | .agg cs, K => qqe cs fun cs => K (.agg cs)
def qqe : List PV → (List PV → Prop) → Prop
 | [], K => K []
 | x :: r, K => fPV x fun x => qqe r fun r => K (x :: r)
end
mutual
theorem qlf : ∀ (x : PV) (K : PV → Prop), fPV x K = K x
 | .bool _, _ => by simp only [fPV, qcg]
 | .int _ _, _ => by simp only [fPV, qle]
 | .str _, _ => by simp only [fPV, qrl]
 | .nilp, _ => by simp only [fPV]
 | .nils, _ => by simp only [fPV]
 | .nilm, _ => by simp only [fPV]
 | .nilf, _ => by simp only [fPV]
 | .nili, _ => by simp only [fPV]
 | .arr _ _ _, _ => by simp only [fPV, qcg, ky]
 | .agg cs, _ => by simp only [fPV, qch cs]
theorem qch : ∀ (x : List PV) (K : List PV → Prop), qqe x K = K x
 | [], _ => by simp only [qqe]
 | x :: r, _ => by simp only [qqe, qlf x, qch r]
end
mutual
def fAV : AV → (AV → Prop) → Prop
 | .undef, K => K .undef
 | .p x, K => fPV x fun x => K (.p x)
 | .ptr i o, K => x5 i fun i => x5 o fun o => K (.ptr i o)
 | .eptr i k o, K => x5 i fun i => x5 k fun k => x5 o fun o => K (.eptr i k o)
 | .rop cs, K => qqe cs fun cs => K (.rop cs)
 | .row i, K => x5 i fun i => K (.row i)
 | .map i, K => x5 i fun i => K (.map i)
 | .iter i, K => x5 i fun i => K (.iter i)
 | .func f a b, K => qfz a fun a => qfz b fun b => K (.func f a b)
 | .agg cs, K => qfz cs fun cs => K (.agg cs)
 | .tup cs, K => qfz cs fun cs => K (.tup cs)
 | .iface t v, K => fAV v fun v => K (.iface t v)
def qfz : List AV → (List AV → Prop) → Prop
 | [], K => K []
 | x :: r, K => fAV x fun x => qfz r fun r => K (x :: r)
end
mutual
theorem qhq : ∀ (x : AV) (K : AV → Prop), fAV x K = K x
 | .undef, _ => by simp only [fAV]
 | .p _, _ => by simp only [fAV, qlf]
 | .ptr _ _, _ => by simp only [fAV, ky]
 | .eptr _ _ _, _ => by simp only [fAV, ky]
 | .rop _, _ => by simp only [fAV, qch]
 | .row _, _ => by simp only [fAV, ky]
 | .map _, _ => by simp only [fAV, ky]
 | .iter _, _ => by simp only [fAV, ky]
 | .func _ a b, _ => by simp only [fAV, nh a, nh b]
 | .agg cs, _ => by simp only [fAV, nh cs]
 | .tup cs, _ => by simp only [fAV, nh cs]
 | .iface _ v, _ => by simp only [fAV, qhq v]
theorem nh : ∀ (x : List AV) (K : List AV → Prop), qfz x K = K x
 | [], _ => by simp only [qfz]
 | x :: r, _ => by simp only [qfz, qhq x, nh r]
end
def fPP : List (PV × PV) → (List (PV × PV) → Prop) → Prop
 | [], K => K []
 | (x, y) :: r, K => fPV x fun x => fPV y fun y => fPP r fun r => K ((x, y) :: r)
theorem qqd : ∀ (l : List (PV × PV)) (K : List (PV × PV) → Prop), fPP l K = K l
 | [], _ => rfl
 | (x, y) :: r, _ => by simp only [fPP, qlf, qqd r]
def fAO (o : AO) (K : AO → Prop) : Prop := match o with
 | .dead => K .dead
 | .box cs => qfz cs fun cs => K (.box cs)
 | .row e sz xs => K (.row e sz xs)
 | .ice sz xs => K (.ice sz xs)
 | .map k es => K (.map k es)
 | .iter s p => K (.iter s p)
theorem qqb (o : AO) (K : AO → Prop) : fAO o K = K o := by cases o <;> simp only [fAO, nh]
def q43 (o : AO) (K : AO → Prop) : Prop := match o with
 | .dead => K .dead
 | .box cs => qfz cs fun cs => K (.box cs)
 | .row e sz xs => qqe xs fun xs => K (.row e sz xs)
 | .ice sz xs => qqe xs fun xs => K (.ice sz xs)
 | .map k es => fPP es fun es => K (.map k es)
 | .iter s p => x5 p fun p => K (.iter s p)
theorem qrk (o : AO) (K : AO → Prop) : q43 o K = K o := by cases o <;> simp only [q43, nh, qch, qqd, ky]
def fWr (d : Bool) : List (Nat × AO) → (List (Nat × AO) → Prop) → Prop
 | [], K => K []
 | (i, o) :: r, K => x5 i fun i => match d with
  | true => q43 o fun o => fWr d r fun r => K ((i, o) :: r)
  | false => fAO o fun o => fWr d r fun r => K ((i, o) :: r)
theorem qqh (d : Bool) : ∀ (l : List (Nat × AO)) (K : List (Nat × AO) → Prop), fWr d l K = K l
 | [], _ => rfl
 | (i, o) :: r, K => by cases d <;> simp only [fWr, ky, qrk, qqb, qqh _ r]
def qqc : List AO → (List AO → Prop) → Prop
 | [], K => K []
 | x :: r, K => fAO x fun x => qqc r fun r => K (x :: r)
theorem qfy : ∀ (x : List AO) (K : List AO → Prop), qqc x K = K x
 | [], _ => by simp only [qqc]
 | x :: r, _ => by simp only [qqc, qqb x, qfy r]
def wAV (x : AV) (K : AV → Prop) : Prop := match x with
 | .undef => K .undef
 | .p x => match x with
  | .bool b => qok b fun b => K (.p (.bool b))
  | .int k n => qzz n fun n => K (.p (.int k n))
  | .arr m n g => x5 n fun n => K (.p (.arr m n g))
  | x => K (.p x)
 | .ptr i o => x5 i fun i => x5 o fun o => K (.ptr i o)
 | .eptr i k o => x5 i fun i => x5 k fun k => x5 o fun o => K (.eptr i k o)
 | .row i => x5 i fun i => K (.row i)
 | .map i => x5 i fun i => K (.map i)
 | .iter i => x5 i fun i => K (.iter i)
 | .func f a b => qfz a fun a => qfz b fun b => K (.func f a b)
 | .agg cs => qfz cs fun cs => K (.agg cs)
 | .tup cs => qfz cs fun cs => K (.tup cs)
 | x => K x
theorem qzy (x : AV) (K : AV → Prop) : wAV x K = K x := by
 cases x with
 | p x => cases x <;> simp only [wAV, qcg, qle, ky]
 | _ => simp only [wAV, ky, nh]
def fSl (sl : List (Nat × AV)) : List Nat → (List (Nat × AV) → Prop) → Prop
 | [], K => K []
 | t :: r, K => wAV (cy sl t) fun v => fSl sl r fun r => K ((t, v) :: r)
theorem qqf (sl : List (Nat × AV)) : ∀ (l : List Nat) (K : List (Nat × AV) → Prop), fSl sl l K = K (ld sl l)
 | [], _ => by simp only [fSl, ld]
 | t :: r, _ => by simp only [fSl, ld, qzy, qqf sl r]
def fSt (l : List Nat) (s : St) (K : St → Prop) : Prop := fSl s.sl l fun sl => qqc s.hp fun hp => K ⟨sl, hp⟩
theorem qqg (l : List Nat) (s : St) (K : St → Prop) : fSt l s K = K ⟨ld s.sl l, s.hp⟩ := by simp only [fSt, qqf, qfy]
def qqj : PV → Bool
 | .agg _ => true
 | _ => false
def vwC (P : Program) (t : TypeId) (x : PV) (K : List PV → Prop) : Prop :=
 match df P t, du P t with
 | some true, some n => match x with
  | .agg cs => match Nat.beq cs.length n && Nat.blt 0 n with | true => K cs | false => False
  | _ => False
 | some false, some n => match qqj x with
  | true => False
  | false => match Nat.beq n 1 with | true => K [x] | false => False
 | _, _ => False
theorem qiv (P : Program) : qp0 P (vwC P) := by
 intro t x K h
 unfold vwC at h
 split at h
 ·rename_i n hA hS
  split at h
  ·rename_i cs
   split at h
   ·rename_i hb
    simp only [Bool.and_eq_true] at hb
    have h1 := Nat.eq_of_beq_eq_true hb.1
    have h2 := jt hb.2
    exact ⟨cs, h, by rw [hS, h1], by omega, .inl ⟨hA, rfl⟩⟩
   ·exact h.elim
  ·exact h.elim
 ·rename_i n hA hS
  split at h
  ·exact h.elim
  ·rename_i hx
   split at h
   ·rename_i hb
    have h1 := Nat.eq_of_beq_eq_true hb
    exact ⟨[x], h, by rw [hS, h1]; rfl, by simp, .inr ⟨hA, fun xs e => by subst e; simp [qqj] at hx, rfl⟩⟩
   ·exact h.elim
 ·exact h.elim
def ifB (b : Bool) (K : Prop) : Prop := match b with
 | true => K
 | false => False
theorem ix {b : Bool} {K : Prop} (h : ifB b K) : b = true ∧ K := by
 cases b with
 | true => exact ⟨rfl, h⟩
 | false => exact h.elim
def qlr (op : BinOp) (k : IntKind) (a b : Int) (K : AV → Prop) : Prop :=
 match op with
 | .quo => ifB (!(decide (b = 0))) (K (.p (.int k (k.wrap (a.tdiv b)))))
 | .rem => ifB (!(decide (b = 0))) (K (.p (.int k (a.tmod b))))
 | .shl => ifB (decide (0 ≤ b)) (K (.p (.int k (k.wrap (a * 2 ^ (min b.toNat k.bits))))))
 | .shr => ifB (decide (0 ≤ b)) (K (.p (.int k (a.fdiv (2 ^ (min b.toNat k.bits))))))
 | op => qf6 op k a b K
theorem qf7 {op : BinOp} {k : IntKind} {a b : Int} {K : AV → Prop} (h : qlr op k a b K) : qf6 op k a b K := by
 cases op <;> simp only [qlr] at h <;> try exact h
 all_goals
  obtain ⟨h1, h2⟩ := ix h
  exact ⟨by simpa using h1, h2⟩
def xz : List UInt8 → List UInt8 → Bool
 | [], [] => true
 | x :: xs, y :: ys => match Nat.beq x.toNat y.toNat with
  | true => xz xs ys
  | false => false
 | _, _ => false
theorem uj : ∀ (a b : List UInt8), xz a b = (a == b)
 | [], [] => rfl
 | [], _ :: _ => rfl
 | _ :: _, [] => rfl
 | x :: xs, y :: ys => by
  simp only [xz, List.cons_beq_cons]
  cases hb : Nat.beq x.toNat y.toNat with
  | true =>
   have : x = y := UInt8.toNat_inj.1 (Nat.eq_of_beq_eq_true hb)
   subst this
   simp [uj xs ys]
  | false =>
   have : (x == y) = false := by
    apply Bool.eq_false_iff.2
    intro h
    have := eq_of_beq h
    subst this
    rw [Nat.beq_refl] at hb
    cases hb
   simp [this]
def qss (op : BinOp) (a b : ByteArray) (K : AV → Prop) : Prop :=
 match op with
 | .add => ifB (Nat.ble (a.size + b.size) 9223372036854775807) (K (.p (.str ⟨⟨a.data.toList ++ b.data.toList⟩⟩)))
 | .eql => K (.p (.bool (xz a.data.toList b.data.toList)))
 | .neq => K (.p (.bool (!(xz a.data.toList b.data.toList))))
 | op => qgx op a b K
theorem toList_data (a : ByteArray) : a.toList = a.data.toList := ByteArray.toList_eq a
theorem qst {op : BinOp} {a b : ByteArray} {K : AV → Prop} (h : qss op a b K) : qgx op a b K := by
 cases op <;> simp only [qss] at h <;> try exact h
 ·obtain ⟨h1, h2⟩ := ix h
  refine ⟨Nat.le_of_ble_eq_true h1, ?_⟩
  have : (⟨⟨a.data.toList ++ b.data.toList⟩⟩ : ByteArray) = a ++ b := by
   apply ByteArray.ext
   simp
  rw [this] at h2
  exact h2
 ·simp only [qgx]
  rw [uj, ← toList_data, ← toList_data] at h
  exact h
 ·simp only [qgx]
  rw [uj, ← toList_data, ← toList_data] at h
  exact h
def qo3 (P : Program) (plain : cn) (rd : Nat → AO) (op : BinOp) (t : TypeId) (y : Operand) (u v : AV) (K : AV → Prop) : Prop :=
 match isEq op, qz3 P rd t (isConst y) u v with
 | some p, some b => K (.p (.bool (flp p b)))
 | _, _ => qtk P plain op t u v K
def q17 (P : Program) (plain : cn) (rd : Nat → AO) (op : BinOp) (t : TypeId) (y : Operand) (u v : AV) (K : AV → Prop) : Prop :=
 match u, v with
 | .p (.int k a), .p (.int k' b) => match op with
  | .shl => qlr .shl k a b K
  | .shr => qlr .shr k a b K
  | op => match decide (k = k') with | true => qlr op k a b K | false => False
 | .p (.str a), .p (.str b) => qss op a b K
 | u, v => qo3 P plain rd op t y u v K
section
variable {P : Program} {ρ : Operand → AV} {rd : Nat → AO} {fresh : Nat} {dst : Option Tmp} {ty : TypeId} {pos : String} {after : Array Edge} {guard : Option (Nat × Bool)}
theorem qph {plain : cn} (hpl : j5 P plain) (op : BinOp) (t yt : TypeId) (x y : Operand) {K : AV → Prop} (h : q17 P plain rd op t y (ρ x) (ρ y) K) :
  ∃ v, K v ∧ b6 P ⟨dst, .binOp op t x y yt, ty, pos, after, guard⟩ ρ rd fresh v [] := by
 unfold q17 at h
 split at h
 ·rename_i k a k' b hx hy
  refine zm hpl op t yt x y ?_
  rw [hx, hy]
  unfold qtk
  split at h
  ·exact qf7 h
  ·exact qf7 h
  ·split at h
   ·rename_i hd
    have : k = k' := of_decide_eq_true hd
    subst this
    simp only [decide_true]
    cases op <;> exact qf7 h
   ·exact h.elim
 ·rename_i a b hx hy
  refine zm hpl op t yt x y ?_
  rw [hx, hy]
  exact qst h
 ·unfold qo3 at h
  split at h
  ·rename_i p b hp hb
   exact ⟨_, h, qii op t yt x y hp hb⟩
  ·exact zm hpl op t yt x y h
end
def qfj (sz : Nat) : List PV → Bool
 | [] => true
 | x :: r => match Nat.beq (dn x) sz with | true => qfj sz r | false => false
theorem o6 {sz : Nat} : ∀ {l : List PV}, qfj sz l = true → ∀ x ∈ l, dn x = sz
 | [], _, x, hx => by simp at hx
 | y :: r, h, x, hx => by
  simp only [qfj] at h
  split at h
  ·rename_i hb
   rcases List.mem_cons.1 hx with e | e
   ·rw [e]; exact Nat.eq_of_beq_eq_true hb
   ·exact o6 h x e
  ·cases h
def qp4 (g : Nat → PV) : Nat → List PV → List PV
 | 0, acc => acc
 | n + 1, acc => qp4 g n (g n :: acc)
theorem qb5 (g : Nat → PV) : ∀ (n : Nat) (acc : List PV), qp4 g n acc = (List.range n).map g ++ acc
 | 0, acc => by simp [qp4]
 | n + 1, acc => by simp [qp4, qb5 g n, List.range_succ]
def qr4 (rd : Nat → AO) (sz : Nat) (x : AV) (K : List PV → Prop) : Prop :=
 match x with
 | .p .nils => K []
 | .p (.arr _ n g) => ifB (qfj sz (qp4 g n [])) (K (qp4 g n []))
 | .row id => match rd id with
  | .row _ sz' xs => match Nat.beq sz' sz with | true => K xs | false => False
  | .ice _ xs => ifB (qfj sz xs) (K xs)
  | _ => False
 | _ => False
theorem qr5 {rd : Nat → AO} {sz : Nat} {x : AV} {K : List PV → Prop} (h : qr4 rd sz x K) : yq rd sz x K := by
 unfold qr4 at h
 split at h
 ·exact h
 ·rename_i m n g
  obtain ⟨h1, h2⟩ := ix h
  rw [qb5, List.append_nil] at h1 h2
  exact ⟨fun i hi => o6 h1 _ (List.mem_map.2 ⟨i, List.mem_range.2 hi, rfl⟩), h2⟩
 ·rename_i id
  split at h
  ·rename_i hr
   simp only [yq, hr]; exact h
  ·rename_i sz' xs hr
   simp only [yq, hr]
   obtain ⟨h1, h2⟩ := ix h
   refine ⟨fun i hi => o6 h1 _ ?_, h2⟩
   rw [List.getD_eq_getElem?_getD, List.getElem?_eq_getElem hi]
   exact List.getElem_mem hi
  ·exact h.elim
 ·exact h.elim
def qfl (P : Program) (rd : Nat → AO) (fresh : Nat) (t : TypeId) (s x : AV) (K : KA) : Prop :=
 match P.underlying t with
 | some (.slice e) => match du P e, qaq P e, ud P e with
  | some sz, some by_, some z => match Nat.blt 0 sz && Nat.blt 0 by_ && Nat.beq (dn z) sz with
   | true => qr4 rd sz x fun ys =>
    match s with
    | .p .nils => ifB (Nat.ble (ys.length * by_) 140737488355328) (K (.row fresh) [(fresh, .row e sz ys)])
    | .row id => match rd id with
     | .row e' sz' xs => match Nat.beq e e' && Nat.beq sz sz' with
      | true => ifB (Nat.ble ((xs.length + ys.length) * by_) 140737488355328) (K (.row fresh) [(id, .dead), (fresh, .row e sz (xs ++ ys))])
      | false => False
     | _ => False
    | _ => False
   | false => False
  | _, _, _ => False
 | _ => False
theorem qjl {rd : Nat → AO} {sz : Nat} {x : AV} {K K' : List PV → Prop} (hk : ∀ ys, K ys → K' ys) (h : yq rd sz x K) : yq rd sz x K' := by
 unfold yq at h
 split at h
 ·exact hk _ h
 ·exact ⟨h.1, hk _ h.2⟩
 ·split at h
  ·rename_i hr
   split at h
   ·rename_i hb; simp only [yq, hr, hb]; exact hk _ h
   ·exact h.elim
  ·rename_i hr
   simp only [yq, hr]
   exact ⟨h.1, hk _ h.2⟩
  ·exact h.elim
 ·exact h.elim
theorem qkl {P : Program} {rd : Nat → AO} {fresh : Nat} {t : TypeId} {s x : AV} {K : KA} (h : qfl P rd fresh t s x K) : xi P rd fresh t s x K := by
 unfold qfl at h
 unfold xi
 split at h
 ·rename_i e he
  simp only [he]
  split at h
  ·rename_i sz by_ z h1 h2 h3
   simp only [h1, h2, h3]
   split at h
   ·rename_i hc
    simp only [hc]
    refine qjl (fun ys hk => ?_) (qr5 h)
    split at hk
    ·obtain ⟨q1, q2⟩ := ix hk
     exact ⟨Nat.le_of_ble_eq_true q1, q2⟩
    ·split at hk
     ·rename_i hr
      simp only [hr]
      split at hk
      ·rename_i hb
       simp only [hb]
       obtain ⟨q1, q2⟩ := ix hk
       exact ⟨Nat.le_of_ble_eq_true q1, q2⟩
      ·exact hk.elim
     ·exact hk.elim
    ·exact hk.elim
   ·exact h.elim
  ·exact h.elim
 ·exact h.elim
def inB (i : Int) (n : Nat) : Bool := match i with
 | .ofNat k => Nat.blt k n
 | .negSucc _ => false
theorem pj {i : Int} {n : Nat} (h : inB i n = true) : 0 ≤ i ∧ i < n := by
 cases i with
 | ofNat k => have := jt h; simp only [Int.ofNat_eq_natCast]; omega
 | negSucc k => cases h
def qrg (env : Env) (rd : Nat → AO) (t : TypeId) (x : AV) (i : Int) (K : KA) : Prop :=
 match env.P.underlying t with
 | some (.slice e) => match x with
  | .p (.arr _ n g) => ifB (inB i n) (env.vw e (g i.toNat) fun cs => K (.rop cs) [])
  | .row id => match rd id with
   | .row _ sz xs => match du env.P e with
    | some n => match Nat.beq n sz with
     | true => ifB (inB i xs.length) (K (.eptr id i.toNat 0) [])
     | false => False
    | none => False
   | .ice _ xs => ifB (inB i xs.length) (env.vw e (xs.getD i.toNat .nilp) fun cs => K (.rop cs) [])
   | _ => False
  | _ => False
 | _ => False
theorem qrh {env : Env} {rd : Nat → AO} {t : TypeId} {x : AV} {i : Int} {K : KA} (h : qrg env rd t x i K) : qlb env rd t x i K := by
 unfold qrg at h
 unfold qlb
 split at h
 ·rename_i e he
  simp only [he]
  split at h
  ·obtain ⟨q1, q2⟩ := ix h
   exact ⟨(pj q1).1, (pj q1).2, q2⟩
  ·split at h
   ·rename_i hr
    simp only [hr]
    split at h
    ·rename_i n hn
     simp only [hn]
     split at h
     ·rename_i hb
      simp only [hb]
      obtain ⟨q1, q2⟩ := ix h
      exact ⟨(pj q1).1, (pj q1).2, q2⟩
     ·exact h.elim
    ·exact h.elim
   ·rename_i hr
    simp only [hr]
    obtain ⟨q1, q2⟩ := ix h
    exact ⟨(pj q1).1, (pj q1).2, q2⟩
   ·exact h.elim
  ·exact h.elim
 ·exact h.elim
def qnb (x : Option AV) (d : Nat) : Option Nat := match x with
 | none => some d
 | some (.p (.int _ (.ofNat n))) => some n
 | _ => none
theorem qhb {x : Option AV} {d n : Nat} (h : qnb x d = some n) (K : Int → Prop) (hk : K n) : og x d K := by
 unfold qnb at h
 unfold og
 split at h
 ·injection h with h; subst h; exact hk
 ·injection h with h; subst h; exact hk
 ·cases h
def q2a (l : Nat) (h : Nat) (s : ByteArray) : ByteArray := ⟨⟨(s.data.toList.drop l).take (h - l)⟩⟩
theorem qrd (l h : Nat) (s : ByteArray) : q2a l h s = s.extract l h := by
 apply ByteArray.ext
 apply Array.ext'
 simp [q2a, List.extract]
def qmx (P : Program) (rd : Nat → AO) (fresh : Nat) (t : TypeId) (x : AV) (lo hi mx : Option AV) (K : KA) : Prop :=
 match mx, P.underlying t, x with
 | none, some .string, .p (.str s) => match qnb hi s.size, qnb lo 0 with
  | some h, some l => ifB (Nat.ble l h && Nat.ble h s.size) (K (.p (.str (q2a l h s))) [])
  | _, _ => False
 | none, some (.slice e), .p (.arr m n g) => match du P e, qnb hi n, qnb lo 0 with
  | some sz, some h, some l => ifB (qfj sz (qp4 g n []) && Nat.ble l h && Nat.ble h n) (K (.p (.arr m (h - l) fun i => g (l + i))) [])
  | _, _, _ => False
 | none, some (.slice e), .p .nils => match du P e, lo, qnb hi 0 with
  | some _, none, some 0 => K (.p .nils) []
  | _, _, _ => False
 | none, some (.slice e), .row id => match du P e, lo, rd id with
  | some _, none, .row e' sz xs => match qnb hi xs.length with
   | some h => ifB (Nat.ble h xs.length) (K (.row fresh) [(id, .dead), (fresh, .row e' sz (xs.take h))])
   | none => False
  | _, _, _ => False
 | _, _, _ => False
theorem qhc {x : Option AV} {d n : Nat} (h : qnb x d = some n) : (x = none ∧ (n : Int) = d) ∨ ∃ k, x = some (.p (.int k n)) := by
 unfold qnb at h
 split at h
 ·injection h with h; subst h; exact .inl ⟨rfl, rfl⟩
 ·injection h with h; subst h; exact .inr ⟨_, rfl⟩
 ·cases h
section
variable {P : Program} {ρ : Operand → AV} {rd : Nat → AO} {fresh : Nat} {dst : Option Tmp} {ty : TypeId} {pos : String} {after : Array Edge} {guard : Option (Nat × Bool)}
theorem qjw (t : TypeId) (x : Operand) (lo hi mx : Option Operand) {K : KA} (h : qmx P rd fresh t (ρ x) (lo.map ρ) (hi.map ρ) (mx.map ρ) K) :
  ∃ v wr, K v wr ∧ b6 P ⟨dst, .slice t x lo hi mx, ty, pos, after, guard⟩ ρ rd fresh v wr := by
 unfold qmx at h
 split at h
 ·rename_i s hm ht hx
  split at h
  ·rename_i hh ll h1 h2
   obtain ⟨q1, q2⟩ := ix h
   simp only [Bool.and_eq_true] at q1
   have b1 := Nat.le_of_ble_eq_true q1.1
   have b2 := Nat.le_of_ble_eq_true q1.2
   obtain ⟨v, k1, k2⟩ := zn (P := P) (ρ := ρ) (rd := rd) (fresh := fresh) (dst := dst) (ty := ty) (pos := pos) (after := after) (guard := guard) t x lo hi mx (K := fun v => K v []) (by
    unfold qes
    rw [hm, ht, hx]
    refine qhb h1 _ (qhb h2 _ ⟨by omega, by omega, by omega, ?_⟩)
    rw [qrd] at q2
    simpa using q2)
   exact ⟨v, [], k1, k2⟩
  ·exact h.elim
 ·rename_i e m n g hm ht hx
  split at h
  ·rename_i sz hh ll h0 h1 h2
   obtain ⟨q1, q2⟩ := ix h
   simp only [Bool.and_eq_true] at q1
   have b1 := Nat.le_of_ble_eq_true q1.1.2
   have b2 := Nat.le_of_ble_eq_true q1.2
   have b3 := q1.1.1
   rw [qb5, List.append_nil] at b3
   obtain ⟨v, k1, k2⟩ := zn (P := P) (ρ := ρ) (rd := rd) (fresh := fresh) (dst := dst) (ty := ty) (pos := pos) (after := after) (guard := guard) t x lo hi mx (K := fun v => K v []) (by
    unfold qes
    rw [hm, ht, hx]
    simp only [h0]
    refine ⟨fun i hi => o6 b3 _ (List.mem_map.2 ⟨i, List.mem_range.2 hi, rfl⟩), qhb h1 _ (qhb h2 _ ⟨by omega, by omega, by omega, ?_⟩)⟩
    simpa using q2)
   exact ⟨v, [], k1, k2⟩
  ·exact h.elim
 ·rename_i e hm ht hx
  split at h
  ·rename_i sz h0 h1 h2
   have e1 : mx = none := by cases mx <;> simp_all
   have e2 : lo = none := by cases lo <;> simp_all
   subst e1 e2
   refine ⟨_, _, h, qen t e _ x hi ht h0 hx ?_⟩
   rcases qhc h2 with ⟨q, _⟩ | ⟨k, q⟩
   ·exact .inl q
   ·exact .inr ⟨k, by simpa using q⟩
  ·exact h.elim
 ·rename_i e id hm ht hx
  split at h
  ·rename_i n e' sz xs h0 h1 h2
   have e1 : mx = none := by cases mx <;> simp_all
   have e2 : lo = none := by cases lo <;> simp_all
   subst e1 e2
   split at h
   ·rename_i hh h3
    obtain ⟨q1, q2⟩ := ix h
    have b1 := Nat.le_of_ble_eq_true q1
    refine ⟨_, _, q2, ?_⟩
    have := qeo (P := P) (ρ := ρ) (rd := rd) (fresh := fresh) (dst := dst) (ty := ty) (pos := pos) (after := after) (guard := guard) t e e' n sz id x hi xs hh ht h0 hx h2 (qhc h3) (by omega) (by omega)
    simpa using this
   ·exact h.elim
  ·exact h.elim
 ·exact h.elim
end
def qku (env : Env) (rd : Nat → AO) (fresh : Nat) (ρ : Operand → AV) (cl : Call) (K : KA) : Prop :=
 match cl.callee with
 | .builtin .append => match cl.args.toList, cl.argTypes.toList with
  | [s, x], [t, t'] => match Nat.beq t t' with
   | true => qfl env.P rd fresh t (ρ s) (ρ x) K
   | false => match env.P.underlying t, env.P.underlying t', ρ s, ρ x with
    | some (.slice e), some (.int _), .p .nils, .p (.int _ (.ofNat n)) => match du env.P e, qaq env.P e, ud env.P e with
     | some sz, some by_, some z => ifB (Nat.blt 0 n && Nat.ble n 140737488355328 && Nat.ble (n * by_) 140737488355328 && Nat.blt 0 sz && Nat.beq (dn z) sz) (K (.row fresh) [(fresh, .row e sz (List.replicate n z))])
     | _, _, _ => False
    | _, _, _, _ => False
  | _, _ => False
 | .builtin .cap => match cl.args.toList, cl.argTypes[0]? with
  | [x], some t => match env.P.underlying t, ρ x with
   | some (.slice _), .p .nils => K (.p (.int .i64 0)) []
   | _, _ => False
  | _, _ => False
 | .builtin .max => match cl.args.toList with
  | [x, y] => match ρ x, ρ y with
   | .p (.int k m), .p (.int _ n) => K (.p (.int k (if n > m then n else m))) []
   | _, _ => False
  | _ => False
 | _ => qn5 env rd fresh ρ cl K
theorem qdk {env : Env} {plain : cn} (hE : qan env plain) (cl : Call) (ρ : Operand → AV) (rd : Nat → AO) (fresh : Nat) {dst : Option Tmp} {ty : TypeId} {pos : String} {after : Array Edge} {guard : Option (Nat × Bool)} {K : KA}
  (h : qku env rd fresh ρ cl K) : ∃ v wr, K v wr ∧ b6 env.P ⟨dst, .call cl, ty, pos, after, guard⟩ ρ rd fresh v wr := by
 have h0 := h
 obtain ⟨callee, args, ats⟩ := cl
 unfold qku at h
 simp only at h
 split at h
 ·split at h
  ·rename_i s x t t' hx hat
   have e1 : args = #[s, x] := Array.toList_inj.1 hx
   have e2 : ats = #[t, t'] := Array.toList_inj.1 hat
   subst e1 e2
   split at h
   ·rename_i hb
    have := Nat.eq_of_beq_eq_true hb
    subst this
    exact qbo _ _ _ (qkl h)
   ·split at h
    ·rename_i e k k' n he ht hs hn
     split at h
     ·rename_i sz by_ z g1 g2 g3
      obtain ⟨q1, q2⟩ := ix h
      simp only [Bool.and_eq_true] at q1
      have b1 := jt q1.1.1.1.1
      have b2 := Nat.le_of_ble_eq_true q1.1.1.1.2
      have b3 := Nat.le_of_ble_eq_true q1.1.1.2
      have b4 := jt q1.1.2
      have b5 := Nat.eq_of_beq_eq_true q1.2
      have h9 : (n : Int) * (by_ : Int) ≤ 140737488355328 := by
       rw [← Int.natCast_mul]; omega
      refine ⟨_, _, q2, ?_⟩
      have := zl (P := env.P) (ρ := ρ) (rd := rd) (fresh := fresh) (dst := dst) (ty := ty) (pos := pos) (after := after) (guard := guard) t t' e sz by_ _ _ s x n z he ht g1 g2 g3 b4 b5 hs hn (by omega) (by omega) h9
      simpa using this
     ·exact h.elim
    ·exact h.elim
  ·exact h.elim
 ·split at h
  ·rename_i x t hx hat
   have e1 : args = #[x] := Array.toList_inj.1 hx
   subst e1
   split at h
   ·rename_i e he hn
    exact ⟨_, _, h, qjt _ x t e hat he hn⟩
   ·exact h.elim
  ·exact h.elim
 ·split at h
  ·rename_i x y hx
   have e1 : args = #[x, y] := Array.toList_inj.1 hx
   subst e1
   split at h
   ·rename_i k m k' n hm hn
    exact ⟨_, _, h, qsl _ x y k k' m n hm hn⟩
   ·exact h.elim
  ·exact h.elim
 ·exact xm hE _ _ _ _ h
def qso (env : Env) (plain : cn) (o : Oper) (ρ : Operand → AV) (rd : Nat → AO) (fresh : Nat) (K : KA) : Prop :=
 match o.op with
 | .binOp op t x y _ => q17 env.P plain rd op t y (ρ x) (ρ y) fun v => K v []
 | .indexAddr t x i => match ρ i with
  | .p (.int _ n) => qrg env rd t (ρ x) n K
  | _ => False
 | .index t x i => match ρ i, ρ x, env.P.underlying t with
  | .p (.int _ n), .p (.str s), some .string => ifB (inB n s.size) (K (.p (.int .u8 (cb s n.toNat))) [])
  | _, _, _ => False
 | .slice t x lo hi mx => qmx env.P rd fresh t (ρ x) (lo.map ρ) (hi.map ρ) (mx.map ρ) K
 | .call cl => qku env rd fresh ρ cl K
 | _ => step env plain o ρ rd fresh K
theorem qgv {env : Env} {plain : cn} (hE : qan env plain) (o : Oper) (ρ : Operand → AV) (rd : Nat → AO) (fresh : Nat) {K : KA} (h : qso env plain o ρ rd fresh K) :
  ∃ v wr, K v wr ∧ b6 env.P o ρ rd fresh v wr := by
 obtain ⟨dst, op, ty, pos, after, guard⟩ := o
 unfold qso at h
 simp only at h
 split at h
 ·obtain ⟨v, h1, h2⟩ := qph hE.plain _ _ _ _ _ h
  exact ⟨v, [], h1, h2⟩
 ·split at h
  ·rename_i k n hy
   obtain ⟨v, h1, h2⟩ := tu env rfl hE.vw _ _ _ k n hy (qrh h)
   exact ⟨v, [], h1, h2⟩
  ·exact h.elim
 ·split at h
  ·rename_i k n s hy hx ht
   obtain ⟨q1, q2⟩ := ix h
   exact ⟨_, _, q2, qel _ _ _ k n s hy hx ht (pj q1).1 (pj q1).2⟩
  ·exact h.elim
 ·exact qjw _ _ _ _ _ h
 ·exact qdk hE _ _ _ _ h
 ·exact u7 hE _ _ _ _ h
def qsq (env : Env) (plain : cn) (o : Oper) (ρ : Operand → AV) (rd : Nat → AO) (fresh : Nat) (K : KA) : Prop :=
 match o.op with
 | .binOp op t x y _ => qo3 env.P plain rd op t y (ρ x) (ρ y) fun v => K v []
 | _ => step env plain o ρ rd fresh K
theorem qgw {env : Env} {plain : cn} (hE : qan env plain) (o : Oper) (ρ : Operand → AV) (rd : Nat → AO) (fresh : Nat) {K : KA} (h : qsq env plain o ρ rd fresh K) :
  ∃ v wr, K v wr ∧ b6 env.P o ρ rd fresh v wr := by
 obtain ⟨dst, op, ty, pos, after, guard⟩ := o
 unfold qsq at h
 simp only at h
 split at h
 ·unfold qo3 at h
  split at h
  ·rename_i p b hp hb
   exact ⟨_, _, h, qii _ _ _ _ _ hp hb⟩
  ·obtain ⟨v, h1, h2⟩ := zm hE.plain _ _ _ _ _ h
   exact ⟨v, [], h1, h2⟩
 ·exact u7 hE _ _ _ _ h
def qy8 (o : Oper) : Bool := match o.op with
 | .call cl => match cl.callee with
  | .value _ => true
  | _ => false
 | _ => false
def qsp (env : Env) (plain : cn) (o : Oper) (ρ : Operand → AV) (rd : Nat → AO) (fresh : Nat) (K : KA) : Prop :=
 qso env plain o ρ rd fresh fun v wr => fAV v fun v => fWr (!(qy8 o)) wr fun wr => K v wr
theorem rz {env : Env} {plain : cn} (hE : qan env plain) (o : Oper) (ρ : Operand → AV) (rd : Nat → AO) (fresh : Nat) {K : KA} (h : qsp env plain o ρ rd fresh K) :
  ∃ v wr, K v wr ∧ b6 env.P o ρ rd fresh v wr := by
 unfold qsp at h
 simp only [qhq, qqh] at h
 exact qgv hE o ρ rd fresh h
def fzN (rd : Nat → AO) : AV → AV
 | .agg cs => .agg (cs.map (fz1 rd))
 | v => fz1 rd v
def qhu (rd : Nat → AO) : AV → AV
 | .tup vs => .tup (vs.map (fzN rd))
 | v => fzN rd v
theorem qki {c : Cx} {h : List AO} (hh : HR c (ct h)) {rows : List Nat} : ∀ {xs : List AV} {us : List Value}, Vs c xs us → (∀ i ∈ xs.flatMap nx, i ∈ rows) → Vs (ov c h rows) (xs.map (fz1 (gw h))) us
 | [], _, hv, _ => hv
 | x :: xs, us, hv, hr => by
  simp only [Vs, List.map_cons] at hv ⊢
  obtain ⟨y, ys, rfl, h1, h2⟩ := hv
  simp only [List.flatMap_cons, List.mem_append] at hr
  exact ⟨y, ys, rfl, qnn hh h1 (fun i hi => hr i (.inl hi)), qki hh h2 fun i hi => hr i (.inr hi)⟩
theorem qq3 {c : Cx} {h : List AO} (hh : HR c (ct h)) {rows : List Nat} {x : AV} {u : Value} (hx : V c x u) (hr : ∀ i ∈ rowsOf x, i ∈ rows) : V (ov c h rows) (fzN (gw h) x) u := by
 cases x with
 | agg cs =>
  simp only [V] at hx
  obtain ⟨C, rfl, h1, h2⟩ := hx
  simp only [fzN, V]
  exact ⟨C, rfl, qki hh h1 hr, h2⟩
 | _ => exact qnn hh hx hr
theorem qno {c : Cx} {h : List AO} (hh : HR c (ct h)) {x : AV} {u : Value} (hx : V c x u) : V (ov c h (mw x)) (qhu (gw h) x) u := by
 cases x with
 | tup vs =>
  simp only [V] at hx
  obtain ⟨C, rfl, h1⟩ := hx
  simp only [qhu, V]
  refine ⟨C, rfl, ?_⟩
  have : ∀ {xs : List AV} {us : List Value} (rows : List Nat), Vs c xs us → (∀ i ∈ xs.flatMap rowsOf, i ∈ rows) → Vs (ov c h rows) (xs.map (fzN (gw h))) us := by
   intro xs
   induction xs with
   | nil => intro us rows hv _; exact hv
   | cons y ys ih =>
    intro us rows hv hr
    simp only [Vs, List.map_cons] at hv ⊢
    obtain ⟨z, zs, rfl, h3, h4⟩ := hv
    simp only [List.flatMap_cons, List.mem_append] at hr
    exact ⟨z, zs, rfl, qq3 hh h3 (fun i hi => hr i (.inl hi)), ih rows h4 fun i hi => hr i (.inr hi)⟩
  exact this _ h1 fun i hi => hi
 | _ => exact qq3 hh hx fun i hi => hi
def qs1 (s : St) (x : Operand) : St := match x with
 | .tmp t => match rowsOf (cy s.sl t) with
  | [] => s
  | i :: r => ⟨(t, fzN (gw s.hp) (cy s.sl t)) :: s.sl, la s.hp (i :: r)⟩
 | _ => s
def qxg : List Operand → St → St
 | [], s => s
 | x :: r, s => qxg r (qs1 s x)
def qzj (o : Oper) (s : St) : St := match o.op with
 | .buildSlice _ _ parts => qxg (parts.toList.map (·.2)) s
 | .store _ a x => match ou s.sl a with
  | .eptr _ _ _ => qs1 s x
  | _ => s
 | .mapUpdate _ _ _ x => qs1 s x
 | _ => s
theorem qf1 {nt : Nat} (s : St) (x : Operand) (n0 : Nat) (D : List Deferred) (c : Cx) (a : Act) (hs : SR nt D s c a) : ∃ c', c'.w = c.w ∧ SR nt D (qs1 s x) c' a ∧ Kept n0 c (ct s.hp) c' (ct (qs1 s x).hp) := by
 unfold qs1
 split
 ·rename_i t
  split
  ·exact ⟨c, rfl, hs, Kept.refl _ _ _⟩
  ·rename_i i r hrows
   obtain ⟨k1, k2⟩ := qlm hs.hp.hr (i :: r)
   refine ⟨ov c s.hp (i :: r), rfl, ⟨fun u => ?_, ⟨k1, fun j => ?_⟩, hs.size, hs.defers⟩, Kept.tj (lb c _ _) k2⟩
   ·rw [dy]
    split
    ·rename_i e
     subst e
     exact qq3 hs.hp.hr (hs.sl t) (fun j hj => by rw [hrows] at hj; exact hj)
    ·exact V.mono (lb c _ _) _ _ (hs.sl u)
   ·show _ ↔ j < (la s.hp (i :: r)).length
    rw [kj]
    exact hs.hp.born j
 ·exact ⟨c, rfl, hs, Kept.refl _ _ _⟩
theorem qf2 {nt : Nat} : ∀ (l : List Operand) (s : St) (n0 : Nat) (D : List Deferred) (c : Cx) (a : Act), SR nt D s c a → ∃ c', c'.w = c.w ∧ SR nt D (qxg l s) c' a ∧ Kept n0 c (ct s.hp) c' (ct (qxg l s).hp)
 | [], s, _, _, c, _, hs => ⟨c, rfl, hs, Kept.refl _ _ _⟩
 | x :: r, s, n0, D, c, a, hs => by
  obtain ⟨c1, h1, h2, h3⟩ := qf1 s x n0 D c a hs
  obtain ⟨c2, h4, h5, h6⟩ := qf2 r _ n0 D c1 a h2
  exact ⟨c2, h4.trans h1, h5, h3.trans h6⟩
theorem qcv {nt : Nat} (o : Oper) (s : St) (n0 : Nat) (D : List Deferred) (c : Cx) (a : Act) (hs : SR nt D s c a) : ∃ c', c'.w = c.w ∧ SR nt D (qzj o s) c' a ∧ Kept n0 c (ct s.hp) c' (ct (qzj o s).hp) := by
 unfold qzj
 split
 ·exact qf2 _ _ _ _ _ _ hs
 ·split
  ·exact qf1 _ _ _ _ _ _ hs
  ·exact ⟨c, rfl, hs, Kept.refl _ _ _⟩
 ·exact qf1 _ _ _ _ _ _ hs
 ·exact ⟨c, rfl, hs, Kept.refl _ _ _⟩
mutual
def de : PV → PV
 | .arr _ n g => .arr false n fun i => de (g i)
 | .agg cs => .agg (uc cs)
 | .bool b => .bool b
 | .int k n => .int k n
 | .str s => .str s
 | .nilp => .nilp
 | .nils => .nils
 | .nilm => .nilm
 | .nilf => .nilf
 | .nili => .nili
def uc : List PV → List PV
 | [] => []
 | x :: r => de x :: uc r
end
mutual
theorem qc7 {I : Bool → Nat → Prop} {w : World} (hI : ∀ b, I true b → I false b) : ∀ {x : PV} {cs : List Value}, RoC I w x cs → RoC I w (de x) cs
 | .arr m n g, cs, k => by
  simp only [de, RoC] at k ⊢
  obtain ⟨a, c, e1, e2, e3⟩ := k
  refine ⟨a, c, e1, e2, fun h0 => ?_⟩
  obtain ⟨b, off, sz, k1, k2, k3, k4, k5⟩ := e3 h0
  refine ⟨b, off, sz, k1, ?_, k3, (fun e => by cases e), fun i hi => ?_⟩
  ·cases m
   ·exact k2
   ·exact hI b k2
  ·obtain ⟨es, q1, q2, q3⟩ := k5 i hi
   exact ⟨es, q1, qc7 hI q2, q3⟩
 | .agg xs, cs, k => by
  simp only [de, RoC] at k ⊢
  exact qe1 hI k
 | .bool _, _, k => k
 | .int _ _, _, k => k
 | .str _, _, k => k
 | .nilp, _, k => k
 | .nils, _, k => k
 | .nilm, _, k => k
 | .nilf, _, k => k
 | .nili, _, k => k
theorem qe1 {I : Bool → Nat → Prop} {w : World} (hI : ∀ b, I true b → I false b) : ∀ {xs : List PV} {cs : List Value}, dx I w xs cs → dx I w (uc xs) cs
 | [], _, k => k
 | x :: xs, cs, k => by
  simp only [uc, dx] at k ⊢
  obtain ⟨u, us, rfl, k1, k2⟩ := k
  exact ⟨u, us, rfl, qc7 hI k1, qe1 hI k2⟩
end
def qe2 : AV → AV
 | .p x => .p (de x)
 | v => v
def qpq : AV → AV
 | .agg cs => .agg (cs.map qe2)
 | v => qe2 v
theorem qe3 {c : Cx} {x : AV} {v : Value} (h : V c x v) : V c (qe2 x) v := by
 cases x with
 | p y => simp only [qe2, V] at h ⊢; exact qc7 c.qdc h
 | _ => exact h
theorem qe4 {c : Cx} : ∀ {xs : List AV} {vs : List Value}, Vs c xs vs → Vs c (xs.map qe2) vs
 | [], _, h => h
 | x :: xs, vs, h => by
  simp only [Vs, List.map_cons] at h ⊢
  obtain ⟨u, us, rfl, k1, k2⟩ := h
  exact ⟨u, us, rfl, qe3 k1, qe4 k2⟩
theorem qpr {c : Cx} {x : AV} {v : Value} (h : V c x v) : V c (qpq x) v := by
 cases x with
 | agg cs =>
  simp only [qpq, V] at h ⊢
  obtain ⟨C, rfl, k1, k2⟩ := h
  exact ⟨C, rfl, qe4 k1, k2⟩
 | _ => exact qe3 h
def wkL : List Operand → St → St
 | [], s => s
 | .tmp t :: r, s => wkL r ⟨(t, qpq (cy s.sl t)) :: s.sl, s.hp⟩
 | _ :: r, s => wkL r s
theorem qe5 {nt : Nat} {D : List Deferred} {c : Cx} {a : Act} : ∀ (l : List Operand) (s : St), SR nt D s c a → SR nt D (wkL l s) c a ∧ (wkL l s).hp = s.hp
 | [], s, hs => ⟨hs, rfl⟩
 | .tmp t :: r, s, hs => by
  have h1 : SR nt D ⟨(t, qpq (cy s.sl t)) :: s.sl, s.hp⟩ c a := ⟨fun u => by
   rw [dy]
   split
   ·rename_i e; subst e; exact qpr (hs.sl t)
   ·exact hs.sl u, hs.hp, hs.size, hs.defers⟩
  exact qe5 r _ h1
 | .const _ :: r, s, hs => qe5 r s hs
 | .global _ :: r, s, hs => qe5 r s hs
 | .func _ :: r, s, hs => qe5 r s hs
def qz5 (fz : FuncId → Bool) (o : Oper) (s : St) : St := match o.op with
 | .call cl => match cl.callee with
  | .value (.func f) => match fz f with
   | true => wkL cl.args.toList (qxg cl.args.toList s)
   | false => s
  | _ => s
 | _ => qzj o s
theorem qr9 {fz : FuncId → Bool} {nt : Nat} (o : Oper) (s : St) (n0 : Nat) (D : List Deferred) (c : Cx) (a : Act) (hs : SR nt D s c a) : ∃ c', c'.w = c.w ∧ SR nt D (qz5 fz o s) c' a ∧ Kept n0 c (ct s.hp) c' (ct (qz5 fz o s).hp) := by
 unfold qz5
 split
 ·split
  ·split
   ·obtain ⟨c1, h1, h2, h3⟩ := qf2 _ s n0 D c a hs
    obtain ⟨h4, h5⟩ := qe5 _ _ h2
    exact ⟨c1, h1, h4, by rw [h5]; exact h3⟩
   ·exact ⟨c, rfl, hs, Kept.refl _ _ _⟩
  ·exact ⟨c, rfl, hs, Kept.refl _ _ _⟩
 ·exact qcv _ _ _ _ _ _ hs
def qqq (P : Program) (vw : TypeId → PV → (List PV → Prop) → Prop) (wk wkB fz : FuncId → Bool) (plain : cn) (C : FuncId → bd) (nt n0 : Nat) (L : List (Nat × ck)) (ll : List (Nat × List Nat)) (le : List (Nat × List (Nat × List Nat))) (lret : List Nat) (th : List (Nat × List (Nat × (Nat × Option Nat)))) (anc : List (Nat × List Nat)) : Env :=
 { q67 P vw wk wkB plain C nt n0 L ll le lret th anc with pre := qz5 fz }
theorem al {P : Program} {vw : TypeId → PV → (List PV → Prop) → Prop} {wk wkB fz : FuncId → Bool} {plain : cn} {C : FuncId → bd} {nt n0 : Nat} {L : List (Nat × ck)} {ll : List (Nat × List Nat)} {le : List (Nat × List (Nat × List Nat))} {lret : List Nat} {th : List (Nat × List (Nat × (Nat × Option Nat)))} {anc : List (Nat × List Nat)}
  (h1 : qp0 P vw) (h2 : ∀ f, ah P f (C f)) (h3 : j5 P plain) : ot (qqq P vw wk wkB fz plain C nt n0 L ll le lret th anc) plain :=
 ⟨fun o ρ rd fresh _ h => u7 (env := qqp P vw wk wkB C) ⟨h1, h2, h3⟩ o ρ rd fresh h, qr9⟩
def qte : List Oper → Nat → List Did → List Nat
 | [], _, _ => []
 | o :: os, n, ds => qna ds o.after.toList :: qte os (n + 1) (⟨n, qna ds o.after.toList, none, [], [], []⟩ :: ds)
def mb (id : Nat) : Code → Option (Array Oper)
 | .region i ops true => match Nat.beq i id with | true => some ops | false => none
 | .seq x y => match mb id x with | some r => some r | none => mb id y
 | .cond _ x y => match mb id x with | some r => some r | none => mb id y
 | .block _ c => mb id c
 | .loop c => mb id c
 | .scope c => mb id c
 | _ => none
def q86 (code : Code) (id : Nat) : List Nat := match mb id code with
 | some ops => qte ops.toList 0 []
 | none => []
def qsz (P : Program) (C : FuncId → bd) : Env :=
 { P := P, nt := 0, n0 := 0, weak := fun _ => false, weakB := fun _ => false, vw := vwC P, C := C, X := fun _ _ _ => False, S := fun _ _ _ _ _ => False, pre := fun _ s => s, L := fun _ => rb, G := fun _ => rb, lloop := fun _ => [], lexit := fun _ _ => [], lret := [], thaw := fun _ => [], anc := fun _ => [] }
def qfq (P : Program) (pl : cn) (C : FuncId → bd) (code : Code) (kp : List Nat) (nt n0 : Nat) (L G : Nat → ck) : Env :=
 { P := P, nt := nt, n0 := n0, weak := fun _ => false, weakB := fun _ => false, vw := vwC P, C := C, X := fun _ _ _ => False, S := qsp (qsz P C) pl, pre := qzj, L := L, G := G, lloop := fun _ => kp, lexit := fun _ _ => kp, lret := kp, thaw := fun _ => [], anc := q86 code }
def qrw (env : Env) (pl : cn) (code : Code) (R : Nat → ck) (b : Nat) : ck := fun s K => match gh b 0 code with
 | some c => fSt env.lret s fun s => exec env pl b c s fun e s' => match e with
  | .normal => R b s' K
  | e => K e s'
 | none => False
def oe : Code → Option Code
 | .scope c => some c
 | .seq x y => match oe x with
  | some c => some c
  | none => oe y
 | _ => none
theorem qgz {a : Nat} {c : Code} : ∀ {code : Code}, oe code = some c → (∀ p ∈ av a c, p ∈ av a code) ∧ (c :: bn c).length ≤ (bn code).length ∧ c ∈ bn code := by
 intro code
 induction code with
 | scope d ih =>
  intro h
  simp only [oe] at h
  injection h with h
  subst h
  exact ⟨fun p hp => by simpa only [av] using hp, by simp only [bn]; exact Nat.le_refl _, by simp [bn]⟩
 | seq x y ihx ihy =>
  intro h
  simp only [oe] at h
  split at h
  ·rename_i d hd
   injection h with h
   subst h
   obtain ⟨h1, h2, h3⟩ := ihx hd
   exact ⟨fun p hp => by simp only [av, List.mem_append]; exact .inl (h1 p hp), by simp only [bn, List.length_append]; omega, by simp only [bn, List.mem_append]; exact .inl h3⟩
  ·obtain ⟨h1, h2, h3⟩ := ihy h
   exact ⟨fun p hp => by simp only [av, List.mem_append]; exact .inr (h1 p hp), by simp only [bn, List.length_append]; omega, by simp only [bn, List.mem_append]; exact .inr h3⟩
 | _ => intro h; simp [oe] at h
def qrm (env : Env) (pl : cn) (code : Code) (R : Nat → ck) (l : Nat) : ck := fun s K => match oe code with
 | some c => match findLabel c l with
  | some rest => fSt env.lret s fun s => exec env pl 0 rest s fun e s' => match e with
   | .goto l' => R l' s' K
   | e => K e s'
  | none => False
 | _ => False
def vz (P : Program) (pl : cn) (C : FuncId → bd) (code : Code) (kp : List Nat) (nt n0 : Nat) : Nat → (Nat → ck) × (Nat → ck)
 | 0 => (fun _ => rb, fun _ => rb)
 | n + 1 => (qrw (qfq P pl C code kp nt n0 (vz P pl C code kp nt n0 n).1 (vz P pl C code kp nt n0 n).2) pl code (vz P pl C code kp nt n0 n).1, qrm (qfq P pl C code kp nt n0 (vz P pl C code kp nt n0 n).1 (vz P pl C code kp nt n0 n).2) pl code (vz P pl C code kp nt n0 n).2)
def i9 (P : Program) (pl : cn) (C : FuncId → bd) (code : Code) (kp : List Nat) (nt n0 n : Nat) : Env :=
 qfq P pl C code kp nt n0 (vz P pl C code kp nt n0 n).1 (vz P pl C code kp nt n0 n).2
theorem qcl {a l : Nat} : ∀ {c rest : Code}, findLabel c l = some rest → ∀ p ∈ av a rest, p ∈ av a c := by
 intro c
 induction c with
 | seq x y ihx ihy =>
  intro rest h p hp
  simp only [findLabel] at h
  split at h
  ·rename_i r hr
   injection h with h
   subst h
   simp only [av, List.mem_append] at hp ⊢
   exact hp.imp (ihx hr p) id
  ·simp only [av, List.mem_append]
   exact .inr (ihy h p hp)
 | label l' =>
  intro rest h p hp
  simp only [findLabel] at h
  split at h
  ·injection h with h; subst h; simp [av] at hp
  ·cases h
 | _ => intro rest h; simp [findLabel] at h
theorem qak {l : Nat} : ∀ {c rest : Code}, findLabel c l = some rest → ∀ p ∈ bn rest, p ∈ bn c := by
 intro c
 induction c with
 | seq x y ihx ihy =>
  intro rest h p hp
  simp only [findLabel] at h
  split at h
  ·rename_i r hr
   injection h with h
   subst h
   simp only [bn, List.mem_append] at hp ⊢
   exact hp.imp (ihx hr p) id
  ·simp only [bn, List.mem_append]
   exact .inr (ihy h p hp)
 | label l' =>
  intro rest h p hp
  simp only [findLabel] at h
  split at h
  ·injection h with h; subst h; simp [bn] at hp
  ·cases h
 | _ => intro rest h; simp [findLabel] at h
theorem qc0 {a : Nat} {p : Nat × Code} : ∀ {c : Code}, p ∈ av a c → ∀ q ∈ bn p.2, q ∈ bn c := by
 intro c
 induction c generalizing a with
 | seq x y ihx ihy =>
  intro h q hq
  simp only [av, bn, List.mem_append] at h ⊢
  exact h.imp (fun h => ihx h q hq) (fun h => ihy h q hq)
 | cond d x y ihx ihy =>
  intro h q hq
  simp only [av, bn, List.mem_append] at h ⊢
  exact h.imp (fun h => ihx h q hq) (fun h => ihy h q hq)
 | block id d ih => intro h q hq; simp only [av, bn] at h ⊢; exact ih h q hq
 | scope d ih => intro h q hq; simp only [av, bn] at h ⊢; exact List.mem_cons_of_mem _ (ih h q hq)
 | loop d ih =>
  intro h q hq
  simp only [av, List.mem_cons] at h
  simp only [bn]
  rcases h with h | h
  ·subst h; exact hq
  ·exact ih h q hq
 | _ => intro h; simp [av] at h
section
variable {P : Program} {pl : cn} {C : FuncId → bd} {code : Code} {kp : List Nat} {nt n0 : Nat}
theorem qdz {nt : Nat} {kp : List Nat} {s : St} {c : Cx} {a : Act} {D : List Deferred} (h : SR nt D s c a) : SR nt D ⟨ld s.sl kp, s.hp⟩ c a := uz h _
theorem qcc (hC : ∀ f, ah P f (C f)) (hpl : j5 P pl) (hm : P.follows .mixedOrders = true) (hn : (keys (av 0 code)).Nodup) (hs1 : (bn code).length ≤ 1) :
  ∀ n, (∀ p ∈ av 0 code, iz (i9 P pl C code kp nt n0 n) p.2 ((vz P pl C code kp nt n0 n).1 p.1)) ∧ (∀ c ∈ bn code, vc (i9 P pl C code kp nt n0 n) c (vz P pl C code kp nt n0 n).2)
 | 0 => ⟨fun _ _ _ _ h => h.elim, fun _ _ _ _ _ h => h.elim⟩
 | n + 1 => by
  obtain ⟨ihL, ihG⟩ := qcc hC hpl hm hn hs1 n
  have hE : ot (i9 P pl C code kp nt n0 n) pl := ⟨fun o ρ rd fresh _ h => rz (env := qsz P C) ⟨qiv P, hC, hpl⟩ o ρ rd fresh h, qcv⟩
  refine ⟨fun p hp s K h => ?_, fun c hc l s K h => ?_⟩
  ·have hp' : (p.1, p.2) ∈ av 0 code := hp
   have h' : qrw (i9 P pl C code kp nt n0 n) pl code (vz P pl C code kp nt n0 n).1 p.1 s K := h
   unfold qrw at h'
   rw [qa6 hn hp'] at h'
   simp only [qqg] at h'
   obtain ⟨ex, s1, h1, h2'⟩ := jl hE hm p.2 p.1 (fun q hq => ihL q (sy hp' q hq)) (fun q hq => ihG q (qc0 hp q hq)) _ _ h'
   have h2 : ∀ (D : List Deferred) (c0 : Cx) (a : Act), SR nt D s c0 a → p.2.wp P (qe8 D (i9 P pl C code kp nt n0 n) s1 ex c0 (ct s.hp)) a c0.w := fun D c0 a hs => h2' D c0 a (qdz hs)
   have other : (ex ≠ .normal) → K ex s1 → ∃ n ex s', K ex s' ∧ ∀ (D : List Deferred) (c0 : Cx) (a : Act), SR nt D s c0 a → Code.rounds P p.2 (qe8 D (i9 P pl C code kp nt n0 n) s' ex c0 (ct s.hp)) n a c0.w := fun hne hk => by
    refine ⟨1, ex, s1, hk, fun D c0 a hs => ?_⟩
    rw [rounds_succ]
    refine wp_mono (h2 D c0 a hs) fun e a' w' he => ?_
    have e1 := he.1
    cases ex with
    | normal => exact absurd rfl hne
    | _ => subst e1; exact he
   cases ex with
   | normal =>
    obtain ⟨m, ex2, s2, h3, h4⟩ := ihL p hp _ K h1
    refine ⟨m + 1, ex2, s2, h3, fun D c0 a hs => ?_⟩
    rw [rounds_succ]
    refine wp_mono (h2 D c0 a hs) fun e a' w' he => ?_
    obtain ⟨rfl, c', rfl, hs', hk⟩ := he
    exact nw (fun _ _ _ hp => hp.mono hk) (h4 D c' a' hs')
   | exit id => exact other (fun e => by cases e) h1
   | ret => exact other (fun e => by cases e) h1
   | goto l => exact other (fun e => by cases e) h1
  ·have h' : qrm (i9 P pl C code kp nt n0 n) pl code (vz P pl C code kp nt n0 n).2 l s K := h
   unfold qrm at h'
   split at h'
   ·rename_i c1 htop
    obtain ⟨t1, t2, t3⟩ := qgz (a := 0) htop
    have hnil : bn c1 = [] := List.eq_nil_of_length_eq_zero (by simp only [List.length_cons] at t2; omega)
    have : c = c1 := by
     have hl : (bn code).length = 1 := by simp only [List.length_cons] at t2; omega
     obtain ⟨x, hx⟩ := List.length_eq_one_iff.1 hl
     rw [hx] at hc t3
     simp at hc t3
     rw [hc, t3]
    subst this
    split at h'
    ·rename_i rest hrest
     simp only [qqg] at h'
     obtain ⟨ex, s1, h1, h2'⟩ := jl hE hm rest 0 (fun q hq => ihL q (t1 q (qcl hrest q hq))) (fun q hq => by have := qak hrest q hq; rw [hnil] at this; cases this) _ _ h'
     have h2 : ∀ (D : List Deferred) (c0 : Cx) (a : Act), SR nt D s c0 a → rest.wp P (qe8 D (i9 P pl C code kp nt n0 n) s1 ex c0 (ct s.hp)) a c0.w := fun D c0 a hs => h2' D c0 a (qdz hs)
     have other : (∀ l, ex ≠ .goto l) → K ex s1 → ∃ n ex s', K ex s' ∧ ∀ (D : List Deferred) (c0 : Cx) (a : Act), SR nt D s c0 a → jumps P c (qe8 D (i9 P pl C code kp nt n0 n) s' ex c0 (ct s.hp)) n l a c0.w := fun hne hk => by
      refine ⟨1, ex, s1, hk, fun D c0 a hs => ⟨rest, hrest, wp_mono (h2 D c0 a hs) fun e a' w' he => ?_⟩⟩
      have e1 := he.1
      cases ex with
      | goto l => exact absurd rfl (hne l)
      | _ => subst e1; exact he
     cases ex with
     | goto l' =>
      obtain ⟨m, ex2, s2, h3, h4⟩ := ihG c hc l' _ K h1
      refine ⟨m + 1, ex2, s2, h3, fun D c0 a hs => ⟨rest, hrest, wp_mono (h2 D c0 a hs) fun e a' w' he => ?_⟩⟩
      obtain ⟨rfl, c', rfl, hs', hk⟩ := he
      exact uy (fun _ _ _ hp => hp.mono hk) (h4 D c' a' hs')
     | normal => exact other (fun _ e => by cases e) h1
     | exit id => exact other (fun _ e => by cases e) h1
     | ret => exact other (fun _ e => by cases e) h1
    ·exact h'.elim
   ·exact h'.elim
def qs3 (env : Env) (soft : Bool) (res : List ResultVar) (s : St) (K : AV → List AO → Prop) : Prop :=
 nu env s res fun vs =>
  let v := gi vs
  let v' := match soft with | true => qhu (gw s.hp) v | false => v
  let h := match soft with | true => la s.hp (mw v) | false => s.hp
  let L := reach (gw h) 1000 (oi (gw h) (upto env.n0) ++ pf v') (upto env.n0)
  match nodup L && kl env.n0 L 0 && kg h.length L with
  | true => K (lu (place L) v') (jf (place L) (pick h L))
  | false => False
theorem qbg {env : Env} {soft : Bool} {fn : Func} {s : St} {K : AV → List AO → Prop} (h : qs3 env soft fn.results.toList s K) :
  ∃ r h', K r h' ∧ ∀ D c a, SR env.nt D s c a → ∃ v c', c'.w = c.w ∧ (results fn a.tmps).run env.P c.w = .ok v c.w ∧ V c' r v ∧ HRl c' h' ∧ Kept env.n0 c (ct s.hp) c' (ct h') ∧ env.n0 ≤ h'.length := by
 unfold qs3 at h
 obtain ⟨vs, h1, h2⟩ := nv h
 cases soft with
 | false =>
  refine wx (v' := gi vs) (hh := s.hp) (fun D c a hs => ?_) h1
  obtain ⟨v, h3, h4⟩ := h2 D c a hs
  exact ⟨v, c, rfl, h3, h4, hs.hp, Kept.refl _ _ _⟩
 | true =>
  refine wx (v' := qhu (gw s.hp) (gi vs)) (hh := la s.hp (mw (gi vs))) (fun D c a hs => ?_) h1
  obtain ⟨v, h3, h4⟩ := h2 D c a hs
  obtain ⟨k1, k2⟩ := qlm hs.hp.hr (mw (gi vs))
  refine ⟨v, ov c s.hp (mw (gi vs)), rfl, h3, qno hs.hp.hr h4, ⟨k1, fun i => ?_⟩, Kept.tj (lb c _ _) k2⟩
  rw [kj]
  exact hs.hp.born i
def qn4 (env : Env) (plain : cn) (soft : Bool) (fn : Func) (code : Code) (args : List AV) (h : List AO) (K : AV → List AO → Prop) : Prop :=
 match Nat.beq fn.ntmps env.nt && Nat.ble args.length fn.ntmps && Nat.beq h.length env.n0 with
 | true => exec env plain 0 code ⟨number 0 args, h⟩ fun e s => match e with
  | .normal => qs3 env soft fn.results.toList s K
  | .ret => qs3 env soft fn.results.toList s K
  | _ => False
 | false => False
theorem qsf {env : Env} {f : FuncId} {fn : Func} (hf : dk env.P f fn) {code : Code} (hcode : fn.body = some code) {args : List AV} {hp : List AO} {ex : Ex} {s' : St} {r : AV} {h' : List AO}
  (e1 : fn.ntmps = env.nt) (e2 : args.length ≤ fn.ntmps) (e3 : hp.length = env.n0) (hg : q1x env code ⟨number 0 args, hp⟩ ex s') (hex : ex = .normal ∨ ex = .ret)
  (hret : ∀ D c a, SR env.nt D s' c a → ∃ v c', c'.w = c.w ∧ (results fn a.tmps).run env.P c.w = .ok v c.w ∧ V c' r v ∧ HRl c' h' ∧ Kept env.n0 c (ct s'.hp) c' (ct h') ∧ env.n0 ≤ h'.length) : fj env.P f args hp r h' := by
 refine fun c vals o a next Q hv hr hnext => ?_
 have hrun : (callFunc f vals).run env.P c.w = .ok (.enter f vals) c.w := by
  simp [callFunc, hf.at_, hf.ne, hcode]
 rw [hrun, Oper.upon_enter]
 have hvl : vals.size = args.length := by simpa using hv.length
 refine calls_of_wp hf.at_ hcode ?_
 refine wp_mono (hg [] c { tmps := vals ++ Array.replicate (fn.ntmps - vals.size) undef, defers := [] } ⟨fun t => ?_, hr, by simp; omega, rfl⟩) fun e a' w' he => ?_
 ·have := lz args 0 t
  rw [Nat.zero_add] at this
  rw [this]
  cases ha : args[t]? with
  | none => simp [V]
  | some x =>
   obtain ⟨u, h6, h7⟩ := hv.get t x ha
   have hlt : t < vals.size := by
    have := (List.getElem?_eq_some_iff.1 h6).1
    simpa using this
   have h8 : vals[t]? = some u := by simpa using h6
   have h9 : (vals ++ Array.replicate (fn.ntmps - vals.size) undef).getD t undef = u := by
    simp only [Array.getD_eq_getD_getElem?]
    rw [Array.getElem?_append_left hlt, h8]
    rfl
   show V c ((some x).getD .undef) _
   rw [h9]
   exact h7
 ·obtain ⟨e4, c', rfl, hs', hk'⟩ := he
  obtain ⟨v, c2, h6, h7, h8, h9, h10, h11⟩ := hret [] c' a' hs'
  have hpost : bodyPost env.P fn (fun e w'' => match e with
    | .returned v => next (a.put o.dst v) w''
    | .panicked chain => Q (.panic chain) a w''
    | .outgrown => LetsOut Q) e a' c'.w := by
   have hK := hk'.trans h10
   have hnx : next (a.put o.dst v) c'.w := by
    rw [← h6]
    refine hnext v c2 h8 h9 hK.fr (by rw [e3]; exact h11) fun i hi => ?_
    exact (hK.β i (by rw [← e3]; exact hi) ((hr.born i).2 hi)).2
   rcases hex with rfl | rfl
   ·subst e4
    exact ⟨hs'.defers, v, h7, hnx⟩
   ·subst e4
    exact ⟨hs'.defers, v, h7, hnx⟩
  exact hpost
theorem xl {env : Env} {plain : cn} (hE : ot env plain) (hm : env.P.follows .mixedOrders = true) {f : FuncId} {fn : Func} (hf : dk env.P f fn) {code : Code} (hcode : fn.body = some code)
  (hl : ∀ p ∈ av 0 code, iz env p.2 (env.L p.1)) (hG : ∀ c ∈ bn code, vc env c env.G) (soft : Bool) {args : List AV} {hp : List AO} {K : AV → List AO → Prop} (hb : qn4 env plain soft fn code args hp K) : ∃ r h', K r h' ∧ fj env.P f args hp r h' := by
 unfold qn4 at hb
 split at hb
 ·rename_i hchk
  simp only [Bool.and_eq_true] at hchk
  obtain ⟨⟨h1, h2⟩, h3⟩ := hchk
  obtain ⟨ex, s', h4, h5⟩ := jl hE hm code 0 hl hG _ _ hb
  have key : (ex = .normal ∨ ex = .ret) → qs3 env soft fn.results.toList s' K → ∃ r h', K r h' ∧ fj env.P f args hp r h' := fun hex hk => by
   obtain ⟨r, h', h6, h7⟩ := qbg hk
   exact ⟨r, h', h6, qsf hf hcode (Nat.eq_of_beq_eq_true h1) (Nat.le_of_ble_eq_true h2) (Nat.eq_of_beq_eq_true h3) h5 hex h7⟩
  cases ex with
  | normal => exact key (.inl rfl) h4
  | ret => exact key (.inr rfl) h4
  | exit id => exact h4.elim
  | goto l => exact h4.elim
 ·exact hb.elim
structure qiw (P : Program) where
 f : FuncId
 run : bd → bd
 ok : ∀ fb, ah P f fb → ah P f (run fb)
def qoj {P : Program} (f : FuncId) : List (qiw P) → Option (bd → bd)
 | [] => none
 | e :: r => match Nat.beq e.f f with | true => some e.run | false => qoj f r
theorem qhp {P : Program} {f : FuncId} : ∀ {l : List (qiw P)} {c : bd → bd}, qoj f l = some c → ∀ fb, ah P f fb → ah P f (c fb)
 | [], _, h => by cases h
 | e :: r, c, h => by
  simp only [qoj] at h
  split at h
  ·rename_i hb
   injection h with h
   have := Nat.eq_of_beq_eq_true hb
   subst this h
   exact e.ok
  ·exact qhp h
end
end Go.RX
namespace Go.RX
def yj (o : Oper) : Bool := match o.op with
 | .call cl => match cl.callee with
  | .builtin .recover => true
  | _ => false
 | _ => false
def zg (env : Env) : List Oper → St → (St → Prop) → Prop
 | [], s, K => K s
 | o :: os, s, K => match o.guard, qah env.nt o.dst with
  | none, true => match yj o with
   | true => zg env os ⟨(s.put o.dst (.p .nili)).sl, s.hp⟩ K
   | false => env.S o (ou s.sl) (gw s.hp) s.hp.length fun v wr => match qj0 s.hp.length wr with
    | true => zg env os ⟨(s.put o.dst v).sl, ik s.hp wr⟩ K
    | false => False
  | _, _ => False
def uk (env : Env) : Code → St → (Ex → St → Prop) → Prop
 | .skip, s, K => K .normal s
 | .region _ ops false, s, K => zg env ops.toList s fun s' => K .normal s'
 | .seq x y, s, K => uk env x s fun e s' => match e with
  | .normal => uk env y s' K
  | .ret => K .ret s'
  | _ => False
 | .cond c x y, s, K => qdi (ou s.sl c) fun t => match t with
  | true => uk env x s K
  | false => uk env y s K
 | .ret, s, K => K .ret s
 | _, _, _ => False
def qcx (env : Env) : List Oper → St → (St → Prop) → Prop
 | [], s, K => K s
 | o :: os, s, K => match o.guard, qah env.nt o.dst with
  | none, true => env.S o (ou s.sl) (gw s.hp) s.hp.length fun v wr => match qj0 s.hp.length wr with
    | true => qcx env os ⟨(s.put o.dst v).sl, ik s.hp wr⟩ K
    | false => False
  | _, _ => False
section
variable {env : Env} {plain : cn}
theorem tl (hE : ot env plain) (ops : Array Oper) (n0 : Nat) : ∀ (os pre post : List Oper), ops.toList = pre ++ (os ++ post) → ∀ (s : St) (K : St → Prop), qcx env os s K →
  ∃ s', K s' ∧ ∀ (D : List Deferred) (c : Cx) (a : Act) (Q : Exit → Act → World → Prop) (l : List Nat), SR env.nt D s c a →
   (∀ c' a', SR env.nt D s' c' a' → Kept n0 c (ct s.hp) c' (ct s'.hp) → wpOps env.P ops Q l a' c'.w) → wpOps env.P ops Q (List.range' pre.length os.length ++ l) a c.w
 | [], pre, post, _, s, K, h => ⟨s, h, fun D c a Q l hs hq => by simpa using hq c a hs (Kept.refl n0 c _)⟩
 | o :: os, pre, post, hops, s, K, h => by
  simp only [qcx] at h
  split at h
  ·rename_i hg hd
   have ho : ops[pre.length]? = some o := by
    rw [← Array.getElem?_toList, hops]
    simp
   have hops' : ops.toList = (pre ++ [o]) ++ (os ++ post) := by simpa using hops
   have hlen : (pre ++ [o]).length = pre.length + 1 := by simp
   obtain ⟨v, wr, h2, h3⟩ := hE.S o _ _ _ h
   split at h2
   ·rename_i hok
    obtain ⟨s', h4, h5⟩ := tl hE ops n0 os (pre ++ [o]) post hops' _ K h2
    refine ⟨s', h4, fun D c a Q l hs hq => ?_⟩
    rw [List.length_cons, List.range'_succ, List.cons_append]
    simp only [wpOps, ho]
    rw [lq hg]
    simp only [if_true]
    refine .inl (h3 c (ct s.hp) a _ Q (fun x _ => pa hs.sl x) (fun i hi => kz hi) (fun i hi _ hb => ?_) hs.hr fun u c' hu hr he hf hb => ?_)
    ·have := (hs.hp.born i).1 hb
     omega
    ·obtain ⟨k1, k2⟩ := qb1 (n0 := n0) hd hok hs hu hr he hf hb
     rw [← hlen]
     exact h5 D c' _ Q l k1 fun c2 a2 hs2 hk2 => hq c2 a2 hs2 (Kept.trans k2 hk2)
   ·exact h2.elim
  ·exact h.elim
theorem qgm {P : Program} {o : Oper} (h : yj o = true) (a : Act) (w : World) : (execOp a.eval o).run P w = .ok .recover w := by
 obtain ⟨dst, op, ty, pos, after, guard⟩ := o
 unfold yj at h
 simp only at h
 split at h
 ·rename_i cl
  split at h
  ·rename_i hc
   obtain ⟨callee, args, ats⟩ := cl
   simp only at hc
   subst hc
   simp [execOp, resolve, invoke, builtin]
  ·cases h
 ·cases h
theorem nz (hE : ot env plain) (ops : Array Oper) (n0 : Nat) : ∀ (os pre : List Oper), ops.toList = pre ++ os → ∀ (s : St) (K : St → Prop), zg env os s K →
  ∃ s', K s' ∧ ∀ (D : List Deferred) (c : Cx) (a : Act) (cs : List Frame) (Q : Exit → Act → List Frame → World → Prop), recoverD cs = none → SR env.nt D s c a →
   (∀ c' a', SR env.nt D s' c' a' → Kept n0 c (ct s.hp) c' (ct s'.hp) → Q .normal a' cs c'.w) → wpOpsS env.P ops Q (List.range' pre.length os.length) a cs c.w
 | [], pre, _, s, K, h => ⟨s, h, fun D c a cs Q _ hs hq => by simpa [wpOpsS] using hq c a hs (Kept.refl n0 c _)⟩
 | o :: os, pre, hops, s, K, h => by
  simp only [zg] at h
  split at h
  ·rename_i hg hd
   have ho : ops[pre.length]? = some o := by
    rw [← Array.getElem?_toList, hops]
    simp
   have hops' : ops.toList = (pre ++ [o]) ++ os := by simpa using hops
   have hlen : (pre ++ [o]).length = pre.length + 1 := by simp
   split at h
   ·rename_i hrec
    obtain ⟨s', h4, h5⟩ := nz hE ops n0 os (pre ++ [o]) hops' _ K h
    refine ⟨s', h4, fun D c a cs Q hcs hs hq => ?_⟩
    rw [List.length_cons, List.range'_succ]
    simp only [wpOpsS, ho]
    rw [lq hg]
    simp only [if_true, qgm hrec, hcs]
    rw [← hlen]
    exact h5 D c _ cs Q hcs ⟨qnp hd hs.size hs.sl (v := .p .nili) (by simp [V, RoC]), hs.hp, by rw [qu]; exact hs.size, by rw [put_defers]; exact hs.defers⟩ fun c2 a2 hs2 hk2 => hq c2 a2 hs2 hk2
   ·obtain ⟨v, wr, h2, h3⟩ := hE.S o _ _ _ h
    split at h2
    ·rename_i hok
     obtain ⟨s', h4, h5⟩ := nz hE ops n0 os (pre ++ [o]) hops' _ K h2
     refine ⟨s', h4, fun D c a cs Q hcs hs hq => ?_⟩
     rw [List.length_cons, List.range'_succ]
     simp only [wpOpsS, ho]
     rw [lq hg]
     simp only [if_true]
     have hw := h3 c (ct s.hp) a (fun a' w' => wpOpsS env.P ops Q (List.range' (pre.length + 1) os.length) a' cs w') (fun e a' w' => Q e a' cs w') (fun x _ => pa hs.sl x) (fun i hi => kz hi) (fun i hi _ hb => by
      have := (hs.hp.born i).1 hb
      omega) hs.hr fun u c' hu hr he hf hb => by
       obtain ⟨k1, k2⟩ := qb1 (n0 := n0) hd hok hs hu hr he hf hb
       rw [← hlen]
       exact h5 D c' _ cs Q hcs k1 fun c2 a2 hs2 hk2 => hq c2 a2 hs2 (Kept.trans k2 hk2)
     unfold Oper.wp at hw
     revert hw
     generalize (execOp a.eval o).run env.P c.w = r
     intro hw
     split
     ·exact hw.elim
     ·exact hw
    ·exact h2.elim
  ·exact h.elim
theorem xb {P : Program} {c : Code} {Q Q' : Exit → Act → List Frame → World → Prop} {a : Act} {cs : List Frame} {w : World} (h : c.wpS P Q a cs w) (hq : ∀ e a cs w, Q e a cs w → Q' e a cs w) : c.wpS P Q' a cs w :=
 fun b k h1 h2 => let ⟨e, a', cs', w', q, r⟩ := h b k h1 h2; ⟨e, a', cs', w', hq _ _ _ _ q, r⟩
def qs6 (D : List Deferred) (env : Env) (s' : St) (ex : Ex) (c0 : Cx) (h0 : HP) (cs : List Frame) : Exit → Act → List Frame → World → Prop := fun e a cs' w => cs' = cs ∧ qe8 D env s' ex c0 h0 e a w
def q1y (env : Env) (code : Code) (s : St) (ex : Ex) (s' : St) : Prop :=
 ∀ (D : List Deferred) (c : Cx) (a : Act) (cs : List Frame), recoverD cs = none → SR env.nt D s c a → code.wpS env.P (qs6 D env s' ex c (ct s.hp) cs) a cs c.w
theorem qfx (hE : ot env plain) : ∀ (code : Code) (s : St) (K : Ex → St → Prop), uk env code s K → ∃ ex s', K ex s' ∧ (ex = .normal ∨ ex = .ret) ∧ q1y env code s ex s' := by
 intro code
 induction code with
 | skip =>
  intro s K h
  simp only [uk] at h
  exact ⟨.normal, s, h, .inl rfl, fun D c a cs _ hs => wpS_of_wp (wp_skip ⟨rfl, rfl, c, rfl, hs, Kept.refl _ _ _⟩)⟩
 | ret =>
  intro s K h
  simp only [uk] at h
  exact ⟨.ret, s, h, .inr rfl, fun D c a cs _ hs => wpS_of_wp (wp_ret ⟨rfl, rfl, c, rfl, hs, Kept.refl _ _ _⟩)⟩
 | region id ops draw =>
  intro s K h
  cases draw with
  | true => simp only [uk] at h
  | false =>
   simp only [uk] at h
   obtain ⟨s', h1, h2⟩ := nz hE ops env.n0 ops.toList [] rfl s _ h
   refine ⟨.normal, s', h1, .inl rfl, fun D c a cs hcs hs => wpS_region ?_⟩
   have := h2 D c a cs (qs6 D env s' .normal c (ct s.hp) cs) hcs hs fun c' a' hs' hk => ⟨rfl, rfl, c', rfl, hs', hk⟩
   rw [List.range_eq_range', ← Array.length_toList]
   exact this
 | seq x y ihx ihy =>
  intro s K h
  simp only [uk] at h
  obtain ⟨ex, s1, h1, hex, h2⟩ := ihx s _ h
  rcases hex with rfl | rfl
  ·obtain ⟨ex2, s2, h3, hex2, h4⟩ := ihy s1 K h1
   refine ⟨ex2, s2, h3, hex2, fun D c a cs hcs hs => wpS_seq (xb (h2 D c a cs hcs hs) fun e a' cs' w' he => ?_)⟩
   obtain ⟨rfl, rfl, c', rfl, hs', hk⟩ := he
   exact xb (h4 D c' a' cs' hcs hs') fun _ _ _ _ hp => ⟨hp.1, hp.2.mono hk⟩
  ·refine ⟨.ret, s1, h1, .inr rfl, fun D c a cs hcs hs => wpS_seq (xb (h2 D c a cs hcs hs) fun e a' cs' w' he => ?_)⟩
   obtain ⟨e1, e2, r⟩ := he
   subst e2
   exact ⟨e1, rfl, r⟩
 | cond c x y ihx ihy =>
  intro s K h
  simp only [uk] at h
  obtain ⟨t, ht, h1⟩ := o8 h
  cases t with
  | true =>
   obtain ⟨ex, s', h2, hex, h3⟩ := ihx s K h1
   refine ⟨ex, s', h2, hex, fun D cx a cs hcs hs => ?_⟩
   have hb := sc (by have := pa hs.sl c; rw [ht] at this; exact this)
   exact wpS_cond hb (h3 D cx a cs hcs hs)
  | false =>
   obtain ⟨ex, s', h2, hex, h3⟩ := ihy s K h1
   refine ⟨ex, s', h2, hex, fun D cx a cs hcs hs => ?_⟩
   have hb := sc (by have := pa hs.sl c; rw [ht] at this; exact this)
   exact wpS_cond hb (h3 D cx a cs hcs hs)
 | _ =>
  intro s K h
  simp only [uk] at h
theorem Kept.le {m n : Nat} {c c' : Cx} {h h' : HP} (hmn : m ≤ n) (k : Kept n c h c' h') : Kept m c h c' h' := ⟨k.fr, fun i hi hb => k.β i (Nat.lt_of_lt_of_le hi hmn) hb⟩
theorem Kept.ext {n : Nat} {c c' : Cx} {h h' : HP} (hh : HR c h) (hb : ∀ i, c.born i → i < n) (k : Kept n c h c' h') : Ext c c' :=
 ⟨fun i hi => (k.β i (hb i hi) hi).1, fun i hi => (k.β i (hb i hi) hi).2, k.fr.mono, fun b hI => k.fr.keep b (hh.bound b hI) fun i hl hbl => hh.apart i b hl hbl hI, k.fr.base⟩
def kv (n : Nat) : List AV → Bool
 | [] => true
 | .ptr i _ :: r => match Nat.blt i n with | true => kv n r | false => false
 | _ => false
theorem qg6 {n : Nat} {c c' : Cx} (hk : ∀ i, i < n → c.born i → c'.born i ∧ c'.β i = c.β i) : ∀ {l : List AV} {vs : List Value}, kv n l = true → Vs c l vs → Vs c' l vs
 | [], _, _, h => h
 | .ptr i o :: r, vs, ha, h => by
  simp only [kv] at ha
  split at ha
  ·rename_i hb
   simp only [Vs, V] at h ⊢
   obtain ⟨y, ys, rfl, ⟨h1, b, h2, h3⟩, h4⟩ := h
   obtain ⟨q1, q2⟩ := hk i (jt hb) h1
   exact ⟨y, ys, rfl, ⟨q1, b, q2.trans h2, h3⟩, qg6 hk ha h4⟩
  ·cases ha
 | .undef :: _, _, ha, _ => by simp [kv] at ha
 | .p _ :: _, _, ha, _ => by simp [kv] at ha
 | .eptr _ _ _ :: _, _, ha, _ => by simp [kv] at ha
 | .rop _ :: _, _, ha, _ => by simp [kv] at ha
 | .row _ :: _, _, ha, _ => by simp [kv] at ha
 | .map _ :: _, _, ha, _ => by simp [kv] at ha
 | .iter _ :: _, _, ha, _ => by simp [kv] at ha
 | .func _ _ _ :: _, _, ha, _ => by simp [kv] at ha
 | .agg _ :: _, _, ha, _ => by simp [kv] at ha
 | .tup _ :: _, _, ha, _ => by simp [kv] at ha
 | .iface _ _ :: _, _, ha, _ => by simp [kv] at ha
def qce (o : Oper) : Option Tmp := match o.op, o.guard, o.dst with
 | .defer cl, none, none => match cl.callee, cl.args.toList with
  | .value (.tmp t), [] => some t
  | _, _ => none
 | _, _, _ => none
def qf5 : List Oper → List Oper
 | [] => []
 | [_] => []
 | o :: r => o :: qf5 r
def qlt : List Oper → Option Oper
 | [] => none
 | [o] => some o
 | _ :: r => qlt r
theorem qdx : ∀ {l : List Oper} {o : Oper}, qlt l = some o → l = qf5 l ++ [o]
 | [], _, h => by cases h
 | [x], o, h => by simp [qlt] at h; simp [qf5, h]
 | x :: y :: r, o, h => by
  simp only [qlt, qf5] at h ⊢
  rw [List.cons_append, ← qdx (l := y :: r) h]
end
structure Sp where
 x : Code
 id : Nat
 ops : Array Oper
 t : Tmp
 rest : Code
def qim : Code → Option Sp
 | .seq x (.seq (.region id ops false) rest) => match qlt ops.toList with
  | some o => match qce o with
   | some t => some ⟨x, id, ops, t, rest⟩
   | none => none
  | none => none
 | _ => none
def qq7 (env : Env) (envR : Nat → Env) (envG : Nat → Nat → Env) (plain : cn) (soft : Bool) (fn : Func) (sp : Sp) (gf : FuncId → Option Func) (args : List AV) (h : List AO) (K : AV → List AO → Prop) : Prop :=
 match Nat.beq fn.ntmps env.nt && Nat.ble args.length fn.ntmps && Nat.beq h.length env.n0 with
 | true => exec env plain 0 sp.x ⟨number 0 args, h⟩ fun e s1 => match e with
  | .normal => qcx env (qf5 sp.ops.toList) s1 fun s2 => match Nat.ble env.n0 s2.hp.length, cy s2.sl sp.t with
   | true, .func (.func g) first captured => match gf g, kv s2.hp.length (first ++ captured) with
    | some gfn, true => match gfn.body, gfn.results.toList, Nat.ble (first ++ captured).length gfn.ntmps with
     | some gcode, [], true => exec (envR s2.hp.length) plain 0 sp.rest s2 fun e s3 => match e with
      | .ret => uk (envG gfn.ntmps s3.hp.length) gcode ⟨number 0 (first ++ captured), s3.hp⟩ fun _ s4 => qs3 env soft fn.results.toList ⟨s3.sl, s4.hp⟩ K
      | _ => False
     | _, _, _ => False
    | _, _ => False
   | _, _ => False
  | _ => False
 | false => False
theorem qh9 {c : Cx} {args : List AV} {vals : Array Value} (hv : Vs c args vals.toList) (k : Nat) (t : Nat) : V c (cy (number 0 args) t) ((vals ++ Array.replicate k undef).getD t undef) := by
 have := lz args 0 t
 rw [Nat.zero_add] at this
 rw [this]
 cases ha : args[t]? with
 | none => simp [V]
 | some x =>
  obtain ⟨u, h6, h7⟩ := hv.get t x ha
  have hlt : t < vals.size := by
   have := (List.getElem?_eq_some_iff.1 h6).1
   simpa using this
  have h8 : vals[t]? = some u := by simpa using h6
  have h9 : (vals ++ Array.replicate k undef).getD t undef = u := by
   simp only [Array.getD_eq_getD_getElem?]
   rw [Array.getElem?_append_left hlt, h8]
   rfl
  show V c ((some x).getD .undef) _
  rw [h9]
  exact h7
theorem qfs {o : Oper} {t : Tmp} (h : qce o = some t) : ∃ ats ty pos after, o = ⟨none, .defer ⟨.value (.tmp t), #[], ats⟩, ty, pos, after, none⟩ := by
 obtain ⟨dst, op, ty, pos, after, guard⟩ := o
 unfold qce at h
 simp only at h
 split at h
 ·rename_i cl
  split at h
  ·rename_i t' hc ha
   injection h with h
   obtain ⟨callee, args, ats⟩ := cl
   simp only at hc ha
   have : args = #[] := Array.toList_inj.1 ha
   subst hc this h
   exact ⟨ats, ty, pos, after, rfl⟩
  ·cases h
 ·cases h
theorem qjx {code : Code} {sp : Sp} (h : qim code = some sp) : ∃ o, code = .seq sp.x (.seq (.region sp.id sp.ops false) sp.rest) ∧ sp.ops.toList = qf5 sp.ops.toList ++ [o] ∧ qce o = some sp.t := by
 unfold qim at h
 split at h
 ·rename_i x id ops rest
  split at h
  ·rename_i o hl
   split at h
   ·rename_i t ht
    injection h with h
    subst h
    exact ⟨o, rfl, qdx hl, ht⟩
   ·cases h
  ·cases h
 ·cases h
set_option maxHeartbeats 2000000 in
theorem qfp {P : Program} {pl : cn} {C : FuncId → bd} {code : Code} {kp : List Nat} {nt n0 n : Nat} (hC : ∀ f, ah P f (C f)) (hpl : j5 P pl) (hm : P.follows .mixedOrders = true)
  (hnm : ∀ (f : FuncId) (fn : Func), P.funcs[f]? = some fn → (fn.name == "runtime.NumGoroutine") = false) (hn : (keys (av 0 code)).Nodup) (hs1 : (bn code).length ≤ 1)
  {f : FuncId} {fn : Func} (hf : dk P f fn) (hcode : fn.body = some code) (soft : Bool) {sp : Sp} (hsp : qim code = some sp) {args : List AV} {hp : List AO} {K : AV → List AO → Prop}
  (hb : qq7 (i9 P pl C code kp nt n0 n) (fun m => i9 P pl C code kp nt m n) (fun nt m => i9 P pl C .skip [] nt m 0) pl soft fn sp (fun g => P.funcs[g]?) args hp K) : ∃ r h', K r h' ∧ fj P f args hp r h' := by
 obtain ⟨o, ec, eo, hdo⟩ := qjx hsp
 obtain ⟨ats, ty, pos, after, rfl⟩ := qfs hdo
 have hE : ∀ {code : Code} {kp : List Nat} {nt n0 n : Nat}, ot (i9 P pl C code kp nt n0 n) pl := ⟨fun o ρ rd fresh _ h => rz (env := qsz P C) ⟨qiv P, hC, hpl⟩ o ρ rd fresh h, qcv⟩
 have hLG := fun m => qcc (kp := kp) (nt := nt) (n0 := m) hC hpl hm hn hs1 n
 have lx : ∀ p ∈ av 0 sp.x, p ∈ av 0 code := fun p hp => by rw [ec]; simp only [av, List.mem_append]; exact .inl hp
 have lr : ∀ p ∈ av 0 sp.rest, p ∈ av 0 code := fun p hp => by rw [ec]; simp only [av, List.mem_append]; exact .inr (.inr hp)
 have sx : ∀ p ∈ bn sp.x, p ∈ bn code := fun p hp => by rw [ec]; simp only [bn, List.mem_append]; exact .inl hp
 have sr : ∀ p ∈ bn sp.rest, p ∈ bn code := fun p hp => by rw [ec]; simp only [bn, List.mem_append]; exact .inr (.inr hp)
 unfold qq7 at hb
 generalize qf5 sp.ops.toList = il at hb eo
 split at hb
 ·rename_i hchk
  simp only [Bool.and_eq_true] at hchk
  obtain ⟨⟨c1, c2⟩, c3⟩ := hchk
  have q1 : fn.ntmps = nt := Nat.eq_of_beq_eq_true c1
  have q2 := Nat.le_of_ble_eq_true c2
  have q3 : hp.length = n0 := Nat.eq_of_beq_eq_true c3
  obtain ⟨ex1, s1, h1, g1⟩ := jl hE hm sp.x 0 (fun p hp => (hLG n0).1 p (lx p hp)) (fun p hp => (hLG n0).2 p (sx p hp)) _ _ hb
  cases ex1 with
  | exit id => exact h1.elim
  | ret => exact h1.elim
  | goto l => exact h1.elim
  | normal =>
  obtain ⟨s2, h2, g2⟩ := tl hE sp.ops n0 (il) [] [_] (by simpa using eo) s1 _ h1
  split at h2
  ·rename_i g first captured hle hslot
   have hn2 : n0 ≤ s2.hp.length := Nat.le_of_ble_eq_true hle
   split at h2
   ·rename_i gfn hgf hap
    split at h2
    ·rename_i gcode hgb hgr hga
     have hga' := Nat.le_of_ble_eq_true hga
     obtain ⟨ex3, s3, h3, g3⟩ := jl hE hm sp.rest 0 (fun p hp => (hLG s2.hp.length).1 p (lr p hp)) (fun p hp => (hLG s2.hp.length).2 p (sr p hp)) _ _ h2
     cases ex3 with
     | normal => exact h3.elim
     | exit id => exact h3.elim
     | goto l => exact h3.elim
     | ret =>
     obtain ⟨ex4, s4, h4, hex4, g4⟩ := qfx hE gcode _ _ h3
     obtain ⟨r, h', h5, g5⟩ := qbg h4
     refine ⟨r, h', h5, fun c vals o a next Q hv hr hnext => ?_⟩
     have hrun : (callFunc f vals).run P c.w = .ok (.enter f vals) c.w := by
      simp [callFunc, hf.at_, hf.ne, hcode]
     rw [hrun, Oper.upon_enter]
     have hvl : vals.size = args.length := by simpa using hv.length
     have hgn : gfn.name ≠ "runtime.NumGoroutine" := by simpa using hnm g gfn hgf
     refine calls_of_wp_defers hf.at_ hcode ?_
     rw [ec]
     refine wp_seq (wp_mono (g1 [] c { tmps := vals ++ Array.replicate (fn.ntmps - vals.size) undef, defers := [] } ⟨fun t => qh9 hv _ t, hr, by show _ = nt; simp; omega, rfl⟩) fun e1 a1 w1 he1 => ?_)
     obtain ⟨rfl, c1, rfl, hs1', hk1⟩ := he1
     refine wp_seq (wp_region ?_)
     have hsz : List.range sp.ops.size = List.range' 0 (il).length ++ [(il).length] := by
      have : sp.ops.size = il.length + 1 := by
       rw [← Array.length_toList, eo]
       simp
      rw [this, List.range_succ, List.range_eq_range']
     rw [hsz]
     refine g2 [] c1 a1 _ _ hs1' fun c2 a2 hs2 hk2 => ?_
     have hlast : sp.ops[(il).length]? = some ⟨none, .defer ⟨.value (.tmp sp.t), #[], ats⟩, ty, pos, after, none⟩ := by
      rw [← Array.getElem?_toList, eo]
      simp
     have hslotV := hs2.sl sp.t
     rw [hslot] at hslotV
     simp only [V] at hslotV
     obtain ⟨F, G, hcl, hF, hG⟩ := hslotV
     have hdrun : (execOp a2.eval ⟨none, .defer ⟨.value (.tmp sp.t), #[], ats⟩, ty, pos, after, none⟩).run P c2.w = .ok (.defer { target := .fn (.func g) G, args := F ++ #[] }) c2.w := by
      simp [execOp, resolve, Act.eval, hcl, Deferred.ofValue]
     simp only [wpOps, hlast]
     rw [lq rfl]
     simp only [if_true]
     refine .inl ?_
     unfold Oper.wp
     show Oper.upon P _ a2 _ _ ((execOp a2.eval _).run P c2.w)
     rw [hdrun, Oper.upon_defer]
     show Exit.then _ _ .normal _ _
     simp only [Exit.then]
     refine wp_mono (g3 [{ target := .fn (.func g) G, args := F ++ #[] }] c2 { a2 with defers := [{ target := .fn (.func g) G, args := F ++ #[] }] } ⟨hs2.sl, hs2.hp, hs2.size, rfl⟩ |> fun z => by
      have e0 : ({ a2 with defers := { target := .fn (.func g) G, args := F ++ #[] } :: a2.defers } : Act).put none undef = { a2 with defers := [{ target := .fn (.func g) G, args := F ++ #[] }] } := by
       simp [Act.put, hs2.defers]
      rw [e0]
      exact z) fun e3 a3 w3 he3 => ?_
     obtain ⟨rfl, c3, rfl, hs3, hk3⟩ := he3
     show Leaves P fn a3.tmps _ a3.defers .returning c3.w
     rw [hs3.defers]
     have hFG : Vs c3 (first ++ captured) (F ++ #[] ++ G).toList := by
      have h0 : Vs c2 (first ++ captured) (F ++ #[] ++ G).toList := by
       simpa using Vs.append hF hG
      exact qg6 (fun i hi hb => hk3.β i hi hb) hap h0
     have hFGs : (F ++ #[] ++ G).size = (first ++ captured).length := by have := hFG.length; simpa using this
     have hinv : (invoke (.fn (.func g) G) (F ++ #[])).run P c3.w = .ok (.enter g (F ++ #[] ++ G)) c3.w := by simp [invoke, callFunc, hgf, hgn, hgb]
     refine leaves_cons (by simp) hinv ?_
     generalize F ++ #[] ++ G = W at hFG hFGs
     have hSR : SR gfn.ntmps [] ⟨number 0 (first ++ captured), s3.hp⟩ c3 { tmps := W ++ Array.replicate (gfn.ntmps - W.size) undef, defers := [] } :=
      ⟨fun t => qh9 hFG _ t, hs3.hp, by show (W ++ Array.replicate (gfn.ntmps - W.size) undef).size = gfn.ntmps; rw [Array.size_append, Array.size_replicate]; omega, rfl⟩
     refine callsD_of_wpS hgf hgb fun c0 cs hu => ?_
     have hrec : recoverD (c0 :: cs) = none := by simp [recoverD, hu]
     refine xb (g4 [] c3 _ (c0 :: cs) hrec hSR) fun e4 a4 cs4 w4 he4 => ?_
     obtain ⟨rfl, e4', c4, rfl, hs4, hk4⟩ := he4
     obtain ⟨_, _, hresg⟩ := nv (env := i9 P pl C .skip [] gfn.ntmps s3.hp.length 0) (s := s4) (fn := gfn) (K := fun _ => True) (by rw [hgr]; trivial)
     obtain ⟨vg, hvg, _⟩ := hresg [] c4 a4 hs4
     have hext : Ext c3 c4 := hk4.ext hs3.hr fun i hi => (hs3.hp.born i).1 hi
     obtain ⟨v, c5, h6, h7, h8, h9, h10, h11⟩ := g5 [] c4 { tmps := a3.tmps, defers := [] } ⟨fun t => V.mono hext _ _ (hs3.sl t), hs4.hp, hs3.size, rfl⟩
     have hfin : Leaves P fn a3.tmps (fun e w'' => match e with
       | .returned v => next (a.put o.dst v) w''
       | .panicked chain => Q (.panic chain) a w''
       | .outgrown => LetsOut Q) [] .returning c4.w := by
      refine ⟨v, h7, ?_⟩
      have hk3' : Kept n0 c2 (ct s2.hp) c3 (ct s3.hp) := Kept.le hn2 hk3
      have hk4' : Kept n0 c3 (ct s3.hp) c4 (ct s4.hp) := ⟨hk4.fr, fun i _ hb => ⟨hext.born i hb, hext.β i hb⟩⟩
      have hK : Kept n0 c (ct hp) c5 (ct h') := (((hk1.trans hk2).trans hk3').trans hk4').trans h10
      show next (a.put o.dst v) c4.w
      rw [← h6]
      exact hnext v c5 h8 h9 hK.fr (by rw [q3]; exact h11) fun i hi => (hK.β i (by rw [← q3]; exact hi) ((hr.born i).2 hi)).2
     have hcs : (c0 :: cs) = ({ c0 with mode := .returning } :: cs : List Frame) := by rw [← hu]
     rcases hex4 with rfl | rfl
     ·subst e4'
      exact ⟨hs4.defers, .returning, hcs, vg, hvg, hfin⟩
     ·subst e4'
      exact ⟨hs4.defers, .returning, hcs, vg, hvg, hfin⟩
    ·exact h2.elim
   ·exact h2.elim
  ·exact h2.elim
 ·exact hb.elim
def qz4 (P : Program) (pl : cn) (soft : FuncId → Bool) (kp : FuncId → List Nat) (C : FuncId → bd) (n : Nat) (f : FuncId) : bd := fun args h K =>
 match P.funcs[f]? with
 | some fn => match fn.body with
  | some code => match nodup (keys (av 0 code)) && Nat.ble (bn code).length 1 with
   | true => qfz args fun args => qqc h fun h => match qim code with
    | some sp => qq7 (i9 P pl C code (kp f) fn.ntmps h.length n) (fun m => i9 P pl C code (kp f) fn.ntmps m n) (fun nt m => i9 P pl C .skip [] nt m 0) pl (soft f) fn sp (fun g => P.funcs[g]?) args h fun r h' => fAV r fun r => qqc h' fun h' => K r h'
    | none => qn4 (i9 P pl C code (kp f) fn.ntmps h.length n) pl (soft f) fn code args h fun r h' => fAV r fun r => qqc h' fun h' => K r h'
   | false => False
  | none => False
 | none => False
theorem ql6 {P : Program} {pl : cn} {soft : FuncId → Bool} {kp : FuncId → List Nat} {C : FuncId → bd} {n : Nat} {f : FuncId} (hC : ∀ f, ah P f (C f)) (hpl : j5 P pl) (hm : P.follows .mixedOrders = true) (hnm : ∀ (f : FuncId) (fn : Func), P.funcs[f]? = some fn → (fn.name == "runtime.NumGoroutine") = false) :
  ah P f (qz4 P pl soft kp C n f) := by
 intro args h K hk
 unfold qz4 at hk
 split at hk
 ·rename_i fn hfn
  split at hk
  ·rename_i code hcode
   split at hk
   ·rename_i hchk
    simp only [Bool.and_eq_true] at hchk
    simp only [nh, qfy, qhq] at hk
    have hn := nodup_iff.1 hchk.1
    have hs := Nat.le_of_ble_eq_true hchk.2
    split at hk
    ·rename_i sp hsp
     exact qfp hC hpl hm hnm hn hs ⟨hfn, hnm f fn hfn⟩ hcode (soft f) hsp hk
    ·obtain ⟨hL, hG⟩ := qcc (kp := kp f) (nt := fn.ntmps) (n0 := h.length) hC hpl hm hn hs n
     exact xl (env := i9 P pl C code (kp f) fn.ntmps h.length n) ⟨fun o ρ rd fresh _ h => rz (env := qsz P C) ⟨qiv P, hC, hpl⟩ o ρ rd fresh h, qcv⟩ hm ⟨hfn, hnm f fn hfn⟩ hcode hL hG (soft f) hk
   ·exact hk.elim
  ·exact hk.elim
 ·exact hk.elim
def qtt (P : Program) (pl : cn) (soft : FuncId → Bool) (kp : FuncId → List Nat) (ext : List (qiw P)) (n : Nat) : Nat → FuncId → bd
 | 0 => fun _ => tf
 | k + 1 => fun f => match qoj f ext with
  | some c => c (qz4 P pl soft kp (qtt P pl soft kp ext n k) n f)
  | none => qz4 P pl soft kp (qtt P pl soft kp ext n k) n f
theorem qfr {P : Program} {pl : cn} {soft : FuncId → Bool} {kp : FuncId → List Nat} {ext : List (qiw P)} {n : Nat} (hpl : j5 P pl) (hm : P.follows .mixedOrders = true) (hnm : ∀ (f : FuncId) (fn : Func), P.funcs[f]? = some fn → (fn.name == "runtime.NumGoroutine") = false) :
  ∀ k f, ah P f (qtt P pl soft kp ext n k f)
 | 0, f => tg P f
 | k + 1, f => by
  unfold qtt
  split
  ·rename_i c hc
   exact qhp hc _ (ql6 (qfr hpl hm hnm k) hpl hm hnm)
  ·exact ql6 (qfr hpl hm hnm k) hpl hm hnm
end Go.RX
namespace Go.RX
structure qbv where
 args : List AV
 r : AV
 h : List AO
def qf8 (fb : bd) : List qbv → List AV → (AV → List AO → Prop) → Prop
 | [], args, K => fb args [] K
 | k :: l, args, K => match v8 k.args args with
  | true => K k.r k.h
  | false => qf8 fb l args K
def qql (l : List qbv) (fb : bd) : bd := fun args h K => match h with
 | [] => qf8 fb l args K
 | h => fb args h K
theorem fj.le {P : Program} {f : FuncId} {xs ys : List AV} {r : AV} {h : List AO} (hl : v8 xs ys = true) (k : fj P f xs [] r h) : fj P f ys [] r h :=
 fun c vals o a next Q hv hr hn => k c vals o a next Q (nk hl hv) hr hn
theorem sv {P : Program} {f : FuncId} {l : List qbv} (hl : ∀ k ∈ l, fj P f k.args [] k.r k.h) : ∀ fb, ah P f fb → ah P f (qql l fb) := by
 intro fb hfb args h K hk
 unfold qql at hk
 split at hk
 ·induction l with
  | nil => exact hfb _ _ _ hk
  | cons k l ih =>
   simp only [qf8] at hk
   split at hk
   ·rename_i hle
    exact ⟨_, _, hk, (hl k List.mem_cons_self).le hle⟩
   ·exact ih (fun x hx => hl x (List.mem_cons_of_mem _ hx)) hk
 ·exact hfb _ _ _ hk
theorem oa {P : Program} {f : FuncId} {C : bd} {args : List AV} {h : List AO} {r : AV} {h' : List AO} (hC : ah P f C) (he : ∀ K : AV → List AO → Prop, C args h K = K r h') : fj P f args h r h' := by
 obtain ⟨r1, h1, ⟨rfl, rfl⟩, h3⟩ := hC args h (fun r1 h1 => r1 = r ∧ h1 = h') (by rw [he]; exact ⟨rfl, rfl⟩)
 exact h3
def q6x : AV → AV
 | .tup (a :: _) => a
 | v => v
end Go.RX
namespace Go.RX
theorem fj.turn {P : Program} {f : FuncId} {args : List AV} {h h' : List AO} {r r' : AV} (hr : ∀ c v, V c r v → V c r' v) (k : fj P f args h r h') : fj P f args h r' h' :=
 fun c vals o a next Q hv hh hn => k c vals o a next Q hv hh fun v c' q1 => hn v c' (hr c' v q1)
theorem qkm {c : Cx} {m : Bool} {n : Nat} {g g' : Nat → PV} {v : Value} (hg : ∀ i, i < n → g' i = g i) (h : V c (.p (.arr m n g)) v) : V c (.p (.arr m n g')) v := by
 simp only [V, RoC] at h ⊢
 obtain ⟨a, cp, h1, h2, h3⟩ := h
 refine ⟨a, cp, h1, h2, fun h0 => ?_⟩
 obtain ⟨b, off, sz, k1, k2, k3, k4, k5⟩ := h3 h0
 exact ⟨b, off, sz, k1, k2, k3, k4, fun i hi => by rw [hg i hi]; exact k5 i hi⟩
def q7p (P : Program) (pl : cn) (nt : Nat) : Env :=
 { P := P, nt := nt, n0 := 0, weak := fun _ => false, weakB := fun _ => false, vw := vwC P, C := fun _ => tf, X := fun _ _ _ => False, S := qsq (qsz P fun _ => tf) pl, pre := fun _ s => s, L := fun _ => rb, G := fun _ => rb, lloop := fun _ => [], lexit := fun _ _ => [], lret := [], thaw := fun _ => [], anc := fun _ => [] }
theorem qri {P : Program} {pl : cn} (hpl : j5 P pl) (nt : Nat) : ot (q7p P pl nt) pl :=
 ⟨fun o ρ rd fresh _ h => qgw (env := qsz P fun _ => tf) ⟨qiv P, fun f => tg P f, hpl⟩ o ρ rd fresh h, fun _ _ _ _ c _ hs => ⟨c, rfl, hs, Kept.refl _ _ _⟩⟩
theorem qar {P : Program} {pl : cn} (hpl : j5 P pl) (hm : P.follows .mixedOrders = true) {f : FuncId} {fn : Func} (hf : dk P f fn) {code : Code} (hcode : fn.body = some code) (hl : av 0 code = []) (hsc : bn code = []) {e sz by_ : Nat}
  (h1 : ∀ (m : Bool) (k : Nat) (g : Nat → PV) (K : AV → List AO → Prop), qn4 (q7p P pl fn.ntmps) pl true fn code [.p (.arr m (k + 1) g)] [] K =
   ((∀ i, i < k + 1 → dn (g i) = sz) ∧ (([] : List PV).length + ((List.range (k + 1)).map g).length) * by_ ≤ 140737488355328 ∧ K (.p (.arr true (([] : List PV) ++ (List.range (k + 1)).map g).length fun j => (([] : List PV) ++ (List.range (k + 1)).map g).getD j .nilp)) []))
  (h0 : ∀ (w : World) (a : Option Addr) (c : Nat), Calls P f #[.slice a 0 c] w fun e' w' => (e' = .returned (.slice none 0 0) ∧ w' = w) ∨ (e' = .returned (.slice (some ⟨w.heap.size, 0, none⟩) 0 0) ∧ w' = w.alloc (.cells #[] e)))
  (m : Bool) (n : Nat) (g : Nat → PV) (hsz : ∀ i, i < n → dn (g i) = sz) (hn : n * by_ ≤ 140737488355328) : fj P f [.p (.arr m n g)] [] (.p (.arr true n g)) [] := by
 cases n with
 | zero =>
  intro c vals o a next Q hv hh hnext
  simp only [Vs, V, RoC] at hv
  obtain ⟨y, ys, hy, ⟨ad, cp, hy1, _⟩, hys⟩ := hv
  simp at hy1
  subst hy1 hys
  have hvals : vals = #[.slice ad 0 cp] := Array.toList_inj.1 hy
  subst hvals
  have hrun : (callFunc f #[.slice ad 0 cp]).run P c.w = .ok (.enter f #[.slice ad 0 cp]) c.w := by
   simp [callFunc, hf.at_, hf.ne, hcode]
  rw [hrun, Oper.upon_enter]
  refine (h0 c.w ad cp).mono fun e' w' he => ?_
  rcases he with ⟨rfl, rfl⟩ | ⟨rfl, rfl⟩
  ·exact hnext _ c (by simp only [V, RoC]; exact ⟨none, 0, rfl, ⟨Nat.le_refl _, Nat.zero_le _⟩, fun h => absurd h (by omega)⟩) hh (Fr.refl _ _) (Nat.le_refl _) fun _ _ => rfl
  ·have hlive : ∀ i, ¬ Live (ct []) i := fun i ⟨o, h, _⟩ => by simp [ct] at h
   have hnb : ∀ i, ¬ c.born i := fun i hi => by have := (hh.born i).1 hi; simp at this
   refine hnext _ { c with w := c.w.alloc (.cells #[] e) } (by simp only [V, RoC]; exact ⟨_, 0, rfl, ⟨Nat.le_refl _, Nat.zero_le _⟩, fun h => absurd h (by omega)⟩) ⟨⟨fun i o h => by simp [ct] at h, fun i j b hi => absurd hi (hlive i), fun i b hi => absurd hi (hlive i), fun b hb => ?_, fun i b hi => absurd hi (hlive i), fun i b hi => absurd hi (hlive i), ?_⟩, hh.born⟩
    ⟨rfl, rfl, rfl, ?_, fun b hb _ => heap_alloc_old c.w _ b hb, fun _ h => h, fun _ h => .inl h, fun i b hi => absurd hi (hlive i), rfl⟩ (Nat.le_refl _) fun _ _ => rfl
   ·have := hh.hr.bound b hb
    show b < (c.w.alloc _).heap.size
    rw [World.size_alloc]; omega
   ·have := hh.hr.base
    show c.base ≤ (c.w.alloc _).heap.size
    rw [World.size_alloc]; omega
   ·show c.w.heap.size ≤ (c.w.alloc _).heap.size
    rw [World.size_alloc]; omega
 | succ k =>
  obtain ⟨r, h', ⟨e1, e2⟩, h3⟩ := xl (qri hpl fn.ntmps) hm hf hcode (by rw [hl]; intro p hp; cases hp) (by rw [hsc]; intro p hp; cases hp) true (args := [.p (.arr m (k + 1) g)]) (hp := []) (K := fun r h' => r = (.p (.arr true (([] : List PV) ++ (List.range (k + 1)).map g).length fun j => (([] : List PV) ++ (List.range (k + 1)).map g).getD j .nilp)) ∧ h' = []) (by
   rw [h1]
   exact ⟨hsz, by simpa using hn, rfl, rfl⟩)
  subst e1 e2
  refine h3.turn fun c v hv => ?_
  have : (([] : List PV) ++ (List.range (k + 1)).map g).length = k + 1 := by simp
  rw [this] at hv
  refine qkm (fun i hi => ?_) hv
  simp [List.getD_eq_getElem?_getD, hi]
def qhg (sz by_ : Nat) : bd := fun args h K => match args, h with
 | [.p (.arr _ n g)], [] => ifB (qfj sz (qp4 g n []) && Nat.ble (n * by_) 140737488355328) (K (.p (.arr true n g)) [])
 | [.p .nils], [] => K (.p (.arr true 0 fun _ => .nilp)) []
 | _, _ => False
theorem qo4 {c : Cx} {m : Bool} {g : Nat → PV} {v : Value} (h : V c (.p .nils) v) : V c (.p (.arr m 0 g)) v := by
 simp only [V, RoC] at h ⊢
 exact ⟨none, 0, h, ⟨Nat.le_refl _, Nat.zero_le _⟩, fun h => absurd h (by omega)⟩
theorem qdm {P : Program} {f : FuncId} {sz by_ : Nat} (h : ∀ (m : Bool) (n : Nat) (g : Nat → PV), (∀ i, i < n → dn (g i) = sz) → n * by_ ≤ 140737488355328 → fj P f [.p (.arr m n g)] [] (.p (.arr true n g)) []) : ah P f (qhg sz by_) := by
 intro args hp K hk
 unfold qhg at hk
 split at hk
 ·rename_i m n g
  obtain ⟨h1, h2⟩ := ix hk
  simp only [Bool.and_eq_true] at h1
  have b := h1.1
  rw [qb5, List.append_nil] at b
  exact ⟨_, _, h2, h m n g (fun i hi => o6 b _ (List.mem_map.2 ⟨i, List.mem_range.2 hi, rfl⟩)) (Nat.le_of_ble_eq_true h1.2)⟩
 ·refine ⟨_, _, hk, fun c vals o a next Q hv hh hn => ?_⟩
  refine h true 0 (fun _ => .nilp) (fun i hi => absurd hi (by omega)) (by omega) c vals o a next Q ?_ hh hn
  simp only [Vs] at hv ⊢
  obtain ⟨y, ys, e1, e2, e3⟩ := hv
  exact ⟨y, ys, e1, qo4 e2, e3⟩
 ·exact hk.elim
end Go.RX
