/- A verified interpreter of the model's Code: what it makes of a function, the model does. No condition. -/
import Derived.Orders
import Derived.OwnWalk
import Derived.Laws.OwnMore
import Derived.Below
import Derived.Laws.Entries
import Derived.Laws.Tables
import Derived.Laws.StructEq
import Derived.ChangeKeysEq
set_option linter.all false
namespace Go.RX
inductive PV where
 | bool (b : Bool)
 | int (k : IntKind) (n : Int)
 | str (s : ByteArray)
 | nilp | nils | nilm | nilf | nili
 | arr (m : Bool) (n : Nat) (get : Nat → PV)
 | agg (cs : List PV)
inductive AV where
 | undef
 | p (x : PV)
 | ptr (id off : Nat)
 | eptr (id i c : Nat)
 | rop (cs : List PV)
 | row (id : Nat)
 | map (id : Nat)
 | iter (id : Nat)
 | func (fn : Fn) (first captured : List AV)
 | agg (cs : List AV)
 | tup (cs : List AV)
 | iface (t : TypeId) (v : AV)
inductive wi where
 | bool
 | int (k : IntKind)
 | str
 | str2
inductive AO where
 | dead
 | box (cs : List AV)
 | row (e sz : Nat) (xs : List PV)
 | ice (sz : Nat) (xs : List PV)
 | map (kk : wi) (es : List (PV × PV))
 | iter (s : ByteArray) (pos : Nat)
structure St where
 sl : List (Nat × AV)
 hp : List AO
def cy : List (Nat × AV) → Nat → AV
 | [], _ => .undef
 | (k, v) :: r, t => match Nat.beq k t with | true => v | false => cy r t
def gw : List AO → Nat → AO
 | [], _ => .dead
 | o :: _, 0 => o
 | _ :: r, n + 1 => gw r n
def qgt : List AO → Nat → AO → List AO
 | [], _, _ => []
 | _ :: r, 0, x => x :: r
 | o :: r, n + 1, x => o :: qgt r n x
def ik (h : List AO) : List (Nat × AO) → List AO
 | [] => h
 | (i, o) :: r => ik (match Nat.blt i h.length with | true => qgt h i o | false => h ++ [o]) r
def St.put (s : St) (d : Option Tmp) (v : AV) : St :=
 match d with
 | some t => { s with sl := (t, v) :: s.sl }
 | none => s
inductive Ex where
 | normal
 | exit (id : Nat)
 | ret
 | goto (l : Nat)
 deriving Inhabited
abbrev KA := AV → List (Nat × AO) → Prop
abbrev cn := TypeId → List PV → List PV → Option Bool
structure Env where
 P : Program
 nt : Nat
 n0 : Nat
 weak : FuncId → Bool
 weakB : FuncId → Bool
 vw : TypeId → PV → (List PV → Prop) → Prop
 C : FuncId → List AV → List AO → (AV → List AO → Prop) → Prop
 X : String → List AV → (AV → Prop) → Prop
 S : Oper → (Operand → AV) → (Nat → AO) → Nat → KA → Prop
 pre : Oper → St → St
 L : Nat → St → (Ex → St → Prop) → Prop
 G : Nat → St → (Ex → St → Prop) → Prop
 lloop : Nat → List Nat
 lexit : Nat → Nat → List Nat
 lret : List Nat
 thaw : Nat → List (Nat × (Nat × Option Nat))
 anc : Nat → List Nat
def ofConst : Value → Option PV
 | .bool b => some (.bool b)
 | .int k n => some (.int k n)
 | .string s => some (.str s)
 | .slice none 0 0 => some .nils
 | .pointer none => some .nilp
 | .map none => some .nilm
 | .nilFunc => some .nilf
 | .nilIface => some .nili
 | _ => none
def nq : List Value → Option (List PV)
 | [] => some []
 | v :: r => match ofConst v, nq r with
  | some x, some xs => some (x :: xs)
  | _, _ => none
def qcd : Value → AV
 | .agg C => match nq C.toList with
  | some xs => .agg (xs.map .p)
  | none => .undef
 | v => match ofConst v with
  | some x => .p x
  | none => .undef
def ou (sl : List (Nat × AV)) : Operand → AV
 | .tmp t => cy sl t
 | .const v => qcd v
 | .global _ => .undef
 | .func f => .func (.func f) [] []
def cellsOf : AV → Option (List AV)
 | .undef => none
 | .tup _ => none
 | .agg cs => some cs
 | v => some [v]
def dq : List AV → Option (List PV)
 | [] => some []
 | .p x :: r => (dq r).map (x :: ·)
 | _ => none
def qbd : AV → Option PV
 | .p (.agg _) => none
 | .p x => some x
 | .agg cs => (dq cs).map .agg
 | _ => none
def df (P : Program) (t : TypeId) : Option Bool :=
 match P.underlying t with
 | some (.struct _) | some (.array _ _) => some true
 | some _ => some false
 | none => none
def du (P : Program) (t : TypeId) : Option Nat := (P.info? t).map (·.size)
def qaq (P : Program) (t : TypeId) : Option Nat := (P.info? t).map (·.bytes)
def qda (P : Program) (t : TypeId) : Option Value := (P.info? t).bind (·.zero)
def zr (P : Program) (t : TypeId) : Option (Bool × Nat) :=
 match df P t, du P t with
 | some true, some n => some (true, n)
 | some false, some n => match Nat.beq n 1 with | true => some (false, n) | false => none
 | _, _ => none
def cut {α : Type} (cs : List α) (off n : Nat) : List α := (cs.drop off).take n
def im (agg : Bool) : List AV → AV
 | cs => match agg, cs with
  | true, cs => .agg cs
  | false, [x] => x
  | false, _ => .undef
def qdi (v : AV) (K : Bool → Prop) : Prop :=
 match v with
 | .p (.bool true) => K true
 | .p (.bool false) => K false
 | _ => False
end Go.RX
namespace Go.RX
mutual
def pf : AV → List Nat
 | .ptr i _ => [i]
 | .eptr i _ _ => [i]
 | .row i => [i]
 | .map i => [i]
 | .iter i => [i]
 | .func _ f c => pg f ++ pg c
 | .agg cs => pg cs
 | .tup cs => pg cs
 | .iface _ v => pf v
 | _ => []
def pg : List AV → List Nat
 | [] => []
 | x :: r => pf x ++ pg r
end
def qy7 : AO → List Nat
 | .box cs => pg cs
 | _ => []
mutual
def lu (f : Nat → Option Nat) : AV → AV
 | .undef => .undef
 | .p x => .p x
 | .rop cs => .rop cs
 | .ptr i o => match f i with | some j => .ptr j o | none => .undef
 | .eptr i a b => match f i with | some j => .eptr j a b | none => .undef
 | .row i => match f i with | some j => .row j | none => .undef
 | .map i => match f i with | some j => .map j | none => .undef
 | .iter i => match f i with | some j => .iter j | none => .undef
 | .func fn a b => .func fn (re f a) (re f b)
 | .agg cs => .agg (re f cs)
 | .tup cs => .tup (re f cs)
 | .iface t v => .iface t (lu f v)
def re (f : Nat → Option Nat) : List AV → List AV
 | [] => []
 | x :: r => lu f x :: re f r
end
def zb (f : Nat → Option Nat) : AO → AO
 | .box cs => .box (re f cs)
 | o => o
def jf (f : Nat → Option Nat) : List AO → List AO
 | [] => []
 | o :: r => zb f o :: jf f r
def qmb (f : Nat → Option Nat) : List (Nat × AV) → List (Nat × AV)
 | [] => []
 | (t, v) :: r => (t, lu f v) :: qmb f r
def mem (i : Nat) : List Nat → Bool
 | [] => false
 | j :: r => match Nat.beq i j with | true => true | false => mem i r
def place : List Nat → Nat → Option Nat
 | [], _ => none
 | j :: r, i => match Nat.beq j i with | true => some 0 | false => (place r i).map (· + 1)
def reach (rd : Nat → AO) : Nat → List Nat → List Nat → List Nat
 | 0, _, acc => acc
 | _ + 1, [], acc => acc
 | n + 1, i :: r, acc => match mem i acc with
  | true => reach rd n r acc
  | false => reach rd n (qy7 (rd i) ++ r) (acc ++ [i])
def oi (rd : Nat → AO) : List Nat → List Nat
 | [] => []
 | i :: r => qy7 (rd i) ++ oi rd r
def upto : Nat → List Nat
 | 0 => []
 | n + 1 => upto n ++ [n]
def qmw : List (Nat × AV) → List AV
 | [] => []
 | (_, v) :: r => v :: qmw r
def pick (h : List AO) : List Nat → List AO
 | [] => []
 | i :: r => gw h i :: pick h r
def ld (sl : List (Nat × AV)) : List Nat → List (Nat × AV)
 | [] => []
 | t :: r => (t, cy sl t) :: ld sl r
def nodup : List Nat → Bool
 | [] => true
 | i :: r => match mem i r with | true => false | false => nodup r
def kg (n : Nat) : List Nat → Bool
 | [] => true
 | i :: r => match Nat.blt i n with | true => kg n r | false => false
def kl : Nat → List Nat → Nat → Bool
 | 0, _, _ => true
 | _ + 1, [], _ => false
 | n + 1, j :: r, a => match Nat.beq j a with | true => kl n r (a + 1) | false => false
def qew (P : Program) (e : Nat) (s : St) : Nat × Option Nat → St
 | (t, none) => match cy s.sl t with
  | .p .nils => match du P e with
   | some sz => match Nat.blt 0 sz with
    | true => ⟨(t, .row s.hp.length) :: s.sl, s.hp ++ [.row e sz []]⟩
    | false => s
   | none => s
  | _ => s
 | (t, some c) => match cy s.sl t with
  | .ptr id _ => match gw s.hp id with
   | .box cs => match cs[c]? with
    | some (.p .nils) => match du P e with
     | some sz => match Nat.blt 0 sz with
      | true => ⟨s.sl, qgt s.hp id (.box (cs.set c (.row s.hp.length))) ++ [.row e sz []]⟩
      | false => s
     | none => s
    | _ => s
   | _ => s
  | _ => s
def canon (n0 : Nat) (s : St) (K : St → Prop) : Prop :=
 let L := reach (gw s.hp) 1000 (oi (gw s.hp) (upto n0) ++ pg (qmw s.sl)) (upto n0)
 match nodup L && kl n0 L 0 && kg s.hp.length L with
 | true => K ⟨qmb (place L) s.sl, jf (place L) (pick s.hp L)⟩
 | false => False
end Go.RX
namespace Go.RX
def ya (P : Program) (t : TypeId) : Option (List (Nat × TypeId × Bool)) :=
 match P.underlying t with
 | some (.struct fs) => some (fs.toList.map fun f => (f.offset, f.type, !(f.name == "_")))
 | _ => none
def cb (s : ByteArray) (i : Nat) : Int := (((s.data.toList[i]?).getD 0).toNat : Int)
def zw (cs : List AV) (off : Nat) (new : List AV) : List AV := cs.take off ++ new ++ cs.drop (off + new.length)
def zx (cs : List PV) (off : Nat) (new : List PV) : List PV := cs.take off ++ new ++ cs.drop (off + new.length)
def qr3 : List PV → Bool → PV
 | cs, true => .agg cs
 | [x], false => x
 | _, false => .nilp
def we : AV → AV
 | .p .nils => .p (.arr true 0 fun _ => .nilp)
 | v => v
def qad : AV → AV
 | .agg cs => .agg (cs.map we)
 | v => we v
def zeroCells (P : Program) (t : TypeId) : Option (List PV) :=
 match qda P t with
 | some (.agg C) => nq C.toList
 | some v => (ofConst v).map ([·])
 | none => none
def ud (P : Program) (t : TypeId) : Option PV :=
 match qda P t with
 | some (.agg C) => (nq C.toList).map .agg
 | some v => ofConst v
 | none => none
def qjd (at_ : Nat → Option (Nat × Nat)) (cs : List AV) : List (Nat × AV) → Option (List AV)
 | [] => some cs
 | (i, v) :: r => match at_ i with
  | some (off, size) => match cellsOf v with
   | some us => match Nat.beq us.length size && Nat.ble (off + size) cs.length with
    | true => qjd at_ (zw cs off us) r
    | false => none
   | none => none
  | none => none
def fieldAt (P : Program) (t : TypeId) (i : Nat) : Option (Nat × Nat) :=
 match ya P t with
 | some fs => match fs[i]? with
  | some (off, ft, _) => (du P ft).map fun n => (off, n)
  | none => none
 | none => none
def qgl (P : Program) (t : TypeId) : Option (Nat → Option (Nat × Nat)) :=
 match P.underlying t with
 | some (.struct fs) => (fs.toList.mapM fun f => (P.info? f.type).map fun i => (f.offset, i.size)).map fun l i => l[i]?
 | some (.array _ e) => (du P e).map fun n i => some (i * n, n)
 | _ => none
def dn : PV → Nat
 | .agg cs => cs.length
 | _ => 1
def qau (sz : Nat) : List PV → List (Nat × AV) → Option (List PV)
 | xs, [] => some xs
 | xs, (i, v) :: r => match qbd (qad v) with
  | some x => match Nat.beq (dn x) sz && Nat.blt i xs.length with
   | true => qau sz (xs.set i x) r
   | false => none
  | none => none
def eqK : PV → PV → Bool
 | .bool a, .bool b => a == b
 | .int _ a, .int _ b => a == b
 | .str a, .str b => a.toList == b.toList
 | .agg [.str a, .str c], .agg [.str b, .str d] => a.toList == b.toList && c.toList == d.toList
 | _, _ => false
def isKey : wi → PV → Bool
 | .bool, .bool _ => true
 | .int k, .int j _ => decide (k = j)
 | .str, .str _ => true
 | .str2, .agg [.str _, .str _] => true
 | _, _ => false
def lf (P : Program) (t : TypeId) : Option wi :=
 match P.underlying t with
 | some .bool => some .bool
 | some (.int k) => some (.int k)
 | some .string => some .str
 | some (.array 2 e) => match P.underlying e, du P e with
  | some .string, some 1 => some .str2
  | _, _ => none
 | _ => none
def qmk : wi → wi → Bool
 | .bool, .bool => true
 | .int k, .int j => decide (k = j)
 | .str, .str => true
 | .str2, .str2 => true
 | _, _ => false
def look (k : PV) : List (PV × PV) → Option PV
 | [] => none
 | (x, v) :: r => match eqK k x with | true => some v | false => look k r
def m5 (k v : PV) : List (PV × PV) → List (PV × PV)
 | [] => [(k, v)]
 | (x, u) :: r => match eqK k x with | true => (x, v) :: r | false => (x, u) :: m5 k v r
def qf6 (op : BinOp) (k : IntKind) (a b : Int) (K : AV → Prop) : Prop :=
 match op with
 | .add => K (.p (.int k (k.wrap (a + b))))
 | .sub => K (.p (.int k (k.wrap (a - b))))
 | .mul => K (.p (.int k (k.wrap (a * b))))
 | .quo => b ≠ 0 ∧ K (.p (.int k (k.wrap (a.tdiv b))))
 | .rem => b ≠ 0 ∧ K (.p (.int k (a.tmod b)))
 | .eql => K (.p (.bool (a == b)))
 | .neq => K (.p (.bool (a != b)))
 | .lss => K (.p (.bool (decide (a < b))))
 | .leq => K (.p (.bool (decide (a ≤ b))))
 | .gtr => K (.p (.bool (decide (a > b))))
 | .geq => K (.p (.bool (decide (a ≥ b))))
 | .shl => 0 ≤ b ∧ K (.p (.int k (k.wrap (a * 2 ^ (min b.toNat k.bits)))))
 | .shr => 0 ≤ b ∧ K (.p (.int k (a.fdiv (2 ^ (min b.toNat k.bits)))))
 | _ => False
def qgx (op : BinOp) (a b : ByteArray) (K : AV → Prop) : Prop :=
 match op with
 | .add => a.size + b.size ≤ 9223372036854775807 ∧ K (.p (.str (a ++ b)))
 | .eql => K (.p (.bool (a.toList == b.toList)))
 | .neq => K (.p (.bool (!(a.toList == b.toList))))
 | .lss => K (.p (.bool (Op.bytesLess a.toList b.toList)))
 | .leq => K (.p (.bool (Op.bytesLess a.toList b.toList || (a.toList == b.toList))))
 | .gtr => K (.p (.bool (!(Op.bytesLess a.toList b.toList || (a.toList == b.toList)))))
 | .geq => K (.p (.bool (!Op.bytesLess a.toList b.toList)))
 | _ => False
def isEq : BinOp → Option Bool
 | .eql => some true
 | .neq => some false
 | _ => none
def qtk (P : Program) (plain : cn) (op : BinOp) (t : TypeId) (x y : AV) (K : AV → Prop) : Prop :=
 match x, y with
 | .p (.int k a), .p (.int k' b) => match op with
  | .shl => qf6 .shl k a b K
  | .shr => qf6 .shr k a b K
  | op => match decide (k = k') with | true => qf6 op k a b K | false => False
 | .p (.str a), .p (.str b) => qgx op a b K
 | .p (.bool a), .p (.bool b) => match P.underlying t, isEq op with
  | some .bool, some true => K (.p (.bool (a == b)))
  | some .bool, some false => K (.p (.bool (!(a == b))))
  | _, _ => False
 | .agg xs, .agg ys => match dq xs, dq ys with
  | some us, some vs => match isEq op, plain t us vs with
   | some true, some b => K (.p (.bool b))
   | some false, some b => K (.p (.bool (!b)))
   | _, _ => False
  | _, _ => False
 | _, _ => False
def unA (op : UnOp) (x : AV) (K : AV → Prop) : Prop :=
 match op, x with
 | .not, .p (.bool b) => K (.p (.bool (!b)))
 | .neg, .p (.int k n) => K (.p (.int k (k.wrap (0 - n))))
 | _, _ => False
def qrc (P : Program) (src dst : TypeId) (x : AV) (K : AV → Prop) : Prop :=
 match P.underlying src, P.underlying dst, x with
 | some (.int _), some (.int k), .p (.int _ n) => K (.p (.int k (k.wrap n)))
 | some .string, some .string, .p (.str s) => K (.p (.str s))
 | _, _, _ => False
def og (x : Option AV) (d : Int) (K : Int → Prop) : Prop := match x with
 | none => K d
 | some (.p (.int _ n)) => K n
 | _ => False
def qes (P : Program) (t : TypeId) (x : AV) (lo hi mx : Option AV) (K : AV → Prop) : Prop :=
 match mx, P.underlying t, x with
 | none, some .string, .p (.str s) => og hi s.size fun h => og lo 0 fun l => 0 ≤ l ∧ l ≤ h ∧ h ≤ s.size ∧ K (.p (.str (s.extract l.toNat h.toNat)))
 | none, some (.slice e), .p (.arr m n g) => match du P e with
  | some sz => (∀ i, i < n → dn (g i) = sz) ∧ og hi n fun h => og lo 0 fun l => 0 ≤ l ∧ l ≤ h ∧ h ≤ n ∧ K (.p (.arr m (h.toNat - l.toNat) fun i => g (l.toNat + i)))
  | none => False
 | _, _, _ => False
def q60 (P : Program) (t : TypeId) (rd : Nat → AO) (x : AV) (K : AV → Prop) : Prop :=
 match P.underlying t, x with
 | some .string, .p (.str s) => K (.p (.int .i64 s.size))
 | some (.slice _), .p (.arr _ n _) => K (.p (.int .i64 n))
 | some (.slice _), .p .nils => K (.p (.int .i64 0))
 | some (.slice _), .row id => match rd id with
  | .row _ _ xs => K (.p (.int .i64 xs.length))
  | .ice _ xs => K (.p (.int .i64 xs.length))
  | _ => False
 | some (.map _ _), .map id => match rd id with
  | .map _ es => K (.p (.int .i64 es.length))
  | _ => False
 | _, _ => False
def yq (rd : Nat → AO) (sz : Nat) (x : AV) (K : List PV → Prop) : Prop :=
 match x with
 | .p .nils => K []
 | .p (.arr _ n g) => (∀ i, i < n → dn (g i) = sz) ∧ K ((List.range n).map g)
 | .row id => match rd id with
  | .row _ sz' xs => match Nat.beq sz' sz with | true => K xs | false => False
  | .ice _ xs => (∀ i, i < xs.length → dn (xs.getD i .nilp) = sz) ∧ K xs
  | _ => False
 | _ => False
def xi (P : Program) (rd : Nat → AO) (fresh : Nat) (t : TypeId) (s x : AV) (K : KA) : Prop :=
 match P.underlying t with
 | some (.slice e) => match du P e, qaq P e, ud P e with
  | some sz, some by_, some z => match Nat.blt 0 sz && Nat.blt 0 by_ && Nat.beq (dn z) sz with
   | true => yq rd sz x fun ys =>
    match s with
    | .p .nils => ys.length * by_ ≤ 140737488355328 ∧ K (.row fresh) [(fresh, .row e sz ys)]
    | .row id => match rd id with
     | .row e' sz' xs => match Nat.beq e e' && Nat.beq sz sz' with
      | true => (xs.length + ys.length) * by_ ≤ 140737488355328 ∧ K (.row fresh) [(id, .dead), (fresh, .row e sz (xs ++ ys))]
      | false => False
     | _ => False
    | _ => False
   | false => False
  | _, _, _ => False
 | _ => False
def qlb (env : Env) (rd : Nat → AO) (t : TypeId) (x : AV) (i : Int) (K : KA) : Prop :=
 match env.P.underlying t with
 | some (.slice e) => match x with
  | .p (.arr _ n g) => 0 ≤ i ∧ i < n ∧ env.vw e (g i.toNat) fun cs => K (.rop cs) []
  | .row id => match rd id with
   | .row _ sz xs => match du env.P e with
    | some n => match Nat.beq n sz with
     | true => 0 ≤ i ∧ i < xs.length ∧ K (.eptr id i.toNat 0) []
     | false => False
    | none => False
   | .ice _ xs => 0 ≤ i ∧ i < xs.length ∧ env.vw e (xs.getD i.toNat .nilp) fun cs => K (.rop cs) []
   | _ => False
  | _ => False
 | _ => False
def qrv (env : Env) (rd : Nat → AO) (t : TypeId) (x : AV) (K : KA) : Prop :=
 match zr env.P t with
 | some (agg, n) => match x with
  | .ptr id off => match rd id with
   | .box cs => match Nat.ble (off + n) cs.length with
    | true => K (im agg (cut cs off n)) []
    | false => False
   | _ => False
  | .rop cs => match Nat.ble n cs.length with
   | true => K (im agg ((cs.take n).map .p)) []
   | false => False
  | .eptr id i c => match rd id with
   | .row e _ xs => env.vw e (xs.getD i .nilp) fun cs => match Nat.ble (c + n) cs.length with
    | true => K (im agg ((cut cs c n).map .p)) []
    | false => False
   | _ => False
  | _ => False
 | none => False
def qm1 (env : Env) (rd : Nat → AO) (t : TypeId) (x v : AV) (K : KA) : Prop :=
 match du env.P t, cellsOf v with
 | some n, some us => match Nat.beq us.length n, x with
  | true, .ptr id off => match rd id with
   | .box cs => match Nat.ble (off + n) cs.length with
    | true => K .undef [(id, .box (zw cs off us))]
    | false => False
   | _ => False
  | true, .eptr id i c => match rd id with
   | .row e sz xs => match dq (us.map we) with
    | some ps => match Nat.beq c 0 && Nat.beq n sz, zr env.P e with
     | true, some (agg, m) => match Nat.beq m sz with
      | true => K .undef [(id, .row e sz (xs.set i (qr3 ps agg)))]
      | false => False
     | false, some (agg, _) => env.vw e (xs.getD i .nilp) fun cs => match Nat.ble (c + n) cs.length with
      | true => K .undef [(id, .row e sz (xs.set i (qr3 (zx cs c ps) agg)))]
      | false => False
     | _, none => False
    | none => False
   | _ => False
  | _, _ => False
 | _, _ => False
def qq5 (env : Env) (t : TypeId) (x : AV) (f : Nat) (K : KA) : Prop :=
 match fieldAt env.P t f with
 | some (off, n) => match Nat.beq n 0 with
  | true => False
  | false => match x with
   | .ptr id o => K (.ptr id (o + off)) []
   | .eptr id i c => K (.eptr id i (c + off)) []
   | .rop cs => K (.rop (cs.drop off)) []
   | _ => False
 | none => False
def qgb (env : Env) (rd : Nat → AO) (t : TypeId) (m k : AV) (ok : Bool) (K : KA) : Prop :=
 match env.P.underlying t with
 | some (.map kt e) => match lf env.P kt, df env.P e, ud env.P e, qbd k with
  | some kk, some agg, some z, some key => match m with
   | .map id => match rd id with
    | .map kk' es => match qmk kk kk' && isKey kk key with
     | true => env.vw e ((look key es).getD z) fun cs => match ok with
      | true => K (.tup [im agg (cs.map .p), .p (.bool (look key es).isSome)]) []
      | false => K (im agg (cs.map .p)) []
     | false => False
    | _ => False
   | _ => False
  | _, _, _, _ => False
 | _ => False
def qgc (env : Env) (rd : Nat → AO) (t : TypeId) (m k v : AV) (K : KA) : Prop :=
 match env.P.underlying t with
 | some (.map kt _) => match lf env.P kt, qbd k, qbd (qad v), m with
  | some kk, some key, some x, .map id => match rd id with
   | .map kk' es => match qmk kk kk' && isKey kk key with
    | true => K .undef [(id, .map kk (m5 key x es))]
    | false => False
   | _ => False
  | _, _, _, _ => False
 | _ => False
def qr6 (rd : Nat → AO) (it : AV) (K : KA) : Prop :=
 match it with
 | .iter id => match rd id with
  | .iter s pos => match decide (pos < s.size) with
   | true => K (.tup [.p (.bool true), .p (.int .i64 pos), .p (.int .i32 (Utf8.decode s pos).1)]) [(id, .iter s (pos + (Utf8.decode s pos).2))]
   | false => K (.tup [.p (.bool false)]) []
  | _ => False
 | _ => False
def bk (L : List Nat) (fresh : Nat) (j : Nat) : Nat :=
 match L[j]? with
 | some i => i
 | none => fresh + (j - L.length)
def back (L : List Nat) (fresh : Nat) (j : Nat) : Option Nat := some (bk L fresh j)
def ek (L : List Nat) (fresh : Nat) : Nat → List AO → List (Nat × AO)
 | _, [] => []
 | j, o :: r => (bk L fresh j, zb (back L fresh) o) :: ek L fresh (j + 1) r
def qqv (b : Bool) (l : List AV) : List AV := match b with
 | true => l.map qad
 | false => l
def wkO (b : Bool) (o : AO) : AO := match b with
 | true => match o with
  | .box cs => .box (cs.map we)
  | o => o
 | false => o
def qq8 (env : Env) (rd : Nat → AO) (fresh : Nat) (f : FuncId) (args : List AV) (K : KA) : Prop :=
 let L := reach rd 1000 (pg args) []
 match nodup L && kg fresh L with
 | true => env.C f (re (place L) (qqv (env.weak f) args)) (jf (place L) (L.map fun i => wkO (env.weakB f) (rd i))) fun r h =>
  match Nat.ble L.length h.length with
  | true => K (lu (back L fresh) r) (ek L fresh 0 h)
  | false => False
 | false => False
def qn5 (env : Env) (rd : Nat → AO) (fresh : Nat) (ρ : Operand → AV) (cl : Call) (K : KA) : Prop :=
 match cl.callee with
 | .builtin .len => match cl.args.toList, cl.argTypes[0]? with
  | [x], some t => q60 env.P t rd (ρ x) fun v => K v []
  | _, _ => False
 | .builtin .append => match cl.args.toList, cl.argTypes.toList with
  | [s, x], [t, t'] => match Nat.beq t t' with
   | true => xi env.P rd fresh t (ρ s) (ρ x) K
   | false => False
  | _, _ => False
 | .value g => match ρ g with
  | .func (.func f) first captured => qq8 env rd fresh f (first ++ cl.args.toList.map ρ ++ captured) K
  | _ => False
 | _ => False
def step (env : Env) (plain : cn) (o : Oper) (ρ : Operand → AV) (rd : Nat → AO) (fresh : Nat) (K : KA) : Prop :=
 match o.op with
 | .move x => K (ρ x) []
 | .assign x => K (ρ x) []
 | .pick c a b => qdi (ρ c) fun t => match t with | true => K (ρ a) [] | false => K (ρ b) []
 | .alloc t => match zeroCells env.P t with
  | some zs => K (.ptr fresh 0) [(fresh, .box (zs.map .p))]
  | none => False
 | .box _ x => match cellsOf (ρ x) with
  | some cs => K (.ptr fresh 0) [(fresh, .box cs)]
  | none => False
 | .build t parts => match zeroCells env.P t, qgl env.P t with
  | some zs, some at_ => match qjd at_ (zs.map .p) (parts.toList.map fun x => (x.1, ρ x.2)) with
   | some cs => K (.agg cs) []
   | none => False
  | _, _ => False
 | .buildSlice t len parts => match env.P.underlying t with
  | some (.slice e) => match du env.P e, ud env.P e with
   | some sz, some z => match Nat.ble (len * sz) 16777216 && Nat.blt 0 sz && Nat.beq (dn z) sz, qau sz (List.replicate len z) (parts.toList.map fun x => (x.1, ρ x.2)) with
    | true, some xs => K (.row fresh) [(fresh, .row e sz xs)]
    | _, _ => False
   | _, _ => False
  | _ => False
 | .load t a => qrv env rd t (ρ a) K
 | .store t a x => qm1 env rd t (ρ a) (ρ x) K
 | .nilCheck x => match ρ x with
  | .ptr i o => K (.ptr i o) []
  | .eptr i a b => K (.eptr i a b) []
  | .rop cs => K (.rop cs) []
  | .func (.func f) a b => K (.func (.func f) a b) []
  | _ => False
 | .binOp op t x y _ => qtk env.P plain op t (ρ x) (ρ y) fun v => K v []
 | .unOp op _ x => unA op (ρ x) fun v => K v []
 | .convert s d x => qrc env.P s d (ρ x) fun v => K v []
 | .makeFunc fn a b => K (.func fn (a.toList.map ρ) (b.toList.map ρ)) []
 | .makeMap t none => match env.P.underlying t with
  | some (.map kt _) => match lf env.P kt with
   | some kk => K (.map fresh) [(fresh, .map kk [])]
   | none => False
  | _ => False
 | .fieldAddr t x f => qq5 env t (ρ x) f K
 | .field t x f => match ρ x, ya env.P t with
  | .agg cs, some fs => match fs[f]? with
   | some (off, ft, _) => match zr env.P ft with
    | some (agg, n) => match Nat.ble (off + n) cs.length with
     | true => K (im agg (cut cs off n)) []
     | false => False
    | none => False
   | none => False
  | _, _ => False
 | .indexAddr t x i => match ρ i with
  | .p (.int _ n) => qlb env rd t (ρ x) n K
  | _ => False
 | .index t x i => match ρ i, ρ x, env.P.underlying t with
  | .p (.int _ n), .p (.str s), some .string => 0 ≤ n ∧ n < s.size ∧ K (.p (.int .u8 (cb s n.toNat))) []
  | _, _, _ => False
 | .lookup t m k ok => qgb env rd t (ρ m) (ρ k) ok K
 | .mapUpdate t m k v => qgc env rd t (ρ m) (ρ k) (ρ v) K
 | .range t x => match ρ x, env.P.underlying t with
  | .p (.str s), some .string => K (.iter fresh) [(fresh, .iter s 0)]
  | _, _ => False
 | .next it true => qr6 rd (ρ it) K
 | .extract t i => match ρ t with
  | .tup vs => match vs[i]? with
   | some v => K v []
   | none => False
  | _ => False
 | .slice t x lo hi mx => qes env.P t (ρ x) (lo.map ρ) (hi.map ρ) (mx.map ρ) fun v => K v []
 | .call cl => qn5 env rd fresh ρ cl K
 | _ => False
def q2b (ops : Array Oper) (j : Nat) : Option Tmp := (ops[j]?).bind (·.dst)
def qhx (ops : Array Oper) (o : Oper) (s : St) (K : Bool → St → Prop) : Prop :=
 match o.guard with
 | none => K true s
 | some (j, want) => match q2b ops j with
  | some t => match cy s.sl t with
   | .p (.bool true) => K want { s with sl := (t, .p (.bool true)) :: s.sl }
   | .p (.bool false) => K (!want) { s with sl := (t, .p (.bool false)) :: s.sl }
   | .tup [] => K false s
   | _ => False
  | none => False
def qah (nt : Nat) : Option Tmp → Bool
 | none => true
 | some t => Nat.blt t nt
def qj0 : Nat → List (Nat × AO) → Bool
 | _, [] => true
 | n, (i, _) :: r => match Nat.blt i n with
  | true => qj0 n r
  | false => match Nat.beq i n with
   | true => qj0 (n + 1) r
   | false => false
def qej (env : Env) (plain : cn) (ops : Array Oper) : List Oper → St → (St → Prop) → Prop
 | [], s, K => K s
 | o :: os, s, K => match qah env.nt o.dst with
  | false => False
  | true => qhx ops o s fun w s1 => match w with
   | true => env.S o (ou (env.pre o s1).sl) (gw (env.pre o s1).hp) (env.pre o s1).hp.length fun v wr => match qj0 (env.pre o s1).hp.length wr with
    | true => qej env plain ops os ⟨((env.pre o s1).put o.dst v).sl, ik (env.pre o s1).hp wr⟩ K
    | false => False
   | false => qej env plain ops os (s1.put o.dst (.tup [])) K
structure Did where
 i : Nat
 anc : Nat
 dst : Option Tmp
 looks : List Tmp
 fp : List Nat
 names : List Nat
def l7 (m n : Nat) : Bool := Nat.beq (Nat.land (Nat.shiftRight m n) 1) 1
def nth : List Nat → Nat → Nat
 | [], _ => 0
 | x :: _, 0 => x
 | _ :: r, n + 1 => nth r n
def qi2 : List Did → Nat → Nat
 | [], _ => 0
 | d :: r, i => match Nat.beq d.i i with | true => d.anc | false => qi2 r i
def qna (ds : List Did) : List Edge → Nat
 | [] => 0
 | e :: r => match Region.binds .any e with
  | true => Nat.lor (Nat.lor (Nat.shiftLeft 1 e.on) (qi2 ds e.on)) (qna ds r)
  | false => qna ds r
def xy (n : Nat) : List Edge → Bool
 | [] => true
 | e :: r => match Region.binds .any e, Nat.blt e.on n with
  | true, false => false
  | _, _ => xy n r
def qz2 (d : Option Tmp) (l : List Tmp) : Bool :=
 match d with
 | some t => mem t l
 | none => false
def qzo (d e : Option Tmp) : Bool :=
 match d, e with
 | some t, some u => Nat.beq t u
 | _, _ => false
def meet : List Nat → List Nat → Bool
 | [], _ => false
 | i :: r, l => match mem i l with | true => true | false => meet r l
def qoe (d e : Did) : Bool :=
 qz2 d.dst e.looks || qz2 e.dst d.looks || qzo d.dst e.dst || meet d.names e.fp || meet e.names d.fp || meet d.names e.names
def clear (ds : List Did) (e : Did) : Bool :=
 match ds with
 | [] => true
 | d :: r => match l7 e.anc d.i || !qoe d e with
  | true => clear r e
  | false => false
def fpA (o : Oper) (ρ : Operand → AV) (rd : Nat → AO) : List Nat :=
 match o.op with
 | .call _ => reach rd 1000 (pg (o.op.operands.toList.map ρ)) []
 | .load _ a => pf (ρ a)
 | .store _ a _ => pf (ρ a)
 | .indexAddr _ x _ => pf (ρ x)
 | .lookup _ m _ _ => pf (ρ m)
 | .mapUpdate _ m _ _ => pf (ρ m)
 | .next it _ => pf (ρ it)
 | _ => []
def only (fp : List Nat) (rd : Nat → AO) (i : Nat) : AO := match mem i fp with
 | true => rd i
 | false => .dead
def np : List (Nat × AO) → List Nat
 | [] => []
 | (i, _) :: r => i :: np r
def qbi (env : Env) (plain : cn) (rid : Nat) (ops : Array Oper) : List Oper → Nat → List Did → St → (St → Prop) → Prop
 | [], _, _, s, K => K s
 | o :: os, n, ds, s, K => match qah env.nt o.dst && xy n o.after.toList && Nat.beq (nth (env.anc rid) n) (qna ds o.after.toList) with
  | false => False
  | true => qhx ops o s fun w s1 => match w with
   | true => env.S o (ou s1.sl) (only (fpA o (ou s1.sl) (gw s1.hp)) (gw s1.hp)) s1.hp.length fun v wr =>
    match qj0 s1.hp.length wr && clear ds ⟨n, nth (env.anc rid) n, o.dst, o.looksAt ops, fpA o (ou s1.sl) (gw s1.hp), np wr⟩ with
    | true => qbi env plain rid ops os (n + 1) (⟨n, nth (env.anc rid) n, o.dst, o.looksAt ops, fpA o (ou s1.sl) (gw s1.hp), np wr⟩ :: ds) ⟨(s1.put o.dst v).sl, ik s1.hp wr⟩ K
    | false => False
   | false => match clear ds ⟨n, nth (env.anc rid) n, o.dst, o.looksAt ops, [], []⟩ with
    | true => qbi env plain rid ops os (n + 1) (⟨n, nth (env.anc rid) n, o.dst, o.looksAt ops, [], []⟩ :: ds) (s1.put o.dst (.tup [])) K
    | false => False
def qab (P : Program) : List (Nat × (Nat × Option Nat)) → St → St
 | [], s => s
 | (e, x) :: r, s => qab P r (qew P e s x)
def norm (env : Env) (b : Nat) (e : Ex) (s : St) (K : St → Prop) : Prop :=
 match e with
 | .normal => canon env.n0 { (qab env.P (env.thaw b) s) with sl := ld (qab env.P (env.thaw b) s).sl (env.lloop b) } K
 | .exit id => canon env.n0 { s with sl := ld s.sl (env.lexit b id) } K
 | .ret => canon env.n0 { s with sl := ld s.sl env.lret } K
 | .goto _ => False
def known (c : Operand) (b : Bool) (s : St) : St :=
 match c with
 | .tmp t => { s with sl := (t, .p (.bool b)) :: s.sl }
 | _ => s
def zf (env : Env) (ops : Array Oper) : List Nat → St → (St → Prop) → Prop
 | [], s, K => K s
 | i :: r, s, K => match ops[i]? with
  | some o => match o.guard, qah env.nt o.dst with
   | none, true => env.S o (ou s.sl) (gw s.hp) s.hp.length fun v wr => match qj0 s.hp.length wr with
    | true => zf env ops r ⟨(s.put o.dst v).sl, ik s.hp wr⟩ K
    | false => False
   | _, _ => False
  | none => False
def qaw : List Nat → List Nat → Bool
 | [], [] => true
 | x :: xs, y :: ys => match Nat.beq x y with | true => qaw xs ys | false => false
 | _, _ => false
def qeh (ops : Array Oper) (L : Array Bool) (l : List Nat) : Bool := qaw (Region.ready .any ops L) l
def wu (ops : Array Oper) (q : Tmp) : Bool :=
 match ops.toList with
 | [⟨some _, .alloc _, _, _, _, _⟩, ⟨none, .store _ _ (.const (.bool _)), _, _, _, _⟩, ⟨none, .store _ _ (.const (.bool _)), _, _, _, _⟩, ⟨some q', .load _ _, _, _, _, _⟩] =>
  Nat.beq q q' && Nat.beq ops.size 4 && qeh ops (Array.replicate 4 false) [0] && qeh ops ((Array.replicate 4 false).setIfInBounds 0 true) [1, 2] &&
  qeh ops (((Array.replicate 4 false).setIfInBounds 0 true).setIfInBounds 1 true) [2] && qeh ops (((Array.replicate 4 false).setIfInBounds 0 true).setIfInBounds 2 true) [1] &&
  qeh ops ((((Array.replicate 4 false).setIfInBounds 0 true).setIfInBounds 1 true).setIfInBounds 2 true) [3] && qeh ops ((((Array.replicate 4 false).setIfInBounds 0 true).setIfInBounds 2 true).setIfInBounds 1 true) [3] &&
  qeh ops (((((Array.replicate 4 false).setIfInBounds 0 true).setIfInBounds 1 true).setIfInBounds 2 true).setIfInBounds 3 true) [] && qeh ops (((((Array.replicate 4 false).setIfInBounds 0 true).setIfInBounds 2 true).setIfInBounds 1 true).setIfInBounds 3 true) []
 | _ => false
def qca (x y : Code) : Option (Array Oper) := match x, y with
 | .region _ ops true, .cond (.tmp q) _ _ => match wu ops q with
  | true => some ops
  | false => none
 | _, _ => none
def eqB : List UInt8 → List UInt8 → Bool
 | [], [] => true
 | x :: xs, y :: ys => match Nat.beq x.toNat y.toNat with
  | true => eqB xs ys
  | false => false
 | _, _ => false
def qiz (f : Nat → Bool) : Nat → Bool
 | 0 => true
 | n + 1 => match f n with | true => qiz f n | false => false
mutual
def qcj : PV → PV → Bool
 | .bool a, y => match y with | .bool b => a == b | _ => false
 | .int k a, y => match y with | .int k' b => decide (k = k') && decide (a = b) | _ => false
 | .str a, y => match y with | .str b => eqB a.data.toList b.data.toList | _ => false
 | .nilp, y => match y with | .nilp => true | _ => false
 | .nils, y => match y with | .nils => true | _ => false
 | .nilm, y => match y with | .nilm => true | _ => false
 | .nilf, y => match y with | .nilf => true | _ => false
 | .nili, y => match y with | .nili => true | _ => false
 | .arr m n g, y => match y with | .arr m' n' g' => (!m || m') && Nat.beq n n' && qiz (fun i => qcj (g i) (g' i)) n | _ => false
 | .agg xs, y => match y with | .agg ys => na xs ys | _ => false
def na : List PV → List PV → Bool
 | [], ys => match ys with | [] => true | _ => false
 | x :: xs, ys => match ys with | y :: ys => qcj x y && na xs ys | _ => false
end
mutual
def qdb : AV → AV → Bool
 | .undef, _ => true
 | .p x, y => match y with | .p y => qcj x y | _ => false
 | .ptr i o, y => match y with | .ptr j p => Nat.beq i j && Nat.beq o p | _ => false
 | .eptr i k o, y => match y with | .eptr j l p => Nat.beq i j && Nat.beq k l && Nat.beq o p | _ => false
 | .rop cs, y => match y with | .rop ds => na cs ds | _ => false
 | .row i, y => match y with | .row j => Nat.beq i j | _ => false
 | .map i, y => match y with | .map j => Nat.beq i j | _ => false
 | .iter i, y => match y with | .iter j => Nat.beq i j | _ => false
 | .func f a b, y => match f, y with | .func f, .func (.func g) c d => Nat.beq f g && v8 a c && v8 b d | _, _ => false
 | .agg cs, y => match y with | .agg ds => v8 cs ds | _ => false
 | .tup cs, y => match y with | .tup ds => v8 cs ds | _ => false
 | .iface t v, y => match y with | .iface u w => Nat.beq t u && qdb v w | _ => false
def v8 : List AV → List AV → Bool
 | [], ys => match ys with | [] => true | _ => false
 | x :: xs, ys => match ys with | y :: ys => qdb x y && v8 xs ys | _ => false
end
def qqm : AO → AO → Bool
 | .dead, _ => true
 | .box cs, .box ds => v8 cs ds
 | .row e sz xs, .row e' sz' ys => Nat.beq e e' && Nat.beq sz sz' && na xs ys
 | .ice sz xs, .ice sz' ys => Nat.beq sz sz' && na xs ys
 | .iter s p, .iter s' p' => eqB s.data.toList s'.data.toList && Nat.beq p p'
 | _, _ => false
def qjj : List AO → List AO → Bool
 | [], [] => true
 | x :: xs, y :: ys => match qqm x y with | true => qjj xs ys | false => false
 | _, _ => false
def ji : List (Nat × AV) → List (Nat × AV) → List (Nat × AV)
 | (t, x) :: xs, (u, y) :: ys => match Nat.beq t u with
  | true => match qdb x y with
   | true => (t, x) :: ji xs ys
   | false => (t, .undef) :: ji xs ys
  | false => []
 | _, _ => []
def qqn : List (Nat × AV) → List (Nat × AV) → Bool
 | [], [] => true
 | (t, _) :: xs, (u, _) :: ys => match Nat.beq t u with | true => qqn xs ys | false => false
 | _, _ => false
def q6z (s t : St) : Bool := qqn s.sl t.sl && qjj s.hp t.hp
def qmi : Ex → Ex → Bool
 | .normal, .normal => true
 | .exit i, .exit j => Nat.beq i j
 | .ret, .ret => true
 | .goto i, .goto j => Nat.beq i j
 | _, _ => false
def exec (env : Env) (plain : cn) : Nat → Code → St → (Ex → St → Prop) → Prop
 | _, .skip, s, K => K .normal s
 | _, .region _ ops false, s, K => qej env plain ops ops.toList s fun s' => K .normal s'
 | _, .region id ops true, s, K => qbi env plain id ops ops.toList 0 [] s fun s' => K .normal s'
 | b, .seq x y, s, K => match qca x y with
  | none => exec env plain b x s fun e s' => match e with
   | .normal => exec env plain b y s' K
   | e => K e s'
  | some ops => zf env ops [0, 1, 2, 3] s fun s1 => exec env plain b y s1 fun e1 z1 => canon env.n0 { z1 with sl := ld z1.sl env.lret } fun y1 =>
   zf env ops [0, 2, 1, 3] s fun s2 => exec env plain b y s2 fun e2 z2 => canon env.n0 { z2 with sl := ld z2.sl env.lret } fun y2 => match qmi e1 e2 && q6z y1 y2 with
   | true => K e1 ⟨ji y1.sl y2.sl, y1.hp⟩
   | false => False
 | b, .cond c x y, s, K => qdi (ou s.sl c) fun t => match t with
  | true => exec env plain b x (known c true s) K
  | false => exec env plain b y (known c false s) K
 | _, .block id c, s, K => exec env plain id c s fun e s' => match e with
  | .exit id' => match Nat.beq id' id with | true => K .normal s' | false => K (.exit id') s'
  | e => K e s'
 | b, .loop _, s, K => norm env b .normal s fun s' => env.L b s' K
 | _, .exit id, s, K => K (.exit id) s
 | _, .ret, s, K => K .ret s
 | _, .label _, s, K => K .normal s
 | _, .goto l, s, K => K (.goto l) s
 | b, .scope c, s, K => exec env plain b c s fun e s' => match e with
  | .goto l => env.G l s' K
  | e => K e s'
 | _, _, _, _ => False
end Go.RX
namespace Go.RX
def icy (rd : Nat → AO) (i : Nat) : Option PV :=
 match rd i with
 | .row _ _ xs => some (.arr true xs.length fun j => xs.getD j .nilp)
 | .ice _ xs => some (.arr true xs.length fun j => xs.getD j .nilp)
 | _ => none
def fz1 (rd : Nat → AO) : AV → AV
 | .row i => match icy rd i with
  | some x => .p x
  | none => .row i
 | v => v
def qxh (rd : Nat → AO) : AV → AV
 | .agg cs => .agg (cs.map fun c => fz1 rd (qad c))
 | v => fz1 rd (qad v)
def qol (rd : Nat → AO) : AV → AV
 | .tup vs => .tup (vs.map (qxh rd))
 | v => qxh rd v
def nx : AV → List Nat
 | .row i => [i]
 | _ => []
def rowsOf : AV → List Nat
 | .agg cs => cs.flatMap nx
 | v => nx v
def mw : AV → List Nat
 | .tup vs => vs.flatMap rowsOf
 | v => rowsOf v
def qjz : AO → AO
 | .row _ sz xs => .ice sz xs
 | o => o
def la (h : List AO) : List Nat → List AO
 | [] => h
 | i :: r => la (qgt h i (qjz (gw h i))) r
def nu (env : Env) (s : St) : List ResultVar → (List AV → Prop) → Prop
 | [], K => K []
 | .tmp t :: r, K => nu env s r fun vs => K (cy s.sl t :: vs)
 | .cell a t :: r, K => match zr env.P t, cy s.sl a with
  | some (agg, n), .ptr id off => match gw s.hp id with
   | .box cs => match Nat.ble (off + n) cs.length with
    | true => nu env s r fun vs => K (im agg (cut cs off n) :: vs)
    | false => False
   | _ => False
  | _, _ => False
def gi : List AV → AV
 | [v] => v
 | vs => .tup vs
def qz6 (env : Env) (soft : Bool) (res : List ResultVar) (s : St) (K : AV → List AO → Prop) : Prop :=
 nu env s res fun vs =>
  let v := gi vs
  let v' := match soft with | true => qol (gw s.hp) v | false => v
  let h := match soft with | true => la s.hp (mw v) | false => s.hp
  let L := reach (gw h) 1000 (oi (gw h) (upto env.n0) ++ pf v') (upto env.n0)
  match nodup L && kl env.n0 L 0 && kg h.length L with
  | true => K (lu (place L) v') (jf (place L) (pick h L))
  | false => False
def number : Nat → List AV → List (Nat × AV)
 | _, [] => []
 | i, v :: r => (i, v) :: number (i + 1) r
def body (env : Env) (plain : cn) (soft : Bool) (fn : Func) (args : List AV) (h : List AO) (K : AV → List AO → Prop) : Prop :=
 match fn.body, Nat.beq fn.ntmps env.nt && Nat.ble args.length fn.ntmps && Nat.beq h.length env.n0 with
 | some c, true => exec env plain 0 c ⟨number 0 args, h⟩ fun e s => match e with
  | .normal => qz6 env soft fn.results.toList s K
  | .ret => qz6 env soft fn.results.toList s K
  | _ => False
 | _, _ => False
end Go.RX
namespace Go.RX
abbrev bd := List AV → List AO → (AV → List AO → Prop) → Prop
abbrev ck := St → (Ex → St → Prop) → Prop
def tab {α : Type} (d : α) : List (Nat × α) → Nat → α
 | [], _ => d
 | (i, x) :: r, j => match Nat.beq i j with | true => x | false => tab d r j
def tf : bd := fun _ _ _ => False
def rb : ck := fun _ _ => False
def bq (env : Env) (plain : cn) (b : Nat) (c : Code) (R : ck) : ck := fun s K =>
 exec env plain b c s fun e s' => norm env b e s' fun s'' => match e with
  | .normal => R s'' K
  | e => K e s''
def gh (b : Nat) : Nat → Code → Option Code
 | _, .skip => none
 | a, .seq x y => match gh b a x with | some c => some c | none => gh b a y
 | a, .cond _ x y => match gh b a x with | some c => some c | none => gh b a y
 | _, .block id c => gh b id c
 | a, .loop c => match Nat.beq a b with | true => some c | false => gh b a c
 | a, .scope c => gh b a c
 | _, _ => none
structure Arr where
 m : Bool
 n : Nat
 g : Nat → PV
def br (b : Bool) (x y : Prop) : Prop := match b with
 | true => x
 | false => y
end Go.RX
namespace Go.RX
def bn : Code → List Code
 | .seq x y => bn x ++ bn y
 | .cond _ x y => bn x ++ bn y
 | .block _ c => bn c
 | .loop c => bn c
 | .scope c => c :: bn c
 | _ => []
def av : Nat → Code → List (Nat × Code)
 | _, .skip => []
 | a, .seq x y => av a x ++ av a y
 | a, .cond _ x y => av a x ++ av a y
 | _, .block id c => av id c
 | a, .loop c => (a, c) :: av a c
 | a, .scope c => av a c
 | _, _ => []
def keys {α : Type} : List (Nat × α) → List Nat
 | [] => []
 | (i, _) :: r => i :: keys r
end Go.RX
namespace Go.RX
inductive Loc where
 | none
 | blk (b : Nat)
 | rowv (v : Value) (sz : Nat)
def Loc.block : Loc → Option Nat
 | .none => Option.none
 | .blk b => some b
 | .rowv v _ => v.ownBlock
structure Cx where
 β : Nat → Loc
 I : Nat → Prop
 w : World
 born : Nat → Prop
 base : Nat
def Cx.J (c : Cx) (m : Bool) (b : Nat) : Prop := c.I b ∧ (m = true → c.base ≤ b ∧ ∃ C e, c.w.heap[b]? = some (.cells C e (0, 0)))
mutual
def RoC (I : Bool → Nat → Prop) (w : World) : PV → List Value → Prop
 | .bool b, cs => cs = [.bool b]
 | .int k n, cs => cs = [.int k n]
 | .str s, cs => cs = [.string s]
 | .nilp, cs => cs = [.pointer none]
 | .nils, cs => cs = [.slice none 0 0]
 | .nilm, cs => cs = [.map none]
 | .nilf, cs => cs = [.nilFunc]
 | .nili, cs => cs = [.nilIface]
 | .arr m n g, cs => ∃ a c, cs = [.slice a n c] ∧ (n ≤ c ∧ n ≤ maxLen) ∧ (0 < n → ∃ b off sz, a = some ⟨b, off, none⟩ ∧ I m b ∧ 0 < sz ∧ (m = true → sz ∣ off) ∧
   ∀ i, i < n → ∃ es : List Value, es.length = sz ∧ RoC I w (g i) es ∧ ∀ j, j < sz → w.cell? ⟨b, off + i * sz + j, none⟩ = es[j]?)
 | .agg xs, cs => dx I w xs cs
def dx (I : Bool → Nat → Prop) (w : World) : List PV → List Value → Prop
 | [], cs => cs = []
 | x :: xs, cs => ∃ y ys, cs = y :: ys ∧ RoC I w x [y] ∧ dx I w xs ys
end
def dc (I : Bool → Nat → Prop) (w : World) (sz : Nat) : List PV → List Value → Prop
 | [], cs => cs = []
 | x :: xs, cs => ∃ es r, cs = es ++ r ∧ es.length = sz ∧ RoC I w x es ∧ dc I w sz xs r
def RoV (I : Bool → Nat → Prop) (w : World) (x : PV) (v : Value) : Prop :=
 (∃ xs C, x = .agg xs ∧ v = .agg C ∧ dx I w xs C.toList) ∨ ((∀ xs, x ≠ .agg xs) ∧ RoC I w x [v])
def jx (I : Bool → Nat → Prop) (w : World) (kk : wi) : List (PV × PV) → List MapEntry → Prop
 | [], es => es = []
 | (k, x) :: r, es => ∃ e es', es = e :: es' ∧ isKey kk k = true ∧ RoV I w k e.key ∧ RoV I w x e.val ∧ jx I w kk r es'
mutual
def V (c : Cx) : AV → Value → Prop
 | .undef, _ => True
 | .p x, v => RoC c.J c.w x [v]
 | .ptr i o, v => c.born i ∧ ∃ b, c.β i = .blk b ∧ v = .pointer (some ⟨b, o, none⟩)
 | .eptr i k o, v => c.born i ∧ ∃ b n cap sz, c.β i = .rowv (.slice (some ⟨b, 0, none⟩) n cap) sz ∧ k < n ∧ v = .pointer (some ⟨b, k * sz + o, none⟩)
 | .row i, v => c.born i ∧ ∃ a n cp sz, v = .slice a n cp ∧ c.β i = .rowv v sz
 | .map i, v => c.born i ∧ ∃ b, c.β i = .blk b ∧ v = .map (some b)
 | .iter i, v => c.born i ∧ ∃ b, c.β i = .blk b ∧ v = .pointer (some ⟨b, 0, none⟩)
 | .rop cs, v => ∃ b o, v = .pointer (some ⟨b, o, none⟩) ∧ c.I b ∧ ∃ es : List Value, dx c.J c.w cs es ∧ ∀ j, j < es.length → c.w.cell? ⟨b, o + j, none⟩ = es[j]?
 | .func fn f g, v => ∃ F G, v = .func fn F G ∧ Vs c f F.toList ∧ Vs c g G.toList
 | .agg cs, v => ∃ C, v = .agg C ∧ Vs c cs C.toList ∧ ∀ u ∈ C.toList, u.oneCell' = true
 | .tup cs, v => ∃ C, v = .tuple C ∧ Vs c cs C.toList
 | .iface t x, v => ∃ y, v = .iface t y ∧ V c x y
def Vs (c : Cx) : List AV → List Value → Prop
 | [], vs => vs = []
 | x :: xs, vs => ∃ y ys, vs = y :: ys ∧ V c x y ∧ Vs c xs ys
end
def OR (c : Cx) : AO → Loc → Prop
 | .dead, _ => True
 | .box cs, .blk b => ∃ C t, c.w.heap[b]? = some (.cells C t (0, 0)) ∧ Vs c cs C.toList ∧ ∀ u ∈ C.toList, u.oneCell' = true
 | .row e sz xs, .rowv v sz' => sz' = sz ∧ 0 < sz ∧ ∃ cells, c.w.ownsRow 0 e sz v xs.length cells ∧ dc c.J c.w sz xs cells
 | .ice _ xs, .rowv v _ => RoC c.J c.w (.arr true xs.length fun j => xs.getD j .nilp) [v]
 | .map kk es, .blk b => ∃ E cl, c.w.heap[b]? = some (.map E cl) ∧ jx c.J c.w kk es E.toList
 | .iter s p, .blk b => c.w.heap[b]? = some (.stringIter s p)
 | _, _ => False
def j1 : AO → Bool
 | .dead => false
 | .ice _ _ => false
 | _ => true
abbrev HP := Nat → Option AO
def Live (h : HP) (i : Nat) : Prop := ∃ o, h i = some o ∧ j1 o = true
structure HR (c : Cx) (h : HP) : Prop where
 obj : ∀ i o, h i = some o → c.born i ∧ OR c o (c.β i)
 inj : ∀ i j b, Live h i → Live h j → (c.β i).block = some b → (c.β j).block = some b → i = j
 apart : ∀ i b, Live h i → (c.β i).block = some b → ¬ c.I b
 bound : ∀ b, c.I b → b < c.w.heap.size
 size : ∀ i b, Live h i → (c.β i).block = some b → b < c.w.heap.size
 low : ∀ i b, Live h i → (c.β i).block = some b → c.base ≤ b
 base : c.base ≤ c.w.heap.size
structure Ext (c c' : Cx) : Prop where
 born : ∀ i, c.born i → c'.born i
 β : ∀ i, c.born i → c'.β i = c.β i
 I : ∀ b, c.I b → c'.I b
 blocks : ∀ b, c.I b → c'.w.heap[b]? = c.w.heap[b]?
 base : c'.base = c.base
theorem Ext.J {c c' : Cx} (h : Ext c c') (m : Bool) (b : Nat) (k : c.J m b) : c'.J m b := ⟨h.I b k.1, fun e => by rw [h.base, h.blocks b k.1]; exact k.2 e⟩
theorem Ext.jb {c c' : Cx} (h : Ext c c') (m : Bool) (b : Nat) (k : c.J m b) : c'.w.heap[b]? = c.w.heap[b]? := h.blocks b k.1
theorem Ext.refl (c : Cx) : Ext c c := ⟨fun _ h => h, fun _ _ => rfl, fun _ h => h, fun _ _ => rfl, rfl⟩
theorem Ext.trans {a b c : Cx} (h : Ext a b) (k : Ext b c) : Ext a c :=
 ⟨fun i hi => k.born i (h.born i hi), fun i hi => (k.β i (h.born i hi)).trans (h.β i hi), fun b hb => k.I b (h.I b hb), fun b hb => (k.blocks b (h.I b hb)).trans (h.blocks b hb), k.base.trans h.base⟩
structure Fr (c : Cx) (h : HP) (c' : Cx) (h' : HP) : Prop where
 os : c'.w.os = c.w.os
 tape : c'.w.tape = c.w.tape
 output : c'.w.output = c.w.output
 size : c.w.heap.size ≤ c'.w.heap.size
 keep : ∀ b, b < c.w.heap.size → (∀ i, Live h i → (c.β i).block ≠ some b) → c'.w.heap[b]? = c.w.heap[b]?
 mono : ∀ b, c.I b → c'.I b
 new : ∀ b, c'.I b → c.I b ∨ c.w.heap.size ≤ b ∨ ∃ i, Live h i ∧ (c.β i).block = some b
 live : ∀ i b, Live h' i → (c'.β i).block = some b → c.w.heap.size ≤ b ∨ ∃ j, Live h j ∧ (c.β j).block = some b
 base : c'.base = c.base
theorem Fr.refl (c : Cx) (h : HP) : Fr c h c h :=
 ⟨rfl, rfl, rfl, Nat.le_refl _, fun _ _ _ => rfl, fun _ h => h, fun _ h => .inl h, fun i _ hi hb => .inr ⟨i, hi, hb⟩, rfl⟩
theorem Fr.trans {a b c : Cx} {h k l : HP} (x : Fr a h b k) (y : Fr b k c l) : Fr a h c l := by
 refine ⟨y.os.trans x.os, y.tape.trans x.tape, y.output.trans x.output, Nat.le_trans x.size y.size, fun n hn hl => ?_, fun n hn => y.mono n (x.mono n hn), fun n hn => ?_, fun i n hi hb => ?_, y.base.trans x.base⟩
 ·refine (y.keep n (Nat.lt_of_lt_of_le hn x.size) fun i hi hb => ?_).trans (x.keep n hn hl)
  rcases x.live i n hi hb with h1 | ⟨j, h1, h2⟩
  ·omega
  ·exact hl j h1 h2
 ·rcases y.new n hn with h1 | h1 | ⟨i, hi, hb⟩
  ·exact x.new n h1
  ·exact .inr (.inl (Nat.le_trans x.size h1))
  ·rcases x.live i n hi hb with h2 | h2
   ·exact .inr (.inl h2)
   ·exact .inr (.inr h2)
 ·rcases y.live i n hi hb with h1 | ⟨j, hj, hb'⟩
  ·exact .inl (Nat.le_trans x.size h1)
  ·exact x.live j n hj hb'
mutual
theorem RoC.mono {I I' : Bool → Nat → Prop} {w w' : World} (hI : ∀ m b, I m b → I' m b) (hw : ∀ m b, I m b → w'.heap[b]? = w.heap[b]?) :
  ∀ (x : PV) (cs : List Value), RoC I w x cs → RoC I' w' x cs
 | .bool _, _, h => h
 | .int _ _, _, h => h
 | .str _, _, h => h
 | .nilp, _, h => h
 | .nils, _, h => h
 | .nilm, _, h => h
 | .nilf, _, h => h
 | .nili, _, h => h
 | .arr m n g, cs, h => by
  simp only [RoC] at h ⊢
  obtain ⟨a, c, rfl, hn, h⟩ := h
  refine ⟨a, c, rfl, hn, fun h0 => ?_⟩
  obtain ⟨b, off, sz, rfl, hb, hsz, hd, h⟩ := h h0
  refine ⟨b, off, sz, rfl, hI m b hb, hsz, hd, fun i hi => ?_⟩
  obtain ⟨es, he, hr, hc⟩ := h i hi
  refine ⟨es, he, RoC.mono hI hw (g i) es hr, fun j hj => ?_⟩
  rw [← hc j hj]
  exact World.cell?_of_block (hw m b hb)
 | .agg xs, cs, h => by
  simp only [RoC] at h ⊢
  exact dx.mono hI hw xs cs h
theorem dx.mono {I I' : Bool → Nat → Prop} {w w' : World} (hI : ∀ m b, I m b → I' m b) (hw : ∀ m b, I m b → w'.heap[b]? = w.heap[b]?) :
  ∀ (xs : List PV) (cs : List Value), dx I w xs cs → dx I' w' xs cs
 | [], _, h => h
 | x :: xs, cs, h => by
  simp only [dx] at h ⊢
  obtain ⟨y, ys, rfl, h1, h2⟩ := h
  exact ⟨y, ys, rfl, RoC.mono hI hw x [y] h1, dx.mono hI hw xs ys h2⟩
end
theorem dc.mono {I I' : Bool → Nat → Prop} {w w' : World} (hI : ∀ m b, I m b → I' m b) (hw : ∀ m b, I m b → w'.heap[b]? = w.heap[b]?) {sz : Nat} :
  ∀ (xs : List PV) (cs : List Value), dc I w sz xs cs → dc I' w' sz xs cs
 | [], _, h => h
 | x :: xs, cs, h => by
  obtain ⟨es, r, rfl, hl, h1, h2⟩ := h
  exact ⟨es, r, rfl, hl, RoC.mono hI hw x es h1, dc.mono hI hw xs r h2⟩
theorem RoV.mono {I I' : Bool → Nat → Prop} {w w' : World} (hI : ∀ m b, I m b → I' m b) (hw : ∀ m b, I m b → w'.heap[b]? = w.heap[b]?) {x : PV} {v : Value} (h : RoV I w x v) : RoV I' w' x v := by
 rcases h with ⟨xs, C, rfl, rfl, h⟩ | ⟨hx, h⟩
 ·exact .inl ⟨xs, C, rfl, rfl, dx.mono hI hw _ _ h⟩
 ·exact .inr ⟨hx, RoC.mono hI hw _ _ h⟩
theorem jx.mono {I I' : Bool → Nat → Prop} {w w' : World} (hI : ∀ m b, I m b → I' m b) (hw : ∀ m b, I m b → w'.heap[b]? = w.heap[b]?) {kk : wi} :
  ∀ (xs : List (PV × PV)) (es : List MapEntry), jx I w kk xs es → jx I' w' kk xs es
 | [], _, h => h
 | (k, x) :: xs, es, h => by
  obtain ⟨e, es', rfl, h0, h1, h2, h3⟩ := h
  exact ⟨e, es', rfl, h0, h1.mono hI hw, h2.mono hI hw, jx.mono hI hw xs es' h3⟩
mutual
theorem V.mono {c c' : Cx} (h : Ext c c') : ∀ (x : AV) (v : Value), V c x v → V c' x v
 | .undef, _, _ => by simp only [V]
 | .p x, v, k => by
  simp only [V] at k ⊢
  exact RoC.mono h.J h.jb x [v] k
 | .ptr i o, v, k => by
  simp only [V] at k ⊢
  obtain ⟨hb, b, h1, h2⟩ := k
  exact ⟨h.born i hb, b, (h.β i hb).trans h1, h2⟩
 | .eptr i j o, v, k => by
  simp only [V] at k ⊢
  obtain ⟨hb, b, n, cap, sz, h1, h2⟩ := k
  exact ⟨h.born i hb, b, n, cap, sz, (h.β i hb).trans h1, h2⟩
 | .row i, v, k => by
  simp only [V] at k ⊢
  obtain ⟨hb, a, n, cp, b, h0, h1⟩ := k
  exact ⟨h.born i hb, a, n, cp, b, h0, (h.β i hb).trans h1⟩
 | .map i, v, k => by
  simp only [V] at k ⊢
  obtain ⟨hb, b, h1, h2⟩ := k
  exact ⟨h.born i hb, b, (h.β i hb).trans h1, h2⟩
 | .iter i, v, k => by
  simp only [V] at k ⊢
  obtain ⟨hb, b, h1, h2⟩ := k
  exact ⟨h.born i hb, b, (h.β i hb).trans h1, h2⟩
 | .rop cs, v, k => by
  simp only [V] at k ⊢
  obtain ⟨b, o, h1, hb, es, h2, h3⟩ := k
  refine ⟨b, o, h1, h.I b hb, es, dx.mono h.J h.jb cs es h2, fun j hj => ?_⟩
  rw [← h3 j hj]
  exact World.cell?_of_block (h.blocks b hb)
 | .func fn f g, v, k => by
  simp only [V] at k ⊢
  obtain ⟨F, G, rfl, h1, h2⟩ := k
  exact ⟨F, G, rfl, Vs.mono h f _ h1, Vs.mono h g _ h2⟩
 | .agg cs, v, k => by
  simp only [V] at k ⊢
  obtain ⟨C, rfl, h1, h2⟩ := k
  exact ⟨C, rfl, Vs.mono h cs _ h1, h2⟩
 | .tup cs, v, k => by
  simp only [V] at k ⊢
  obtain ⟨C, rfl, h1⟩ := k
  exact ⟨C, rfl, Vs.mono h cs _ h1⟩
 | .iface t x, v, k => by
  simp only [V] at k ⊢
  obtain ⟨y, rfl, h1⟩ := k
  exact ⟨y, rfl, V.mono h x y h1⟩
theorem Vs.mono {c c' : Cx} (h : Ext c c') : ∀ (xs : List AV) (vs : List Value), Vs c xs vs → Vs c' xs vs
 | [], _, k => k
 | x :: xs, vs, k => by
  simp only [Vs] at k ⊢
  obtain ⟨y, ys, rfl, h1, h2⟩ := k
  exact ⟨y, ys, rfl, V.mono h x y h1, Vs.mono h xs ys h2⟩
end
theorem om {w w' : World} {base e sz : Nat} {v : Value} {n : Nat} {xs : List Value} (h : w.ownsRow base e sz v n xs)
  (hb : ∀ b, v.ownBlock = some b → w'.heap[b]? = w.heap[b]?) : w'.ownsRow base e sz v n xs := by
 refine ⟨h.1, ?_⟩
 rcases h.2 with h2 | ⟨g, cap, cur, rfl, hg, hh, r⟩
 ·exact .inl h2
 ·exact .inr ⟨g, cap, cur, rfl, hg, (hb g rfl).trans hh, r⟩
theorem OR.mono {c c' : Cx} (h : Ext c c') {o : AO} {l : Loc} (hb : ∀ b, l.block = some b → c'.w.heap[b]? = c.w.heap[b]?) (k : OR c o l) : OR c' o l := by
 cases o <;> cases l <;> simp only [OR] at k ⊢
 ·obtain ⟨C, t, h1, h2, h3⟩ := k
  exact ⟨C, t, (hb _ rfl).trans h1, Vs.mono h _ _ h2, h3⟩
 ·obtain ⟨h1, h2, cells, h3, h4⟩ := k
  exact ⟨h1, h2, cells, om h3 hb, dc.mono h.J h.jb _ _ h4⟩
 ·exact RoC.mono h.J h.jb _ _ k
 ·obtain ⟨E, cl, h1, h2⟩ := k
  exact ⟨E, cl, (hb _ rfl).trans h1, jx.mono h.J h.jb _ _ h2⟩
 ·exact (hb _ rfl).trans k
theorem OR.te {c c' : Cx} (h : Ext c c') {o : AO} {l : Loc} (hd : j1 o = false) (k : OR c o l) : OR c' o l := by
 cases o <;> simp [j1] at hd
 ·cases l <;> simp only [OR]
 ·cases l <;> simp only [OR] at k ⊢
  exact RoC.mono h.J h.jb _ _ k
end Go.RX
namespace Go.RX
def jr (h : HP) : List (Nat × AO) → HP
 | [] => h
 | (i, o) :: r => jr (fun j => if j = i then some o else h j) r
def Names (wr : List (Nat × AO)) (i : Nat) : Prop := ∃ o, (i, o) ∈ wr
def b6 (P : Program) (o : Oper) (ρ : Operand → AV) (rd : Nat → AO) (fresh : Nat) (v : AV) (wr : List (Nat × AO)) : Prop :=
 ∀ (c : Cx) (h : HP) (a : Act) (next : Act → World → Prop) (Q : Exit → Act → World → Prop),
  (∀ x ∈ o.op.operands, V c (ρ x) (a.eval x)) →
  (∀ i, rd i ≠ .dead → h i = some (rd i)) →
  (∀ i, fresh ≤ i → Names wr i → ¬ c.born i) →
  HR c h →
  (∀ u c', V c' v u → HR c' (jr h wr) → Ext c c' → Fr c h c' (jr h wr) → (∀ i, c'.born i → c.born i ∨ Names wr i) → next (a.put o.dst u) c'.w) →
  o.wp P a c.w next Q
section
variable {P : Program} {o : Oper} {ρ : Operand → AV} {rd : Nat → AO} {fresh : Nat} {v : AV}
theorem b6.pure (hrun : ∀ (c : Cx) (h : HP) (a : Act), (∀ x ∈ o.op.operands, V c (ρ x) (a.eval x)) → (∀ i, rd i ≠ .dead → h i = some (rd i)) → HR c h →
  ∃ u, (execOp a.eval o).run P c.w = .ok (.value u) c.w ∧ V c v u) : b6 P o ρ rd fresh v [] := by
 intro c h a next Q hv hr _ hh hn
 obtain ⟨u, h1, h2⟩ := hrun c h a hv hr hh
 simp only [Oper.wp, h1, Oper.upon_value]
 exact hn u c h2 hh (Ext.refl c) (Fr.refl c h) (fun i hi => .inl hi)
end
def Cx.with (c : Cx) (w : World) : Cx := { c with w := w }
def Cx.grow (c : Cx) (o : Obj) (i : Nat) (l : Loc) : Cx := ⟨fun j => if j = i then l else c.β j, c.I, c.w.alloc o, fun j => c.born j ∨ j = i, c.base⟩
theorem sm {c : Cx} {h : HP} (hh : HR c h) (o : Obj) {i : Nat} (hi : ¬ c.born i) (l : Loc) : Ext c (c.grow o i l) := by
 refine ⟨fun j hj => .inl hj, fun j hj => ?_, fun b hb => hb, fun b hb => ?_, rfl⟩
 ·show (if j = i then l else c.β j) = c.β j
  rw [if_neg (fun e : j = i => hi (e ▸ hj))]
 ·exact Go.RowKit.Below.heap_alloc c.w o b (hh.bound b hb)
theorem jc {h : HP} {i : Nat} {ao : AO} {j : Nat} (hl : Live (jr h [(i, ao)]) j) : (j = i ∧ j1 ao = true) ∨ (j ≠ i ∧ Live h j) := by
 obtain ⟨o, h1, h2⟩ := hl
 simp only [jr] at h1
 by_cases e : j = i
 ·rw [if_pos e] at h1
  injection h1 with h1
  exact .inl ⟨e, h1 ▸ h2⟩
 ·rw [if_neg e] at h1
  exact .inr ⟨e, o, h1, h2⟩
theorem qro {c : Cx} {h : HP} (hh : HR c h) (ob : Obj) {i : Nat} (hi : ¬ c.born i) (l : Loc) (hl : l.block = some c.w.heap.size ∨ l.block = none) (ao : AO) (ho : OR (c.grow ob i l) ao l) :
  HR (c.grow ob i l) (jr h [(i, ao)]) := by
 have hext := sm hh ob hi l
 have hβ : ∀ j, j ≠ i → (c.grow ob i l).β j = c.β j := fun j hj => if_neg hj
 have hβi : (c.grow ob i l).β i = l := if_pos rfl
 have hsz : (c.grow ob i l).w.heap.size = c.w.heap.size + 1 := World.size_alloc _ _
 refine ⟨fun j x hx => ?_, fun j k b hj hk hjb hkb => ?_, fun j b hj hjb => ?_, fun b hb => ?_, fun j b hj hjb => ?_, fun j b hj hjb => ?_, by rw [hsz]; have := hh.base; show c.base ≤ _; omega⟩
 ·simp only [jr] at hx
  by_cases e : j = i
  ·rw [if_pos e] at hx
   injection hx with hx
   subst hx e
   exact ⟨.inr rfl, by rw [hβi]; exact ho⟩
  ·rw [if_neg e] at hx
   obtain ⟨h1, h2⟩ := hh.obj j x hx
   refine ⟨.inl h1, ?_⟩
   rw [hβ j e]
   cases hlv : j1 x with
   | false => exact h2.te hext hlv
   | true => exact h2.mono hext fun b hb => Go.RowKit.Below.heap_alloc c.w ob b (hh.size j b ⟨x, hx, hlv⟩ hb)
 ·rcases jc hj with ⟨e, _⟩ | ⟨e, hj'⟩ <;> rcases jc hk with ⟨f, _⟩ | ⟨f, hk'⟩
  ·rw [e, f]
  ·subst e
   rw [hβi] at hjb
   rw [hβ k f] at hkb
   rcases hl with hl | hl
   ·rw [hl] at hjb
    injection hjb with hjb
    have := hh.size k b hk' hkb
    omega
   ·rw [hl] at hjb; cases hjb
  ·subst f
   rw [hβi] at hkb
   rw [hβ j e] at hjb
   rcases hl with hl | hl
   ·rw [hl] at hkb
    injection hkb with hkb
    have := hh.size j b hj' hjb
    omega
   ·rw [hl] at hkb; cases hkb
  ·rw [hβ j e] at hjb
   rw [hβ k f] at hkb
   exact hh.inj j k b hj' hk' hjb hkb
 ·rcases jc hj with ⟨e, _⟩ | ⟨e, hj'⟩
  ·subst e
   rw [hβi] at hjb
   intro hI
   have := hh.bound b hI
   rcases hl with hl | hl <;> rw [hl] at hjb
   ·injection hjb with hjb
    omega
   ·cases hjb
  ·rw [hβ j e] at hjb
   exact hh.apart j b hj' hjb
 ·rw [hsz]
  have := hh.bound b hb
  omega
 ·rw [hsz]
  rcases jc hj with ⟨e, _⟩ | ⟨e, hj'⟩
  ·subst e
   rw [hβi] at hjb
   rcases hl with hl | hl <;> rw [hl] at hjb
   ·injection hjb with hjb
    omega
   ·cases hjb
  ·rw [hβ j e] at hjb
   have := hh.size j b hj' hjb
   omega
 ·rcases jc hj with ⟨e, _⟩ | ⟨e, hj'⟩
  ·subst e
   rw [hβi] at hjb
   have := hh.base
   show c.base ≤ b
   rcases hl with hl | hl <;> rw [hl] at hjb
   ·injection hjb with hjb
    omega
   ·cases hjb
  ·rw [hβ j e] at hjb
   exact hh.low j b hj' hjb
theorem qrn {c : Cx} {h : HP} (ob : Obj) (i : Nat) (l : Loc) (hl : l.block = some c.w.heap.size ∨ l.block = none) (ao : AO) :
  Fr c h (c.grow ob i l) (jr h [(i, ao)]) := by
 refine ⟨rfl, rfl, rfl, ?_, fun b hb _ => Go.RowKit.Below.heap_alloc c.w ob b hb, fun b hb => hb, fun b hb => .inl hb, fun j b hj hjb => ?_, rfl⟩
 ·show c.w.heap.size ≤ (c.w.alloc ob).heap.size
  rw [World.size_alloc]
  omega
 ·rcases jc hj with ⟨e, _⟩ | ⟨e, hj'⟩
  ·subst e
   have hβi : (c.grow ob j l).β j = l := if_pos rfl
   rw [hβi] at hjb
   rcases hl with hl | hl <;> rw [hl] at hjb
   ·injection hjb with hjb
    exact .inl (by omega)
   ·cases hjb
  ·have hβ : (c.grow ob i l).β j = c.β j := if_neg e
   rw [hβ] at hjb
   exact .inr ⟨j, hj', hjb⟩
theorem b6.grow {P : Program} {o : Oper} {ρ : Operand → AV} {rd : Nat → AO} {fresh : Nat} {v : AV} {ao : AO}
  (hrun : ∀ (c : Cx) (h : HP) (a : Act), (∀ x ∈ o.op.operands, V c (ρ x) (a.eval x)) → (∀ i, rd i ≠ .dead → h i = some (rd i)) → HR c h → ¬ c.born fresh →
   ∃ u ob l, (execOp a.eval o).run P c.w = .ok (.value u) (c.w.alloc ob) ∧ (l.block = some c.w.heap.size ∨ l.block = none) ∧
    V (c.grow ob fresh l) v u ∧ OR (c.grow ob fresh l) ao l) : b6 P o ρ rd fresh v [(fresh, ao)] := by
 intro c h a next Q hv hr hf hh hn
 have hb : ¬ c.born fresh := hf fresh (Nat.le_refl _) ⟨ao, by simp⟩
 obtain ⟨u, ob, l, h1, hl, h2, h3⟩ := hrun c h a hv hr hh hb
 simp only [Oper.wp, h1, Oper.upon_value]
 refine hn u _ h2 (qro hh ob hb l hl ao h3) (sm hh ob hb l) (qrn ob fresh l hl ao) fun i hi => ?_
 rcases hi with hi | hi
 ·exact .inl hi
 ·exact .inr ⟨ao, by simp [hi]⟩
end Go.RX
namespace Go.RX
section
variable {c : Cx} {u : Value}
theorem sc {b : Bool} (h : V c (.p (.bool b)) u) : u = .bool b := by simpa [V, RoC] using h
theorem xd {k : IntKind} {n : Int} (h : V c (.p (.int k n)) u) : u = .int k n := by simpa [V, RoC] using h
theorem qfg {s : ByteArray} (h : V c (.p (.str s)) u) : u = .string s := by simpa [V, RoC] using h
theorem o0 (h : V c (.p .nils) u) : u = .slice none 0 0 := by simpa [V, RoC] using h
theorem fu (b : Bool) : V c (.p (.bool b)) (.bool b) := by simp [V, RoC]
theorem jg (k : IntKind) (n : Int) : V c (.p (.int k n)) (.int k n) := by simp [V, RoC]
theorem qkg (s : ByteArray) : V c (.p (.str s)) (.string s) := by simp [V, RoC]
end
mutual
theorem RoC.one {I : Bool → Nat → Prop} {w : World} : ∀ (x : PV) (y : Value), RoC I w x [y] → y.oneCell' = true
 | .bool _, _, h => by simp [RoC] at h; subst h; rfl
 | .int _ _, _, h => by simp [RoC] at h; subst h; rfl
 | .str _, _, h => by simp [RoC] at h; subst h; rfl
 | .nilp, _, h => by simp [RoC] at h; subst h; rfl
 | .nils, _, h => by simp [RoC] at h; subst h; rfl
 | .nilm, _, h => by simp [RoC] at h; subst h; rfl
 | .nilf, _, h => by simp [RoC] at h; subst h; rfl
 | .nili, _, h => by simp [RoC] at h; subst h; rfl
 | .arr _ _ _, _, h => by
  simp only [RoC] at h
  obtain ⟨a, c, h, _⟩ := h
  simp at h
  subst h
  rfl
 | .agg xs, y, h => by
  simp only [RoC] at h
  exact dx.qia xs [y] h y (by simp)
theorem dx.qia {I : Bool → Nat → Prop} {w : World} : ∀ (xs : List PV) (ys : List Value), dx I w xs ys → ∀ y ∈ ys, y.oneCell' = true
 | [], ys, h => by simp [dx] at h; subst h; simp
 | x :: xs, ys, h => by
  simp only [dx] at h
  obtain ⟨y, r, rfl, h1, h2⟩ := h
  intro z hz
  rcases List.mem_cons.1 hz with rfl | hz
  ·exact RoC.one x z h1
  ·exact dx.qia xs r h2 z hz
end
theorem dx.length {I : Bool → Nat → Prop} {w : World} : ∀ {xs : List PV} {ys : List Value}, dx I w xs ys → ys.length = xs.length
 | [], ys, h => by simp [dx] at h; subst h; rfl
 | x :: xs, ys, h => by
  simp only [dx] at h
  obtain ⟨y, r, rfl, _, h2⟩ := h
  simp [dx.length h2]
theorem Vs.length {c : Cx} : ∀ {xs : List AV} {ys : List Value}, Vs c xs ys → ys.length = xs.length
 | [], ys, h => by simp [Vs] at h; subst h; rfl
 | x :: xs, ys, h => by
  simp only [Vs] at h
  obtain ⟨y, r, rfl, _, h2⟩ := h
  simp [Vs.length h2]
theorem ga {c : Cx} : ∀ (xs : List PV) (ys : List Value), Vs c (xs.map .p) ys ↔ dx c.J c.w xs ys
 | [], ys => by simp [Vs, dx]
 | x :: xs, ys => by
  simp only [List.map_cons, Vs, dx, V]
  constructor
  ·rintro ⟨y, r, rfl, h1, h2⟩; exact ⟨y, r, rfl, h1, (ga xs r).1 h2⟩
  ·rintro ⟨y, r, rfl, h1, h2⟩; exact ⟨y, r, rfl, h1, (ga xs r).2 h2⟩
theorem Vs.append {c : Cx} : ∀ {xs ys : List AV} {us vs : List Value}, Vs c xs us → Vs c ys vs → Vs c (xs ++ ys) (us ++ vs)
 | [], ys, us, vs, h, k => by simp [Vs] at h; subst h; simpa using k
 | x :: xs, ys, us, vs, h, k => by
  simp only [Vs] at h
  obtain ⟨y, r, rfl, h1, h2⟩ := h
  simp only [List.cons_append, Vs]
  exact ⟨y, r ++ vs, rfl, h1, Vs.append h2 k⟩
theorem Vs.drop {c : Cx} : ∀ {xs : List AV} {us : List Value} (n : Nat), Vs c xs us → Vs c (xs.drop n) (us.drop n)
 | _, _, 0, h => h
 | [], us, n + 1, h => by simp [Vs] at h; subst h; simp [Vs]
 | x :: xs, us, n + 1, h => by
  simp only [Vs] at h
  obtain ⟨y, r, rfl, _, h2⟩ := h
  simpa using Vs.drop n h2
theorem Vs.take {c : Cx} : ∀ {xs : List AV} {us : List Value} (n : Nat), Vs c xs us → Vs c (xs.take n) (us.take n)
 | _, _, 0, _ => by simp [Vs]
 | [], us, n + 1, h => by simp [Vs] at h; subst h; simp [Vs]
 | x :: xs, us, n + 1, h => by
  simp only [Vs] at h
  obtain ⟨y, r, rfl, h1, h2⟩ := h
  simp only [List.take_succ_cons, Vs]
  exact ⟨y, _, rfl, h1, Vs.take n h2⟩
theorem Vs.get {c : Cx} : ∀ {xs : List AV} {us : List Value} (i : Nat), Vs c xs us → ∀ x, xs[i]? = some x → ∃ u, us[i]? = some u ∧ V c x u
 | [], us, i, h, x, hx => by simp at hx
 | x :: xs, us, 0, h, z, hz => by
  simp only [Vs] at h
  obtain ⟨y, r, rfl, h1, _⟩ := h
  simp at hz
  subst hz
  exact ⟨y, rfl, h1⟩
 | x :: xs, us, i + 1, h, z, hz => by
  simp only [Vs] at h
  obtain ⟨y, r, rfl, _, h2⟩ := h
  simp at hz
  obtain ⟨u, h3, h4⟩ := Vs.get i h2 z hz
  exact ⟨u, by simpa using h3, h4⟩
theorem ti {I : Bool → Nat → Prop} {w : World} {v : Value} {x : PV} (h : ofConst v = some x) : RoC I w x [v] := by
 unfold ofConst at h
 split at h <;> first | (injection h with h; subst h; simp [RoC]) | cases h
theorem qq {I : Bool → Nat → Prop} {w : World} : ∀ {vs : List Value} {xs : List PV}, nq vs = some xs → dx I w xs vs
 | [], xs, h => by simp [nq] at h; subst h; simp [dx]
 | v :: vs, xs, h => by
  simp only [nq] at h
  split at h
  ·rename_i x ys h1 h2
   injection h with h
   subst h
   simp only [dx]
   exact ⟨v, vs, rfl, ti h1, qq h2⟩
  ·cases h
theorem qk7 (c : Cx) (v : Value) : V c (qcd v) v := by
 unfold qcd
 split
 ·rename_i C
  split
  ·rename_i xs h
   simp only [V]
   have hr := qq (I := c.J) (w := c.w) h
   exact ⟨C, rfl, (ga xs _).2 hr, dx.qia xs _ hr⟩
  ·simp [V]
 ·split
  ·rename_i x h
   simp only [V]
   exact ti h
  ·simp [V]
theorem qae {P : Program} {t : TypeId} {zs : List PV} (h : zeroCells P t = some zs) :
  ∃ z, qda P t = some z ∧ ∀ (I : Bool → Nat → Prop) (w : World), dx I w zs z.cells.toList := by
 unfold zeroCells at h
 split at h
 ·rename_i C hz
  exact ⟨_, hz, fun I w => by simpa [Value.cells] using qq h⟩
 ·rename_i v hna hz
  cases hv : ofConst v with
  | none => simp [hv] at h
  | some x =>
   simp [hv] at h
   subst h
   refine ⟨v, hz, fun I w => ?_⟩
   have hc : v.cells = #[v] := by
    cases v <;> simp [ofConst] at hv <;> rfl
   rw [hc]
   simp only [dx]
   exact ⟨v, [], rfl, ti hv, rfl⟩
 ·cases h
theorem my {P : Program} {t : TypeId} {z : Value} (h : qda P t = some z) (w : World) : (zeroValue t).run P w = .ok z w := by
 unfold qda at h
 cases hi : P.info? t with
 | none => simp [hi] at h
 | some i =>
  simp [hi] at h
  simp [zeroValue, typeInfo, hi, h]
theorem dz {P : Program} {t : TypeId} {n : Nat} (h : du P t = some n) (w : World) : (sizeOf t).run P w = .ok n w := by
 unfold du at h
 cases hi : P.info? t with
 | none => simp [hi] at h
 | some i =>
  simp [hi] at h
  simp [sizeOf, typeInfo, hi, h]
theorem nc {P : Program} {t : TypeId} {b : Bool} (h : df P t = some b) (w : World) : (isAgg t).run P w = .ok b w := by
 unfold df at h
 cases hu : P.underlying t with
 | none => simp [hu] at h
 | some d =>
  simp only [isAgg, Sem.run_bind, run_underlying hu, Result.andThen_ok]
  rw [hu] at h
  split at h
  ·injection h with h; subst h; simp_all
  ·injection h with h; subst h; simp_all
  ·rename_i hne1 hne2 heq
   injection heq with heq
   subst heq
   injection h with h
   subst h
   cases d <;> first | rfl | (exfalso; first | exact hne1 _ rfl | exact hne2 _ _ rfl)
  ·cases h
section
variable {P : Program} {ρ : Operand → AV} {rd : Nat → AO} {fresh : Nat} {dst : Option Tmp} {ty : TypeId} {pos : String} {after : Array Edge} {guard : Option (Nat × Bool)}
theorem qpl (x : Operand) : b6 P ⟨dst, .move x, ty, pos, after, guard⟩ ρ rd fresh (ρ x) [] :=
 b6.pure fun c h a hv _ _ => ⟨a.eval x, by simp [execOp], hv x (by simp [Op.operands])⟩
theorem qjs (x : Operand) : b6 P ⟨dst, .assign x, ty, pos, after, guard⟩ ρ rd fresh (ρ x) [] :=
 b6.pure fun c h a hv _ _ => ⟨a.eval x, by simp [execOp], hv x (by simp [Op.operands])⟩
theorem qij (x y z : Operand) (b : Bool) (hb : ρ x = .p (.bool b)) : b6 P ⟨dst, .pick x y z, ty, pos, after, guard⟩ ρ rd fresh (match b with | true => ρ y | false => ρ z) [] :=
 b6.pure fun c h a hv _ _ => by
  have h1 := hv x (by simp [Op.operands])
  rw [hb] at h1
  have h2 := sc h1
  cases b
  ·exact ⟨a.eval z, by simp [execOp, h2, asBool], hv z (by simp [Op.operands])⟩
  ·exact ⟨a.eval y, by simp [execOp, h2, asBool], hv y (by simp [Op.operands])⟩
theorem qmq (t : TypeId) (zs : List PV) (hz : zeroCells P t = some zs) : b6 P ⟨dst, .alloc t, ty, pos, after, guard⟩ ρ rd fresh (.ptr fresh 0) [(fresh, .box (zs.map .p))] :=
 b6.grow fun c h a hv _ _ hb => by
  obtain ⟨z, h1, h2⟩ := qae hz
  refine ⟨.pointer (some ⟨c.w.heap.size, 0, none⟩), .cells z.cells t, .blk c.w.heap.size, ?_, .inl rfl, ?_, ?_⟩
  ·simp [execOp, Instr.alloc, my h1, newVar, newRow]
  ·simp only [V]
   exact ⟨.inr rfl, c.w.heap.size, if_pos rfl, rfl⟩
  ·simp only [OR]
   have hr := h2 (c.grow (.cells z.cells t) fresh (.blk c.w.heap.size)).J (c.w.alloc (.cells z.cells t))
   exact ⟨z.cells, t, heap_alloc_new _ _, (ga zs _).2 hr, dx.qia zs _ hr⟩
theorem qby {c : Cx} {x : AV} {u : Value} {cs : List AV} (h : V c x u) (hc : cellsOf x = some cs) : Vs c cs u.cells.toList ∧ ∀ y ∈ u.cells.toList, y.oneCell' = true := by
 have one : u.cells = #[u] → u.oneCell' = true → cs = [x] → Vs c cs u.cells.toList ∧ ∀ y ∈ u.cells.toList, y.oneCell' = true := by
  rintro h1 h2 rfl
  rw [h1]
  refine ⟨?_, by simpa using h2⟩
  simp only [Vs]
  exact ⟨u, [], rfl, h, rfl⟩
 cases x with
 | undef => simp [cellsOf] at hc
 | tup vs => simp [cellsOf] at hc
 | agg as =>
  simp [cellsOf] at hc
  subst hc
  simp only [V] at h
  obtain ⟨C, rfl, h1, h2⟩ := h
  exact ⟨h1, h2⟩
 | p x =>
  have h1 : u.oneCell' = true := by
   simp only [V] at h
   exact RoC.one x u h
  exact one (by cases u <;> simp [Value.oneCell'] at h1 <;> rfl) h1 (by simpa [cellsOf] using hc.symm)
 | ptr i o => have h0 := h; simp only [V] at h0; obtain ⟨_, b, _, rfl⟩ := h0; exact one rfl rfl (by simpa [cellsOf] using hc.symm)
 | eptr i j o => have h0 := h; simp only [V] at h0; obtain ⟨_, b, n, cp, sz, _, _, rfl⟩ := h0; exact one rfl rfl (by simpa [cellsOf] using hc.symm)
 | rop ps => have h0 := h; simp only [V] at h0; obtain ⟨b, o, rfl, _⟩ := h0; exact one rfl rfl (by simpa [cellsOf] using hc.symm)
 | map i => have h0 := h; simp only [V] at h0; obtain ⟨_, b, _, rfl⟩ := h0; exact one rfl rfl (by simpa [cellsOf] using hc.symm)
 | iter i => have h0 := h; simp only [V] at h0; obtain ⟨_, b, _, rfl⟩ := h0; exact one rfl rfl (by simpa [cellsOf] using hc.symm)
 | row i => have h0 := h; simp only [V] at h0; obtain ⟨_, a, n, cp, sz, rfl, _⟩ := h0; exact one rfl rfl (by simpa [cellsOf] using hc.symm)
 | func fn f g => have h0 := h; simp only [V] at h0; obtain ⟨F, G, rfl, _⟩ := h0; exact one rfl rfl (by simpa [cellsOf] using hc.symm)
 | iface t y => have h0 := h; simp only [V] at h0; obtain ⟨y, rfl, _⟩ := h0; exact one rfl rfl (by simpa [cellsOf] using hc.symm)
theorem qsj (t : TypeId) (x : Operand) (cs : List AV) (hx : cellsOf (ρ x) = some cs) : b6 P ⟨dst, .box t x, ty, pos, after, guard⟩ ρ rd fresh (.ptr fresh 0) [(fresh, .box cs)] :=
 b6.grow fun c h a hv _ hh hb => by
  have h1 := qby (hv x (by simp [Op.operands])) hx
  refine ⟨.pointer (some ⟨c.w.heap.size, 0, none⟩), .cells (a.eval x).cells t, .blk c.w.heap.size, ?_, .inl rfl, ?_, ?_⟩
  ·simp [execOp, Instr.box, newVar, newRow]
  ·simp only [V]
   exact ⟨.inr rfl, c.w.heap.size, if_pos rfl, rfl⟩
  ·simp only [OR]
   exact ⟨(a.eval x).cells, t, heap_alloc_new _ _, Vs.mono (sm hh _ hb _) _ _ h1.1, h1.2⟩
theorem mh (x : Operand) (v : AV) (hx : ρ x = v) (hk : (∃ i o, v = .ptr i o) ∨ (∃ i j o, v = .eptr i j o) ∨ (∃ cs, v = .rop cs) ∨ (∃ f A B, v = .func (.func f) A B)) :
  b6 P ⟨dst, .nilCheck x, ty, pos, after, guard⟩ ρ rd fresh v [] :=
 b6.pure fun c h a hv _ _ => by
  have h1 := hv x (by simp [Op.operands])
  rw [hx] at h1
  refine ⟨a.eval x, ?_, h1⟩
  rcases hk with ⟨i, o, rfl⟩ | ⟨i, j, o, rfl⟩ | ⟨cs, rfl⟩ | ⟨f, A, B, rfl⟩ <;> simp only [V] at h1
  ·obtain ⟨_, b, _, h2⟩ := h1; simp [execOp, h2]
  ·obtain ⟨_, b, n, cp, sz, _, _, h2⟩ := h1; simp [execOp, h2]
  ·obtain ⟨b, o, h2, _⟩ := h1; simp [execOp, h2]
  ·obtain ⟨F, G, h2, _⟩ := h1; simp [execOp, h2]
theorem qem (fn : Fn) (f g : Array Operand) : b6 P ⟨dst, .makeFunc fn f g, ty, pos, after, guard⟩ ρ rd fresh (.func fn (f.toList.map ρ) (g.toList.map ρ)) [] :=
 b6.pure fun c h a hv _ _ => by
  have all : ∀ l : List Operand, (∀ x ∈ l, V c (ρ x) (a.eval x)) → Vs c (l.map ρ) (l.map a.eval) := by
   intro l
   induction l with
   | nil => intro _; simp [Vs]
   | cons x l ih =>
    intro hl
    simp only [List.map_cons, Vs]
    exact ⟨_, _, rfl, hl x (by simp), ih fun y hy => hl y (by simp [hy])⟩
  refine ⟨.func fn (f.map a.eval) (g.map a.eval), by simp [execOp, Instr.makeFunc], ?_⟩
  simp only [V]
  refine ⟨_, _, rfl, ?_, ?_⟩
  ·simpa using all f.toList fun x hx => hv x (by simp only [Op.operands, Array.mem_append]; exact .inl (by simpa using hx))
  ·simpa using all g.toList fun x hx => hv x (by simp only [Op.operands, Array.mem_append]; exact .inr (by simpa using hx))
theorem qgs (t : TypeId) (kk : wi) : b6 P ⟨dst, .makeMap t none, ty, pos, after, guard⟩ ρ rd fresh (.map fresh) [(fresh, .map kk [])] :=
 b6.grow fun c h a hv _ hh hb => by
  refine ⟨.map (some c.w.heap.size), .map #[] 0, .blk c.w.heap.size, ?_, .inl rfl, ?_, ?_⟩
  ·simp [execOp, Instr.makeMap]
  ·simp only [V]
   exact ⟨.inr rfl, c.w.heap.size, if_pos rfl, rfl⟩
  ·simp only [OR]
   exact ⟨#[], 0, heap_alloc_new _ _, by simp [jx]⟩
theorem qmt (t : TypeId) (x : Operand) (s : ByteArray) (hx : ρ x = .p (.str s)) (ht : P.underlying t = some .string) :
  b6 P ⟨dst, .range t x, ty, pos, after, guard⟩ ρ rd fresh (.iter fresh) [(fresh, .iter s 0)] :=
 b6.grow fun c h a hv _ hh hb => by
  have h1 := hv x (by simp [Op.operands])
  rw [hx] at h1
  have h2 := qfg h1
  refine ⟨.pointer (some ⟨c.w.heap.size, 0, none⟩), .stringIter s 0, .blk c.w.heap.size, ?_, .inl rfl, ?_, ?_⟩
  ·simp [execOp, Instr.range, run_underlying ht, h2]
  ·simp only [V]
   exact ⟨.inr rfl, c.w.heap.size, if_pos rfl, rfl⟩
  ·simp only [OR]
   exact heap_alloc_new _ _
theorem qgr (x : Operand) (i : Nat) (vs : List AV) (v : AV) (hx : ρ x = .tup vs) (hi : vs[i]? = some v) : b6 P ⟨dst, .extract x i, ty, pos, after, guard⟩ ρ rd fresh v [] :=
 b6.pure fun c h a hv _ _ => by
  have h1 := hv x (by simp [Op.operands])
  rw [hx] at h1
  simp only [V] at h1
  obtain ⟨C, h2, h3⟩ := h1
  obtain ⟨u, h4, h5⟩ := Vs.get i h3 v hi
  refine ⟨u, ?_, h5⟩
  have h6 : C[i]? = some u := by simpa using h4
  simp [execOp, Instr.extract, h2, h6]
end
end Go.RX
namespace Go.RX
def j5 (P : Program) (plain : cn) : Prop :=
 ∀ t us vs b, plain t us vs = some b → P.eqGuardType P.depth t = false ∧
  ∀ (X Y : List Value) (I : Bool → Nat → Prop) (w : World), dx I w us X → dx I w vs Y →
   (Op.equal t (.agg X.toArray) (.agg Y.toArray)).run P w = .ok b w
section
variable {P : Program} {ρ : Operand → AV} {rd : Nat → AO} {fresh : Nat} {dst : Option Tmp} {ty : TypeId} {pos : String} {after : Array Edge} {guard : Option (Nat × Bool)}
theorem yi {op : BinOp} {k : IntKind} {a b : Int} {K : AV → Prop} (h : qf6 op k a b K) :
  ∃ v, K v ∧ ∃ u, (∀ (c : Cx), V c v u) ∧ ∀ (t : TypeId) (w : World), (binOp op t (.int k a) (.int k b)).run P w = .ok u w := by
 unfold qf6 at h
 split at h
 ·exact ⟨_, h, _, fun c => jg _ _, fun t w => by simp [binOp, Op.intArith]⟩
 ·exact ⟨_, h, _, fun c => jg _ _, fun t w => by simp [binOp, Op.intArith]⟩
 ·exact ⟨_, h, _, fun c => jg _ _, fun t w => by simp [binOp, Op.intArith]⟩
 ·exact ⟨_, h.2, _, fun c => jg _ _, fun t w => by simp [binOp, Op.intDiv, h.1]⟩
 ·exact ⟨_, h.2, _, fun c => jg _ _, fun t w => by simp [binOp, Op.intDiv, h.1]⟩
 ·exact ⟨_, h, _, fun c => fu _, fun t w => by simp [binOp, Op.intCmp]⟩
 ·exact ⟨_, h, _, fun c => fu _, fun t w => by simp [binOp, Op.intCmp]⟩
 ·exact ⟨_, h, _, fun c => fu _, fun t w => by simp [binOp, Op.intCmp]⟩
 ·exact ⟨_, h, _, fun c => fu _, fun t w => by simp [binOp, Op.intCmp]⟩
 ·exact ⟨_, h, _, fun c => fu _, fun t w => by simp [binOp, Op.intCmp]⟩
 ·exact ⟨_, h, _, fun c => fu _, fun t w => by simp [binOp, Op.intCmp]⟩
 ·exact ⟨_, h.2, _, fun c => jg _ _, fun t w => by simp [binOp, Op.shift, show ¬ b < 0 from by omega]⟩
 ·exact ⟨_, h.2, _, fun c => jg _ _, fun t w => by simp [binOp, Op.shift, show ¬ b < 0 from by omega]⟩
 ·exact h.elim
theorem zt {op : BinOp} {k k' : IntKind} {a b : Int} (hop : op = .shl ∨ op = .shr) (t : TypeId) (w : World) :
  (binOp op t (.int k a) (.int k' b)).run P w = (binOp op t (.int k a) (.int k b)).run P w := by
 rcases hop with rfl | rfl <;> simp [binOp, Op.shift]
theorem qm2 {op : BinOp} {a b : ByteArray} {K : AV → Prop} (h : qgx op a b K) :
  ∃ v, K v ∧ ∃ u, (∀ (c : Cx), V c v u) ∧ ∀ (t : TypeId) (w : World), (binOp op t (.string a) (.string b)).run P w = .ok u w := by
 unfold qgx at h
 split at h
 ·have : ¬ ((IntKind.max .i64) < ((a.size + b.size : Nat) : Int)) := by
   have h9 : IntKind.max .i64 = 9223372036854775807 := by decide
   rw [h9]
   omega
  refine ⟨_, h.2, _, fun c => qkg _, fun t w => ?_⟩
  simp only [binOp, Op.stringOp, gt_iff_lt, if_neg this]
  rfl
 ·exact ⟨_, h, _, fun c => fu _, fun t w => by simp [binOp, Op.stringOp]⟩
 ·exact ⟨_, h, _, fun c => fu _, fun t w => by simp [binOp, Op.stringOp]⟩
 ·exact ⟨_, h, _, fun c => fu _, fun t w => by simp [binOp, Op.stringOp]⟩
 ·exact ⟨_, h, _, fun c => fu _, fun t w => by simp [binOp, Op.stringOp]⟩
 ·exact ⟨_, h, _, fun c => fu _, fun t w => by simp [binOp, Op.stringOp]⟩
 ·exact ⟨_, h, _, fun c => fu _, fun t w => by simp [binOp, Op.stringOp]⟩
 ·exact h.elim
theorem j2 : ∀ {cs : List AV} {xs : List PV}, dq cs = some xs → cs = xs.map .p
 | [], xs, h => by simp [dq] at h; subst h; rfl
 | .p x :: r, xs, h => by
  simp only [dq, Option.map_eq_some_iff] at h
  obtain ⟨ys, h1, rfl⟩ := h
  simp [j2 h1]
 | .undef :: _, _, h => by simp [dq] at h
 | .ptr _ _ :: _, _, h => by simp [dq] at h
 | .eptr _ _ _ :: _, _, h => by simp [dq] at h
 | .rop _ :: _, _, h => by simp [dq] at h
 | .row _ :: _, _, h => by simp [dq] at h
 | .map _ :: _, _, h => by simp [dq] at h
 | .iter _ :: _, _, h => by simp [dq] at h
 | .func _ _ _ :: _, _, h => by simp [dq] at h
 | .agg _ :: _, _, h => by simp [dq] at h
 | .tup _ :: _, _, h => by simp [dq] at h
 | .iface _ _ :: _, _, h => by simp [dq] at h
theorem po {op : BinOp} {b : Bool} (h : isEq op = some b) : (op = .eql ∧ b = true) ∨ (op = .neq ∧ b = false) := by
 cases op <;> simp [isEq] at h <;> simp [h]
theorem qft (op : BinOp) (t : TypeId) (x y : Operand) (k : IntKind) (n : Int) (v : Value) (w : World) : (eqGuard op t x y (.int k n) v).run P w = .ok () w := by
 cases op <;> simp [eqGuard]
theorem qfu (op : BinOp) (t : TypeId) (x y : Operand) (s : ByteArray) (v : Value) (w : World) : (eqGuard op t x y (.string s) v).run P w = .ok () w := by
 cases op <;> simp [eqGuard]
theorem qdq (op : BinOp) (t : TypeId) (x y : Operand) (b : Bool) (v : Value) (w : World) : (eqGuard op t x y (.bool b) v).run P w = .ok () w := by
 cases op <;> simp [eqGuard]
theorem zm {plain : cn} (hpl : j5 P plain) (op : BinOp) (t yt : TypeId) (x y : Operand) {K : AV → Prop} (h : qtk P plain op t (ρ x) (ρ y) K) :
  ∃ v, K v ∧ b6 P ⟨dst, .binOp op t x y yt, ty, pos, after, guard⟩ ρ rd fresh v [] := by
 unfold qtk at h
 split at h
 ·rename_i k a k' b hx hy
  have key : ∃ v, K v ∧ ∃ u, (∀ (c : Cx), V c v u) ∧ ∀ (w : World), (binOp op t (.int k a) (.int k' b)).run P w = .ok u w := by
   split at h
   ·obtain ⟨v, hk, u, h1, h2⟩ := yi (P := P) h
    exact ⟨v, hk, u, h1, fun w => by rw [zt (.inl rfl)]; exact h2 t w⟩
   ·obtain ⟨v, hk, u, h1, h2⟩ := yi (P := P) h
    exact ⟨v, hk, u, h1, fun w => by rw [zt (.inr rfl)]; exact h2 t w⟩
   ·split at h
    ·rename_i hd
     have hkk : k = k' := of_decide_eq_true hd
     subst hkk
     obtain ⟨v, hk, u, h1, h2⟩ := yi (P := P) h
     exact ⟨v, hk, u, h1, fun w => h2 t w⟩
    ·exact h.elim
  obtain ⟨v, hk, u, h1, h2⟩ := key
  refine ⟨v, hk, b6.pure fun c hp a' hv _ _ => ⟨u, ?_, h1 c⟩⟩
  have e1 := hv x (by simp [Op.operands])
  have e2 := hv y (by simp [Op.operands])
  rw [hx] at e1
  rw [hy] at e2
  have e3 := xd e1
  have e4 := xd e2
  simp [execOp, e3, e4, qft, h2]
 ·rename_i a b hx hy
  obtain ⟨v, hk, u, h1, h2⟩ := qm2 (P := P) h
  refine ⟨v, hk, b6.pure fun c hp a' hv _ _ => ⟨u, ?_, h1 c⟩⟩
  have e1 := hv x (by simp [Op.operands])
  have e2 := hv y (by simp [Op.operands])
  rw [hx] at e1
  rw [hy] at e2
  have e3 := qfg e1
  have e4 := qfg e2
  simp [execOp, e3, e4, qfu, h2]
 ·rename_i a b hx hy
  have key : ∃ v, K v ∧ ∃ u, (∀ (c : Cx), V c v u) ∧ ∀ (w : World), (binOp op t (.bool a) (.bool b)).run P w = .ok u w := by
   split at h
   ·rename_i hu e
    rcases po e with ⟨rfl, _⟩ | ⟨_, e⟩
    ·exact ⟨_, h, _, fun c => fu _, fun w => by simp only [binOp]; simp [run_equal_bool w t a b hu]⟩
    ·cases e
   ·rename_i hu e
    rcases po e with ⟨_, e⟩ | ⟨rfl, _⟩
    ·cases e
    ·exact ⟨_, h, _, fun c => fu _, fun w => by simp only [binOp]; simp [run_equal_bool w t a b hu]⟩
   ·exact h.elim
  obtain ⟨v, hk, u, h1, h2⟩ := key
  refine ⟨v, hk, b6.pure fun c hp a' hv _ _ => ⟨u, ?_, h1 c⟩⟩
  have e1 := hv x (by simp [Op.operands])
  have e2 := hv y (by simp [Op.operands])
  rw [hx] at e1
  rw [hy] at e2
  have e3 := sc e1
  have e4 := sc e2
  simp [execOp, e3, e4, qdq, h2]
 ·rename_i xs ys hx hy
  split at h
  ·rename_i us vs hus hvs
   have key : ∃ b, plain t us vs = some b ∧ ((op = .eql ∧ K (.p (.bool b))) ∨ (op = .neq ∧ K (.p (.bool (!b))))) := by
    split at h
    ·rename_i b e1 e2
     rcases po e1 with ⟨rfl, _⟩ | ⟨_, e⟩
     ·exact ⟨b, e2, .inl ⟨rfl, h⟩⟩
     ·cases e
    ·rename_i b e1 e2
     rcases po e1 with ⟨_, e⟩ | ⟨rfl, _⟩
     ·cases e
     ·exact ⟨b, e2, .inr ⟨rfl, h⟩⟩
    ·exact h.elim
   obtain ⟨b, hb, hk⟩ := key
   obtain ⟨hg, heq⟩ := hpl t us vs b hb
   have h1 := j2 hus
   have h2 := j2 hvs
   subst h1 h2
   have run : ∀ (c : Cx) (X Y : Value), V c (.agg (us.map .p)) X → V c (.agg (vs.map .p)) Y → ∃ A B, X = .agg A ∧ Y = .agg B ∧ (Op.equal t (.agg A) (.agg B)).run P c.w = .ok b c.w := by
    intro c X Y hX hY
    simp only [V] at hX hY
    obtain ⟨A, rfl, hA, _⟩ := hX
    obtain ⟨B, rfl, hB, _⟩ := hY
    exact ⟨A, B, rfl, rfl, by simpa using heq A.toList B.toList c.J c.w ((ga _ _).1 hA) ((ga _ _).1 hB)⟩
   rcases hk with ⟨rfl, hk⟩ | ⟨rfl, hk⟩
   ·refine ⟨_, hk, b6.pure fun c hp a' hv _ _ => ⟨.bool b, ?_, fu b⟩⟩
    have e1 := hv x (by simp [Op.operands])
    have e2 := hv y (by simp [Op.operands])
    rw [hx] at e1
    rw [hy] at e2
    obtain ⟨A, B, e3, e4, e5⟩ := run c _ _ e1 e2
    simp only [execOp, e3, e4, Sem.run_bind, run_eqGuard_agg _ _ _ _ _ _ _ hg, Result.andThen_ok, binOp, e5, Sem.run_pure]
   ·refine ⟨_, hk, b6.pure fun c hp a' hv _ _ => ⟨.bool (!b), ?_, fu _⟩⟩
    have e1 := hv x (by simp [Op.operands])
    have e2 := hv y (by simp [Op.operands])
    rw [hx] at e1
    rw [hy] at e2
    obtain ⟨A, B, e3, e4, e5⟩ := run c _ _ e1 e2
    simp only [execOp, e3, e4, Sem.run_bind, run_eqGuard_agg _ _ _ _ _ _ _ hg, Result.andThen_ok, binOp, e5, Sem.run_pure]
  ·exact h.elim
 ·exact h.elim
theorem qzq (op : UnOp) (xt : TypeId) (x : Operand) {K : AV → Prop} (h : unA op (ρ x) K) :
  ∃ v, K v ∧ b6 P ⟨dst, .unOp op xt x, ty, pos, after, guard⟩ ρ rd fresh v [] := by
 unfold unA at h
 split at h
 ·rename_i b hx
  refine ⟨_, h, b6.pure fun c hp a hv _ _ => ⟨.bool (!b), ?_, fu _⟩⟩
  have e1 := hv x (by simp [Op.operands])
  rw [hx] at e1
  simp [execOp, sc e1, Op.unary]
 ·rename_i k n hx
  refine ⟨_, h, b6.pure fun c hp a hv _ _ => ⟨.int k (k.wrap (0 - n)), ?_, jg _ _⟩⟩
  have e1 := hv x (by simp [Op.operands])
  rw [hx] at e1
  simp [execOp, xd e1, Op.unary, Op.intArith]
 ·exact h.elim
theorem qpj (s d : TypeId) (x : Operand) {K : AV → Prop} (h : qrc P s d (ρ x) K) :
  ∃ v, K v ∧ b6 P ⟨dst, .convert s d x, ty, pos, after, guard⟩ ρ rd fresh v [] := by
 unfold qrc at h
 split at h
 ·rename_i j k k' n h1 h2 hx
  refine ⟨_, h, b6.pure fun c hp a hv _ _ => ⟨.int k (k.wrap n), ?_, jg _ _⟩⟩
  have e1 := hv x (by simp [Op.operands])
  rw [hx] at e1
  simp [execOp, xd e1, convert, run_underlying h1, run_underlying h2, Conv.intToInt]
 ·rename_i t h1 h2 hx
  refine ⟨_, h, b6.pure fun c hp a hv _ _ => ⟨.string t, ?_, qkg _⟩⟩
  have e1 := hv x (by simp [Op.operands])
  rw [hx] at e1
  simp [execOp, qfg e1, convert, run_underlying h1, run_underlying h2]
 ·exact h.elim
theorem qf0 {t : TypeId} {f off n : Nat} (h : fieldAt P t f = some (off, n)) :
  ∃ (fs : Array Field) (fd : Field), P.underlying t = some (.struct fs) ∧ fs[f]? = some fd ∧ fd.offset = off ∧ du P fd.type = some n := by
 unfold fieldAt ya at h
 cases hu : P.underlying t with
 | none => simp [hu] at h
 | some d =>
  cases d <;> simp [hu] at h
  rename_i fs
  cases hf : fs[f]? with
  | none => simp [hf] at h
  | some fd =>
   simp [hf] at h
   exact ⟨fs, fd, rfl, hf, h.2, h.1⟩
theorem zh {fd : Field} {n : Nat} (hn : du P fd.type = some n) (h0 : n ≠ 0) (a : Addr) (w : World) : (fieldPlace a fd).run P w = .ok (a.add fd.offset) w := by
 simp [fieldPlace, dz hn, h0]
theorem kf (b o n : Nat) : (⟨b, o, none⟩ : Addr).add n = ⟨b, o + n, none⟩ := by
 unfold Addr.add
 split <;> simp_all
theorem dx.drop {I : Bool → Nat → Prop} {w : World} : ∀ {xs : List PV} {us : List Value} (n : Nat), dx I w xs us → dx I w (xs.drop n) (us.drop n)
 | _, _, 0, h => h
 | [], us, n + 1, h => by simp [dx] at h; subst h; simp [dx]
 | x :: xs, us, n + 1, h => by
  simp only [dx] at h
  obtain ⟨y, r, rfl, _, h2⟩ := h
  simpa using dx.drop n h2
theorem dx.take {I : Bool → Nat → Prop} {w : World} : ∀ {xs : List PV} {us : List Value} (n : Nat), dx I w xs us → dx I w (xs.take n) (us.take n)
 | _, _, 0, _ => by simp [dx]
 | [], us, n + 1, h => by simp [dx] at h; subst h; simp [dx]
 | x :: xs, us, n + 1, h => by
  simp only [dx] at h
  obtain ⟨y, r, rfl, h1, h2⟩ := h
  simp only [List.take_succ_cons, dx]
  exact ⟨y, _, rfl, h1, dx.take n h2⟩
theorem qc1 (env : Env) (hP : env.P = P) (t : TypeId) (x : Operand) (f : Nat) {K : KA} (h : qq5 env t (ρ x) f K) :
  ∃ v, K v [] ∧ b6 P ⟨dst, .fieldAddr t x f, ty, pos, after, guard⟩ ρ rd fresh v [] := by
 unfold qq5 at h
 rw [hP] at h
 split at h
 ·rename_i off n hf
  obtain ⟨fs, fd, h1, h2, rfl, h3⟩ := qf0 hf
  split at h
  ·exact h.elim
  ·rename_i hn
   have hn0 : n ≠ 0 := by intro e; subst e; simp at hn
   have run : ∀ (b o : Nat) (w : World), (Instr.fieldAt t (.pointer (some ⟨b, o, none⟩)) f).run P w = .ok (.pointer (some ⟨b, o + fd.offset, none⟩)) w := by
    intro b o w
    simp [Instr.fieldAt, run_underlying h1, h2, Instr.sureAddr, zh h3 hn0, kf]
   split at h
   ·rename_i i o hx
    refine ⟨_, h, b6.pure fun c hp a hv _ _ => ?_⟩
    have e1 := hv x (by simp [Op.operands])
    rw [hx] at e1
    simp only [V] at e1
    obtain ⟨hb, b, h4, h5⟩ := e1
    exact ⟨.pointer (some ⟨b, o + fd.offset, none⟩), by simp [execOp, h5, run], by simp only [V]; exact ⟨hb, b, h4, rfl⟩⟩
   ·rename_i i j o hx
    refine ⟨_, h, b6.pure fun c hp a hv _ _ => ?_⟩
    have e1 := hv x (by simp [Op.operands])
    rw [hx] at e1
    simp only [V] at e1
    obtain ⟨hb, b, n, cp, sz, h4, h6, h5⟩ := e1
    exact ⟨.pointer (some ⟨b, j * sz + o + fd.offset, none⟩), by simp [execOp, h5, run], by simp only [V]; exact ⟨hb, b, n, cp, sz, h4, h6, by rw [Nat.add_assoc]⟩⟩
   ·rename_i cs hx
    refine ⟨_, h, b6.pure fun c hp a hv _ _ => ?_⟩
    have e1 := hv x (by simp [Op.operands])
    rw [hx] at e1
    simp only [V] at e1
    obtain ⟨b, o, h4, hI, es, h5, h6⟩ := e1
    refine ⟨.pointer (some ⟨b, o + fd.offset, none⟩), by simp [execOp, h4, run], ?_⟩
    simp only [V]
    refine ⟨b, o + fd.offset, rfl, hI, es.drop fd.offset, h5.drop _, fun j hj => ?_⟩
    simp only [List.length_drop] at hj
    have := h6 (fd.offset + j) (by omega)
    rw [List.getElem?_drop, ← this, Nat.add_assoc]
   ·exact h.elim
 ·exact h.elim
def ql8 (agg : Bool) (es : List Value) : Value := match agg with
 | true => .agg es.toArray
 | false => es.headD Go.undef
theorem mf {P : Program} {w : World} {b o : Nat} : ∀ (n i : Nat) (es : List Value) (acc : Array Value), es.length = n → (∀ j, j < n → w.cell? ⟨b, o + i + j, none⟩ = es[j]?) →
  (loadCellsFrom ⟨b, o, none⟩ i n acc).run P w = .ok (acc ++ es.toArray) w
 | 0, i, es, acc, hl, _ => by
  have : es = [] := List.eq_nil_of_length_eq_zero hl
  subst this
  simp [loadCellsFrom]
 | n + 1, i, es, acc, hl, h => by
  cases es with
  | nil => simp at hl
  | cons e es =>
   have h0 := h 0 (by omega)
   simp only [Nat.add_zero, List.getElem?_cons_zero] at h0
   have ih := mf (P := P) (w := w) (b := b) (o := o) n (i + 1) es (acc.push e) (by simpa using hl) (fun j hj => by
    have := h (j + 1) (by omega)
    simp only [List.getElem?_cons_succ] at this
    rw [← this]
    congr 2
    omega)
   simp [loadCellsFrom, kf, h0, ih]
theorem vq {t : TypeId} {agg : Bool} {n : Nat} (ha : df P t = some agg) (hn : du P t = some n) {w : World} {b o : Nat} {es : List Value} (hl : es.length = n)
  (h : ∀ j, j < n → w.cell? ⟨b, o + j, none⟩ = es[j]?) (h1 : agg = false → n = 1) :
  (loadVar t ⟨b, o, none⟩).run P w = .ok (ql8 agg es) w := by
 cases agg with
 | true =>
  have := mf (P := P) (w := w) (b := b) (o := o) n 0 es #[] hl (by simpa using h)
  simp [loadVar, nc ha, dz hn, loadCells, this, ql8]
 | false =>
  have h2 := h1 rfl
  subst h2
  cases es with
  | nil => simp at hl
  | cons e es =>
   have h0 := h 0 (by omega)
   simp at h0
   simp [loadVar, nc ha, h0, ql8]
theorem xe {c : Cx} {agg : Bool} {cs : List AV} {es : List Value} (h : Vs c cs es) (h1 : ∀ u ∈ es, u.oneCell' = true) (hk : agg = false → cs.length = 1) :
  V c (im agg cs) (ql8 agg es) := by
 cases agg with
 | true =>
  simp only [im, V, ql8]
  exact ⟨_, rfl, by simpa using h, by simpa using h1⟩
 | false =>
  have h2 := hk rfl
  match cs, h2 with
  | [x], _ =>
   simp only [Vs] at h
   obtain ⟨y, ys, rfl, h3, _⟩ := h
   simpa [im, ql8] using h3
end
end Go.RX
namespace Go.RX
def qp0 (P : Program) (vw : TypeId → PV → (List PV → Prop) → Prop) : Prop :=
 ∀ t x K, vw t x K → ∃ cs, K cs ∧ du P t = some cs.length ∧ 0 < cs.length ∧ ((df P t = some true ∧ x = .agg cs) ∨ (df P t = some false ∧ (∀ xs, x ≠ .agg xs) ∧ cs = [x]))
theorem RoC.cells {I : Bool → Nat → Prop} {w : World} {x : PV} {es : List Value} (h : RoC I w x es) (hx : ∀ xs, x ≠ .agg xs) : dx I w [x] es := by
 simp only [dx]
 cases x with
 | agg xs => exact absurd rfl (hx xs)
 | arr n g =>
  have h0 := h
  simp only [RoC] at h0
  obtain ⟨a, c, rfl, _⟩ := h0
  exact ⟨_, [], rfl, h, rfl⟩
 | _ =>
  have h0 := h
  simp only [RoC] at h0
  subst h0
  exact ⟨_, [], rfl, h, rfl⟩
theorem qc6 {P : Program} {t : TypeId} {x : PV} {cs : List PV} (hk : (df P t = some true ∧ x = .agg cs) ∨ (df P t = some false ∧ (∀ xs, x ≠ .agg xs) ∧ cs = [x]))
  {I : Bool → Nat → Prop} {w : World} {es : List Value} (h : RoC I w x es) : dx I w cs es := by
 rcases hk with ⟨_, rfl⟩ | ⟨_, hx, rfl⟩
 ·simpa [RoC] using h
 ·exact h.cells hx
section
variable {P : Program} {ρ : Operand → AV} {rd : Nat → AO} {fresh : Nat} {dst : Option Tmp} {ty : TypeId} {pos : String} {after : Array Edge} {guard : Option (Nat × Bool)}
theorem lp {t : TypeId} {agg : Bool} {n : Nat} (h : zr P t = some (agg, n)) : df P t = some agg ∧ du P t = some n ∧ (agg = false → n = 1) := by
 unfold zr at h
 split at h
 ·rename_i m h1 h2
  simp at h
  obtain ⟨rfl, rfl⟩ := h
  exact ⟨h1, h2, fun e => by cases e⟩
 ·rename_i m h1 h2
  split at h
  ·rename_i hb
   simp at h
   obtain ⟨rfl, rfl⟩ := h
   exact ⟨h1, h2, fun _ => Nat.eq_of_beq_eq_true hb⟩
  ·cases h
 ·cases h
theorem dc.at_ {I : Bool → Nat → Prop} {w : World} {sz : Nat} : ∀ {xs : List PV} {cells : List Value} (i : Nat), dc I w sz xs cells → i < xs.length →
  ∃ es, RoC I w (xs.getD i .nilp) es ∧ es.length = sz ∧ ∀ j, j < sz → cells[i * sz + j]? = es[j]?
 | [], _, i, _, hi => by simp at hi
 | x :: xs, cells, 0, h, _ => by
  obtain ⟨es, r, rfl, h1, h2, _⟩ := h
  refine ⟨es, by simpa using h2, h1, fun j hj => ?_⟩
  rw [List.getElem?_append_left (by omega)]
  simp
 | x :: xs, cells, i + 1, h, hi => by
  obtain ⟨es, r, rfl, h1, h2, h3⟩ := h
  obtain ⟨us, h4, h5, h6⟩ := dc.at_ i h3 (by simpa using hi)
  refine ⟨us, by simpa using h4, h5, fun j hj => ?_⟩
  rw [List.getElem?_append_right (by rw [h1, Nat.add_mul]; omega), ← h6 j hj]
  congr 1
  rw [h1, Nat.add_mul]
  omega
theorem dc.length {I : Bool → Nat → Prop} {w : World} {sz : Nat} : ∀ {xs : List PV} {cells : List Value}, dc I w sz xs cells → cells.length = xs.length * sz
 | [], _, h => by simp [dc] at h; subst h; simp
 | x :: xs, cells, h => by
  obtain ⟨es, r, rfl, h1, _, h3⟩ := h
  simp [h1, dc.length h3, Nat.add_mul]
  omega
theorem vn {w : World} {e sz n : Nat} {v : Value} {cells : List Value} (h : w.ownsRow 0 e sz v n cells) {b m cp : Nat} (hv : v = .slice (some ⟨b, 0, none⟩) m cp) (j : Nat) (hj : j < cells.length) :
  w.cell? ⟨b, j, none⟩ = cells[j]? := by
 have h1 := h.cells (g := b) (by rw [hv]; rfl) j (cells[j]) (by simp [hj])
 rw [kf, Nat.zero_add] at h1
 rw [h1]
 simp [hj]
theorem qpk (env : Env) (hP : env.P = P) (hvw : qp0 P env.vw) (t : TypeId) (x : Operand) {K : KA} (h : qrv env rd t (ρ x) K) :
  ∃ v, K v [] ∧ b6 P ⟨dst, .load t x, ty, pos, after, guard⟩ ρ rd fresh v [] := by
 unfold qrv at h
 rw [hP] at h
 split at h
 ·rename_i agg n hshape
  obtain ⟨ha, hn, hone⟩ := lp hshape
  have fin : ∀ (c : Cx) (b o : Nat) (cs : List AV) (es : List Value), Vs c cs es → (∀ u ∈ es, u.oneCell' = true) → cs.length = n → (∀ j, j < n → c.w.cell? ⟨b, o + j, none⟩ = es[j]?) →
    ∃ u, (Instr.loadAt t (.pointer (some ⟨b, o, none⟩))).run P c.w = .ok u c.w ∧ V c (im agg cs) u := by
   intro c b o cs es h1 h2 h3 h4
   refine ⟨_, ?_, xe h1 h2 (fun e => by rw [h3]; exact hone e)⟩
   have := vq ha hn (w := c.w) (b := b) (o := o) (es := es) (by rw [h1.length, h3]) h4 hone
   simp [Instr.loadAt, Instr.sureAddr, this]
  split at h
  ·rename_i i off hx
   split at h
   ·rename_i cs hr
    split at h
    ·rename_i hle
     have hle' : off + n ≤ cs.length := Nat.le_of_ble_eq_true hle
     refine ⟨_, h, b6.pure fun c hp a hv hrd hh => ?_⟩
     have e1 := hv x (by simp [Op.operands])
     rw [hx] at e1
     simp only [V] at e1
     obtain ⟨hb, b, h4, h5⟩ := e1
     have h6 := (hh.obj i _ (hrd i (by rw [hr]; simp))).2
     rw [hr, h4] at h6
     simp only [OR] at h6
     obtain ⟨C, t', h7, h8, h9⟩ := h6
     have h10 : C.size = cs.length := by simpa using h8.length
     obtain ⟨u, h11, h12⟩ := fin c b off (cut cs off n) ((C.toList.drop off).take n) ((h8.drop off).take n) (fun u hu => h9 u (List.mem_of_mem_drop (List.mem_of_mem_take hu))) (by simp [cut]; omega) (fun j hj => by
      rw [cell_of_row c.w b (off + j) C t' (0, 0) h7, List.getElem?_take, if_pos hj, List.getElem?_drop]
      simp)
     exact ⟨u, by simp only [execOp, h5, Sem.run_bind, h11, Result.andThen_ok, Sem.run_pure], h12⟩
    ·exact h.elim
   ·exact h.elim
  ·rename_i cs hx
   split at h
   ·rename_i hle
    have hle' : n ≤ cs.length := Nat.le_of_ble_eq_true hle
    refine ⟨_, h, b6.pure fun c hp a hv hrd hh => ?_⟩
    have e1 := hv x (by simp [Op.operands])
    rw [hx] at e1
    simp only [V] at e1
    obtain ⟨b, o, h4, hI, es, h5, h6⟩ := e1
    have h7 := h5.length
    obtain ⟨u, h11, h12⟩ := fin c b o ((cs.take n).map .p) (es.take n) ((ga _ _).2 (h5.take n)) (fun u hu => dx.qia _ _ h5 u (List.mem_of_mem_take hu)) (by simp; omega) (fun j hj => by
     rw [h6 j (by omega), List.getElem?_take, if_pos hj])
    exact ⟨u, by simp only [execOp, h4, Sem.run_bind, h11, Result.andThen_ok, Sem.run_pure], h12⟩
   ·exact h.elim
  ·rename_i i k o hx
   split at h
   ·rename_i e sz xs hr
    obtain ⟨cs, hk, hsz, hpos, hag⟩ := hvw _ _ _ h
    split at hk
    ·rename_i hle
     have hle' : o + n ≤ cs.length := Nat.le_of_ble_eq_true hle
     refine ⟨_, hk, b6.pure fun c hp a hv hrd hh => ?_⟩
     have e1 := hv x (by simp [Op.operands])
     rw [hx] at e1
     simp only [V] at e1
     obtain ⟨hb, b, m, cp, sz', h4, hkn, h5⟩ := e1
     have h6 := (hh.obj i _ (hrd i (by rw [hr]; simp))).2
     rw [hr, h4] at h6
     simp only [OR] at h6
     obtain ⟨rfl, hsz0, cells, h7, h8⟩ := h6
     have hm : m = xs.length := by
      rcases h7.2 with ⟨he, _⟩ | ⟨g, cap, cur, he, _⟩
      ·simp at he
      ·simp at he
       exact he.2.1
     obtain ⟨es, h9, h10, h13⟩ := h8.at_ k (by omega)
     have hcs := qc6 hag h9
     have hlen : es.length = cs.length := hcs.length
     have hcl := h8.length
     obtain ⟨u, h11, h12⟩ := fin c b (k * sz' + o) ((cut cs o n).map .p) ((es.drop o).take n) ((ga _ _).2 ((hcs.drop o).take n)) (fun u hu => dx.qia _ _ hcs u (List.mem_of_mem_drop (List.mem_of_mem_take hu))) (by simp [cut]; omega) (fun j hj => by
      have hlt : k * sz' + (o + j) < cells.length := by
       rw [hcl, ← hm]
       have : (k + 1) * sz' ≤ m * sz' := Nat.mul_le_mul_right _ hkn
       rw [Nat.add_mul] at this
       omega
      rw [Nat.add_assoc, vn h7 rfl _ hlt, h13 (o + j) (by omega), List.getElem?_take, if_pos hj, List.getElem?_drop])
     exact ⟨u, by simp only [execOp, h5, Sem.run_bind, h11, Result.andThen_ok, Sem.run_pure], h12⟩
    ·exact hk.elim
   ·exact h.elim
  ·exact h.elim
 ·exact h.elim
theorem rf {t e : TypeId} {n : Nat} (ht : P.underlying t = some (.slice e)) (hn : du P e = some n) {b o len cap : Nat} {k : IntKind} {i : Int} (h0 : 0 ≤ i) (h1 : i < len) (w : World) :
  (Instr.indexAt t (.slice (some ⟨b, o, none⟩) len cap) (.int k i)).run P w = .ok (.pointer (some ⟨b, o + i.toNat * n, none⟩)) w := by
 simp [Instr.indexAt, asIntOf, run_underlying ht, h0, h1, dz hn, kf]
theorem qix {I : Bool → Nat → Prop} {w : World} {m : Bool} {n : Nat} {g : Nat → PV} {u : Value} (h : RoC I w (.arr m n g) [u]) {i : Nat} (hi : i < n) :
  ∃ b off sz cap, u = .slice (some ⟨b, off, none⟩) n cap ∧ I m b ∧ ∃ es : List Value, es.length = sz ∧ RoC I w (g i) es ∧ ∀ j, j < sz → w.cell? ⟨b, off + i * sz + j, none⟩ = es[j]? := by
 simp only [RoC] at h
 obtain ⟨a, c, h1, _, h2⟩ := h
 obtain ⟨b, off, sz, rfl, hI, _, _, h3⟩ := h2 (by omega)
 simp at h1
 exact ⟨b, off, sz, c, h1, hI, h3 i hi⟩
theorem tu (env : Env) (hP : env.P = P) (hvw : qp0 P env.vw) (t : TypeId) (x y : Operand) (k : IntKind) (i : Int) (hy : ρ y = .p (.int k i)) {K : KA} (h : qlb env rd t (ρ x) i K) :
  ∃ v, K v [] ∧ b6 P ⟨dst, .indexAddr t x y, ty, pos, after, guard⟩ ρ rd fresh v [] := by
 unfold qlb at h
 rw [hP] at h
 split at h
 ·rename_i e ht
  have arr : ∀ (m : Bool) (n : Nat) (g : Nat → PV), (0 ≤ i ∧ i < n ∧ env.vw e (g i.toNat) fun cs => K (.rop cs) []) →
    (∀ c h', (∀ j, rd j ≠ .dead → h' j = some (rd j)) → HR c h' → ∀ u, V c (ρ x) u → RoC c.J c.w (.arr m n g) [u]) →
    ∃ v, K v [] ∧ b6 P ⟨dst, .indexAddr t x y, ty, pos, after, guard⟩ ρ rd fresh v [] := by
   rintro m n g ⟨h0, h1, h2⟩ hro
   obtain ⟨cs, hk, hsz, hpos, hag⟩ := hvw _ _ _ h2
   refine ⟨_, hk, b6.pure fun c hp a hv hrd hh => ?_⟩
   have e1 := hv x (by simp [Op.operands])
   have e2 := hv y (by simp [Op.operands])
   rw [hy] at e2
   have hi : i.toNat < n := by omega
   obtain ⟨b, off, sz, cap, h4, hI, es, h5, h6, h7⟩ := qix (hro c hp hrd hh _ e1) hi
   have hcs := qc6 hag h6
   have hl : sz = cs.length := by rw [← h5]; exact hcs.length
   subst hl
   refine ⟨.pointer (some ⟨b, off + i.toNat * cs.length, none⟩), ?_, ?_⟩
   ·simp [execOp, xd e2, h4, rf ht hsz h0 h1]
   ·simp only [V]
    exact ⟨b, _, rfl, hI.1, es, hcs, fun j hj => h7 j (by omega)⟩
  split at h
  ·rename_i m n g hx
   exact arr m n g h fun c h' _ _ u hu => by rw [hx] at hu; simpa only [V] using hu
  ·rename_i id hx
   split at h
   ·rename_i e' sz xs hr
    split at h
    ·rename_i n hn
     split at h
     ·rename_i hb
      have hns := Nat.eq_of_beq_eq_true hb
      subst hns
      obtain ⟨h0, h1, h2⟩ := h
      refine ⟨_, h2, b6.pure fun c hp a hv hrd hh => ?_⟩
      have e1 := hv x (by simp [Op.operands])
      have e2 := hv y (by simp [Op.operands])
      rw [hy] at e2
      rw [hx] at e1
      simp only [V] at e1
      obtain ⟨hbn, a', m, cp, sz', h3, h4⟩ := e1
      have h6 := (hh.obj id _ (hrd id (by rw [hr]; simp))).2
      rw [hr, h4, h3] at h6
      simp only [OR] at h6
      obtain ⟨rfl, hsz0, cells, h7, _⟩ := h6
      rcases h7.2 with ⟨_, he⟩ | ⟨g, cap, cur, he, _⟩
      ·omega
      ·simp at he
       obtain ⟨rfl, rfl, rfl⟩ := he
       refine ⟨.pointer (some ⟨g, 0 + i.toNat * sz', none⟩), ?_, ?_⟩
       ·simp only [execOp, xd e2, h3, Sem.run_bind, rf ht hn h0 h1, Result.andThen_ok, Sem.run_pure]
       ·simp only [V]
        exact ⟨hbn, g, _, cp, sz', by rw [h4, h3], by omega, by simp⟩
     ·exact h.elim
    ·exact h.elim
   ·rename_i sz xs hr
    exact arr true xs.length (fun j => xs.getD j .nilp) h fun c h' hrd hh u hu => by
     rw [hx] at hu
     simp only [V] at hu
     obtain ⟨_, a, n, cp, sz', rfl, h4⟩ := hu
     have h6 := (hh.obj id _ (hrd id (by rw [hr]; simp))).2
     rw [hr, h4] at h6
     simpa only [OR] using h6
   ·exact h.elim
  ·exact h.elim
 ·exact h.elim
theorem qel (t : TypeId) (x y : Operand) (k : IntKind) (i : Int) (s : ByteArray) (hy : ρ y = .p (.int k i)) (hx : ρ x = .p (.str s)) (ht : P.underlying t = some .string) (h0 : 0 ≤ i) (h1 : i < s.size) :
  b6 P ⟨dst, .index t x y, ty, pos, after, guard⟩ ρ rd fresh (.p (.int .u8 (cb s i.toNat))) [] :=
 b6.pure fun c h a hv _ _ => by
  have e1 := hv x (by simp [Op.operands])
  have e2 := hv y (by simp [Op.operands])
  rw [hx] at e1
  rw [hy] at e2
  have h2 : i.toNat < s.size := by omega
  have h3 : s.data.toList[i.toNat]? = some (s[i.toNat]'h2) := by
   have : i.toNat < s.data.toList.length := by simpa using h2
   rw [List.getElem?_eq_getElem this]
   rfl
  have h4 : s[i.toNat]? = some (s[i.toNat]'h2) := by simp [h2]
  refine ⟨.int .u8 (cb s i.toNat), ?_, jg _ _⟩
  simp [execOp, Instr.index, xd e2, qfg e1, asIntOf, run_underlying ht, h0, h4, cb, h3]
theorem qsk (ats : Array TypeId) (x : Operand) (at0 : TypeId) (hat : ats[0]? = some at0) {K : AV → Prop} (h : q60 P at0 rd (ρ x) K) :
  ∃ v, K v ∧ b6 P ⟨dst, .call { callee := .builtin .len, args := #[x], argTypes := ats }, ty, pos, after, guard⟩ ρ rd fresh v [] := by
 have run : ∀ (a : Act) (w : World), (execOp a.eval ⟨dst, .call { callee := .builtin .len, args := #[x], argTypes := ats }, ty, pos, after, guard⟩).run P w =
   ((Builtin.len_ ats ty #[a.eval x]).run P w).andThen fun u w' => .ok (.value u) w' := by
  intro a w
  simp [execOp, resolve, invoke, builtin]
 have sl : ∀ {e : TypeId}, P.underlying at0 = some (.slice e) → ∀ (a : Option Addr) (n cp : Nat) (w : World), (Builtin.len_ ats ty #[.slice a n cp]).run P w = .ok (.int .i64 n) w := by
  intro e he a n cp w
  simp [Builtin.len_, hat, run_underlying he, goInt]
 unfold q60 at h
 split at h
 ·rename_i s ht hx
  refine ⟨_, h, b6.pure fun c hp a hv _ _ => ⟨.int .i64 s.size, ?_, jg _ _⟩⟩
  have e1 := hv x (by simp [Op.operands, Call.operands])
  rw [hx] at e1
  rw [run, qfg e1]
  simp [Builtin.len_, hat, run_underlying ht, goInt]
 ·rename_i e n g he hx
  refine ⟨_, h, b6.pure fun c hp a hv _ _ => ⟨.int .i64 n, ?_, jg _ _⟩⟩
  have e1 := hv x (by simp [Op.operands, Call.operands])
  rw [hx] at e1
  simp only [V, RoC] at e1
  obtain ⟨b, cp, h1, _⟩ := e1
  simp at h1
  rw [run, h1, sl he]
  rfl
 ·rename_i e he hx
  refine ⟨_, h, b6.pure fun c hp a hv _ _ => ⟨.int .i64 0, ?_, jg _ _⟩⟩
  have e1 := hv x (by simp [Op.operands, Call.operands])
  rw [hx] at e1
  rw [run, o0 e1, sl he]
  rfl
 ·rename_i e id he hx
  split at h
  ·rename_i e' sz xs hr
   refine ⟨_, h, b6.pure fun c hp a hv hrd hh => ⟨.int .i64 xs.length, ?_, jg _ _⟩⟩
   have e1 := hv x (by simp [Op.operands, Call.operands])
   rw [hx] at e1
   simp only [V] at e1
   obtain ⟨_, b, m, cp, sz', h3, h4⟩ := e1
   have h6 := (hh.obj id _ (hrd id (by rw [hr]; simp))).2
   rw [hr, h4, h3] at h6
   simp only [OR] at h6
   obtain ⟨rfl, _, cells, h7, _⟩ := h6
   have hm : m = xs.length := by
    rcases h7.2 with ⟨he, h8⟩ | ⟨g, cap, cur, he, _⟩
    ·simp at he; omega
    ·simp at he; exact he.2.1
   rw [run, h3, sl he, hm]
   rfl
  ·rename_i sz xs hr
   refine ⟨_, h, b6.pure fun c hp a hv hrd hh => ⟨.int .i64 xs.length, ?_, jg _ _⟩⟩
   have e1 := hv x (by simp [Op.operands, Call.operands])
   rw [hx] at e1
   simp only [V] at e1
   obtain ⟨_, b, m, cp, sz', h3, h4⟩ := e1
   have h6 := (hh.obj id _ (hrd id (by rw [hr]; simp))).2
   rw [hr, h4, h3] at h6
   simp only [OR, RoC] at h6
   obtain ⟨_, _, h7, _⟩ := h6
   simp at h7
   rw [run, h3, sl he, h7.2.1]
   rfl
  ·exact h.elim
 ·rename_i k e id he hx
  split at h
  ·rename_i kk es hr
   refine ⟨_, h, b6.pure fun c hp a hv hrd hh => ⟨.int .i64 es.length, ?_, jg _ _⟩⟩
   have e1 := hv x (by simp [Op.operands, Call.operands])
   rw [hx] at e1
   simp only [V] at e1
   obtain ⟨_, b, h3, h4⟩ := e1
   have h6 := (hh.obj id _ (hrd id (by rw [hr]; simp))).2
   rw [hr, h3] at h6
   simp only [OR] at h6
   obtain ⟨E, cl, h7, h8⟩ := h6
   have hlen : ∀ (xs : List (PV × PV)) (ms : List MapEntry), jx c.J c.w kk xs ms → ms.length = xs.length := by
    intro xs
    induction xs with
    | nil => intro ms hm; simp [jx] at hm; subst hm; rfl
    | cons x xs ih =>
     intro ms hm
     obtain ⟨k, v⟩ := x
     obtain ⟨e, es', rfl, _, _, _, h9⟩ := hm
     simp [ih es' h9]
   have h9 := hlen es E.toList h8
   have h10 : E.size = es.length := by simpa using h9
   rw [run, h4]
   simp [Builtin.len_, hat, run_underlying he, goInt, getObj, Sem.run, h7, h10]
  ·exact h.elim
 ·exact h.elim
end
end Go.RX
namespace Go.RX
theorem zo {c : Cx} {h : HP} (hh : HR c h) {i b : Nat} (hl : Live h i) (hb : (c.β i).block = some b) {w' : World} (hw : ∀ k, k < c.w.heap.size → k ≠ b → w'.heap[k]? = c.w.heap[k]?) : Ext c (c.with w') :=
 ⟨fun _ h => h, fun _ _ => rfl, fun _ h => h, fun k hk => hw k (hh.bound k hk) (fun e => hh.apart i b hl hb (e ▸ hk)), rfl⟩
theorem qo {h : HP} {i : Nat} (hl : Live h i) {ao : AO} {j : Nat} (hj : Live (jr h [(i, ao)]) j) : Live h j := by
 rcases jc hj with ⟨rfl, _⟩ | ⟨_, h1⟩
 ·exact hl
 ·exact h1
theorem qzs {c : Cx} {h : HP} (hh : HR c h) {i b : Nat} (hl : Live h i) (hb : (c.β i).block = some b) {w' : World} (hs : c.w.heap.size ≤ w'.heap.size)
  (hw : ∀ k, k < c.w.heap.size → k ≠ b → w'.heap[k]? = c.w.heap[k]?) (ao : AO) (ho : OR (c.with w') ao (c.β i)) : HR (c.with w') (jr h [(i, ao)]) := by
 have hext := zo hh hl hb hw
 refine ⟨fun j x hx => ?_, fun j k n hj hk hjb hkb => hh.inj j k n (qo hl hj) (qo hl hk) hjb hkb, fun j n hj hjb => hh.apart j n (qo hl hj) hjb, fun n hn => Nat.lt_of_lt_of_le (hh.bound n hn) hs, fun j n hj hjb => Nat.lt_of_lt_of_le (hh.size j n (qo hl hj) hjb) hs, fun j n hj hjb => hh.low j n (qo hl hj) hjb, Nat.le_trans hh.base hs⟩
 simp only [jr] at hx
 by_cases e : j = i
 ·rw [if_pos e] at hx
  injection hx with hx
  subst hx e
  obtain ⟨o, h1, _⟩ := hl
  exact ⟨(hh.obj j o h1).1, ho⟩
 ·rw [if_neg e] at hx
  obtain ⟨h1, h2⟩ := hh.obj j x hx
  refine ⟨h1, ?_⟩
  show OR (c.with w') x (c.β j)
  cases hlv : j1 x with
  | false => exact h2.te hext hlv
  | true => exact h2.mono hext fun n hn => hw n (hh.size j n ⟨x, hx, hlv⟩ hn) fun e' => e (hh.inj j i b ⟨x, hx, hlv⟩ hl (e' ▸ hn) hb)
theorem qzr {c : Cx} {h : HP} {i b : Nat} (hl : Live h i) (hb : (c.β i).block = some b) {w' : World} (h1 : w'.os = c.w.os) (h2 : w'.tape = c.w.tape) (h3 : w'.output = c.w.output) (hs : c.w.heap.size ≤ w'.heap.size)
  (hw : ∀ k, k < c.w.heap.size → k ≠ b → w'.heap[k]? = c.w.heap[k]?) (ao : AO) : Fr c h (c.with w') (jr h [(i, ao)]) :=
 ⟨h1, h2, h3, hs, fun k hk hn => hw k hk fun e => hn i hl (e ▸ hb), fun _ h => h, fun _ h => .inl h, fun j _ hj hjb => .inr ⟨j, qo hl hj, hjb⟩, rfl⟩
theorem b6.set {P : Program} {o : Oper} {ρ : Operand → AV} {rd : Nat → AO} {fresh : Nat} {i : Nat} {ao : AO} {v : AV} (hl : j1 (rd i) = true)
  (hrun : ∀ (c : Cx) (h : HP) (a : Act), (∀ x ∈ o.op.operands, V c (ρ x) (a.eval x)) → (∀ i, rd i ≠ .dead → h i = some (rd i)) → HR c h → h i = some (rd i) →
   ∃ b w', (c.β i).block = some b ∧ w'.os = c.w.os ∧ w'.tape = c.w.tape ∧ w'.output = c.w.output ∧ c.w.heap.size ≤ w'.heap.size ∧ (∀ k, k < c.w.heap.size → k ≠ b → w'.heap[k]? = c.w.heap[k]?) ∧
    OR (c.with w') ao (c.β i) ∧ (((execOp a.eval o).run P c.w = .ok .skip w' ∧ V (c.with w') v undef) ∨ ∃ u, (execOp a.eval o).run P c.w = .ok (.value u) w' ∧ (Ext c (c.with w') → V (c.with w') v u))) : b6 P o ρ rd fresh v [(i, ao)] := by
 intro c h a next Q hv hr _ hh hn
 have hrd : h i = some (rd i) := hr i (by intro e; rw [e] at hl; simp [j1] at hl)
 obtain ⟨b, w', hb, h1, h2, h3, hs, hw, ho, hx⟩ := hrun c h a hv hr hh hrd
 have hlive : Live h i := ⟨_, hrd, hl⟩
 have ext := zo hh hlive hb hw
 have hr' := qzs hh hlive hb hs hw ao ho
 have fr := qzr hlive hb h1 h2 h3 hs hw ao
 rcases hx with ⟨hx, hV⟩ | ⟨u, hx, hV⟩
 ·simp only [Oper.wp, hx, Oper.upon_skip]
  exact hn undef (c.with w') hV hr' ext fr fun j hj => .inl hj
 ·simp only [Oper.wp, hx, Oper.upon_value]
  exact hn u (c.with w') (hV ext) hr' ext fr fun j hj => .inl hj
section
variable {P : Program} {ρ : Operand → AV} {rd : Nat → AO} {fresh : Nat} {dst : Option Tmp} {ty : TypeId} {pos : String} {after : Array Edge} {guard : Option (Nat × Bool)}
theorem qpm (it : Operand) {K : KA} (h : qr6 rd (ρ it) K) :
  ∃ v wr, K v wr ∧ b6 P ⟨dst, .next it true, ty, pos, after, guard⟩ ρ rd fresh v wr := by
 unfold qr6 at h
 split at h
 ·rename_i id hx
  split at h
  ·rename_i s p hr
   have getit : ∀ (c : Cx) (h : HP) (a : Act), (∀ x ∈ (Op.next it true).operands, V c (ρ x) (a.eval x)) → (∀ i, rd i ≠ .dead → h i = some (rd i)) → HR c h →
     ∃ b, c.β id = .blk b ∧ a.eval it = .pointer (some ⟨b, 0, none⟩) ∧ c.w.heap[b]? = some (.stringIter s p) := by
    intro c h a hv hrd hh
    have e1 := hv it (by simp [Op.operands])
    rw [hx] at e1
    simp only [V] at e1
    obtain ⟨_, b, h1, h2⟩ := e1
    have h3 := (hh.obj id _ (hrd id (by rw [hr]; simp))).2
    rw [hr, h1] at h3
    exact ⟨b, h1, h2, h3⟩
   split at h
   ·rename_i hlt
    have hlt' : p < s.size := of_decide_eq_true hlt
    refine ⟨_, _, h, b6.set (by rw [hr]; rfl) fun c hp a hv hrd hh _ => ?_⟩
    obtain ⟨b, h1, h2, h3⟩ := getit c hp a hv hrd hh
    have hbs : b < c.w.heap.size := (Array.getElem?_eq_some_iff.1 h3).1
    refine ⟨b, { c.w with heap := c.w.heap.setIfInBounds b (.stringIter s (p + (Utf8.decode s p).2)) }, by rw [h1]; rfl, rfl, rfl, rfl, by simp, fun k _ hk => ?_, ?_, .inr ⟨.tuple #[.bool true, goInt p, .int .i32 (Utf8.decode s p).1], ?_, fun ext => ?_⟩⟩
    ·simp only []
     rw [Array.getElem?_setIfInBounds_ne (fun e => hk e.symm)]
    ·rw [h1]
     simp only [OR, Cx.with]
     rw [Array.getElem?_setIfInBounds]
     simp [hbs]
    ·simp [execOp, Instr.next, h2, getObj, setObj, Sem.run, h3, hlt']
    ·simp only [V, Vs]
     exact ⟨_, rfl, _, _, rfl, by simp [RoC], _, _, rfl, by simp [RoC, goInt], _, _, rfl, by simp [RoC], rfl⟩
   ·rename_i hlt
    have hlt' : ¬ p < s.size := of_decide_eq_false hlt
    refine ⟨_, _, h, b6.pure fun c hp a hv hrd hh => ?_⟩
    obtain ⟨b, h1, h2, h3⟩ := getit c hp a hv hrd hh
    refine ⟨.tuple #[.bool false], ?_, ?_⟩
    ·simp [execOp, Instr.next, h2, getObj, Sem.run, h3, hlt']
    ·simp only [V, Vs]
     exact ⟨_, rfl, _, _, rfl, by simp [RoC], rfl⟩
  ·exact h.elim
 ·exact h.elim
theorem Vs.zw {c : Cx} {cs new : List AV} {C N : List Value} (h : Vs c cs C) (k : Vs c new N) (off : Nat) : Vs c (zw cs off new) (C.take off ++ N ++ C.drop (off + new.length)) :=
 ((h.take off).append k).append (h.drop _)
theorem qbz {c : Cx} {x : AV} {u : Value} (h : V c x u) : V c (we x) u := by
 unfold we
 split
 ·have := o0 h
  subst this
  simp only [V, RoC]
  exact ⟨none, 0, rfl, ⟨Nat.le_refl _, Nat.zero_le _⟩, fun h => absurd h (by omega)⟩
 ·exact h
theorem wo {c : Cx} : ∀ {xs : List AV} {us : List Value}, Vs c xs us → Vs c (xs.map we) us
 | [], _, h => h
 | x :: xs, us, h => by
  simp only [Vs, List.map_cons] at h ⊢
  obtain ⟨y, r, rfl, h1, h2⟩ := h
  exact ⟨y, r, rfl, qbz h1, wo h2⟩
theorem qkh {c : Cx} {x : AV} {u : Value} (h : V c x u) : V c (qad x) u := by
 cases x with
 | agg cs =>
  simp only [V, qad] at h ⊢
  obtain ⟨C, rfl, h1, h2⟩ := h
  exact ⟨C, rfl, wo h1, h2⟩
 | _ => exact qbz h
theorem tr {t : TypeId} {n : Nat} (hn : du P t = some n) {v : Value} (hc : v.cells.size = n) (h1 : ∀ u ∈ v.cells.toList, u.oneCell' = true) {w : World} {b off : Nat} {C : Array Value} {e : TypeId}
  (hb : w.heap[b]? = some (.cells C e (0, 0))) (hl : off + n ≤ C.size) :
  (Instr.storeAt t (.pointer (some ⟨b, off, none⟩)) v).run P w = .ok () (w.setRow b (C.toList.take off ++ v.cells.toList ++ C.toList.drop (off + n)).toArray) := by
 have := run_storeCells_at P b off e v.cells.toList 0 C w hb (by simp; omega) h1
 simp only [Nat.add_zero, Array.length_toList, hc] at this
 simp [Instr.storeAt, Instr.sureAddr, storeVar, dz hn, hc, this]
theorem vj (a : Act) (w w' : World) (t : TypeId) (x y : Operand) (h : (Instr.storeAt t (a.eval x) (a.eval y)).run P w = .ok () w') :
  (execOp a.eval ⟨dst, .store t x y, ty, pos, after, guard⟩).run P w = .ok .skip w' := by
 simp [execOp, h]
theorem dc.qs5 {I : Bool → Nat → Prop} {w : World} {sz : Nat} : ∀ {xs : List PV} {cells : List Value} (i : Nat) (x : PV) (es : List Value), dc I w sz xs cells → i < xs.length → RoC I w x es → es.length = sz →
  dc I w sz (xs.set i x) (cells.take (i * sz) ++ es ++ cells.drop (i * sz + sz))
 | [], _, i, _, _, _, hi, _, _ => by simp at hi
 | y :: xs, cells, 0, x, es, h, _, hx, hl => by
  obtain ⟨us, r, rfl, h1, h2, h3⟩ := h
  simp only [List.set_cons_zero, Nat.zero_mul, List.take_zero, List.nil_append, Nat.zero_add, dc]
  refine ⟨es, r, ?_, hl, hx, h3⟩
  rw [← h1, List.drop_left]
 | y :: xs, cells, i + 1, x, es, h, hi, hx, hl => by
  obtain ⟨us, r, rfl, h1, h2, h3⟩ := h
  have ih := dc.qs5 i x es h3 (by simpa using hi) hx hl
  simp only [List.set_cons_succ, dc]
  refine ⟨us, _, ?_, h1, h2, ih⟩
  have e1 : (i + 1) * sz = us.length + i * sz := by rw [h1, Nat.add_mul]; omega
  rw [e1, Nat.add_assoc, List.take_length_add_append, List.drop_length_add_append]
  simp only [List.append_assoc]
theorem qcr {w : World} {e sz n : Nat} {v : Value} {cells new : List Value} (h : w.ownsRow 0 e sz v n cells) {b m cp : Nat} (hv : v = .slice (some ⟨b, 0, none⟩) m cp) {off : Nat} (hl : off + new.length ≤ cells.length) :
  ∃ C, w.heap[b]? = some (.cells C e (0, 0)) ∧ off + new.length ≤ C.size ∧
   (w.setRow b (C.toList.take off ++ new ++ C.toList.drop (off + new.length)).toArray).ownsRow 0 e sz v n (cells.take off ++ new ++ cells.drop (off + new.length)) := by
 obtain ⟨h1, h2⟩ := h
 rcases h2 with ⟨he, _⟩ | ⟨g, cap, cur, he, h0, hg, hn, hm, hs, ht⟩
 ·rw [hv] at he; simp at he
 ·rw [hv] at he
  simp at he
  obtain ⟨rfl, rfl, rfl⟩ := he
  have hle : cells.length ≤ cur.size := by rw [← ht]; simp; omega
  refine ⟨cur, hg, by omega, ?_, .inr ⟨b, cp, _, hv, h0, setRow_heap w b cur _ e _ hg, hn, hm, ?_, ?_⟩⟩
  ·simp only [List.length_append, List.length_take, List.length_drop]
   omega
  ·simp only [List.size_toArray, List.length_append, List.length_take, List.length_drop, Array.length_toList]
   omega
  ·rw [← ht]
   simp only [← ht, List.length_take, Array.length_toList] at hl hle
   apply List.ext_getElem?
   intro j
   simp only [List.getElem?_take, List.getElem?_append, List.getElem?_drop, List.length_append, List.length_take, Array.length_toList]
   by_cases hj : j < m * sz
   ·simp only [hj, if_true]
    by_cases h3 : j < off
    ·have h4 : j < min off cur.size := by omega
     have h5 : j < min off (min (m * sz) cur.size) := by omega
     simp only [show j < min off cur.size + new.length by omega, show j < min off (min (m * sz) cur.size) + new.length by omega, h4, h5, h3, if_true]
    ·have h4 : ¬ j < min off cur.size := by omega
     have h5 : ¬ j < min off (min (m * sz) cur.size) := by omega
     have h6 : min off cur.size = off := by omega
     have h7 : min off (min (m * sz) cur.size) = off := by omega
     rw [h6, h7]
     by_cases h8 : j < off + new.length
     ·simp only [h8, if_true, show ¬ j < off by omega, if_false]
     ·simp only [h8, if_false]
      rw [if_pos (by omega)]
   ·simp only [hj, if_false]
    rw [if_neg (by omega), if_neg (by omega)]
theorem qde {I : Bool → Nat → Prop} {w : World} {ps : List PV} {es : List Value} (agg : Bool) (h : dx I w ps es) (hk : agg = false → ps.length = 1) : RoC I w (qr3 ps agg) es := by
 cases agg with
 | true => simpa [qr3, RoC] using h
 | false =>
  have h2 := hk rfl
  match ps, h2 with
  | [x], _ =>
   simp only [dx] at h
   obtain ⟨y, ys, rfl, h3, rfl⟩ := h
   simpa [qr3] using h3
theorem dx.append {I : Bool → Nat → Prop} {w : World} : ∀ {xs ys : List PV} {us vs : List Value}, dx I w xs us → dx I w ys vs → dx I w (xs ++ ys) (us ++ vs)
 | [], ys, us, vs, h, k => by simp [dx] at h; subst h; simpa using k
 | x :: xs, ys, us, vs, h, k => by
  simp only [dx] at h
  obtain ⟨y, r, rfl, h1, h2⟩ := h
  simp only [List.cons_append, dx]
  exact ⟨y, r ++ vs, rfl, h1, dx.append h2 k⟩
theorem qpn {xs : List PV} (i : Nat) (x : PV) : (xs.set i x).length = xs.length := List.length_set
theorem qmu (env : Env) (hP : env.P = P) (hvw : qp0 P env.vw) (t : TypeId) (x y : Operand) {K : KA} (h : qm1 env rd t (ρ x) (ρ y) K) :
  ∃ i ao, K .undef [(i, ao)] ∧ b6 P ⟨dst, .store t x y, ty, pos, after, guard⟩ ρ rd fresh .undef [(i, ao)] := by
 unfold qm1 at h
 rw [hP] at h
 split at h
 ·rename_i n us hn hus
  split at h
  ·rename_i i off hbeq hx
   have hul : us.length = n := Nat.eq_of_beq_eq_true hbeq
   split at h
   ·rename_i cs hr
    split at h
    ·rename_i hle
     have hle' : off + n ≤ cs.length := Nat.le_of_ble_eq_true hle
     refine ⟨_, _, h, b6.set (by rw [hr]; rfl) fun c hp a hv hrd hh hi => ?_⟩
     have e1 := hv x (by simp [Op.operands])
     have e2 := qby (hv y (by simp [Op.operands])) hus
     rw [hx] at e1
     simp only [V] at e1
     obtain ⟨_, b, h4, h5⟩ := e1
     have h6 := (hh.obj i _ hi).2
     rw [hr, h4] at h6
     simp only [OR] at h6
     obtain ⟨C, e, h7, h8, h9⟩ := h6
     have hC : C.size = cs.length := by simpa using h8.length
     have hcs : (a.eval y).cells.size = n := by have := e2.1.length; simp at this; omega
     have run := tr hn hcs e2.2 h7 (off := off) (by omega)
     refine ⟨b, _, by rw [h4]; rfl, setRow_os _ _ _, setRow_tape _ _ _, setRow_output _ _ _, by simp, fun k _ hk => setRow_other _ _ _ _ hk, ?_, .inl ⟨vj a c.w _ t x y (by rw [h5]; exact run), by simp [V]⟩⟩
     have ext : Ext c (c.with (c.w.setRow b (C.toList.take off ++ (a.eval y).cells.toList ++ C.toList.drop (off + n)).toArray)) :=
      zo hh ⟨_, hi, by rw [hr]; rfl⟩ (b := b) (by rw [h4]; rfl) fun k _ hk => setRow_other _ _ _ _ hk
     rw [h4]
     simp only [OR]
     refine ⟨_, e, setRow_heap c.w b C _ e _ h7, ?_, ?_⟩
     ·have := Vs.zw h8 e2.1 off
      rw [hul] at this
      simpa using Vs.mono ext _ _ this
     ·intro u hu
      simp only [List.mem_append] at hu
      rcases hu with (hu | hu) | hu
      ·exact h9 u (List.mem_of_mem_take hu)
      ·exact e2.2 u hu
      ·exact h9 u (List.mem_of_mem_drop hu)
    ·exact h.elim
   ·exact h.elim
  ·rename_i i k o hbeq hx
   have hul : us.length = n := Nat.eq_of_beq_eq_true hbeq
   split at h
   ·rename_i e sz xs hr
    split at h
    ·rename_i ps hps
     have hpe := j2 hps
     have hpl : ps.length = n := by rw [← hul, ← List.length_map (f := we), hpe, List.length_map]
     have common : ∀ (c : Cx) (hp : HP) (a : Act) (x' : PV), (∀ z ∈ (Op.store t x y).operands, V c (ρ z) (a.eval z)) → HR c hp → hp i = some (rd i) →
       (∀ es, RoC c.J c.w (xs.getD k .nilp) es → es.length = sz → o + n ≤ sz ∧ ∀ N, dx c.J c.w ps N → RoC c.J c.w x' (es.take o ++ N ++ es.drop (o + n))) →
       ∃ b w', (c.β i).block = some b ∧ w'.os = c.w.os ∧ w'.tape = c.w.tape ∧ w'.output = c.w.output ∧ c.w.heap.size ≤ w'.heap.size ∧ (∀ k, k < c.w.heap.size → k ≠ b → w'.heap[k]? = c.w.heap[k]?) ∧
        OR (c.with w') (.row e sz (xs.set k x')) (c.β i) ∧ (execOp a.eval ⟨dst, .store t x y, ty, pos, after, guard⟩).run P c.w = .ok .skip w' := by
      intro c hp a x' hv hh hi hel
      have e1 := hv x (by simp [Op.operands])
      have e2 := qby (hv y (by simp [Op.operands])) hus
      rw [hx] at e1
      simp only [V] at e1
      obtain ⟨_, b, m, cp, sz', h4, hkm, h5⟩ := e1
      have h6 := (hh.obj i _ hi).2
      rw [hr, h4] at h6
      simp only [OR] at h6
      obtain ⟨rfl, hsz0, cells, h7, h8⟩ := h6
      have hm : m = xs.length := by
       rcases h7.2 with ⟨he, _⟩ | ⟨g, cap, cur, he, _⟩
       ·simp at he
       ·simp at he
        exact he.2.1
      obtain ⟨es, h9, h10, h11⟩ := h8.at_ k (by omega)
      obtain ⟨hon, hel⟩ := hel es h9 h10
      have hN : dx c.J c.w ps (a.eval y).cells.toList := (ga _ _).1 (by rw [← hpe]; exact wo e2.1)
      have hNl : (a.eval y).cells.toList.length = n := by rw [e2.1.length, hul]
      have hcl := h8.length
      have hke : k * sz' + sz' ≤ cells.length := by
       rw [hcl, ← hm]
       have : (k + 1) * sz' ≤ m * sz' := Nat.mul_le_mul_right _ hkm
       rw [Nat.add_mul] at this
       omega
      obtain ⟨C, hC, hCl, hown⟩ := qcr h7 rfl (new := (a.eval y).cells.toList) (off := k * sz' + o) (by rw [hNl]; omega)
      have run := tr hn (by simpa using hNl) e2.2 hC (b := b) (off := k * sz' + o) (by rw [hNl] at hCl; exact hCl)
      rw [hNl] at hown
      refine ⟨b, _, by rw [h4]; rfl, setRow_os _ _ _, setRow_tape _ _ _, setRow_output _ _ _, by simp, fun k _ hk => setRow_other _ _ _ _ hk, ?_, vj a c.w _ t x y (by rw [h5]; exact run)⟩
      have ext : Ext c (c.with (c.w.setRow b (C.toList.take (k * sz' + o) ++ (a.eval y).cells.toList ++ C.toList.drop (k * sz' + o + n)).toArray)) :=
       zo hh ⟨_, hi, by rw [hr]; rfl⟩ (b := b) (by rw [h4]; rfl) fun k _ hk => setRow_other _ _ _ _ hk
      rw [h4]
      simp only [OR]
      refine ⟨trivial, hsz0, _, by rw [qpn]; exact hown, ?_⟩
      have hrow := dc.qs5 k x' (es.take o ++ (a.eval y).cells.toList ++ es.drop (o + n)) h8 (by omega) (hel _ hN) (by
       simp only [List.length_append, List.length_take, List.length_drop, hNl]
       omega)
      have hce : cells.take (k * sz') ++ (es.take o ++ (a.eval y).cells.toList ++ es.drop (o + n)) ++ cells.drop (k * sz' + sz') = cells.take (k * sz' + o) ++ (a.eval y).cells.toList ++ cells.drop (k * sz' + o + n) := by
       have hes : es = (cells.drop (k * sz')).take sz' := by
        apply List.ext_getElem?
        intro j
        rw [List.getElem?_take, List.getElem?_drop]
        by_cases hj : j < sz'
        ·rw [if_pos hj, h11 j hj]
        ·rw [if_neg hj, List.getElem?_eq_none (by omega)]
       rw [hes, List.take_take, Nat.min_eq_left (by omega), List.drop_take, List.drop_drop]
       have e3 : cells.take (k * sz' + o) = cells.take (k * sz') ++ (cells.drop (k * sz')).take o := by rw [List.take_add]
       have e4 : cells.drop (k * sz' + o + n) = (cells.drop (k * sz' + (o + n))).take (sz' - (o + n)) ++ cells.drop (k * sz' + sz') := by
        have h12 := (List.take_append_drop (sz' - (o + n)) (cells.drop (k * sz' + (o + n)))).symm
        rw [List.drop_drop, show k * sz' + (o + n) + (sz' - (o + n)) = k * sz' + sz' by omega] at h12
        rw [Nat.add_assoc]
        exact h12
       rw [e3, e4]
       simp only [List.append_assoc]
      rw [← hce]
      exact dc.mono ext.J ext.jb _ _ hrow
     split at h
     ·rename_i agg m hz hag
      simp only [Bool.and_eq_true] at hz
      have hk0 : o = 0 := Nat.eq_of_beq_eq_true hz.1
      have hnz : n = sz := Nat.eq_of_beq_eq_true hz.2
      obtain ⟨_, _, hone⟩ := lp hag
      split at h
      ·rename_i hms
       have hms' := Nat.eq_of_beq_eq_true hms
       refine ⟨_, _, h, b6.set (by rw [hr]; rfl) fun c hp a hv hrd hh hi => ?_⟩
       obtain ⟨b, w', k1, k2, k3, k4, k5, k6, k7, k8⟩ := common c hp a (qr3 ps agg) hv hh hi fun es he hl => by
        refine ⟨by omega, fun N hN => ?_⟩
        have e1 : es.take o = [] := by rw [hk0]; simp
        have e2 : es.drop (o + n) = [] := List.drop_eq_nil_of_le (by omega)
        rw [e1, e2]
        simpa using qde agg hN fun e => by have := hone e; omega
       exact ⟨b, w', k1, k2, k3, k4, k5, k6, k7, .inl ⟨k8, by simp [V]⟩⟩
      ·exact h.elim
     ·rename_i agg m hz hag
      obtain ⟨hag0, _, _⟩ := lp hag
      obtain ⟨cs, hk, hsz, hpos, hag'⟩ := hvw _ _ _ h
      split at hk
      ·rename_i hle
       have hle' : o + n ≤ cs.length := Nat.le_of_ble_eq_true hle
       refine ⟨_, _, hk, b6.set (by rw [hr]; rfl) fun c hp a hv hrd hh hi => ?_⟩
       obtain ⟨b, w', k1, k2, k3, k4, k5, k6, k7, k8⟩ := common c hp a (qr3 (zx cs o ps) agg) hv hh hi fun es he hl => by
        have hcs := qc6 hag' he
        have hcl : es.length = cs.length := hcs.length
        refine ⟨by omega, fun N hN => ?_⟩
        have h3 : dx c.J c.w (zx cs o ps) (es.take o ++ N ++ es.drop (o + n)) := by
         have := ((hcs.take o).append hN).append (hcs.drop (o + ps.length))
         rw [hpl] at this
         simpa [zx, hpl] using this
        refine qde agg h3 fun e => ?_
        subst e
        rcases hag' with ⟨h1, _⟩ | ⟨_, _, rfl⟩
        ·rw [h1] at hag0; cases hag0
        ·simp only [List.length_cons, List.length_nil] at hle'
         simp only [zx, List.length_append, List.length_take, List.length_drop, List.length_cons, List.length_nil]
         omega
       exact ⟨b, w', k1, k2, k3, k4, k5, k6, k7, .inl ⟨k8, by simp [V]⟩⟩
      ·exact hk.elim
     ·exact h.elim
    ·exact h.elim
   ·exact h.elim
  ·exact h.elim
 ·exact h.elim
end
end Go.RX
namespace Go.RX
section
variable {P : Program} {ρ : Operand → AV} {rd : Nat → AO} {fresh : Nat} {dst : Option Tmp} {ty : TypeId} {pos : String} {after : Array Edge} {guard : Option (Nat × Bool)}
theorem qcz {a b : wi} (h : qmk a b = true) : a = b := by
 cases a <;> cases b <;> simp [qmk] at h <;> simp [h]
inductive jw : wi → PV → Value → Prop
 | bool (b : Bool) : jw .bool (.bool b) (.bool b)
 | int (k : IntKind) (n : Int) : jw (.int k) (.int k n) (.int k n)
 | str (s : ByteArray) : jw .str (.str s) (.string s)
 | str2 (s t : ByteArray) : jw .str2 (.agg [.str s, .str t]) (.agg #[.string s, .string t])
theorem pr {I : Bool → Nat → Prop} {w : World} {kk : wi} {k : PV} {v : Value} (h : isKey kk k = true) (hv : RoV I w k v) : jw kk k v := by
 unfold isKey at h
 split at h
 ·rcases hv with ⟨xs, C, he, _⟩ | ⟨_, hv⟩
  ·cases he
  ·simp [RoC] at hv; subst hv; exact .bool _
 ·have := of_decide_eq_true h
  subst this
  rcases hv with ⟨xs, C, he, _⟩ | ⟨_, hv⟩
  ·cases he
  ·simp [RoC] at hv; subst hv; exact .int _ _
 ·rcases hv with ⟨xs, C, he, _⟩ | ⟨_, hv⟩
  ·cases he
  ·simp [RoC] at hv; subst hv; exact .str _
 ·rename_i s t
  rcases hv with ⟨xs, C, he, rfl, hC⟩ | ⟨hx, _⟩
  ·injection he with he
   subst he
   simp only [dx, RoC] at hC
   obtain ⟨y, ys, h1, h2, z, zs, h3, h4, h5⟩ := hC
   simp at h2 h4
   subst h2 h4 h5 h3
   have : C = #[.string s, .string t] := by
    apply Array.ext'
    simpa using h1
   rw [this]
   exact .str2 s t
  ·exact absurd rfl (hx _)
 ·cases h
theorem qam {I : Bool → Nat → Prop} {w : World} {kk : wi} {k : PV} {v : Value} (h : jw kk k v) : RoV I w k v := by
 cases h with
 | bool b => exact .inr ⟨fun _ e => (by cases e), by simp [RoC]⟩
 | int k n => exact .inr ⟨fun _ e => (by cases e), by simp [RoC]⟩
 | str s => exact .inr ⟨fun _ e => (by cases e), by simp [RoC]⟩
 | str2 s t => exact .inl ⟨_, _, rfl, rfl, by simp [dx, RoC]⟩
theorem toList_inj {a b : ByteArray} (h : a.toList = b.toList) : a = b := by
 rw [ByteArray.toList_eq, ByteArray.toList_eq] at h
 exact ByteArray.ext (Array.ext' h)
theorem su {kt : TypeId} {kk : wi} (h : lf P kt = some kk) :
  (kk = .bool ∧ P.underlying kt = some .bool) ∨ (∃ k, kk = .int k ∧ P.underlying kt = some (.int k)) ∨ (kk = .str ∧ P.underlying kt = some .string) ∨
   (kk = .str2 ∧ ∃ e, P.underlying kt = some (.array 2 e) ∧ P.underlying e = some .string ∧ du P e = some 1) := by
 unfold lf at h
 split at h
 ·rename_i hu; injection h with h; exact .inl ⟨h.symm, hu⟩
 ·rename_i k hu; injection h with h; exact .inr (.inl ⟨k, h.symm, hu⟩)
 ·rename_i hu; injection h with h; exact .inr (.inr (.inl ⟨h.symm, hu⟩))
 ·rename_i e hu
  split at h
  ·rename_i h1 h2; injection h with h; exact .inr (.inr (.inr ⟨h.symm, e, hu, h1, h2⟩))
  ·cases h
 ·cases h
theorem qfw {kk : wi} {a b : PV} {u v : Value} (ha : jw kk a u) (hb : jw kk b v) (h : eqK a b = true) : a = b ∧ u = v := by
 cases ha <;> cases hb <;> simp only [eqK] at h
 ·have := eq_of_beq h; subst this; exact ⟨rfl, rfl⟩
 ·have := eq_of_beq h; subst this; exact ⟨rfl, rfl⟩
 ·have := toList_inj (eq_of_beq h); subst this; exact ⟨rfl, rfl⟩
 ·simp only [Bool.and_eq_true] at h
  have h1 := toList_inj (eq_of_beq h.1)
  have h2 := toList_inj (eq_of_beq h.2)
  subst h1 h2
  exact ⟨rfl, rfl⟩
theorem wv {e : TypeId} (he : P.underlying e = some .string) {C : Array Value} {i : Nat} {v : Value} (h : C[i]? = some v) (w : World) : (part e C i).run P w = .ok v w := by
 simp [part, isAgg, run_underlying he, h]
theorem qaj {kt e : TypeId} (h1 : P.underlying kt = some (.array 2 e)) (h2 : P.underlying e = some .string) (h3 : du P e = some 1) (s t s' t' : ByteArray) (w : World) :
  (Op.equal kt (.agg #[.string s, .string t]) (.agg #[.string s', .string t'])).run P w = .ok (s.toList == s'.toList && t.toList == t'.toList) w := by
 have hi : ∃ i, P.info? e = some i ∧ i.size = 1 := by
  unfold du at h3
  cases hi : P.info? e with
  | none => simp [hi] at h3
  | some i => simp [hi] at h3; exact ⟨i, rfl, h3⟩
 obtain ⟨i, hi, hs⟩ := hi
 have hc : P.cellsOf e = 1 := by simp [Program.cellsOf, hi, hs]
 rw [Op.equal, Op.maxDepth, run_equalIn_array w 9999 _ _ h1 hi, hc]
 simp only [List.range_succ, List.range_zero, List.nil_append, List.cons_append, Op.eqItems, Sem.run_bind]
 rw [wv h2 (v := .string s) (by simp)]
 simp only [Result.andThen_ok]
 rw [wv h2 (v := .string s') (by simp)]
 simp only [Result.andThen_ok, run_equalIn_string w 9998 e _ _ h2]
 cases hst : (s.toList == s'.toList) with
 | false => simp
 | true =>
  simp only [Bool.not_true, Bool.false_eq_true, if_false, Sem.run_bind]
  rw [wv h2 (v := .string t) (by simp)]
  simp only [Result.andThen_ok]
  rw [wv h2 (v := .string t') (by simp)]
  simp only [Result.andThen_ok, run_equalIn_string w 9998 e _ _ h2]
  cases htt : (t.toList == t'.toList) <;> simp
def q8 (k : PV) : List (PV × PV) → Nat → Option Nat
 | [], _ => none
 | (x, _) :: r, i => match eqK k x with | true => some i | false => q8 k r (i + 1)
def Found (I : Bool → Nat → Prop) (w : World) (key : PV) (u : Value) (xs : List (PV × PV)) (es : List MapEntry) (n : Nat) (r : Option (Nat × Value)) : Prop :=
 (look key xs = none ∧ r = none) ∨ (∃ i e x, look key xs = some x ∧ q8 key xs n = some (n + i) ∧ es[i]? = some e ∧ e.key = u ∧ RoV I w x e.val ∧ r = some (n + i, e.val))
theorem Found.here {I : Bool → Nat → Prop} {w : World} {key : PV} {u : Value} {k x : PV} {xs : List (PV × PV)} {e : MapEntry} {es : List MapEntry} {n : Nat} (h : eqK key k = true) (hu : e.key = u) (hx : RoV I w x e.val) :
  Found I w key u ((k, x) :: xs) (e :: es) n (some (n, e.val)) :=
 .inr ⟨0, e, x, by simp [look, h], by simp [q8, h], rfl, hu, hx, rfl⟩
theorem Found.next {I : Bool → Nat → Prop} {w : World} {key : PV} {u : Value} {k x : PV} {xs : List (PV × PV)} {e : MapEntry} {es : List MapEntry} {n : Nat} {r : Option (Nat × Value)} (h : eqK key k = false) (hr : Found I w key u xs es (n + 1) r) :
  Found I w key u ((k, x) :: xs) (e :: es) n r := by
 rcases hr with ⟨h1, h2⟩ | ⟨i, e', x', h1, h2, h3, h4, h5, h6⟩
 ·exact .inl ⟨by simp [look, h, h1], h2⟩
 ·exact .inr ⟨i + 1, e', x', by simp [look, h, h1], by simp [q8, h, h2]; omega, by simpa using h3, h4, h5, by rw [h6]; simp; omega⟩
theorem qgp {kt : TypeId} {d : TypeDesc} {kk : wi} (hd : P.underlying kt = some d) (hk : lf P kt = some kk) (hne : kk ≠ .str2) {a b : PV} {u v : Value} (ha : jw kk a u) (hb : jw kk b v) :
  Instr.sameNow d u v = some (eqK a b) := by
 rcases su hk with ⟨rfl, h⟩ | ⟨k, rfl, h⟩ | ⟨rfl, h⟩ | ⟨h, _⟩
 ·rw [hd] at h; injection h with h; subst h; cases ha; cases hb; rfl
 ·rw [hd] at h; injection h with h; subst h; cases ha; cases hb; simp [Instr.sameNow, eqK]
 ·rw [hd] at h; injection h with h; subst h; cases ha; cases hb; simp only [Instr.sameNow, eqK, beq_toListBytes]
 ·exact absurd h hne
theorem qaz {kt : TypeId} {d : TypeDesc} {kk : wi} (hd : P.underlying kt = some d) (hk : lf P kt = some kk) (hne : kk ≠ .str2) {I : Bool → Nat → Prop} {w : World} {key : PV} {u : Value} (hu : jw kk key u) :
  ∀ (xs : List (PV × PV)) (es : List MapEntry) (n : Nat), jx I w kk xs es → ∃ r, Instr.findNow d u es n = some r ∧ Found I w key u xs es n r
 | [], es, n, h => by
  simp [jx] at h
  subst h
  exact ⟨none, rfl, .inl ⟨rfl, rfl⟩⟩
 | (k, x) :: xs, es, n, h => by
  obtain ⟨e, es', rfl, h0, h1, h2, h3⟩ := h
  have hkv := pr h0 h1
  have hs := qgp hd hk hne hu hkv
  cases he : eqK key k with
  | true =>
   rw [he] at hs
   exact ⟨some (n, e.val), by simp [Instr.findNow, hs], Found.here he (qfw hu hkv he).2.symm h2⟩
  | false =>
   rw [he] at hs
   obtain ⟨r, h4, h5⟩ := qaz hd hk hne hu xs es' (n + 1) h3
   exact ⟨r, by simp [Instr.findNow, hs, h4], Found.next he h5⟩
theorem sj {kt : TypeId} (hk : lf P kt = some .str2) {I : Bool → Nat → Prop} {w0 : World} {key : PV} {u : Value} (hu : jw .str2 key u) (w : World) :
  ∀ (xs : List (PV × PV)) (es : List MapEntry) (n : Nat), jx I w0 .str2 xs es → ∃ r, (Instr.findAsking kt u es n).run P w = .ok r w ∧ Found I w0 key u xs es n r
 | [], es, n, h => by
  simp [jx] at h
  subst h
  exact ⟨none, rfl, .inl ⟨rfl, rfl⟩⟩
 | (k, x) :: xs, es, n, h => by
  obtain ⟨e, es', rfl, h0, h1, h2, h3⟩ := h
  have hkv := pr h0 h1
  have heq : (Op.equal kt u e.key).run P w = .ok (eqK key k) w := by
   rcases su hk with ⟨h, _⟩ | ⟨_, h, _⟩ | ⟨h, _⟩ | ⟨_, el, h4, h5, h6⟩
   ·cases h
   ·cases h
   ·cases h
   ·generalize e.key = v at hkv
    cases hu
    cases hkv
    exact qaj h4 h5 h6 _ _ _ _ w
  cases he : eqK key k with
  | true =>
   rw [he] at heq
   exact ⟨some (n, e.val), by simp [Instr.findAsking, heq], Found.here he (qfw hu hkv he).2.symm h2⟩
  | false =>
   rw [he] at heq
   obtain ⟨r, h4, h5⟩ := sj hk hu w xs es' (n + 1) h3
   exact ⟨r, by simp [Instr.findAsking, heq, h4], Found.next he h5⟩
theorem vl {e : TypeId} {s t : ByteArray} : ∀ (es : List MapEntry) (n : Nat), Instr.findNow (.array 2 e) (.agg #[.string s, .string t]) es n = (match es with | [] => some none | _ => none)
 | [], _ => rfl
 | _ :: _, _ => rfl
theorem qif {kt : TypeId} {kk : wi} (hk : lf P kt = some kk) {I : Bool → Nat → Prop} {w0 : World} {key : PV} {u : Value} (hu : jw kk key u) (w : World)
  {xs : List (PV × PV)} {es : List MapEntry} (h : jx I w0 kk xs es) : ∃ r, (Instr.findKey kt u es).run P w = .ok r w ∧ Found I w0 key u xs es 0 r := by
 have hd : ∃ d, P.underlying kt = some d := by
  rcases su hk with ⟨_, h⟩ | ⟨_, _, h⟩ | ⟨_, h⟩ | ⟨_, e, h, _⟩ <;> exact ⟨_, h⟩
 obtain ⟨d, hd⟩ := hd
 by_cases hne : kk = .str2
 ·subst hne
  rcases su hk with ⟨h', _⟩ | ⟨_, h', _⟩ | ⟨h', _⟩ | ⟨_, el, h4, h5, h6⟩
  ·cases h'
  ·cases h'
  ·cases h'
  ·rw [hd] at h4
   injection h4 with h4
   subst h4
   obtain ⟨r, h7, h8⟩ := sj hk hu w xs es 0 h
   cases hu with
   | str2 s t =>
    cases es with
    | nil =>
     refine ⟨r, ?_, h8⟩
     have : r = none := by
      simp [Instr.findAsking] at h7
      exact h7.symm
     subst this
     simp [Instr.findKey, run_underlying hd, vl]
    | cons e es =>
     refine ⟨r, ?_, h8⟩
     simp only [Instr.findKey, Sem.run_bind, run_underlying hd, Result.andThen_ok, vl]
     exact h7
 ·obtain ⟨r, h4, h5⟩ := qaz hd hk hne hu xs es 0 h
  exact ⟨r, by simp [Instr.findKey, run_underlying hd, h4], h5⟩
theorem qcy {kt : TypeId} {kk : wi} (hk : lf P kt = some kk) {key : PV} {u : Value} (hu : jw kk key u) (b : Bool) (d : Nat) (w : World) : (Instr.checkKey b (d + 2) kt u).run P w = .ok () w := by
 rcases su hk with ⟨rfl, h⟩ | ⟨k, rfl, h⟩ | ⟨rfl, h⟩ | ⟨rfl, e, h4, h5, h6⟩
 ·cases hu; simp [Instr.checkKey, run_underlying h]
 ·cases hu; simp [Instr.checkKey, run_underlying h]
 ·cases hu; simp [Instr.checkKey, run_underlying h]
 ·cases hu
  simp only [Instr.checkKey, Sem.run_bind, run_underlying h4, Result.andThen_ok]
  simp only [Std.Legacy.Range.forIn_eq_forIn_range', Std.Legacy.Range.size, Nat.sub_zero, Nat.add_one_sub_one, Nat.div_one]
  rw [show List.range' 0 2 = [0, 1] from rfl]
  simp [dz h6, part, isAgg, run_underlying h5]
theorem run_checkKey {kt : TypeId} {kk : wi} (hk : lf P kt = some kk) {key : PV} {u : Value} (hu : jw kk key u) (b : Bool) (w : World) : (Instr.checkKey b 10000 kt u).run P w = .ok () w :=
 qcy hk hu b 9998 w
theorem wj {c : Cx} {x : AV} {key : PV} {u : Value} (h : V c x u) (hp : qbd x = some key) : RoV c.J c.w key u := by
 unfold qbd at hp
 split at hp
 ·cases hp
 ·rename_i y hna
  injection hp with hp
  subst hp
  simp only [V] at h
  exact .inr ⟨fun xs e => hna xs e, h⟩
 ·rename_i cs
  rw [Option.map_eq_some_iff] at hp
  obtain ⟨ys, h1, rfl⟩ := hp
  have := j2 h1
  subst this
  simp only [V] at h
  obtain ⟨C, rfl, h2, _⟩ := h
  exact .inl ⟨ys, C, rfl, rfl, (ga _ _).1 h2⟩
 ·cases hp
theorem qg4 {c : Cx} {x : PV} {u : Value} {agg : Bool} {cs : List PV} (h : RoV c.J c.w x u) (ha : (agg = true ∧ x = .agg cs) ∨ (agg = false ∧ (∀ xs, x ≠ .agg xs) ∧ cs = [x])) :
  V c (im agg (cs.map .p)) u := by
 rcases ha with ⟨rfl, rfl⟩ | ⟨rfl, hx, rfl⟩
 ·rcases h with ⟨xs, C, he, rfl, h2⟩ | ⟨hx, _⟩
  ·injection he with he
   subst he
   simp only [im, V]
   exact ⟨C, rfl, (ga _ _).2 h2, dx.qia _ _ h2⟩
  ·exact absurd rfl (hx _)
 ·rcases h with ⟨xs, C, he, _⟩ | ⟨_, h2⟩
  ·exact absurd he (hx _)
  ·simpa [im, V] using h2
theorem qai {v : Value} {x : PV} (h : ofConst v = some x) : ∀ xs, x ≠ .agg xs := by
 intro xs e
 subst e
 unfold ofConst at h
 split at h <;> simp at h
theorem wm {e : TypeId} {x : PV} (hz : ud P e = some x) (I : Bool → Nat → Prop) (w : World) : ∃ z, qda P e = some z ∧ RoV I w x z := by
 unfold ud at hz
 split at hz
 ·rename_i C h
  rw [Option.map_eq_some_iff] at hz
  obtain ⟨xs, h1, rfl⟩ := hz
  exact ⟨_, h, .inl ⟨xs, C, rfl, rfl, qq h1⟩⟩
 ·rename_i v _ h
  exact ⟨v, h, .inr ⟨qai hz, ti hz⟩⟩
 ·cases hz
theorem qju (env : Env) (hP : env.P = P) (hvw : qp0 P env.vw) (t : TypeId) (m k : Operand) (ok : Bool) {K : KA} (h : qgb env rd t (ρ m) (ρ k) ok K) :
  ∃ v, K v [] ∧ b6 P ⟨dst, .lookup t m k ok, ty, pos, after, guard⟩ ρ rd fresh v [] := by
 unfold qgb at h
 rw [hP] at h
 split at h
 ·rename_i kt e ht
  split at h
  ·rename_i kk agg z key hkk hag hz hkey
   split at h
   ·rename_i id hm
    split at h
    ·rename_i kk' es hr
     split at h
     ·rename_i hsk
      simp only [Bool.and_eq_true] at hsk
      have := qcz hsk.1
      subst this
      obtain ⟨cs, hk, hsz, hpos, hag'⟩ := hvw _ _ _ h
      have hag2 : (agg = true ∧ (look key es).getD z = .agg cs) ∨ (agg = false ∧ (∀ xs, (look key es).getD z ≠ .agg xs) ∧ cs = [(look key es).getD z]) := by
       rcases hag' with ⟨h1, h2⟩ | ⟨h1, h2⟩
       ·rw [hag] at h1; injection h1 with h1; exact .inl ⟨h1, h2⟩
       ·rw [hag] at h1; injection h1 with h1; exact .inr ⟨h1, h2⟩
      have run : ∀ (c : Cx) (hp : HP) (a : Act), (∀ x ∈ (Op.lookup t m k ok).operands, V c (ρ x) (a.eval x)) → (∀ i, rd i ≠ .dead → hp i = some (rd i)) → HR c hp →
        ∃ u, RoV c.J c.w ((look key es).getD z) u ∧ (Instr.lookup t (a.eval m) (a.eval k) ok).run P c.w = .ok (if ok then .tuple #[u, .bool (look key es).isSome] else u) c.w := by
       intro c hp a hv hrd hh
       have e1 := hv m (by simp [Op.operands])
       have e2 := wj (hv k (by simp [Op.operands])) hkey
       rw [hm] at e1
       simp only [V] at e1
       obtain ⟨_, b, h4, h5⟩ := e1
       have h6 := (hh.obj id _ (hrd id (by rw [hr]; simp))).2
       rw [hr, h4] at h6
       simp only [OR] at h6
       obtain ⟨E, cl, h7, h8⟩ := h6
       have hu := pr hsk.2 e2
       obtain ⟨r, h9, h10⟩ := qif (P := P) hkk hu c.w h8
       obtain ⟨zv, h11, h12⟩ := wm hz c.J c.w
       have hget : (getObj b).run P c.w = .ok (.map E cl) c.w := by simp [getObj, Sem.run, h7]
       rcases h10 with ⟨h13, rfl⟩ | ⟨i, en, x, h13, _, _, _, h14, rfl⟩
       ·refine ⟨zv, by rw [h13]; exact h12, ?_⟩
        simp [Instr.lookup, run_underlying ht, h5, hget, run_checkKey hkk hu, h9, my h11, h13]
       ·refine ⟨en.val, by rw [h13]; exact h14, ?_⟩
        simp [Instr.lookup, run_underlying ht, h5, hget, run_checkKey hkk hu, h9, h13]
      cases ok with
      | true =>
       refine ⟨_, hk, b6.pure fun c hp a hv hrd hh => ?_⟩
       obtain ⟨u, h1, h2⟩ := run c hp a hv hrd hh
       refine ⟨.tuple #[u, .bool (look key es).isSome], by simp [execOp, h2], ?_⟩
       simp only [V, Vs]
       exact ⟨_, rfl, _, _, rfl, qg4 h1 hag2, _, _, rfl, by simp [RoC], rfl⟩
      | false =>
       refine ⟨_, hk, b6.pure fun c hp a hv hrd hh => ?_⟩
       obtain ⟨u, h1, h2⟩ := run c hp a hv hrd hh
       exact ⟨u, by simp [execOp, h2], qg4 h1 hag2⟩
     ·exact h.elim
    ·exact h.elim
   ·exact h.elim
  ·exact h.elim
 ·exact h.elim
theorem qek {kk : wi} {a : PV} {u : Value} (h : jw kk a u) (d : Nat) : Instr.sameBits (d + 1) u u = true := by
 cases h <;> simp [Instr.sameBits, beq_toListBytes]
theorem qik {I : Bool → Nat → Prop} {w : World} {kk : wi} {key x : PV} {u v : Value} (hk : isKey kk key = true) (hu : jw kk key u) (hx : RoV I w x v) :
  ∀ (xs : List (PV × PV)) (es : List MapEntry), jx I w kk xs es →
   (∀ n, q8 key xs n = none → ∀ born, jx I w kk (m5 key x xs) (es ++ [{ key := u, val := v, born := born }])) ∧
   (∀ n i, q8 key xs n = some (n + i) → jx I w kk (m5 key x xs) (es.modify i fun e => { e with key := u, val := v }))
 | [], es, h => by
  simp [jx] at h
  subst h
  refine ⟨fun n _ born => ?_, fun n i h => by simp [q8] at h⟩
  simp only [m5, jx, List.nil_append]
  exact ⟨_, [], rfl, hk, qam hu, hx, rfl⟩
 | (k, y) :: xs, es, h => by
  obtain ⟨e, es', rfl, h0, h1, h2, h3⟩ := h
  have ih := qik hk hu hx xs es' h3
  have hkv := pr h0 h1
  cases he : eqK key k with
  | true =>
   refine ⟨fun n h => by simp [q8, he] at h, fun n i h => ?_⟩
   have hi : i = 0 := by simp [q8, he] at h; exact h
   subst hi
   simp only [m5, he, List.modify_zero_cons, jx]
   obtain ⟨e1, e2⟩ := qfw hu hkv he
   exact ⟨_, es', rfl, h0, by rw [← e1]; exact qam hu, hx, h3⟩
  | false =>
   refine ⟨fun n h born => ?_, fun n i h => ?_⟩
   ·simp [q8, he] at h
    have := ih.1 (n + 1) h born
    simp only [m5, he, jx, List.cons_append]
    exact ⟨e, _, rfl, h0, h1, h2, this⟩
   ·simp only [q8, he] at h
    cases i with
    | zero =>
     exfalso
     have mono : ∀ (xs : List (PV × PV)) (n j : Nat), q8 key xs n = some j → n ≤ j := by
      intro xs
      induction xs with
      | nil => intro n j h; simp [q8] at h
      | cons p xs ih =>
       intro n j h
       obtain ⟨a, b⟩ := p
       simp only [q8] at h
       split at h
       ·injection h with h; omega
       ·have := ih (n + 1) j h; omega
     have := mono xs (n + 1) _ h
     omega
    | succ i =>
     have := ih.2 (n + 1) i (by rw [h]; congr 1; omega)
     simp only [m5, he, jx, List.modify_succ_cons]
     exact ⟨e, _, rfl, h0, h1, h2, this⟩
theorem qa5 {key : PV} : ∀ (xs : List (PV × PV)) (n : Nat), look key xs = none → q8 key xs n = none
 | [], _, _ => rfl
 | (k, y) :: xs, n, h => by
  simp only [look] at h
  split at h
  ·cases h
  ·rename_i he
   simp only [q8, he]
   exact qa5 xs (n + 1) h
theorem qjv (env : Env) (hP : env.P = P) (t : TypeId) (m k x : Operand) {K : KA} (h : qgc env rd t (ρ m) (ρ k) (ρ x) K) :
  ∃ i ao, K .undef [(i, ao)] ∧ b6 P ⟨dst, .mapUpdate t m k x, ty, pos, after, guard⟩ ρ rd fresh .undef [(i, ao)] := by
 unfold qgc at h
 rw [hP] at h
 split at h
 ·rename_i kt e ht
  split at h
  ·rename_i kk key y id hkk hkey hy hm
   split at h
   ·rename_i kk' es hr
    split at h
    ·rename_i hsk
     simp only [Bool.and_eq_true] at hsk
     have := qcz hsk.1
     subst this
     refine ⟨_, _, h, b6.set (by rw [hr]; rfl) fun c hp a hv hrd hh hi => ?_⟩
     have e1 := hv m (by simp [Op.operands])
     have e2 := wj (hv k (by simp [Op.operands])) hkey
     have e3 := wj (qkh (hv x (by simp [Op.operands]))) hy
     rw [hm] at e1
     simp only [V] at e1
     obtain ⟨_, b, h4, h5⟩ := e1
     have h6 := (hh.obj id _ hi).2
     rw [hr, h4] at h6
     simp only [OR] at h6
     obtain ⟨E, cl, h7, h8⟩ := h6
     have hu := pr hsk.2 e2
     obtain ⟨r, h9, h10⟩ := qif (P := P) hkk hu c.w h8
     have hget : (getObj b).run P c.w = .ok (.map E cl) c.w := by simp [getObj, Sem.run, h7]
     have hbs : b < c.w.heap.size := (Array.getElem?_eq_some_iff.1 h7).1
     have hset : ∀ o, (setObj b o).run P c.w = .ok () { c.w with heap := c.w.heap.setIfInBounds b o } := fun o => by simp [setObj, Sem.run, h7]
     have hsm := qik (I := c.J) (w := c.w) hsk.2 hu e3 es E.toList h8
     have fin : ∀ E' cl', (Instr.mapUpdate t (a.eval m) (a.eval k) (a.eval x)).run P c.w = .ok () { c.w with heap := c.w.heap.setIfInBounds b (.map E' cl') } → jx c.J c.w kk (m5 key y es) E'.toList →
       ∃ b' w', (c.β id).block = some b' ∧ w'.os = c.w.os ∧ w'.tape = c.w.tape ∧ w'.output = c.w.output ∧ c.w.heap.size ≤ w'.heap.size ∧ (∀ k, k < c.w.heap.size → k ≠ b' → w'.heap[k]? = c.w.heap[k]?) ∧
        OR (c.with w') (.map kk (m5 key y es)) (c.β id) ∧ (((execOp a.eval ⟨dst, .mapUpdate t m k x, ty, pos, after, guard⟩).run P c.w = .ok .skip w' ∧ V (c.with w') .undef undef) ∨ ∃ u, (execOp a.eval ⟨dst, .mapUpdate t m k x, ty, pos, after, guard⟩).run P c.w = .ok (.value u) w' ∧ (Ext c (c.with w') → V (c.with w') .undef u)) := by
      intro E' cl' hrun hmap
      have hother : ∀ k, k < c.w.heap.size → k ≠ b → ({ c.w with heap := c.w.heap.setIfInBounds b (.map E' cl') } : World).heap[k]? = c.w.heap[k]? := by
       intro k _ hk
       simp only []
       rw [Array.getElem?_setIfInBounds_ne (fun e => hk e.symm)]
      refine ⟨b, { c.w with heap := c.w.heap.setIfInBounds b (.map E' cl') }, by rw [h4]; rfl, rfl, rfl, rfl, by simp, hother, ?_, .inl ⟨by simp [execOp, hrun], by simp [V]⟩⟩
      have ext := zo hh ⟨_, hi, by rw [hr]; rfl⟩ (b := b) (by rw [h4]; rfl) hother
      rw [h4]
      simp only [OR]
      refine ⟨E', cl', ?_, jx.mono ext.J ext.jb _ _ hmap⟩
      simp only [Cx.with]
      rw [Array.getElem?_setIfInBounds]
      simp [hbs]
     rcases h10 with ⟨h13, rfl⟩ | ⟨i, en, xx, h13, h14, h15, h16, _, rfl⟩
     ·refine fin (E.push { key := a.eval k, val := a.eval x, born := cl }) (cl + 1) ?_ ?_
      ·simp [Instr.mapUpdate, run_underlying ht, h5, hget, run_checkKey hkk hu, h9, hset]
      ·simpa using hsm.1 0 (qa5 es 0 h13) cl
     ·have h17 : E[i]? = some en := by simpa using h15
      refine fin (E.modify i fun e => { e with key := a.eval k, val := a.eval x }) cl ?_ ?_
      ·have hst : (Instr.keyThatStays (a.eval k) (a.eval k)).run P c.w = .ok (a.eval k) c.w := by
        simp only [Instr.keyThatStays]
        rw [show (10000 : Nat) = 9999 + 1 from rfl, qek hu 9999]
        rfl
       simp [Instr.mapUpdate, run_underlying ht, h5, hget, run_checkKey hkk hu, h9, h17, h16, hst, hset]
      ·have := hsm.2 0 i (by simpa using h14)
       simpa [Array.toList_modify] using this
    ·exact h.elim
   ·exact h.elim
  ·exact h.elim
 ·exact h.elim
end
end Go.RX
