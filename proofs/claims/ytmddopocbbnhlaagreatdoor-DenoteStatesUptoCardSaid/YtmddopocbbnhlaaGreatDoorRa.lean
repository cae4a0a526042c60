/- A verified interpreter of the model's Code: what it makes of a function, the model does. No condition. -/
import Derived.Orders
import Derived.OwnWalk
import Derived.Laws.OwnMore
import Derived.Below
import Derived.Laws.Entries
import Derived.Laws.Tables
import Derived.Laws.StructEq
import Derived.ChangeKeysEq
set_option linter.all false
namespace Go.RX
inductive PV where
 | bool (b : Bool)
 | int (k : IntKind) (n : Int)
 | str (s : ByteArray)
 | nilp | nils | nilm | nilf | nili
 | arr (m : Bool) (n : Nat) (get : Nat → PV)
 | agg (cs : List PV)
 | fnc (f : FuncId)
inductive AV where
 | undef
 | p (x : PV)
 | ptr (id off : Nat)
 | eptr (id i c : Nat)
 | rop (cs : List PV)
 | row (id : Nat)
 | map (id : Nat)
 | iter (id : Nat)
 | sub (id lo : Nat)
 | func (fn : Fn) (first captured : List AV)
 | agg (cs : List AV)
 | tup (cs : List AV)
 | iface (t : TypeId) (v : AV)
inductive o8 where
 | bool
 | int (k : IntKind)
 | str
 | str2
inductive AO where
 | dead
 | box (cs : List AV)
 | row (e sz : Nat) (xs : List PV)
 | ice (sz : Nat) (xs : List PV)
 | map (kk : o8) (es : List (PV × PV))
 | iter (s : ByteArray) (pos : Nat)
structure St where
 sl : List (Nat × AV)
 hp : List AO
def bj : List (Nat × AV) → Nat → AV
 | [], _ => .undef
 | (k, v) :: r, t => match Nat.beq k t with | true => v | false => bj r t
def df : List AO → Nat → AO
 | [], _ => .dead
 | o :: _, 0 => o
 | _ :: r, n + 1 => df r n
def yy : List AO → Nat → AO → List AO
 | [], _, _ => []
 | _ :: r, 0, x => x :: r
 | o :: r, n + 1, x => o :: yy r n x
def dg (h : List AO) : List (Nat × AO) → List AO
 | [] => h
 | (i, o) :: r => dg (match Nat.blt i h.length with | true => yy h i o | false => h ++ [o]) r
def St.put (s : St) (d : Option Tmp) (v : AV) : St :=
 match d with
 | some t => { s with sl := (t, v) :: s.sl }
 | none => s
inductive Ex where
 | normal
 | exit (id : Nat)
 | ret
 | goto (l : Nat)
 deriving Inhabited
abbrev KA := AV → List (Nat × AO) → Prop
abbrev bf := TypeId → List PV → List PV → Option Bool
structure Env where
 P : Program
 nt : Nat
 n0 : Nat
 weak : FuncId → Bool
 weakB : FuncId → Bool
 vw : TypeId → PV → (List PV → Prop) → Prop
 C : FuncId → List AV → List AO → (AV → List AO → Prop) → Prop
 X : String → List AV → (AV → Prop) → Prop
 S : Oper → (Operand → AV) → (Nat → AO) → Nat → KA → Prop
 pre : Oper → St → St
 L : Nat → St → (Ex → St → Prop) → Prop
 G : Nat → St → (Ex → St → Prop) → Prop
 lloop : Nat → List Nat
 lexit : Nat → Nat → List Nat
 lret : List Nat
 thaw : Nat → List (Nat × (Nat × Option Nat))
 anc : Nat → List Nat
def ofConst : Value → Option PV
 | .bool b => some (.bool b)
 | .int k n => some (.int k n)
 | .string s => some (.str s)
 | .slice none 0 0 => some .nils
 | .pointer none => some .nilp
 | .map none => some .nilm
 | .nilFunc => some .nilf
 | .nilIface => some .nili
 | _ => none
def jj : List Value → Option (List PV)
 | [] => some []
 | v :: r => match ofConst v, jj r with
  | some x, some xs => some (x :: xs)
  | _, _ => none
def tw : Value → AV
 | .agg C => match jj C.toList with
  | some xs => .agg (xs.map .p)
  | none => .undef
 | v => match ofConst v with
  | some x => .p x
  | none => .undef
def j1 (sl : List (Nat × AV)) : Operand → AV
 | .tmp t => bj sl t
 | .const v => tw v
 | .global _ => .undef
 | .func f => .func (.func f) [] []
def cellsOf : AV → Option (List AV)
 | .undef => none
 | .tup _ => none
 | .agg cs => some cs
 | v => some [v]
def bw : List AV → Option (List PV)
 | [] => some []
 | .p x :: r => (bw r).map (x :: ·)
 | _ => none
def s7 : AV → Option PV
 | .p (.agg _) => none
 | .p x => some x
 | .agg cs => (bw cs).map .agg
 | _ => none
def b7 (P : Program) (t : TypeId) : Option Bool :=
 match P.underlying t with
 | some (.struct _) | some (.array _ _) => some true
 | some _ => some false
 | none => none
def bx (P : Program) (t : TypeId) : Option Nat := (P.info? t).map (·.size)
def mq (P : Program) (t : TypeId) : Option Nat := (P.info? t).map (·.bytes)
def r9 (P : Program) (t : TypeId) : Option Value := (P.info? t).bind (·.zero)
def re (P : Program) (t : TypeId) : Option (Bool × Nat) :=
 match b7 P t, bx P t with
 | some true, some n => some (true, n)
 | some false, some n => match Nat.beq n 1 with | true => some (false, n) | false => none
 | _, _ => none
def cut {α : Type} (cs : List α) (off n : Nat) : List α := (cs.drop off).take n
def dh (agg : Bool) : List AV → AV
 | cs => match agg, cs with
  | true, cs => .agg cs
  | false, [x] => x
  | false, _ => .undef
def vc (v : AV) (K : Bool → Prop) : Prop :=
 match v with
 | .p (.bool true) => K true
 | .p (.bool false) => K false
 | _ => False
end Go.RX
namespace Go.RX
mutual
def j4 : AV → List Nat
 | .ptr i _ => [i]
 | .eptr i _ _ => [i]
 | .row i => [i]
 | .map i => [i]
 | .iter i => [i]
 | .sub i _ => [i]
 | .func _ f c => kd f ++ kd c
 | .agg cs => kd cs
 | .tup cs => kd cs
 | .iface _ v => j4 v
 | _ => []
def kd : List AV → List Nat
 | [] => []
 | x :: r => j4 x ++ kd r
end
def ql7 : AO → List Nat
 | .box cs => kd cs
 | _ => []
mutual
def gr (f : Nat → Option Nat) : AV → AV
 | .undef => .undef
 | .p x => .p x
 | .rop cs => .rop cs
 | .ptr i o => match f i with | some j => .ptr j o | none => .undef
 | .eptr i a b => match f i with | some j => .eptr j a b | none => .undef
 | .row i => match f i with | some j => .row j | none => .undef
 | .map i => match f i with | some j => .map j | none => .undef
 | .iter i => match f i with | some j => .iter j | none => .undef
 | .sub i a => match f i with | some j => .sub j a | none => .undef
 | .func fn a b => .func fn (l5 f a) (l5 f b)
 | .agg cs => .agg (l5 f cs)
 | .tup cs => .tup (l5 f cs)
 | .iface t v => .iface t (gr f v)
def l5 (f : Nat → Option Nat) : List AV → List AV
 | [] => []
 | x :: r => gr f x :: l5 f r
end
def qx (f : Nat → Option Nat) : AO → AO
 | .box cs => .box (l5 f cs)
 | o => o
def dy (f : Nat → Option Nat) : List AO → List AO
 | [] => []
 | o :: r => qx f o :: dy f r
def qd4 (f : Nat → Option Nat) : List (Nat × AV) → List (Nat × AV)
 | [] => []
 | (t, v) :: r => (t, gr f v) :: qd4 f r
def mem (i : Nat) : List Nat → Bool
 | [] => false
 | j :: r => match Nat.beq i j with | true => true | false => mem i r
def place : List Nat → Nat → Option Nat
 | [], _ => none
 | j :: r, i => match Nat.beq j i with | true => some 0 | false => (place r i).map (· + 1)
def reach (rd : Nat → AO) : Nat → List Nat → List Nat → List Nat
 | 0, _, acc => acc
 | _ + 1, [], acc => acc
 | n + 1, i :: r, acc => match mem i acc with
  | true => reach rd n r acc
  | false => reach rd n (ql7 (rd i) ++ r) (acc ++ [i])
def jw (rd : Nat → AO) : List Nat → List Nat
 | [] => []
 | i :: r => ql7 (rd i) ++ jw rd r
def upto : Nat → List Nat
 | 0 => []
 | n + 1 => upto n ++ [n]
def qeq : List (Nat × AV) → List AV
 | [] => []
 | (_, v) :: r => v :: qeq r
def pick (h : List AO) : List Nat → List AO
 | [] => []
 | i :: r => df h i :: pick h r
def gp (sl : List (Nat × AV)) : List Nat → List (Nat × AV)
 | [] => []
 | t :: r => (t, bj sl t) :: gp sl r
def nodup : List Nat → Bool
 | [] => true
 | i :: r => match mem i r with | true => false | false => nodup r
def fw (n : Nat) : List Nat → Bool
 | [] => true
 | i :: r => match Nat.blt i n with | true => fw n r | false => false
def ga : Nat → List Nat → Nat → Bool
 | 0, _, _ => true
 | _ + 1, [], _ => false
 | n + 1, j :: r, a => match Nat.beq j a with | true => ga n r (a + 1) | false => false
def wy (P : Program) (e : Nat) (s : St) : Nat × Option Nat → St
 | (t, none) => match bj s.sl t with
  | .p .nils => match bx P e with
   | some sz => match Nat.blt 0 sz with
    | true => ⟨(t, .row s.hp.length) :: s.sl, s.hp ++ [.row e sz []]⟩
    | false => s
   | none => s
  | _ => s
 | (t, some c) => match bj s.sl t with
  | .ptr id _ => match df s.hp id with
   | .box cs => match cs[c]? with
    | some (.p .nils) => match bx P e with
     | some sz => match Nat.blt 0 sz with
      | true => ⟨s.sl, yy s.hp id (.box (cs.set c (.row s.hp.length))) ++ [.row e sz []]⟩
      | false => s
     | none => s
    | _ => s
   | _ => s
  | _ => s
def canon (n0 : Nat) (s : St) (K : St → Prop) : Prop :=
 let L := reach (df s.hp) 1000 (jw (df s.hp) (upto n0) ++ kd (qeq s.sl)) (upto n0)
 match nodup L && ga n0 L 0 && fw s.hp.length L with
 | true => K ⟨qd4 (place L) s.sl, dy (place L) (pick s.hp L)⟩
 | false => False
end Go.RX
namespace Go.RX
def qe (P : Program) (t : TypeId) : Option (List (Nat × TypeId × Bool)) :=
 match P.underlying t with
 | some (.struct fs) => some (fs.toList.map fun f => (f.offset, f.type, !(f.name == "_")))
 | _ => none
def bh (s : ByteArray) (i : Nat) : Int := (((s.data.toList[i]?).getD 0).toNat : Int)
def rh (cs : List AV) (off : Nat) (new : List AV) : List AV := cs.take off ++ new ++ cs.drop (off + new.length)
def ri (cs : List PV) (off : Nat) (new : List PV) : List PV := cs.take off ++ new ++ cs.drop (off + new.length)
def qjs : List PV → Bool → PV
 | cs, true => .agg cs
 | [x], false => x
 | _, false => .nilp
def o7 : AV → AV
 | .p .nils => .p (.arr true 0 fun _ => .nilp)
 | v => v
def rm : AV → AV
 | .agg cs => .agg (cs.map o7)
 | v => o7 v
def zeroCells (P : Program) (t : TypeId) : Option (List PV) :=
 match r9 P t with
 | some (.agg C) => jj C.toList
 | some v => (ofConst v).map ([·])
 | none => none
def jc (P : Program) (t : TypeId) : Option PV :=
 match r9 P t with
 | some (.agg C) => (jj C.toList).map .agg
 | some v => ofConst v
 | none => none
def qbq (at_ : Nat → Option (Nat × Nat)) (cs : List AV) : List (Nat × AV) → Option (List AV)
 | [] => some cs
 | (i, v) :: r => match at_ i with
  | some (off, size) => match cellsOf v with
   | some us => match Nat.beq us.length size && Nat.ble (off + size) cs.length with
    | true => qbq at_ (rh cs off us) r
    | false => none
   | none => none
  | none => none
def fieldAt (P : Program) (t : TypeId) (i : Nat) : Option (Nat × Nat) :=
 match qe P t with
 | some fs => match fs[i]? with
  | some (off, ft, _) => (bx P ft).map fun n => (off, n)
  | none => none
 | none => none
def yp (P : Program) (t : TypeId) : Option (Nat → Option (Nat × Nat)) :=
 match P.underlying t with
 | some (.struct fs) => (fs.toList.mapM fun f => (P.info? f.type).map fun i => (f.offset, i.size)).map fun l i => l[i]?
 | some (.array _ e) => (bx P e).map fun n i => some (i * n, n)
 | _ => none
def cf : PV → Nat
 | .agg cs => cs.length
 | _ => 1
def sg (sz : Nat) : List PV → List (Nat × AV) → Option (List PV)
 | xs, [] => some xs
 | xs, (i, v) :: r => match s7 (rm v) with
  | some x => match Nat.beq (cf x) sz && Nat.blt i xs.length with
   | true => sg sz (xs.set i x) r
   | false => none
  | none => none
def eqK : PV → PV → Bool
 | .bool a, .bool b => a == b
 | .int _ a, .int _ b => a == b
 | .str a, .str b => a.toList == b.toList
 | .agg [.str a, .str c], .agg [.str b, .str d] => a.toList == b.toList && c.toList == d.toList
 | _, _ => false
def isKey : o8 → PV → Bool
 | .bool, .bool _ => true
 | .int k, .int j _ => decide (k = j)
 | .str, .str _ => true
 | .str2, .agg [.str _, .str _] => true
 | _, _ => false
def gq (P : Program) (t : TypeId) : Option o8 :=
 match P.underlying t with
 | some .bool => some .bool
 | some (.int k) => some (.int k)
 | some .string => some .str
 | some (.array 2 e) => match P.underlying e, bx P e with
  | some .string, some 1 => some .str2
  | _, _ => none
 | _ => none
def qed : o8 → o8 → Bool
 | .bool, .bool => true
 | .int k, .int j => decide (k = j)
 | .str, .str => true
 | .str2, .str2 => true
 | _, _ => false
def look (k : PV) : List (PV × PV) → Option PV
 | [] => none
 | (x, v) :: r => match eqK k x with | true => some v | false => look k r
def nj (k v : PV) : List (PV × PV) → List (PV × PV)
 | [] => [(k, v)]
 | (x, u) :: r => match eqK k x with | true => (x, v) :: r | false => (x, u) :: nj k v r
def yd (op : BinOp) (k : IntKind) (a b : Int) (K : AV → Prop) : Prop :=
 match op with
 | .add => K (.p (.int k (k.wrap (a + b))))
 | .sub => K (.p (.int k (k.wrap (a - b))))
 | .mul => K (.p (.int k (k.wrap (a * b))))
 | .quo => b ≠ 0 ∧ K (.p (.int k (k.wrap (a.tdiv b))))
 | .rem => b ≠ 0 ∧ K (.p (.int k (a.tmod b)))
 | .eql => K (.p (.bool (a == b)))
 | .neq => K (.p (.bool (a != b)))
 | .lss => K (.p (.bool (decide (a < b))))
 | .leq => K (.p (.bool (decide (a ≤ b))))
 | .gtr => K (.p (.bool (decide (a > b))))
 | .geq => K (.p (.bool (decide (a ≥ b))))
 | .shl => 0 ≤ b ∧ K (.p (.int k (k.wrap (a * 2 ^ (min b.toNat k.bits)))))
 | .shr => 0 ≤ b ∧ K (.p (.int k (a.fdiv (2 ^ (min b.toNat k.bits)))))
 | _ => False
def y8 (op : BinOp) (a b : ByteArray) (K : AV → Prop) : Prop :=
 match op with
 | .add => a.size + b.size ≤ 9223372036854775807 ∧ K (.p (.str (a ++ b)))
 | .eql => K (.p (.bool (a.toList == b.toList)))
 | .neq => K (.p (.bool (!(a.toList == b.toList))))
 | .lss => K (.p (.bool (Op.bytesLess a.toList b.toList)))
 | .leq => K (.p (.bool (Op.bytesLess a.toList b.toList || (a.toList == b.toList))))
 | .gtr => K (.p (.bool (!(Op.bytesLess a.toList b.toList || (a.toList == b.toList)))))
 | .geq => K (.p (.bool (!Op.bytesLess a.toList b.toList)))
 | _ => False
def isEq : BinOp → Option Bool
 | .eql => some true
 | .neq => some false
 | _ => none
def qk1 (P : Program) (plain : bf) (op : BinOp) (t : TypeId) (x y : AV) (K : AV → Prop) : Prop :=
 match x, y with
 | .p (.int k a), .p (.int k' b) => match op with
  | .shl => yd .shl k a b K
  | .shr => yd .shr k a b K
  | op => match decide (k = k') with | true => yd op k a b K | false => False
 | .p (.str a), .p (.str b) => y8 op a b K
 | .p (.bool a), .p (.bool b) => match P.underlying t, isEq op with
  | some .bool, some true => K (.p (.bool (a == b)))
  | some .bool, some false => K (.p (.bool (!(a == b))))
  | _, _ => False
 | .agg xs, .agg ys => match bw xs, bw ys with
  | some us, some vs => match isEq op, plain t us vs with
   | some true, some b => K (.p (.bool b))
   | some false, some b => K (.p (.bool (!b)))
   | _, _ => False
  | _, _ => False
 | _, _ => False
def unA (op : UnOp) (x : AV) (K : AV → Prop) : Prop :=
 match op, x with
 | .not, .p (.bool b) => K (.p (.bool (!b)))
 | .neg, .p (.int k n) => K (.p (.int k (k.wrap (0 - n))))
 | _, _ => False
def qi3 (P : Program) (src dst : TypeId) (x : AV) (K : AV → Prop) : Prop :=
 match P.underlying src, P.underlying dst, x with
 | some (.int _), some (.int k), .p (.int _ n) => K (.p (.int k (k.wrap n)))
 | some .string, some .string, .p (.str s) => K (.p (.str s))
 | _, _, _ => False
def qe2 : PV → PV
 | .nils => .arr true 0 fun _ => .nilp
 | x => x
def gy (x : Option AV) (d : Int) (K : Int → Prop) : Prop := match x with
 | none => K d
 | some (.p (.int _ n)) => K n
 | _ => False
def ng (P : Program) (t : TypeId) (x : AV) (lo hi mx : Option AV) (K : AV → Prop) : Prop :=
 match mx, P.underlying t, x with
 | none, some .string, .p (.str s) => gy hi s.size fun h => gy lo 0 fun l => 0 ≤ l ∧ l ≤ h ∧ h ≤ s.size ∧ K (.p (.str (s.extract l.toNat h.toNat)))
 | none, some (.slice e), .p (.arr m n g) => match bx P e with
  | some sz => (∀ i, i < n → cf (g i) = sz) ∧ gy hi n fun h => gy lo 0 fun l => 0 ≤ l ∧ l ≤ h ∧ h ≤ n ∧ K (.p (.arr m (h.toNat - l.toNat) fun i => g (l.toNat + i)))
  | none => False
 | _, _, _ => False
def qqx (P : Program) (t : TypeId) (rd : Nat → AO) (x : AV) (K : AV → Prop) : Prop :=
 match P.underlying t, x with
 | some .string, .p (.str s) => K (.p (.int .i64 s.size))
 | some (.slice _), .p (.arr _ n _) => K (.p (.int .i64 n))
 | some (.slice _), .p .nils => K (.p (.int .i64 0))
 | some (.slice _), .row id => match rd id with
  | .row _ _ xs => K (.p (.int .i64 xs.length))
  | .ice _ xs => K (.p (.int .i64 xs.length))
  | _ => False
 | some (.map _ _), .map id => match rd id with
  | .map _ es => K (.p (.int .i64 es.length))
  | _ => False
 | _, _ => False
def qt (rd : Nat → AO) (sz : Nat) (x : AV) (K : List PV → Prop) : Prop :=
 match x with
 | .p .nils => K []
 | .p (.arr _ n g) => (∀ i, i < n → cf (g i) = sz) ∧ K ((List.range n).map g)
 | .row id => match rd id with
  | .row _ sz' xs => match Nat.beq sz' sz with | true => K xs | false => False
  | .ice _ xs => (∀ i, i < xs.length → cf (xs.getD i .nilp) = sz) ∧ K xs
  | _ => False
 | _ => False
def py (P : Program) (rd : Nat → AO) (fresh : Nat) (t : TypeId) (s x : AV) (K : KA) : Prop :=
 match P.underlying t with
 | some (.slice e) => match bx P e, mq P e, jc P e with
  | some sz, some by_, some z => match Nat.blt 0 sz && Nat.blt 0 by_ && Nat.beq (cf z) sz with
   | true => qt rd sz x fun ys =>
    match s with
    | .p .nils => ys.length * by_ ≤ 140737488355328 ∧ K (.row fresh) [(fresh, .row e sz ys)]
    | .row id => match rd id with
     | .row e' sz' xs => match Nat.beq e e' && Nat.beq sz sz' with
      | true => (xs.length + ys.length) * by_ ≤ 140737488355328 ∧ K (.row fresh) [(id, .dead), (fresh, .row e sz (xs ++ ys))]
      | false => False
     | _ => False
    | _ => False
   | false => False
  | _, _, _ => False
 | _ => False
def qc6 (env : Env) (rd : Nat → AO) (t : TypeId) (x : AV) (i : Int) (K : KA) : Prop :=
 match env.P.underlying t with
 | some (.slice e) => match x with
  | .p (.arr _ n g) => 0 ≤ i ∧ i < n ∧ env.vw e (g i.toNat) fun cs => K (.rop cs) []
  | .row id => match rd id with
   | .row _ sz xs => match bx env.P e with
    | some n => match Nat.beq n sz with
     | true => 0 ≤ i ∧ i < xs.length ∧ K (.eptr id i.toNat 0) []
     | false => False
    | none => False
   | .ice _ xs => 0 ≤ i ∧ i < xs.length ∧ env.vw e (xs.getD i.toNat .nilp) fun cs => K (.rop cs) []
   | _ => False
  | _ => False
 | _ => False
def qjk (env : Env) (rd : Nat → AO) (t : TypeId) (x : AV) (K : KA) : Prop :=
 match re env.P t with
 | some (agg, n) => match x with
  | .ptr id off => match rd id with
   | .box cs => match Nat.ble (off + n) cs.length with
    | true => K (dh agg (cut cs off n)) []
    | false => False
   | _ => False
  | .rop cs => match Nat.ble n cs.length with
   | true => K (dh agg ((cs.take n).map .p)) []
   | false => False
  | .eptr id i c => match rd id with
   | .row e _ xs => env.vw e (xs.getD i .nilp) fun cs => match Nat.ble (c + n) cs.length with
    | true => K (dh agg ((cut cs c n).map .p)) []
    | false => False
   | _ => False
  | _ => False
 | none => False
def qev (env : Env) (rd : Nat → AO) (t : TypeId) (x v : AV) (K : KA) : Prop :=
 match bx env.P t, cellsOf v with
 | some n, some us => match Nat.beq us.length n, x with
  | true, .ptr id off => match rd id with
   | .box cs => match Nat.ble (off + n) cs.length with
    | true => K .undef [(id, .box (rh cs off us))]
    | false => False
   | _ => False
  | true, .eptr id i c => match rd id with
   | .row e sz xs => match bw (us.map o7) with
    | some ps => match Nat.beq c 0 && Nat.beq n sz, re env.P e with
     | true, some (agg, m) => match Nat.beq m sz with
      | true => K .undef [(id, .row e sz (xs.set i (qjs ps agg)))]
      | false => False
     | false, some (agg, _) => env.vw e (xs.getD i .nilp) fun cs => match Nat.ble (c + n) cs.length with
      | true => K .undef [(id, .row e sz (xs.set i (qjs (ri cs c ps) agg)))]
      | false => False
     | _, none => False
    | none => False
   | _ => False
  | _, _ => False
 | _, _ => False
def qit (env : Env) (t : TypeId) (x : AV) (f : Nat) (K : KA) : Prop :=
 match fieldAt env.P t f with
 | some (off, n) => match Nat.beq n 0 with
  | true => False
  | false => match x with
   | .ptr id o => K (.ptr id (o + off)) []
   | .eptr id i c => K (.eptr id i (c + off)) []
   | .rop cs => K (.rop (cs.drop off)) []
   | _ => False
 | none => False
def yh (env : Env) (rd : Nat → AO) (t : TypeId) (m k : AV) (ok : Bool) (K : KA) : Prop :=
 match env.P.underlying t with
 | some (.map kt e) => match gq env.P kt, b7 env.P e, jc env.P e, s7 k with
  | some kk, some agg, some z, some key => match m with
   | .map id => match rd id with
    | .map kk' es => match qed kk kk' && isKey kk key with
     | true => env.vw e ((look key es).getD z) fun cs => match ok with
      | true => K (.tup [dh agg (cs.map .p), .p (.bool (look key es).isSome)]) []
      | false => K (dh agg (cs.map .p)) []
     | false => False
    | _ => False
   | _ => False
  | _, _, _, _ => False
 | _ => False
def yi (env : Env) (rd : Nat → AO) (t : TypeId) (m k v : AV) (K : KA) : Prop :=
 match env.P.underlying t with
 | some (.map kt _) => match gq env.P kt, s7 k, s7 (rm v), m with
  | some kk, some key, some x, .map id => match rd id with
   | .map kk' es => match qed kk kk' && isKey kk key with
    | true => K .undef [(id, .map kk (nj key x es))]
    | false => False
   | _ => False
  | _, _, _, _ => False
 | _ => False
def qjv (rd : Nat → AO) (it : AV) (K : KA) : Prop :=
 match it with
 | .iter id => match rd id with
  | .iter s pos => match decide (pos < s.size) with
   | true => K (.tup [.p (.bool true), .p (.int .i64 pos), .p (.int .i32 (Utf8.decode s pos).1)]) [(id, .iter s (pos + (Utf8.decode s pos).2))]
   | false => K (.tup [.p (.bool false)]) []
  | _ => False
 | _ => False
def bk (L : List Nat) (fresh : Nat) (j : Nat) : Nat :=
 match L[j]? with
 | some i => i
 | none => fresh + (j - L.length)
def back (L : List Nat) (fresh : Nat) (j : Nat) : Option Nat := some (bk L fresh j)
def ck (L : List Nat) (fresh : Nat) : Nat → List AO → List (Nat × AO)
 | _, [] => []
 | j, o :: r => (bk L fresh j, qx (back L fresh) o) :: ck L fresh (j + 1) r
def qil (b : Bool) (l : List AV) : List AV := match b with
 | true => l.map rm
 | false => l
def wkO (b : Bool) (o : AO) : AO := match b with
 | true => match o with
  | .box cs => .box (cs.map o7)
  | o => o
 | false => o
def qiz (env : Env) (rd : Nat → AO) (fresh : Nat) (f : FuncId) (args : List AV) (K : KA) : Prop :=
 let L := reach rd 1000 (kd args) []
 match nodup L && fw fresh L with
 | true => env.C f (l5 (place L) (qil (env.weak f) args)) (dy (place L) (L.map fun i => wkO (env.weakB f) (rd i))) fun r h =>
  match Nat.ble L.length h.length with
  | true => K (gr (back L fresh) r) (ck L fresh 0 h)
  | false => False
 | false => False
def qbk (env : Env) (rd : Nat → AO) (fresh : Nat) (ρ : Operand → AV) (cl : Call) (K : KA) : Prop :=
 match cl.callee with
 | .builtin .len => match cl.args.toList, cl.argTypes[0]? with
  | [x], some t => qqx env.P t rd (ρ x) fun v => K v []
  | _, _ => False
 | .builtin .append => match cl.args.toList, cl.argTypes.toList with
  | [s, x], [t, t'] => match Nat.beq t t' with
   | true => py env.P rd fresh t (ρ s) (ρ x) K
   | false => False
  | _, _ => False
 | .value g => match ρ g with
  | .func (.func f) first captured => qiz env rd fresh f (first ++ cl.args.toList.map ρ ++ captured) K
  | _ => False
 | _ => False
def step (env : Env) (plain : bf) (o : Oper) (ρ : Operand → AV) (rd : Nat → AO) (fresh : Nat) (K : KA) : Prop :=
 match o.op with
 | .move x => K (ρ x) []
 | .assign x => K (ρ x) []
 | .pick c a b => vc (ρ c) fun t => match t with | true => K (ρ a) [] | false => K (ρ b) []
 | .alloc t => match zeroCells env.P t with
  | some zs => K (.ptr fresh 0) [(fresh, .box (zs.map .p))]
  | none => False
 | .box _ x => match cellsOf (ρ x) with
  | some cs => K (.ptr fresh 0) [(fresh, .box cs)]
  | none => False
 | .build t parts => match zeroCells env.P t, yp env.P t with
  | some zs, some at_ => match qbq at_ (zs.map .p) (parts.toList.map fun x => (x.1, ρ x.2)) with
   | some cs => K (.agg cs) []
   | none => False
  | _, _ => False
 | .buildSlice t len parts => match env.P.underlying t with
  | some (.slice e) => match bx env.P e, jc env.P e with
   | some sz, some z => match Nat.ble (len * sz) 16777216 && Nat.blt 0 sz && Nat.beq (cf z) sz, sg sz (List.replicate len z) (parts.toList.map fun x => (x.1, ρ x.2)) with
    | true, some xs => K (.row fresh) [(fresh, .row e sz xs)]
    | _, _ => False
   | _, _ => False
  | _ => False
 | .load t a => qjk env rd t (ρ a) K
 | .store t a x => qev env rd t (ρ a) (ρ x) K
 | .nilCheck x => match ρ x with
  | .ptr i o => K (.ptr i o) []
  | .eptr i a b => K (.eptr i a b) []
  | .rop cs => K (.rop cs) []
  | .func (.func f) a b => K (.func (.func f) a b) []
  | _ => False
 | .binOp op t x y _ => qk1 env.P plain op t (ρ x) (ρ y) fun v => K v []
 | .unOp op _ x => unA op (ρ x) fun v => K v []
 | .convert s d x => qi3 env.P s d (ρ x) fun v => K v []
 | .makeFunc fn a b => K (.func fn (a.toList.map ρ) (b.toList.map ρ)) []
 | .makeMap t none => match env.P.underlying t with
  | some (.map kt _) => match gq env.P kt with
   | some kk => K (.map fresh) [(fresh, .map kk [])]
   | none => False
  | _ => False
 | .fieldAddr t x f => qit env t (ρ x) f K
 | .field t x f => match ρ x, qe env.P t with
  | .agg cs, some fs => match fs[f]? with
   | some (off, ft, _) => match re env.P ft with
    | some (agg, n) => match Nat.ble (off + n) cs.length with
     | true => K (dh agg (cut cs off n)) []
     | false => False
    | none => False
   | none => False
  | _, _ => False
 | .indexAddr t x i => match ρ i with
  | .p (.int _ n) => qc6 env rd t (ρ x) n K
  | _ => False
 | .index t x i => match ρ i, ρ x, env.P.underlying t with
  | .p (.int _ n), .p (.str s), some .string => 0 ≤ n ∧ n < s.size ∧ K (.p (.int .u8 (bh s n.toNat))) []
  | _, _, _ => False
 | .lookup t m k ok => yh env rd t (ρ m) (ρ k) ok K
 | .mapUpdate t m k v => yi env rd t (ρ m) (ρ k) (ρ v) K
 | .range t x => match ρ x, env.P.underlying t with
  | .p (.str s), some .string => K (.iter fresh) [(fresh, .iter s 0)]
  | _, _ => False
 | .next it true => qjv rd (ρ it) K
 | .extract t i => match ρ t with
  | .tup vs => match vs[i]? with
   | some v => K v []
   | none => False
  | _ => False
 | .slice t x lo hi mx => ng env.P t (ρ x) (lo.map ρ) (hi.map ρ) (mx.map ρ) fun v => K v []
 | .makeSlice t l c => match ρ l, ρ c, env.P.underlying t with
  | .p (.int _ n), .p (.int _ m), some (.slice e) => match bx env.P e, mq env.P e, jc env.P e with
   | some sz, some by_, some z => match Nat.blt 0 sz && Nat.beq (cf z) sz with
    | true => n = m ∧ 0 ≤ n ∧ n ≤ 140737488355328 ∧ n * by_ ≤ 140737488355328 ∧ K (.row fresh) [(fresh, .row e sz (List.replicate n.toNat (qe2 z)))]
    | false => False
   | _, _, _ => False
  | _, _, _ => False
 | .call cl => qbk env rd fresh ρ cl K
 | _ => False
def qnu (ops : Array Oper) (j : Nat) : Option Tmp := (ops[j]?).bind (·.dst)
def qad (ops : Array Oper) (o : Oper) (s : St) (K : Bool → St → Prop) : Prop :=
 match o.guard with
 | none => K true s
 | some (j, want) => match qnu ops j with
  | some t => match bj s.sl t with
   | .p (.bool true) => K want { s with sl := (t, .p (.bool true)) :: s.sl }
   | .p (.bool false) => K (!want) { s with sl := (t, .p (.bool false)) :: s.sl }
   | .tup [] => K false s
   | _ => False
  | none => False
def rv (nt : Nat) : Option Tmp → Bool
 | none => true
 | some t => Nat.blt t nt
def qcf : Nat → List (Nat × AO) → Bool
 | _, [] => true
 | n, (i, _) :: r => match Nat.blt i n with
  | true => qcf n r
  | false => match Nat.beq i n with
   | true => qcf (n + 1) r
   | false => false
def wj (env : Env) (plain : bf) (ops : Array Oper) : List Oper → St → (St → Prop) → Prop
 | [], s, K => K s
 | o :: os, s, K => match rv env.nt o.dst with
  | false => False
  | true => qad ops o s fun w s1 => match w with
   | true => env.S o (j1 (env.pre o s1).sl) (df (env.pre o s1).hp) (env.pre o s1).hp.length fun v wr => match qcf (env.pre o s1).hp.length wr with
    | true => wj env plain ops os ⟨((env.pre o s1).put o.dst v).sl, dg (env.pre o s1).hp wr⟩ K
    | false => False
   | false => wj env plain ops os (s1.put o.dst (.tup [])) K
structure Did where
 i : Nat
 anc : Nat
 dst : Option Tmp
 looks : List Tmp
 fp : List Nat
 names : List Nat
def ig (m n : Nat) : Bool := Nat.beq (Nat.land (Nat.shiftRight m n) 1) 1
def nth : List Nat → Nat → Nat
 | [], _ => 0
 | x :: _, 0 => x
 | _ :: r, n + 1 => nth r n
def qbg : List Did → Nat → Nat
 | [], _ => 0
 | d :: r, i => match Nat.beq d.i i with | true => d.anc | false => qbg r i
def qe4 (ds : List Did) : List Edge → Nat
 | [] => 0
 | e :: r => match Region.binds .any e with
  | true => Nat.lor (Nat.lor (Nat.shiftLeft 1 e.on) (qbg ds e.on)) (qe4 ds r)
  | false => qe4 ds r
def qb (n : Nat) : List Edge → Bool
 | [] => true
 | e :: r => match Region.binds .any e, Nat.blt e.on n with
  | true, false => false
  | _, _ => qb n r
def qmz (d : Option Tmp) (l : List Tmp) : Bool :=
 match d with
 | some t => mem t l
 | none => false
def qmp (d e : Option Tmp) : Bool :=
 match d, e with
 | some t, some u => Nat.beq t u
 | _, _ => false
def meet : List Nat → List Nat → Bool
 | [], _ => false
 | i :: r, l => match mem i l with | true => true | false => meet r l
def qf3 (d e : Did) : Bool :=
 qmz d.dst e.looks || qmz e.dst d.looks || qmp d.dst e.dst || meet d.names e.fp || meet e.names d.fp || meet d.names e.names
def clear (ds : List Did) (e : Did) : Bool :=
 match ds with
 | [] => true
 | d :: r => match ig e.anc d.i || !qf3 d e with
  | true => clear r e
  | false => false
def fpA (o : Oper) (ρ : Operand → AV) (rd : Nat → AO) : List Nat :=
 match o.op with
 | .call _ => reach rd 1000 (kd (o.op.operands.toList.map ρ)) []
 | .load _ a => j4 (ρ a)
 | .store _ a _ => j4 (ρ a)
 | .indexAddr _ x _ => j4 (ρ x)
 | .slice _ x _ _ _ => j4 (ρ x)
 | .lookup _ m _ _ => j4 (ρ m)
 | .mapUpdate _ m _ _ => j4 (ρ m)
 | .next it _ => j4 (ρ it)
 | _ => []
def only (fp : List Nat) (rd : Nat → AO) (i : Nat) : AO := match mem i fp with
 | true => rd i
 | false => .dead
def ji : List (Nat × AO) → List Nat
 | [] => []
 | (i, _) :: r => i :: ji r
def te (env : Env) (plain : bf) (rid : Nat) (ops : Array Oper) : List Oper → Nat → List Did → St → (St → Prop) → Prop
 | [], _, _, s, K => K s
 | o :: os, n, ds, s, K => match rv env.nt o.dst && qb n o.after.toList && Nat.beq (nth (env.anc rid) n) (qe4 ds o.after.toList) with
  | false => False
  | true => qad ops o s fun w s1 => match w with
   | true => env.S o (j1 s1.sl) (only (fpA o (j1 s1.sl) (df s1.hp)) (df s1.hp)) s1.hp.length fun v wr =>
    match qcf s1.hp.length wr && clear ds ⟨n, nth (env.anc rid) n, o.dst, o.looksAt ops, fpA o (j1 s1.sl) (df s1.hp), ji wr⟩ with
    | true => te env plain rid ops os (n + 1) (⟨n, nth (env.anc rid) n, o.dst, o.looksAt ops, fpA o (j1 s1.sl) (df s1.hp), ji wr⟩ :: ds) ⟨(s1.put o.dst v).sl, dg s1.hp wr⟩ K
    | false => False
   | false => match clear ds ⟨n, nth (env.anc rid) n, o.dst, o.looksAt ops, [], []⟩ with
    | true => te env plain rid ops os (n + 1) (⟨n, nth (env.anc rid) n, o.dst, o.looksAt ops, [], []⟩ :: ds) (s1.put o.dst (.tup [])) K
    | false => False
def rj (P : Program) : List (Nat × (Nat × Option Nat)) → St → St
 | [], s => s
 | (e, x) :: r, s => rj P r (wy P e s x)
def norm (env : Env) (b : Nat) (e : Ex) (s : St) (K : St → Prop) : Prop :=
 match e with
 | .normal => canon env.n0 { (rj env.P (env.thaw b) s) with sl := gp (rj env.P (env.thaw b) s).sl (env.lloop b) } K
 | .exit id => canon env.n0 { s with sl := gp s.sl (env.lexit b id) } K
 | .ret => canon env.n0 { s with sl := gp s.sl env.lret } K
 | .goto _ => False
def known (c : Operand) (b : Bool) (s : St) : St :=
 match c with
 | .tmp t => { s with sl := (t, .p (.bool b)) :: s.sl }
 | _ => s
def qz (env : Env) (ops : Array Oper) : List Nat → St → (St → Prop) → Prop
 | [], s, K => K s
 | i :: r, s, K => match ops[i]? with
  | some o => match o.guard, rv env.nt o.dst with
   | none, true => env.S o (j1 s.sl) (df s.hp) s.hp.length fun v wr => match qcf s.hp.length wr with
    | true => qz env ops r ⟨(s.put o.dst v).sl, dg s.hp wr⟩ K
    | false => False
   | _, _ => False
  | none => False
def sj : List Nat → List Nat → Bool
 | [], [] => true
 | x :: xs, y :: ys => match Nat.beq x y with | true => sj xs ys | false => false
 | _, _ => false
def wh (ops : Array Oper) (L : Array Bool) (l : List Nat) : Bool := sj (Region.ready .any ops L) l
def ph (ops : Array Oper) (q : Tmp) : Bool :=
 match ops.toList with
 | [⟨some _, .alloc _, _, _, _, _⟩, ⟨none, .store _ _ (.const (.bool _)), _, _, _, _⟩, ⟨none, .store _ _ (.const (.bool _)), _, _, _, _⟩, ⟨some q', .load _ _, _, _, _, _⟩] =>
  Nat.beq q q' && Nat.beq ops.size 4 && wh ops (Array.replicate 4 false) [0] && wh ops ((Array.replicate 4 false).setIfInBounds 0 true) [1, 2] &&
  wh ops (((Array.replicate 4 false).setIfInBounds 0 true).setIfInBounds 1 true) [2] && wh ops (((Array.replicate 4 false).setIfInBounds 0 true).setIfInBounds 2 true) [1] &&
  wh ops ((((Array.replicate 4 false).setIfInBounds 0 true).setIfInBounds 1 true).setIfInBounds 2 true) [3] && wh ops ((((Array.replicate 4 false).setIfInBounds 0 true).setIfInBounds 2 true).setIfInBounds 1 true) [3] &&
  wh ops (((((Array.replicate 4 false).setIfInBounds 0 true).setIfInBounds 1 true).setIfInBounds 2 true).setIfInBounds 3 true) [] && wh ops (((((Array.replicate 4 false).setIfInBounds 0 true).setIfInBounds 2 true).setIfInBounds 1 true).setIfInBounds 3 true) []
 | _ => false
def ts (x y : Code) : Option (Array Oper) := match x, y with
 | .region _ ops true, .cond (.tmp q) _ _ => match ph ops q with
  | true => some ops
  | false => none
 | _, _ => none
def eqB : List UInt8 → List UInt8 → Bool
 | [], [] => true
 | x :: xs, y :: ys => match Nat.beq x.toNat y.toNat with
  | true => eqB xs ys
  | false => false
 | _, _ => false
def qbe (f : Nat → Bool) : Nat → Bool
 | 0 => true
 | n + 1 => match f n with | true => qbe f n | false => false
mutual
def so : PV → PV → Bool
 | .bool a, y => match y with | .bool b => a == b | _ => false
 | .int k a, y => match y with | .int k' b => decide (k = k') && decide (a = b) | _ => false
 | .str a, y => match y with | .str b => eqB a.data.toList b.data.toList | _ => false
 | .nilp, y => match y with | .nilp => true | _ => false
 | .nils, y => match y with | .nils => true | _ => false
 | .nilm, y => match y with | .nilm => true | _ => false
 | .nilf, y => match y with | .nilf => true | _ => false
 | .nili, y => match y with | .nili => true | _ => false
 | .fnc f, y => match y with | .fnc g => Nat.beq f g | _ => false
 | .arr m n g, y => match y with | .arr m' n' g' => (!m || m') && Nat.beq n n' && qbe (fun i => so (g i) (g' i)) n | _ => false
 | .agg xs, y => match y with | .agg ys => i6 xs ys | _ => false
def i6 : List PV → List PV → Bool
 | [], ys => match ys with | [] => true | _ => false
 | x :: xs, ys => match ys with | y :: ys => so x y && i6 xs ys | _ => false
end
mutual
def ub : AV → AV → Bool
 | .undef, _ => true
 | .p x, y => match y with | .p y => so x y | _ => false
 | .ptr i o, y => match y with | .ptr j p => Nat.beq i j && Nat.beq o p | _ => false
 | .eptr i k o, y => match y with | .eptr j l p => Nat.beq i j && Nat.beq k l && Nat.beq o p | _ => false
 | .rop cs, y => match y with | .rop ds => i6 cs ds | _ => false
 | .row i, y => match y with | .row j => Nat.beq i j | _ => false
 | .map i, y => match y with | .map j => Nat.beq i j | _ => false
 | .iter i, y => match y with | .iter j => Nat.beq i j | _ => false
 | .sub i k, y => match y with | .sub j l => Nat.beq i j && Nat.beq k l | _ => false
 | .func f a b, y => match f, y with | .func f, .func (.func g) c d => Nat.beq f g && o6 a c && o6 b d | _, _ => false
 | .agg cs, y => match y with | .agg ds => o6 cs ds | _ => false
 | .tup cs, y => match y with | .tup ds => o6 cs ds | _ => false
 | .iface t v, y => match y with | .iface u w => Nat.beq t u && ub v w | _ => false
def o6 : List AV → List AV → Bool
 | [], ys => match ys with | [] => true | _ => false
 | x :: xs, ys => match ys with | y :: ys => ub x y && o6 xs ys | _ => false
end
def qh8 : AO → AO → Bool
 | .dead, _ => true
 | .box cs, .box ds => o6 cs ds
 | .row e sz xs, .row e' sz' ys => Nat.beq e e' && Nat.beq sz sz' && i6 xs ys
 | .ice sz xs, .ice sz' ys => Nat.beq sz sz' && i6 xs ys
 | .iter s p, .iter s' p' => eqB s.data.toList s'.data.toList && Nat.beq p p'
 | _, _ => false
def qbu : List AO → List AO → Bool
 | [], [] => true
 | x :: xs, y :: ys => match qh8 x y with | true => qbu xs ys | false => false
 | _, _ => false
def ef : List (Nat × AV) → List (Nat × AV) → List (Nat × AV)
 | (t, x) :: xs, (u, y) :: ys => match Nat.beq t u with
  | true => match ub x y with
   | true => (t, x) :: ef xs ys
   | false => (t, .undef) :: ef xs ys
  | false => []
 | _, _ => []
def qh9 : List (Nat × AV) → List (Nat × AV) → Bool
 | [], [] => true
 | (t, _) :: xs, (u, _) :: ys => match Nat.beq t u with | true => qh9 xs ys | false => false
 | _, _ => false
def qqw (s t : St) : Bool := qh9 s.sl t.sl && qbu s.hp t.hp
def qeb : Ex → Ex → Bool
 | .normal, .normal => true
 | .exit i, .exit j => Nat.beq i j
 | .ret, .ret => true
 | .goto i, .goto j => Nat.beq i j
 | _, _ => false
def exec (env : Env) (plain : bf) : Nat → Code → St → (Ex → St → Prop) → Prop
 | _, .skip, s, K => K .normal s
 | _, .region _ ops false, s, K => wj env plain ops ops.toList s fun s' => K .normal s'
 | _, .region id ops true, s, K => te env plain id ops ops.toList 0 [] s fun s' => K .normal s'
 | b, .seq x y, s, K => match ts x y with
  | none => exec env plain b x s fun e s' => match e with
   | .normal => exec env plain b y s' K
   | e => K e s'
  | some ops => qz env ops [0, 1, 2, 3] s fun s1 => exec env plain b y s1 fun e1 z1 => canon env.n0 { z1 with sl := gp z1.sl env.lret } fun y1 =>
   qz env ops [0, 2, 1, 3] s fun s2 => exec env plain b y s2 fun e2 z2 => canon env.n0 { z2 with sl := gp z2.sl env.lret } fun y2 => match qeb e1 e2 && qqw y1 y2 with
   | true => K e1 ⟨ef y1.sl y2.sl, y1.hp⟩
   | false => False
 | b, .cond c x y, s, K => vc (j1 s.sl c) fun t => match t with
  | true => exec env plain b x (known c true s) K
  | false => exec env plain b y (known c false s) K
 | _, .block id c, s, K => exec env plain id c s fun e s' => match e with
  | .exit id' => match Nat.beq id' id with | true => K .normal s' | false => K (.exit id') s'
  | e => K e s'
 | b, .loop _, s, K => norm env b .normal s fun s' => env.L b s' K
 | _, .exit id, s, K => K (.exit id) s
 | _, .ret, s, K => K .ret s
 | _, .label _, s, K => K .normal s
 | _, .goto l, s, K => K (.goto l) s
 | b, .scope c, s, K => exec env plain b c s fun e s' => match e with
  | .goto l => env.G l s' K
  | e => K e s'
 | _, _, _, _ => False
end Go.RX
namespace Go.RX
def icy (rd : Nat → AO) (i : Nat) : Option PV :=
 match rd i with
 | .row _ _ xs => some (.arr true xs.length fun j => xs.getD j .nilp)
 | .ice _ xs => some (.arr true xs.length fun j => xs.getD j .nilp)
 | _ => none
def fz1 (rd : Nat → AO) : AV → AV
 | .row i => match icy rd i with
  | some x => .p x
  | none => .row i
 | v => v
def qlx (rd : Nat → AO) : AV → AV
 | .agg cs => .agg (cs.map fun c => fz1 rd (rm c))
 | v => fz1 rd (rm v)
def qgd (rd : Nat → AO) : AV → AV
 | .tup vs => .tup (vs.map (qlx rd))
 | v => qlx rd v
def jn : AV → List Nat
 | .row i => [i]
 | _ => []
def rowsOf : AV → List Nat
 | .agg cs => cs.flatMap jn
 | v => jn v
def i1 : AV → List Nat
 | .tup vs => vs.flatMap rowsOf
 | v => rowsOf v
def qce : AO → AO
 | .row _ sz xs => .ice sz xs
 | o => o
def gm (h : List AO) : List Nat → List AO
 | [] => h
 | i :: r => gm (yy h i (qce (df h i))) r
def jk (env : Env) (s : St) : List ResultVar → (List AV → Prop) → Prop
 | [], K => K []
 | .tmp t :: r, K => jk env s r fun vs => K (bj s.sl t :: vs)
 | .cell a t :: r, K => match re env.P t, bj s.sl a with
  | some (agg, n), .ptr id off => match df s.hp id with
   | .box cs => match Nat.ble (off + n) cs.length with
    | true => jk env s r fun vs => K (dh agg (cut cs off n) :: vs)
    | false => False
   | _ => False
  | _, _ => False
def c8 : List AV → AV
 | [v] => v
 | vs => .tup vs
def qm4 (env : Env) (soft : Bool) (res : List ResultVar) (s : St) (K : AV → List AO → Prop) : Prop :=
 jk env s res fun vs =>
  let v := c8 vs
  let v' := match soft with | true => qgd (df s.hp) v | false => v
  let h := match soft with | true => gm s.hp (i1 v) | false => s.hp
  let L := reach (df h) 1000 (jw (df h) (upto env.n0) ++ j4 v') (upto env.n0)
  match nodup L && ga env.n0 L 0 && fw h.length L with
  | true => K (gr (place L) v') (dy (place L) (pick h L))
  | false => False
def number : Nat → List AV → List (Nat × AV)
 | _, [] => []
 | i, v :: r => (i, v) :: number (i + 1) r
def body (env : Env) (plain : bf) (soft : Bool) (fn : Func) (args : List AV) (h : List AO) (K : AV → List AO → Prop) : Prop :=
 match fn.body, Nat.beq fn.ntmps env.nt && Nat.ble args.length fn.ntmps && Nat.beq h.length env.n0 with
 | some c, true => exec env plain 0 c ⟨number 0 args, h⟩ fun e s => match e with
  | .normal => qm4 env soft fn.results.toList s K
  | .ret => qm4 env soft fn.results.toList s K
  | _ => False
 | _, _ => False
end Go.RX
namespace Go.RX
abbrev bb := List AV → List AO → (AV → List AO → Prop) → Prop
abbrev bp := St → (Ex → St → Prop) → Prop
def tab {α : Type} (d : α) : List (Nat × α) → Nat → α
 | [], _ => d
 | (i, x) :: r, j => match Nat.beq i j with | true => x | false => tab d r j
def m4 : bb := fun _ _ _ => False
def l4 : bp := fun _ _ => False
def bm (env : Env) (plain : bf) (b : Nat) (c : Code) (R : bp) : bp := fun s K =>
 exec env plain b c s fun e s' => norm env b e s' fun s'' => match e with
  | .normal => R s'' K
  | e => K e s''
def c7 (b : Nat) : Nat → Code → Option Code
 | _, .skip => none
 | a, .seq x y => match c7 b a x with | some c => some c | none => c7 b a y
 | a, .cond _ x y => match c7 b a x with | some c => some c | none => c7 b a y
 | _, .block id c => c7 b id c
 | a, .loop c => match Nat.beq a b with | true => some c | false => c7 b a c
 | a, .scope c => c7 b a c
 | _, _ => none
structure Arr where
 m : Bool
 n : Nat
 g : Nat → PV
def br (b : Bool) (x y : Prop) : Prop := match b with
 | true => x
 | false => y
end Go.RX
namespace Go.RX
def av : Code → List Code
 | .seq x y => av x ++ av y
 | .cond _ x y => av x ++ av y
 | .block _ c => av c
 | .loop c => av c
 | .scope c => c :: av c
 | _ => []
def aj : Nat → Code → List (Nat × Code)
 | _, .skip => []
 | a, .seq x y => aj a x ++ aj a y
 | a, .cond _ x y => aj a x ++ aj a y
 | _, .block id c => aj id c
 | a, .loop c => (a, c) :: aj a c
 | a, .scope c => aj a c
 | _, _ => []
def keys {α : Type} : List (Nat × α) → List Nat
 | [] => []
 | (i, _) :: r => i :: keys r
end Go.RX
namespace Go.RX
inductive Loc where
 | none
 | blk (b : Nat)
 | rowv (v : Value) (sz : Nat)
def Loc.block : Loc → Option Nat
 | .none => Option.none
 | .blk b => some b
 | .rowv v _ => v.ownBlock
structure Cx where
 β : Nat → Loc
 I : Nat → Prop
 w : World
 born : Nat → Prop
 base : Nat
def Cx.J (c : Cx) (m : Bool) (b : Nat) : Prop := c.I b ∧ (m = true → c.base ≤ b ∧ ∃ C e, c.w.heap[b]? = some (.cells C e (0, 0)))
mutual
def RoC (I : Bool → Nat → Prop) (w : World) : PV → List Value → Prop
 | .bool b, cs => cs = [.bool b]
 | .int k n, cs => cs = [.int k n]
 | .str s, cs => cs = [.string s]
 | .nilp, cs => cs = [.pointer none]
 | .nils, cs => cs = [.slice none 0 0]
 | .nilm, cs => cs = [.map none]
 | .nilf, cs => cs = [.nilFunc]
 | .nili, cs => cs = [.nilIface]
 | .fnc f, cs => cs = [.func (.func f) #[] #[]]
 | .arr m n g, cs => ∃ a c, cs = [.slice a n c] ∧ (n ≤ c ∧ n ≤ maxLen) ∧ (0 < n → ∃ b off sz, a = some ⟨b, off, none⟩ ∧ I m b ∧ 0 < sz ∧ (m = true → sz ∣ off) ∧
   ∀ i, i < n → ∃ es : List Value, es.length = sz ∧ RoC I w (g i) es ∧ ∀ j, j < sz → w.cell? ⟨b, off + i * sz + j, none⟩ = es[j]?)
 | .agg xs, cs => b9 I w xs cs
def b9 (I : Bool → Nat → Prop) (w : World) : List PV → List Value → Prop
 | [], cs => cs = []
 | x :: xs, cs => ∃ y ys, cs = y :: ys ∧ RoC I w x [y] ∧ b9 I w xs ys
end
def bn (I : Bool → Nat → Prop) (w : World) (sz : Nat) : List PV → List Value → Prop
 | [], cs => cs = []
 | x :: xs, cs => ∃ es r, cs = es ++ r ∧ es.length = sz ∧ RoC I w x es ∧ bn I w sz xs r
def RoV (I : Bool → Nat → Prop) (w : World) (x : PV) (v : Value) : Prop :=
 (∃ xs C, x = .agg xs ∧ v = .agg C ∧ b9 I w xs C.toList) ∨ ((∀ xs, x ≠ .agg xs) ∧ RoC I w x [v])
def ez (I : Bool → Nat → Prop) (w : World) (kk : o8) : List (PV × PV) → List MapEntry → Prop
 | [], es => es = []
 | (k, x) :: r, es => ∃ e es', es = e :: es' ∧ isKey kk k = true ∧ RoV I w k e.key ∧ RoV I w x e.val ∧ ez I w kk r es'
mutual
def V (c : Cx) : AV → Value → Prop
 | .undef, _ => True
 | .p x, v => RoC c.J c.w x [v]
 | .ptr i o, v => c.born i ∧ ∃ b, c.β i = .blk b ∧ v = .pointer (some ⟨b, o, none⟩)
 | .eptr i k o, v => c.born i ∧ ∃ b n cap sz, c.β i = .rowv (.slice (some ⟨b, 0, none⟩) n cap) sz ∧ k < n ∧ v = .pointer (some ⟨b, k * sz + o, none⟩)
 | .row i, v => c.born i ∧ ∃ a n cp sz, v = .slice a n cp ∧ c.β i = .rowv v sz
 | .map i, v => c.born i ∧ ∃ b, c.β i = .blk b ∧ v = .map (some b)
 | .iter i, v => c.born i ∧ ∃ b, c.β i = .blk b ∧ v = .pointer (some ⟨b, 0, none⟩)
 | .sub i k, v => c.born i ∧ ∃ b n cap sz, c.β i = .rowv (.slice (some ⟨b, 0, none⟩) n cap) sz ∧ k < n ∧ v = .slice (some ⟨b, k * sz, none⟩) (n - k) (cap - k)
 | .rop cs, v => ∃ b o, v = .pointer (some ⟨b, o, none⟩) ∧ c.I b ∧ ∃ es : List Value, b9 c.J c.w cs es ∧ ∀ j, j < es.length → c.w.cell? ⟨b, o + j, none⟩ = es[j]?
 | .func fn f g, v => ∃ F G, v = .func fn F G ∧ Vs c f F.toList ∧ Vs c g G.toList
 | .agg cs, v => ∃ C, v = .agg C ∧ Vs c cs C.toList ∧ ∀ u ∈ C.toList, u.oneCell' = true
 | .tup cs, v => ∃ C, v = .tuple C ∧ Vs c cs C.toList
 | .iface t x, v => ∃ y, v = .iface t y ∧ V c x y
def Vs (c : Cx) : List AV → List Value → Prop
 | [], vs => vs = []
 | x :: xs, vs => ∃ y ys, vs = y :: ys ∧ V c x y ∧ Vs c xs ys
end
def OR (c : Cx) : AO → Loc → Prop
 | .dead, _ => True
 | .box cs, .blk b => ∃ C t, c.w.heap[b]? = some (.cells C t (0, 0)) ∧ Vs c cs C.toList ∧ ∀ u ∈ C.toList, u.oneCell' = true
 | .row e sz xs, .rowv v sz' => sz' = sz ∧ 0 < sz ∧ ∃ cells, c.w.ownsRow 0 e sz v xs.length cells ∧ bn c.J c.w sz xs cells
 | .ice _ xs, .rowv v _ => RoC c.J c.w (.arr true xs.length fun j => xs.getD j .nilp) [v]
 | .map kk es, .blk b => ∃ E cl, c.w.heap[b]? = some (.map E cl) ∧ ez c.J c.w kk es E.toList
 | .iter s p, .blk b => c.w.heap[b]? = some (.stringIter s p)
 | _, _ => False
def dz : AO → Bool
 | .dead => false
 | .ice _ _ => false
 | _ => true
abbrev HP := Nat → Option AO
def Live (h : HP) (i : Nat) : Prop := ∃ o, h i = some o ∧ dz o = true
structure HR (c : Cx) (h : HP) : Prop where
 obj : ∀ i o, h i = some o → c.born i ∧ OR c o (c.β i)
 inj : ∀ i j b, Live h i → Live h j → (c.β i).block = some b → (c.β j).block = some b → i = j
 apart : ∀ i b, Live h i → (c.β i).block = some b → ¬ c.I b
 bound : ∀ b, c.I b → b < c.w.heap.size
 size : ∀ i b, Live h i → (c.β i).block = some b → b < c.w.heap.size
 low : ∀ i b, Live h i → (c.β i).block = some b → c.base ≤ b
 base : c.base ≤ c.w.heap.size
structure Ext (c c' : Cx) : Prop where
 born : ∀ i, c.born i → c'.born i
 β : ∀ i, c.born i → c'.β i = c.β i
 I : ∀ b, c.I b → c'.I b
 blocks : ∀ b, c.I b → c'.w.heap[b]? = c.w.heap[b]?
 base : c'.base = c.base
theorem Ext.J {c c' : Cx} (h : Ext c c') (m : Bool) (b : Nat) (k : c.J m b) : c'.J m b := ⟨h.I b k.1, fun e => by rw [h.base, h.blocks b k.1]; exact k.2 e⟩
theorem Ext.jb {c c' : Cx} (h : Ext c c') (m : Bool) (b : Nat) (k : c.J m b) : c'.w.heap[b]? = c.w.heap[b]? := h.blocks b k.1
theorem Ext.refl (c : Cx) : Ext c c := ⟨fun _ h => h, fun _ _ => rfl, fun _ h => h, fun _ _ => rfl, rfl⟩
theorem Ext.trans {a b c : Cx} (h : Ext a b) (k : Ext b c) : Ext a c :=
 ⟨fun i hi => k.born i (h.born i hi), fun i hi => (k.β i (h.born i hi)).trans (h.β i hi), fun b hb => k.I b (h.I b hb), fun b hb => (k.blocks b (h.I b hb)).trans (h.blocks b hb), k.base.trans h.base⟩
structure Fr (c : Cx) (h : HP) (c' : Cx) (h' : HP) : Prop where
 os : c'.w.os = c.w.os
 tape : c'.w.tape = c.w.tape
 output : c'.w.output = c.w.output
 size : c.w.heap.size ≤ c'.w.heap.size
 keep : ∀ b, b < c.w.heap.size → (∀ i, Live h i → (c.β i).block ≠ some b) → c'.w.heap[b]? = c.w.heap[b]?
 mono : ∀ b, c.I b → c'.I b
 new : ∀ b, c'.I b → c.I b ∨ c.w.heap.size ≤ b ∨ ∃ i, Live h i ∧ (c.β i).block = some b
 live : ∀ i b, Live h' i → (c'.β i).block = some b → c.w.heap.size ≤ b ∨ ∃ j, Live h j ∧ (c.β j).block = some b
 base : c'.base = c.base
theorem Fr.refl (c : Cx) (h : HP) : Fr c h c h :=
 ⟨rfl, rfl, rfl, Nat.le_refl _, fun _ _ _ => rfl, fun _ h => h, fun _ h => .inl h, fun i _ hi hb => .inr ⟨i, hi, hb⟩, rfl⟩
theorem Fr.trans {a b c : Cx} {h k l : HP} (x : Fr a h b k) (y : Fr b k c l) : Fr a h c l := by
 refine ⟨y.os.trans x.os, y.tape.trans x.tape, y.output.trans x.output, Nat.le_trans x.size y.size, fun n hn hl => ?_, fun n hn => y.mono n (x.mono n hn), fun n hn => ?_, fun i n hi hb => ?_, y.base.trans x.base⟩
 ·refine (y.keep n (Nat.lt_of_lt_of_le hn x.size) fun i hi hb => ?_).trans (x.keep n hn hl)
  rcases x.live i n hi hb with h1 | ⟨j, h1, h2⟩
  ·omega
  ·exact hl j h1 h2
 ·rcases y.new n hn with h1 | h1 | ⟨i, hi, hb⟩
  ·exact x.new n h1
  ·exact .inr (.inl (Nat.le_trans x.size h1))
  ·rcases x.live i n hi hb with h2 | h2
   ·exact .inr (.inl h2)
   ·exact .inr (.inr h2)
 ·rcases y.live i n hi hb with h1 | ⟨j, hj, hb'⟩
  ·exact .inl (Nat.le_trans x.size h1)
  ·exact x.live j n hj hb'
mutual
theorem RoC.mono {I I' : Bool → Nat → Prop} {w w' : World} (hI : ∀ m b, I m b → I' m b) (hw : ∀ m b, I m b → w'.heap[b]? = w.heap[b]?) :
  ∀ (x : PV) (cs : List Value), RoC I w x cs → RoC I' w' x cs
 | .bool _, _, h => h
 | .int _ _, _, h => h
 | .str _, _, h => h
 | .nilp, _, h => h
 | .nils, _, h => h
 | .nilm, _, h => h
 | .nilf, _, h => h
 | .nili, _, h => h
 | .fnc _, _, h => h
 | .arr m n g, cs, h => by
  simp only [RoC] at h ⊢
  obtain ⟨a, c, rfl, hn, h⟩ := h
  refine ⟨a, c, rfl, hn, fun h0 => ?_⟩
  obtain ⟨b, off, sz, rfl, hb, hsz, hd, h⟩ := h h0
  refine ⟨b, off, sz, rfl, hI m b hb, hsz, hd, fun i hi => ?_⟩
  obtain ⟨es, he, hr, hc⟩ := h i hi
  refine ⟨es, he, RoC.mono hI hw (g i) es hr, fun j hj => ?_⟩
  rw [← hc j hj]
  exact World.cell?_of_block (hw m b hb)
 | .agg xs, cs, h => by
  simp only [RoC] at h ⊢
  exact b9.mono hI hw xs cs h
theorem b9.mono {I I' : Bool → Nat → Prop} {w w' : World} (hI : ∀ m b, I m b → I' m b) (hw : ∀ m b, I m b → w'.heap[b]? = w.heap[b]?) :
  ∀ (xs : List PV) (cs : List Value), b9 I w xs cs → b9 I' w' xs cs
 | [], _, h => h
 | x :: xs, cs, h => by
  simp only [b9] at h ⊢
  obtain ⟨y, ys, rfl, h1, h2⟩ := h
  exact ⟨y, ys, rfl, RoC.mono hI hw x [y] h1, b9.mono hI hw xs ys h2⟩
end
theorem bn.mono {I I' : Bool → Nat → Prop} {w w' : World} (hI : ∀ m b, I m b → I' m b) (hw : ∀ m b, I m b → w'.heap[b]? = w.heap[b]?) {sz : Nat} :
  ∀ (xs : List PV) (cs : List Value), bn I w sz xs cs → bn I' w' sz xs cs
 | [], _, h => h
 | x :: xs, cs, h => by
  obtain ⟨es, r, rfl, hl, h1, h2⟩ := h
  exact ⟨es, r, rfl, hl, RoC.mono hI hw x es h1, bn.mono hI hw xs r h2⟩
theorem RoV.mono {I I' : Bool → Nat → Prop} {w w' : World} (hI : ∀ m b, I m b → I' m b) (hw : ∀ m b, I m b → w'.heap[b]? = w.heap[b]?) {x : PV} {v : Value} (h : RoV I w x v) : RoV I' w' x v := by
 rcases h with ⟨xs, C, rfl, rfl, h⟩ | ⟨hx, h⟩
 ·exact .inl ⟨xs, C, rfl, rfl, b9.mono hI hw _ _ h⟩
 ·exact .inr ⟨hx, RoC.mono hI hw _ _ h⟩
theorem ez.mono {I I' : Bool → Nat → Prop} {w w' : World} (hI : ∀ m b, I m b → I' m b) (hw : ∀ m b, I m b → w'.heap[b]? = w.heap[b]?) {kk : o8} :
  ∀ (xs : List (PV × PV)) (es : List MapEntry), ez I w kk xs es → ez I' w' kk xs es
 | [], _, h => h
 | (k, x) :: xs, es, h => by
  obtain ⟨e, es', rfl, h0, h1, h2, h3⟩ := h
  exact ⟨e, es', rfl, h0, h1.mono hI hw, h2.mono hI hw, ez.mono hI hw xs es' h3⟩
mutual
theorem V.mono {c c' : Cx} (h : Ext c c') : ∀ (x : AV) (v : Value), V c x v → V c' x v
 | .undef, _, _ => by simp only [V]
 | .p x, v, k => by
  simp only [V] at k ⊢
  exact RoC.mono h.J h.jb x [v] k
 | .ptr i o, v, k => by
  simp only [V] at k ⊢
  obtain ⟨hb, b, h1, h2⟩ := k
  exact ⟨h.born i hb, b, (h.β i hb).trans h1, h2⟩
 | .eptr i j o, v, k => by
  simp only [V] at k ⊢
  obtain ⟨hb, b, n, cap, sz, h1, h2⟩ := k
  exact ⟨h.born i hb, b, n, cap, sz, (h.β i hb).trans h1, h2⟩
 | .row i, v, k => by
  simp only [V] at k ⊢
  obtain ⟨hb, a, n, cp, b, h0, h1⟩ := k
  exact ⟨h.born i hb, a, n, cp, b, h0, (h.β i hb).trans h1⟩
 | .map i, v, k => by
  simp only [V] at k ⊢
  obtain ⟨hb, b, h1, h2⟩ := k
  exact ⟨h.born i hb, b, (h.β i hb).trans h1, h2⟩
 | .iter i, v, k => by
  simp only [V] at k ⊢
  obtain ⟨hb, b, h1, h2⟩ := k
  exact ⟨h.born i hb, b, (h.β i hb).trans h1, h2⟩
 | .sub i j, v, k => by
  simp only [V] at k ⊢
  obtain ⟨hb, b, n, cap, sz, h1, h2⟩ := k
  exact ⟨h.born i hb, b, n, cap, sz, (h.β i hb).trans h1, h2⟩
 | .rop cs, v, k => by
  simp only [V] at k ⊢
  obtain ⟨b, o, h1, hb, es, h2, h3⟩ := k
  refine ⟨b, o, h1, h.I b hb, es, b9.mono h.J h.jb cs es h2, fun j hj => ?_⟩
  rw [← h3 j hj]
  exact World.cell?_of_block (h.blocks b hb)
 | .func fn f g, v, k => by
  simp only [V] at k ⊢
  obtain ⟨F, G, rfl, h1, h2⟩ := k
  exact ⟨F, G, rfl, Vs.mono h f _ h1, Vs.mono h g _ h2⟩
 | .agg cs, v, k => by
  simp only [V] at k ⊢
  obtain ⟨C, rfl, h1, h2⟩ := k
  exact ⟨C, rfl, Vs.mono h cs _ h1, h2⟩
 | .tup cs, v, k => by
  simp only [V] at k ⊢
  obtain ⟨C, rfl, h1⟩ := k
  exact ⟨C, rfl, Vs.mono h cs _ h1⟩
 | .iface t x, v, k => by
  simp only [V] at k ⊢
  obtain ⟨y, rfl, h1⟩ := k
  exact ⟨y, rfl, V.mono h x y h1⟩
theorem Vs.mono {c c' : Cx} (h : Ext c c') : ∀ (xs : List AV) (vs : List Value), Vs c xs vs → Vs c' xs vs
 | [], _, k => k
 | x :: xs, vs, k => by
  simp only [Vs] at k ⊢
  obtain ⟨y, ys, rfl, h1, h2⟩ := k
  exact ⟨y, ys, rfl, V.mono h x y h1, Vs.mono h xs ys h2⟩
end
theorem jy {w w' : World} {base e sz : Nat} {v : Value} {n : Nat} {xs : List Value} (h : w.ownsRow base e sz v n xs)
  (hb : ∀ b, v.ownBlock = some b → w'.heap[b]? = w.heap[b]?) : w'.ownsRow base e sz v n xs := by
 refine ⟨h.1, ?_⟩
 rcases h.2 with h2 | ⟨g, cap, cur, rfl, hg, hh, r⟩
 ·exact .inl h2
 ·exact .inr ⟨g, cap, cur, rfl, hg, (hb g rfl).trans hh, r⟩
theorem OR.mono {c c' : Cx} (h : Ext c c') {o : AO} {l : Loc} (hb : ∀ b, l.block = some b → c'.w.heap[b]? = c.w.heap[b]?) (k : OR c o l) : OR c' o l := by
 cases o <;> cases l <;> simp only [OR] at k ⊢
 ·obtain ⟨C, t, h1, h2, h3⟩ := k
  exact ⟨C, t, (hb _ rfl).trans h1, Vs.mono h _ _ h2, h3⟩
 ·obtain ⟨h1, h2, cells, h3, h4⟩ := k
  exact ⟨h1, h2, cells, jy h3 hb, bn.mono h.J h.jb _ _ h4⟩
 ·exact RoC.mono h.J h.jb _ _ k
 ·obtain ⟨E, cl, h1, h2⟩ := k
  exact ⟨E, cl, (hb _ rfl).trans h1, ez.mono h.J h.jb _ _ h2⟩
 ·exact (hb _ rfl).trans k
theorem OR.kj {c c' : Cx} (h : Ext c c') {o : AO} {l : Loc} (hd : dz o = false) (k : OR c o l) : OR c' o l := by
 cases o <;> simp [dz] at hd
 ·cases l <;> simp only [OR]
 ·cases l <;> simp only [OR] at k ⊢
  exact RoC.mono h.J h.jb _ _ k
end Go.RX
namespace Go.RX
def dq (h : HP) : List (Nat × AO) → HP
 | [] => h
 | (i, o) :: r => dq (fun j => if j = i then some o else h j) r
def Names (wr : List (Nat × AO)) (i : Nat) : Prop := ∃ o, (i, o) ∈ wr
def ay (P : Program) (o : Oper) (ρ : Operand → AV) (rd : Nat → AO) (fresh : Nat) (v : AV) (wr : List (Nat × AO)) : Prop :=
 ∀ (c : Cx) (h : HP) (a : Act) (next : Act → World → Prop) (Q : Exit → Act → World → Prop),
  (∀ x ∈ o.op.operands, V c (ρ x) (a.eval x)) →
  (∀ i, rd i ≠ .dead → h i = some (rd i)) →
  (∀ i, fresh ≤ i → Names wr i → ¬ c.born i) →
  HR c h →
  (∀ u c', V c' v u → HR c' (dq h wr) → Ext c c' → Fr c h c' (dq h wr) → (∀ i, c'.born i → c.born i ∨ Names wr i) → next (a.put o.dst u) c'.w) →
  o.wp P a c.w next Q
section
variable {P : Program} {o : Oper} {ρ : Operand → AV} {rd : Nat → AO} {fresh : Nat} {v : AV}
theorem ay.pure (hrun : ∀ (c : Cx) (h : HP) (a : Act), (∀ x ∈ o.op.operands, V c (ρ x) (a.eval x)) → (∀ i, rd i ≠ .dead → h i = some (rd i)) → HR c h →
  ∃ u, (execOp a.eval o).run P c.w = .ok (.value u) c.w ∧ V c v u) : ay P o ρ rd fresh v [] := by
 intro c h a next Q hv hr _ hh hn
 obtain ⟨u, h1, h2⟩ := hrun c h a hv hr hh
 simp only [Oper.wp, h1, Oper.upon_value]
 exact hn u c h2 hh (Ext.refl c) (Fr.refl c h) (fun i hi => .inl hi)
end
def Cx.with (c : Cx) (w : World) : Cx := { c with w := w }
def Cx.grow (c : Cx) (o : Obj) (i : Nat) (l : Loc) : Cx := ⟨fun j => if j = i then l else c.β j, c.I, c.w.alloc o, fun j => c.born j ∨ j = i, c.base⟩
theorem mv {c : Cx} {h : HP} (hh : HR c h) (o : Obj) {i : Nat} (hi : ¬ c.born i) (l : Loc) : Ext c (c.grow o i l) := by
 refine ⟨fun j hj => .inl hj, fun j hj => ?_, fun b hb => hb, fun b hb => ?_, rfl⟩
 ·show (if j = i then l else c.β j) = c.β j
  rw [if_neg (fun e : j = i => hi (e ▸ hj))]
 ·exact Go.RowKit.Below.heap_alloc c.w o b (hh.bound b hb)
theorem dm {h : HP} {i : Nat} {ao : AO} {j : Nat} (hl : Live (dq h [(i, ao)]) j) : (j = i ∧ dz ao = true) ∨ (j ≠ i ∧ Live h j) := by
 obtain ⟨o, h1, h2⟩ := hl
 simp only [dq] at h1
 by_cases e : j = i
 ·rw [if_pos e] at h1
  injection h1 with h1
  exact .inl ⟨e, h1 ▸ h2⟩
 ·rw [if_neg e] at h1
  exact .inr ⟨e, o, h1, h2⟩
theorem qjg {c : Cx} {h : HP} (hh : HR c h) (ob : Obj) {i : Nat} (hi : ¬ c.born i) (l : Loc) (hl : l.block = some c.w.heap.size ∨ l.block = none) (ao : AO) (ho : OR (c.grow ob i l) ao l) :
  HR (c.grow ob i l) (dq h [(i, ao)]) := by
 have hext := mv hh ob hi l
 have hβ : ∀ j, j ≠ i → (c.grow ob i l).β j = c.β j := fun j hj => if_neg hj
 have hβi : (c.grow ob i l).β i = l := if_pos rfl
 have hsz : (c.grow ob i l).w.heap.size = c.w.heap.size + 1 := World.size_alloc _ _
 refine ⟨fun j x hx => ?_, fun j k b hj hk hjb hkb => ?_, fun j b hj hjb => ?_, fun b hb => ?_, fun j b hj hjb => ?_, fun j b hj hjb => ?_, by rw [hsz]; have := hh.base; show c.base ≤ _; omega⟩
 ·simp only [dq] at hx
  by_cases e : j = i
  ·rw [if_pos e] at hx
   injection hx with hx
   subst hx e
   exact ⟨.inr rfl, by rw [hβi]; exact ho⟩
  ·rw [if_neg e] at hx
   obtain ⟨h1, h2⟩ := hh.obj j x hx
   refine ⟨.inl h1, ?_⟩
   rw [hβ j e]
   cases hlv : dz x with
   | false => exact h2.kj hext hlv
   | true => exact h2.mono hext fun b hb => Go.RowKit.Below.heap_alloc c.w ob b (hh.size j b ⟨x, hx, hlv⟩ hb)
 ·rcases dm hj with ⟨e, _⟩ | ⟨e, hj'⟩ <;> rcases dm hk with ⟨f, _⟩ | ⟨f, hk'⟩
  ·rw [e, f]
  ·subst e
   rw [hβi] at hjb
   rw [hβ k f] at hkb
   rcases hl with hl | hl
   ·rw [hl] at hjb
    injection hjb with hjb
    have := hh.size k b hk' hkb
    omega
   ·rw [hl] at hjb; cases hjb
  ·subst f
   rw [hβi] at hkb
   rw [hβ j e] at hjb
   rcases hl with hl | hl
   ·rw [hl] at hkb
    injection hkb with hkb
    have := hh.size j b hj' hjb
    omega
   ·rw [hl] at hkb; cases hkb
  ·rw [hβ j e] at hjb
   rw [hβ k f] at hkb
   exact hh.inj j k b hj' hk' hjb hkb
 ·rcases dm hj with ⟨e, _⟩ | ⟨e, hj'⟩
  ·subst e
   rw [hβi] at hjb
   intro hI
   have := hh.bound b hI
   rcases hl with hl | hl <;> rw [hl] at hjb
   ·injection hjb with hjb
    omega
   ·cases hjb
  ·rw [hβ j e] at hjb
   exact hh.apart j b hj' hjb
 ·rw [hsz]
  have := hh.bound b hb
  omega
 ·rw [hsz]
  rcases dm hj with ⟨e, _⟩ | ⟨e, hj'⟩
  ·subst e
   rw [hβi] at hjb
   rcases hl with hl | hl <;> rw [hl] at hjb
   ·injection hjb with hjb
    omega
   ·cases hjb
  ·rw [hβ j e] at hjb
   have := hh.size j b hj' hjb
   omega
 ·rcases dm hj with ⟨e, _⟩ | ⟨e, hj'⟩
  ·subst e
   rw [hβi] at hjb
   have := hh.base
   show c.base ≤ b
   rcases hl with hl | hl <;> rw [hl] at hjb
   ·injection hjb with hjb
    omega
   ·cases hjb
  ·rw [hβ j e] at hjb
   exact hh.low j b hj' hjb
theorem qjf {c : Cx} {h : HP} (ob : Obj) (i : Nat) (l : Loc) (hl : l.block = some c.w.heap.size ∨ l.block = none) (ao : AO) :
  Fr c h (c.grow ob i l) (dq h [(i, ao)]) := by
 refine ⟨rfl, rfl, rfl, ?_, fun b hb _ => Go.RowKit.Below.heap_alloc c.w ob b hb, fun b hb => hb, fun b hb => .inl hb, fun j b hj hjb => ?_, rfl⟩
 ·show c.w.heap.size ≤ (c.w.alloc ob).heap.size
  rw [World.size_alloc]
  omega
 ·rcases dm hj with ⟨e, _⟩ | ⟨e, hj'⟩
  ·subst e
   have hβi : (c.grow ob j l).β j = l := if_pos rfl
   rw [hβi] at hjb
   rcases hl with hl | hl <;> rw [hl] at hjb
   ·injection hjb with hjb
    exact .inl (by omega)
   ·cases hjb
  ·have hβ : (c.grow ob i l).β j = c.β j := if_neg e
   rw [hβ] at hjb
   exact .inr ⟨j, hj', hjb⟩
theorem ay.grow {P : Program} {o : Oper} {ρ : Operand → AV} {rd : Nat → AO} {fresh : Nat} {v : AV} {ao : AO}
  (hrun : ∀ (c : Cx) (h : HP) (a : Act), (∀ x ∈ o.op.operands, V c (ρ x) (a.eval x)) → (∀ i, rd i ≠ .dead → h i = some (rd i)) → HR c h → ¬ c.born fresh →
   ∃ u ob l, (execOp a.eval o).run P c.w = .ok (.value u) (c.w.alloc ob) ∧ (l.block = some c.w.heap.size ∨ l.block = none) ∧
    V (c.grow ob fresh l) v u ∧ OR (c.grow ob fresh l) ao l) : ay P o ρ rd fresh v [(fresh, ao)] := by
 intro c h a next Q hv hr hf hh hn
 have hb : ¬ c.born fresh := hf fresh (Nat.le_refl _) ⟨ao, by simp⟩
 obtain ⟨u, ob, l, h1, hl, h2, h3⟩ := hrun c h a hv hr hh hb
 simp only [Oper.wp, h1, Oper.upon_value]
 refine hn u _ h2 (qjg hh ob hb l hl ao h3) (mv hh ob hb l) (qjf ob fresh l hl ao) fun i hi => ?_
 rcases hi with hi | hi
 ·exact .inl hi
 ·exact .inr ⟨ao, by simp [hi]⟩
end Go.RX
namespace Go.RX
section
variable {c : Cx} {u : Value}
theorem mh {b : Bool} (h : V c (.p (.bool b)) u) : u = .bool b := by simpa [V, RoC] using h
theorem mi {k : IntKind} {n : Int} (h : V c (.p (.int k n)) u) : u = .int k n := by simpa [V, RoC] using h
theorem u7 {s : ByteArray} (h : V c (.p (.str s)) u) : u = .string s := by simpa [V, RoC] using h
theorem j6 (h : V c (.p .nils) u) : u = .slice none 0 0 := by simpa [V, RoC] using h
theorem cw (b : Bool) : V c (.p (.bool b)) (.bool b) := by simp [V, RoC]
theorem ee (k : IntKind) (n : Int) : V c (.p (.int k n)) (.int k n) := by simp [V, RoC]
theorem qcm (s : ByteArray) : V c (.p (.str s)) (.string s) := by simp [V, RoC]
end
mutual
theorem RoC.one {I : Bool → Nat → Prop} {w : World} : ∀ (x : PV) (y : Value), RoC I w x [y] → y.oneCell' = true
 | .bool _, _, h => by simp [RoC] at h; subst h; rfl
 | .int _ _, _, h => by simp [RoC] at h; subst h; rfl
 | .str _, _, h => by simp [RoC] at h; subst h; rfl
 | .nilp, _, h => by simp [RoC] at h; subst h; rfl
 | .nils, _, h => by simp [RoC] at h; subst h; rfl
 | .nilm, _, h => by simp [RoC] at h; subst h; rfl
 | .nilf, _, h => by simp [RoC] at h; subst h; rfl
 | .nili, _, h => by simp [RoC] at h; subst h; rfl
 | .fnc _, _, h => by simp [RoC] at h; subst h; rfl
 | .arr _ _ _, _, h => by
  simp only [RoC] at h
  obtain ⟨a, c, h, _⟩ := h
  simp at h
  subst h
  rfl
 | .agg xs, y, h => by
  simp only [RoC] at h
  exact b9.yo xs [y] h y (by simp)
theorem b9.yo {I : Bool → Nat → Prop} {w : World} : ∀ (xs : List PV) (ys : List Value), b9 I w xs ys → ∀ y ∈ ys, y.oneCell' = true
 | [], ys, h => by simp [b9] at h; subst h; simp
 | x :: xs, ys, h => by
  simp only [b9] at h
  obtain ⟨y, r, rfl, h1, h2⟩ := h
  intro z hz
  rcases List.mem_cons.1 hz with rfl | hz
  ·exact RoC.one x z h1
  ·exact b9.yo xs r h2 z hz
end
theorem b9.length {I : Bool → Nat → Prop} {w : World} : ∀ {xs : List PV} {ys : List Value}, b9 I w xs ys → ys.length = xs.length
 | [], ys, h => by simp [b9] at h; subst h; rfl
 | x :: xs, ys, h => by
  simp only [b9] at h
  obtain ⟨y, r, rfl, _, h2⟩ := h
  simp [b9.length h2]
theorem Vs.length {c : Cx} : ∀ {xs : List AV} {ys : List Value}, Vs c xs ys → ys.length = xs.length
 | [], ys, h => by simp [Vs] at h; subst h; rfl
 | x :: xs, ys, h => by
  simp only [Vs] at h
  obtain ⟨y, r, rfl, _, h2⟩ := h
  simp [Vs.length h2]
theorem c6 {c : Cx} : ∀ (xs : List PV) (ys : List Value), Vs c (xs.map .p) ys ↔ b9 c.J c.w xs ys
 | [], ys => by simp [Vs, b9]
 | x :: xs, ys => by
  simp only [List.map_cons, Vs, b9, V]
  constructor
  ·rintro ⟨y, r, rfl, h1, h2⟩; exact ⟨y, r, rfl, h1, (c6 xs r).1 h2⟩
  ·rintro ⟨y, r, rfl, h1, h2⟩; exact ⟨y, r, rfl, h1, (c6 xs r).2 h2⟩
theorem Vs.append {c : Cx} : ∀ {xs ys : List AV} {us vs : List Value}, Vs c xs us → Vs c ys vs → Vs c (xs ++ ys) (us ++ vs)
 | [], ys, us, vs, h, k => by simp [Vs] at h; subst h; simpa using k
 | x :: xs, ys, us, vs, h, k => by
  simp only [Vs] at h
  obtain ⟨y, r, rfl, h1, h2⟩ := h
  simp only [List.cons_append, Vs]
  exact ⟨y, r ++ vs, rfl, h1, Vs.append h2 k⟩
theorem Vs.drop {c : Cx} : ∀ {xs : List AV} {us : List Value} (n : Nat), Vs c xs us → Vs c (xs.drop n) (us.drop n)
 | _, _, 0, h => h
 | [], us, n + 1, h => by simp [Vs] at h; subst h; simp [Vs]
 | x :: xs, us, n + 1, h => by
  simp only [Vs] at h
  obtain ⟨y, r, rfl, _, h2⟩ := h
  simpa using Vs.drop n h2
theorem Vs.take {c : Cx} : ∀ {xs : List AV} {us : List Value} (n : Nat), Vs c xs us → Vs c (xs.take n) (us.take n)
 | _, _, 0, _ => by simp [Vs]
 | [], us, n + 1, h => by simp [Vs] at h; subst h; simp [Vs]
 | x :: xs, us, n + 1, h => by
  simp only [Vs] at h
  obtain ⟨y, r, rfl, h1, h2⟩ := h
  simp only [List.take_succ_cons, Vs]
  exact ⟨y, _, rfl, h1, Vs.take n h2⟩
theorem Vs.get {c : Cx} : ∀ {xs : List AV} {us : List Value} (i : Nat), Vs c xs us → ∀ x, xs[i]? = some x → ∃ u, us[i]? = some u ∧ V c x u
 | [], us, i, h, x, hx => by simp at hx
 | x :: xs, us, 0, h, z, hz => by
  simp only [Vs] at h
  obtain ⟨y, r, rfl, h1, _⟩ := h
  simp at hz
  subst hz
  exact ⟨y, rfl, h1⟩
 | x :: xs, us, i + 1, h, z, hz => by
  simp only [Vs] at h
  obtain ⟨y, r, rfl, _, h2⟩ := h
  simp at hz
  obtain ⟨u, h3, h4⟩ := Vs.get i h2 z hz
  exact ⟨u, by simpa using h3, h4⟩
theorem m6 {I : Bool → Nat → Prop} {w : World} {v : Value} {x : PV} (h : ofConst v = some x) : RoC I w x [v] := by
 unfold ofConst at h
 split at h <;> first | (injection h with h; subst h; simp [RoC]) | cases h
theorem lh {I : Bool → Nat → Prop} {w : World} : ∀ {vs : List Value} {xs : List PV}, jj vs = some xs → b9 I w xs vs
 | [], xs, h => by simp [jj] at h; subst h; simp [b9]
 | v :: vs, xs, h => by
  simp only [jj] at h
  split at h
  ·rename_i x ys h1 h2
   injection h with h
   subst h
   simp only [b9]
   exact ⟨v, vs, rfl, m6 h1, lh h2⟩
  ·cases h
theorem qc3 (c : Cx) (v : Value) : V c (tw v) v := by
 unfold tw
 split
 ·rename_i C
  split
  ·rename_i xs h
   simp only [V]
   have hr := lh (I := c.J) (w := c.w) h
   exact ⟨C, rfl, (c6 xs _).2 hr, b9.yo xs _ hr⟩
  ·simp [V]
 ·split
  ·rename_i x h
   simp only [V]
   exact m6 h
  ·simp [V]
theorem rn {P : Program} {t : TypeId} {zs : List PV} (h : zeroCells P t = some zs) :
  ∃ z, r9 P t = some z ∧ ∀ (I : Bool → Nat → Prop) (w : World), b9 I w zs z.cells.toList := by
 unfold zeroCells at h
 split at h
 ·rename_i C hz
  exact ⟨_, hz, fun I w => by simpa [Value.cells] using lh h⟩
 ·rename_i v hna hz
  cases hv : ofConst v with
  | none => simp [hv] at h
  | some x =>
   simp [hv] at h
   subst h
   refine ⟨v, hz, fun I w => ?_⟩
   have hc : v.cells = #[v] := by
    cases v <;> simp [ofConst] at hv <;> rfl
   rw [hc]
   simp only [b9]
   exact ⟨v, [], rfl, m6 hv, rfl⟩
 ·cases h
theorem ev {P : Program} {t : TypeId} {z : Value} (h : r9 P t = some z) (w : World) : (zeroValue t).run P w = .ok z w := by
 unfold r9 at h
 cases hi : P.info? t with
 | none => simp [hi] at h
 | some i =>
  simp [hi] at h
  simp [zeroValue, typeInfo, hi, h]
theorem bz {P : Program} {t : TypeId} {n : Nat} (h : bx P t = some n) (w : World) : (sizeOf t).run P w = .ok n w := by
 unfold bx at h
 cases hi : P.info? t with
 | none => simp [hi] at h
 | some i =>
  simp [hi] at h
  simp [sizeOf, typeInfo, hi, h]
theorem i7 {P : Program} {t : TypeId} {b : Bool} (h : b7 P t = some b) (w : World) : (isAgg t).run P w = .ok b w := by
 unfold b7 at h
 cases hu : P.underlying t with
 | none => simp [hu] at h
 | some d =>
  simp only [isAgg, Sem.run_bind, run_underlying hu, Result.andThen_ok]
  rw [hu] at h
  split at h
  ·injection h with h; subst h; simp_all
  ·injection h with h; subst h; simp_all
  ·rename_i hne1 hne2 heq
   injection heq with heq
   subst heq
   injection h with h
   subst h
   cases d <;> first | rfl | (exfalso; first | exact hne1 _ rfl | exact hne2 _ _ rfl)
  ·cases h
section
variable {P : Program} {ρ : Operand → AV} {rd : Nat → AO} {fresh : Nat} {dst : Option Tmp} {ty : TypeId} {pos : String} {after : Array Edge} {guard : Option (Nat × Bool)}
theorem qhd (x : Operand) : ay P ⟨dst, .move x, ty, pos, after, guard⟩ ρ rd fresh (ρ x) [] :=
 ay.pure fun c h a hv _ _ => ⟨a.eval x, by simp [execOp], hv x (by simp [Op.operands])⟩
theorem qb0 (x : Operand) : ay P ⟨dst, .assign x, ty, pos, after, guard⟩ ρ rd fresh (ρ x) [] :=
 ay.pure fun c h a hv _ _ => ⟨a.eval x, by simp [execOp], hv x (by simp [Op.operands])⟩
theorem qa0 (x y z : Operand) (b : Bool) (hb : ρ x = .p (.bool b)) : ay P ⟨dst, .pick x y z, ty, pos, after, guard⟩ ρ rd fresh (match b with | true => ρ y | false => ρ z) [] :=
 ay.pure fun c h a hv _ _ => by
  have h1 := hv x (by simp [Op.operands])
  rw [hb] at h1
  have h2 := mh h1
  cases b
  ·exact ⟨a.eval z, by simp [execOp, h2, asBool], hv z (by simp [Op.operands])⟩
  ·exact ⟨a.eval y, by simp [execOp, h2, asBool], hv y (by simp [Op.operands])⟩
theorem qek (t : TypeId) (zs : List PV) (hz : zeroCells P t = some zs) : ay P ⟨dst, .alloc t, ty, pos, after, guard⟩ ρ rd fresh (.ptr fresh 0) [(fresh, .box (zs.map .p))] :=
 ay.grow fun c h a hv _ _ hb => by
  obtain ⟨z, h1, h2⟩ := rn hz
  refine ⟨.pointer (some ⟨c.w.heap.size, 0, none⟩), .cells z.cells t, .blk c.w.heap.size, ?_, .inl rfl, ?_, ?_⟩
  ·simp [execOp, Instr.alloc, ev h1, newVar, newRow]
  ·simp only [V]
   exact ⟨.inr rfl, c.w.heap.size, if_pos rfl, rfl⟩
  ·simp only [OR]
   have hr := h2 (c.grow (.cells z.cells t) fresh (.blk c.w.heap.size)).J (c.w.alloc (.cells z.cells t))
   exact ⟨z.cells, t, heap_alloc_new _ _, (c6 zs _).2 hr, b9.yo zs _ hr⟩
theorem ti {c : Cx} {x : AV} {u : Value} {cs : List AV} (h : V c x u) (hc : cellsOf x = some cs) : Vs c cs u.cells.toList ∧ ∀ y ∈ u.cells.toList, y.oneCell' = true := by
 have one : u.cells = #[u] → u.oneCell' = true → cs = [x] → Vs c cs u.cells.toList ∧ ∀ y ∈ u.cells.toList, y.oneCell' = true := by
  rintro h1 h2 rfl
  rw [h1]
  refine ⟨?_, by simpa using h2⟩
  simp only [Vs]
  exact ⟨u, [], rfl, h, rfl⟩
 cases x with
 | undef => simp [cellsOf] at hc
 | tup vs => simp [cellsOf] at hc
 | agg as =>
  simp [cellsOf] at hc
  subst hc
  simp only [V] at h
  obtain ⟨C, rfl, h1, h2⟩ := h
  exact ⟨h1, h2⟩
 | p x =>
  have h1 : u.oneCell' = true := by
   simp only [V] at h
   exact RoC.one x u h
  exact one (by cases u <;> simp [Value.oneCell'] at h1 <;> rfl) h1 (by simpa [cellsOf] using hc.symm)
 | ptr i o => have h0 := h; simp only [V] at h0; obtain ⟨_, b, _, rfl⟩ := h0; exact one rfl rfl (by simpa [cellsOf] using hc.symm)
 | eptr i j o => have h0 := h; simp only [V] at h0; obtain ⟨_, b, n, cp, sz, _, _, rfl⟩ := h0; exact one rfl rfl (by simpa [cellsOf] using hc.symm)
 | sub i j => have h0 := h; simp only [V] at h0; obtain ⟨_, b, n, cp, sz, _, _, rfl⟩ := h0; exact one rfl rfl (by simpa [cellsOf] using hc.symm)
 | rop ps => have h0 := h; simp only [V] at h0; obtain ⟨b, o, rfl, _⟩ := h0; exact one rfl rfl (by simpa [cellsOf] using hc.symm)
 | map i => have h0 := h; simp only [V] at h0; obtain ⟨_, b, _, rfl⟩ := h0; exact one rfl rfl (by simpa [cellsOf] using hc.symm)
 | iter i => have h0 := h; simp only [V] at h0; obtain ⟨_, b, _, rfl⟩ := h0; exact one rfl rfl (by simpa [cellsOf] using hc.symm)
 | row i => have h0 := h; simp only [V] at h0; obtain ⟨_, a, n, cp, sz, rfl, _⟩ := h0; exact one rfl rfl (by simpa [cellsOf] using hc.symm)
 | func fn f g => have h0 := h; simp only [V] at h0; obtain ⟨F, G, rfl, _⟩ := h0; exact one rfl rfl (by simpa [cellsOf] using hc.symm)
 | iface t y => have h0 := h; simp only [V] at h0; obtain ⟨y, rfl, _⟩ := h0; exact one rfl rfl (by simpa [cellsOf] using hc.symm)
theorem qj8 (t : TypeId) (x : Operand) (cs : List AV) (hx : cellsOf (ρ x) = some cs) : ay P ⟨dst, .box t x, ty, pos, after, guard⟩ ρ rd fresh (.ptr fresh 0) [(fresh, .box cs)] :=
 ay.grow fun c h a hv _ hh hb => by
  have h1 := ti (hv x (by simp [Op.operands])) hx
  refine ⟨.pointer (some ⟨c.w.heap.size, 0, none⟩), .cells (a.eval x).cells t, .blk c.w.heap.size, ?_, .inl rfl, ?_, ?_⟩
  ·simp [execOp, Instr.box, newVar, newRow]
  ·simp only [V]
   exact ⟨.inr rfl, c.w.heap.size, if_pos rfl, rfl⟩
  ·simp only [OR]
   exact ⟨(a.eval x).cells, t, heap_alloc_new _ _, Vs.mono (mv hh _ hb _) _ _ h1.1, h1.2⟩
theorem iq (x : Operand) (v : AV) (hx : ρ x = v) (hk : (∃ i o, v = .ptr i o) ∨ (∃ i j o, v = .eptr i j o) ∨ (∃ cs, v = .rop cs) ∨ (∃ f A B, v = .func (.func f) A B)) :
  ay P ⟨dst, .nilCheck x, ty, pos, after, guard⟩ ρ rd fresh v [] :=
 ay.pure fun c h a hv _ _ => by
  have h1 := hv x (by simp [Op.operands])
  rw [hx] at h1
  refine ⟨a.eval x, ?_, h1⟩
  rcases hk with ⟨i, o, rfl⟩ | ⟨i, j, o, rfl⟩ | ⟨cs, rfl⟩ | ⟨f, A, B, rfl⟩ <;> simp only [V] at h1
  ·obtain ⟨_, b, _, h2⟩ := h1; simp [execOp, h2]
  ·obtain ⟨_, b, n, cp, sz, _, _, h2⟩ := h1; simp [execOp, h2]
  ·obtain ⟨b, o, h2, _⟩ := h1; simp [execOp, h2]
  ·obtain ⟨F, G, h2, _⟩ := h1; simp [execOp, h2]
theorem wt (fn : Fn) (f g : Array Operand) : ay P ⟨dst, .makeFunc fn f g, ty, pos, after, guard⟩ ρ rd fresh (.func fn (f.toList.map ρ) (g.toList.map ρ)) [] :=
 ay.pure fun c h a hv _ _ => by
  have all : ∀ l : List Operand, (∀ x ∈ l, V c (ρ x) (a.eval x)) → Vs c (l.map ρ) (l.map a.eval) := by
   intro l
   induction l with
   | nil => intro _; simp [Vs]
   | cons x l ih =>
    intro hl
    simp only [List.map_cons, Vs]
    exact ⟨_, _, rfl, hl x (by simp), ih fun y hy => hl y (by simp [hy])⟩
  refine ⟨.func fn (f.map a.eval) (g.map a.eval), by simp [execOp, Instr.makeFunc], ?_⟩
  simp only [V]
  refine ⟨_, _, rfl, ?_, ?_⟩
  ·simpa using all f.toList fun x hx => hv x (by simp only [Op.operands, Array.mem_append]; exact .inl (by simpa using hx))
  ·simpa using all g.toList fun x hx => hv x (by simp only [Op.operands, Array.mem_append]; exact .inr (by simpa using hx))
theorem yx (t : TypeId) (kk : o8) : ay P ⟨dst, .makeMap t none, ty, pos, after, guard⟩ ρ rd fresh (.map fresh) [(fresh, .map kk [])] :=
 ay.grow fun c h a hv _ hh hb => by
  refine ⟨.map (some c.w.heap.size), .map #[] 0, .blk c.w.heap.size, ?_, .inl rfl, ?_, ?_⟩
  ·simp [execOp, Instr.makeMap]
  ·simp only [V]
   exact ⟨.inr rfl, c.w.heap.size, if_pos rfl, rfl⟩
  ·simp only [OR]
   exact ⟨#[], 0, heap_alloc_new _ _, by simp [ez]⟩
theorem qeo (t : TypeId) (x : Operand) (s : ByteArray) (hx : ρ x = .p (.str s)) (ht : P.underlying t = some .string) :
  ay P ⟨dst, .range t x, ty, pos, after, guard⟩ ρ rd fresh (.iter fresh) [(fresh, .iter s 0)] :=
 ay.grow fun c h a hv _ hh hb => by
  have h1 := hv x (by simp [Op.operands])
  rw [hx] at h1
  have h2 := u7 h1
  refine ⟨.pointer (some ⟨c.w.heap.size, 0, none⟩), .stringIter s 0, .blk c.w.heap.size, ?_, .inl rfl, ?_, ?_⟩
  ·simp [execOp, Instr.range, run_underlying ht, h2]
  ·simp only [V]
   exact ⟨.inr rfl, c.w.heap.size, if_pos rfl, rfl⟩
  ·simp only [OR]
   exact heap_alloc_new _ _
theorem yw (x : Operand) (i : Nat) (vs : List AV) (v : AV) (hx : ρ x = .tup vs) (hi : vs[i]? = some v) : ay P ⟨dst, .extract x i, ty, pos, after, guard⟩ ρ rd fresh v [] :=
 ay.pure fun c h a hv _ _ => by
  have h1 := hv x (by simp [Op.operands])
  rw [hx] at h1
  simp only [V] at h1
  obtain ⟨C, h2, h3⟩ := h1
  obtain ⟨u, h4, h5⟩ := Vs.get i h3 v hi
  refine ⟨u, ?_, h5⟩
  have h6 : C[i]? = some u := by simpa using h4
  simp [execOp, Instr.extract, h2, h6]
end
end Go.RX
namespace Go.RX
def fl (P : Program) (plain : bf) : Prop :=
 ∀ t us vs b, plain t us vs = some b → P.eqGuardType P.depth t = false ∧
  ∀ (X Y : List Value) (I : Bool → Nat → Prop) (w : World), b9 I w us X → b9 I w vs Y →
   (Op.equal t (.agg X.toArray) (.agg Y.toArray)).run P w = .ok b w
section
variable {P : Program} {ρ : Operand → AV} {rd : Nat → AO} {fresh : Nat} {dst : Option Tmp} {ty : TypeId} {pos : String} {after : Array Edge} {guard : Option (Nat × Bool)}
theorem qi {op : BinOp} {k : IntKind} {a b : Int} {K : AV → Prop} (h : yd op k a b K) :
  ∃ v, K v ∧ ∃ u, (∀ (c : Cx), V c v u) ∧ ∀ (t : TypeId) (w : World), (binOp op t (.int k a) (.int k b)).run P w = .ok u w := by
 unfold yd at h
 split at h
 ·exact ⟨_, h, _, fun c => ee _ _, fun t w => by simp [binOp, Op.intArith]⟩
 ·exact ⟨_, h, _, fun c => ee _ _, fun t w => by simp [binOp, Op.intArith]⟩
 ·exact ⟨_, h, _, fun c => ee _ _, fun t w => by simp [binOp, Op.intArith]⟩
 ·exact ⟨_, h.2, _, fun c => ee _ _, fun t w => by simp [binOp, Op.intDiv, h.1]⟩
 ·exact ⟨_, h.2, _, fun c => ee _ _, fun t w => by simp [binOp, Op.intDiv, h.1]⟩
 ·exact ⟨_, h, _, fun c => cw _, fun t w => by simp [binOp, Op.intCmp]⟩
 ·exact ⟨_, h, _, fun c => cw _, fun t w => by simp [binOp, Op.intCmp]⟩
 ·exact ⟨_, h, _, fun c => cw _, fun t w => by simp [binOp, Op.intCmp]⟩
 ·exact ⟨_, h, _, fun c => cw _, fun t w => by simp [binOp, Op.intCmp]⟩
 ·exact ⟨_, h, _, fun c => cw _, fun t w => by simp [binOp, Op.intCmp]⟩
 ·exact ⟨_, h, _, fun c => cw _, fun t w => by simp [binOp, Op.intCmp]⟩
 ·exact ⟨_, h.2, _, fun c => ee _ _, fun t w => by simp [binOp, Op.shift, show ¬ b < 0 from by omega]⟩
 ·exact ⟨_, h.2, _, fun c => ee _ _, fun t w => by simp [binOp, Op.shift, show ¬ b < 0 from by omega]⟩
 ·exact h.elim
theorem rf {op : BinOp} {k k' : IntKind} {a b : Int} (hop : op = .shl ∨ op = .shr) (t : TypeId) (w : World) :
  (binOp op t (.int k a) (.int k' b)).run P w = (binOp op t (.int k a) (.int k b)).run P w := by
 rcases hop with rfl | rfl <;> simp [binOp, Op.shift]
theorem qew {op : BinOp} {a b : ByteArray} {K : AV → Prop} (h : y8 op a b K) :
  ∃ v, K v ∧ ∃ u, (∀ (c : Cx), V c v u) ∧ ∀ (t : TypeId) (w : World), (binOp op t (.string a) (.string b)).run P w = .ok u w := by
 unfold y8 at h
 split at h
 ·have : ¬ ((IntKind.max .i64) < ((a.size + b.size : Nat) : Int)) := by
   have h9 : IntKind.max .i64 = 9223372036854775807 := by decide
   rw [h9]
   omega
  refine ⟨_, h.2, _, fun c => qcm _, fun t w => ?_⟩
  simp only [binOp, Op.stringOp, gt_iff_lt, if_neg this]
  rfl
 ·exact ⟨_, h, _, fun c => cw _, fun t w => by simp [binOp, Op.stringOp]⟩
 ·exact ⟨_, h, _, fun c => cw _, fun t w => by simp [binOp, Op.stringOp]⟩
 ·exact ⟨_, h, _, fun c => cw _, fun t w => by simp [binOp, Op.stringOp]⟩
 ·exact ⟨_, h, _, fun c => cw _, fun t w => by simp [binOp, Op.stringOp]⟩
 ·exact ⟨_, h, _, fun c => cw _, fun t w => by simp [binOp, Op.stringOp]⟩
 ·exact ⟨_, h, _, fun c => cw _, fun t w => by simp [binOp, Op.stringOp]⟩
 ·exact h.elim
theorem fj : ∀ {cs : List AV} {xs : List PV}, bw cs = some xs → cs = xs.map .p
 | [], xs, h => by simp [bw] at h; subst h; rfl
 | .p x :: r, xs, h => by
  simp only [bw, Option.map_eq_some_iff] at h
  obtain ⟨ys, h1, rfl⟩ := h
  simp [fj h1]
 | .undef :: _, _, h => by simp [bw] at h
 | .ptr _ _ :: _, _, h => by simp [bw] at h
 | .eptr _ _ _ :: _, _, h => by simp [bw] at h
 | .rop _ :: _, _, h => by simp [bw] at h
 | .row _ :: _, _, h => by simp [bw] at h
 | .map _ :: _, _, h => by simp [bw] at h
 | .iter _ :: _, _, h => by simp [bw] at h
 | .sub _ _ :: _, _, h => by simp [bw] at h
 | .func _ _ _ :: _, _, h => by simp [bw] at h
 | .agg _ :: _, _, h => by simp [bw] at h
 | .tup _ :: _, _, h => by simp [bw] at h
 | .iface _ _ :: _, _, h => by simp [bw] at h
theorem kg {op : BinOp} {b : Bool} (h : isEq op = some b) : (op = .eql ∧ b = true) ∨ (op = .neq ∧ b = false) := by
 cases op <;> simp [isEq] at h <;> simp [h]
theorem xr (op : BinOp) (t : TypeId) (x y : Operand) (k : IntKind) (n : Int) (v : Value) (w : World) : (eqGuard op t x y (.int k n) v).run P w = .ok () w := by
 cases op <;> simp [eqGuard]
theorem xu (op : BinOp) (t : TypeId) (x y : Operand) (s : ByteArray) (v : Value) (w : World) : (eqGuard op t x y (.string s) v).run P w = .ok () w := by
 cases op <;> simp [eqGuard]
theorem vj (op : BinOp) (t : TypeId) (x y : Operand) (b : Bool) (v : Value) (w : World) : (eqGuard op t x y (.bool b) v).run P w = .ok () w := by
 cases op <;> simp [eqGuard]
theorem rb {plain : bf} (hpl : fl P plain) (op : BinOp) (t yt : TypeId) (x y : Operand) {K : AV → Prop} (h : qk1 P plain op t (ρ x) (ρ y) K) :
  ∃ v, K v ∧ ay P ⟨dst, .binOp op t x y yt, ty, pos, after, guard⟩ ρ rd fresh v [] := by
 unfold qk1 at h
 split at h
 ·rename_i k a k' b hx hy
  have key : ∃ v, K v ∧ ∃ u, (∀ (c : Cx), V c v u) ∧ ∀ (w : World), (binOp op t (.int k a) (.int k' b)).run P w = .ok u w := by
   split at h
   ·obtain ⟨v, hk, u, h1, h2⟩ := qi (P := P) h
    exact ⟨v, hk, u, h1, fun w => by rw [rf (.inl rfl)]; exact h2 t w⟩
   ·obtain ⟨v, hk, u, h1, h2⟩ := qi (P := P) h
    exact ⟨v, hk, u, h1, fun w => by rw [rf (.inr rfl)]; exact h2 t w⟩
   ·split at h
    ·rename_i hd
     have hkk : k = k' := of_decide_eq_true hd
     subst hkk
     obtain ⟨v, hk, u, h1, h2⟩ := qi (P := P) h
     exact ⟨v, hk, u, h1, fun w => h2 t w⟩
    ·exact h.elim
  obtain ⟨v, hk, u, h1, h2⟩ := key
  refine ⟨v, hk, ay.pure fun c hp a' hv _ _ => ⟨u, ?_, h1 c⟩⟩
  have e1 := hv x (by simp [Op.operands])
  have e2 := hv y (by simp [Op.operands])
  rw [hx] at e1
  rw [hy] at e2
  have e3 := mi e1
  have e4 := mi e2
  simp [execOp, e3, e4, xr, h2]
 ·rename_i a b hx hy
  obtain ⟨v, hk, u, h1, h2⟩ := qew (P := P) h
  refine ⟨v, hk, ay.pure fun c hp a' hv _ _ => ⟨u, ?_, h1 c⟩⟩
  have e1 := hv x (by simp [Op.operands])
  have e2 := hv y (by simp [Op.operands])
  rw [hx] at e1
  rw [hy] at e2
  have e3 := u7 e1
  have e4 := u7 e2
  simp [execOp, e3, e4, xu, h2]
 ·rename_i a b hx hy
  have key : ∃ v, K v ∧ ∃ u, (∀ (c : Cx), V c v u) ∧ ∀ (w : World), (binOp op t (.bool a) (.bool b)).run P w = .ok u w := by
   split at h
   ·rename_i hu e
    rcases kg e with ⟨rfl, _⟩ | ⟨_, e⟩
    ·exact ⟨_, h, _, fun c => cw _, fun w => by simp only [binOp]; simp [run_equal_bool w t a b hu]⟩
    ·cases e
   ·rename_i hu e
    rcases kg e with ⟨_, e⟩ | ⟨rfl, _⟩
    ·cases e
    ·exact ⟨_, h, _, fun c => cw _, fun w => by simp only [binOp]; simp [run_equal_bool w t a b hu]⟩
   ·exact h.elim
  obtain ⟨v, hk, u, h1, h2⟩ := key
  refine ⟨v, hk, ay.pure fun c hp a' hv _ _ => ⟨u, ?_, h1 c⟩⟩
  have e1 := hv x (by simp [Op.operands])
  have e2 := hv y (by simp [Op.operands])
  rw [hx] at e1
  rw [hy] at e2
  have e3 := mh e1
  have e4 := mh e2
  simp [execOp, e3, e4, vj, h2]
 ·rename_i xs ys hx hy
  split at h
  ·rename_i us vs hus hvs
   have key : ∃ b, plain t us vs = some b ∧ ((op = .eql ∧ K (.p (.bool b))) ∨ (op = .neq ∧ K (.p (.bool (!b))))) := by
    split at h
    ·rename_i b e1 e2
     rcases kg e1 with ⟨rfl, _⟩ | ⟨_, e⟩
     ·exact ⟨b, e2, .inl ⟨rfl, h⟩⟩
     ·cases e
    ·rename_i b e1 e2
     rcases kg e1 with ⟨_, e⟩ | ⟨rfl, _⟩
     ·cases e
     ·exact ⟨b, e2, .inr ⟨rfl, h⟩⟩
    ·exact h.elim
   obtain ⟨b, hb, hk⟩ := key
   obtain ⟨hg, heq⟩ := hpl t us vs b hb
   have h1 := fj hus
   have h2 := fj hvs
   subst h1 h2
   have run : ∀ (c : Cx) (X Y : Value), V c (.agg (us.map .p)) X → V c (.agg (vs.map .p)) Y → ∃ A B, X = .agg A ∧ Y = .agg B ∧ (Op.equal t (.agg A) (.agg B)).run P c.w = .ok b c.w := by
    intro c X Y hX hY
    simp only [V] at hX hY
    obtain ⟨A, rfl, hA, _⟩ := hX
    obtain ⟨B, rfl, hB, _⟩ := hY
    exact ⟨A, B, rfl, rfl, by simpa using heq A.toList B.toList c.J c.w ((c6 _ _).1 hA) ((c6 _ _).1 hB)⟩
   rcases hk with ⟨rfl, hk⟩ | ⟨rfl, hk⟩
   ·refine ⟨_, hk, ay.pure fun c hp a' hv _ _ => ⟨.bool b, ?_, cw b⟩⟩
    have e1 := hv x (by simp [Op.operands])
    have e2 := hv y (by simp [Op.operands])
    rw [hx] at e1
    rw [hy] at e2
    obtain ⟨A, B, e3, e4, e5⟩ := run c _ _ e1 e2
    simp only [execOp, e3, e4, Sem.run_bind, run_eqGuard_agg _ _ _ _ _ _ _ hg, Result.andThen_ok, binOp, e5, Sem.run_pure]
   ·refine ⟨_, hk, ay.pure fun c hp a' hv _ _ => ⟨.bool (!b), ?_, cw _⟩⟩
    have e1 := hv x (by simp [Op.operands])
    have e2 := hv y (by simp [Op.operands])
    rw [hx] at e1
    rw [hy] at e2
    obtain ⟨A, B, e3, e4, e5⟩ := run c _ _ e1 e2
    simp only [execOp, e3, e4, Sem.run_bind, run_eqGuard_agg _ _ _ _ _ _ _ hg, Result.andThen_ok, binOp, e5, Sem.run_pure]
  ·exact h.elim
 ·exact h.elim
theorem qmq (op : UnOp) (xt : TypeId) (x : Operand) {K : AV → Prop} (h : unA op (ρ x) K) :
  ∃ v, K v ∧ ay P ⟨dst, .unOp op xt x, ty, pos, after, guard⟩ ρ rd fresh v [] := by
 unfold unA at h
 split at h
 ·rename_i b hx
  refine ⟨_, h, ay.pure fun c hp a hv _ _ => ⟨.bool (!b), ?_, cw _⟩⟩
  have e1 := hv x (by simp [Op.operands])
  rw [hx] at e1
  simp [execOp, mh e1, Op.unary]
 ·rename_i k n hx
  refine ⟨_, h, ay.pure fun c hp a hv _ _ => ⟨.int k (k.wrap (0 - n)), ?_, ee _ _⟩⟩
  have e1 := hv x (by simp [Op.operands])
  rw [hx] at e1
  simp [execOp, mi e1, Op.unary, Op.intArith]
 ·exact h.elim
theorem qhb (s d : TypeId) (x : Operand) {K : AV → Prop} (h : qi3 P s d (ρ x) K) :
  ∃ v, K v ∧ ay P ⟨dst, .convert s d x, ty, pos, after, guard⟩ ρ rd fresh v [] := by
 unfold qi3 at h
 split at h
 ·rename_i j k k' n h1 h2 hx
  refine ⟨_, h, ay.pure fun c hp a hv _ _ => ⟨.int k (k.wrap n), ?_, ee _ _⟩⟩
  have e1 := hv x (by simp [Op.operands])
  rw [hx] at e1
  simp [execOp, mi e1, convert, run_underlying h1, run_underlying h2, Conv.intToInt]
 ·rename_i t h1 h2 hx
  refine ⟨_, h, ay.pure fun c hp a hv _ _ => ⟨.string t, ?_, qcm _⟩⟩
  have e1 := hv x (by simp [Op.operands])
  rw [hx] at e1
  simp [execOp, u7 e1, convert, run_underlying h1, run_underlying h2]
 ·exact h.elim
theorem x2 {t : TypeId} {f off n : Nat} (h : fieldAt P t f = some (off, n)) :
  ∃ (fs : Array Field) (fd : Field), P.underlying t = some (.struct fs) ∧ fs[f]? = some fd ∧ fd.offset = off ∧ bx P fd.type = some n := by
 unfold fieldAt qe at h
 cases hu : P.underlying t with
 | none => simp [hu] at h
 | some d =>
  cases d <;> simp [hu] at h
  rename_i fs
  cases hf : fs[f]? with
  | none => simp [hf] at h
  | some fd =>
   simp [hf] at h
   exact ⟨fs, fd, rfl, hf, h.2, h.1⟩
theorem q8 {fd : Field} {n : Nat} (hn : bx P fd.type = some n) (h0 : n ≠ 0) (a : Addr) (w : World) : (fieldPlace a fd).run P w = .ok (a.add fd.offset) w := by
 simp [fieldPlace, bz hn, h0]
theorem fv (b o n : Nat) : (⟨b, o, none⟩ : Addr).add n = ⟨b, o + n, none⟩ := by
 unfold Addr.add
 split <;> simp_all
theorem b9.drop {I : Bool → Nat → Prop} {w : World} : ∀ {xs : List PV} {us : List Value} (n : Nat), b9 I w xs us → b9 I w (xs.drop n) (us.drop n)
 | _, _, 0, h => h
 | [], us, n + 1, h => by simp [b9] at h; subst h; simp [b9]
 | x :: xs, us, n + 1, h => by
  simp only [b9] at h
  obtain ⟨y, r, rfl, _, h2⟩ := h
  simpa using b9.drop n h2
theorem b9.take {I : Bool → Nat → Prop} {w : World} : ∀ {xs : List PV} {us : List Value} (n : Nat), b9 I w xs us → b9 I w (xs.take n) (us.take n)
 | _, _, 0, _ => by simp [b9]
 | [], us, n + 1, h => by simp [b9] at h; subst h; simp [b9]
 | x :: xs, us, n + 1, h => by
  simp only [b9] at h
  obtain ⟨y, r, rfl, h1, h2⟩ := h
  simp only [List.take_succ_cons, b9]
  exact ⟨y, _, rfl, h1, b9.take n h2⟩
theorem uw (env : Env) (hP : env.P = P) (t : TypeId) (x : Operand) (f : Nat) {K : KA} (h : qit env t (ρ x) f K) :
  ∃ v, K v [] ∧ ay P ⟨dst, .fieldAddr t x f, ty, pos, after, guard⟩ ρ rd fresh v [] := by
 unfold qit at h
 rw [hP] at h
 split at h
 ·rename_i off n hf
  obtain ⟨fs, fd, h1, h2, rfl, h3⟩ := x2 hf
  split at h
  ·exact h.elim
  ·rename_i hn
   have hn0 : n ≠ 0 := by intro e; subst e; simp at hn
   have run : ∀ (b o : Nat) (w : World), (Instr.fieldAt t (.pointer (some ⟨b, o, none⟩)) f).run P w = .ok (.pointer (some ⟨b, o + fd.offset, none⟩)) w := by
    intro b o w
    simp [Instr.fieldAt, run_underlying h1, h2, Instr.sureAddr, q8 h3 hn0, fv]
   split at h
   ·rename_i i o hx
    refine ⟨_, h, ay.pure fun c hp a hv _ _ => ?_⟩
    have e1 := hv x (by simp [Op.operands])
    rw [hx] at e1
    simp only [V] at e1
    obtain ⟨hb, b, h4, h5⟩ := e1
    exact ⟨.pointer (some ⟨b, o + fd.offset, none⟩), by simp [execOp, h5, run], by simp only [V]; exact ⟨hb, b, h4, rfl⟩⟩
   ·rename_i i j o hx
    refine ⟨_, h, ay.pure fun c hp a hv _ _ => ?_⟩
    have e1 := hv x (by simp [Op.operands])
    rw [hx] at e1
    simp only [V] at e1
    obtain ⟨hb, b, n, cp, sz, h4, h6, h5⟩ := e1
    exact ⟨.pointer (some ⟨b, j * sz + o + fd.offset, none⟩), by simp [execOp, h5, run], by simp only [V]; exact ⟨hb, b, n, cp, sz, h4, h6, by rw [Nat.add_assoc]⟩⟩
   ·rename_i cs hx
    refine ⟨_, h, ay.pure fun c hp a hv _ _ => ?_⟩
    have e1 := hv x (by simp [Op.operands])
    rw [hx] at e1
    simp only [V] at e1
    obtain ⟨b, o, h4, hI, es, h5, h6⟩ := e1
    refine ⟨.pointer (some ⟨b, o + fd.offset, none⟩), by simp [execOp, h4, run], ?_⟩
    simp only [V]
    refine ⟨b, o + fd.offset, rfl, hI, es.drop fd.offset, h5.drop _, fun j hj => ?_⟩
    simp only [List.length_drop] at hj
    have := h6 (fd.offset + j) (by omega)
    rw [List.getElem?_drop, ← this, Nat.add_assoc]
   ·exact h.elim
 ·exact h.elim
def qd0 (agg : Bool) (es : List Value) : Value := match agg with
 | true => .agg es.toArray
 | false => es.headD Go.undef
theorem ik {P : Program} {w : World} {b o : Nat} : ∀ (n i : Nat) (es : List Value) (acc : Array Value), es.length = n → (∀ j, j < n → w.cell? ⟨b, o + i + j, none⟩ = es[j]?) →
  (loadCellsFrom ⟨b, o, none⟩ i n acc).run P w = .ok (acc ++ es.toArray) w
 | 0, i, es, acc, hl, _ => by
  have : es = [] := List.eq_nil_of_length_eq_zero hl
  subst this
  simp [loadCellsFrom]
 | n + 1, i, es, acc, hl, h => by
  cases es with
  | nil => simp at hl
  | cons e es =>
   have h0 := h 0 (by omega)
   simp only [Nat.add_zero, List.getElem?_cons_zero] at h0
   have ih := ik (P := P) (w := w) (b := b) (o := o) n (i + 1) es (acc.push e) (by simpa using hl) (fun j hj => by
    have := h (j + 1) (by omega)
    simp only [List.getElem?_cons_succ] at this
    rw [← this]
    congr 2
    omega)
   simp [loadCellsFrom, fv, h0, ih]
theorem oz {t : TypeId} {agg : Bool} {n : Nat} (ha : b7 P t = some agg) (hn : bx P t = some n) {w : World} {b o : Nat} {es : List Value} (hl : es.length = n)
  (h : ∀ j, j < n → w.cell? ⟨b, o + j, none⟩ = es[j]?) (h1 : agg = false → n = 1) :
  (loadVar t ⟨b, o, none⟩).run P w = .ok (qd0 agg es) w := by
 cases agg with
 | true =>
  have := ik (P := P) (w := w) (b := b) (o := o) n 0 es #[] hl (by simpa using h)
  simp [loadVar, i7 ha, bz hn, loadCells, this, qd0]
 | false =>
  have h2 := h1 rfl
  subst h2
  cases es with
  | nil => simp at hl
  | cons e es =>
   have h0 := h 0 (by omega)
   simp at h0
   simp [loadVar, i7 ha, h0, qd0]
theorem pw {c : Cx} {agg : Bool} {cs : List AV} {es : List Value} (h : Vs c cs es) (h1 : ∀ u ∈ es, u.oneCell' = true) (hk : agg = false → cs.length = 1) :
  V c (dh agg cs) (qd0 agg es) := by
 cases agg with
 | true =>
  simp only [dh, V, qd0]
  exact ⟨_, rfl, by simpa using h, by simpa using h1⟩
 | false =>
  have h2 := hk rfl
  match cs, h2 with
  | [x], _ =>
   simp only [Vs] at h
   obtain ⟨y, ys, rfl, h3, _⟩ := h
   simpa [dh, qd0] using h3
end
end Go.RX
namespace Go.RX
def qhn (P : Program) (vw : TypeId → PV → (List PV → Prop) → Prop) : Prop :=
 ∀ t x K, vw t x K → ∃ cs, K cs ∧ bx P t = some cs.length ∧ 0 < cs.length ∧ ((b7 P t = some true ∧ x = .agg cs) ∨ (b7 P t = some false ∧ (∀ xs, x ≠ .agg xs) ∧ cs = [x]))
theorem RoC.cells {I : Bool → Nat → Prop} {w : World} {x : PV} {es : List Value} (h : RoC I w x es) (hx : ∀ xs, x ≠ .agg xs) : b9 I w [x] es := by
 simp only [b9]
 cases x with
 | agg xs => exact absurd rfl (hx xs)
 | arr n g =>
  have h0 := h
  simp only [RoC] at h0
  obtain ⟨a, c, rfl, _⟩ := h0
  exact ⟨_, [], rfl, h, rfl⟩
 | _ =>
  have h0 := h
  simp only [RoC] at h0
  subst h0
  exact ⟨_, [], rfl, h, rfl⟩
theorem u3 {P : Program} {t : TypeId} {x : PV} {cs : List PV} (hk : (b7 P t = some true ∧ x = .agg cs) ∨ (b7 P t = some false ∧ (∀ xs, x ≠ .agg xs) ∧ cs = [x]))
  {I : Bool → Nat → Prop} {w : World} {es : List Value} (h : RoC I w x es) : b9 I w cs es := by
 rcases hk with ⟨_, rfl⟩ | ⟨_, hx, rfl⟩
 ·simpa [RoC] using h
 ·exact h.cells hx
section
variable {P : Program} {ρ : Operand → AV} {rd : Nat → AO} {fresh : Nat} {dst : Option Tmp} {ty : TypeId} {pos : String} {after : Array Edge} {guard : Option (Nat × Bool)}
theorem gv {t : TypeId} {agg : Bool} {n : Nat} (h : re P t = some (agg, n)) : b7 P t = some agg ∧ bx P t = some n ∧ (agg = false → n = 1) := by
 unfold re at h
 split at h
 ·rename_i m h1 h2
  simp at h
  obtain ⟨rfl, rfl⟩ := h
  exact ⟨h1, h2, fun e => by cases e⟩
 ·rename_i m h1 h2
  split at h
  ·rename_i hb
   simp at h
   obtain ⟨rfl, rfl⟩ := h
   exact ⟨h1, h2, fun _ => Nat.eq_of_beq_eq_true hb⟩
  ·cases h
 ·cases h
theorem bn.at_ {I : Bool → Nat → Prop} {w : World} {sz : Nat} : ∀ {xs : List PV} {cells : List Value} (i : Nat), bn I w sz xs cells → i < xs.length →
  ∃ es, RoC I w (xs.getD i .nilp) es ∧ es.length = sz ∧ ∀ j, j < sz → cells[i * sz + j]? = es[j]?
 | [], _, i, _, hi => by simp at hi
 | x :: xs, cells, 0, h, _ => by
  obtain ⟨es, r, rfl, h1, h2, _⟩ := h
  refine ⟨es, by simpa using h2, h1, fun j hj => ?_⟩
  rw [List.getElem?_append_left (by omega)]
  simp
 | x :: xs, cells, i + 1, h, hi => by
  obtain ⟨es, r, rfl, h1, h2, h3⟩ := h
  obtain ⟨us, h4, h5, h6⟩ := bn.at_ i h3 (by simpa using hi)
  refine ⟨us, by simpa using h4, h5, fun j hj => ?_⟩
  rw [List.getElem?_append_right (by rw [h1, Nat.add_mul]; omega), ← h6 j hj]
  congr 1
  rw [h1, Nat.add_mul]
  omega
theorem bn.length {I : Bool → Nat → Prop} {w : World} {sz : Nat} : ∀ {xs : List PV} {cells : List Value}, bn I w sz xs cells → cells.length = xs.length * sz
 | [], _, h => by simp [bn] at h; subst h; simp
 | x :: xs, cells, h => by
  obtain ⟨es, r, rfl, h1, _, h3⟩ := h
  simp [h1, bn.length h3, Nat.add_mul]
  omega
theorem ov {w : World} {e sz n : Nat} {v : Value} {cells : List Value} (h : w.ownsRow 0 e sz v n cells) {b m cp : Nat} (hv : v = .slice (some ⟨b, 0, none⟩) m cp) (j : Nat) (hj : j < cells.length) :
  w.cell? ⟨b, j, none⟩ = cells[j]? := by
 have h1 := h.cells (g := b) (by rw [hv]; rfl) j (cells[j]) (by simp [hj])
 rw [fv, Nat.zero_add] at h1
 rw [h1]
 simp [hj]
theorem qhc (env : Env) (hP : env.P = P) (hvw : qhn P env.vw) (t : TypeId) (x : Operand) {K : KA} (h : qjk env rd t (ρ x) K) :
  ∃ v, K v [] ∧ ay P ⟨dst, .load t x, ty, pos, after, guard⟩ ρ rd fresh v [] := by
 unfold qjk at h
 rw [hP] at h
 split at h
 ·rename_i agg n hshape
  obtain ⟨ha, hn, hone⟩ := gv hshape
  have fin : ∀ (c : Cx) (b o : Nat) (cs : List AV) (es : List Value), Vs c cs es → (∀ u ∈ es, u.oneCell' = true) → cs.length = n → (∀ j, j < n → c.w.cell? ⟨b, o + j, none⟩ = es[j]?) →
    ∃ u, (Instr.loadAt t (.pointer (some ⟨b, o, none⟩))).run P c.w = .ok u c.w ∧ V c (dh agg cs) u := by
   intro c b o cs es h1 h2 h3 h4
   refine ⟨_, ?_, pw h1 h2 (fun e => by rw [h3]; exact hone e)⟩
   have := oz ha hn (w := c.w) (b := b) (o := o) (es := es) (by rw [h1.length, h3]) h4 hone
   simp [Instr.loadAt, Instr.sureAddr, this]
  split at h
  ·rename_i i off hx
   split at h
   ·rename_i cs hr
    split at h
    ·rename_i hle
     have hle' : off + n ≤ cs.length := Nat.le_of_ble_eq_true hle
     refine ⟨_, h, ay.pure fun c hp a hv hrd hh => ?_⟩
     have e1 := hv x (by simp [Op.operands])
     rw [hx] at e1
     simp only [V] at e1
     obtain ⟨hb, b, h4, h5⟩ := e1
     have h6 := (hh.obj i _ (hrd i (by rw [hr]; simp))).2
     rw [hr, h4] at h6
     simp only [OR] at h6
     obtain ⟨C, t', h7, h8, h9⟩ := h6
     have h10 : C.size = cs.length := by simpa using h8.length
     obtain ⟨u, h11, h12⟩ := fin c b off (cut cs off n) ((C.toList.drop off).take n) ((h8.drop off).take n) (fun u hu => h9 u (List.mem_of_mem_drop (List.mem_of_mem_take hu))) (by simp [cut]; omega) (fun j hj => by
      rw [cell_of_row c.w b (off + j) C t' (0, 0) h7, List.getElem?_take, if_pos hj, List.getElem?_drop]
      simp)
     exact ⟨u, by simp only [execOp, h5, Sem.run_bind, h11, Result.andThen_ok, Sem.run_pure], h12⟩
    ·exact h.elim
   ·exact h.elim
  ·rename_i cs hx
   split at h
   ·rename_i hle
    have hle' : n ≤ cs.length := Nat.le_of_ble_eq_true hle
    refine ⟨_, h, ay.pure fun c hp a hv hrd hh => ?_⟩
    have e1 := hv x (by simp [Op.operands])
    rw [hx] at e1
    simp only [V] at e1
    obtain ⟨b, o, h4, hI, es, h5, h6⟩ := e1
    have h7 := h5.length
    obtain ⟨u, h11, h12⟩ := fin c b o ((cs.take n).map .p) (es.take n) ((c6 _ _).2 (h5.take n)) (fun u hu => b9.yo _ _ h5 u (List.mem_of_mem_take hu)) (by simp; omega) (fun j hj => by
     rw [h6 j (by omega), List.getElem?_take, if_pos hj])
    exact ⟨u, by simp only [execOp, h4, Sem.run_bind, h11, Result.andThen_ok, Sem.run_pure], h12⟩
   ·exact h.elim
  ·rename_i i k o hx
   split at h
   ·rename_i e sz xs hr
    obtain ⟨cs, hk, hsz, hpos, hag⟩ := hvw _ _ _ h
    split at hk
    ·rename_i hle
     have hle' : o + n ≤ cs.length := Nat.le_of_ble_eq_true hle
     refine ⟨_, hk, ay.pure fun c hp a hv hrd hh => ?_⟩
     have e1 := hv x (by simp [Op.operands])
     rw [hx] at e1
     simp only [V] at e1
     obtain ⟨hb, b, m, cp, sz', h4, hkn, h5⟩ := e1
     have h6 := (hh.obj i _ (hrd i (by rw [hr]; simp))).2
     rw [hr, h4] at h6
     simp only [OR] at h6
     obtain ⟨rfl, hsz0, cells, h7, h8⟩ := h6
     have hm : m = xs.length := by
      rcases h7.2 with ⟨he, _⟩ | ⟨g, cap, cur, he, _⟩
      ·simp at he
      ·simp at he
       exact he.2.1
     obtain ⟨es, h9, h10, h13⟩ := h8.at_ k (by omega)
     have hcs := u3 hag h9
     have hlen : es.length = cs.length := hcs.length
     have hcl := h8.length
     obtain ⟨u, h11, h12⟩ := fin c b (k * sz' + o) ((cut cs o n).map .p) ((es.drop o).take n) ((c6 _ _).2 ((hcs.drop o).take n)) (fun u hu => b9.yo _ _ hcs u (List.mem_of_mem_drop (List.mem_of_mem_take hu))) (by simp [cut]; omega) (fun j hj => by
      have hlt : k * sz' + (o + j) < cells.length := by
       rw [hcl, ← hm]
       have : (k + 1) * sz' ≤ m * sz' := Nat.mul_le_mul_right _ hkn
       rw [Nat.add_mul] at this
       omega
      rw [Nat.add_assoc, ov h7 rfl _ hlt, h13 (o + j) (by omega), List.getElem?_take, if_pos hj, List.getElem?_drop])
     exact ⟨u, by simp only [execOp, h5, Sem.run_bind, h11, Result.andThen_ok, Sem.run_pure], h12⟩
    ·exact hk.elim
   ·exact h.elim
  ·exact h.elim
 ·exact h.elim
theorem l7 {t e : TypeId} {n : Nat} (ht : P.underlying t = some (.slice e)) (hn : bx P e = some n) {b o len cap : Nat} {k : IntKind} {i : Int} (h0 : 0 ≤ i) (h1 : i < len) (w : World) :
  (Instr.indexAt t (.slice (some ⟨b, o, none⟩) len cap) (.int k i)).run P w = .ok (.pointer (some ⟨b, o + i.toNat * n, none⟩)) w := by
 simp [Instr.indexAt, asIntOf, run_underlying ht, h0, h1, bz hn, fv]
theorem qba {I : Bool → Nat → Prop} {w : World} {m : Bool} {n : Nat} {g : Nat → PV} {u : Value} (h : RoC I w (.arr m n g) [u]) {i : Nat} (hi : i < n) :
  ∃ b off sz cap, u = .slice (some ⟨b, off, none⟩) n cap ∧ I m b ∧ ∃ es : List Value, es.length = sz ∧ RoC I w (g i) es ∧ ∀ j, j < sz → w.cell? ⟨b, off + i * sz + j, none⟩ = es[j]? := by
 simp only [RoC] at h
 obtain ⟨a, c, h1, _, h2⟩ := h
 obtain ⟨b, off, sz, rfl, hI, _, _, h3⟩ := h2 (by omega)
 simp at h1
 exact ⟨b, off, sz, c, h1, hI, h3 i hi⟩
theorem nf (env : Env) (hP : env.P = P) (hvw : qhn P env.vw) (t : TypeId) (x y : Operand) (k : IntKind) (i : Int) (hy : ρ y = .p (.int k i)) {K : KA} (h : qc6 env rd t (ρ x) i K) :
  ∃ v, K v [] ∧ ay P ⟨dst, .indexAddr t x y, ty, pos, after, guard⟩ ρ rd fresh v [] := by
 unfold qc6 at h
 rw [hP] at h
 split at h
 ·rename_i e ht
  have arr : ∀ (m : Bool) (n : Nat) (g : Nat → PV), (0 ≤ i ∧ i < n ∧ env.vw e (g i.toNat) fun cs => K (.rop cs) []) →
    (∀ c h', (∀ j, rd j ≠ .dead → h' j = some (rd j)) → HR c h' → ∀ u, V c (ρ x) u → RoC c.J c.w (.arr m n g) [u]) →
    ∃ v, K v [] ∧ ay P ⟨dst, .indexAddr t x y, ty, pos, after, guard⟩ ρ rd fresh v [] := by
   rintro m n g ⟨h0, h1, h2⟩ hro
   obtain ⟨cs, hk, hsz, hpos, hag⟩ := hvw _ _ _ h2
   refine ⟨_, hk, ay.pure fun c hp a hv hrd hh => ?_⟩
   have e1 := hv x (by simp [Op.operands])
   have e2 := hv y (by simp [Op.operands])
   rw [hy] at e2
   have hi : i.toNat < n := by omega
   obtain ⟨b, off, sz, cap, h4, hI, es, h5, h6, h7⟩ := qba (hro c hp hrd hh _ e1) hi
   have hcs := u3 hag h6
   have hl : sz = cs.length := by rw [← h5]; exact hcs.length
   subst hl
   refine ⟨.pointer (some ⟨b, off + i.toNat * cs.length, none⟩), ?_, ?_⟩
   ·simp [execOp, mi e2, h4, l7 ht hsz h0 h1]
   ·simp only [V]
    exact ⟨b, _, rfl, hI.1, es, hcs, fun j hj => h7 j (by omega)⟩
  split at h
  ·rename_i m n g hx
   exact arr m n g h fun c h' _ _ u hu => by rw [hx] at hu; simpa only [V] using hu
  ·rename_i id hx
   split at h
   ·rename_i e' sz xs hr
    split at h
    ·rename_i n hn
     split at h
     ·rename_i hb
      have hns := Nat.eq_of_beq_eq_true hb
      subst hns
      obtain ⟨h0, h1, h2⟩ := h
      refine ⟨_, h2, ay.pure fun c hp a hv hrd hh => ?_⟩
      have e1 := hv x (by simp [Op.operands])
      have e2 := hv y (by simp [Op.operands])
      rw [hy] at e2
      rw [hx] at e1
      simp only [V] at e1
      obtain ⟨hbn, a', m, cp, sz', h3, h4⟩ := e1
      have h6 := (hh.obj id _ (hrd id (by rw [hr]; simp))).2
      rw [hr, h4, h3] at h6
      simp only [OR] at h6
      obtain ⟨rfl, hsz0, cells, h7, _⟩ := h6
      rcases h7.2 with ⟨_, he⟩ | ⟨g, cap, cur, he, _⟩
      ·omega
      ·simp at he
       obtain ⟨rfl, rfl, rfl⟩ := he
       refine ⟨.pointer (some ⟨g, 0 + i.toNat * sz', none⟩), ?_, ?_⟩
       ·simp only [execOp, mi e2, h3, Sem.run_bind, l7 ht hn h0 h1, Result.andThen_ok, Sem.run_pure]
       ·simp only [V]
        exact ⟨hbn, g, _, cp, sz', by rw [h4, h3], by omega, by simp⟩
     ·exact h.elim
    ·exact h.elim
   ·rename_i sz xs hr
    exact arr true xs.length (fun j => xs.getD j .nilp) h fun c h' hrd hh u hu => by
     rw [hx] at hu
     simp only [V] at hu
     obtain ⟨_, a, n, cp, sz', rfl, h4⟩ := hu
     have h6 := (hh.obj id _ (hrd id (by rw [hr]; simp))).2
     rw [hr, h4] at h6
     simpa only [OR] using h6
   ·exact h.elim
  ·exact h.elim
 ·exact h.elim
theorem wq (t : TypeId) (x y : Operand) (k : IntKind) (i : Int) (s : ByteArray) (hy : ρ y = .p (.int k i)) (hx : ρ x = .p (.str s)) (ht : P.underlying t = some .string) (h0 : 0 ≤ i) (h1 : i < s.size) :
  ay P ⟨dst, .index t x y, ty, pos, after, guard⟩ ρ rd fresh (.p (.int .u8 (bh s i.toNat))) [] :=
 ay.pure fun c h a hv _ _ => by
  have e1 := hv x (by simp [Op.operands])
  have e2 := hv y (by simp [Op.operands])
  rw [hx] at e1
  rw [hy] at e2
  have h2 : i.toNat < s.size := by omega
  have h3 : s.data.toList[i.toNat]? = some (s[i.toNat]'h2) := by
   have : i.toNat < s.data.toList.length := by simpa using h2
   rw [List.getElem?_eq_getElem this]
   rfl
  have h4 : s[i.toNat]? = some (s[i.toNat]'h2) := by simp [h2]
  refine ⟨.int .u8 (bh s i.toNat), ?_, ee _ _⟩
  simp [execOp, Instr.index, mi e2, u7 e1, asIntOf, run_underlying ht, h0, h4, bh, h3]
theorem qj9 (ats : Array TypeId) (x : Operand) (at0 : TypeId) (hat : ats[0]? = some at0) {K : AV → Prop} (h : qqx P at0 rd (ρ x) K) :
  ∃ v, K v ∧ ay P ⟨dst, .call { callee := .builtin .len, args := #[x], argTypes := ats }, ty, pos, after, guard⟩ ρ rd fresh v [] := by
 have run : ∀ (a : Act) (w : World), (execOp a.eval ⟨dst, .call { callee := .builtin .len, args := #[x], argTypes := ats }, ty, pos, after, guard⟩).run P w =
   ((Builtin.len_ ats ty #[a.eval x]).run P w).andThen fun u w' => .ok (.value u) w' := by
  intro a w
  simp [execOp, resolve, invoke, builtin]
 have sl : ∀ {e : TypeId}, P.underlying at0 = some (.slice e) → ∀ (a : Option Addr) (n cp : Nat) (w : World), (Builtin.len_ ats ty #[.slice a n cp]).run P w = .ok (.int .i64 n) w := by
  intro e he a n cp w
  simp [Builtin.len_, hat, run_underlying he, goInt]
 unfold qqx at h
 split at h
 ·rename_i s ht hx
  refine ⟨_, h, ay.pure fun c hp a hv _ _ => ⟨.int .i64 s.size, ?_, ee _ _⟩⟩
  have e1 := hv x (by simp [Op.operands, Call.operands])
  rw [hx] at e1
  rw [run, u7 e1]
  simp [Builtin.len_, hat, run_underlying ht, goInt]
 ·rename_i e n g he hx
  refine ⟨_, h, ay.pure fun c hp a hv _ _ => ⟨.int .i64 n, ?_, ee _ _⟩⟩
  have e1 := hv x (by simp [Op.operands, Call.operands])
  rw [hx] at e1
  simp only [V, RoC] at e1
  obtain ⟨b, cp, h1, _⟩ := e1
  simp at h1
  rw [run, h1, sl he]
  rfl
 ·rename_i e he hx
  refine ⟨_, h, ay.pure fun c hp a hv _ _ => ⟨.int .i64 0, ?_, ee _ _⟩⟩
  have e1 := hv x (by simp [Op.operands, Call.operands])
  rw [hx] at e1
  rw [run, j6 e1, sl he]
  rfl
 ·rename_i e id he hx
  split at h
  ·rename_i e' sz xs hr
   refine ⟨_, h, ay.pure fun c hp a hv hrd hh => ⟨.int .i64 xs.length, ?_, ee _ _⟩⟩
   have e1 := hv x (by simp [Op.operands, Call.operands])
   rw [hx] at e1
   simp only [V] at e1
   obtain ⟨_, b, m, cp, sz', h3, h4⟩ := e1
   have h6 := (hh.obj id _ (hrd id (by rw [hr]; simp))).2
   rw [hr, h4, h3] at h6
   simp only [OR] at h6
   obtain ⟨rfl, _, cells, h7, _⟩ := h6
   have hm : m = xs.length := by
    rcases h7.2 with ⟨he, h8⟩ | ⟨g, cap, cur, he, _⟩
    ·simp at he; omega
    ·simp at he; exact he.2.1
   rw [run, h3, sl he, hm]
   rfl
  ·rename_i sz xs hr
   refine ⟨_, h, ay.pure fun c hp a hv hrd hh => ⟨.int .i64 xs.length, ?_, ee _ _⟩⟩
   have e1 := hv x (by simp [Op.operands, Call.operands])
   rw [hx] at e1
   simp only [V] at e1
   obtain ⟨_, b, m, cp, sz', h3, h4⟩ := e1
   have h6 := (hh.obj id _ (hrd id (by rw [hr]; simp))).2
   rw [hr, h4, h3] at h6
   simp only [OR, RoC] at h6
   obtain ⟨_, _, h7, _⟩ := h6
   simp at h7
   rw [run, h3, sl he, h7.2.1]
   rfl
  ·exact h.elim
 ·rename_i k e id he hx
  split at h
  ·rename_i kk es hr
   refine ⟨_, h, ay.pure fun c hp a hv hrd hh => ⟨.int .i64 es.length, ?_, ee _ _⟩⟩
   have e1 := hv x (by simp [Op.operands, Call.operands])
   rw [hx] at e1
   simp only [V] at e1
   obtain ⟨_, b, h3, h4⟩ := e1
   have h6 := (hh.obj id _ (hrd id (by rw [hr]; simp))).2
   rw [hr, h3] at h6
   simp only [OR] at h6
   obtain ⟨E, cl, h7, h8⟩ := h6
   have hlen : ∀ (xs : List (PV × PV)) (ms : List MapEntry), ez c.J c.w kk xs ms → ms.length = xs.length := by
    intro xs
    induction xs with
    | nil => intro ms hm; simp [ez] at hm; subst hm; rfl
    | cons x xs ih =>
     intro ms hm
     obtain ⟨k, v⟩ := x
     obtain ⟨e, es', rfl, _, _, _, h9⟩ := hm
     simp [ih es' h9]
   have h9 := hlen es E.toList h8
   have h10 : E.size = es.length := by simpa using h9
   rw [run, h4]
   simp [Builtin.len_, hat, run_underlying he, goInt, getObj, Sem.run, h7, h10]
  ·exact h.elim
 ·exact h.elim
end
end Go.RX
namespace Go.RX
theorem oc {c : Cx} {h : HP} (hh : HR c h) {i b : Nat} (hl : Live h i) (hb : (c.β i).block = some b) {w' : World} (hw : ∀ k, k < c.w.heap.size → k ≠ b → w'.heap[k]? = c.w.heap[k]?) : Ext c (c.with w') :=
 ⟨fun _ h => h, fun _ _ => rfl, fun _ h => h, fun k hk => hw k (hh.bound k hk) (fun e => hh.apart i b hl hb (e ▸ hk)), rfl⟩
theorem lf {h : HP} {i : Nat} (hl : Live h i) {ao : AO} {j : Nat} (hj : Live (dq h [(i, ao)]) j) : Live h j := by
 rcases dm hj with ⟨rfl, _⟩ | ⟨_, h1⟩
 ·exact hl
 ·exact h1
theorem qms {c : Cx} {h : HP} (hh : HR c h) {i b : Nat} (hl : Live h i) (hb : (c.β i).block = some b) {w' : World} (hs : c.w.heap.size ≤ w'.heap.size)
  (hw : ∀ k, k < c.w.heap.size → k ≠ b → w'.heap[k]? = c.w.heap[k]?) (ao : AO) (ho : OR (c.with w') ao (c.β i)) : HR (c.with w') (dq h [(i, ao)]) := by
 have hext := oc hh hl hb hw
 refine ⟨fun j x hx => ?_, fun j k n hj hk hjb hkb => hh.inj j k n (lf hl hj) (lf hl hk) hjb hkb, fun j n hj hjb => hh.apart j n (lf hl hj) hjb, fun n hn => Nat.lt_of_lt_of_le (hh.bound n hn) hs, fun j n hj hjb => Nat.lt_of_lt_of_le (hh.size j n (lf hl hj) hjb) hs, fun j n hj hjb => hh.low j n (lf hl hj) hjb, Nat.le_trans hh.base hs⟩
 simp only [dq] at hx
 by_cases e : j = i
 ·rw [if_pos e] at hx
  injection hx with hx
  subst hx e
  obtain ⟨o, h1, _⟩ := hl
  exact ⟨(hh.obj j o h1).1, ho⟩
 ·rw [if_neg e] at hx
  obtain ⟨h1, h2⟩ := hh.obj j x hx
  refine ⟨h1, ?_⟩
  show OR (c.with w') x (c.β j)
  cases hlv : dz x with
  | false => exact h2.kj hext hlv
  | true => exact h2.mono hext fun n hn => hw n (hh.size j n ⟨x, hx, hlv⟩ hn) fun e' => e (hh.inj j i b ⟨x, hx, hlv⟩ hl (e' ▸ hn) hb)
theorem qmr {c : Cx} {h : HP} {i b : Nat} (hl : Live h i) (hb : (c.β i).block = some b) {w' : World} (h1 : w'.os = c.w.os) (h2 : w'.tape = c.w.tape) (h3 : w'.output = c.w.output) (hs : c.w.heap.size ≤ w'.heap.size)
  (hw : ∀ k, k < c.w.heap.size → k ≠ b → w'.heap[k]? = c.w.heap[k]?) (ao : AO) : Fr c h (c.with w') (dq h [(i, ao)]) :=
 ⟨h1, h2, h3, hs, fun k hk hn => hw k hk fun e => hn i hl (e ▸ hb), fun _ h => h, fun _ h => .inl h, fun j _ hj hjb => .inr ⟨j, lf hl hj, hjb⟩, rfl⟩
theorem ay.set {P : Program} {o : Oper} {ρ : Operand → AV} {rd : Nat → AO} {fresh : Nat} {i : Nat} {ao : AO} {v : AV} (hl : dz (rd i) = true)
  (hrun : ∀ (c : Cx) (h : HP) (a : Act), (∀ x ∈ o.op.operands, V c (ρ x) (a.eval x)) → (∀ i, rd i ≠ .dead → h i = some (rd i)) → HR c h → h i = some (rd i) →
   ∃ b w', (c.β i).block = some b ∧ w'.os = c.w.os ∧ w'.tape = c.w.tape ∧ w'.output = c.w.output ∧ c.w.heap.size ≤ w'.heap.size ∧ (∀ k, k < c.w.heap.size → k ≠ b → w'.heap[k]? = c.w.heap[k]?) ∧
    OR (c.with w') ao (c.β i) ∧ (((execOp a.eval o).run P c.w = .ok .skip w' ∧ V (c.with w') v undef) ∨ ∃ u, (execOp a.eval o).run P c.w = .ok (.value u) w' ∧ (Ext c (c.with w') → V (c.with w') v u))) : ay P o ρ rd fresh v [(i, ao)] := by
 intro c h a next Q hv hr _ hh hn
 have hrd : h i = some (rd i) := hr i (by intro e; rw [e] at hl; simp [dz] at hl)
 obtain ⟨b, w', hb, h1, h2, h3, hs, hw, ho, hx⟩ := hrun c h a hv hr hh hrd
 have hlive : Live h i := ⟨_, hrd, hl⟩
 have ext := oc hh hlive hb hw
 have hr' := qms hh hlive hb hs hw ao ho
 have fr := qmr hlive hb h1 h2 h3 hs hw ao
 rcases hx with ⟨hx, hV⟩ | ⟨u, hx, hV⟩
 ·simp only [Oper.wp, hx, Oper.upon_skip]
  exact hn undef (c.with w') hV hr' ext fr fun j hj => .inl hj
 ·simp only [Oper.wp, hx, Oper.upon_value]
  exact hn u (c.with w') (hV ext) hr' ext fr fun j hj => .inl hj
section
variable {P : Program} {ρ : Operand → AV} {rd : Nat → AO} {fresh : Nat} {dst : Option Tmp} {ty : TypeId} {pos : String} {after : Array Edge} {guard : Option (Nat × Bool)}
theorem qhe (it : Operand) {K : KA} (h : qjv rd (ρ it) K) :
  ∃ v wr, K v wr ∧ ay P ⟨dst, .next it true, ty, pos, after, guard⟩ ρ rd fresh v wr := by
 unfold qjv at h
 split at h
 ·rename_i id hx
  split at h
  ·rename_i s p hr
   have getit : ∀ (c : Cx) (h : HP) (a : Act), (∀ x ∈ (Op.next it true).operands, V c (ρ x) (a.eval x)) → (∀ i, rd i ≠ .dead → h i = some (rd i)) → HR c h →
     ∃ b, c.β id = .blk b ∧ a.eval it = .pointer (some ⟨b, 0, none⟩) ∧ c.w.heap[b]? = some (.stringIter s p) := by
    intro c h a hv hrd hh
    have e1 := hv it (by simp [Op.operands])
    rw [hx] at e1
    simp only [V] at e1
    obtain ⟨_, b, h1, h2⟩ := e1
    have h3 := (hh.obj id _ (hrd id (by rw [hr]; simp))).2
    rw [hr, h1] at h3
    exact ⟨b, h1, h2, h3⟩
   split at h
   ·rename_i hlt
    have hlt' : p < s.size := of_decide_eq_true hlt
    refine ⟨_, _, h, ay.set (by rw [hr]; rfl) fun c hp a hv hrd hh _ => ?_⟩
    obtain ⟨b, h1, h2, h3⟩ := getit c hp a hv hrd hh
    have hbs : b < c.w.heap.size := (Array.getElem?_eq_some_iff.1 h3).1
    refine ⟨b, { c.w with heap := c.w.heap.setIfInBounds b (.stringIter s (p + (Utf8.decode s p).2)) }, by rw [h1]; rfl, rfl, rfl, rfl, by simp, fun k _ hk => ?_, ?_, .inr ⟨.tuple #[.bool true, goInt p, .int .i32 (Utf8.decode s p).1], ?_, fun ext => ?_⟩⟩
    ·simp only []
     rw [Array.getElem?_setIfInBounds_ne (fun e => hk e.symm)]
    ·rw [h1]
     simp only [OR, Cx.with]
     rw [Array.getElem?_setIfInBounds]
     simp [hbs]
    ·simp [execOp, Instr.next, h2, getObj, setObj, Sem.run, h3, hlt']
    ·simp only [V, Vs]
     exact ⟨_, rfl, _, _, rfl, by simp [RoC], _, _, rfl, by simp [RoC, goInt], _, _, rfl, by simp [RoC], rfl⟩
   ·rename_i hlt
    have hlt' : ¬ p < s.size := of_decide_eq_false hlt
    refine ⟨_, _, h, ay.pure fun c hp a hv hrd hh => ?_⟩
    obtain ⟨b, h1, h2, h3⟩ := getit c hp a hv hrd hh
    refine ⟨.tuple #[.bool false], ?_, ?_⟩
    ·simp [execOp, Instr.next, h2, getObj, Sem.run, h3, hlt']
    ·simp only [V, Vs]
     exact ⟨_, rfl, _, _, rfl, by simp [RoC], rfl⟩
  ·exact h.elim
 ·exact h.elim
theorem Vs.rh {c : Cx} {cs new : List AV} {C N : List Value} (h : Vs c cs C) (k : Vs c new N) (off : Nat) : Vs c (rh cs off new) (C.take off ++ N ++ C.drop (off + new.length)) :=
 ((h.take off).append k).append (h.drop _)
theorem tj {c : Cx} {x : AV} {u : Value} (h : V c x u) : V c (o7 x) u := by
 unfold o7
 split
 ·have := j6 h
  subst this
  simp only [V, RoC]
  exact ⟨none, 0, rfl, ⟨Nat.le_refl _, Nat.zero_le _⟩, fun h => absurd h (by omega)⟩
 ·exact h
theorem pb {c : Cx} : ∀ {xs : List AV} {us : List Value}, Vs c xs us → Vs c (xs.map o7) us
 | [], _, h => h
 | x :: xs, us, h => by
  simp only [Vs, List.map_cons] at h ⊢
  obtain ⟨y, r, rfl, h1, h2⟩ := h
  exact ⟨y, r, rfl, tj h1, pb h2⟩
theorem qcn {c : Cx} {x : AV} {u : Value} (h : V c x u) : V c (rm x) u := by
 cases x with
 | agg cs =>
  simp only [V, rm] at h ⊢
  obtain ⟨C, rfl, h1, h2⟩ := h
  exact ⟨C, rfl, pb h1, h2⟩
 | _ => exact tj h
theorem nd {t : TypeId} {n : Nat} (hn : bx P t = some n) {v : Value} (hc : v.cells.size = n) (h1 : ∀ u ∈ v.cells.toList, u.oneCell' = true) {w : World} {b off : Nat} {C : Array Value} {e : TypeId}
  (hb : w.heap[b]? = some (.cells C e (0, 0))) (hl : off + n ≤ C.size) :
  (Instr.storeAt t (.pointer (some ⟨b, off, none⟩)) v).run P w = .ok () (w.setRow b (C.toList.take off ++ v.cells.toList ++ C.toList.drop (off + n)).toArray) := by
 have := run_storeCells_at P b off e v.cells.toList 0 C w hb (by simp; omega) h1
 simp only [Nat.add_zero, Array.length_toList, hc] at this
 simp [Instr.storeAt, Instr.sureAddr, storeVar, bz hn, hc, this]
theorem oj (a : Act) (w w' : World) (t : TypeId) (x y : Operand) (h : (Instr.storeAt t (a.eval x) (a.eval y)).run P w = .ok () w') :
  (execOp a.eval ⟨dst, .store t x y, ty, pos, after, guard⟩).run P w = .ok .skip w' := by
 simp [execOp, h]
theorem bn.qko {I : Bool → Nat → Prop} {w : World} {sz : Nat} : ∀ {xs : List PV} {cells : List Value} (i : Nat) (x : PV) (es : List Value), bn I w sz xs cells → i < xs.length → RoC I w x es → es.length = sz →
  bn I w sz (xs.set i x) (cells.take (i * sz) ++ es ++ cells.drop (i * sz + sz))
 | [], _, i, _, _, _, hi, _, _ => by simp at hi
 | y :: xs, cells, 0, x, es, h, _, hx, hl => by
  obtain ⟨us, r, rfl, h1, h2, h3⟩ := h
  simp only [List.set_cons_zero, Nat.zero_mul, List.take_zero, List.nil_append, Nat.zero_add, bn]
  refine ⟨es, r, ?_, hl, hx, h3⟩
  rw [← h1, List.drop_left]
 | y :: xs, cells, i + 1, x, es, h, hi, hx, hl => by
  obtain ⟨us, r, rfl, h1, h2, h3⟩ := h
  have ih := bn.qko i x es h3 (by simpa using hi) hx hl
  simp only [List.set_cons_succ, bn]
  refine ⟨us, _, ?_, h1, h2, ih⟩
  have e1 : (i + 1) * sz = us.length + i * sz := by rw [h1, Nat.add_mul]; omega
  rw [e1, Nat.add_assoc, List.take_length_add_append, List.drop_length_add_append]
  simp only [List.append_assoc]
theorem m8 {w : World} {e sz n : Nat} {v : Value} {cells new : List Value} (h : w.ownsRow 0 e sz v n cells) {b m cp : Nat} (hv : v = .slice (some ⟨b, 0, none⟩) m cp) {off : Nat} (hl : off + new.length ≤ cells.length) :
  ∃ C, w.heap[b]? = some (.cells C e (0, 0)) ∧ off + new.length ≤ C.size ∧
   (w.setRow b (C.toList.take off ++ new ++ C.toList.drop (off + new.length)).toArray).ownsRow 0 e sz v n (cells.take off ++ new ++ cells.drop (off + new.length)) := by
 obtain ⟨h1, h2⟩ := h
 rcases h2 with ⟨he, _⟩ | ⟨g, cap, cur, he, h0, hg, hn, hm, hs, ht⟩
 ·rw [hv] at he; simp at he
 ·rw [hv] at he
  simp at he
  obtain ⟨rfl, rfl, rfl⟩ := he
  have hle : cells.length ≤ cur.size := by rw [← ht]; simp; omega
  refine ⟨cur, hg, by omega, ?_, .inr ⟨b, cp, _, hv, h0, setRow_heap w b cur _ e _ hg, hn, hm, ?_, ?_⟩⟩
  ·simp only [List.length_append, List.length_take, List.length_drop]
   omega
  ·simp only [List.size_toArray, List.length_append, List.length_take, List.length_drop, Array.length_toList]
   omega
  ·rw [← ht]
   simp only [← ht, List.length_take, Array.length_toList] at hl hle
   apply List.ext_getElem?
   intro j
   simp only [List.getElem?_take, List.getElem?_append, List.getElem?_drop, List.length_append, List.length_take, Array.length_toList]
   by_cases hj : j < m * sz
   ·simp only [hj, if_true]
    by_cases h3 : j < off
    ·have h4 : j < min off cur.size := by omega
     have h5 : j < min off (min (m * sz) cur.size) := by omega
     simp only [show j < min off cur.size + new.length by omega, show j < min off (min (m * sz) cur.size) + new.length by omega, h4, h5, h3, if_true]
    ·have h4 : ¬ j < min off cur.size := by omega
     have h5 : ¬ j < min off (min (m * sz) cur.size) := by omega
     have h6 : min off cur.size = off := by omega
     have h7 : min off (min (m * sz) cur.size) = off := by omega
     rw [h6, h7]
     by_cases h8 : j < off + new.length
     ·simp only [h8, if_true, show ¬ j < off by omega, if_false]
     ·simp only [h8, if_false]
      rw [if_pos (by omega)]
   ·simp only [hj, if_false]
    rw [if_neg (by omega), if_neg (by omega)]
theorem u6 {I : Bool → Nat → Prop} {w : World} {ps : List PV} {es : List Value} (agg : Bool) (h : b9 I w ps es) (hk : agg = false → ps.length = 1) : RoC I w (qjs ps agg) es := by
 cases agg with
 | true => simpa [qjs, RoC] using h
 | false =>
  have h2 := hk rfl
  match ps, h2 with
  | [x], _ =>
   simp only [b9] at h
   obtain ⟨y, ys, rfl, h3, rfl⟩ := h
   simpa [qjs] using h3
theorem b9.append {I : Bool → Nat → Prop} {w : World} : ∀ {xs ys : List PV} {us vs : List Value}, b9 I w xs us → b9 I w ys vs → b9 I w (xs ++ ys) (us ++ vs)
 | [], ys, us, vs, h, k => by simp [b9] at h; subst h; simpa using k
 | x :: xs, ys, us, vs, h, k => by
  simp only [b9] at h
  obtain ⟨y, r, rfl, h1, h2⟩ := h
  simp only [List.cons_append, b9]
  exact ⟨y, r ++ vs, rfl, h1, b9.append h2 k⟩
theorem qhf {xs : List PV} (i : Nat) (x : PV) : (xs.set i x).length = xs.length := List.length_set
theorem qep (env : Env) (hP : env.P = P) (hvw : qhn P env.vw) (t : TypeId) (x y : Operand) {K : KA} (h : qev env rd t (ρ x) (ρ y) K) :
  ∃ i ao, K .undef [(i, ao)] ∧ ay P ⟨dst, .store t x y, ty, pos, after, guard⟩ ρ rd fresh .undef [(i, ao)] := by
 unfold qev at h
 rw [hP] at h
 split at h
 ·rename_i n us hn hus
  split at h
  ·rename_i i off hbeq hx
   have hul : us.length = n := Nat.eq_of_beq_eq_true hbeq
   split at h
   ·rename_i cs hr
    split at h
    ·rename_i hle
     have hle' : off + n ≤ cs.length := Nat.le_of_ble_eq_true hle
     refine ⟨_, _, h, ay.set (by rw [hr]; rfl) fun c hp a hv hrd hh hi => ?_⟩
     have e1 := hv x (by simp [Op.operands])
     have e2 := ti (hv y (by simp [Op.operands])) hus
     rw [hx] at e1
     simp only [V] at e1
     obtain ⟨_, b, h4, h5⟩ := e1
     have h6 := (hh.obj i _ hi).2
     rw [hr, h4] at h6
     simp only [OR] at h6
     obtain ⟨C, e, h7, h8, h9⟩ := h6
     have hC : C.size = cs.length := by simpa using h8.length
     have hcs : (a.eval y).cells.size = n := by have := e2.1.length; simp at this; omega
     have run := nd hn hcs e2.2 h7 (off := off) (by omega)
     refine ⟨b, _, by rw [h4]; rfl, setRow_os _ _ _, setRow_tape _ _ _, setRow_output _ _ _, by simp, fun k _ hk => setRow_other _ _ _ _ hk, ?_, .inl ⟨oj a c.w _ t x y (by rw [h5]; exact run), by simp [V]⟩⟩
     have ext : Ext c (c.with (c.w.setRow b (C.toList.take off ++ (a.eval y).cells.toList ++ C.toList.drop (off + n)).toArray)) :=
      oc hh ⟨_, hi, by rw [hr]; rfl⟩ (b := b) (by rw [h4]; rfl) fun k _ hk => setRow_other _ _ _ _ hk
     rw [h4]
     simp only [OR]
     refine ⟨_, e, setRow_heap c.w b C _ e _ h7, ?_, ?_⟩
     ·have := Vs.rh h8 e2.1 off
      rw [hul] at this
      simpa using Vs.mono ext _ _ this
     ·intro u hu
      simp only [List.mem_append] at hu
      rcases hu with (hu | hu) | hu
      ·exact h9 u (List.mem_of_mem_take hu)
      ·exact e2.2 u hu
      ·exact h9 u (List.mem_of_mem_drop hu)
    ·exact h.elim
   ·exact h.elim
  ·rename_i i k o hbeq hx
   have hul : us.length = n := Nat.eq_of_beq_eq_true hbeq
   split at h
   ·rename_i e sz xs hr
    split at h
    ·rename_i ps hps
     have hpe := fj hps
     have hpl : ps.length = n := by rw [← hul, ← List.length_map (f := o7), hpe, List.length_map]
     have common : ∀ (c : Cx) (hp : HP) (a : Act) (x' : PV), (∀ z ∈ (Op.store t x y).operands, V c (ρ z) (a.eval z)) → HR c hp → hp i = some (rd i) →
       (∀ es, RoC c.J c.w (xs.getD k .nilp) es → es.length = sz → o + n ≤ sz ∧ ∀ N, b9 c.J c.w ps N → RoC c.J c.w x' (es.take o ++ N ++ es.drop (o + n))) →
       ∃ b w', (c.β i).block = some b ∧ w'.os = c.w.os ∧ w'.tape = c.w.tape ∧ w'.output = c.w.output ∧ c.w.heap.size ≤ w'.heap.size ∧ (∀ k, k < c.w.heap.size → k ≠ b → w'.heap[k]? = c.w.heap[k]?) ∧
        OR (c.with w') (.row e sz (xs.set k x')) (c.β i) ∧ (execOp a.eval ⟨dst, .store t x y, ty, pos, after, guard⟩).run P c.w = .ok .skip w' := by
      intro c hp a x' hv hh hi hel
      have e1 := hv x (by simp [Op.operands])
      have e2 := ti (hv y (by simp [Op.operands])) hus
      rw [hx] at e1
      simp only [V] at e1
      obtain ⟨_, b, m, cp, sz', h4, hkm, h5⟩ := e1
      have h6 := (hh.obj i _ hi).2
      rw [hr, h4] at h6
      simp only [OR] at h6
      obtain ⟨rfl, hsz0, cells, h7, h8⟩ := h6
      have hm : m = xs.length := by
       rcases h7.2 with ⟨he, _⟩ | ⟨g, cap, cur, he, _⟩
       ·simp at he
       ·simp at he
        exact he.2.1
      obtain ⟨es, h9, h10, h11⟩ := h8.at_ k (by omega)
      obtain ⟨hon, hel⟩ := hel es h9 h10
      have hN : b9 c.J c.w ps (a.eval y).cells.toList := (c6 _ _).1 (by rw [← hpe]; exact pb e2.1)
      have hNl : (a.eval y).cells.toList.length = n := by rw [e2.1.length, hul]
      have hcl := h8.length
      have hke : k * sz' + sz' ≤ cells.length := by
       rw [hcl, ← hm]
       have : (k + 1) * sz' ≤ m * sz' := Nat.mul_le_mul_right _ hkm
       rw [Nat.add_mul] at this
       omega
      obtain ⟨C, hC, hCl, hown⟩ := m8 h7 rfl (new := (a.eval y).cells.toList) (off := k * sz' + o) (by rw [hNl]; omega)
      have run := nd hn (by simpa using hNl) e2.2 hC (b := b) (off := k * sz' + o) (by rw [hNl] at hCl; exact hCl)
      rw [hNl] at hown
      refine ⟨b, _, by rw [h4]; rfl, setRow_os _ _ _, setRow_tape _ _ _, setRow_output _ _ _, by simp, fun k _ hk => setRow_other _ _ _ _ hk, ?_, oj a c.w _ t x y (by rw [h5]; exact run)⟩
      have ext : Ext c (c.with (c.w.setRow b (C.toList.take (k * sz' + o) ++ (a.eval y).cells.toList ++ C.toList.drop (k * sz' + o + n)).toArray)) :=
       oc hh ⟨_, hi, by rw [hr]; rfl⟩ (b := b) (by rw [h4]; rfl) fun k _ hk => setRow_other _ _ _ _ hk
      rw [h4]
      simp only [OR]
      refine ⟨trivial, hsz0, _, by rw [qhf]; exact hown, ?_⟩
      have hrow := bn.qko k x' (es.take o ++ (a.eval y).cells.toList ++ es.drop (o + n)) h8 (by omega) (hel _ hN) (by
       simp only [List.length_append, List.length_take, List.length_drop, hNl]
       omega)
      have hce : cells.take (k * sz') ++ (es.take o ++ (a.eval y).cells.toList ++ es.drop (o + n)) ++ cells.drop (k * sz' + sz') = cells.take (k * sz' + o) ++ (a.eval y).cells.toList ++ cells.drop (k * sz' + o + n) := by
       have hes : es = (cells.drop (k * sz')).take sz' := by
        apply List.ext_getElem?
        intro j
        rw [List.getElem?_take, List.getElem?_drop]
        by_cases hj : j < sz'
        ·rw [if_pos hj, h11 j hj]
        ·rw [if_neg hj, List.getElem?_eq_none (by omega)]
       rw [hes, List.take_take, Nat.min_eq_left (by omega), List.drop_take, List.drop_drop]
       have e3 : cells.take (k * sz' + o) = cells.take (k * sz') ++ (cells.drop (k * sz')).take o := by rw [List.take_add]
       have e4 : cells.drop (k * sz' + o + n) = (cells.drop (k * sz' + (o + n))).take (sz' - (o + n)) ++ cells.drop (k * sz' + sz') := by
        have h12 := (List.take_append_drop (sz' - (o + n)) (cells.drop (k * sz' + (o + n)))).symm
        rw [List.drop_drop, show k * sz' + (o + n) + (sz' - (o + n)) = k * sz' + sz' by omega] at h12
        rw [Nat.add_assoc]
        exact h12
       rw [e3, e4]
       simp only [List.append_assoc]
      rw [← hce]
      exact bn.mono ext.J ext.jb _ _ hrow
     split at h
     ·rename_i agg m hz hag
      simp only [Bool.and_eq_true] at hz
      have hk0 : o = 0 := Nat.eq_of_beq_eq_true hz.1
      have hnz : n = sz := Nat.eq_of_beq_eq_true hz.2
      obtain ⟨_, _, hone⟩ := gv hag
      split at h
      ·rename_i hms
       have hms' := Nat.eq_of_beq_eq_true hms
       refine ⟨_, _, h, ay.set (by rw [hr]; rfl) fun c hp a hv hrd hh hi => ?_⟩
       obtain ⟨b, w', k1, k2, k3, k4, k5, k6, k7, k8⟩ := common c hp a (qjs ps agg) hv hh hi fun es he hl => by
        refine ⟨by omega, fun N hN => ?_⟩
        have e1 : es.take o = [] := by rw [hk0]; simp
        have e2 : es.drop (o + n) = [] := List.drop_eq_nil_of_le (by omega)
        rw [e1, e2]
        simpa using u6 agg hN fun e => by have := hone e; omega
       exact ⟨b, w', k1, k2, k3, k4, k5, k6, k7, .inl ⟨k8, by simp [V]⟩⟩
      ·exact h.elim
     ·rename_i agg m hz hag
      obtain ⟨hag0, _, _⟩ := gv hag
      obtain ⟨cs, hk, hsz, hpos, hag'⟩ := hvw _ _ _ h
      split at hk
      ·rename_i hle
       have hle' : o + n ≤ cs.length := Nat.le_of_ble_eq_true hle
       refine ⟨_, _, hk, ay.set (by rw [hr]; rfl) fun c hp a hv hrd hh hi => ?_⟩
       obtain ⟨b, w', k1, k2, k3, k4, k5, k6, k7, k8⟩ := common c hp a (qjs (ri cs o ps) agg) hv hh hi fun es he hl => by
        have hcs := u3 hag' he
        have hcl : es.length = cs.length := hcs.length
        refine ⟨by omega, fun N hN => ?_⟩
        have h3 : b9 c.J c.w (ri cs o ps) (es.take o ++ N ++ es.drop (o + n)) := by
         have := ((hcs.take o).append hN).append (hcs.drop (o + ps.length))
         rw [hpl] at this
         simpa [ri, hpl] using this
        refine u6 agg h3 fun e => ?_
        subst e
        rcases hag' with ⟨h1, _⟩ | ⟨_, _, rfl⟩
        ·rw [h1] at hag0; cases hag0
        ·simp only [List.length_cons, List.length_nil] at hle'
         simp only [ri, List.length_append, List.length_take, List.length_drop, List.length_cons, List.length_nil]
         omega
       exact ⟨b, w', k1, k2, k3, k4, k5, k6, k7, .inl ⟨k8, by simp [V]⟩⟩
      ·exact hk.elim
     ·exact h.elim
    ·exact h.elim
   ·exact h.elim
  ·exact h.elim
 ·exact h.elim
end
end Go.RX
namespace Go.RX
section
variable {P : Program} {ρ : Operand → AV} {rd : Nat → AO} {fresh : Nat} {dst : Option Tmp} {ty : TypeId} {pos : String} {after : Array Edge} {guard : Option (Nat × Bool)}
theorem ur {a b : o8} (h : qed a b = true) : a = b := by
 cases a <;> cases b <;> simp [qed] at h <;> simp [h]
inductive ew : o8 → PV → Value → Prop
 | bool (b : Bool) : ew .bool (.bool b) (.bool b)
 | int (k : IntKind) (n : Int) : ew (.int k) (.int k n) (.int k n)
 | str (s : ByteArray) : ew .str (.str s) (.string s)
 | str2 (s t : ByteArray) : ew .str2 (.agg [.str s, .str t]) (.agg #[.string s, .string t])
theorem kh {I : Bool → Nat → Prop} {w : World} {kk : o8} {k : PV} {v : Value} (h : isKey kk k = true) (hv : RoV I w k v) : ew kk k v := by
 unfold isKey at h
 split at h
 ·rcases hv with ⟨xs, C, he, _⟩ | ⟨_, hv⟩
  ·cases he
  ·simp [RoC] at hv; subst hv; exact .bool _
 ·have := of_decide_eq_true h
  subst this
  rcases hv with ⟨xs, C, he, _⟩ | ⟨_, hv⟩
  ·cases he
  ·simp [RoC] at hv; subst hv; exact .int _ _
 ·rcases hv with ⟨xs, C, he, _⟩ | ⟨_, hv⟩
  ·cases he
  ·simp [RoC] at hv; subst hv; exact .str _
 ·rename_i s t
  rcases hv with ⟨xs, C, he, rfl, hC⟩ | ⟨hx, _⟩
  ·injection he with he
   subst he
   simp only [b9, RoC] at hC
   obtain ⟨y, ys, h1, h2, z, zs, h3, h4, h5⟩ := hC
   simp at h2 h4
   subst h2 h4 h5 h3
   have : C = #[.string s, .string t] := by
    apply Array.ext'
    simpa using h1
   rw [this]
   exact .str2 s t
  ·exact absurd rfl (hx _)
 ·cases h
theorem sa {I : Bool → Nat → Prop} {w : World} {kk : o8} {k : PV} {v : Value} (h : ew kk k v) : RoV I w k v := by
 cases h with
 | bool b => exact .inr ⟨fun _ e => (by cases e), by simp [RoC]⟩
 | int k n => exact .inr ⟨fun _ e => (by cases e), by simp [RoC]⟩
 | str s => exact .inr ⟨fun _ e => (by cases e), by simp [RoC]⟩
 | str2 s t => exact .inl ⟨_, _, rfl, rfl, by simp [b9, RoC]⟩
theorem toList_inj {a b : ByteArray} (h : a.toList = b.toList) : a = b := by
 rw [ByteArray.toList_eq, ByteArray.toList_eq] at h
 exact ByteArray.ext (Array.ext' h)
theorem my {kt : TypeId} {kk : o8} (h : gq P kt = some kk) :
  (kk = .bool ∧ P.underlying kt = some .bool) ∨ (∃ k, kk = .int k ∧ P.underlying kt = some (.int k)) ∨ (kk = .str ∧ P.underlying kt = some .string) ∨
   (kk = .str2 ∧ ∃ e, P.underlying kt = some (.array 2 e) ∧ P.underlying e = some .string ∧ bx P e = some 1) := by
 unfold gq at h
 split at h
 ·rename_i hu; injection h with h; exact .inl ⟨h.symm, hu⟩
 ·rename_i k hu; injection h with h; exact .inr (.inl ⟨k, h.symm, hu⟩)
 ·rename_i hu; injection h with h; exact .inr (.inr (.inl ⟨h.symm, hu⟩))
 ·rename_i e hu
  split at h
  ·rename_i h1 h2; injection h with h; exact .inr (.inr (.inr ⟨h.symm, e, hu, h1, h2⟩))
  ·cases h
 ·cases h
theorem xv {kk : o8} {a b : PV} {u v : Value} (ha : ew kk a u) (hb : ew kk b v) (h : eqK a b = true) : a = b ∧ u = v := by
 cases ha <;> cases hb <;> simp only [eqK] at h
 ·have := eq_of_beq h; subst this; exact ⟨rfl, rfl⟩
 ·have := eq_of_beq h; subst this; exact ⟨rfl, rfl⟩
 ·have := toList_inj (eq_of_beq h); subst this; exact ⟨rfl, rfl⟩
 ·simp only [Bool.and_eq_true] at h
  have h1 := toList_inj (eq_of_beq h.1)
  have h2 := toList_inj (eq_of_beq h.2)
  subst h1 h2
  exact ⟨rfl, rfl⟩
theorem pk {e : TypeId} (he : P.underlying e = some .string) {C : Array Value} {i : Nat} {v : Value} (h : C[i]? = some v) (w : World) : (part e C i).run P w = .ok v w := by
 simp [part, isAgg, run_underlying he, h]
theorem r6 {kt e : TypeId} (h1 : P.underlying kt = some (.array 2 e)) (h2 : P.underlying e = some .string) (h3 : bx P e = some 1) (s t s' t' : ByteArray) (w : World) :
  (Op.equal kt (.agg #[.string s, .string t]) (.agg #[.string s', .string t'])).run P w = .ok (s.toList == s'.toList && t.toList == t'.toList) w := by
 have hi : ∃ i, P.info? e = some i ∧ i.size = 1 := by
  unfold bx at h3
  cases hi : P.info? e with
  | none => simp [hi] at h3
  | some i => simp [hi] at h3; exact ⟨i, rfl, h3⟩
 obtain ⟨i, hi, hs⟩ := hi
 have hc : P.cellsOf e = 1 := by simp [Program.cellsOf, hi, hs]
 rw [Op.equal, Op.maxDepth, run_equalIn_array w 9999 _ _ h1 hi, hc]
 simp only [List.range_succ, List.range_zero, List.nil_append, List.cons_append, Op.eqItems, Sem.run_bind]
 rw [pk h2 (v := .string s) (by simp)]
 simp only [Result.andThen_ok]
 rw [pk h2 (v := .string s') (by simp)]
 simp only [Result.andThen_ok, run_equalIn_string w 9998 e _ _ h2]
 cases hst : (s.toList == s'.toList) with
 | false => simp
 | true =>
  simp only [Bool.not_true, Bool.false_eq_true, if_false, Sem.run_bind]
  rw [pk h2 (v := .string t) (by simp)]
  simp only [Result.andThen_ok]
  rw [pk h2 (v := .string t') (by simp)]
  simp only [Result.andThen_ok, run_equalIn_string w 9998 e _ _ h2]
  cases htt : (t.toList == t'.toList) <;> simp
def ly (k : PV) : List (PV × PV) → Nat → Option Nat
 | [], _ => none
 | (x, _) :: r, i => match eqK k x with | true => some i | false => ly k r (i + 1)
def Found (I : Bool → Nat → Prop) (w : World) (key : PV) (u : Value) (xs : List (PV × PV)) (es : List MapEntry) (n : Nat) (r : Option (Nat × Value)) : Prop :=
 (look key xs = none ∧ r = none) ∨ (∃ i e x, look key xs = some x ∧ ly key xs n = some (n + i) ∧ es[i]? = some e ∧ e.key = u ∧ RoV I w x e.val ∧ r = some (n + i, e.val))
theorem Found.here {I : Bool → Nat → Prop} {w : World} {key : PV} {u : Value} {k x : PV} {xs : List (PV × PV)} {e : MapEntry} {es : List MapEntry} {n : Nat} (h : eqK key k = true) (hu : e.key = u) (hx : RoV I w x e.val) :
  Found I w key u ((k, x) :: xs) (e :: es) n (some (n, e.val)) :=
 .inr ⟨0, e, x, by simp [look, h], by simp [ly, h], rfl, hu, hx, rfl⟩
theorem Found.next {I : Bool → Nat → Prop} {w : World} {key : PV} {u : Value} {k x : PV} {xs : List (PV × PV)} {e : MapEntry} {es : List MapEntry} {n : Nat} {r : Option (Nat × Value)} (h : eqK key k = false) (hr : Found I w key u xs es (n + 1) r) :
  Found I w key u ((k, x) :: xs) (e :: es) n r := by
 rcases hr with ⟨h1, h2⟩ | ⟨i, e', x', h1, h2, h3, h4, h5, h6⟩
 ·exact .inl ⟨by simp [look, h, h1], h2⟩
 ·exact .inr ⟨i + 1, e', x', by simp [look, h, h1], by simp [ly, h, h2]; omega, by simpa using h3, h4, h5, by rw [h6]; simp; omega⟩
theorem yv {kt : TypeId} {d : TypeDesc} {kk : o8} (hd : P.underlying kt = some d) (hk : gq P kt = some kk) (hne : kk ≠ .str2) {a b : PV} {u v : Value} (ha : ew kk a u) (hb : ew kk b v) :
  Instr.sameNow d u v = some (eqK a b) := by
 rcases my hk with ⟨rfl, h⟩ | ⟨k, rfl, h⟩ | ⟨rfl, h⟩ | ⟨h, _⟩
 ·rw [hd] at h; injection h with h; subst h; cases ha; cases hb; rfl
 ·rw [hd] at h; injection h with h; subst h; cases ha; cases hb; simp [Instr.sameNow, eqK]
 ·rw [hd] at h; injection h with h; subst h; cases ha; cases hb; simp only [Instr.sameNow, eqK, beq_toListBytes]
 ·exact absurd h hne
theorem sk {kt : TypeId} {d : TypeDesc} {kk : o8} (hd : P.underlying kt = some d) (hk : gq P kt = some kk) (hne : kk ≠ .str2) {I : Bool → Nat → Prop} {w : World} {key : PV} {u : Value} (hu : ew kk key u) :
  ∀ (xs : List (PV × PV)) (es : List MapEntry) (n : Nat), ez I w kk xs es → ∃ r, Instr.findNow d u es n = some r ∧ Found I w key u xs es n r
 | [], es, n, h => by
  simp [ez] at h
  subst h
  exact ⟨none, rfl, .inl ⟨rfl, rfl⟩⟩
 | (k, x) :: xs, es, n, h => by
  obtain ⟨e, es', rfl, h0, h1, h2, h3⟩ := h
  have hkv := kh h0 h1
  have hs := yv hd hk hne hu hkv
  cases he : eqK key k with
  | true =>
   rw [he] at hs
   exact ⟨some (n, e.val), by simp [Instr.findNow, hs], Found.here he (xv hu hkv he).2.symm h2⟩
  | false =>
   rw [he] at hs
   obtain ⟨r, h4, h5⟩ := sk hd hk hne hu xs es' (n + 1) h3
   exact ⟨r, by simp [Instr.findNow, hs, h4], Found.next he h5⟩
theorem mu {kt : TypeId} (hk : gq P kt = some .str2) {I : Bool → Nat → Prop} {w0 : World} {key : PV} {u : Value} (hu : ew .str2 key u) (w : World) :
  ∀ (xs : List (PV × PV)) (es : List MapEntry) (n : Nat), ez I w0 .str2 xs es → ∃ r, (Instr.findAsking kt u es n).run P w = .ok r w ∧ Found I w0 key u xs es n r
 | [], es, n, h => by
  simp [ez] at h
  subst h
  exact ⟨none, rfl, .inl ⟨rfl, rfl⟩⟩
 | (k, x) :: xs, es, n, h => by
  obtain ⟨e, es', rfl, h0, h1, h2, h3⟩ := h
  have hkv := kh h0 h1
  have heq : (Op.equal kt u e.key).run P w = .ok (eqK key k) w := by
   rcases my hk with ⟨h, _⟩ | ⟨_, h, _⟩ | ⟨h, _⟩ | ⟨_, el, h4, h5, h6⟩
   ·cases h
   ·cases h
   ·cases h
   ·generalize e.key = v at hkv
    cases hu
    cases hkv
    exact r6 h4 h5 h6 _ _ _ _ w
  cases he : eqK key k with
  | true =>
   rw [he] at heq
   exact ⟨some (n, e.val), by simp [Instr.findAsking, heq], Found.here he (xv hu hkv he).2.symm h2⟩
  | false =>
   rw [he] at heq
   obtain ⟨r, h4, h5⟩ := mu hk hu w xs es' (n + 1) h3
   exact ⟨r, by simp [Instr.findAsking, heq, h4], Found.next he h5⟩
theorem om {e : TypeId} {s t : ByteArray} : ∀ (es : List MapEntry) (n : Nat), Instr.findNow (.array 2 e) (.agg #[.string s, .string t]) es n = (match es with | [] => some none | _ => none)
 | [], _ => rfl
 | _ :: _, _ => rfl
theorem qax {kt : TypeId} {kk : o8} (hk : gq P kt = some kk) {I : Bool → Nat → Prop} {w0 : World} {key : PV} {u : Value} (hu : ew kk key u) (w : World)
  {xs : List (PV × PV)} {es : List MapEntry} (h : ez I w0 kk xs es) : ∃ r, (Instr.findKey kt u es).run P w = .ok r w ∧ Found I w0 key u xs es 0 r := by
 have hd : ∃ d, P.underlying kt = some d := by
  rcases my hk with ⟨_, h⟩ | ⟨_, _, h⟩ | ⟨_, h⟩ | ⟨_, e, h, _⟩ <;> exact ⟨_, h⟩
 obtain ⟨d, hd⟩ := hd
 by_cases hne : kk = .str2
 ·subst hne
  rcases my hk with ⟨h', _⟩ | ⟨_, h', _⟩ | ⟨h', _⟩ | ⟨_, el, h4, h5, h6⟩
  ·cases h'
  ·cases h'
  ·cases h'
  ·rw [hd] at h4
   injection h4 with h4
   subst h4
   obtain ⟨r, h7, h8⟩ := mu hk hu w xs es 0 h
   cases hu with
   | str2 s t =>
    cases es with
    | nil =>
     refine ⟨r, ?_, h8⟩
     have : r = none := by
      simp [Instr.findAsking] at h7
      exact h7.symm
     subst this
     simp [Instr.findKey, run_underlying hd, om]
    | cons e es =>
     refine ⟨r, ?_, h8⟩
     simp only [Instr.findKey, Sem.run_bind, run_underlying hd, Result.andThen_ok, om]
     exact h7
 ·obtain ⟨r, h4, h5⟩ := sk hd hk hne hu xs es 0 h
  exact ⟨r, by simp [Instr.findKey, run_underlying hd, h4], h5⟩
theorem uq {kt : TypeId} {kk : o8} (hk : gq P kt = some kk) {key : PV} {u : Value} (hu : ew kk key u) (b : Bool) (d : Nat) (w : World) : (Instr.checkKey b (d + 2) kt u).run P w = .ok () w := by
 rcases my hk with ⟨rfl, h⟩ | ⟨k, rfl, h⟩ | ⟨rfl, h⟩ | ⟨rfl, e, h4, h5, h6⟩
 ·cases hu; simp [Instr.checkKey, run_underlying h]
 ·cases hu; simp [Instr.checkKey, run_underlying h]
 ·cases hu; simp [Instr.checkKey, run_underlying h]
 ·cases hu
  simp only [Instr.checkKey, Sem.run_bind, run_underlying h4, Result.andThen_ok]
  simp only [Std.Legacy.Range.forIn_eq_forIn_range', Std.Legacy.Range.size, Nat.sub_zero, Nat.add_one_sub_one, Nat.div_one]
  rw [show List.range' 0 2 = [0, 1] from rfl]
  simp [bz h6, part, isAgg, run_underlying h5]
theorem run_checkKey {kt : TypeId} {kk : o8} (hk : gq P kt = some kk) {key : PV} {u : Value} (hu : ew kk key u) (b : Bool) (w : World) : (Instr.checkKey b 10000 kt u).run P w = .ok () w :=
 uq hk hu b 9998 w
theorem o9 {c : Cx} {x : AV} {key : PV} {u : Value} (h : V c x u) (hp : s7 x = some key) : RoV c.J c.w key u := by
 unfold s7 at hp
 split at hp
 ·cases hp
 ·rename_i y hna
  injection hp with hp
  subst hp
  simp only [V] at h
  exact .inr ⟨fun xs e => hna xs e, h⟩
 ·rename_i cs
  rw [Option.map_eq_some_iff] at hp
  obtain ⟨ys, h1, rfl⟩ := hp
  have := fj h1
  subst this
  simp only [V] at h
  obtain ⟨C, rfl, h2, _⟩ := h
  exact .inl ⟨ys, C, rfl, rfl, (c6 _ _).1 h2⟩
 ·cases hp
theorem zc {c : Cx} {x : PV} {u : Value} {agg : Bool} {cs : List PV} (h : RoV c.J c.w x u) (ha : (agg = true ∧ x = .agg cs) ∨ (agg = false ∧ (∀ xs, x ≠ .agg xs) ∧ cs = [x])) :
  V c (dh agg (cs.map .p)) u := by
 rcases ha with ⟨rfl, rfl⟩ | ⟨rfl, hx, rfl⟩
 ·rcases h with ⟨xs, C, he, rfl, h2⟩ | ⟨hx, _⟩
  ·injection he with he
   subst he
   simp only [dh, V]
   exact ⟨C, rfl, (c6 _ _).2 h2, b9.yo _ _ h2⟩
  ·exact absurd rfl (hx _)
 ·rcases h with ⟨xs, C, he, _⟩ | ⟨_, h2⟩
  ·exact absurd he (hx _)
  ·simpa [dh, V] using h2
theorem rz {v : Value} {x : PV} (h : ofConst v = some x) : ∀ xs, x ≠ .agg xs := by
 intro xs e
 subst e
 unfold ofConst at h
 split at h <;> simp at h
theorem ky {e : TypeId} {x : PV} (hz : jc P e = some x) (I : Bool → Nat → Prop) (w : World) : ∃ z, r9 P e = some z ∧ RoV I w x z := by
 unfold jc at hz
 split at hz
 ·rename_i C h
  rw [Option.map_eq_some_iff] at hz
  obtain ⟨xs, h1, rfl⟩ := hz
  exact ⟨_, h, .inl ⟨xs, C, rfl, rfl, lh h1⟩⟩
 ·rename_i v _ h
  exact ⟨v, h, .inr ⟨rz hz, m6 hz⟩⟩
 ·cases hz
theorem qb3 (env : Env) (hP : env.P = P) (hvw : qhn P env.vw) (t : TypeId) (m k : Operand) (ok : Bool) {K : KA} (h : yh env rd t (ρ m) (ρ k) ok K) :
  ∃ v, K v [] ∧ ay P ⟨dst, .lookup t m k ok, ty, pos, after, guard⟩ ρ rd fresh v [] := by
 unfold yh at h
 rw [hP] at h
 split at h
 ·rename_i kt e ht
  split at h
  ·rename_i kk agg z key hkk hag hz hkey
   split at h
   ·rename_i id hm
    split at h
    ·rename_i kk' es hr
     split at h
     ·rename_i hsk
      simp only [Bool.and_eq_true] at hsk
      have := ur hsk.1
      subst this
      obtain ⟨cs, hk, hsz, hpos, hag'⟩ := hvw _ _ _ h
      have hag2 : (agg = true ∧ (look key es).getD z = .agg cs) ∨ (agg = false ∧ (∀ xs, (look key es).getD z ≠ .agg xs) ∧ cs = [(look key es).getD z]) := by
       rcases hag' with ⟨h1, h2⟩ | ⟨h1, h2⟩
       ·rw [hag] at h1; injection h1 with h1; exact .inl ⟨h1, h2⟩
       ·rw [hag] at h1; injection h1 with h1; exact .inr ⟨h1, h2⟩
      have run : ∀ (c : Cx) (hp : HP) (a : Act), (∀ x ∈ (Op.lookup t m k ok).operands, V c (ρ x) (a.eval x)) → (∀ i, rd i ≠ .dead → hp i = some (rd i)) → HR c hp →
        ∃ u, RoV c.J c.w ((look key es).getD z) u ∧ (Instr.lookup t (a.eval m) (a.eval k) ok).run P c.w = .ok (if ok then .tuple #[u, .bool (look key es).isSome] else u) c.w := by
       intro c hp a hv hrd hh
       have e1 := hv m (by simp [Op.operands])
       have e2 := o9 (hv k (by simp [Op.operands])) hkey
       rw [hm] at e1
       simp only [V] at e1
       obtain ⟨_, b, h4, h5⟩ := e1
       have h6 := (hh.obj id _ (hrd id (by rw [hr]; simp))).2
       rw [hr, h4] at h6
       simp only [OR] at h6
       obtain ⟨E, cl, h7, h8⟩ := h6
       have hu := kh hsk.2 e2
       obtain ⟨r, h9, h10⟩ := qax (P := P) hkk hu c.w h8
       obtain ⟨zv, h11, h12⟩ := ky hz c.J c.w
       have hget : (getObj b).run P c.w = .ok (.map E cl) c.w := by simp [getObj, Sem.run, h7]
       rcases h10 with ⟨h13, rfl⟩ | ⟨i, en, x, h13, _, _, _, h14, rfl⟩
       ·refine ⟨zv, by rw [h13]; exact h12, ?_⟩
        simp [Instr.lookup, run_underlying ht, h5, hget, run_checkKey hkk hu, h9, ev h11, h13]
       ·refine ⟨en.val, by rw [h13]; exact h14, ?_⟩
        simp [Instr.lookup, run_underlying ht, h5, hget, run_checkKey hkk hu, h9, h13]
      cases ok with
      | true =>
       refine ⟨_, hk, ay.pure fun c hp a hv hrd hh => ?_⟩
       obtain ⟨u, h1, h2⟩ := run c hp a hv hrd hh
       refine ⟨.tuple #[u, .bool (look key es).isSome], by simp [execOp, h2], ?_⟩
       simp only [V, Vs]
       exact ⟨_, rfl, _, _, rfl, zc h1 hag2, _, _, rfl, by simp [RoC], rfl⟩
      | false =>
       refine ⟨_, hk, ay.pure fun c hp a hv hrd hh => ?_⟩
       obtain ⟨u, h1, h2⟩ := run c hp a hv hrd hh
       exact ⟨u, by simp [execOp, h2], zc h1 hag2⟩
     ·exact h.elim
    ·exact h.elim
   ·exact h.elim
  ·exact h.elim
 ·exact h.elim
theorem wm {kk : o8} {a : PV} {u : Value} (h : ew kk a u) (d : Nat) : Instr.sameBits (d + 1) u u = true := by
 cases h <;> simp [Instr.sameBits, beq_toListBytes]
theorem qa1 {I : Bool → Nat → Prop} {w : World} {kk : o8} {key x : PV} {u v : Value} (hk : isKey kk key = true) (hu : ew kk key u) (hx : RoV I w x v) :
  ∀ (xs : List (PV × PV)) (es : List MapEntry), ez I w kk xs es →
   (∀ n, ly key xs n = none → ∀ born, ez I w kk (nj key x xs) (es ++ [{ key := u, val := v, born := born }])) ∧
   (∀ n i, ly key xs n = some (n + i) → ez I w kk (nj key x xs) (es.modify i fun e => { e with key := u, val := v }))
 | [], es, h => by
  simp [ez] at h
  subst h
  refine ⟨fun n _ born => ?_, fun n i h => by simp [ly] at h⟩
  simp only [nj, ez, List.nil_append]
  exact ⟨_, [], rfl, hk, sa hu, hx, rfl⟩
 | (k, y) :: xs, es, h => by
  obtain ⟨e, es', rfl, h0, h1, h2, h3⟩ := h
  have ih := qa1 hk hu hx xs es' h3
  have hkv := kh h0 h1
  cases he : eqK key k with
  | true =>
   refine ⟨fun n h => by simp [ly, he] at h, fun n i h => ?_⟩
   have hi : i = 0 := by simp [ly, he] at h; exact h
   subst hi
   simp only [nj, he, List.modify_zero_cons, ez]
   obtain ⟨e1, e2⟩ := xv hu hkv he
   exact ⟨_, es', rfl, h0, by rw [← e1]; exact sa hu, hx, h3⟩
  | false =>
   refine ⟨fun n h born => ?_, fun n i h => ?_⟩
   ·simp [ly, he] at h
    have := ih.1 (n + 1) h born
    simp only [nj, he, ez, List.cons_append]
    exact ⟨e, _, rfl, h0, h1, h2, this⟩
   ·simp only [ly, he] at h
    cases i with
    | zero =>
     exfalso
     have mono : ∀ (xs : List (PV × PV)) (n j : Nat), ly key xs n = some j → n ≤ j := by
      intro xs
      induction xs with
      | nil => intro n j h; simp [ly] at h
      | cons p xs ih =>
       intro n j h
       obtain ⟨a, b⟩ := p
       simp only [ly] at h
       split at h
       ·injection h with h; omega
       ·have := ih (n + 1) j h; omega
     have := mono xs (n + 1) _ h
     omega
    | succ i =>
     have := ih.2 (n + 1) i (by rw [h]; congr 1; omega)
     simp only [nj, he, ez, List.modify_succ_cons]
     exact ⟨e, _, rfl, h0, h1, h2, this⟩
theorem sq {key : PV} : ∀ (xs : List (PV × PV)) (n : Nat), look key xs = none → ly key xs n = none
 | [], _, _ => rfl
 | (k, y) :: xs, n, h => by
  simp only [look] at h
  split at h
  ·cases h
  ·rename_i he
   simp only [ly, he]
   exact sq xs (n + 1) h
theorem qb4 (env : Env) (hP : env.P = P) (t : TypeId) (m k x : Operand) {K : KA} (h : yi env rd t (ρ m) (ρ k) (ρ x) K) :
  ∃ i ao, K .undef [(i, ao)] ∧ ay P ⟨dst, .mapUpdate t m k x, ty, pos, after, guard⟩ ρ rd fresh .undef [(i, ao)] := by
 unfold yi at h
 rw [hP] at h
 split at h
 ·rename_i kt e ht
  split at h
  ·rename_i kk key y id hkk hkey hy hm
   split at h
   ·rename_i kk' es hr
    split at h
    ·rename_i hsk
     simp only [Bool.and_eq_true] at hsk
     have := ur hsk.1
     subst this
     refine ⟨_, _, h, ay.set (by rw [hr]; rfl) fun c hp a hv hrd hh hi => ?_⟩
     have e1 := hv m (by simp [Op.operands])
     have e2 := o9 (hv k (by simp [Op.operands])) hkey
     have e3 := o9 (qcn (hv x (by simp [Op.operands]))) hy
     rw [hm] at e1
     simp only [V] at e1
     obtain ⟨_, b, h4, h5⟩ := e1
     have h6 := (hh.obj id _ hi).2
     rw [hr, h4] at h6
     simp only [OR] at h6
     obtain ⟨E, cl, h7, h8⟩ := h6
     have hu := kh hsk.2 e2
     obtain ⟨r, h9, h10⟩ := qax (P := P) hkk hu c.w h8
     have hget : (getObj b).run P c.w = .ok (.map E cl) c.w := by simp [getObj, Sem.run, h7]
     have hbs : b < c.w.heap.size := (Array.getElem?_eq_some_iff.1 h7).1
     have hset : ∀ o, (setObj b o).run P c.w = .ok () { c.w with heap := c.w.heap.setIfInBounds b o } := fun o => by simp [setObj, Sem.run, h7]
     have hsm := qa1 (I := c.J) (w := c.w) hsk.2 hu e3 es E.toList h8
     have fin : ∀ E' cl', (Instr.mapUpdate t (a.eval m) (a.eval k) (a.eval x)).run P c.w = .ok () { c.w with heap := c.w.heap.setIfInBounds b (.map E' cl') } → ez c.J c.w kk (nj key y es) E'.toList →
       ∃ b' w', (c.β id).block = some b' ∧ w'.os = c.w.os ∧ w'.tape = c.w.tape ∧ w'.output = c.w.output ∧ c.w.heap.size ≤ w'.heap.size ∧ (∀ k, k < c.w.heap.size → k ≠ b' → w'.heap[k]? = c.w.heap[k]?) ∧
        OR (c.with w') (.map kk (nj key y es)) (c.β id) ∧ (((execOp a.eval ⟨dst, .mapUpdate t m k x, ty, pos, after, guard⟩).run P c.w = .ok .skip w' ∧ V (c.with w') .undef undef) ∨ ∃ u, (execOp a.eval ⟨dst, .mapUpdate t m k x, ty, pos, after, guard⟩).run P c.w = .ok (.value u) w' ∧ (Ext c (c.with w') → V (c.with w') .undef u)) := by
      intro E' cl' hrun hmap
      have hother : ∀ k, k < c.w.heap.size → k ≠ b → ({ c.w with heap := c.w.heap.setIfInBounds b (.map E' cl') } : World).heap[k]? = c.w.heap[k]? := by
       intro k _ hk
       simp only []
       rw [Array.getElem?_setIfInBounds_ne (fun e => hk e.symm)]
      refine ⟨b, { c.w with heap := c.w.heap.setIfInBounds b (.map E' cl') }, by rw [h4]; rfl, rfl, rfl, rfl, by simp, hother, ?_, .inl ⟨by simp [execOp, hrun], by simp [V]⟩⟩
      have ext := oc hh ⟨_, hi, by rw [hr]; rfl⟩ (b := b) (by rw [h4]; rfl) hother
      rw [h4]
      simp only [OR]
      refine ⟨E', cl', ?_, ez.mono ext.J ext.jb _ _ hmap⟩
      simp only [Cx.with]
      rw [Array.getElem?_setIfInBounds]
      simp [hbs]
     rcases h10 with ⟨h13, rfl⟩ | ⟨i, en, xx, h13, h14, h15, h16, _, rfl⟩
     ·refine fin (E.push { key := a.eval k, val := a.eval x, born := cl }) (cl + 1) ?_ ?_
      ·simp [Instr.mapUpdate, run_underlying ht, h5, hget, run_checkKey hkk hu, h9, hset]
      ·simpa using hsm.1 0 (sq es 0 h13) cl
     ·have h17 : E[i]? = some en := by simpa using h15
      refine fin (E.modify i fun e => { e with key := a.eval k, val := a.eval x }) cl ?_ ?_
      ·have hst : (Instr.keyThatStays (a.eval k) (a.eval k)).run P c.w = .ok (a.eval k) c.w := by
        simp only [Instr.keyThatStays]
        rw [show (10000 : Nat) = 9999 + 1 from rfl, wm hu 9999]
        rfl
       simp [Instr.mapUpdate, run_underlying ht, h5, hget, run_checkKey hkk hu, h9, h17, h16, hst, hset]
      ·have := hsm.2 0 i (by simpa using h14)
       simpa [Array.toList_modify] using this
    ·exact h.elim
   ·exact h.elim
  ·exact h.elim
 ·exact h.elim
end
end Go.RX
