/- A verified interpreter of the model's Code: what it makes of a function, the model does. No condition. -/
import Derived.Orders
import Derived.OwnWalk
import Derived.Laws.OwnMore
import Derived.Below
import Derived.Laws.Entries
import Derived.Laws.Tables
import Derived.Laws.StructEq
import Derived.ChangeKeysEq
set_option linter.all false
namespace Go.RX
inductive PV where
  | bool (b : Bool)
  | int (k : IntKind) (n : Int)
  | str (s : ByteArray)
  | nilp | nils | nilm | nilf | nili
  | arr (m : Bool) (n : Nat) (get : Nat → PV)
  | agg (cs : List PV)
inductive AV where
  | undef
  | p (x : PV)
  | ptr (id off : Nat)
  | eptr (id i c : Nat)
  | rop (cs : List PV)
  | row (id : Nat)
  | map (id : Nat)
  | iter (id : Nat)
  | func (fn : Fn) (first captured : List AV)
  | agg (cs : List AV)
  | tup (cs : List AV)
  | iface (t : TypeId) (v : AV)
inductive KeyK where
  | bool
  | int (k : IntKind)
  | str
  | str2
inductive AO where
  | dead
  | box (cs : List AV)
  | row (e sz : Nat) (xs : List PV)
  | ice (sz : Nat) (xs : List PV)
  | map (kk : KeyK) (es : List (PV × PV))
  | iter (s : ByteArray) (pos : Nat)
structure St where
  sl : List (Nat × AV)
  hp : List AO
def getSl : List (Nat × AV) → Nat → AV
  | [], _ => .undef
  | (k, v) :: r, t => match Nat.beq k t with | true => v | false => getSl r t
def getO : List AO → Nat → AO
  | [], _ => .dead
  | o :: _, 0 => o
  | _ :: r, n + 1 => getO r n
def setO : List AO → Nat → AO → List AO
  | [], _, _ => []
  | _ :: r, 0, x => x :: r
  | o :: r, n + 1, x => o :: setO r n x
def writeO (h : List AO) : List (Nat × AO) → List AO
  | [] => h
  | (i, o) :: r => writeO (match Nat.blt i h.length with | true => setO h i o | false => h ++ [o]) r
def St.put (s : St) (d : Option Tmp) (v : AV) : St :=
  match d with
  | some t => { s with sl := (t, v) :: s.sl }
  | none => s
inductive Ex where
  | normal
  | exit (id : Nat)
  | ret
  | goto (l : Nat)
  deriving Inhabited
abbrev KA := AV → List (Nat × AO) → Prop
abbrev PlainT := TypeId → List PV → List PV → Option Bool
structure Env where
  P : Program
  nt : Nat
  n0 : Nat
  weak : FuncId → Bool
  weakB : FuncId → Bool
  vw : TypeId → PV → (List PV → Prop) → Prop
  C : FuncId → List AV → List AO → (AV → List AO → Prop) → Prop
  X : String → List AV → (AV → Prop) → Prop
  S : Oper → (Operand → AV) → (Nat → AO) → Nat → KA → Prop
  pre : Oper → St → St
  L : Nat → St → (Ex → St → Prop) → Prop
  G : Nat → St → (Ex → St → Prop) → Prop
  lloop : Nat → List Nat
  lexit : Nat → Nat → List Nat
  lret : List Nat
  thaw : Nat → List (Nat × (Nat × Option Nat))
  anc : Nat → List Nat
def ofConst : Value → Option PV
  | .bool b => some (.bool b)
  | .int k n => some (.int k n)
  | .string s => some (.str s)
  | .slice none 0 0 => some .nils
  | .pointer none => some .nilp
  | .map none => some .nilm
  | .nilFunc => some .nilf
  | .nilIface => some .nili
  | _ => none
def ofConsts : List Value → Option (List PV)
  | [] => some []
  | v :: r => match ofConst v, ofConsts r with
    | some x, some xs => some (x :: xs)
    | _, _ => none
def constAV : Value → AV
  | .agg C => match ofConsts C.toList with
    | some xs => .agg (xs.map .p)
    | none => .undef
  | v => match ofConst v with
    | some x => .p x
    | none => .undef
def evalA (sl : List (Nat × AV)) : Operand → AV
  | .tmp t => getSl sl t
  | .const v => constAV v
  | .global _ => .undef
  | .func f => .func (.func f) [] []
def cellsOf : AV → Option (List AV)
  | .undef => none
  | .tup _ => none
  | .agg cs => some cs
  | v => some [v]
def pureCells : List AV → Option (List PV)
  | [] => some []
  | .p x :: r => (pureCells r).map (x :: ·)
  | _ => none
def pureOf : AV → Option PV
  | .p (.agg _) => none
  | .p x => some x
  | .agg cs => (pureCells cs).map .agg
  | _ => none
def isAggT (P : Program) (t : TypeId) : Option Bool :=
  match P.underlying t with
  | some (.struct _) | some (.array _ _) => some true
  | some _ => some false
  | none => none
def sizeT (P : Program) (t : TypeId) : Option Nat := (P.info? t).map (·.size)
def bytesT (P : Program) (t : TypeId) : Option Nat := (P.info? t).map (·.bytes)
def zeroT (P : Program) (t : TypeId) : Option Value := (P.info? t).bind (·.zero)
def shapeT (P : Program) (t : TypeId) : Option (Bool × Nat) :=
  match isAggT P t, sizeT P t with
  | some true, some n => some (true, n)
  | some false, some n => match Nat.beq n 1 with | true => some (false, n) | false => none
  | _, _ => none
def cut {α : Type} (cs : List α) (off n : Nat) : List α := (cs.drop off).take n
def ofCells (agg : Bool) : List AV → AV
  | cs => match agg, cs with
    | true, cs => .agg cs
    | false, [x] => x
    | false, _ => .undef
def boolOf (v : AV) (K : Bool → Prop) : Prop :=
  match v with
  | .p (.bool true) => K true
  | .p (.bool false) => K false
  | _ => False
end Go.RX
namespace Go.RX
mutual
def idsAV : AV → List Nat
  | .ptr i _ => [i]
  | .eptr i _ _ => [i]
  | .row i => [i]
  | .map i => [i]
  | .iter i => [i]
  | .func _ f c => idsAVs f ++ idsAVs c
  | .agg cs => idsAVs cs
  | .tup cs => idsAVs cs
  | .iface _ v => idsAV v
  | _ => []
def idsAVs : List AV → List Nat
  | [] => []
  | x :: r => idsAV x ++ idsAVs r
end
def idsAO : AO → List Nat
  | .box cs => idsAVs cs
  | _ => []
mutual
def renAV (f : Nat → Option Nat) : AV → AV
  | .undef => .undef
  | .p x => .p x
  | .rop cs => .rop cs
  | .ptr i o => match f i with | some j => .ptr j o | none => .undef
  | .eptr i a b => match f i with | some j => .eptr j a b | none => .undef
  | .row i => match f i with | some j => .row j | none => .undef
  | .map i => match f i with | some j => .map j | none => .undef
  | .iter i => match f i with | some j => .iter j | none => .undef
  | .func fn a b => .func fn (renAVs f a) (renAVs f b)
  | .agg cs => .agg (renAVs f cs)
  | .tup cs => .tup (renAVs f cs)
  | .iface t v => .iface t (renAV f v)
def renAVs (f : Nat → Option Nat) : List AV → List AV
  | [] => []
  | x :: r => renAV f x :: renAVs f r
end
def renAO (f : Nat → Option Nat) : AO → AO
  | .box cs => .box (renAVs f cs)
  | o => o
def renAOs (f : Nat → Option Nat) : List AO → List AO
  | [] => []
  | o :: r => renAO f o :: renAOs f r
def renSl (f : Nat → Option Nat) : List (Nat × AV) → List (Nat × AV)
  | [] => []
  | (t, v) :: r => (t, renAV f v) :: renSl f r
def mem (i : Nat) : List Nat → Bool
  | [] => false
  | j :: r => match Nat.beq i j with | true => true | false => mem i r
def place : List Nat → Nat → Option Nat
  | [], _ => none
  | j :: r, i => match Nat.beq j i with | true => some 0 | false => (place r i).map (· + 1)
def reach (rd : Nat → AO) : Nat → List Nat → List Nat → List Nat
  | 0, _, acc => acc
  | _ + 1, [], acc => acc
  | n + 1, i :: r, acc => match mem i acc with
    | true => reach rd n r acc
    | false => reach rd n (idsAO (rd i) ++ r) (acc ++ [i])
def idsOfs (rd : Nat → AO) : List Nat → List Nat
  | [] => []
  | i :: r => idsAO (rd i) ++ idsOfs rd r
def upto : Nat → List Nat
  | 0 => []
  | n + 1 => upto n ++ [n]
def slVals : List (Nat × AV) → List AV
  | [] => []
  | (_, v) :: r => v :: slVals r
def pick (h : List AO) : List Nat → List AO
  | [] => []
  | i :: r => getO h i :: pick h r
def keepSl (sl : List (Nat × AV)) : List Nat → List (Nat × AV)
  | [] => []
  | t :: r => (t, getSl sl t) :: keepSl sl r
def nodup : List Nat → Bool
  | [] => true
  | i :: r => match mem i r with | true => false | false => nodup r
def allBelow (n : Nat) : List Nat → Bool
  | [] => true
  | i :: r => match Nat.blt i n with | true => allBelow n r | false => false
def prefixIs : Nat → List Nat → Nat → Bool
  | 0, _, _ => true
  | _ + 1, [], _ => false
  | n + 1, j :: r, a => match Nat.beq j a with | true => prefixIs n r (a + 1) | false => false
def thawAt (P : Program) (e : Nat) (s : St) : Nat × Option Nat → St
  | (t, none) => match getSl s.sl t with
    | .p .nils => match sizeT P e with
      | some sz => match Nat.blt 0 sz with
        | true => ⟨(t, .row s.hp.length) :: s.sl, s.hp ++ [.row e sz []]⟩
        | false => s
      | none => s
    | _ => s
  | (t, some c) => match getSl s.sl t with
    | .ptr id _ => match getO s.hp id with
      | .box cs => match cs[c]? with
        | some (.p .nils) => match sizeT P e with
          | some sz => match Nat.blt 0 sz with
            | true => ⟨s.sl, setO s.hp id (.box (cs.set c (.row s.hp.length))) ++ [.row e sz []]⟩
            | false => s
          | none => s
        | _ => s
      | _ => s
    | _ => s
def canon (n0 : Nat) (s : St) (K : St → Prop) : Prop :=
  let L := reach (getO s.hp) 1000 (idsOfs (getO s.hp) (upto n0) ++ idsAVs (slVals s.sl)) (upto n0)
  match nodup L && prefixIs n0 L 0 && allBelow s.hp.length L with
  | true => K ⟨renSl (place L) s.sl, renAOs (place L) (pick s.hp L)⟩
  | false => False
end Go.RX
namespace Go.RX
def fieldsT (P : Program) (t : TypeId) : Option (List (Nat × TypeId × Bool)) :=
  match P.underlying t with
  | some (.struct fs) => some (fs.toList.map fun f => (f.offset, f.type, !(f.name == "_")))
  | _ => none
def byteAt (s : ByteArray) (i : Nat) : Int := (((s.data.toList[i]?).getD 0).toNat : Int)
def splice (cs : List AV) (off : Nat) (new : List AV) : List AV := cs.take off ++ new ++ cs.drop (off + new.length)
def spliceP (cs : List PV) (off : Nat) (new : List PV) : List PV := cs.take off ++ new ++ cs.drop (off + new.length)
def mkPV : List PV → Bool → PV
  | cs, true => .agg cs
  | [x], false => x
  | _, false => .nilp
def weak1 : AV → AV
  | .p .nils => .p (.arr true 0 fun _ => .nilp)
  | v => v
def weakA : AV → AV
  | .agg cs => .agg (cs.map weak1)
  | v => weak1 v
def zeroCells (P : Program) (t : TypeId) : Option (List PV) :=
  match zeroT P t with
  | some (.agg C) => ofConsts C.toList
  | some v => (ofConst v).map ([·])
  | none => none
def zeroPV (P : Program) (t : TypeId) : Option PV :=
  match zeroT P t with
  | some (.agg C) => (ofConsts C.toList).map .agg
  | some v => ofConst v
  | none => none
def fillA (at_ : Nat → Option (Nat × Nat)) (cs : List AV) : List (Nat × AV) → Option (List AV)
  | [] => some cs
  | (i, v) :: r => match at_ i with
    | some (off, size) => match cellsOf v with
      | some us => match Nat.beq us.length size && Nat.ble (off + size) cs.length with
        | true => fillA at_ (splice cs off us) r
        | false => none
      | none => none
    | none => none
def fieldAt (P : Program) (t : TypeId) (i : Nat) : Option (Nat × Nat) :=
  match fieldsT P t with
  | some fs => match fs[i]? with
    | some (off, ft, _) => (sizeT P ft).map fun n => (off, n)
    | none => none
  | none => none
def placesT (P : Program) (t : TypeId) : Option (Nat → Option (Nat × Nat)) :=
  match P.underlying t with
  | some (.struct fs) => (fs.toList.mapM fun f => (P.info? f.type).map fun i => (f.offset, i.size)).map fun l i => l[i]?
  | some (.array _ e) => (sizeT P e).map fun n i => some (i * n, n)
  | _ => none
def pvSize : PV → Nat
  | .agg cs => cs.length
  | _ => 1
def elemsA (sz : Nat) : List PV → List (Nat × AV) → Option (List PV)
  | xs, [] => some xs
  | xs, (i, v) :: r => match pureOf (weakA v) with
    | some x => match Nat.beq (pvSize x) sz && Nat.blt i xs.length with
      | true => elemsA sz (xs.set i x) r
      | false => none
    | none => none
def eqS : PV → PV → Option Bool
  | .bool a, .bool b => some (a == b)
  | .int k a, .int k' b => match decide (k = k') with | true => some (a == b) | false => none
  | .str a, .str b => some (a.toList == b.toList)
  | _, _ => none
def eqC : List PV → List PV → Option Bool
  | [], [] => some true
  | [x], [y] => eqS x y
  | x :: xs, y :: ys => match eqS x y, eqC xs ys with
    | some a, some b => some (a && b)
    | _, _ => none
  | _, _ => none
def eqK : PV → PV → Bool
  | .bool a, .bool b => a == b
  | .int _ a, .int _ b => a == b
  | .str a, .str b => a.toList == b.toList
  | .agg [.str a, .str c], .agg [.str b, .str d] => a.toList == b.toList && c.toList == d.toList
  | _, _ => false
def isKey : KeyK → PV → Bool
  | .bool, .bool _ => true
  | .int k, .int j _ => decide (k = j)
  | .str, .str _ => true
  | .str2, .agg [.str _, .str _] => true
  | _, _ => false
def keyKind (P : Program) (t : TypeId) : Option KeyK :=
  match P.underlying t with
  | some .bool => some .bool
  | some (.int k) => some (.int k)
  | some .string => some .str
  | some (.array 2 e) => match P.underlying e, sizeT P e with
    | some .string, some 1 => some .str2
    | _, _ => none
  | _ => none
def sameK : KeyK → KeyK → Bool
  | .bool, .bool => true
  | .int k, .int j => decide (k = j)
  | .str, .str => true
  | .str2, .str2 => true
  | _, _ => false
def look (k : PV) : List (PV × PV) → Option PV
  | [] => none
  | (x, v) :: r => match eqK k x with | true => some v | false => look k r
def setK (k v : PV) : List (PV × PV) → List (PV × PV)
  | [] => [(k, v)]
  | (x, u) :: r => match eqK k x with | true => (x, v) :: r | false => (x, u) :: setK k v r
def intsA (op : BinOp) (k : IntKind) (a b : Int) (K : AV → Prop) : Prop :=
  match op with
  | .add => K (.p (.int k (k.wrap (a + b))))
  | .sub => K (.p (.int k (k.wrap (a - b))))
  | .mul => K (.p (.int k (k.wrap (a * b))))
  | .quo => b ≠ 0 ∧ K (.p (.int k (k.wrap (a.tdiv b))))
  | .rem => b ≠ 0 ∧ K (.p (.int k (a.tmod b)))
  | .eql => K (.p (.bool (a == b)))
  | .neq => K (.p (.bool (a != b)))
  | .lss => K (.p (.bool (decide (a < b))))
  | .leq => K (.p (.bool (decide (a ≤ b))))
  | .gtr => K (.p (.bool (decide (a > b))))
  | .geq => K (.p (.bool (decide (a ≥ b))))
  | .shl => 0 ≤ b ∧ K (.p (.int k (k.wrap (a * 2 ^ (min b.toNat k.bits)))))
  | .shr => 0 ≤ b ∧ K (.p (.int k (a.fdiv (2 ^ (min b.toNat k.bits)))))
  | _ => False
def strsA (op : BinOp) (a b : ByteArray) (K : AV → Prop) : Prop :=
  match op with
  | .add => a.size + b.size ≤ 9223372036854775807 ∧ K (.p (.str (a ++ b)))
  | .eql => K (.p (.bool (a.toList == b.toList)))
  | .neq => K (.p (.bool (!(a.toList == b.toList))))
  | .lss => K (.p (.bool (Op.bytesLess a.toList b.toList)))
  | .leq => K (.p (.bool (Op.bytesLess a.toList b.toList || (a.toList == b.toList))))
  | .gtr => K (.p (.bool (!(Op.bytesLess a.toList b.toList || (a.toList == b.toList)))))
  | .geq => K (.p (.bool (!Op.bytesLess a.toList b.toList)))
  | _ => False
def isEq : BinOp → Option Bool
  | .eql => some true
  | .neq => some false
  | _ => none
def binA (P : Program) (plain : PlainT) (op : BinOp) (t : TypeId) (x y : AV) (K : AV → Prop) : Prop :=
  match x, y with
  | .p (.int k a), .p (.int k' b) => match op with
    | .shl => intsA .shl k a b K
    | .shr => intsA .shr k a b K
    | op => match decide (k = k') with | true => intsA op k a b K | false => False
  | .p (.str a), .p (.str b) => strsA op a b K
  | .p (.bool a), .p (.bool b) => match P.underlying t, isEq op with
    | some .bool, some true => K (.p (.bool (a == b)))
    | some .bool, some false => K (.p (.bool (!(a == b))))
    | _, _ => False
  | .agg xs, .agg ys => match pureCells xs, pureCells ys with
    | some us, some vs => match isEq op, plain t us vs with
      | some true, some b => K (.p (.bool b))
      | some false, some b => K (.p (.bool (!b)))
      | _, _ => False
    | _, _ => False
  | _, _ => False
def unA (op : UnOp) (x : AV) (K : AV → Prop) : Prop :=
  match op, x with
  | .not, .p (.bool b) => K (.p (.bool (!b)))
  | .neg, .p (.int k n) => K (.p (.int k (k.wrap (0 - n))))
  | _, _ => False
def convA (P : Program) (src dst : TypeId) (x : AV) (K : AV → Prop) : Prop :=
  match P.underlying src, P.underlying dst, x with
  | some (.int _), some (.int k), .p (.int _ n) => K (.p (.int k (k.wrap n)))
  | some .string, some .string, .p (.str s) => K (.p (.str s))
  | _, _, _ => False
def boundA (x : Option AV) (d : Int) (K : Int → Prop) : Prop := match x with
  | none => K d
  | some (.p (.int _ n)) => K n
  | _ => False
def sliceA (P : Program) (t : TypeId) (x : AV) (lo hi mx : Option AV) (K : AV → Prop) : Prop :=
  match mx, P.underlying t, x with
  | none, some .string, .p (.str s) => boundA hi s.size fun h => boundA lo 0 fun l => 0 ≤ l ∧ l ≤ h ∧ h ≤ s.size ∧ K (.p (.str (s.extract l.toNat h.toNat)))
  | none, some (.slice e), .p (.arr m n g) => match sizeT P e with
    | some sz => (∀ i, i < n → pvSize (g i) = sz) ∧ boundA hi n fun h => boundA lo 0 fun l => 0 ≤ l ∧ l ≤ h ∧ h ≤ n ∧ K (.p (.arr m (h.toNat - l.toNat) fun i => g (l.toNat + i)))
    | none => False
  | _, _, _ => False
def lenA (P : Program) (t : TypeId) (rd : Nat → AO) (x : AV) (K : AV → Prop) : Prop :=
  match P.underlying t, x with
  | some .string, .p (.str s) => K (.p (.int .i64 s.size))
  | some (.slice _), .p (.arr _ n _) => K (.p (.int .i64 n))
  | some (.slice _), .p .nils => K (.p (.int .i64 0))
  | some (.slice _), .row id => match rd id with
    | .row _ _ xs => K (.p (.int .i64 xs.length))
    | .ice _ xs => K (.p (.int .i64 xs.length))
    | _ => False
  | some (.map _ _), .map id => match rd id with
    | .map _ es => K (.p (.int .i64 es.length))
    | _ => False
  | _, _ => False
def moreA (rd : Nat → AO) (sz : Nat) (x : AV) (K : List PV → Prop) : Prop :=
  match x with
  | .p .nils => K []
  | .p (.arr _ n g) => (∀ i, i < n → pvSize (g i) = sz) ∧ K ((List.range n).map g)
  | .row id => match rd id with
    | .row _ sz' xs => match Nat.beq sz' sz with | true => K xs | false => False
    | .ice _ xs => (∀ i, i < xs.length → pvSize (xs.getD i .nilp) = sz) ∧ K xs
    | _ => False
  | _ => False
def appendA (P : Program) (rd : Nat → AO) (fresh : Nat) (t : TypeId) (s x : AV) (K : KA) : Prop :=
  match P.underlying t with
  | some (.slice e) => match sizeT P e, bytesT P e, zeroPV P e with
    | some sz, some by_, some z => match Nat.blt 0 sz && Nat.blt 0 by_ && Nat.beq (pvSize z) sz with
      | true => moreA rd sz x fun ys =>
        match s with
        | .p .nils => ys.length * by_ ≤ 140737488355328 ∧ K (.row fresh) [(fresh, .row e sz ys)]
        | .row id => match rd id with
          | .row e' sz' xs => match Nat.beq e e' && Nat.beq sz sz' with
            | true => (xs.length + ys.length) * by_ ≤ 140737488355328 ∧ K (.row fresh) [(id, .dead), (fresh, .row e sz (xs ++ ys))]
            | false => False
          | _ => False
        | _ => False
      | false => False
    | _, _, _ => False
  | _ => False
def elemA (env : Env) (rd : Nat → AO) (t : TypeId) (x : AV) (i : Int) (K : KA) : Prop :=
  match env.P.underlying t with
  | some (.slice e) => match x with
    | .p (.arr _ n g) => 0 ≤ i ∧ i < n ∧ env.vw e (g i.toNat) fun cs => K (.rop cs) []
    | .row id => match rd id with
      | .row _ sz xs => match sizeT env.P e with
        | some n => match Nat.beq n sz with
          | true => 0 ≤ i ∧ i < xs.length ∧ K (.eptr id i.toNat 0) []
          | false => False
        | none => False
      | .ice _ xs => 0 ≤ i ∧ i < xs.length ∧ env.vw e (xs.getD i.toNat .nilp) fun cs => K (.rop cs) []
      | _ => False
    | _ => False
  | _ => False
def loadA (env : Env) (rd : Nat → AO) (t : TypeId) (x : AV) (K : KA) : Prop :=
  match shapeT env.P t with
  | some (agg, n) => match x with
    | .ptr id off => match rd id with
      | .box cs => match Nat.ble (off + n) cs.length with
        | true => K (ofCells agg (cut cs off n)) []
        | false => False
      | _ => False
    | .rop cs => match Nat.ble n cs.length with
      | true => K (ofCells agg ((cs.take n).map .p)) []
      | false => False
    | .eptr id i c => match rd id with
      | .row e _ xs => env.vw e (xs.getD i .nilp) fun cs => match Nat.ble (c + n) cs.length with
        | true => K (ofCells agg ((cut cs c n).map .p)) []
        | false => False
      | _ => False
    | _ => False
  | none => False
def storeA (env : Env) (rd : Nat → AO) (t : TypeId) (x v : AV) (K : KA) : Prop :=
  match sizeT env.P t, cellsOf v with
  | some n, some us => match Nat.beq us.length n, x with
    | true, .ptr id off => match rd id with
      | .box cs => match Nat.ble (off + n) cs.length with
        | true => K .undef [(id, .box (splice cs off us))]
        | false => False
      | _ => False
    | true, .eptr id i c => match rd id with
      | .row e sz xs => match pureCells (us.map weak1) with
        | some ps => match Nat.beq c 0 && Nat.beq n sz, shapeT env.P e with
          | true, some (agg, m) => match Nat.beq m sz with
            | true => K .undef [(id, .row e sz (xs.set i (mkPV ps agg)))]
            | false => False
          | false, some (agg, _) => env.vw e (xs.getD i .nilp) fun cs => match Nat.ble (c + n) cs.length with
            | true => K .undef [(id, .row e sz (xs.set i (mkPV (spliceP cs c ps) agg)))]
            | false => False
          | _, none => False
        | none => False
      | _ => False
    | _, _ => False
  | _, _ => False
def addrA (env : Env) (t : TypeId) (x : AV) (f : Nat) (K : KA) : Prop :=
  match fieldAt env.P t f with
  | some (off, n) => match Nat.beq n 0 with
    | true => False
    | false => match x with
      | .ptr id o => K (.ptr id (o + off)) []
      | .eptr id i c => K (.eptr id i (c + off)) []
      | .rop cs => K (.rop (cs.drop off)) []
      | _ => False
  | none => False
def lookupA (env : Env) (rd : Nat → AO) (t : TypeId) (m k : AV) (ok : Bool) (K : KA) : Prop :=
  match env.P.underlying t with
  | some (.map kt e) => match keyKind env.P kt, isAggT env.P e, zeroPV env.P e, pureOf k with
    | some kk, some agg, some z, some key => match m with
      | .map id => match rd id with
        | .map kk' es => match sameK kk kk' && isKey kk key with
          | true => env.vw e ((look key es).getD z) fun cs => match ok with
            | true => K (.tup [ofCells agg (cs.map .p), .p (.bool (look key es).isSome)]) []
            | false => K (ofCells agg (cs.map .p)) []
          | false => False
        | _ => False
      | _ => False
    | _, _, _, _ => False
  | _ => False
def mapSetA (env : Env) (rd : Nat → AO) (t : TypeId) (m k v : AV) (K : KA) : Prop :=
  match env.P.underlying t with
  | some (.map kt _) => match keyKind env.P kt, pureOf k, pureOf (weakA v), m with
    | some kk, some key, some x, .map id => match rd id with
      | .map kk' es => match sameK kk kk' && isKey kk key with
        | true => K .undef [(id, .map kk (setK key x es))]
        | false => False
      | _ => False
    | _, _, _, _ => False
  | _ => False
def nextA (rd : Nat → AO) (it : AV) (K : KA) : Prop :=
  match it with
  | .iter id => match rd id with
    | .iter s pos => match decide (pos < s.size) with
      | true => K (.tup [.p (.bool true), .p (.int .i64 pos), .p (.int .i32 (Utf8.decode s pos).1)]) [(id, .iter s (pos + (Utf8.decode s pos).2))]
      | false => K (.tup [.p (.bool false)]) []
    | _ => False
  | _ => False
def bk (L : List Nat) (fresh : Nat) (j : Nat) : Nat :=
  match L[j]? with
  | some i => i
  | none => fresh + (j - L.length)
def back (L : List Nat) (fresh : Nat) (j : Nat) : Option Nat := some (bk L fresh j)
def writesOf (L : List Nat) (fresh : Nat) : Nat → List AO → List (Nat × AO)
  | _, [] => []
  | j, o :: r => (bk L fresh j, renAO (back L fresh) o) :: writesOf L fresh (j + 1) r
def wkArgs (b : Bool) (l : List AV) : List AV := match b with
  | true => l.map weakA
  | false => l
def wkO (b : Bool) (o : AO) : AO := match b with
  | true => match o with
    | .box cs => .box (cs.map weak1)
    | o => o
  | false => o
def callA (env : Env) (rd : Nat → AO) (fresh : Nat) (f : FuncId) (args : List AV) (K : KA) : Prop :=
  let L := reach rd 1000 (idsAVs args) []
  match nodup L && allBelow fresh L with
  | true => env.C f (renAVs (place L) (wkArgs (env.weak f) args)) (renAOs (place L) (L.map fun i => wkO (env.weakB f) (rd i))) fun r h =>
    match Nat.ble L.length h.length with
    | true => K (renAV (back L fresh) r) (writesOf L fresh 0 h)
    | false => False
  | false => False
def callS (env : Env) (rd : Nat → AO) (fresh : Nat) (ρ : Operand → AV) (cl : Call) (K : KA) : Prop :=
  match cl.callee with
  | .builtin .len => match cl.args.toList, cl.argTypes[0]? with
    | [x], some t => lenA env.P t rd (ρ x) fun v => K v []
    | _, _ => False
  | .builtin .append => match cl.args.toList, cl.argTypes.toList with
    | [s, x], [t, t'] => match Nat.beq t t' with
      | true => appendA env.P rd fresh t (ρ s) (ρ x) K
      | false => False
    | _, _ => False
  | .value g => match ρ g with
    | .func (.func f) first captured => callA env rd fresh f (first ++ cl.args.toList.map ρ ++ captured) K
    | _ => False
  | _ => False
def step (env : Env) (plain : PlainT) (o : Oper) (ρ : Operand → AV) (rd : Nat → AO) (fresh : Nat) (K : KA) : Prop :=
  match o.op with
  | .move x => K (ρ x) []
  | .assign x => K (ρ x) []
  | .pick c a b => boolOf (ρ c) fun t => match t with | true => K (ρ a) [] | false => K (ρ b) []
  | .alloc t => match zeroCells env.P t with
    | some zs => K (.ptr fresh 0) [(fresh, .box (zs.map .p))]
    | none => False
  | .box _ x => match cellsOf (ρ x) with
    | some cs => K (.ptr fresh 0) [(fresh, .box cs)]
    | none => False
  | .build t parts => match zeroCells env.P t, placesT env.P t with
    | some zs, some at_ => match fillA at_ (zs.map .p) (parts.toList.map fun x => (x.1, ρ x.2)) with
      | some cs => K (.agg cs) []
      | none => False
    | _, _ => False
  | .buildSlice t len parts => match env.P.underlying t with
    | some (.slice e) => match sizeT env.P e, zeroPV env.P e with
      | some sz, some z => match Nat.ble (len * sz) 16777216 && Nat.blt 0 sz && Nat.beq (pvSize z) sz, elemsA sz (List.replicate len z) (parts.toList.map fun x => (x.1, ρ x.2)) with
        | true, some xs => K (.row fresh) [(fresh, .row e sz xs)]
        | _, _ => False
      | _, _ => False
    | _ => False
  | .load t a => loadA env rd t (ρ a) K
  | .store t a x => storeA env rd t (ρ a) (ρ x) K
  | .nilCheck x => match ρ x with
    | .ptr i o => K (.ptr i o) []
    | .eptr i a b => K (.eptr i a b) []
    | .rop cs => K (.rop cs) []
    | .func (.func f) a b => K (.func (.func f) a b) []
    | _ => False
  | .binOp op t x y _ => binA env.P plain op t (ρ x) (ρ y) fun v => K v []
  | .unOp op _ x => unA op (ρ x) fun v => K v []
  | .convert s d x => convA env.P s d (ρ x) fun v => K v []
  | .makeFunc fn a b => K (.func fn (a.toList.map ρ) (b.toList.map ρ)) []
  | .makeMap t none => match env.P.underlying t with
    | some (.map kt _) => match keyKind env.P kt with
      | some kk => K (.map fresh) [(fresh, .map kk [])]
      | none => False
    | _ => False
  | .fieldAddr t x f => addrA env t (ρ x) f K
  | .field t x f => match ρ x, fieldsT env.P t with
    | .agg cs, some fs => match fs[f]? with
      | some (off, ft, _) => match shapeT env.P ft with
        | some (agg, n) => match Nat.ble (off + n) cs.length with
          | true => K (ofCells agg (cut cs off n)) []
          | false => False
        | none => False
      | none => False
    | _, _ => False
  | .indexAddr t x i => match ρ i with
    | .p (.int _ n) => elemA env rd t (ρ x) n K
    | _ => False
  | .index t x i => match ρ i, ρ x, env.P.underlying t with
    | .p (.int _ n), .p (.str s), some .string => 0 ≤ n ∧ n < s.size ∧ K (.p (.int .u8 (byteAt s n.toNat))) []
    | _, _, _ => False
  | .lookup t m k ok => lookupA env rd t (ρ m) (ρ k) ok K
  | .mapUpdate t m k v => mapSetA env rd t (ρ m) (ρ k) (ρ v) K
  | .range t x => match ρ x, env.P.underlying t with
    | .p (.str s), some .string => K (.iter fresh) [(fresh, .iter s 0)]
    | _, _ => False
  | .next it true => nextA rd (ρ it) K
  | .extract t i => match ρ t with
    | .tup vs => match vs[i]? with
      | some v => K v []
      | none => False
    | _ => False
  | .slice t x lo hi mx => sliceA env.P t (ρ x) (lo.map ρ) (hi.map ρ) (mx.map ρ) fun v => K v []
  | .call cl => callS env rd fresh ρ cl K
  | _ => False
def dstOf (ops : Array Oper) (j : Nat) : Option Tmp := (ops[j]?).bind (·.dst)
def guardA (ops : Array Oper) (o : Oper) (s : St) (K : Bool → St → Prop) : Prop :=
  match o.guard with
  | none => K true s
  | some (j, want) => match dstOf ops j with
    | some t => match getSl s.sl t with
      | .p (.bool true) => K want { s with sl := (t, .p (.bool true)) :: s.sl }
      | .p (.bool false) => K (!want) { s with sl := (t, .p (.bool false)) :: s.sl }
      | .tup [] => K false s
      | _ => False
    | none => False
def dstOk (nt : Nat) : Option Tmp → Bool
  | none => true
  | some t => Nat.blt t nt
def okWr : Nat → List (Nat × AO) → Bool
  | _, [] => true
  | n, (i, _) :: r => match Nat.blt i n with
    | true => okWr n r
    | false => match Nat.beq i n with
      | true => okWr (n + 1) r
      | false => false
def runOps (env : Env) (plain : PlainT) (ops : Array Oper) : List Oper → St → (St → Prop) → Prop
  | [], s, K => K s
  | o :: os, s, K => match dstOk env.nt o.dst with
    | false => False
    | true => guardA ops o s fun w s1 => match w with
      | true => env.S o (evalA (env.pre o s1).sl) (getO (env.pre o s1).hp) (env.pre o s1).hp.length fun v wr => match okWr (env.pre o s1).hp.length wr with
        | true => runOps env plain ops os ⟨((env.pre o s1).put o.dst v).sl, writeO (env.pre o s1).hp wr⟩ K
        | false => False
      | false => runOps env plain ops os (s1.put o.dst (.tup [])) K
structure Did where
  i : Nat
  anc : Nat
  dst : Option Tmp
  looks : List Tmp
  fp : List Nat
  names : List Nat
def hasBit (m n : Nat) : Bool := Nat.beq (Nat.land (Nat.shiftRight m n) 1) 1
def nth : List Nat → Nat → Nat
  | [], _ => 0
  | x :: _, 0 => x
  | _ :: r, n + 1 => nth r n
def ancAt : List Did → Nat → Nat
  | [], _ => 0
  | d :: r, i => match Nat.beq d.i i with | true => d.anc | false => ancAt r i
def ancs (ds : List Did) : List Edge → Nat
  | [] => 0
  | e :: r => match Region.binds .any e with
    | true => Nat.lor (Nat.lor (Nat.shiftLeft 1 e.on) (ancAt ds e.on)) (ancs ds r)
    | false => ancs ds r
def edgesOk (n : Nat) : List Edge → Bool
  | [] => true
  | e :: r => match Region.binds .any e, Nat.blt e.on n with
    | true, false => false
    | _, _ => edgesOk n r
def memO (d : Option Tmp) (l : List Tmp) : Bool :=
  match d with
  | some t => mem t l
  | none => false
def sameO (d e : Option Tmp) : Bool :=
  match d, e with
  | some t, some u => Nat.beq t u
  | _, _ => false
def meet : List Nat → List Nat → Bool
  | [], _ => false
  | i :: r, l => match mem i l with | true => true | false => meet r l
def clash (d e : Did) : Bool :=
  memO d.dst e.looks || memO e.dst d.looks || sameO d.dst e.dst || meet d.names e.fp || meet e.names d.fp || meet d.names e.names
def clear (ds : List Did) (e : Did) : Bool :=
  match ds with
  | [] => true
  | d :: r => match hasBit e.anc d.i || !clash d e with
    | true => clear r e
    | false => false
def fpA (o : Oper) (ρ : Operand → AV) (rd : Nat → AO) : List Nat :=
  match o.op with
  | .call _ => reach rd 1000 (idsAVs (o.op.operands.toList.map ρ)) []
  | .load _ a => idsAV (ρ a)
  | .store _ a _ => idsAV (ρ a)
  | .indexAddr _ x _ => idsAV (ρ x)
  | .lookup _ m _ _ => idsAV (ρ m)
  | .mapUpdate _ m _ _ => idsAV (ρ m)
  | .next it _ => idsAV (ρ it)
  | _ => []
def only (fp : List Nat) (rd : Nat → AO) (i : Nat) : AO := match mem i fp with
  | true => rd i
  | false => .dead
def namesOf : List (Nat × AO) → List Nat
  | [] => []
  | (i, _) :: r => i :: namesOf r
def runAny (env : Env) (plain : PlainT) (rid : Nat) (ops : Array Oper) : List Oper → Nat → List Did → St → (St → Prop) → Prop
  | [], _, _, s, K => K s
  | o :: os, n, ds, s, K => match dstOk env.nt o.dst && edgesOk n o.after.toList && Nat.beq (nth (env.anc rid) n) (ancs ds o.after.toList) with
    | false => False
    | true => guardA ops o s fun w s1 => match w with
      | true => env.S o (evalA s1.sl) (only (fpA o (evalA s1.sl) (getO s1.hp)) (getO s1.hp)) s1.hp.length fun v wr =>
        match okWr s1.hp.length wr && clear ds ⟨n, nth (env.anc rid) n, o.dst, o.looksAt ops, fpA o (evalA s1.sl) (getO s1.hp), namesOf wr⟩ with
        | true => runAny env plain rid ops os (n + 1) (⟨n, nth (env.anc rid) n, o.dst, o.looksAt ops, fpA o (evalA s1.sl) (getO s1.hp), namesOf wr⟩ :: ds) ⟨(s1.put o.dst v).sl, writeO s1.hp wr⟩ K
        | false => False
      | false => match clear ds ⟨n, nth (env.anc rid) n, o.dst, o.looksAt ops, [], []⟩ with
        | true => runAny env plain rid ops os (n + 1) (⟨n, nth (env.anc rid) n, o.dst, o.looksAt ops, [], []⟩ :: ds) (s1.put o.dst (.tup [])) K
        | false => False
def thawAll (P : Program) : List (Nat × (Nat × Option Nat)) → St → St
  | [], s => s
  | (e, x) :: r, s => thawAll P r (thawAt P e s x)
def norm (env : Env) (b : Nat) (e : Ex) (s : St) (K : St → Prop) : Prop :=
  match e with
  | .normal => canon env.n0 { (thawAll env.P (env.thaw b) s) with sl := keepSl (thawAll env.P (env.thaw b) s).sl (env.lloop b) } K
  | .exit id => canon env.n0 { s with sl := keepSl s.sl (env.lexit b id) } K
  | .ret => canon env.n0 { s with sl := keepSl s.sl env.lret } K
  | .goto _ => False
def known (c : Operand) (b : Bool) (s : St) : St :=
  match c with
  | .tmp t => { s with sl := (t, .p (.bool b)) :: s.sl }
  | _ => s
def runList (env : Env) (ops : Array Oper) : List Nat → St → (St → Prop) → Prop
  | [], s, K => K s
  | i :: r, s, K => match ops[i]? with
    | some o => match o.guard, dstOk env.nt o.dst with
      | none, true => env.S o (evalA s.sl) (getO s.hp) s.hp.length fun v wr => match okWr s.hp.length wr with
        | true => runList env ops r ⟨(s.put o.dst v).sl, writeO s.hp wr⟩ K
        | false => False
      | _, _ => False
    | none => False
def eqNats : List Nat → List Nat → Bool
  | [], [] => true
  | x :: xs, y :: ys => match Nat.beq x y with | true => eqNats xs ys | false => false
  | _, _ => false
def rdyIs (ops : Array Oper) (L : Array Bool) (l : List Nat) : Bool := eqNats (Region.ready .any ops L) l
def boolK : Operand → Bool
  | .const (.bool _) => true
  | _ => false
def isChoice (ops : Array Oper) (q : Tmp) : Bool :=
  match ops.toList with
  | [⟨some _, .alloc _, _, _, _, _⟩, ⟨none, .store _ _ (.const (.bool _)), _, _, _, _⟩, ⟨none, .store _ _ (.const (.bool _)), _, _, _, _⟩, ⟨some q', .load _ _, _, _, _, _⟩] =>
    Nat.beq q q' && Nat.beq ops.size 4 && rdyIs ops (Array.replicate 4 false) [0] && rdyIs ops ((Array.replicate 4 false).setIfInBounds 0 true) [1, 2] &&
    rdyIs ops (((Array.replicate 4 false).setIfInBounds 0 true).setIfInBounds 1 true) [2] && rdyIs ops (((Array.replicate 4 false).setIfInBounds 0 true).setIfInBounds 2 true) [1] &&
    rdyIs ops ((((Array.replicate 4 false).setIfInBounds 0 true).setIfInBounds 1 true).setIfInBounds 2 true) [3] && rdyIs ops ((((Array.replicate 4 false).setIfInBounds 0 true).setIfInBounds 2 true).setIfInBounds 1 true) [3] &&
    rdyIs ops (((((Array.replicate 4 false).setIfInBounds 0 true).setIfInBounds 1 true).setIfInBounds 2 true).setIfInBounds 3 true) [] && rdyIs ops (((((Array.replicate 4 false).setIfInBounds 0 true).setIfInBounds 2 true).setIfInBounds 1 true).setIfInBounds 3 true) []
  | _ => false
def choiceOf (x y : Code) : Option (Array Oper) := match x, y with
  | .region _ ops true, .cond (.tmp q) _ _ => match isChoice ops q with
    | true => some ops
    | false => none
  | _, _ => none
def eqB : List UInt8 → List UInt8 → Bool
  | [], [] => true
  | x :: xs, y :: ys => match Nat.beq x.toNat y.toNat with
    | true => eqB xs ys
    | false => false
  | _, _ => false
def allBl (f : Nat → Bool) : Nat → Bool
  | 0 => true
  | n + 1 => match f n with | true => allBl f n | false => false
mutual
def lePV : PV → PV → Bool
  | .bool a, y => match y with | .bool b => a == b | _ => false
  | .int k a, y => match y with | .int k' b => decide (k = k') && decide (a = b) | _ => false
  | .str a, y => match y with | .str b => eqB a.data.toList b.data.toList | _ => false
  | .nilp, y => match y with | .nilp => true | _ => false
  | .nils, y => match y with | .nils => true | _ => false
  | .nilm, y => match y with | .nilm => true | _ => false
  | .nilf, y => match y with | .nilf => true | _ => false
  | .nili, y => match y with | .nili => true | _ => false
  | .arr m n g, y => match y with | .arr m' n' g' => (!m || m') && Nat.beq n n' && allBl (fun i => lePV (g i) (g' i)) n | _ => false
  | .agg xs, y => match y with | .agg ys => lePVs xs ys | _ => false
def lePVs : List PV → List PV → Bool
  | [], ys => match ys with | [] => true | _ => false
  | x :: xs, ys => match ys with | y :: ys => lePV x y && lePVs xs ys | _ => false
end
mutual
def leAV : AV → AV → Bool
  | .undef, _ => true
  | .p x, y => match y with | .p y => lePV x y | _ => false
  | .ptr i o, y => match y with | .ptr j p => Nat.beq i j && Nat.beq o p | _ => false
  | .eptr i k o, y => match y with | .eptr j l p => Nat.beq i j && Nat.beq k l && Nat.beq o p | _ => false
  | .rop cs, y => match y with | .rop ds => lePVs cs ds | _ => false
  | .row i, y => match y with | .row j => Nat.beq i j | _ => false
  | .map i, y => match y with | .map j => Nat.beq i j | _ => false
  | .iter i, y => match y with | .iter j => Nat.beq i j | _ => false
  | .func f a b, y => match f, y with | .func f, .func (.func g) c d => Nat.beq f g && leAVs a c && leAVs b d | _, _ => false
  | .agg cs, y => match y with | .agg ds => leAVs cs ds | _ => false
  | .tup cs, y => match y with | .tup ds => leAVs cs ds | _ => false
  | .iface t v, y => match y with | .iface u w => Nat.beq t u && leAV v w | _ => false
def leAVs : List AV → List AV → Bool
  | [], ys => match ys with | [] => true | _ => false
  | x :: xs, ys => match ys with | y :: ys => leAV x y && leAVs xs ys | _ => false
end
def leAO : AO → AO → Bool
  | .dead, _ => true
  | .box cs, .box ds => leAVs cs ds
  | .row e sz xs, .row e' sz' ys => Nat.beq e e' && Nat.beq sz sz' && lePVs xs ys
  | .ice sz xs, .ice sz' ys => Nat.beq sz sz' && lePVs xs ys
  | .iter s p, .iter s' p' => eqB s.data.toList s'.data.toList && Nat.beq p p'
  | _, _ => false
def leAOs : List AO → List AO → Bool
  | [], [] => true
  | x :: xs, y :: ys => match leAO x y with | true => leAOs xs ys | false => false
  | _, _ => false
def meetSl : List (Nat × AV) → List (Nat × AV) → List (Nat × AV)
  | (t, x) :: xs, (u, y) :: ys => match Nat.beq t u with
    | true => match leAV x y with
      | true => (t, x) :: meetSl xs ys
      | false => (t, .undef) :: meetSl xs ys
    | false => []
  | _, _ => []
def leKeys : List (Nat × AV) → List (Nat × AV) → Bool
  | [], [] => true
  | (t, _) :: xs, (u, _) :: ys => match Nat.beq t u with | true => leKeys xs ys | false => false
  | _, _ => false
def leSt (s t : St) : Bool := leKeys s.sl t.sl && leAOs s.hp t.hp
def sameEx : Ex → Ex → Bool
  | .normal, .normal => true
  | .exit i, .exit j => Nat.beq i j
  | .ret, .ret => true
  | .goto i, .goto j => Nat.beq i j
  | _, _ => false
def exec (env : Env) (plain : PlainT) : Nat → Code → St → (Ex → St → Prop) → Prop
  | _, .skip, s, K => K .normal s
  | _, .region _ ops false, s, K => runOps env plain ops ops.toList s fun s' => K .normal s'
  | _, .region id ops true, s, K => runAny env plain id ops ops.toList 0 [] s fun s' => K .normal s'
  | b, .seq x y, s, K => match choiceOf x y with
    | none => exec env plain b x s fun e s' => match e with
      | .normal => exec env plain b y s' K
      | e => K e s'
    | some ops => runList env ops [0, 1, 2, 3] s fun s1 => exec env plain b y s1 fun e1 z1 => canon env.n0 { z1 with sl := keepSl z1.sl env.lret } fun y1 =>
      runList env ops [0, 2, 1, 3] s fun s2 => exec env plain b y s2 fun e2 z2 => canon env.n0 { z2 with sl := keepSl z2.sl env.lret } fun y2 => match sameEx e1 e2 && leSt y1 y2 with
      | true => K e1 ⟨meetSl y1.sl y2.sl, y1.hp⟩
      | false => False
  | b, .cond c x y, s, K => boolOf (evalA s.sl c) fun t => match t with
    | true => exec env plain b x (known c true s) K
    | false => exec env plain b y (known c false s) K
  | _, .block id c, s, K => exec env plain id c s fun e s' => match e with
    | .exit id' => match Nat.beq id' id with | true => K .normal s' | false => K (.exit id') s'
    | e => K e s'
  | b, .loop _, s, K => norm env b .normal s fun s' => env.L b s' K
  | _, .exit id, s, K => K (.exit id) s
  | _, .ret, s, K => K .ret s
  | _, .label _, s, K => K .normal s
  | _, .goto l, s, K => K (.goto l) s
  | b, .scope c, s, K => exec env plain b c s fun e s' => match e with
    | .goto l => env.G l s' K
    | e => K e s'
  | _, _, _, _ => False
end Go.RX
namespace Go.RX
def icy (rd : Nat → AO) (i : Nat) : Option PV :=
  match rd i with
  | .row _ _ xs => some (.arr true xs.length fun j => xs.getD j .nilp)
  | .ice _ xs => some (.arr true xs.length fun j => xs.getD j .nilp)
  | _ => none
def fz1 (rd : Nat → AO) : AV → AV
  | .row i => match icy rd i with
    | some x => .p x
    | none => .row i
  | v => v
def fzAV (rd : Nat → AO) : AV → AV
  | .agg cs => .agg (cs.map fun c => fz1 rd (weakA c))
  | v => fz1 rd (weakA v)
def fzTop (rd : Nat → AO) : AV → AV
  | .tup vs => .tup (vs.map (fzAV rd))
  | v => fzAV rd v
def rowsOf1 : AV → List Nat
  | .row i => [i]
  | _ => []
def rowsOf : AV → List Nat
  | .agg cs => cs.flatMap rowsOf1
  | v => rowsOf1 v
def rowsTop : AV → List Nat
  | .tup vs => vs.flatMap rowsOf
  | v => rowsOf v
def iceO : AO → AO
  | .row _ sz xs => .ice sz xs
  | o => o
def iceAll (h : List AO) : List Nat → List AO
  | [] => h
  | i :: r => iceAll (setO h i (iceO (getO h i))) r
def resultsA (env : Env) (s : St) : List ResultVar → (List AV → Prop) → Prop
  | [], K => K []
  | .tmp t :: r, K => resultsA env s r fun vs => K (getSl s.sl t :: vs)
  | .cell a t :: r, K => match shapeT env.P t, getSl s.sl a with
    | some (agg, n), .ptr id off => match getO s.hp id with
      | .box cs => match Nat.ble (off + n) cs.length with
        | true => resultsA env s r fun vs => K (ofCells agg (cut cs off n) :: vs)
        | false => False
      | _ => False
    | _, _ => False
def oneOrTup : List AV → AV
  | [v] => v
  | vs => .tup vs
def retA (env : Env) (soft : Bool) (res : List ResultVar) (s : St) (K : AV → List AO → Prop) : Prop :=
  resultsA env s res fun vs =>
    let v := oneOrTup vs
    let v' := match soft with | true => fzTop (getO s.hp) v | false => v
    let h := match soft with | true => iceAll s.hp (rowsTop v) | false => s.hp
    let L := reach (getO h) 1000 (idsOfs (getO h) (upto env.n0) ++ idsAV v') (upto env.n0)
    match nodup L && prefixIs env.n0 L 0 && allBelow h.length L with
    | true => K (renAV (place L) v') (renAOs (place L) (pick h L))
    | false => False
def number : Nat → List AV → List (Nat × AV)
  | _, [] => []
  | i, v :: r => (i, v) :: number (i + 1) r
def body (env : Env) (plain : PlainT) (soft : Bool) (fn : Func) (args : List AV) (h : List AO) (K : AV → List AO → Prop) : Prop :=
  match fn.body, Nat.beq fn.ntmps env.nt && Nat.ble args.length fn.ntmps && Nat.beq h.length env.n0 with
  | some c, true => exec env plain 0 c ⟨number 0 args, h⟩ fun e s => match e with
    | .normal => retA env soft fn.results.toList s K
    | .ret => retA env soft fn.results.toList s K
    | _ => False
  | _, _ => False
end Go.RX
namespace Go.RX
abbrev CallO := List AV → List AO → (AV → List AO → Prop) → Prop
abbrev LoopO := St → (Ex → St → Prop) → Prop
def tab {α : Type} (d : α) : List (Nat × α) → Nat → α
  | [], _ => d
  | (i, x) :: r, j => match Nat.beq i j with | true => x | false => tab d r j
def noCall : CallO := fun _ _ _ => False
def noLoop : LoopO := fun _ _ => False
def roundA (env : Env) (plain : PlainT) (b : Nat) (c : Code) (R : LoopO) : LoopO := fun s K =>
  exec env plain b c s fun e s' => norm env b e s' fun s'' => match e with
    | .normal => R s'' K
    | e => K e s''
def loopOf (b : Nat) : Nat → Code → Option Code
  | _, .skip => none
  | a, .seq x y => match loopOf b a x with | some c => some c | none => loopOf b a y
  | a, .cond _ x y => match loopOf b a x with | some c => some c | none => loopOf b a y
  | _, .block id c => loopOf b id c
  | a, .loop c => match Nat.beq a b with | true => some c | false => loopOf b a c
  | a, .scope c => loopOf b a c
  | _, _ => none
structure Arr where
  m : Bool
  n : Nat
  g : Nat → PV
def br (b : Bool) (x y : Prop) : Prop := match b with
  | true => x
  | false => y
end Go.RX
namespace Go.RX
def scopesIn : Code → List Code
  | .seq x y => scopesIn x ++ scopesIn y
  | .cond _ x y => scopesIn x ++ scopesIn y
  | .block _ c => scopesIn c
  | .loop c => scopesIn c
  | .scope c => c :: scopesIn c
  | _ => []
def loopsIn : Nat → Code → List (Nat × Code)
  | _, .skip => []
  | a, .seq x y => loopsIn a x ++ loopsIn a y
  | a, .cond _ x y => loopsIn a x ++ loopsIn a y
  | _, .block id c => loopsIn id c
  | a, .loop c => (a, c) :: loopsIn a c
  | a, .scope c => loopsIn a c
  | _, _ => []
def keys {α : Type} : List (Nat × α) → List Nat
  | [] => []
  | (i, _) :: r => i :: keys r
end Go.RX
namespace Go.RX
inductive Loc where
  | none
  | blk (b : Nat)
  | rowv (v : Value) (sz : Nat)
def Loc.block : Loc → Option Nat
  | .none => Option.none
  | .blk b => some b
  | .rowv v _ => v.ownBlock
structure Cx where
  β : Nat → Loc
  I : Nat → Prop
  w : World
  born : Nat → Prop
  base : Nat
def Cx.J (c : Cx) (m : Bool) (b : Nat) : Prop := c.I b ∧ (m = true → c.base ≤ b ∧ ∃ C e, c.w.heap[b]? = some (.cells C e (0, 0)))
mutual
def RoC (I : Bool → Nat → Prop) (w : World) : PV → List Value → Prop
  | .bool b, cs => cs = [.bool b]
  | .int k n, cs => cs = [.int k n]
  | .str s, cs => cs = [.string s]
  | .nilp, cs => cs = [.pointer none]
  | .nils, cs => cs = [.slice none 0 0]
  | .nilm, cs => cs = [.map none]
  | .nilf, cs => cs = [.nilFunc]
  | .nili, cs => cs = [.nilIface]
  | .arr m n g, cs => ∃ a c, cs = [.slice a n c] ∧ (n ≤ c ∧ n ≤ maxLen) ∧ (0 < n → ∃ b off sz, a = some ⟨b, off, none⟩ ∧ I m b ∧ 0 < sz ∧ (m = true → sz ∣ off) ∧
      ∀ i, i < n → ∃ es : List Value, es.length = sz ∧ RoC I w (g i) es ∧ ∀ j, j < sz → w.cell? ⟨b, off + i * sz + j, none⟩ = es[j]?)
  | .agg xs, cs => RoCs I w xs cs
def RoCs (I : Bool → Nat → Prop) (w : World) : List PV → List Value → Prop
  | [], cs => cs = []
  | x :: xs, cs => ∃ y ys, cs = y :: ys ∧ RoC I w x [y] ∧ RoCs I w xs ys
end
def RoRow (I : Bool → Nat → Prop) (w : World) (sz : Nat) : List PV → List Value → Prop
  | [], cs => cs = []
  | x :: xs, cs => ∃ es r, cs = es ++ r ∧ es.length = sz ∧ RoC I w x es ∧ RoRow I w sz xs r
def RoV (I : Bool → Nat → Prop) (w : World) (x : PV) (v : Value) : Prop :=
  (∃ xs C, x = .agg xs ∧ v = .agg C ∧ RoCs I w xs C.toList) ∨ ((∀ xs, x ≠ .agg xs) ∧ RoC I w x [v])
def RoMap (I : Bool → Nat → Prop) (w : World) (kk : KeyK) : List (PV × PV) → List MapEntry → Prop
  | [], es => es = []
  | (k, x) :: r, es => ∃ e es', es = e :: es' ∧ isKey kk k = true ∧ RoV I w k e.key ∧ RoV I w x e.val ∧ RoMap I w kk r es'
mutual
def V (c : Cx) : AV → Value → Prop
  | .undef, _ => True
  | .p x, v => RoC c.J c.w x [v]
  | .ptr i o, v => c.born i ∧ ∃ b, c.β i = .blk b ∧ v = .pointer (some ⟨b, o, none⟩)
  | .eptr i k o, v => c.born i ∧ ∃ b n cap sz, c.β i = .rowv (.slice (some ⟨b, 0, none⟩) n cap) sz ∧ k < n ∧ v = .pointer (some ⟨b, k * sz + o, none⟩)
  | .row i, v => c.born i ∧ ∃ a n cp sz, v = .slice a n cp ∧ c.β i = .rowv v sz
  | .map i, v => c.born i ∧ ∃ b, c.β i = .blk b ∧ v = .map (some b)
  | .iter i, v => c.born i ∧ ∃ b, c.β i = .blk b ∧ v = .pointer (some ⟨b, 0, none⟩)
  | .rop cs, v => ∃ b o, v = .pointer (some ⟨b, o, none⟩) ∧ c.I b ∧ ∃ es : List Value, RoCs c.J c.w cs es ∧ ∀ j, j < es.length → c.w.cell? ⟨b, o + j, none⟩ = es[j]?
  | .func fn f g, v => ∃ F G, v = .func fn F G ∧ Vs c f F.toList ∧ Vs c g G.toList
  | .agg cs, v => ∃ C, v = .agg C ∧ Vs c cs C.toList ∧ ∀ u ∈ C.toList, u.oneCell' = true
  | .tup cs, v => ∃ C, v = .tuple C ∧ Vs c cs C.toList
  | .iface t x, v => ∃ y, v = .iface t y ∧ V c x y
def Vs (c : Cx) : List AV → List Value → Prop
  | [], vs => vs = []
  | x :: xs, vs => ∃ y ys, vs = y :: ys ∧ V c x y ∧ Vs c xs ys
end
def OR (c : Cx) : AO → Loc → Prop
  | .dead, _ => True
  | .box cs, .blk b => ∃ C t, c.w.heap[b]? = some (.cells C t (0, 0)) ∧ Vs c cs C.toList ∧ ∀ u ∈ C.toList, u.oneCell' = true
  | .row e sz xs, .rowv v sz' => sz' = sz ∧ 0 < sz ∧ ∃ cells, c.w.ownsRow 0 e sz v xs.length cells ∧ RoRow c.J c.w sz xs cells
  | .ice _ xs, .rowv v _ => RoC c.J c.w (.arr true xs.length fun j => xs.getD j .nilp) [v]
  | .map kk es, .blk b => ∃ E cl, c.w.heap[b]? = some (.map E cl) ∧ RoMap c.J c.w kk es E.toList
  | .iter s p, .blk b => c.w.heap[b]? = some (.stringIter s p)
  | _, _ => False
def liveO : AO → Bool
  | .dead => false
  | .ice _ _ => false
  | _ => true
abbrev HP := Nat → Option AO
def Live (h : HP) (i : Nat) : Prop := ∃ o, h i = some o ∧ liveO o = true
structure HR (c : Cx) (h : HP) : Prop where
  obj : ∀ i o, h i = some o → c.born i ∧ OR c o (c.β i)
  inj : ∀ i j b, Live h i → Live h j → (c.β i).block = some b → (c.β j).block = some b → i = j
  apart : ∀ i b, Live h i → (c.β i).block = some b → ¬ c.I b
  bound : ∀ b, c.I b → b < c.w.heap.size
  size : ∀ i b, Live h i → (c.β i).block = some b → b < c.w.heap.size
  low : ∀ i b, Live h i → (c.β i).block = some b → c.base ≤ b
  base : c.base ≤ c.w.heap.size
structure Ext (c c' : Cx) : Prop where
  born : ∀ i, c.born i → c'.born i
  β : ∀ i, c.born i → c'.β i = c.β i
  I : ∀ b, c.I b → c'.I b
  blocks : ∀ b, c.I b → c'.w.heap[b]? = c.w.heap[b]?
  base : c'.base = c.base
theorem Ext.J {c c' : Cx} (h : Ext c c') (m : Bool) (b : Nat) (k : c.J m b) : c'.J m b := ⟨h.I b k.1, fun e => by rw [h.base, h.blocks b k.1]; exact k.2 e⟩
theorem Ext.jb {c c' : Cx} (h : Ext c c') (m : Bool) (b : Nat) (k : c.J m b) : c'.w.heap[b]? = c.w.heap[b]? := h.blocks b k.1
theorem Ext.refl (c : Cx) : Ext c c := ⟨fun _ h => h, fun _ _ => rfl, fun _ h => h, fun _ _ => rfl, rfl⟩
theorem Ext.trans {a b c : Cx} (h : Ext a b) (k : Ext b c) : Ext a c :=
  ⟨fun i hi => k.born i (h.born i hi), fun i hi => (k.β i (h.born i hi)).trans (h.β i hi), fun b hb => k.I b (h.I b hb), fun b hb => (k.blocks b (h.I b hb)).trans (h.blocks b hb), k.base.trans h.base⟩
structure Fr (c : Cx) (h : HP) (c' : Cx) (h' : HP) : Prop where
  os : c'.w.os = c.w.os
  tape : c'.w.tape = c.w.tape
  output : c'.w.output = c.w.output
  size : c.w.heap.size ≤ c'.w.heap.size
  keep : ∀ b, b < c.w.heap.size → (∀ i, Live h i → (c.β i).block ≠ some b) → c'.w.heap[b]? = c.w.heap[b]?
  mono : ∀ b, c.I b → c'.I b
  new : ∀ b, c'.I b → c.I b ∨ c.w.heap.size ≤ b ∨ ∃ i, Live h i ∧ (c.β i).block = some b
  live : ∀ i b, Live h' i → (c'.β i).block = some b → c.w.heap.size ≤ b ∨ ∃ j, Live h j ∧ (c.β j).block = some b
  base : c'.base = c.base
theorem Fr.refl (c : Cx) (h : HP) : Fr c h c h :=
  ⟨rfl, rfl, rfl, Nat.le_refl _, fun _ _ _ => rfl, fun _ h => h, fun _ h => .inl h, fun i _ hi hb => .inr ⟨i, hi, hb⟩, rfl⟩
theorem Fr.trans {a b c : Cx} {h k l : HP} (x : Fr a h b k) (y : Fr b k c l) : Fr a h c l := by
  refine ⟨y.os.trans x.os, y.tape.trans x.tape, y.output.trans x.output, Nat.le_trans x.size y.size, fun n hn hl => ?_, fun n hn => y.mono n (x.mono n hn), fun n hn => ?_, fun i n hi hb => ?_, y.base.trans x.base⟩
  · refine (y.keep n (Nat.lt_of_lt_of_le hn x.size) fun i hi hb => ?_).trans (x.keep n hn hl)
    rcases x.live i n hi hb with h1 | ⟨j, h1, h2⟩
    · omega
    · exact hl j h1 h2
  · rcases y.new n hn with h1 | h1 | ⟨i, hi, hb⟩
    · exact x.new n h1
    · exact .inr (.inl (Nat.le_trans x.size h1))
    · rcases x.live i n hi hb with h2 | h2
      · exact .inr (.inl h2)
      · exact .inr (.inr h2)
  · rcases y.live i n hi hb with h1 | ⟨j, hj, hb'⟩
    · exact .inl (Nat.le_trans x.size h1)
    · exact x.live j n hj hb'
mutual
theorem RoC.mono {I I' : Bool → Nat → Prop} {w w' : World} (hI : ∀ m b, I m b → I' m b) (hw : ∀ m b, I m b → w'.heap[b]? = w.heap[b]?) :
    ∀ (x : PV) (cs : List Value), RoC I w x cs → RoC I' w' x cs
  | .bool _, _, h => h
  | .int _ _, _, h => h
  | .str _, _, h => h
  | .nilp, _, h => h
  | .nils, _, h => h
  | .nilm, _, h => h
  | .nilf, _, h => h
  | .nili, _, h => h
  | .arr m n g, cs, h => by
    simp only [RoC] at h ⊢
    obtain ⟨a, c, rfl, hn, h⟩ := h
    refine ⟨a, c, rfl, hn, fun h0 => ?_⟩
    obtain ⟨b, off, sz, rfl, hb, hsz, hd, h⟩ := h h0
    refine ⟨b, off, sz, rfl, hI m b hb, hsz, hd, fun i hi => ?_⟩
    obtain ⟨es, he, hr, hc⟩ := h i hi
    refine ⟨es, he, RoC.mono hI hw (g i) es hr, fun j hj => ?_⟩
    rw [← hc j hj]
    exact World.cell?_of_block (hw m b hb)
  | .agg xs, cs, h => by
    simp only [RoC] at h ⊢
    exact RoCs.mono hI hw xs cs h
theorem RoCs.mono {I I' : Bool → Nat → Prop} {w w' : World} (hI : ∀ m b, I m b → I' m b) (hw : ∀ m b, I m b → w'.heap[b]? = w.heap[b]?) :
    ∀ (xs : List PV) (cs : List Value), RoCs I w xs cs → RoCs I' w' xs cs
  | [], _, h => h
  | x :: xs, cs, h => by
    simp only [RoCs] at h ⊢
    obtain ⟨y, ys, rfl, h1, h2⟩ := h
    exact ⟨y, ys, rfl, RoC.mono hI hw x [y] h1, RoCs.mono hI hw xs ys h2⟩
end
theorem RoRow.mono {I I' : Bool → Nat → Prop} {w w' : World} (hI : ∀ m b, I m b → I' m b) (hw : ∀ m b, I m b → w'.heap[b]? = w.heap[b]?) {sz : Nat} :
    ∀ (xs : List PV) (cs : List Value), RoRow I w sz xs cs → RoRow I' w' sz xs cs
  | [], _, h => h
  | x :: xs, cs, h => by
    obtain ⟨es, r, rfl, hl, h1, h2⟩ := h
    exact ⟨es, r, rfl, hl, RoC.mono hI hw x es h1, RoRow.mono hI hw xs r h2⟩
theorem RoV.mono {I I' : Bool → Nat → Prop} {w w' : World} (hI : ∀ m b, I m b → I' m b) (hw : ∀ m b, I m b → w'.heap[b]? = w.heap[b]?) {x : PV} {v : Value} (h : RoV I w x v) : RoV I' w' x v := by
  rcases h with ⟨xs, C, rfl, rfl, h⟩ | ⟨hx, h⟩
  · exact .inl ⟨xs, C, rfl, rfl, RoCs.mono hI hw _ _ h⟩
  · exact .inr ⟨hx, RoC.mono hI hw _ _ h⟩
theorem RoMap.mono {I I' : Bool → Nat → Prop} {w w' : World} (hI : ∀ m b, I m b → I' m b) (hw : ∀ m b, I m b → w'.heap[b]? = w.heap[b]?) {kk : KeyK} :
    ∀ (xs : List (PV × PV)) (es : List MapEntry), RoMap I w kk xs es → RoMap I' w' kk xs es
  | [], _, h => h
  | (k, x) :: xs, es, h => by
    obtain ⟨e, es', rfl, h0, h1, h2, h3⟩ := h
    exact ⟨e, es', rfl, h0, h1.mono hI hw, h2.mono hI hw, RoMap.mono hI hw xs es' h3⟩
mutual
theorem V.mono {c c' : Cx} (h : Ext c c') : ∀ (x : AV) (v : Value), V c x v → V c' x v
  | .undef, _, _ => by simp only [V]
  | .p x, v, k => by
    simp only [V] at k ⊢
    exact RoC.mono h.J h.jb x [v] k
  | .ptr i o, v, k => by
    simp only [V] at k ⊢
    obtain ⟨hb, b, h1, h2⟩ := k
    exact ⟨h.born i hb, b, (h.β i hb).trans h1, h2⟩
  | .eptr i j o, v, k => by
    simp only [V] at k ⊢
    obtain ⟨hb, b, n, cap, sz, h1, h2⟩ := k
    exact ⟨h.born i hb, b, n, cap, sz, (h.β i hb).trans h1, h2⟩
  | .row i, v, k => by
    simp only [V] at k ⊢
    obtain ⟨hb, a, n, cp, b, h0, h1⟩ := k
    exact ⟨h.born i hb, a, n, cp, b, h0, (h.β i hb).trans h1⟩
  | .map i, v, k => by
    simp only [V] at k ⊢
    obtain ⟨hb, b, h1, h2⟩ := k
    exact ⟨h.born i hb, b, (h.β i hb).trans h1, h2⟩
  | .iter i, v, k => by
    simp only [V] at k ⊢
    obtain ⟨hb, b, h1, h2⟩ := k
    exact ⟨h.born i hb, b, (h.β i hb).trans h1, h2⟩
  | .rop cs, v, k => by
    simp only [V] at k ⊢
    obtain ⟨b, o, h1, hb, es, h2, h3⟩ := k
    refine ⟨b, o, h1, h.I b hb, es, RoCs.mono h.J h.jb cs es h2, fun j hj => ?_⟩
    rw [← h3 j hj]
    exact World.cell?_of_block (h.blocks b hb)
  | .func fn f g, v, k => by
    simp only [V] at k ⊢
    obtain ⟨F, G, rfl, h1, h2⟩ := k
    exact ⟨F, G, rfl, Vs.mono h f _ h1, Vs.mono h g _ h2⟩
  | .agg cs, v, k => by
    simp only [V] at k ⊢
    obtain ⟨C, rfl, h1, h2⟩ := k
    exact ⟨C, rfl, Vs.mono h cs _ h1, h2⟩
  | .tup cs, v, k => by
    simp only [V] at k ⊢
    obtain ⟨C, rfl, h1⟩ := k
    exact ⟨C, rfl, Vs.mono h cs _ h1⟩
  | .iface t x, v, k => by
    simp only [V] at k ⊢
    obtain ⟨y, rfl, h1⟩ := k
    exact ⟨y, rfl, V.mono h x y h1⟩
theorem Vs.mono {c c' : Cx} (h : Ext c c') : ∀ (xs : List AV) (vs : List Value), Vs c xs vs → Vs c' xs vs
  | [], _, k => k
  | x :: xs, vs, k => by
    simp only [Vs] at k ⊢
    obtain ⟨y, ys, rfl, h1, h2⟩ := k
    exact ⟨y, ys, rfl, V.mono h x y h1, Vs.mono h xs ys h2⟩
end
theorem ownsRow_of_block {w w' : World} {base e sz : Nat} {v : Value} {n : Nat} {xs : List Value} (h : w.ownsRow base e sz v n xs)
    (hb : ∀ b, v.ownBlock = some b → w'.heap[b]? = w.heap[b]?) : w'.ownsRow base e sz v n xs := by
  refine ⟨h.1, ?_⟩
  rcases h.2 with h2 | ⟨g, cap, cur, rfl, hg, hh, r⟩
  · exact .inl h2
  · exact .inr ⟨g, cap, cur, rfl, hg, (hb g rfl).trans hh, r⟩
theorem OR.mono {c c' : Cx} (h : Ext c c') {o : AO} {l : Loc} (hb : ∀ b, l.block = some b → c'.w.heap[b]? = c.w.heap[b]?) (k : OR c o l) : OR c' o l := by
  cases o <;> cases l <;> simp only [OR] at k ⊢
  · obtain ⟨C, t, h1, h2, h3⟩ := k
    exact ⟨C, t, (hb _ rfl).trans h1, Vs.mono h _ _ h2, h3⟩
  · obtain ⟨h1, h2, cells, h3, h4⟩ := k
    exact ⟨h1, h2, cells, ownsRow_of_block h3 hb, RoRow.mono h.J h.jb _ _ h4⟩
  · exact RoC.mono h.J h.jb _ _ k
  · obtain ⟨E, cl, h1, h2⟩ := k
    exact ⟨E, cl, (hb _ rfl).trans h1, RoMap.mono h.J h.jb _ _ h2⟩
  · exact (hb _ rfl).trans k
theorem OR.mono_dead {c c' : Cx} (h : Ext c c') {o : AO} {l : Loc} (hd : liveO o = false) (k : OR c o l) : OR c' o l := by
  cases o <;> simp [liveO] at hd
  · cases l <;> simp only [OR]
  · cases l <;> simp only [OR] at k ⊢
    exact RoC.mono h.J h.jb _ _ k
end Go.RX
namespace Go.RX
def updH (h : HP) : List (Nat × AO) → HP
  | [] => h
  | (i, o) :: r => updH (fun j => if j = i then some o else h j) r
def Names (wr : List (Nat × AO)) (i : Nat) : Prop := ∃ o, (i, o) ∈ wr
def OpSem (P : Program) (o : Oper) (ρ : Operand → AV) (rd : Nat → AO) (fresh : Nat) (v : AV) (wr : List (Nat × AO)) : Prop :=
  ∀ (c : Cx) (h : HP) (a : Act) (next : Act → World → Prop) (Q : Exit → Act → World → Prop),
    (∀ x ∈ o.op.operands, V c (ρ x) (a.eval x)) →
    (∀ i, rd i ≠ .dead → h i = some (rd i)) →
    (∀ i, fresh ≤ i → Names wr i → ¬ c.born i) →
    HR c h →
    (∀ u c', V c' v u → HR c' (updH h wr) → Ext c c' → Fr c h c' (updH h wr) → (∀ i, c'.born i → c.born i ∨ Names wr i) → next (a.put o.dst u) c'.w) →
    o.wp P a c.w next Q
section
variable {P : Program} {o : Oper} {ρ : Operand → AV} {rd : Nat → AO} {fresh : Nat} {v : AV}
theorem OpSem.pure (hrun : ∀ (c : Cx) (h : HP) (a : Act), (∀ x ∈ o.op.operands, V c (ρ x) (a.eval x)) → (∀ i, rd i ≠ .dead → h i = some (rd i)) → HR c h →
    ∃ u, (execOp a.eval o).run P c.w = .ok (.value u) c.w ∧ V c v u) : OpSem P o ρ rd fresh v [] := by
  intro c h a next Q hv hr _ hh hn
  obtain ⟨u, h1, h2⟩ := hrun c h a hv hr hh
  simp only [Oper.wp, h1, Oper.upon_value]
  exact hn u c h2 hh (Ext.refl c) (Fr.refl c h) (fun i hi => .inl hi)
end
def Cx.with (c : Cx) (w : World) : Cx := { c with w := w }
def Cx.grow (c : Cx) (o : Obj) (i : Nat) (l : Loc) : Cx := ⟨fun j => if j = i then l else c.β j, c.I, c.w.alloc o, fun j => c.born j ∨ j = i, c.base⟩
theorem grow_ext {c : Cx} {h : HP} (hh : HR c h) (o : Obj) {i : Nat} (hi : ¬ c.born i) (l : Loc) : Ext c (c.grow o i l) := by
  refine ⟨fun j hj => .inl hj, fun j hj => ?_, fun b hb => hb, fun b hb => ?_, rfl⟩
  · show (if j = i then l else c.β j) = c.β j
    rw [if_neg (fun e : j = i => hi (e ▸ hj))]
  · exact Go.RowKit.Below.heap_alloc c.w o b (hh.bound b hb)
theorem live_upd1 {h : HP} {i : Nat} {ao : AO} {j : Nat} (hl : Live (updH h [(i, ao)]) j) : (j = i ∧ liveO ao = true) ∨ (j ≠ i ∧ Live h j) := by
  obtain ⟨o, h1, h2⟩ := hl
  simp only [updH] at h1
  by_cases e : j = i
  · rw [if_pos e] at h1
    injection h1 with h1
    exact .inl ⟨e, h1 ▸ h2⟩
  · rw [if_neg e] at h1
    exact .inr ⟨e, o, h1, h2⟩
theorem grow_hr {c : Cx} {h : HP} (hh : HR c h) (ob : Obj) {i : Nat} (hi : ¬ c.born i) (l : Loc) (hl : l.block = some c.w.heap.size ∨ l.block = none) (ao : AO) (ho : OR (c.grow ob i l) ao l) :
    HR (c.grow ob i l) (updH h [(i, ao)]) := by
  have hext := grow_ext hh ob hi l
  have hβ : ∀ j, j ≠ i → (c.grow ob i l).β j = c.β j := fun j hj => if_neg hj
  have hβi : (c.grow ob i l).β i = l := if_pos rfl
  have hsz : (c.grow ob i l).w.heap.size = c.w.heap.size + 1 := World.size_alloc _ _
  refine ⟨fun j x hx => ?_, fun j k b hj hk hjb hkb => ?_, fun j b hj hjb => ?_, fun b hb => ?_, fun j b hj hjb => ?_, fun j b hj hjb => ?_, by rw [hsz]; have := hh.base; show c.base ≤ _; omega⟩
  · simp only [updH] at hx
    by_cases e : j = i
    · rw [if_pos e] at hx
      injection hx with hx
      subst hx e
      exact ⟨.inr rfl, by rw [hβi]; exact ho⟩
    · rw [if_neg e] at hx
      obtain ⟨h1, h2⟩ := hh.obj j x hx
      refine ⟨.inl h1, ?_⟩
      rw [hβ j e]
      cases hlv : liveO x with
      | false => exact h2.mono_dead hext hlv
      | true => exact h2.mono hext fun b hb => Go.RowKit.Below.heap_alloc c.w ob b (hh.size j b ⟨x, hx, hlv⟩ hb)
  · rcases live_upd1 hj with ⟨e, _⟩ | ⟨e, hj'⟩ <;> rcases live_upd1 hk with ⟨f, _⟩ | ⟨f, hk'⟩
    · rw [e, f]
    · subst e
      rw [hβi] at hjb
      rw [hβ k f] at hkb
      rcases hl with hl | hl
      · rw [hl] at hjb
        injection hjb with hjb
        have := hh.size k b hk' hkb
        omega
      · rw [hl] at hjb; cases hjb
    · subst f
      rw [hβi] at hkb
      rw [hβ j e] at hjb
      rcases hl with hl | hl
      · rw [hl] at hkb
        injection hkb with hkb
        have := hh.size j b hj' hjb
        omega
      · rw [hl] at hkb; cases hkb
    · rw [hβ j e] at hjb
      rw [hβ k f] at hkb
      exact hh.inj j k b hj' hk' hjb hkb
  · rcases live_upd1 hj with ⟨e, _⟩ | ⟨e, hj'⟩
    · subst e
      rw [hβi] at hjb
      intro hI
      have := hh.bound b hI
      rcases hl with hl | hl <;> rw [hl] at hjb
      · injection hjb with hjb
        omega
      · cases hjb
    · rw [hβ j e] at hjb
      exact hh.apart j b hj' hjb
  · rw [hsz]
    have := hh.bound b hb
    omega
  · rw [hsz]
    rcases live_upd1 hj with ⟨e, _⟩ | ⟨e, hj'⟩
    · subst e
      rw [hβi] at hjb
      rcases hl with hl | hl <;> rw [hl] at hjb
      · injection hjb with hjb
        omega
      · cases hjb
    · rw [hβ j e] at hjb
      have := hh.size j b hj' hjb
      omega
  · rcases live_upd1 hj with ⟨e, _⟩ | ⟨e, hj'⟩
    · subst e
      rw [hβi] at hjb
      have := hh.base
      show c.base ≤ b
      rcases hl with hl | hl <;> rw [hl] at hjb
      · injection hjb with hjb
        omega
      · cases hjb
    · rw [hβ j e] at hjb
      exact hh.low j b hj' hjb
theorem grow_fr {c : Cx} {h : HP} (ob : Obj) (i : Nat) (l : Loc) (hl : l.block = some c.w.heap.size ∨ l.block = none) (ao : AO) :
    Fr c h (c.grow ob i l) (updH h [(i, ao)]) := by
  refine ⟨rfl, rfl, rfl, ?_, fun b hb _ => Go.RowKit.Below.heap_alloc c.w ob b hb, fun b hb => hb, fun b hb => .inl hb, fun j b hj hjb => ?_, rfl⟩
  · show c.w.heap.size ≤ (c.w.alloc ob).heap.size
    rw [World.size_alloc]
    omega
  · rcases live_upd1 hj with ⟨e, _⟩ | ⟨e, hj'⟩
    · subst e
      have hβi : (c.grow ob j l).β j = l := if_pos rfl
      rw [hβi] at hjb
      rcases hl with hl | hl <;> rw [hl] at hjb
      · injection hjb with hjb
        exact .inl (by omega)
      · cases hjb
    · have hβ : (c.grow ob i l).β j = c.β j := if_neg e
      rw [hβ] at hjb
      exact .inr ⟨j, hj', hjb⟩
theorem OpSem.grow {P : Program} {o : Oper} {ρ : Operand → AV} {rd : Nat → AO} {fresh : Nat} {v : AV} {ao : AO}
    (hrun : ∀ (c : Cx) (h : HP) (a : Act), (∀ x ∈ o.op.operands, V c (ρ x) (a.eval x)) → (∀ i, rd i ≠ .dead → h i = some (rd i)) → HR c h → ¬ c.born fresh →
      ∃ u ob l, (execOp a.eval o).run P c.w = .ok (.value u) (c.w.alloc ob) ∧ (l.block = some c.w.heap.size ∨ l.block = none) ∧
        V (c.grow ob fresh l) v u ∧ OR (c.grow ob fresh l) ao l) : OpSem P o ρ rd fresh v [(fresh, ao)] := by
  intro c h a next Q hv hr hf hh hn
  have hb : ¬ c.born fresh := hf fresh (Nat.le_refl _) ⟨ao, by simp⟩
  obtain ⟨u, ob, l, h1, hl, h2, h3⟩ := hrun c h a hv hr hh hb
  simp only [Oper.wp, h1, Oper.upon_value]
  refine hn u _ h2 (grow_hr hh ob hb l hl ao h3) (grow_ext hh ob hb l) (grow_fr ob fresh l hl ao) fun i hi => ?_
  rcases hi with hi | hi
  · exact .inl hi
  · exact .inr ⟨ao, by simp [hi]⟩
end Go.RX
namespace Go.RX
section
variable {c : Cx} {u : Value}
theorem V_bool {b : Bool} (h : V c (.p (.bool b)) u) : u = .bool b := by simpa [V, RoC] using h
theorem V_int {k : IntKind} {n : Int} (h : V c (.p (.int k n)) u) : u = .int k n := by simpa [V, RoC] using h
theorem V_str {s : ByteArray} (h : V c (.p (.str s)) u) : u = .string s := by simpa [V, RoC] using h
theorem V_nils (h : V c (.p .nils) u) : u = .slice none 0 0 := by simpa [V, RoC] using h
theorem V_nilp (h : V c (.p .nilp) u) : u = .pointer none := by simpa [V, RoC] using h
theorem V_nilm (h : V c (.p .nilm) u) : u = .map none := by simpa [V, RoC] using h
theorem V_nilf (h : V c (.p .nilf) u) : u = .nilFunc := by simpa [V, RoC] using h
theorem V_bool' (b : Bool) : V c (.p (.bool b)) (.bool b) := by simp [V, RoC]
theorem V_int' (k : IntKind) (n : Int) : V c (.p (.int k n)) (.int k n) := by simp [V, RoC]
theorem V_str' (s : ByteArray) : V c (.p (.str s)) (.string s) := by simp [V, RoC]
end
mutual
theorem RoC.one {I : Bool → Nat → Prop} {w : World} : ∀ (x : PV) (y : Value), RoC I w x [y] → y.oneCell' = true
  | .bool _, _, h => by simp [RoC] at h; subst h; rfl
  | .int _ _, _, h => by simp [RoC] at h; subst h; rfl
  | .str _, _, h => by simp [RoC] at h; subst h; rfl
  | .nilp, _, h => by simp [RoC] at h; subst h; rfl
  | .nils, _, h => by simp [RoC] at h; subst h; rfl
  | .nilm, _, h => by simp [RoC] at h; subst h; rfl
  | .nilf, _, h => by simp [RoC] at h; subst h; rfl
  | .nili, _, h => by simp [RoC] at h; subst h; rfl
  | .arr _ _ _, _, h => by
    simp only [RoC] at h
    obtain ⟨a, c, h, _⟩ := h
    simp at h
    subst h
    rfl
  | .agg xs, y, h => by
    simp only [RoC] at h
    exact RoCs.ones xs [y] h y (by simp)
theorem RoCs.ones {I : Bool → Nat → Prop} {w : World} : ∀ (xs : List PV) (ys : List Value), RoCs I w xs ys → ∀ y ∈ ys, y.oneCell' = true
  | [], ys, h => by simp [RoCs] at h; subst h; simp
  | x :: xs, ys, h => by
    simp only [RoCs] at h
    obtain ⟨y, r, rfl, h1, h2⟩ := h
    intro z hz
    rcases List.mem_cons.1 hz with rfl | hz
    · exact RoC.one x z h1
    · exact RoCs.ones xs r h2 z hz
end
theorem RoCs.length {I : Bool → Nat → Prop} {w : World} : ∀ {xs : List PV} {ys : List Value}, RoCs I w xs ys → ys.length = xs.length
  | [], ys, h => by simp [RoCs] at h; subst h; rfl
  | x :: xs, ys, h => by
    simp only [RoCs] at h
    obtain ⟨y, r, rfl, _, h2⟩ := h
    simp [RoCs.length h2]
theorem Vs.length {c : Cx} : ∀ {xs : List AV} {ys : List Value}, Vs c xs ys → ys.length = xs.length
  | [], ys, h => by simp [Vs] at h; subst h; rfl
  | x :: xs, ys, h => by
    simp only [Vs] at h
    obtain ⟨y, r, rfl, _, h2⟩ := h
    simp [Vs.length h2]
theorem Vs_map_p {c : Cx} : ∀ (xs : List PV) (ys : List Value), Vs c (xs.map .p) ys ↔ RoCs c.J c.w xs ys
  | [], ys => by simp [Vs, RoCs]
  | x :: xs, ys => by
    simp only [List.map_cons, Vs, RoCs, V]
    constructor
    · rintro ⟨y, r, rfl, h1, h2⟩; exact ⟨y, r, rfl, h1, (Vs_map_p xs r).1 h2⟩
    · rintro ⟨y, r, rfl, h1, h2⟩; exact ⟨y, r, rfl, h1, (Vs_map_p xs r).2 h2⟩
theorem Vs.append {c : Cx} : ∀ {xs ys : List AV} {us vs : List Value}, Vs c xs us → Vs c ys vs → Vs c (xs ++ ys) (us ++ vs)
  | [], ys, us, vs, h, k => by simp [Vs] at h; subst h; simpa using k
  | x :: xs, ys, us, vs, h, k => by
    simp only [Vs] at h
    obtain ⟨y, r, rfl, h1, h2⟩ := h
    simp only [List.cons_append, Vs]
    exact ⟨y, r ++ vs, rfl, h1, Vs.append h2 k⟩
theorem Vs.drop {c : Cx} : ∀ {xs : List AV} {us : List Value} (n : Nat), Vs c xs us → Vs c (xs.drop n) (us.drop n)
  | _, _, 0, h => h
  | [], us, n + 1, h => by simp [Vs] at h; subst h; simp [Vs]
  | x :: xs, us, n + 1, h => by
    simp only [Vs] at h
    obtain ⟨y, r, rfl, _, h2⟩ := h
    simpa using Vs.drop n h2
theorem Vs.take {c : Cx} : ∀ {xs : List AV} {us : List Value} (n : Nat), Vs c xs us → Vs c (xs.take n) (us.take n)
  | _, _, 0, _ => by simp [Vs]
  | [], us, n + 1, h => by simp [Vs] at h; subst h; simp [Vs]
  | x :: xs, us, n + 1, h => by
    simp only [Vs] at h
    obtain ⟨y, r, rfl, h1, h2⟩ := h
    simp only [List.take_succ_cons, Vs]
    exact ⟨y, _, rfl, h1, Vs.take n h2⟩
theorem Vs.get {c : Cx} : ∀ {xs : List AV} {us : List Value} (i : Nat), Vs c xs us → ∀ x, xs[i]? = some x → ∃ u, us[i]? = some u ∧ V c x u
  | [], us, i, h, x, hx => by simp at hx
  | x :: xs, us, 0, h, z, hz => by
    simp only [Vs] at h
    obtain ⟨y, r, rfl, h1, _⟩ := h
    simp at hz
    subst hz
    exact ⟨y, rfl, h1⟩
  | x :: xs, us, i + 1, h, z, hz => by
    simp only [Vs] at h
    obtain ⟨y, r, rfl, _, h2⟩ := h
    simp at hz
    obtain ⟨u, h3, h4⟩ := Vs.get i h2 z hz
    exact ⟨u, by simpa using h3, h4⟩
theorem ofConst_C {I : Bool → Nat → Prop} {w : World} {v : Value} {x : PV} (h : ofConst v = some x) : RoC I w x [v] := by
  unfold ofConst at h
  split at h <;> first | (injection h with h; subst h; simp [RoC]) | cases h
theorem ofConsts_C {I : Bool → Nat → Prop} {w : World} : ∀ {vs : List Value} {xs : List PV}, ofConsts vs = some xs → RoCs I w xs vs
  | [], xs, h => by simp [ofConsts] at h; subst h; simp [RoCs]
  | v :: vs, xs, h => by
    simp only [ofConsts] at h
    split at h
    · rename_i x ys h1 h2
      injection h with h
      subst h
      simp only [RoCs]
      exact ⟨v, vs, rfl, ofConst_C h1, ofConsts_C h2⟩
    · cases h
theorem const_V (c : Cx) (v : Value) : V c (constAV v) v := by
  unfold constAV
  split
  · rename_i C
    split
    · rename_i xs h
      simp only [V]
      have hr := ofConsts_C (I := c.J) (w := c.w) h
      exact ⟨C, rfl, (Vs_map_p xs _).2 hr, RoCs.ones xs _ hr⟩
    · simp [V]
  · split
    · rename_i x h
      simp only [V]
      exact ofConst_C h
    · simp [V]
theorem zeroCells_C {P : Program} {t : TypeId} {zs : List PV} (h : zeroCells P t = some zs) :
    ∃ z, zeroT P t = some z ∧ ∀ (I : Bool → Nat → Prop) (w : World), RoCs I w zs z.cells.toList := by
  unfold zeroCells at h
  split at h
  · rename_i C hz
    exact ⟨_, hz, fun I w => by simpa [Value.cells] using ofConsts_C h⟩
  · rename_i v hna hz
    cases hv : ofConst v with
    | none => simp [hv] at h
    | some x =>
      simp [hv] at h
      subst h
      refine ⟨v, hz, fun I w => ?_⟩
      have hc : v.cells = #[v] := by
        cases v <;> simp [ofConst] at hv <;> rfl
      rw [hc]
      simp only [RoCs]
      exact ⟨v, [], rfl, ofConst_C hv, rfl⟩
  · cases h
theorem run_zeroValue' {P : Program} {t : TypeId} {z : Value} (h : zeroT P t = some z) (w : World) : (zeroValue t).run P w = .ok z w := by
  unfold zeroT at h
  cases hi : P.info? t with
  | none => simp [hi] at h
  | some i =>
    simp [hi] at h
    simp [zeroValue, typeInfo, hi, h]
theorem run_sizeOf' {P : Program} {t : TypeId} {n : Nat} (h : sizeT P t = some n) (w : World) : (sizeOf t).run P w = .ok n w := by
  unfold sizeT at h
  cases hi : P.info? t with
  | none => simp [hi] at h
  | some i =>
    simp [hi] at h
    simp [sizeOf, typeInfo, hi, h]
theorem run_isAgg' {P : Program} {t : TypeId} {b : Bool} (h : isAggT P t = some b) (w : World) : (isAgg t).run P w = .ok b w := by
  unfold isAggT at h
  cases hu : P.underlying t with
  | none => simp [hu] at h
  | some d =>
    simp only [isAgg, Sem.run_bind, run_underlying hu, Result.andThen_ok]
    rw [hu] at h
    split at h
    · injection h with h; subst h; simp_all
    · injection h with h; subst h; simp_all
    · rename_i hne1 hne2 heq
      injection heq with heq
      subst heq
      injection h with h
      subst h
      cases d <;> first | rfl | (exfalso; first | exact hne1 _ rfl | exact hne2 _ _ rfl)
    · cases h
section
variable {P : Program} {ρ : Operand → AV} {rd : Nat → AO} {fresh : Nat} {dst : Option Tmp} {ty : TypeId} {pos : String} {after : Array Edge} {guard : Option (Nat × Bool)}
theorem sem_move (x : Operand) : OpSem P ⟨dst, .move x, ty, pos, after, guard⟩ ρ rd fresh (ρ x) [] :=
  OpSem.pure fun c h a hv _ _ => ⟨a.eval x, by simp [execOp], hv x (by simp [Op.operands])⟩
theorem sem_assign (x : Operand) : OpSem P ⟨dst, .assign x, ty, pos, after, guard⟩ ρ rd fresh (ρ x) [] :=
  OpSem.pure fun c h a hv _ _ => ⟨a.eval x, by simp [execOp], hv x (by simp [Op.operands])⟩
theorem sem_pick (x y z : Operand) (b : Bool) (hb : ρ x = .p (.bool b)) : OpSem P ⟨dst, .pick x y z, ty, pos, after, guard⟩ ρ rd fresh (match b with | true => ρ y | false => ρ z) [] :=
  OpSem.pure fun c h a hv _ _ => by
    have h1 := hv x (by simp [Op.operands])
    rw [hb] at h1
    have h2 := V_bool h1
    cases b
    · exact ⟨a.eval z, by simp [execOp, h2, asBool], hv z (by simp [Op.operands])⟩
    · exact ⟨a.eval y, by simp [execOp, h2, asBool], hv y (by simp [Op.operands])⟩
theorem sem_alloc (t : TypeId) (zs : List PV) (hz : zeroCells P t = some zs) : OpSem P ⟨dst, .alloc t, ty, pos, after, guard⟩ ρ rd fresh (.ptr fresh 0) [(fresh, .box (zs.map .p))] :=
  OpSem.grow fun c h a hv _ _ hb => by
    obtain ⟨z, h1, h2⟩ := zeroCells_C hz
    refine ⟨.pointer (some ⟨c.w.heap.size, 0, none⟩), .cells z.cells t, .blk c.w.heap.size, ?_, .inl rfl, ?_, ?_⟩
    · simp [execOp, Instr.alloc, run_zeroValue' h1, newVar, newRow]
    · simp only [V]
      exact ⟨.inr rfl, c.w.heap.size, if_pos rfl, rfl⟩
    · simp only [OR]
      have hr := h2 (c.grow (.cells z.cells t) fresh (.blk c.w.heap.size)).J (c.w.alloc (.cells z.cells t))
      exact ⟨z.cells, t, heap_alloc_new _ _, (Vs_map_p zs _).2 hr, RoCs.ones zs _ hr⟩
theorem V_cells {c : Cx} {x : AV} {u : Value} {cs : List AV} (h : V c x u) (hc : cellsOf x = some cs) : Vs c cs u.cells.toList ∧ ∀ y ∈ u.cells.toList, y.oneCell' = true := by
  have one : u.cells = #[u] → u.oneCell' = true → cs = [x] → Vs c cs u.cells.toList ∧ ∀ y ∈ u.cells.toList, y.oneCell' = true := by
    rintro h1 h2 rfl
    rw [h1]
    refine ⟨?_, by simpa using h2⟩
    simp only [Vs]
    exact ⟨u, [], rfl, h, rfl⟩
  cases x with
  | undef => simp [cellsOf] at hc
  | tup vs => simp [cellsOf] at hc
  | agg as =>
    simp [cellsOf] at hc
    subst hc
    simp only [V] at h
    obtain ⟨C, rfl, h1, h2⟩ := h
    exact ⟨h1, h2⟩
  | p x =>
    have h1 : u.oneCell' = true := by
      simp only [V] at h
      exact RoC.one x u h
    exact one (by cases u <;> simp [Value.oneCell'] at h1 <;> rfl) h1 (by simpa [cellsOf] using hc.symm)
  | ptr i o => have h0 := h; simp only [V] at h0; obtain ⟨_, b, _, rfl⟩ := h0; exact one rfl rfl (by simpa [cellsOf] using hc.symm)
  | eptr i j o => have h0 := h; simp only [V] at h0; obtain ⟨_, b, n, cp, sz, _, _, rfl⟩ := h0; exact one rfl rfl (by simpa [cellsOf] using hc.symm)
  | rop ps => have h0 := h; simp only [V] at h0; obtain ⟨b, o, rfl, _⟩ := h0; exact one rfl rfl (by simpa [cellsOf] using hc.symm)
  | map i => have h0 := h; simp only [V] at h0; obtain ⟨_, b, _, rfl⟩ := h0; exact one rfl rfl (by simpa [cellsOf] using hc.symm)
  | iter i => have h0 := h; simp only [V] at h0; obtain ⟨_, b, _, rfl⟩ := h0; exact one rfl rfl (by simpa [cellsOf] using hc.symm)
  | row i => have h0 := h; simp only [V] at h0; obtain ⟨_, a, n, cp, sz, rfl, _⟩ := h0; exact one rfl rfl (by simpa [cellsOf] using hc.symm)
  | func fn f g => have h0 := h; simp only [V] at h0; obtain ⟨F, G, rfl, _⟩ := h0; exact one rfl rfl (by simpa [cellsOf] using hc.symm)
  | iface t y => have h0 := h; simp only [V] at h0; obtain ⟨y, rfl, _⟩ := h0; exact one rfl rfl (by simpa [cellsOf] using hc.symm)
theorem sem_box (t : TypeId) (x : Operand) (cs : List AV) (hx : cellsOf (ρ x) = some cs) : OpSem P ⟨dst, .box t x, ty, pos, after, guard⟩ ρ rd fresh (.ptr fresh 0) [(fresh, .box cs)] :=
  OpSem.grow fun c h a hv _ hh hb => by
    have h1 := V_cells (hv x (by simp [Op.operands])) hx
    refine ⟨.pointer (some ⟨c.w.heap.size, 0, none⟩), .cells (a.eval x).cells t, .blk c.w.heap.size, ?_, .inl rfl, ?_, ?_⟩
    · simp [execOp, Instr.box, newVar, newRow]
    · simp only [V]
      exact ⟨.inr rfl, c.w.heap.size, if_pos rfl, rfl⟩
    · simp only [OR]
      exact ⟨(a.eval x).cells, t, heap_alloc_new _ _, Vs.mono (grow_ext hh _ hb _) _ _ h1.1, h1.2⟩
theorem sem_nilCheck (x : Operand) (v : AV) (hx : ρ x = v) (hk : (∃ i o, v = .ptr i o) ∨ (∃ i j o, v = .eptr i j o) ∨ (∃ cs, v = .rop cs) ∨ (∃ f A B, v = .func (.func f) A B)) :
    OpSem P ⟨dst, .nilCheck x, ty, pos, after, guard⟩ ρ rd fresh v [] :=
  OpSem.pure fun c h a hv _ _ => by
    have h1 := hv x (by simp [Op.operands])
    rw [hx] at h1
    refine ⟨a.eval x, ?_, h1⟩
    rcases hk with ⟨i, o, rfl⟩ | ⟨i, j, o, rfl⟩ | ⟨cs, rfl⟩ | ⟨f, A, B, rfl⟩ <;> simp only [V] at h1
    · obtain ⟨_, b, _, h2⟩ := h1; simp [execOp, h2]
    · obtain ⟨_, b, n, cp, sz, _, _, h2⟩ := h1; simp [execOp, h2]
    · obtain ⟨b, o, h2, _⟩ := h1; simp [execOp, h2]
    · obtain ⟨F, G, h2, _⟩ := h1; simp [execOp, h2]
theorem sem_makeFunc (fn : Fn) (f g : Array Operand) : OpSem P ⟨dst, .makeFunc fn f g, ty, pos, after, guard⟩ ρ rd fresh (.func fn (f.toList.map ρ) (g.toList.map ρ)) [] :=
  OpSem.pure fun c h a hv _ _ => by
    have all : ∀ l : List Operand, (∀ x ∈ l, V c (ρ x) (a.eval x)) → Vs c (l.map ρ) (l.map a.eval) := by
      intro l
      induction l with
      | nil => intro _; simp [Vs]
      | cons x l ih =>
        intro hl
        simp only [List.map_cons, Vs]
        exact ⟨_, _, rfl, hl x (by simp), ih fun y hy => hl y (by simp [hy])⟩
    refine ⟨.func fn (f.map a.eval) (g.map a.eval), by simp [execOp, Instr.makeFunc], ?_⟩
    simp only [V]
    refine ⟨_, _, rfl, ?_, ?_⟩
    · simpa using all f.toList fun x hx => hv x (by simp only [Op.operands, Array.mem_append]; exact .inl (by simpa using hx))
    · simpa using all g.toList fun x hx => hv x (by simp only [Op.operands, Array.mem_append]; exact .inr (by simpa using hx))
theorem sem_makeMap (t : TypeId) (kk : KeyK) : OpSem P ⟨dst, .makeMap t none, ty, pos, after, guard⟩ ρ rd fresh (.map fresh) [(fresh, .map kk [])] :=
  OpSem.grow fun c h a hv _ hh hb => by
    refine ⟨.map (some c.w.heap.size), .map #[] 0, .blk c.w.heap.size, ?_, .inl rfl, ?_, ?_⟩
    · simp [execOp, Instr.makeMap]
    · simp only [V]
      exact ⟨.inr rfl, c.w.heap.size, if_pos rfl, rfl⟩
    · simp only [OR]
      exact ⟨#[], 0, heap_alloc_new _ _, by simp [RoMap]⟩
theorem sem_range (t : TypeId) (x : Operand) (s : ByteArray) (hx : ρ x = .p (.str s)) (ht : P.underlying t = some .string) :
    OpSem P ⟨dst, .range t x, ty, pos, after, guard⟩ ρ rd fresh (.iter fresh) [(fresh, .iter s 0)] :=
  OpSem.grow fun c h a hv _ hh hb => by
    have h1 := hv x (by simp [Op.operands])
    rw [hx] at h1
    have h2 := V_str h1
    refine ⟨.pointer (some ⟨c.w.heap.size, 0, none⟩), .stringIter s 0, .blk c.w.heap.size, ?_, .inl rfl, ?_, ?_⟩
    · simp [execOp, Instr.range, run_underlying ht, h2]
    · simp only [V]
      exact ⟨.inr rfl, c.w.heap.size, if_pos rfl, rfl⟩
    · simp only [OR]
      exact heap_alloc_new _ _
theorem sem_extract (x : Operand) (i : Nat) (vs : List AV) (v : AV) (hx : ρ x = .tup vs) (hi : vs[i]? = some v) : OpSem P ⟨dst, .extract x i, ty, pos, after, guard⟩ ρ rd fresh v [] :=
  OpSem.pure fun c h a hv _ _ => by
    have h1 := hv x (by simp [Op.operands])
    rw [hx] at h1
    simp only [V] at h1
    obtain ⟨C, h2, h3⟩ := h1
    obtain ⟨u, h4, h5⟩ := Vs.get i h3 v hi
    refine ⟨u, ?_, h5⟩
    have h6 : C[i]? = some u := by simpa using h4
    simp [execOp, Instr.extract, h2, h6]
end
end Go.RX
namespace Go.RX
def PlainOK (P : Program) (plain : PlainT) : Prop :=
  ∀ t us vs b, plain t us vs = some b → P.eqGuardType P.depth t = false ∧
    ∀ (X Y : List Value) (I : Bool → Nat → Prop) (w : World), RoCs I w us X → RoCs I w vs Y →
      (Op.equal t (.agg X.toArray) (.agg Y.toArray)).run P w = .ok b w
section
variable {P : Program} {ρ : Operand → AV} {rd : Nat → AO} {fresh : Nat} {dst : Option Tmp} {ty : TypeId} {pos : String} {after : Array Edge} {guard : Option (Nat × Bool)}
theorem intsA_run {op : BinOp} {k : IntKind} {a b : Int} {K : AV → Prop} (h : intsA op k a b K) :
    ∃ v, K v ∧ ∃ u, (∀ (c : Cx), V c v u) ∧ ∀ (t : TypeId) (w : World), (binOp op t (.int k a) (.int k b)).run P w = .ok u w := by
  unfold intsA at h
  split at h
  · exact ⟨_, h, _, fun c => V_int' _ _, fun t w => by simp [binOp, Op.intArith]⟩
  · exact ⟨_, h, _, fun c => V_int' _ _, fun t w => by simp [binOp, Op.intArith]⟩
  · exact ⟨_, h, _, fun c => V_int' _ _, fun t w => by simp [binOp, Op.intArith]⟩
  · exact ⟨_, h.2, _, fun c => V_int' _ _, fun t w => by simp [binOp, Op.intDiv, h.1]⟩
  · exact ⟨_, h.2, _, fun c => V_int' _ _, fun t w => by simp [binOp, Op.intDiv, h.1]⟩
  · exact ⟨_, h, _, fun c => V_bool' _, fun t w => by simp [binOp, Op.intCmp]⟩
  · exact ⟨_, h, _, fun c => V_bool' _, fun t w => by simp [binOp, Op.intCmp]⟩
  · exact ⟨_, h, _, fun c => V_bool' _, fun t w => by simp [binOp, Op.intCmp]⟩
  · exact ⟨_, h, _, fun c => V_bool' _, fun t w => by simp [binOp, Op.intCmp]⟩
  · exact ⟨_, h, _, fun c => V_bool' _, fun t w => by simp [binOp, Op.intCmp]⟩
  · exact ⟨_, h, _, fun c => V_bool' _, fun t w => by simp [binOp, Op.intCmp]⟩
  · exact ⟨_, h.2, _, fun c => V_int' _ _, fun t w => by simp [binOp, Op.shift, show ¬ b < 0 from by omega]⟩
  · exact ⟨_, h.2, _, fun c => V_int' _ _, fun t w => by simp [binOp, Op.shift, show ¬ b < 0 from by omega]⟩
  · exact h.elim
theorem shift_kinds {op : BinOp} {k k' : IntKind} {a b : Int} (hop : op = .shl ∨ op = .shr) (t : TypeId) (w : World) :
    (binOp op t (.int k a) (.int k' b)).run P w = (binOp op t (.int k a) (.int k b)).run P w := by
  rcases hop with rfl | rfl <;> simp [binOp, Op.shift]
theorem strsA_run {op : BinOp} {a b : ByteArray} {K : AV → Prop} (h : strsA op a b K) :
    ∃ v, K v ∧ ∃ u, (∀ (c : Cx), V c v u) ∧ ∀ (t : TypeId) (w : World), (binOp op t (.string a) (.string b)).run P w = .ok u w := by
  unfold strsA at h
  split at h
  · have : ¬ ((IntKind.max .i64) < ((a.size + b.size : Nat) : Int)) := by
      have h9 : IntKind.max .i64 = 9223372036854775807 := by decide
      rw [h9]
      omega
    refine ⟨_, h.2, _, fun c => V_str' _, fun t w => ?_⟩
    simp only [binOp, Op.stringOp, gt_iff_lt, if_neg this]
    rfl
  · exact ⟨_, h, _, fun c => V_bool' _, fun t w => by simp [binOp, Op.stringOp]⟩
  · exact ⟨_, h, _, fun c => V_bool' _, fun t w => by simp [binOp, Op.stringOp]⟩
  · exact ⟨_, h, _, fun c => V_bool' _, fun t w => by simp [binOp, Op.stringOp]⟩
  · exact ⟨_, h, _, fun c => V_bool' _, fun t w => by simp [binOp, Op.stringOp]⟩
  · exact ⟨_, h, _, fun c => V_bool' _, fun t w => by simp [binOp, Op.stringOp]⟩
  · exact ⟨_, h, _, fun c => V_bool' _, fun t w => by simp [binOp, Op.stringOp]⟩
  · exact h.elim
theorem pureCells_eq : ∀ {cs : List AV} {xs : List PV}, pureCells cs = some xs → cs = xs.map .p
  | [], xs, h => by simp [pureCells] at h; subst h; rfl
  | .p x :: r, xs, h => by
    simp only [pureCells, Option.map_eq_some_iff] at h
    obtain ⟨ys, h1, rfl⟩ := h
    simp [pureCells_eq h1]
  | .undef :: _, _, h => by simp [pureCells] at h
  | .ptr _ _ :: _, _, h => by simp [pureCells] at h
  | .eptr _ _ _ :: _, _, h => by simp [pureCells] at h
  | .rop _ :: _, _, h => by simp [pureCells] at h
  | .row _ :: _, _, h => by simp [pureCells] at h
  | .map _ :: _, _, h => by simp [pureCells] at h
  | .iter _ :: _, _, h => by simp [pureCells] at h
  | .func _ _ _ :: _, _, h => by simp [pureCells] at h
  | .agg _ :: _, _, h => by simp [pureCells] at h
  | .tup _ :: _, _, h => by simp [pureCells] at h
  | .iface _ _ :: _, _, h => by simp [pureCells] at h
theorem isEq_some {op : BinOp} {b : Bool} (h : isEq op = some b) : (op = .eql ∧ b = true) ∨ (op = .neq ∧ b = false) := by
  cases op <;> simp [isEq] at h <;> simp [h]
theorem eqGuard_int (op : BinOp) (t : TypeId) (x y : Operand) (k : IntKind) (n : Int) (v : Value) (w : World) : (eqGuard op t x y (.int k n) v).run P w = .ok () w := by
  cases op <;> simp [eqGuard]
theorem eqGuard_str (op : BinOp) (t : TypeId) (x y : Operand) (s : ByteArray) (v : Value) (w : World) : (eqGuard op t x y (.string s) v).run P w = .ok () w := by
  cases op <;> simp [eqGuard]
theorem eqGuard_bool (op : BinOp) (t : TypeId) (x y : Operand) (b : Bool) (v : Value) (w : World) : (eqGuard op t x y (.bool b) v).run P w = .ok () w := by
  cases op <;> simp [eqGuard]
theorem sem_bin {plain : PlainT} (hpl : PlainOK P plain) (op : BinOp) (t yt : TypeId) (x y : Operand) {K : AV → Prop} (h : binA P plain op t (ρ x) (ρ y) K) :
    ∃ v, K v ∧ OpSem P ⟨dst, .binOp op t x y yt, ty, pos, after, guard⟩ ρ rd fresh v [] := by
  unfold binA at h
  split at h
  · rename_i k a k' b hx hy
    have key : ∃ v, K v ∧ ∃ u, (∀ (c : Cx), V c v u) ∧ ∀ (w : World), (binOp op t (.int k a) (.int k' b)).run P w = .ok u w := by
      split at h
      · obtain ⟨v, hk, u, h1, h2⟩ := intsA_run (P := P) h
        exact ⟨v, hk, u, h1, fun w => by rw [shift_kinds (.inl rfl)]; exact h2 t w⟩
      · obtain ⟨v, hk, u, h1, h2⟩ := intsA_run (P := P) h
        exact ⟨v, hk, u, h1, fun w => by rw [shift_kinds (.inr rfl)]; exact h2 t w⟩
      · split at h
        · rename_i hd
          have hkk : k = k' := of_decide_eq_true hd
          subst hkk
          obtain ⟨v, hk, u, h1, h2⟩ := intsA_run (P := P) h
          exact ⟨v, hk, u, h1, fun w => h2 t w⟩
        · exact h.elim
    obtain ⟨v, hk, u, h1, h2⟩ := key
    refine ⟨v, hk, OpSem.pure fun c hp a' hv _ _ => ⟨u, ?_, h1 c⟩⟩
    have e1 := hv x (by simp [Op.operands])
    have e2 := hv y (by simp [Op.operands])
    rw [hx] at e1
    rw [hy] at e2
    have e3 := V_int e1
    have e4 := V_int e2
    simp [execOp, e3, e4, eqGuard_int, h2]
  · rename_i a b hx hy
    obtain ⟨v, hk, u, h1, h2⟩ := strsA_run (P := P) h
    refine ⟨v, hk, OpSem.pure fun c hp a' hv _ _ => ⟨u, ?_, h1 c⟩⟩
    have e1 := hv x (by simp [Op.operands])
    have e2 := hv y (by simp [Op.operands])
    rw [hx] at e1
    rw [hy] at e2
    have e3 := V_str e1
    have e4 := V_str e2
    simp [execOp, e3, e4, eqGuard_str, h2]
  · rename_i a b hx hy
    have key : ∃ v, K v ∧ ∃ u, (∀ (c : Cx), V c v u) ∧ ∀ (w : World), (binOp op t (.bool a) (.bool b)).run P w = .ok u w := by
      split at h
      · rename_i hu e
        rcases isEq_some e with ⟨rfl, _⟩ | ⟨_, e⟩
        · exact ⟨_, h, _, fun c => V_bool' _, fun w => by simp only [binOp]; simp [run_equal_bool w t a b hu]⟩
        · cases e
      · rename_i hu e
        rcases isEq_some e with ⟨_, e⟩ | ⟨rfl, _⟩
        · cases e
        · exact ⟨_, h, _, fun c => V_bool' _, fun w => by simp only [binOp]; simp [run_equal_bool w t a b hu]⟩
      · exact h.elim
    obtain ⟨v, hk, u, h1, h2⟩ := key
    refine ⟨v, hk, OpSem.pure fun c hp a' hv _ _ => ⟨u, ?_, h1 c⟩⟩
    have e1 := hv x (by simp [Op.operands])
    have e2 := hv y (by simp [Op.operands])
    rw [hx] at e1
    rw [hy] at e2
    have e3 := V_bool e1
    have e4 := V_bool e2
    simp [execOp, e3, e4, eqGuard_bool, h2]
  · rename_i xs ys hx hy
    split at h
    · rename_i us vs hus hvs
      have key : ∃ b, plain t us vs = some b ∧ ((op = .eql ∧ K (.p (.bool b))) ∨ (op = .neq ∧ K (.p (.bool (!b))))) := by
        split at h
        · rename_i b e1 e2
          rcases isEq_some e1 with ⟨rfl, _⟩ | ⟨_, e⟩
          · exact ⟨b, e2, .inl ⟨rfl, h⟩⟩
          · cases e
        · rename_i b e1 e2
          rcases isEq_some e1 with ⟨_, e⟩ | ⟨rfl, _⟩
          · cases e
          · exact ⟨b, e2, .inr ⟨rfl, h⟩⟩
        · exact h.elim
      obtain ⟨b, hb, hk⟩ := key
      obtain ⟨hg, heq⟩ := hpl t us vs b hb
      have h1 := pureCells_eq hus
      have h2 := pureCells_eq hvs
      subst h1 h2
      have run : ∀ (c : Cx) (X Y : Value), V c (.agg (us.map .p)) X → V c (.agg (vs.map .p)) Y → ∃ A B, X = .agg A ∧ Y = .agg B ∧ (Op.equal t (.agg A) (.agg B)).run P c.w = .ok b c.w := by
        intro c X Y hX hY
        simp only [V] at hX hY
        obtain ⟨A, rfl, hA, _⟩ := hX
        obtain ⟨B, rfl, hB, _⟩ := hY
        exact ⟨A, B, rfl, rfl, by simpa using heq A.toList B.toList c.J c.w ((Vs_map_p _ _).1 hA) ((Vs_map_p _ _).1 hB)⟩
      rcases hk with ⟨rfl, hk⟩ | ⟨rfl, hk⟩
      · refine ⟨_, hk, OpSem.pure fun c hp a' hv _ _ => ⟨.bool b, ?_, V_bool' b⟩⟩
        have e1 := hv x (by simp [Op.operands])
        have e2 := hv y (by simp [Op.operands])
        rw [hx] at e1
        rw [hy] at e2
        obtain ⟨A, B, e3, e4, e5⟩ := run c _ _ e1 e2
        simp only [execOp, e3, e4, Sem.run_bind, run_eqGuard_agg _ _ _ _ _ _ _ hg, Result.andThen_ok, binOp, e5, Sem.run_pure]
      · refine ⟨_, hk, OpSem.pure fun c hp a' hv _ _ => ⟨.bool (!b), ?_, V_bool' _⟩⟩
        have e1 := hv x (by simp [Op.operands])
        have e2 := hv y (by simp [Op.operands])
        rw [hx] at e1
        rw [hy] at e2
        obtain ⟨A, B, e3, e4, e5⟩ := run c _ _ e1 e2
        simp only [execOp, e3, e4, Sem.run_bind, run_eqGuard_agg _ _ _ _ _ _ _ hg, Result.andThen_ok, binOp, e5, Sem.run_pure]
    · exact h.elim
  · exact h.elim
theorem sem_un (op : UnOp) (xt : TypeId) (x : Operand) {K : AV → Prop} (h : unA op (ρ x) K) :
    ∃ v, K v ∧ OpSem P ⟨dst, .unOp op xt x, ty, pos, after, guard⟩ ρ rd fresh v [] := by
  unfold unA at h
  split at h
  · rename_i b hx
    refine ⟨_, h, OpSem.pure fun c hp a hv _ _ => ⟨.bool (!b), ?_, V_bool' _⟩⟩
    have e1 := hv x (by simp [Op.operands])
    rw [hx] at e1
    simp [execOp, V_bool e1, Op.unary]
  · rename_i k n hx
    refine ⟨_, h, OpSem.pure fun c hp a hv _ _ => ⟨.int k (k.wrap (0 - n)), ?_, V_int' _ _⟩⟩
    have e1 := hv x (by simp [Op.operands])
    rw [hx] at e1
    simp [execOp, V_int e1, Op.unary, Op.intArith]
  · exact h.elim
theorem sem_conv (s d : TypeId) (x : Operand) {K : AV → Prop} (h : convA P s d (ρ x) K) :
    ∃ v, K v ∧ OpSem P ⟨dst, .convert s d x, ty, pos, after, guard⟩ ρ rd fresh v [] := by
  unfold convA at h
  split at h
  · rename_i j k k' n h1 h2 hx
    refine ⟨_, h, OpSem.pure fun c hp a hv _ _ => ⟨.int k (k.wrap n), ?_, V_int' _ _⟩⟩
    have e1 := hv x (by simp [Op.operands])
    rw [hx] at e1
    simp [execOp, V_int e1, convert, run_underlying h1, run_underlying h2, Conv.intToInt]
  · rename_i t h1 h2 hx
    refine ⟨_, h, OpSem.pure fun c hp a hv _ _ => ⟨.string t, ?_, V_str' _⟩⟩
    have e1 := hv x (by simp [Op.operands])
    rw [hx] at e1
    simp [execOp, V_str e1, convert, run_underlying h1, run_underlying h2]
  · exact h.elim
theorem fieldAt_run {t : TypeId} {f off n : Nat} (h : fieldAt P t f = some (off, n)) :
    ∃ (fs : Array Field) (fd : Field), P.underlying t = some (.struct fs) ∧ fs[f]? = some fd ∧ fd.offset = off ∧ sizeT P fd.type = some n := by
  unfold fieldAt fieldsT at h
  cases hu : P.underlying t with
  | none => simp [hu] at h
  | some d =>
    cases d <;> simp [hu] at h
    rename_i fs
    cases hf : fs[f]? with
    | none => simp [hf] at h
    | some fd =>
      simp [hf] at h
      exact ⟨fs, fd, rfl, hf, h.2, h.1⟩
theorem run_fieldPlace' {fd : Field} {n : Nat} (hn : sizeT P fd.type = some n) (h0 : n ≠ 0) (a : Addr) (w : World) : (fieldPlace a fd).run P w = .ok (a.add fd.offset) w := by
  simp [fieldPlace, run_sizeOf' hn, h0]
theorem add_none (b o n : Nat) : (⟨b, o, none⟩ : Addr).add n = ⟨b, o + n, none⟩ := by
  unfold Addr.add
  split <;> simp_all
theorem RoCs.drop {I : Bool → Nat → Prop} {w : World} : ∀ {xs : List PV} {us : List Value} (n : Nat), RoCs I w xs us → RoCs I w (xs.drop n) (us.drop n)
  | _, _, 0, h => h
  | [], us, n + 1, h => by simp [RoCs] at h; subst h; simp [RoCs]
  | x :: xs, us, n + 1, h => by
    simp only [RoCs] at h
    obtain ⟨y, r, rfl, _, h2⟩ := h
    simpa using RoCs.drop n h2
theorem RoCs.take {I : Bool → Nat → Prop} {w : World} : ∀ {xs : List PV} {us : List Value} (n : Nat), RoCs I w xs us → RoCs I w (xs.take n) (us.take n)
  | _, _, 0, _ => by simp [RoCs]
  | [], us, n + 1, h => by simp [RoCs] at h; subst h; simp [RoCs]
  | x :: xs, us, n + 1, h => by
    simp only [RoCs] at h
    obtain ⟨y, r, rfl, h1, h2⟩ := h
    simp only [List.take_succ_cons, RoCs]
    exact ⟨y, _, rfl, h1, RoCs.take n h2⟩
theorem sem_fieldAddr (env : Env) (hP : env.P = P) (t : TypeId) (x : Operand) (f : Nat) {K : KA} (h : addrA env t (ρ x) f K) :
    ∃ v, K v [] ∧ OpSem P ⟨dst, .fieldAddr t x f, ty, pos, after, guard⟩ ρ rd fresh v [] := by
  unfold addrA at h
  rw [hP] at h
  split at h
  · rename_i off n hf
    obtain ⟨fs, fd, h1, h2, rfl, h3⟩ := fieldAt_run hf
    split at h
    · exact h.elim
    · rename_i hn
      have hn0 : n ≠ 0 := by intro e; subst e; simp at hn
      have run : ∀ (b o : Nat) (w : World), (Instr.fieldAt t (.pointer (some ⟨b, o, none⟩)) f).run P w = .ok (.pointer (some ⟨b, o + fd.offset, none⟩)) w := by
        intro b o w
        simp [Instr.fieldAt, run_underlying h1, h2, Instr.sureAddr, run_fieldPlace' h3 hn0, add_none]
      split at h
      · rename_i i o hx
        refine ⟨_, h, OpSem.pure fun c hp a hv _ _ => ?_⟩
        have e1 := hv x (by simp [Op.operands])
        rw [hx] at e1
        simp only [V] at e1
        obtain ⟨hb, b, h4, h5⟩ := e1
        exact ⟨.pointer (some ⟨b, o + fd.offset, none⟩), by simp [execOp, h5, run], by simp only [V]; exact ⟨hb, b, h4, rfl⟩⟩
      · rename_i i j o hx
        refine ⟨_, h, OpSem.pure fun c hp a hv _ _ => ?_⟩
        have e1 := hv x (by simp [Op.operands])
        rw [hx] at e1
        simp only [V] at e1
        obtain ⟨hb, b, n, cp, sz, h4, h6, h5⟩ := e1
        exact ⟨.pointer (some ⟨b, j * sz + o + fd.offset, none⟩), by simp [execOp, h5, run], by simp only [V]; exact ⟨hb, b, n, cp, sz, h4, h6, by rw [Nat.add_assoc]⟩⟩
      · rename_i cs hx
        refine ⟨_, h, OpSem.pure fun c hp a hv _ _ => ?_⟩
        have e1 := hv x (by simp [Op.operands])
        rw [hx] at e1
        simp only [V] at e1
        obtain ⟨b, o, h4, hI, es, h5, h6⟩ := e1
        refine ⟨.pointer (some ⟨b, o + fd.offset, none⟩), by simp [execOp, h4, run], ?_⟩
        simp only [V]
        refine ⟨b, o + fd.offset, rfl, hI, es.drop fd.offset, h5.drop _, fun j hj => ?_⟩
        simp only [List.length_drop] at hj
        have := h6 (fd.offset + j) (by omega)
        rw [List.getElem?_drop, ← this, Nat.add_assoc]
      · exact h.elim
  · exact h.elim
def outV (agg : Bool) (es : List Value) : Value := match agg with
  | true => .agg es.toArray
  | false => es.headD Go.undef
theorem run_loadCellsFrom' {P : Program} {w : World} {b o : Nat} : ∀ (n i : Nat) (es : List Value) (acc : Array Value), es.length = n → (∀ j, j < n → w.cell? ⟨b, o + i + j, none⟩ = es[j]?) →
    (loadCellsFrom ⟨b, o, none⟩ i n acc).run P w = .ok (acc ++ es.toArray) w
  | 0, i, es, acc, hl, _ => by
    have : es = [] := List.eq_nil_of_length_eq_zero hl
    subst this
    simp [loadCellsFrom]
  | n + 1, i, es, acc, hl, h => by
    cases es with
    | nil => simp at hl
    | cons e es =>
      have h0 := h 0 (by omega)
      simp only [Nat.add_zero, List.getElem?_cons_zero] at h0
      have ih := run_loadCellsFrom' (P := P) (w := w) (b := b) (o := o) n (i + 1) es (acc.push e) (by simpa using hl) (fun j hj => by
        have := h (j + 1) (by omega)
        simp only [List.getElem?_cons_succ] at this
        rw [← this]
        congr 2
        omega)
      simp [loadCellsFrom, add_none, h0, ih]
theorem run_loadVar' {t : TypeId} {agg : Bool} {n : Nat} (ha : isAggT P t = some agg) (hn : sizeT P t = some n) {w : World} {b o : Nat} {es : List Value} (hl : es.length = n)
    (h : ∀ j, j < n → w.cell? ⟨b, o + j, none⟩ = es[j]?) (h1 : agg = false → n = 1) :
    (loadVar t ⟨b, o, none⟩).run P w = .ok (outV agg es) w := by
  cases agg with
  | true =>
    have := run_loadCellsFrom' (P := P) (w := w) (b := b) (o := o) n 0 es #[] hl (by simpa using h)
    simp [loadVar, run_isAgg' ha, run_sizeOf' hn, loadCells, this, outV]
  | false =>
    have h2 := h1 rfl
    subst h2
    cases es with
    | nil => simp at hl
    | cons e es =>
      have h0 := h 0 (by omega)
      simp at h0
      simp [loadVar, run_isAgg' ha, h0, outV]
theorem V_ofCells {c : Cx} {agg : Bool} {cs : List AV} {es : List Value} (h : Vs c cs es) (h1 : ∀ u ∈ es, u.oneCell' = true) (hk : agg = false → cs.length = 1) :
    V c (ofCells agg cs) (outV agg es) := by
  cases agg with
  | true =>
    simp only [ofCells, V, outV]
    exact ⟨_, rfl, by simpa using h, by simpa using h1⟩
  | false =>
    have h2 := hk rfl
    match cs, h2 with
    | [x], _ =>
      simp only [Vs] at h
      obtain ⟨y, ys, rfl, h3, _⟩ := h
      simpa [ofCells, outV] using h3
end
end Go.RX
namespace Go.RX
def VwOK (P : Program) (vw : TypeId → PV → (List PV → Prop) → Prop) : Prop :=
  ∀ t x K, vw t x K → ∃ cs, K cs ∧ sizeT P t = some cs.length ∧ 0 < cs.length ∧ ((isAggT P t = some true ∧ x = .agg cs) ∨ (isAggT P t = some false ∧ (∀ xs, x ≠ .agg xs) ∧ cs = [x]))
theorem RoC.cells {I : Bool → Nat → Prop} {w : World} {x : PV} {es : List Value} (h : RoC I w x es) (hx : ∀ xs, x ≠ .agg xs) : RoCs I w [x] es := by
  simp only [RoCs]
  cases x with
  | agg xs => exact absurd rfl (hx xs)
  | arr n g =>
    have h0 := h
    simp only [RoC] at h0
    obtain ⟨a, c, rfl, _⟩ := h0
    exact ⟨_, [], rfl, h, rfl⟩
  | _ =>
    have h0 := h
    simp only [RoC] at h0
    subst h0
    exact ⟨_, [], rfl, h, rfl⟩
theorem vw_cells {P : Program} {t : TypeId} {x : PV} {cs : List PV} (hk : (isAggT P t = some true ∧ x = .agg cs) ∨ (isAggT P t = some false ∧ (∀ xs, x ≠ .agg xs) ∧ cs = [x]))
    {I : Bool → Nat → Prop} {w : World} {es : List Value} (h : RoC I w x es) : RoCs I w cs es := by
  rcases hk with ⟨_, rfl⟩ | ⟨_, hx, rfl⟩
  · simpa [RoC] using h
  · exact h.cells hx
section
variable {P : Program} {ρ : Operand → AV} {rd : Nat → AO} {fresh : Nat} {dst : Option Tmp} {ty : TypeId} {pos : String} {after : Array Edge} {guard : Option (Nat × Bool)}
theorem shapeT_some {t : TypeId} {agg : Bool} {n : Nat} (h : shapeT P t = some (agg, n)) : isAggT P t = some agg ∧ sizeT P t = some n ∧ (agg = false → n = 1) := by
  unfold shapeT at h
  split at h
  · rename_i m h1 h2
    simp at h
    obtain ⟨rfl, rfl⟩ := h
    exact ⟨h1, h2, fun e => by cases e⟩
  · rename_i m h1 h2
    split at h
    · rename_i hb
      simp at h
      obtain ⟨rfl, rfl⟩ := h
      exact ⟨h1, h2, fun _ => Nat.eq_of_beq_eq_true hb⟩
    · cases h
  · cases h
theorem RoRow.at_ {I : Bool → Nat → Prop} {w : World} {sz : Nat} : ∀ {xs : List PV} {cells : List Value} (i : Nat), RoRow I w sz xs cells → i < xs.length →
    ∃ es, RoC I w (xs.getD i .nilp) es ∧ es.length = sz ∧ ∀ j, j < sz → cells[i * sz + j]? = es[j]?
  | [], _, i, _, hi => by simp at hi
  | x :: xs, cells, 0, h, _ => by
    obtain ⟨es, r, rfl, h1, h2, _⟩ := h
    refine ⟨es, by simpa using h2, h1, fun j hj => ?_⟩
    rw [List.getElem?_append_left (by omega)]
    simp
  | x :: xs, cells, i + 1, h, hi => by
    obtain ⟨es, r, rfl, h1, h2, h3⟩ := h
    obtain ⟨us, h4, h5, h6⟩ := RoRow.at_ i h3 (by simpa using hi)
    refine ⟨us, by simpa using h4, h5, fun j hj => ?_⟩
    rw [List.getElem?_append_right (by rw [h1, Nat.add_mul]; omega), ← h6 j hj]
    congr 1
    rw [h1, Nat.add_mul]
    omega
theorem RoRow.length {I : Bool → Nat → Prop} {w : World} {sz : Nat} : ∀ {xs : List PV} {cells : List Value}, RoRow I w sz xs cells → cells.length = xs.length * sz
  | [], _, h => by simp [RoRow] at h; subst h; simp
  | x :: xs, cells, h => by
    obtain ⟨es, r, rfl, h1, _, h3⟩ := h
    simp [h1, RoRow.length h3, Nat.add_mul]
    omega
theorem ownsRow_cell {w : World} {e sz n : Nat} {v : Value} {cells : List Value} (h : w.ownsRow 0 e sz v n cells) {b m cp : Nat} (hv : v = .slice (some ⟨b, 0, none⟩) m cp) (j : Nat) (hj : j < cells.length) :
    w.cell? ⟨b, j, none⟩ = cells[j]? := by
  have h1 := h.cells (g := b) (by rw [hv]; rfl) j (cells[j]) (by simp [hj])
  rw [add_none, Nat.zero_add] at h1
  rw [h1]
  simp [hj]
theorem sem_load (env : Env) (hP : env.P = P) (hvw : VwOK P env.vw) (t : TypeId) (x : Operand) {K : KA} (h : loadA env rd t (ρ x) K) :
    ∃ v, K v [] ∧ OpSem P ⟨dst, .load t x, ty, pos, after, guard⟩ ρ rd fresh v [] := by
  unfold loadA at h
  rw [hP] at h
  split at h
  · rename_i agg n hshape
    obtain ⟨ha, hn, hone⟩ := shapeT_some hshape
    have fin : ∀ (c : Cx) (b o : Nat) (cs : List AV) (es : List Value), Vs c cs es → (∀ u ∈ es, u.oneCell' = true) → cs.length = n → (∀ j, j < n → c.w.cell? ⟨b, o + j, none⟩ = es[j]?) →
        ∃ u, (Instr.loadAt t (.pointer (some ⟨b, o, none⟩))).run P c.w = .ok u c.w ∧ V c (ofCells agg cs) u := by
      intro c b o cs es h1 h2 h3 h4
      refine ⟨_, ?_, V_ofCells h1 h2 (fun e => by rw [h3]; exact hone e)⟩
      have := run_loadVar' ha hn (w := c.w) (b := b) (o := o) (es := es) (by rw [h1.length, h3]) h4 hone
      simp [Instr.loadAt, Instr.sureAddr, this]
    split at h
    · rename_i i off hx
      split at h
      · rename_i cs hr
        split at h
        · rename_i hle
          have hle' : off + n ≤ cs.length := Nat.le_of_ble_eq_true hle
          refine ⟨_, h, OpSem.pure fun c hp a hv hrd hh => ?_⟩
          have e1 := hv x (by simp [Op.operands])
          rw [hx] at e1
          simp only [V] at e1
          obtain ⟨hb, b, h4, h5⟩ := e1
          have h6 := (hh.obj i _ (hrd i (by rw [hr]; simp))).2
          rw [hr, h4] at h6
          simp only [OR] at h6
          obtain ⟨C, t', h7, h8, h9⟩ := h6
          have h10 : C.size = cs.length := by simpa using h8.length
          obtain ⟨u, h11, h12⟩ := fin c b off (cut cs off n) ((C.toList.drop off).take n) ((h8.drop off).take n) (fun u hu => h9 u (List.mem_of_mem_drop (List.mem_of_mem_take hu))) (by simp [cut]; omega) (fun j hj => by
            rw [cell_of_row c.w b (off + j) C t' (0, 0) h7, List.getElem?_take, if_pos hj, List.getElem?_drop]
            simp)
          exact ⟨u, by simp only [execOp, h5, Sem.run_bind, h11, Result.andThen_ok, Sem.run_pure], h12⟩
        · exact h.elim
      · exact h.elim
    · rename_i cs hx
      split at h
      · rename_i hle
        have hle' : n ≤ cs.length := Nat.le_of_ble_eq_true hle
        refine ⟨_, h, OpSem.pure fun c hp a hv hrd hh => ?_⟩
        have e1 := hv x (by simp [Op.operands])
        rw [hx] at e1
        simp only [V] at e1
        obtain ⟨b, o, h4, hI, es, h5, h6⟩ := e1
        have h7 := h5.length
        obtain ⟨u, h11, h12⟩ := fin c b o ((cs.take n).map .p) (es.take n) ((Vs_map_p _ _).2 (h5.take n)) (fun u hu => RoCs.ones _ _ h5 u (List.mem_of_mem_take hu)) (by simp; omega) (fun j hj => by
          rw [h6 j (by omega), List.getElem?_take, if_pos hj])
        exact ⟨u, by simp only [execOp, h4, Sem.run_bind, h11, Result.andThen_ok, Sem.run_pure], h12⟩
      · exact h.elim
    · rename_i i k o hx
      split at h
      · rename_i e sz xs hr
        obtain ⟨cs, hk, hsz, hpos, hag⟩ := hvw _ _ _ h
        split at hk
        · rename_i hle
          have hle' : o + n ≤ cs.length := Nat.le_of_ble_eq_true hle
          refine ⟨_, hk, OpSem.pure fun c hp a hv hrd hh => ?_⟩
          have e1 := hv x (by simp [Op.operands])
          rw [hx] at e1
          simp only [V] at e1
          obtain ⟨hb, b, m, cp, sz', h4, hkn, h5⟩ := e1
          have h6 := (hh.obj i _ (hrd i (by rw [hr]; simp))).2
          rw [hr, h4] at h6
          simp only [OR] at h6
          obtain ⟨rfl, hsz0, cells, h7, h8⟩ := h6
          have hm : m = xs.length := by
            rcases h7.2 with ⟨he, _⟩ | ⟨g, cap, cur, he, _⟩
            · simp at he
            · simp at he
              exact he.2.1
          obtain ⟨es, h9, h10, h13⟩ := h8.at_ k (by omega)
          have hcs := vw_cells hag h9
          have hlen : es.length = cs.length := hcs.length
          have hcl := h8.length
          obtain ⟨u, h11, h12⟩ := fin c b (k * sz' + o) ((cut cs o n).map .p) ((es.drop o).take n) ((Vs_map_p _ _).2 ((hcs.drop o).take n)) (fun u hu => RoCs.ones _ _ hcs u (List.mem_of_mem_drop (List.mem_of_mem_take hu))) (by simp [cut]; omega) (fun j hj => by
            have hlt : k * sz' + (o + j) < cells.length := by
              rw [hcl, ← hm]
              have : (k + 1) * sz' ≤ m * sz' := Nat.mul_le_mul_right _ hkn
              rw [Nat.add_mul] at this
              omega
            rw [Nat.add_assoc, ownsRow_cell h7 rfl _ hlt, h13 (o + j) (by omega), List.getElem?_take, if_pos hj, List.getElem?_drop])
          exact ⟨u, by simp only [execOp, h5, Sem.run_bind, h11, Result.andThen_ok, Sem.run_pure], h12⟩
        · exact hk.elim
      · exact h.elim
    · exact h.elim
  · exact h.elim
theorem run_indexAt_in {t e : TypeId} {n : Nat} (ht : P.underlying t = some (.slice e)) (hn : sizeT P e = some n) {b o len cap : Nat} {k : IntKind} {i : Int} (h0 : 0 ≤ i) (h1 : i < len) (w : World) :
    (Instr.indexAt t (.slice (some ⟨b, o, none⟩) len cap) (.int k i)).run P w = .ok (.pointer (some ⟨b, o + i.toNat * n, none⟩)) w := by
  simp [Instr.indexAt, asIntOf, run_underlying ht, h0, h1, run_sizeOf' hn, add_none]
theorem RoC_arr_at {I : Bool → Nat → Prop} {w : World} {m : Bool} {n : Nat} {g : Nat → PV} {u : Value} (h : RoC I w (.arr m n g) [u]) {i : Nat} (hi : i < n) :
    ∃ b off sz cap, u = .slice (some ⟨b, off, none⟩) n cap ∧ I m b ∧ ∃ es : List Value, es.length = sz ∧ RoC I w (g i) es ∧ ∀ j, j < sz → w.cell? ⟨b, off + i * sz + j, none⟩ = es[j]? := by
  simp only [RoC] at h
  obtain ⟨a, c, h1, _, h2⟩ := h
  obtain ⟨b, off, sz, rfl, hI, _, _, h3⟩ := h2 (by omega)
  simp at h1
  exact ⟨b, off, sz, c, h1, hI, h3 i hi⟩
theorem sem_indexAddr (env : Env) (hP : env.P = P) (hvw : VwOK P env.vw) (t : TypeId) (x y : Operand) (k : IntKind) (i : Int) (hy : ρ y = .p (.int k i)) {K : KA} (h : elemA env rd t (ρ x) i K) :
    ∃ v, K v [] ∧ OpSem P ⟨dst, .indexAddr t x y, ty, pos, after, guard⟩ ρ rd fresh v [] := by
  unfold elemA at h
  rw [hP] at h
  split at h
  · rename_i e ht
    have arr : ∀ (m : Bool) (n : Nat) (g : Nat → PV), (0 ≤ i ∧ i < n ∧ env.vw e (g i.toNat) fun cs => K (.rop cs) []) →
        (∀ c h', (∀ j, rd j ≠ .dead → h' j = some (rd j)) → HR c h' → ∀ u, V c (ρ x) u → RoC c.J c.w (.arr m n g) [u]) →
        ∃ v, K v [] ∧ OpSem P ⟨dst, .indexAddr t x y, ty, pos, after, guard⟩ ρ rd fresh v [] := by
      rintro m n g ⟨h0, h1, h2⟩ hro
      obtain ⟨cs, hk, hsz, hpos, hag⟩ := hvw _ _ _ h2
      refine ⟨_, hk, OpSem.pure fun c hp a hv hrd hh => ?_⟩
      have e1 := hv x (by simp [Op.operands])
      have e2 := hv y (by simp [Op.operands])
      rw [hy] at e2
      have hi : i.toNat < n := by omega
      obtain ⟨b, off, sz, cap, h4, hI, es, h5, h6, h7⟩ := RoC_arr_at (hro c hp hrd hh _ e1) hi
      have hcs := vw_cells hag h6
      have hl : sz = cs.length := by rw [← h5]; exact hcs.length
      subst hl
      refine ⟨.pointer (some ⟨b, off + i.toNat * cs.length, none⟩), ?_, ?_⟩
      · simp [execOp, V_int e2, h4, run_indexAt_in ht hsz h0 h1]
      · simp only [V]
        exact ⟨b, _, rfl, hI.1, es, hcs, fun j hj => h7 j (by omega)⟩
    split at h
    · rename_i m n g hx
      exact arr m n g h fun c h' _ _ u hu => by rw [hx] at hu; simpa only [V] using hu
    · rename_i id hx
      split at h
      · rename_i e' sz xs hr
        split at h
        · rename_i n hn
          split at h
          · rename_i hb
            have hns := Nat.eq_of_beq_eq_true hb
            subst hns
            obtain ⟨h0, h1, h2⟩ := h
            refine ⟨_, h2, OpSem.pure fun c hp a hv hrd hh => ?_⟩
            have e1 := hv x (by simp [Op.operands])
            have e2 := hv y (by simp [Op.operands])
            rw [hy] at e2
            rw [hx] at e1
            simp only [V] at e1
            obtain ⟨hbn, a', m, cp, sz', h3, h4⟩ := e1
            have h6 := (hh.obj id _ (hrd id (by rw [hr]; simp))).2
            rw [hr, h4, h3] at h6
            simp only [OR] at h6
            obtain ⟨rfl, hsz0, cells, h7, _⟩ := h6
            rcases h7.2 with ⟨_, he⟩ | ⟨g, cap, cur, he, _⟩
            · omega
            · simp at he
              obtain ⟨rfl, rfl, rfl⟩ := he
              refine ⟨.pointer (some ⟨g, 0 + i.toNat * sz', none⟩), ?_, ?_⟩
              · simp only [execOp, V_int e2, h3, Sem.run_bind, run_indexAt_in ht hn h0 h1, Result.andThen_ok, Sem.run_pure]
              · simp only [V]
                exact ⟨hbn, g, _, cp, sz', by rw [h4, h3], by omega, by simp⟩
          · exact h.elim
        · exact h.elim
      · rename_i sz xs hr
        exact arr true xs.length (fun j => xs.getD j .nilp) h fun c h' hrd hh u hu => by
          rw [hx] at hu
          simp only [V] at hu
          obtain ⟨_, a, n, cp, sz', rfl, h4⟩ := hu
          have h6 := (hh.obj id _ (hrd id (by rw [hr]; simp))).2
          rw [hr, h4] at h6
          simpa only [OR] using h6
      · exact h.elim
    · exact h.elim
  · exact h.elim
theorem sem_index (t : TypeId) (x y : Operand) (k : IntKind) (i : Int) (s : ByteArray) (hy : ρ y = .p (.int k i)) (hx : ρ x = .p (.str s)) (ht : P.underlying t = some .string) (h0 : 0 ≤ i) (h1 : i < s.size) :
    OpSem P ⟨dst, .index t x y, ty, pos, after, guard⟩ ρ rd fresh (.p (.int .u8 (byteAt s i.toNat))) [] :=
  OpSem.pure fun c h a hv _ _ => by
    have e1 := hv x (by simp [Op.operands])
    have e2 := hv y (by simp [Op.operands])
    rw [hx] at e1
    rw [hy] at e2
    have h2 : i.toNat < s.size := by omega
    have h3 : s.data.toList[i.toNat]? = some (s[i.toNat]'h2) := by
      have : i.toNat < s.data.toList.length := by simpa using h2
      rw [List.getElem?_eq_getElem this]
      rfl
    have h4 : s[i.toNat]? = some (s[i.toNat]'h2) := by simp [h2]
    refine ⟨.int .u8 (byteAt s i.toNat), ?_, V_int' _ _⟩
    simp [execOp, Instr.index, V_int e2, V_str e1, asIntOf, run_underlying ht, h0, h4, byteAt, h3]
theorem sem_len (ats : Array TypeId) (x : Operand) (at0 : TypeId) (hat : ats[0]? = some at0) {K : AV → Prop} (h : lenA P at0 rd (ρ x) K) :
    ∃ v, K v ∧ OpSem P ⟨dst, .call { callee := .builtin .len, args := #[x], argTypes := ats }, ty, pos, after, guard⟩ ρ rd fresh v [] := by
  have run : ∀ (a : Act) (w : World), (execOp a.eval ⟨dst, .call { callee := .builtin .len, args := #[x], argTypes := ats }, ty, pos, after, guard⟩).run P w =
      ((Builtin.len_ ats ty #[a.eval x]).run P w).andThen fun u w' => .ok (.value u) w' := by
    intro a w
    simp [execOp, resolve, invoke, builtin]
  have sl : ∀ {e : TypeId}, P.underlying at0 = some (.slice e) → ∀ (a : Option Addr) (n cp : Nat) (w : World), (Builtin.len_ ats ty #[.slice a n cp]).run P w = .ok (.int .i64 n) w := by
    intro e he a n cp w
    simp [Builtin.len_, hat, run_underlying he, goInt]
  unfold lenA at h
  split at h
  · rename_i s ht hx
    refine ⟨_, h, OpSem.pure fun c hp a hv _ _ => ⟨.int .i64 s.size, ?_, V_int' _ _⟩⟩
    have e1 := hv x (by simp [Op.operands, Call.operands])
    rw [hx] at e1
    rw [run, V_str e1]
    simp [Builtin.len_, hat, run_underlying ht, goInt]
  · rename_i e n g he hx
    refine ⟨_, h, OpSem.pure fun c hp a hv _ _ => ⟨.int .i64 n, ?_, V_int' _ _⟩⟩
    have e1 := hv x (by simp [Op.operands, Call.operands])
    rw [hx] at e1
    simp only [V, RoC] at e1
    obtain ⟨b, cp, h1, _⟩ := e1
    simp at h1
    rw [run, h1, sl he]
    rfl
  · rename_i e he hx
    refine ⟨_, h, OpSem.pure fun c hp a hv _ _ => ⟨.int .i64 0, ?_, V_int' _ _⟩⟩
    have e1 := hv x (by simp [Op.operands, Call.operands])
    rw [hx] at e1
    rw [run, V_nils e1, sl he]
    rfl
  · rename_i e id he hx
    split at h
    · rename_i e' sz xs hr
      refine ⟨_, h, OpSem.pure fun c hp a hv hrd hh => ⟨.int .i64 xs.length, ?_, V_int' _ _⟩⟩
      have e1 := hv x (by simp [Op.operands, Call.operands])
      rw [hx] at e1
      simp only [V] at e1
      obtain ⟨_, b, m, cp, sz', h3, h4⟩ := e1
      have h6 := (hh.obj id _ (hrd id (by rw [hr]; simp))).2
      rw [hr, h4, h3] at h6
      simp only [OR] at h6
      obtain ⟨rfl, _, cells, h7, _⟩ := h6
      have hm : m = xs.length := by
        rcases h7.2 with ⟨he, h8⟩ | ⟨g, cap, cur, he, _⟩
        · simp at he; omega
        · simp at he; exact he.2.1
      rw [run, h3, sl he, hm]
      rfl
    · rename_i sz xs hr
      refine ⟨_, h, OpSem.pure fun c hp a hv hrd hh => ⟨.int .i64 xs.length, ?_, V_int' _ _⟩⟩
      have e1 := hv x (by simp [Op.operands, Call.operands])
      rw [hx] at e1
      simp only [V] at e1
      obtain ⟨_, b, m, cp, sz', h3, h4⟩ := e1
      have h6 := (hh.obj id _ (hrd id (by rw [hr]; simp))).2
      rw [hr, h4, h3] at h6
      simp only [OR, RoC] at h6
      obtain ⟨_, _, h7, _⟩ := h6
      simp at h7
      rw [run, h3, sl he, h7.2.1]
      rfl
    · exact h.elim
  · rename_i k e id he hx
    split at h
    · rename_i kk es hr
      refine ⟨_, h, OpSem.pure fun c hp a hv hrd hh => ⟨.int .i64 es.length, ?_, V_int' _ _⟩⟩
      have e1 := hv x (by simp [Op.operands, Call.operands])
      rw [hx] at e1
      simp only [V] at e1
      obtain ⟨_, b, h3, h4⟩ := e1
      have h6 := (hh.obj id _ (hrd id (by rw [hr]; simp))).2
      rw [hr, h3] at h6
      simp only [OR] at h6
      obtain ⟨E, cl, h7, h8⟩ := h6
      have hlen : ∀ (xs : List (PV × PV)) (ms : List MapEntry), RoMap c.J c.w kk xs ms → ms.length = xs.length := by
        intro xs
        induction xs with
        | nil => intro ms hm; simp [RoMap] at hm; subst hm; rfl
        | cons x xs ih =>
          intro ms hm
          obtain ⟨k, v⟩ := x
          obtain ⟨e, es', rfl, _, _, _, h9⟩ := hm
          simp [ih es' h9]
      have h9 := hlen es E.toList h8
      have h10 : E.size = es.length := by simpa using h9
      rw [run, h4]
      simp [Builtin.len_, hat, run_underlying he, goInt, getObj, Sem.run, h7, h10]
    · exact h.elim
  · exact h.elim
end
end Go.RX
namespace Go.RX
theorem set_ext {c : Cx} {h : HP} (hh : HR c h) {i b : Nat} (hl : Live h i) (hb : (c.β i).block = some b) {w' : World} (hw : ∀ k, k < c.w.heap.size → k ≠ b → w'.heap[k]? = c.w.heap[k]?) : Ext c (c.with w') :=
  ⟨fun _ h => h, fun _ _ => rfl, fun _ h => h, fun k hk => hw k (hh.bound k hk) (fun e => hh.apart i b hl hb (e ▸ hk)), rfl⟩
theorem live_set {h : HP} {i : Nat} (hl : Live h i) {ao : AO} {j : Nat} (hj : Live (updH h [(i, ao)]) j) : Live h j := by
  rcases live_upd1 hj with ⟨rfl, _⟩ | ⟨_, h1⟩
  · exact hl
  · exact h1
theorem set_hr {c : Cx} {h : HP} (hh : HR c h) {i b : Nat} (hl : Live h i) (hb : (c.β i).block = some b) {w' : World} (hs : c.w.heap.size ≤ w'.heap.size)
    (hw : ∀ k, k < c.w.heap.size → k ≠ b → w'.heap[k]? = c.w.heap[k]?) (ao : AO) (ho : OR (c.with w') ao (c.β i)) : HR (c.with w') (updH h [(i, ao)]) := by
  have hext := set_ext hh hl hb hw
  refine ⟨fun j x hx => ?_, fun j k n hj hk hjb hkb => hh.inj j k n (live_set hl hj) (live_set hl hk) hjb hkb, fun j n hj hjb => hh.apart j n (live_set hl hj) hjb, fun n hn => Nat.lt_of_lt_of_le (hh.bound n hn) hs, fun j n hj hjb => Nat.lt_of_lt_of_le (hh.size j n (live_set hl hj) hjb) hs, fun j n hj hjb => hh.low j n (live_set hl hj) hjb, Nat.le_trans hh.base hs⟩
  simp only [updH] at hx
  by_cases e : j = i
  · rw [if_pos e] at hx
    injection hx with hx
    subst hx e
    obtain ⟨o, h1, _⟩ := hl
    exact ⟨(hh.obj j o h1).1, ho⟩
  · rw [if_neg e] at hx
    obtain ⟨h1, h2⟩ := hh.obj j x hx
    refine ⟨h1, ?_⟩
    show OR (c.with w') x (c.β j)
    cases hlv : liveO x with
    | false => exact h2.mono_dead hext hlv
    | true => exact h2.mono hext fun n hn => hw n (hh.size j n ⟨x, hx, hlv⟩ hn) fun e' => e (hh.inj j i b ⟨x, hx, hlv⟩ hl (e' ▸ hn) hb)
theorem set_fr {c : Cx} {h : HP} {i b : Nat} (hl : Live h i) (hb : (c.β i).block = some b) {w' : World} (h1 : w'.os = c.w.os) (h2 : w'.tape = c.w.tape) (h3 : w'.output = c.w.output) (hs : c.w.heap.size ≤ w'.heap.size)
    (hw : ∀ k, k < c.w.heap.size → k ≠ b → w'.heap[k]? = c.w.heap[k]?) (ao : AO) : Fr c h (c.with w') (updH h [(i, ao)]) :=
  ⟨h1, h2, h3, hs, fun k hk hn => hw k hk fun e => hn i hl (e ▸ hb), fun _ h => h, fun _ h => .inl h, fun j _ hj hjb => .inr ⟨j, live_set hl hj, hjb⟩, rfl⟩
theorem OpSem.set {P : Program} {o : Oper} {ρ : Operand → AV} {rd : Nat → AO} {fresh : Nat} {i : Nat} {ao : AO} {v : AV} (hl : liveO (rd i) = true)
    (hrun : ∀ (c : Cx) (h : HP) (a : Act), (∀ x ∈ o.op.operands, V c (ρ x) (a.eval x)) → (∀ i, rd i ≠ .dead → h i = some (rd i)) → HR c h → h i = some (rd i) →
      ∃ b w', (c.β i).block = some b ∧ w'.os = c.w.os ∧ w'.tape = c.w.tape ∧ w'.output = c.w.output ∧ c.w.heap.size ≤ w'.heap.size ∧ (∀ k, k < c.w.heap.size → k ≠ b → w'.heap[k]? = c.w.heap[k]?) ∧
        OR (c.with w') ao (c.β i) ∧ (((execOp a.eval o).run P c.w = .ok .skip w' ∧ V (c.with w') v undef) ∨ ∃ u, (execOp a.eval o).run P c.w = .ok (.value u) w' ∧ (Ext c (c.with w') → V (c.with w') v u))) : OpSem P o ρ rd fresh v [(i, ao)] := by
  intro c h a next Q hv hr _ hh hn
  have hrd : h i = some (rd i) := hr i (by intro e; rw [e] at hl; simp [liveO] at hl)
  obtain ⟨b, w', hb, h1, h2, h3, hs, hw, ho, hx⟩ := hrun c h a hv hr hh hrd
  have hlive : Live h i := ⟨_, hrd, hl⟩
  have ext := set_ext hh hlive hb hw
  have hr' := set_hr hh hlive hb hs hw ao ho
  have fr := set_fr hlive hb h1 h2 h3 hs hw ao
  rcases hx with ⟨hx, hV⟩ | ⟨u, hx, hV⟩
  · simp only [Oper.wp, hx, Oper.upon_skip]
    exact hn undef (c.with w') hV hr' ext fr fun j hj => .inl hj
  · simp only [Oper.wp, hx, Oper.upon_value]
    exact hn u (c.with w') (hV ext) hr' ext fr fun j hj => .inl hj
section
variable {P : Program} {ρ : Operand → AV} {rd : Nat → AO} {fresh : Nat} {dst : Option Tmp} {ty : TypeId} {pos : String} {after : Array Edge} {guard : Option (Nat × Bool)}
theorem sem_next (it : Operand) {K : KA} (h : nextA rd (ρ it) K) :
    ∃ v wr, K v wr ∧ OpSem P ⟨dst, .next it true, ty, pos, after, guard⟩ ρ rd fresh v wr := by
  unfold nextA at h
  split at h
  · rename_i id hx
    split at h
    · rename_i s p hr
      have getit : ∀ (c : Cx) (h : HP) (a : Act), (∀ x ∈ (Op.next it true).operands, V c (ρ x) (a.eval x)) → (∀ i, rd i ≠ .dead → h i = some (rd i)) → HR c h →
          ∃ b, c.β id = .blk b ∧ a.eval it = .pointer (some ⟨b, 0, none⟩) ∧ c.w.heap[b]? = some (.stringIter s p) := by
        intro c h a hv hrd hh
        have e1 := hv it (by simp [Op.operands])
        rw [hx] at e1
        simp only [V] at e1
        obtain ⟨_, b, h1, h2⟩ := e1
        have h3 := (hh.obj id _ (hrd id (by rw [hr]; simp))).2
        rw [hr, h1] at h3
        exact ⟨b, h1, h2, h3⟩
      split at h
      · rename_i hlt
        have hlt' : p < s.size := of_decide_eq_true hlt
        refine ⟨_, _, h, OpSem.set (by rw [hr]; rfl) fun c hp a hv hrd hh _ => ?_⟩
        obtain ⟨b, h1, h2, h3⟩ := getit c hp a hv hrd hh
        have hbs : b < c.w.heap.size := (Array.getElem?_eq_some_iff.1 h3).1
        refine ⟨b, { c.w with heap := c.w.heap.setIfInBounds b (.stringIter s (p + (Utf8.decode s p).2)) }, by rw [h1]; rfl, rfl, rfl, rfl, by simp, fun k _ hk => ?_, ?_, .inr ⟨.tuple #[.bool true, goInt p, .int .i32 (Utf8.decode s p).1], ?_, fun ext => ?_⟩⟩
        · simp only []
          rw [Array.getElem?_setIfInBounds_ne (fun e => hk e.symm)]
        · rw [h1]
          simp only [OR, Cx.with]
          rw [Array.getElem?_setIfInBounds]
          simp [hbs]
        · simp [execOp, Instr.next, h2, getObj, setObj, Sem.run, h3, hlt']
        · simp only [V, Vs]
          exact ⟨_, rfl, _, _, rfl, by simp [RoC], _, _, rfl, by simp [RoC, goInt], _, _, rfl, by simp [RoC], rfl⟩
      · rename_i hlt
        have hlt' : ¬ p < s.size := of_decide_eq_false hlt
        refine ⟨_, _, h, OpSem.pure fun c hp a hv hrd hh => ?_⟩
        obtain ⟨b, h1, h2, h3⟩ := getit c hp a hv hrd hh
        refine ⟨.tuple #[.bool false], ?_, ?_⟩
        · simp [execOp, Instr.next, h2, getObj, Sem.run, h3, hlt']
        · simp only [V, Vs]
          exact ⟨_, rfl, _, _, rfl, by simp [RoC], rfl⟩
    · exact h.elim
  · exact h.elim
theorem Vs.splice {c : Cx} {cs new : List AV} {C N : List Value} (h : Vs c cs C) (k : Vs c new N) (off : Nat) : Vs c (splice cs off new) (C.take off ++ N ++ C.drop (off + new.length)) :=
  ((h.take off).append k).append (h.drop _)
theorem V_weak1 {c : Cx} {x : AV} {u : Value} (h : V c x u) : V c (weak1 x) u := by
  unfold weak1
  split
  · have := V_nils h
    subst this
    simp only [V, RoC]
    exact ⟨none, 0, rfl, ⟨Nat.le_refl _, Nat.zero_le _⟩, fun h => absurd h (by omega)⟩
  · exact h
theorem Vs_weak1 {c : Cx} : ∀ {xs : List AV} {us : List Value}, Vs c xs us → Vs c (xs.map weak1) us
  | [], _, h => h
  | x :: xs, us, h => by
    simp only [Vs, List.map_cons] at h ⊢
    obtain ⟨y, r, rfl, h1, h2⟩ := h
    exact ⟨y, r, rfl, V_weak1 h1, Vs_weak1 h2⟩
theorem V_weak {c : Cx} {x : AV} {u : Value} (h : V c x u) : V c (weakA x) u := by
  cases x with
  | agg cs =>
    simp only [V, weakA] at h ⊢
    obtain ⟨C, rfl, h1, h2⟩ := h
    exact ⟨C, rfl, Vs_weak1 h1, h2⟩
  | _ => exact V_weak1 h
theorem run_storeVar' {t : TypeId} {n : Nat} (hn : sizeT P t = some n) {v : Value} (hc : v.cells.size = n) (h1 : ∀ u ∈ v.cells.toList, u.oneCell' = true) {w : World} {b off : Nat} {C : Array Value} {e : TypeId}
    (hb : w.heap[b]? = some (.cells C e (0, 0))) (hl : off + n ≤ C.size) :
    (Instr.storeAt t (.pointer (some ⟨b, off, none⟩)) v).run P w = .ok () (w.setRow b (C.toList.take off ++ v.cells.toList ++ C.toList.drop (off + n)).toArray) := by
  have := run_storeCells_at P b off e v.cells.toList 0 C w hb (by simp; omega) h1
  simp only [Nat.add_zero, Array.length_toList, hc] at this
  simp [Instr.storeAt, Instr.sureAddr, storeVar, run_sizeOf' hn, hc, this]
theorem execOp_store (a : Act) (w w' : World) (t : TypeId) (x y : Operand) (h : (Instr.storeAt t (a.eval x) (a.eval y)).run P w = .ok () w') :
    (execOp a.eval ⟨dst, .store t x y, ty, pos, after, guard⟩).run P w = .ok .skip w' := by
  simp [execOp, h]
theorem RoRow.set_ {I : Bool → Nat → Prop} {w : World} {sz : Nat} : ∀ {xs : List PV} {cells : List Value} (i : Nat) (x : PV) (es : List Value), RoRow I w sz xs cells → i < xs.length → RoC I w x es → es.length = sz →
    RoRow I w sz (xs.set i x) (cells.take (i * sz) ++ es ++ cells.drop (i * sz + sz))
  | [], _, i, _, _, _, hi, _, _ => by simp at hi
  | y :: xs, cells, 0, x, es, h, _, hx, hl => by
    obtain ⟨us, r, rfl, h1, h2, h3⟩ := h
    simp only [List.set_cons_zero, Nat.zero_mul, List.take_zero, List.nil_append, Nat.zero_add, RoRow]
    refine ⟨es, r, ?_, hl, hx, h3⟩
    rw [← h1, List.drop_left]
  | y :: xs, cells, i + 1, x, es, h, hi, hx, hl => by
    obtain ⟨us, r, rfl, h1, h2, h3⟩ := h
    have ih := RoRow.set_ i x es h3 (by simpa using hi) hx hl
    simp only [List.set_cons_succ, RoRow]
    refine ⟨us, _, ?_, h1, h2, ih⟩
    have e1 : (i + 1) * sz = us.length + i * sz := by rw [h1, Nat.add_mul]; omega
    rw [e1, Nat.add_assoc, List.take_length_add_append, List.drop_length_add_append]
    simp only [List.append_assoc]
theorem ownsRow_store {w : World} {e sz n : Nat} {v : Value} {cells new : List Value} (h : w.ownsRow 0 e sz v n cells) {b m cp : Nat} (hv : v = .slice (some ⟨b, 0, none⟩) m cp) {off : Nat} (hl : off + new.length ≤ cells.length) :
    ∃ C, w.heap[b]? = some (.cells C e (0, 0)) ∧ off + new.length ≤ C.size ∧
      (w.setRow b (C.toList.take off ++ new ++ C.toList.drop (off + new.length)).toArray).ownsRow 0 e sz v n (cells.take off ++ new ++ cells.drop (off + new.length)) := by
  obtain ⟨h1, h2⟩ := h
  rcases h2 with ⟨he, _⟩ | ⟨g, cap, cur, he, h0, hg, hn, hm, hs, ht⟩
  · rw [hv] at he; simp at he
  · rw [hv] at he
    simp at he
    obtain ⟨rfl, rfl, rfl⟩ := he
    have hle : cells.length ≤ cur.size := by rw [← ht]; simp; omega
    refine ⟨cur, hg, by omega, ?_, .inr ⟨b, cp, _, hv, h0, setRow_heap w b cur _ e _ hg, hn, hm, ?_, ?_⟩⟩
    · simp only [List.length_append, List.length_take, List.length_drop]
      omega
    · simp only [List.size_toArray, List.length_append, List.length_take, List.length_drop, Array.length_toList]
      omega
    · rw [← ht]
      simp only [← ht, List.length_take, Array.length_toList] at hl hle
      apply List.ext_getElem?
      intro j
      simp only [List.getElem?_take, List.getElem?_append, List.getElem?_drop, List.length_append, List.length_take, Array.length_toList]
      by_cases hj : j < m * sz
      · simp only [hj, if_true]
        by_cases h3 : j < off
        · have h4 : j < min off cur.size := by omega
          have h5 : j < min off (min (m * sz) cur.size) := by omega
          simp only [show j < min off cur.size + new.length by omega, show j < min off (min (m * sz) cur.size) + new.length by omega, h4, h5, h3, if_true]
        · have h4 : ¬ j < min off cur.size := by omega
          have h5 : ¬ j < min off (min (m * sz) cur.size) := by omega
          have h6 : min off cur.size = off := by omega
          have h7 : min off (min (m * sz) cur.size) = off := by omega
          rw [h6, h7]
          by_cases h8 : j < off + new.length
          · simp only [h8, if_true, show ¬ j < off by omega, if_false]
          · simp only [h8, if_false]
            rw [if_pos (by omega)]
      · simp only [hj, if_false]
        rw [if_neg (by omega), if_neg (by omega)]
theorem V_of_mkPV {I : Bool → Nat → Prop} {w : World} {ps : List PV} {es : List Value} (agg : Bool) (h : RoCs I w ps es) (hk : agg = false → ps.length = 1) : RoC I w (mkPV ps agg) es := by
  cases agg with
  | true => simpa [mkPV, RoC] using h
  | false =>
    have h2 := hk rfl
    match ps, h2 with
    | [x], _ =>
      simp only [RoCs] at h
      obtain ⟨y, ys, rfl, h3, rfl⟩ := h
      simpa [mkPV] using h3
theorem RoCs.append {I : Bool → Nat → Prop} {w : World} : ∀ {xs ys : List PV} {us vs : List Value}, RoCs I w xs us → RoCs I w ys vs → RoCs I w (xs ++ ys) (us ++ vs)
  | [], ys, us, vs, h, k => by simp [RoCs] at h; subst h; simpa using k
  | x :: xs, ys, us, vs, h, k => by
    simp only [RoCs] at h
    obtain ⟨y, r, rfl, h1, h2⟩ := h
    simp only [List.cons_append, RoCs]
    exact ⟨y, r ++ vs, rfl, h1, RoCs.append h2 k⟩
theorem set_same {xs : List PV} (i : Nat) (x : PV) : (xs.set i x).length = xs.length := List.length_set
theorem sem_store (env : Env) (hP : env.P = P) (hvw : VwOK P env.vw) (t : TypeId) (x y : Operand) {K : KA} (h : storeA env rd t (ρ x) (ρ y) K) :
    ∃ i ao, K .undef [(i, ao)] ∧ OpSem P ⟨dst, .store t x y, ty, pos, after, guard⟩ ρ rd fresh .undef [(i, ao)] := by
  unfold storeA at h
  rw [hP] at h
  split at h
  · rename_i n us hn hus
    split at h
    · rename_i i off hbeq hx
      have hul : us.length = n := Nat.eq_of_beq_eq_true hbeq
      split at h
      · rename_i cs hr
        split at h
        · rename_i hle
          have hle' : off + n ≤ cs.length := Nat.le_of_ble_eq_true hle
          refine ⟨_, _, h, OpSem.set (by rw [hr]; rfl) fun c hp a hv hrd hh hi => ?_⟩
          have e1 := hv x (by simp [Op.operands])
          have e2 := V_cells (hv y (by simp [Op.operands])) hus
          rw [hx] at e1
          simp only [V] at e1
          obtain ⟨_, b, h4, h5⟩ := e1
          have h6 := (hh.obj i _ hi).2
          rw [hr, h4] at h6
          simp only [OR] at h6
          obtain ⟨C, e, h7, h8, h9⟩ := h6
          have hC : C.size = cs.length := by simpa using h8.length
          have hcs : (a.eval y).cells.size = n := by have := e2.1.length; simp at this; omega
          have run := run_storeVar' hn hcs e2.2 h7 (off := off) (by omega)
          refine ⟨b, _, by rw [h4]; rfl, setRow_os _ _ _, setRow_tape _ _ _, setRow_output _ _ _, by simp, fun k _ hk => setRow_other _ _ _ _ hk, ?_, .inl ⟨execOp_store a c.w _ t x y (by rw [h5]; exact run), by simp [V]⟩⟩
          have ext : Ext c (c.with (c.w.setRow b (C.toList.take off ++ (a.eval y).cells.toList ++ C.toList.drop (off + n)).toArray)) :=
            set_ext hh ⟨_, hi, by rw [hr]; rfl⟩ (b := b) (by rw [h4]; rfl) fun k _ hk => setRow_other _ _ _ _ hk
          rw [h4]
          simp only [OR]
          refine ⟨_, e, setRow_heap c.w b C _ e _ h7, ?_, ?_⟩
          · have := Vs.splice h8 e2.1 off
            rw [hul] at this
            simpa using Vs.mono ext _ _ this
          · intro u hu
            simp only [List.mem_append] at hu
            rcases hu with (hu | hu) | hu
            · exact h9 u (List.mem_of_mem_take hu)
            · exact e2.2 u hu
            · exact h9 u (List.mem_of_mem_drop hu)
        · exact h.elim
      · exact h.elim
    · rename_i i k o hbeq hx
      have hul : us.length = n := Nat.eq_of_beq_eq_true hbeq
      split at h
      · rename_i e sz xs hr
        split at h
        · rename_i ps hps
          have hpe := pureCells_eq hps
          have hpl : ps.length = n := by rw [← hul, ← List.length_map (f := weak1), hpe, List.length_map]
          have common : ∀ (c : Cx) (hp : HP) (a : Act) (x' : PV), (∀ z ∈ (Op.store t x y).operands, V c (ρ z) (a.eval z)) → HR c hp → hp i = some (rd i) →
              (∀ es, RoC c.J c.w (xs.getD k .nilp) es → es.length = sz → o + n ≤ sz ∧ ∀ N, RoCs c.J c.w ps N → RoC c.J c.w x' (es.take o ++ N ++ es.drop (o + n))) →
              ∃ b w', (c.β i).block = some b ∧ w'.os = c.w.os ∧ w'.tape = c.w.tape ∧ w'.output = c.w.output ∧ c.w.heap.size ≤ w'.heap.size ∧ (∀ k, k < c.w.heap.size → k ≠ b → w'.heap[k]? = c.w.heap[k]?) ∧
                OR (c.with w') (.row e sz (xs.set k x')) (c.β i) ∧ (execOp a.eval ⟨dst, .store t x y, ty, pos, after, guard⟩).run P c.w = .ok .skip w' := by
            intro c hp a x' hv hh hi hel
            have e1 := hv x (by simp [Op.operands])
            have e2 := V_cells (hv y (by simp [Op.operands])) hus
            rw [hx] at e1
            simp only [V] at e1
            obtain ⟨_, b, m, cp, sz', h4, hkm, h5⟩ := e1
            have h6 := (hh.obj i _ hi).2
            rw [hr, h4] at h6
            simp only [OR] at h6
            obtain ⟨rfl, hsz0, cells, h7, h8⟩ := h6
            have hm : m = xs.length := by
              rcases h7.2 with ⟨he, _⟩ | ⟨g, cap, cur, he, _⟩
              · simp at he
              · simp at he
                exact he.2.1
            obtain ⟨es, h9, h10, h11⟩ := h8.at_ k (by omega)
            obtain ⟨hon, hel⟩ := hel es h9 h10
            have hN : RoCs c.J c.w ps (a.eval y).cells.toList := (Vs_map_p _ _).1 (by rw [← hpe]; exact Vs_weak1 e2.1)
            have hNl : (a.eval y).cells.toList.length = n := by rw [e2.1.length, hul]
            have hcl := h8.length
            have hke : k * sz' + sz' ≤ cells.length := by
              rw [hcl, ← hm]
              have : (k + 1) * sz' ≤ m * sz' := Nat.mul_le_mul_right _ hkm
              rw [Nat.add_mul] at this
              omega
            obtain ⟨C, hC, hCl, hown⟩ := ownsRow_store h7 rfl (new := (a.eval y).cells.toList) (off := k * sz' + o) (by rw [hNl]; omega)
            have run := run_storeVar' hn (by simpa using hNl) e2.2 hC (b := b) (off := k * sz' + o) (by rw [hNl] at hCl; exact hCl)
            rw [hNl] at hown
            refine ⟨b, _, by rw [h4]; rfl, setRow_os _ _ _, setRow_tape _ _ _, setRow_output _ _ _, by simp, fun k _ hk => setRow_other _ _ _ _ hk, ?_, execOp_store a c.w _ t x y (by rw [h5]; exact run)⟩
            have ext : Ext c (c.with (c.w.setRow b (C.toList.take (k * sz' + o) ++ (a.eval y).cells.toList ++ C.toList.drop (k * sz' + o + n)).toArray)) :=
              set_ext hh ⟨_, hi, by rw [hr]; rfl⟩ (b := b) (by rw [h4]; rfl) fun k _ hk => setRow_other _ _ _ _ hk
            rw [h4]
            simp only [OR]
            refine ⟨trivial, hsz0, _, by rw [set_same]; exact hown, ?_⟩
            have hrow := RoRow.set_ k x' (es.take o ++ (a.eval y).cells.toList ++ es.drop (o + n)) h8 (by omega) (hel _ hN) (by
              simp only [List.length_append, List.length_take, List.length_drop, hNl]
              omega)
            have hce : cells.take (k * sz') ++ (es.take o ++ (a.eval y).cells.toList ++ es.drop (o + n)) ++ cells.drop (k * sz' + sz') = cells.take (k * sz' + o) ++ (a.eval y).cells.toList ++ cells.drop (k * sz' + o + n) := by
              have hes : es = (cells.drop (k * sz')).take sz' := by
                apply List.ext_getElem?
                intro j
                rw [List.getElem?_take, List.getElem?_drop]
                by_cases hj : j < sz'
                · rw [if_pos hj, h11 j hj]
                · rw [if_neg hj, List.getElem?_eq_none (by omega)]
              rw [hes, List.take_take, Nat.min_eq_left (by omega), List.drop_take, List.drop_drop]
              have e3 : cells.take (k * sz' + o) = cells.take (k * sz') ++ (cells.drop (k * sz')).take o := by rw [List.take_add]
              have e4 : cells.drop (k * sz' + o + n) = (cells.drop (k * sz' + (o + n))).take (sz' - (o + n)) ++ cells.drop (k * sz' + sz') := by
                have h12 := (List.take_append_drop (sz' - (o + n)) (cells.drop (k * sz' + (o + n)))).symm
                rw [List.drop_drop, show k * sz' + (o + n) + (sz' - (o + n)) = k * sz' + sz' by omega] at h12
                rw [Nat.add_assoc]
                exact h12
              rw [e3, e4]
              simp only [List.append_assoc]
            rw [← hce]
            exact RoRow.mono ext.J ext.jb _ _ hrow
          split at h
          · rename_i agg m hz hag
            simp only [Bool.and_eq_true] at hz
            have hk0 : o = 0 := Nat.eq_of_beq_eq_true hz.1
            have hnz : n = sz := Nat.eq_of_beq_eq_true hz.2
            obtain ⟨_, _, hone⟩ := shapeT_some hag
            split at h
            · rename_i hms
              have hms' := Nat.eq_of_beq_eq_true hms
              refine ⟨_, _, h, OpSem.set (by rw [hr]; rfl) fun c hp a hv hrd hh hi => ?_⟩
              obtain ⟨b, w', k1, k2, k3, k4, k5, k6, k7, k8⟩ := common c hp a (mkPV ps agg) hv hh hi fun es he hl => by
                refine ⟨by omega, fun N hN => ?_⟩
                have e1 : es.take o = [] := by rw [hk0]; simp
                have e2 : es.drop (o + n) = [] := List.drop_eq_nil_of_le (by omega)
                rw [e1, e2]
                simpa using V_of_mkPV agg hN fun e => by have := hone e; omega
              exact ⟨b, w', k1, k2, k3, k4, k5, k6, k7, .inl ⟨k8, by simp [V]⟩⟩
            · exact h.elim
          · rename_i agg m hz hag
            obtain ⟨hag0, _, _⟩ := shapeT_some hag
            obtain ⟨cs, hk, hsz, hpos, hag'⟩ := hvw _ _ _ h
            split at hk
            · rename_i hle
              have hle' : o + n ≤ cs.length := Nat.le_of_ble_eq_true hle
              refine ⟨_, _, hk, OpSem.set (by rw [hr]; rfl) fun c hp a hv hrd hh hi => ?_⟩
              obtain ⟨b, w', k1, k2, k3, k4, k5, k6, k7, k8⟩ := common c hp a (mkPV (spliceP cs o ps) agg) hv hh hi fun es he hl => by
                have hcs := vw_cells hag' he
                have hcl : es.length = cs.length := hcs.length
                refine ⟨by omega, fun N hN => ?_⟩
                have h3 : RoCs c.J c.w (spliceP cs o ps) (es.take o ++ N ++ es.drop (o + n)) := by
                  have := ((hcs.take o).append hN).append (hcs.drop (o + ps.length))
                  rw [hpl] at this
                  simpa [spliceP, hpl] using this
                refine V_of_mkPV agg h3 fun e => ?_
                subst e
                rcases hag' with ⟨h1, _⟩ | ⟨_, _, rfl⟩
                · rw [h1] at hag0; cases hag0
                · simp only [List.length_cons, List.length_nil] at hle'
                  simp only [spliceP, List.length_append, List.length_take, List.length_drop, List.length_cons, List.length_nil]
                  omega
              exact ⟨b, w', k1, k2, k3, k4, k5, k6, k7, .inl ⟨k8, by simp [V]⟩⟩
            · exact hk.elim
          · exact h.elim
        · exact h.elim
      · exact h.elim
    · exact h.elim
  · exact h.elim
end
end Go.RX
namespace Go.RX
section
variable {P : Program} {ρ : Operand → AV} {rd : Nat → AO} {fresh : Nat} {dst : Option Tmp} {ty : TypeId} {pos : String} {after : Array Edge} {guard : Option (Nat × Bool)}
theorem sameK_eq {a b : KeyK} (h : sameK a b = true) : a = b := by
  cases a <;> cases b <;> simp [sameK] at h <;> simp [h]
inductive KeyVal : KeyK → PV → Value → Prop
  | bool (b : Bool) : KeyVal .bool (.bool b) (.bool b)
  | int (k : IntKind) (n : Int) : KeyVal (.int k) (.int k n) (.int k n)
  | str (s : ByteArray) : KeyVal .str (.str s) (.string s)
  | str2 (s t : ByteArray) : KeyVal .str2 (.agg [.str s, .str t]) (.agg #[.string s, .string t])
theorem keyVal_of {I : Bool → Nat → Prop} {w : World} {kk : KeyK} {k : PV} {v : Value} (h : isKey kk k = true) (hv : RoV I w k v) : KeyVal kk k v := by
  unfold isKey at h
  split at h
  · rcases hv with ⟨xs, C, he, _⟩ | ⟨_, hv⟩
    · cases he
    · simp [RoC] at hv; subst hv; exact .bool _
  · have := of_decide_eq_true h
    subst this
    rcases hv with ⟨xs, C, he, _⟩ | ⟨_, hv⟩
    · cases he
    · simp [RoC] at hv; subst hv; exact .int _ _
  · rcases hv with ⟨xs, C, he, _⟩ | ⟨_, hv⟩
    · cases he
    · simp [RoC] at hv; subst hv; exact .str _
  · rename_i s t
    rcases hv with ⟨xs, C, he, rfl, hC⟩ | ⟨hx, _⟩
    · injection he with he
      subst he
      simp only [RoCs, RoC] at hC
      obtain ⟨y, ys, h1, h2, z, zs, h3, h4, h5⟩ := hC
      simp at h2 h4
      subst h2 h4 h5 h3
      have : C = #[.string s, .string t] := by
        apply Array.ext'
        simpa using h1
      rw [this]
      exact .str2 s t
    · exact absurd rfl (hx _)
  · cases h
theorem RoV_of_key {I : Bool → Nat → Prop} {w : World} {kk : KeyK} {k : PV} {v : Value} (h : KeyVal kk k v) : RoV I w k v := by
  cases h with
  | bool b => exact .inr ⟨fun _ e => (by cases e), by simp [RoC]⟩
  | int k n => exact .inr ⟨fun _ e => (by cases e), by simp [RoC]⟩
  | str s => exact .inr ⟨fun _ e => (by cases e), by simp [RoC]⟩
  | str2 s t => exact .inl ⟨_, _, rfl, rfl, by simp [RoCs, RoC]⟩
theorem toList_inj {a b : ByteArray} (h : a.toList = b.toList) : a = b := by
  rw [ByteArray.toList_eq, ByteArray.toList_eq] at h
  exact ByteArray.ext (Array.ext' h)
theorem key_type {kt : TypeId} {kk : KeyK} (h : keyKind P kt = some kk) :
    (kk = .bool ∧ P.underlying kt = some .bool) ∨ (∃ k, kk = .int k ∧ P.underlying kt = some (.int k)) ∨ (kk = .str ∧ P.underlying kt = some .string) ∨
      (kk = .str2 ∧ ∃ e, P.underlying kt = some (.array 2 e) ∧ P.underlying e = some .string ∧ sizeT P e = some 1) := by
  unfold keyKind at h
  split at h
  · rename_i hu; injection h with h; exact .inl ⟨h.symm, hu⟩
  · rename_i k hu; injection h with h; exact .inr (.inl ⟨k, h.symm, hu⟩)
  · rename_i hu; injection h with h; exact .inr (.inr (.inl ⟨h.symm, hu⟩))
  · rename_i e hu
    split at h
    · rename_i h1 h2; injection h with h; exact .inr (.inr (.inr ⟨h.symm, e, hu, h1, h2⟩))
    · cases h
  · cases h
theorem eqK_key {kk : KeyK} {a b : PV} {u v : Value} (ha : KeyVal kk a u) (hb : KeyVal kk b v) (h : eqK a b = true) : a = b ∧ u = v := by
  cases ha <;> cases hb <;> simp only [eqK] at h
  · have := eq_of_beq h; subst this; exact ⟨rfl, rfl⟩
  · have := eq_of_beq h; subst this; exact ⟨rfl, rfl⟩
  · have := toList_inj (eq_of_beq h); subst this; exact ⟨rfl, rfl⟩
  · simp only [Bool.and_eq_true] at h
    have h1 := toList_inj (eq_of_beq h.1)
    have h2 := toList_inj (eq_of_beq h.2)
    subst h1 h2
    exact ⟨rfl, rfl⟩
theorem part_str {e : TypeId} (he : P.underlying e = some .string) {C : Array Value} {i : Nat} {v : Value} (h : C[i]? = some v) (w : World) : (part e C i).run P w = .ok v w := by
  simp [part, isAgg, run_underlying he, h]
theorem run_equal_str2 {kt e : TypeId} (h1 : P.underlying kt = some (.array 2 e)) (h2 : P.underlying e = some .string) (h3 : sizeT P e = some 1) (s t s' t' : ByteArray) (w : World) :
    (Op.equal kt (.agg #[.string s, .string t]) (.agg #[.string s', .string t'])).run P w = .ok (s.toList == s'.toList && t.toList == t'.toList) w := by
  have hi : ∃ i, P.info? e = some i ∧ i.size = 1 := by
    unfold sizeT at h3
    cases hi : P.info? e with
    | none => simp [hi] at h3
    | some i => simp [hi] at h3; exact ⟨i, rfl, h3⟩
  obtain ⟨i, hi, hs⟩ := hi
  have hc : P.cellsOf e = 1 := by simp [Program.cellsOf, hi, hs]
  rw [Op.equal, Op.maxDepth, run_equalIn_array w 9999 _ _ h1 hi, hc]
  simp only [List.range_succ, List.range_zero, List.nil_append, List.cons_append, Op.eqItems, Sem.run_bind]
  rw [part_str h2 (v := .string s) (by simp)]
  simp only [Result.andThen_ok]
  rw [part_str h2 (v := .string s') (by simp)]
  simp only [Result.andThen_ok, run_equalIn_string w 9998 e _ _ h2]
  cases hst : (s.toList == s'.toList) with
  | false => simp
  | true =>
    simp only [Bool.not_true, Bool.false_eq_true, if_false, Sem.run_bind]
    rw [part_str h2 (v := .string t) (by simp)]
    simp only [Result.andThen_ok]
    rw [part_str h2 (v := .string t') (by simp)]
    simp only [Result.andThen_ok, run_equalIn_string w 9998 e _ _ h2]
    cases htt : (t.toList == t'.toList) <;> simp
def lookI (k : PV) : List (PV × PV) → Nat → Option Nat
  | [], _ => none
  | (x, _) :: r, i => match eqK k x with | true => some i | false => lookI k r (i + 1)
def Found (I : Bool → Nat → Prop) (w : World) (key : PV) (u : Value) (xs : List (PV × PV)) (es : List MapEntry) (n : Nat) (r : Option (Nat × Value)) : Prop :=
  (look key xs = none ∧ r = none) ∨ (∃ i e x, look key xs = some x ∧ lookI key xs n = some (n + i) ∧ es[i]? = some e ∧ e.key = u ∧ RoV I w x e.val ∧ r = some (n + i, e.val))
theorem Found.here {I : Bool → Nat → Prop} {w : World} {key : PV} {u : Value} {k x : PV} {xs : List (PV × PV)} {e : MapEntry} {es : List MapEntry} {n : Nat} (h : eqK key k = true) (hu : e.key = u) (hx : RoV I w x e.val) :
    Found I w key u ((k, x) :: xs) (e :: es) n (some (n, e.val)) :=
  .inr ⟨0, e, x, by simp [look, h], by simp [lookI, h], rfl, hu, hx, rfl⟩
theorem Found.next {I : Bool → Nat → Prop} {w : World} {key : PV} {u : Value} {k x : PV} {xs : List (PV × PV)} {e : MapEntry} {es : List MapEntry} {n : Nat} {r : Option (Nat × Value)} (h : eqK key k = false) (hr : Found I w key u xs es (n + 1) r) :
    Found I w key u ((k, x) :: xs) (e :: es) n r := by
  rcases hr with ⟨h1, h2⟩ | ⟨i, e', x', h1, h2, h3, h4, h5, h6⟩
  · exact .inl ⟨by simp [look, h, h1], h2⟩
  · exact .inr ⟨i + 1, e', x', by simp [look, h, h1], by simp [lookI, h, h2]; omega, by simpa using h3, h4, h5, by rw [h6]; simp; omega⟩
theorem sameNow_key {kt : TypeId} {d : TypeDesc} {kk : KeyK} (hd : P.underlying kt = some d) (hk : keyKind P kt = some kk) (hne : kk ≠ .str2) {a b : PV} {u v : Value} (ha : KeyVal kk a u) (hb : KeyVal kk b v) :
    Instr.sameNow d u v = some (eqK a b) := by
  rcases key_type hk with ⟨rfl, h⟩ | ⟨k, rfl, h⟩ | ⟨rfl, h⟩ | ⟨h, _⟩
  · rw [hd] at h; injection h with h; subst h; cases ha; cases hb; rfl
  · rw [hd] at h; injection h with h; subst h; cases ha; cases hb; simp [Instr.sameNow, eqK]
  · rw [hd] at h; injection h with h; subst h; cases ha; cases hb; simp only [Instr.sameNow, eqK, beq_toListBytes]
  · exact absurd h hne
theorem findNow_ok {kt : TypeId} {d : TypeDesc} {kk : KeyK} (hd : P.underlying kt = some d) (hk : keyKind P kt = some kk) (hne : kk ≠ .str2) {I : Bool → Nat → Prop} {w : World} {key : PV} {u : Value} (hu : KeyVal kk key u) :
    ∀ (xs : List (PV × PV)) (es : List MapEntry) (n : Nat), RoMap I w kk xs es → ∃ r, Instr.findNow d u es n = some r ∧ Found I w key u xs es n r
  | [], es, n, h => by
    simp [RoMap] at h
    subst h
    exact ⟨none, rfl, .inl ⟨rfl, rfl⟩⟩
  | (k, x) :: xs, es, n, h => by
    obtain ⟨e, es', rfl, h0, h1, h2, h3⟩ := h
    have hkv := keyVal_of h0 h1
    have hs := sameNow_key hd hk hne hu hkv
    cases he : eqK key k with
    | true =>
      rw [he] at hs
      exact ⟨some (n, e.val), by simp [Instr.findNow, hs], Found.here he (eqK_key hu hkv he).2.symm h2⟩
    | false =>
      rw [he] at hs
      obtain ⟨r, h4, h5⟩ := findNow_ok hd hk hne hu xs es' (n + 1) h3
      exact ⟨r, by simp [Instr.findNow, hs, h4], Found.next he h5⟩
theorem findAsking_ok {kt : TypeId} (hk : keyKind P kt = some .str2) {I : Bool → Nat → Prop} {w0 : World} {key : PV} {u : Value} (hu : KeyVal .str2 key u) (w : World) :
    ∀ (xs : List (PV × PV)) (es : List MapEntry) (n : Nat), RoMap I w0 .str2 xs es → ∃ r, (Instr.findAsking kt u es n).run P w = .ok r w ∧ Found I w0 key u xs es n r
  | [], es, n, h => by
    simp [RoMap] at h
    subst h
    exact ⟨none, rfl, .inl ⟨rfl, rfl⟩⟩
  | (k, x) :: xs, es, n, h => by
    obtain ⟨e, es', rfl, h0, h1, h2, h3⟩ := h
    have hkv := keyVal_of h0 h1
    have heq : (Op.equal kt u e.key).run P w = .ok (eqK key k) w := by
      rcases key_type hk with ⟨h, _⟩ | ⟨_, h, _⟩ | ⟨h, _⟩ | ⟨_, el, h4, h5, h6⟩
      · cases h
      · cases h
      · cases h
      · generalize e.key = v at hkv
        cases hu
        cases hkv
        exact run_equal_str2 h4 h5 h6 _ _ _ _ w
    cases he : eqK key k with
    | true =>
      rw [he] at heq
      exact ⟨some (n, e.val), by simp [Instr.findAsking, heq], Found.here he (eqK_key hu hkv he).2.symm h2⟩
    | false =>
      rw [he] at heq
      obtain ⟨r, h4, h5⟩ := findAsking_ok hk hu w xs es' (n + 1) h3
      exact ⟨r, by simp [Instr.findAsking, heq, h4], Found.next he h5⟩
theorem findNow_str2 {e : TypeId} {s t : ByteArray} : ∀ (es : List MapEntry) (n : Nat), Instr.findNow (.array 2 e) (.agg #[.string s, .string t]) es n = (match es with | [] => some none | _ => none)
  | [], _ => rfl
  | _ :: _, _ => rfl
theorem run_find {kt : TypeId} {kk : KeyK} (hk : keyKind P kt = some kk) {I : Bool → Nat → Prop} {w0 : World} {key : PV} {u : Value} (hu : KeyVal kk key u) (w : World)
    {xs : List (PV × PV)} {es : List MapEntry} (h : RoMap I w0 kk xs es) : ∃ r, (Instr.findKey kt u es).run P w = .ok r w ∧ Found I w0 key u xs es 0 r := by
  have hd : ∃ d, P.underlying kt = some d := by
    rcases key_type hk with ⟨_, h⟩ | ⟨_, _, h⟩ | ⟨_, h⟩ | ⟨_, e, h, _⟩ <;> exact ⟨_, h⟩
  obtain ⟨d, hd⟩ := hd
  by_cases hne : kk = .str2
  · subst hne
    rcases key_type hk with ⟨h', _⟩ | ⟨_, h', _⟩ | ⟨h', _⟩ | ⟨_, el, h4, h5, h6⟩
    · cases h'
    · cases h'
    · cases h'
    · rw [hd] at h4
      injection h4 with h4
      subst h4
      obtain ⟨r, h7, h8⟩ := findAsking_ok hk hu w xs es 0 h
      cases hu with
      | str2 s t =>
        cases es with
        | nil =>
          refine ⟨r, ?_, h8⟩
          have : r = none := by
            simp [Instr.findAsking] at h7
            exact h7.symm
          subst this
          simp [Instr.findKey, run_underlying hd, findNow_str2]
        | cons e es =>
          refine ⟨r, ?_, h8⟩
          simp only [Instr.findKey, Sem.run_bind, run_underlying hd, Result.andThen_ok, findNow_str2]
          exact h7
  · obtain ⟨r, h4, h5⟩ := findNow_ok hd hk hne hu xs es 0 h
    exact ⟨r, by simp [Instr.findKey, run_underlying hd, h4], h5⟩
theorem run_checkKey' {kt : TypeId} {kk : KeyK} (hk : keyKind P kt = some kk) {key : PV} {u : Value} (hu : KeyVal kk key u) (b : Bool) (d : Nat) (w : World) : (Instr.checkKey b (d + 2) kt u).run P w = .ok () w := by
  rcases key_type hk with ⟨rfl, h⟩ | ⟨k, rfl, h⟩ | ⟨rfl, h⟩ | ⟨rfl, e, h4, h5, h6⟩
  · cases hu; simp [Instr.checkKey, run_underlying h]
  · cases hu; simp [Instr.checkKey, run_underlying h]
  · cases hu; simp [Instr.checkKey, run_underlying h]
  · cases hu
    simp only [Instr.checkKey, Sem.run_bind, run_underlying h4, Result.andThen_ok]
    simp only [Std.Legacy.Range.forIn_eq_forIn_range', Std.Legacy.Range.size, Nat.sub_zero, Nat.add_one_sub_one, Nat.div_one]
    rw [show List.range' 0 2 = [0, 1] from rfl]
    simp [run_sizeOf' h6, part, isAgg, run_underlying h5]
theorem run_checkKey {kt : TypeId} {kk : KeyK} (hk : keyKind P kt = some kk) {key : PV} {u : Value} (hu : KeyVal kk key u) (b : Bool) (w : World) : (Instr.checkKey b 10000 kt u).run P w = .ok () w :=
  run_checkKey' hk hu b 9998 w
theorem RoV_pure {c : Cx} {x : AV} {key : PV} {u : Value} (h : V c x u) (hp : pureOf x = some key) : RoV c.J c.w key u := by
  unfold pureOf at hp
  split at hp
  · cases hp
  · rename_i y hna
    injection hp with hp
    subst hp
    simp only [V] at h
    exact .inr ⟨fun xs e => hna xs e, h⟩
  · rename_i cs
    rw [Option.map_eq_some_iff] at hp
    obtain ⟨ys, h1, rfl⟩ := hp
    have := pureCells_eq h1
    subst this
    simp only [V] at h
    obtain ⟨C, rfl, h2, _⟩ := h
    exact .inl ⟨ys, C, rfl, rfl, (Vs_map_p _ _).1 h2⟩
  · cases hp
theorem V_of_RoV {c : Cx} {x : PV} {u : Value} {agg : Bool} {cs : List PV} (h : RoV c.J c.w x u) (ha : (agg = true ∧ x = .agg cs) ∨ (agg = false ∧ (∀ xs, x ≠ .agg xs) ∧ cs = [x])) :
    V c (ofCells agg (cs.map .p)) u := by
  rcases ha with ⟨rfl, rfl⟩ | ⟨rfl, hx, rfl⟩
  · rcases h with ⟨xs, C, he, rfl, h2⟩ | ⟨hx, _⟩
    · injection he with he
      subst he
      simp only [ofCells, V]
      exact ⟨C, rfl, (Vs_map_p _ _).2 h2, RoCs.ones _ _ h2⟩
    · exact absurd rfl (hx _)
  · rcases h with ⟨xs, C, he, _⟩ | ⟨_, h2⟩
    · exact absurd he (hx _)
    · simpa [ofCells, V] using h2
theorem ofConst_notAgg {v : Value} {x : PV} (h : ofConst v = some x) : ∀ xs, x ≠ .agg xs := by
  intro xs e
  subst e
  unfold ofConst at h
  split at h <;> simp at h
theorem RoV_zero {e : TypeId} {x : PV} (hz : zeroPV P e = some x) (I : Bool → Nat → Prop) (w : World) : ∃ z, zeroT P e = some z ∧ RoV I w x z := by
  unfold zeroPV at hz
  split at hz
  · rename_i C h
    rw [Option.map_eq_some_iff] at hz
    obtain ⟨xs, h1, rfl⟩ := hz
    exact ⟨_, h, .inl ⟨xs, C, rfl, rfl, ofConsts_C h1⟩⟩
  · rename_i v _ h
    exact ⟨v, h, .inr ⟨ofConst_notAgg hz, ofConst_C hz⟩⟩
  · cases hz
theorem sem_lookup (env : Env) (hP : env.P = P) (hvw : VwOK P env.vw) (t : TypeId) (m k : Operand) (ok : Bool) {K : KA} (h : lookupA env rd t (ρ m) (ρ k) ok K) :
    ∃ v, K v [] ∧ OpSem P ⟨dst, .lookup t m k ok, ty, pos, after, guard⟩ ρ rd fresh v [] := by
  unfold lookupA at h
  rw [hP] at h
  split at h
  · rename_i kt e ht
    split at h
    · rename_i kk agg z key hkk hag hz hkey
      split at h
      · rename_i id hm
        split at h
        · rename_i kk' es hr
          split at h
          · rename_i hsk
            simp only [Bool.and_eq_true] at hsk
            have := sameK_eq hsk.1
            subst this
            obtain ⟨cs, hk, hsz, hpos, hag'⟩ := hvw _ _ _ h
            have hag2 : (agg = true ∧ (look key es).getD z = .agg cs) ∨ (agg = false ∧ (∀ xs, (look key es).getD z ≠ .agg xs) ∧ cs = [(look key es).getD z]) := by
              rcases hag' with ⟨h1, h2⟩ | ⟨h1, h2⟩
              · rw [hag] at h1; injection h1 with h1; exact .inl ⟨h1, h2⟩
              · rw [hag] at h1; injection h1 with h1; exact .inr ⟨h1, h2⟩
            have run : ∀ (c : Cx) (hp : HP) (a : Act), (∀ x ∈ (Op.lookup t m k ok).operands, V c (ρ x) (a.eval x)) → (∀ i, rd i ≠ .dead → hp i = some (rd i)) → HR c hp →
                ∃ u, RoV c.J c.w ((look key es).getD z) u ∧ (Instr.lookup t (a.eval m) (a.eval k) ok).run P c.w = .ok (if ok then .tuple #[u, .bool (look key es).isSome] else u) c.w := by
              intro c hp a hv hrd hh
              have e1 := hv m (by simp [Op.operands])
              have e2 := RoV_pure (hv k (by simp [Op.operands])) hkey
              rw [hm] at e1
              simp only [V] at e1
              obtain ⟨_, b, h4, h5⟩ := e1
              have h6 := (hh.obj id _ (hrd id (by rw [hr]; simp))).2
              rw [hr, h4] at h6
              simp only [OR] at h6
              obtain ⟨E, cl, h7, h8⟩ := h6
              have hu := keyVal_of hsk.2 e2
              obtain ⟨r, h9, h10⟩ := run_find (P := P) hkk hu c.w h8
              obtain ⟨zv, h11, h12⟩ := RoV_zero hz c.J c.w
              have hget : (getObj b).run P c.w = .ok (.map E cl) c.w := by simp [getObj, Sem.run, h7]
              rcases h10 with ⟨h13, rfl⟩ | ⟨i, en, x, h13, _, _, _, h14, rfl⟩
              · refine ⟨zv, by rw [h13]; exact h12, ?_⟩
                simp [Instr.lookup, run_underlying ht, h5, hget, run_checkKey hkk hu, h9, run_zeroValue' h11, h13]
              · refine ⟨en.val, by rw [h13]; exact h14, ?_⟩
                simp [Instr.lookup, run_underlying ht, h5, hget, run_checkKey hkk hu, h9, h13]
            cases ok with
            | true =>
              refine ⟨_, hk, OpSem.pure fun c hp a hv hrd hh => ?_⟩
              obtain ⟨u, h1, h2⟩ := run c hp a hv hrd hh
              refine ⟨.tuple #[u, .bool (look key es).isSome], by simp [execOp, h2], ?_⟩
              simp only [V, Vs]
              exact ⟨_, rfl, _, _, rfl, V_of_RoV h1 hag2, _, _, rfl, by simp [RoC], rfl⟩
            | false =>
              refine ⟨_, hk, OpSem.pure fun c hp a hv hrd hh => ?_⟩
              obtain ⟨u, h1, h2⟩ := run c hp a hv hrd hh
              exact ⟨u, by simp [execOp, h2], V_of_RoV h1 hag2⟩
          · exact h.elim
        · exact h.elim
      · exact h.elim
    · exact h.elim
  · exact h.elim
theorem sameBits_key {kk : KeyK} {a : PV} {u : Value} (h : KeyVal kk a u) (d : Nat) : Instr.sameBits (d + 1) u u = true := by
  cases h <;> simp [Instr.sameBits, beq_toListBytes]
theorem setK_map {I : Bool → Nat → Prop} {w : World} {kk : KeyK} {key x : PV} {u v : Value} (hk : isKey kk key = true) (hu : KeyVal kk key u) (hx : RoV I w x v) :
    ∀ (xs : List (PV × PV)) (es : List MapEntry), RoMap I w kk xs es →
      (∀ n, lookI key xs n = none → ∀ born, RoMap I w kk (setK key x xs) (es ++ [{ key := u, val := v, born := born }])) ∧
      (∀ n i, lookI key xs n = some (n + i) → RoMap I w kk (setK key x xs) (es.modify i fun e => { e with key := u, val := v }))
  | [], es, h => by
    simp [RoMap] at h
    subst h
    refine ⟨fun n _ born => ?_, fun n i h => by simp [lookI] at h⟩
    simp only [setK, RoMap, List.nil_append]
    exact ⟨_, [], rfl, hk, RoV_of_key hu, hx, rfl⟩
  | (k, y) :: xs, es, h => by
    obtain ⟨e, es', rfl, h0, h1, h2, h3⟩ := h
    have ih := setK_map hk hu hx xs es' h3
    have hkv := keyVal_of h0 h1
    cases he : eqK key k with
    | true =>
      refine ⟨fun n h => by simp [lookI, he] at h, fun n i h => ?_⟩
      have hi : i = 0 := by simp [lookI, he] at h; exact h
      subst hi
      simp only [setK, he, List.modify_zero_cons, RoMap]
      obtain ⟨e1, e2⟩ := eqK_key hu hkv he
      exact ⟨_, es', rfl, h0, by rw [← e1]; exact RoV_of_key hu, hx, h3⟩
    | false =>
      refine ⟨fun n h born => ?_, fun n i h => ?_⟩
      · simp [lookI, he] at h
        have := ih.1 (n + 1) h born
        simp only [setK, he, RoMap, List.cons_append]
        exact ⟨e, _, rfl, h0, h1, h2, this⟩
      · simp only [lookI, he] at h
        cases i with
        | zero =>
          exfalso
          have mono : ∀ (xs : List (PV × PV)) (n j : Nat), lookI key xs n = some j → n ≤ j := by
            intro xs
            induction xs with
            | nil => intro n j h; simp [lookI] at h
            | cons p xs ih =>
              intro n j h
              obtain ⟨a, b⟩ := p
              simp only [lookI] at h
              split at h
              · injection h with h; omega
              · have := ih (n + 1) j h; omega
          have := mono xs (n + 1) _ h
          omega
        | succ i =>
          have := ih.2 (n + 1) i (by rw [h]; congr 1; omega)
          simp only [setK, he, RoMap, List.modify_succ_cons]
          exact ⟨e, _, rfl, h0, h1, h2, this⟩
theorem look_lookI {key : PV} : ∀ (xs : List (PV × PV)) (n : Nat), look key xs = none → lookI key xs n = none
  | [], _, _ => rfl
  | (k, y) :: xs, n, h => by
    simp only [look] at h
    split at h
    · cases h
    · rename_i he
      simp only [lookI, he]
      exact look_lookI xs (n + 1) h
theorem sem_mapSet (env : Env) (hP : env.P = P) (t : TypeId) (m k x : Operand) {K : KA} (h : mapSetA env rd t (ρ m) (ρ k) (ρ x) K) :
    ∃ i ao, K .undef [(i, ao)] ∧ OpSem P ⟨dst, .mapUpdate t m k x, ty, pos, after, guard⟩ ρ rd fresh .undef [(i, ao)] := by
  unfold mapSetA at h
  rw [hP] at h
  split at h
  · rename_i kt e ht
    split at h
    · rename_i kk key y id hkk hkey hy hm
      split at h
      · rename_i kk' es hr
        split at h
        · rename_i hsk
          simp only [Bool.and_eq_true] at hsk
          have := sameK_eq hsk.1
          subst this
          refine ⟨_, _, h, OpSem.set (by rw [hr]; rfl) fun c hp a hv hrd hh hi => ?_⟩
          have e1 := hv m (by simp [Op.operands])
          have e2 := RoV_pure (hv k (by simp [Op.operands])) hkey
          have e3 := RoV_pure (V_weak (hv x (by simp [Op.operands]))) hy
          rw [hm] at e1
          simp only [V] at e1
          obtain ⟨_, b, h4, h5⟩ := e1
          have h6 := (hh.obj id _ hi).2
          rw [hr, h4] at h6
          simp only [OR] at h6
          obtain ⟨E, cl, h7, h8⟩ := h6
          have hu := keyVal_of hsk.2 e2
          obtain ⟨r, h9, h10⟩ := run_find (P := P) hkk hu c.w h8
          have hget : (getObj b).run P c.w = .ok (.map E cl) c.w := by simp [getObj, Sem.run, h7]
          have hbs : b < c.w.heap.size := (Array.getElem?_eq_some_iff.1 h7).1
          have hset : ∀ o, (setObj b o).run P c.w = .ok () { c.w with heap := c.w.heap.setIfInBounds b o } := fun o => by simp [setObj, Sem.run, h7]
          have hsm := setK_map (I := c.J) (w := c.w) hsk.2 hu e3 es E.toList h8
          have fin : ∀ E' cl', (Instr.mapUpdate t (a.eval m) (a.eval k) (a.eval x)).run P c.w = .ok () { c.w with heap := c.w.heap.setIfInBounds b (.map E' cl') } → RoMap c.J c.w kk (setK key y es) E'.toList →
              ∃ b' w', (c.β id).block = some b' ∧ w'.os = c.w.os ∧ w'.tape = c.w.tape ∧ w'.output = c.w.output ∧ c.w.heap.size ≤ w'.heap.size ∧ (∀ k, k < c.w.heap.size → k ≠ b' → w'.heap[k]? = c.w.heap[k]?) ∧
                OR (c.with w') (.map kk (setK key y es)) (c.β id) ∧ (((execOp a.eval ⟨dst, .mapUpdate t m k x, ty, pos, after, guard⟩).run P c.w = .ok .skip w' ∧ V (c.with w') .undef undef) ∨ ∃ u, (execOp a.eval ⟨dst, .mapUpdate t m k x, ty, pos, after, guard⟩).run P c.w = .ok (.value u) w' ∧ (Ext c (c.with w') → V (c.with w') .undef u)) := by
            intro E' cl' hrun hmap
            have hother : ∀ k, k < c.w.heap.size → k ≠ b → ({ c.w with heap := c.w.heap.setIfInBounds b (.map E' cl') } : World).heap[k]? = c.w.heap[k]? := by
              intro k _ hk
              simp only []
              rw [Array.getElem?_setIfInBounds_ne (fun e => hk e.symm)]
            refine ⟨b, { c.w with heap := c.w.heap.setIfInBounds b (.map E' cl') }, by rw [h4]; rfl, rfl, rfl, rfl, by simp, hother, ?_, .inl ⟨by simp [execOp, hrun], by simp [V]⟩⟩
            have ext := set_ext hh ⟨_, hi, by rw [hr]; rfl⟩ (b := b) (by rw [h4]; rfl) hother
            rw [h4]
            simp only [OR]
            refine ⟨E', cl', ?_, RoMap.mono ext.J ext.jb _ _ hmap⟩
            simp only [Cx.with]
            rw [Array.getElem?_setIfInBounds]
            simp [hbs]
          rcases h10 with ⟨h13, rfl⟩ | ⟨i, en, xx, h13, h14, h15, h16, _, rfl⟩
          · refine fin (E.push { key := a.eval k, val := a.eval x, born := cl }) (cl + 1) ?_ ?_
            · simp [Instr.mapUpdate, run_underlying ht, h5, hget, run_checkKey hkk hu, h9, hset]
            · simpa using hsm.1 0 (look_lookI es 0 h13) cl
          · have h17 : E[i]? = some en := by simpa using h15
            refine fin (E.modify i fun e => { e with key := a.eval k, val := a.eval x }) cl ?_ ?_
            · have hst : (Instr.keyThatStays (a.eval k) (a.eval k)).run P c.w = .ok (a.eval k) c.w := by
                simp only [Instr.keyThatStays]
                rw [show (10000 : Nat) = 9999 + 1 from rfl, sameBits_key hu 9999]
                rfl
              simp [Instr.mapUpdate, run_underlying ht, h5, hget, run_checkKey hkk hu, h9, h17, h16, hst, hset]
            · have := hsm.2 0 i (by simpa using h14)
              simpa [Array.toList_modify] using this
        · exact h.elim
      · exact h.elim
    · exact h.elim
  · exact h.elim
end
end Go.RX
