/- Printed by a program of the prover: the functions that the law reaches, as functions in Lean, and that the model does what they say. No condition. -/
import Derived.Test.YtmddopocbbnhlaaGreatDoorRd
import Derived.KernelRfl
import Derived.Test.YtmddopocbbnhlaaGreatDoorProg
set_option linter.all false
namespace Go.RX
noncomputable section
open Go.Proofs
abbrev W (n : Int) : Int := IntKind.wrap .i64 n
def lst (m : Bool) (l : List PV) : Arr := ⟨m, l.length, fun j => l.getD j .nilp⟩
structure S_x0 where
  Tables : Arr
  Procs : Arr
def p_x0 (s : S_x0) : List PV := [.arr s.Tables.m s.Tables.n s.Tables.g, .arr s.Procs.m s.Procs.n s.Procs.g]
structure S_x4 where
  Tables : Arr
def p_x4 (s : S_x4) : List PV := [.arr s.Tables.m s.Tables.n s.Tables.g]
structure S_x6 where
  Kind : Int
  Int : Int
  Text : ByteArray
def as_x6 (x : PV) (K : S_x6 → Prop) : Prop := match x with
  | .agg [.int .i64 c0, .int .i64 c1, .str c2] => K ⟨c0, c1, c2⟩
  | _ => False
def p_x6 (s : S_x6) : List PV := [.int .i64 s.Kind, .int .i64 s.Int, .str s.Text]
structure S_x5 where
  Name : ByteArray
  Columns : Arr
  Key : Arr
  Part : Int
  Indexes : Arr
def as_x5 (x : PV) (K : S_x5 → Prop) : Prop := match x with
  | .agg [.str c0, .arr c1m c1n c1g, .arr c2m c2n c2g, .int .i64 c3, .arr c4m c4n c4g] => K ⟨c0, ⟨c1m, c1n, c1g⟩, ⟨c2m, c2n, c2g⟩, c3, ⟨c4m, c4n, c4g⟩⟩
  | _ => False
def p_x5 (s : S_x5) : List PV := [.str s.Name, .arr s.Columns.m s.Columns.n s.Columns.g, .arr s.Key.m s.Key.n s.Key.g, .int .i64 s.Part, .arr s.Indexes.m s.Indexes.n s.Indexes.g]
structure S_x1 where
  Name : ByteArray
  Type_ : Int
  NotNull : Bool
def as_x1 (x : PV) (K : S_x1 → Prop) : Prop := match x with
  | .agg [.str c0, .int .i64 c1, .bool c2] => K ⟨c0, c1, c2⟩
  | _ => False
def p_x1 (s : S_x1) : List PV := [.str s.Name, .int .i64 s.Type_, .bool s.NotNull]
structure S_x7 where
  Name : ByteArray
  Params : Arr
  Body : Arr
  Rows : Int
  Bytes : Int
def as_x7 (x : PV) (K : S_x7 → Prop) : Prop := match x with
  | .agg [.str c0, .arr c1m c1n c1g, .arr c2m c2n c2g, .int .i64 c3, .int .i64 c4] => K ⟨c0, ⟨c1m, c1n, c1g⟩, ⟨c2m, c2n, c2g⟩, c3, c4⟩
  | _ => False
def p_x7 (s : S_x7) : List PV := [.str s.Name, .arr s.Params.m s.Params.n s.Params.g, .arr s.Body.m s.Body.n s.Body.g, .int .i64 s.Rows, .int .i64 s.Bytes]
structure S_x2 where
  Name : ByteArray
  Columns : Arr
  Unique : Bool
def as_x2 (x : PV) (K : S_x2 → Prop) : Prop := match x with
  | .agg [.str c0, .arr c1m c1n c1g, .bool c2] => K ⟨c0, ⟨c1m, c1n, c1g⟩, c2⟩
  | _ => False
def p_x2 (s : S_x2) : List PV := [.str s.Name, .arr s.Columns.m s.Columns.n s.Columns.g, .bool s.Unique]
structure S_x3 where
  Name : ByteArray
  Type_ : Int
def as_x3 (x : PV) (K : S_x3 → Prop) : Prop := match x with
  | .agg [.str c0, .int .i64 c1] => K ⟨c0, c1⟩
  | _ => False
def p_x3 (s : S_x3) : List PV := [.str s.Name, .int .i64 s.Type_]
def cm (x : PV) (K : Int → Prop) : Prop := match x with
  | .int .i64 n => K n
  | _ => False
def asS (x : PV) (K : ByteArray → Prop) : Prop := match x with
  | .str s => K s
  | _ => False
def asB (x : PV) (K : Bool → Prop) : Prop := match x with
  | .bool b => K b
  | _ => False
def asA (x : PV) (K : Arr → Prop) : Prop := match x with
  | .arr m n g => K ⟨m, n, g⟩
  | _ => False
def vw : TypeId → PV → (List PV → Prop) → Prop := fun t => tab (fun _ _ => False) [(3, fun x K => cm x fun s => K [.int .i64 s]),
  (4, fun x K => asB x fun s => K [.bool s]),
  (9, fun x K => asS x fun s => K [.str s]),
  (35, fun x K => asA x fun s => K [.arr s.m s.n s.g]),
  (41, fun x K => asA x fun s => K [.arr s.m s.n s.g]),
  (43, fun x K => as_x6 x fun s => K (p_x6 s)),
  (49, fun x K => as_x5 x fun s => K (p_x5 s)),
  (57, fun x K => as_x1 x fun s => K (p_x1 s)),
  (80, fun x K => as_x7 x fun s => K (p_x7 s)),
  (126, fun x K => as_x2 x fun s => K (p_x2 s)),
  (128, fun x K => as_x3 x fun s => K (p_x3 s))] t
def pc_x0 : Pat (List AV) S_x0 := (ag pA (ag pA au)).iso (fun a => ⟨a.1, a.2.1⟩) (fun s => (s.Tables, s.Procs, ())) (fun _ => rfl)
def pc_x4 : Pat (List AV) S_x4 := (ag pA au).iso (fun a => ⟨a.1⟩) (fun s => (s.Tables, ())) (fun _ => rfl)
def pc_x6 : Pat (List AV) S_x6 := (ag (pI .i64) (ag (pI .i64) (ag pS au))).iso (fun a => ⟨a.1, a.2.1, a.2.2.1⟩) (fun s => (s.Kind, s.Int, s.Text, ())) (fun _ => rfl)
def pc_x5 : Pat (List AV) S_x5 := (ag pS (ag pA (ag pA (ag (pI .i64) (ag pA au))))).iso (fun a => ⟨a.1, a.2.1, a.2.2.1, a.2.2.2.1, a.2.2.2.2.1⟩) (fun s => (s.Name, s.Columns, s.Key, s.Part, s.Indexes, ())) (fun _ => rfl)
def pc_x7 : Pat (List AV) S_x7 := (ag pS (ag pA (ag pA (ag (pI .i64) (ag (pI .i64) au))))).iso (fun a => ⟨a.1, a.2.1, a.2.2.1, a.2.2.2.1, a.2.2.2.2.1⟩) (fun s => (s.Name, s.Params, s.Body, s.Rows, s.Bytes, ())) (fun _ => rfl)
abbrev Y_zq := S_x0 → S_x4 → (Bool → Prop) → Prop
abbrev Y_zr := (Bool → Prop) → Prop
abbrev Y_ze := S_x0 → S_x4 → (Bool → Prop) → Prop
abbrev Y_z0 := S_x0 → (Bool → Prop) → Prop
abbrev Y_z4 := ((List (PV × PV)) → Prop) → Prop
abbrev Y_z3 := S_x5 → (Bool → Prop) → Prop
abbrev Y_z6 := ByteArray → (Bool → Prop) → Prop
abbrev Y_z1m := ByteArray → (Bool → Prop) → Prop
abbrev Y_z1n := ByteArray → (Int → Prop) → Prop
abbrev Y_z1o := ByteArray → Bool → (Int → Prop) → Prop
abbrev Y_z7 := Int → (Bool → Prop) → Prop
abbrev Y_z5 := ByteArray → (List (PV × PV)) → (Bool → (List (PV × PV)) → Prop) → Prop
abbrev Y_z9 := Int → (Bool → Prop) → Prop
abbrev Y_z8 := Arr → Int → (Bool → Prop) → Prop
abbrev Y_z1f := Arr → Int → (Bool → Prop) → Prop
abbrev Y_z1k := Arr → Int → (Int → Prop) → Prop
abbrev Y_z1 := S_x7 → (Bool → Prop) → Prop
abbrev Y_z1e := Arr → (Bool → Prop) → Prop
abbrev Y_z1j := Arr → (Int → Prop) → Prop
abbrev Y_z2 := ByteArray → (Bool → Prop) → Prop
abbrev Y_z1b := Arr → S_x5 → (Bool → S_x5 → Prop) → Prop
abbrev Y_z1g := Arr → S_x5 → (Int → S_x5 → Prop) → Prop
abbrev Y_zf := Arr → S_x5 → (Bool → S_x5 → Prop) → Prop
abbrev Y_zm := S_x5 → Arr → (Bool → Prop) → Prop
abbrev Y_z1q := S_x6 → (Bool → Prop) → Prop
abbrev Y_zi := S_x6 → (Bool → Prop) → Prop
abbrev Y_zj := S_x5 → Arr → (Bool → Prop) → Prop
abbrev Y_z1c := Arr → Arr → (Bool → Arr → Prop) → Prop
abbrev Y_z1h := Arr → Arr → (Int → Arr → Prop) → Prop
abbrev Y_zk := Int → Arr → (Bool → Arr → Prop) → Prop
abbrev Y_zl := Arr → Arr → Arr → (Int → Prop) → Prop
abbrev Y_z1p := S_x6 → S_x6 → (Int → Prop) → Prop
abbrev Y_za := Int → Int → (Int → Prop) → Prop
abbrev Y_zc := Int → (Bool → Prop) → Prop
abbrev Y_z1l := ByteArray → ByteArray → (Int → Prop) → Prop
abbrev Y_zo := ByteArray → ByteArray → (Int → Prop) → Prop
abbrev Y_zp := ByteArray → ByteArray → (Int → Prop) → Prop
abbrev Y_zb := (List PV) → (Int → (List PV) → Prop) → Prop
abbrev Y_zn := S_x5 → Arr → (Bool → Prop) → Prop
abbrev Y_zg := S_x5 → Arr → Arr → (Bool → Prop) → Prop
abbrev Y_z1d := Arr → Arr → (Bool → Arr → Prop) → Prop
abbrev Y_z1i := Arr → Arr → (Int → Arr → Prop) → Prop
abbrev Y_zh := Int → Arr → (Bool → Arr → Prop) → Prop
abbrev Y_z16 := S_x0 → S_x4 → (Bool → Prop) → Prop
abbrev Y_zz := S_x0 → (Bool → Prop) → Prop
abbrev Y_zx := S_x5 → (Bool → Prop) → Prop
abbrev Y_zy := ByteArray → (Bool → Prop) → Prop
abbrev Y_z11 := (List PV) → (Bool → (List PV) → Prop) → Prop
abbrev Y_z12 := Arr → Int → (Bool → Prop) → Prop
abbrev Y_zw := S_x7 → (Bool → Prop) → Prop
abbrev Y_z10 := Int → Int → Int → (Bool → Prop) → Prop
abbrev Y_z17 := S_x5 → Arr → (Bool → Prop) → Prop
abbrev Y_zv := S_x6 → (Bool → Prop) → Prop
abbrev Y_z14 := S_x5 → Arr → (Bool → Prop) → Prop
abbrev Y_z15 := Arr → Arr → Arr → (Int → Prop) → Prop
abbrev Y_zu := S_x6 → S_x6 → (Int → Prop) → Prop
abbrev Y_z18 := S_x5 → Arr → (Bool → Prop) → Prop
abbrev Y_z19 := S_x5 → Arr → Arr → (Bool → Prop) → Prop
abbrev Y_z1a := Arr → Arr → (Bool → Prop) → Prop
abbrev Y_zd := S_x0 → (S_x4 → Prop) → Prop
abbrev Y_z13 := S_x0 → (S_x4 → Prop) → Prop
abbrev Y_zt := S_x4 → S_x4 → (Bool → Prop) → Prop
abbrev Y_zs := Arr → Arr → (Bool → Prop) → Prop
structure Tab where
  fuel : Nat
  f_zq : Y_zq
  f_zr : Y_zr
  f_ze : Y_ze
  f_z0 : Y_z0
  f_z4 : Y_z4
  f_z3 : Y_z3
  f_z6 : Y_z6
  f_z1m : Y_z1m
  f_z1n : Y_z1n
  f_z1o : Y_z1o
  f_z7 : Y_z7
  f_z5 : Y_z5
  f_z9 : Y_z9
  f_z8 : Y_z8
  f_z1f : Y_z1f
  f_z1k : Y_z1k
  f_z1 : Y_z1
  f_z1e : Y_z1e
  f_z1j : Y_z1j
  f_z2 : Y_z2
  f_z1b : Y_z1b
  f_z1g : Y_z1g
  f_zf : Y_zf
  f_zm : Y_zm
  f_z1q : Y_z1q
  f_zi : Y_zi
  f_zj : Y_zj
  f_z1c : Y_z1c
  f_z1h : Y_z1h
  f_zk : Y_zk
  f_zl : Y_zl
  f_z1p : Y_z1p
  f_za : Y_za
  f_zc : Y_zc
  f_z1l : Y_z1l
  f_zo : Y_zo
  f_zp : Y_zp
  f_zb : Y_zb
  f_zn : Y_zn
  f_zg : Y_zg
  f_z1d : Y_z1d
  f_z1i : Y_z1i
  f_zh : Y_zh
  f_z16 : Y_z16
  f_zz : Y_zz
  f_zx : Y_zx
  f_zy : Y_zy
  f_z11 : Y_z11
  f_z12 : Y_z12
  f_zw : Y_zw
  f_z10 : Y_z10
  f_z17 : Y_z17
  f_zv : Y_zv
  f_z14 : Y_z14
  f_z15 : Y_z15
  f_zu : Y_zu
  f_z18 : Y_z18
  f_z19 : Y_z19
  f_z1a : Y_z1a
  f_zd : Y_zd
  f_z13 : Y_z13
  f_zt : Y_zt
  f_zs : Y_zs
end
end Go.RX
