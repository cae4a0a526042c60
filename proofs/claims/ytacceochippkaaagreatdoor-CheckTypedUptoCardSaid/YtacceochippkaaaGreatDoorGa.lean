/- Printed by a program of the prover: the functions that the law reaches, as functions in Lean, and that the model does what they say. No condition. -/
import Derived.Test.YtacceochippkaaaGreatDoorRd
import Derived.KernelRfl
import Derived.Test.YtacceochippkaaaGreatDoorProg
set_option linter.all false
namespace Go.RX
noncomputable section
open Go.Proofs
abbrev W (n : Int) : Int := IntKind.wrap .i64 n
def lst (m : Bool) (l : List PV) : Arr := ⟨m, l.length, fun j => l.getD j .nilp⟩
structure S_x1 where
  Tables : Arr
  Procs : Arr
def p_x1 (s : S_x1) : List PV := [.arr s.Tables.m s.Tables.n s.Tables.g, .arr s.Procs.m s.Procs.n s.Procs.g]
structure S_x9 where
  Kind : Int
  Tables : Arr
  On : Arr
  Where : Arr
  Items : Arr
  Columns : Arr
  Grouped : Bool
  Groups : Arr
  Sorts : Arr
  Limit : Arr
  Types : Arr
def p_x9 (s : S_x9) : List PV := [.int .i64 s.Kind, .arr s.Tables.m s.Tables.n s.Tables.g, .arr s.On.m s.On.n s.On.g, .arr s.Where.m s.Where.n s.Where.g, .arr s.Items.m s.Items.n s.Items.g, .arr s.Columns.m s.Columns.n s.Columns.g, .bool s.Grouped, .arr s.Groups.m s.Groups.n s.Groups.g, .arr s.Sorts.m s.Sorts.n s.Sorts.g, .arr s.Limit.m s.Limit.n s.Limit.g, .arr s.Types.m s.Types.n s.Types.g]
structure S_xe where
  Kind : Int
  Table : ByteArray
  Join : ByteArray
  On : Arr
  Where : Arr
  Items : Arr
  Star : Bool
  Sets : Arr
  Groups : Arr
  Sorts : Arr
  Limit : Arr
  At : Int
  JoinAt : Int
structure S_x5 where
  Code : Int
  At : Int
structure S_x8 where
  Name : ByteArray
  Columns : Arr
  Key : Arr
  Part : Int
  Indexes : Arr
def as_x8 (x : PV) (K : S_x8 → Prop) : Prop := match x with
  | .agg [.str c0, .arr c1m c1n c1g, .arr c2m c2n c2g, .int .i64 c3, .arr c4m c4n c4g] => K ⟨c0, ⟨c1m, c1n, c1g⟩, ⟨c2m, c2n, c2g⟩, c3, ⟨c4m, c4n, c4g⟩⟩
  | _ => False
def p_x8 (s : S_x8) : List PV := [.str s.Name, .arr s.Columns.m s.Columns.n s.Columns.g, .arr s.Key.m s.Key.n s.Key.g, .int .i64 s.Part, .arr s.Indexes.m s.Indexes.n s.Indexes.g]
structure S_x4 where
  Name : ByteArray
  Type_ : Int
  NotNull : Bool
def as_x4 (x : PV) (K : S_x4 → Prop) : Prop := match x with
  | .agg [.str c0, .int .i64 c1, .bool c2] => K ⟨c0, c1, c2⟩
  | _ => False
def p_x4 (s : S_x4) : List PV := [.str s.Name, .int .i64 s.Type_, .bool s.NotNull]
structure S_x7 where
  Name : ByteArray
  Type_ : Int
def as_x7 (x : PV) (K : S_x7 → Prop) : Prop := match x with
  | .agg [.str c0, .int .i64 c1] => K ⟨c0, c1⟩
  | _ => False
def p_x7 (s : S_x7) : List PV := [.str s.Name, .int .i64 s.Type_]
structure S_xa where
  Kind : Int
  Int : Int
  Text : ByteArray
structure S_xf where
  Op : Int
  Num : Int
  Type_ : Int
  Value_Kind : Int
  Value_Int : Int
  Value_Text : ByteArray
  Kids : Arr
def as_xf (x : PV) (K : S_xf → Prop) : Prop := match x with
  | .agg [.int .i64 c0, .int .i64 c1, .int .i64 c2, .int .i64 c3, .int .i64 c4, .str c5, .arr c6m c6n c6g] => K ⟨c0, c1, c2, c3, c4, c5, ⟨c6m, c6n, c6g⟩⟩
  | _ => False
def p_xf (s : S_xf) : List PV := [.int .i64 s.Op, .int .i64 s.Num, .int .i64 s.Type_, .int .i64 s.Value_Kind, .int .i64 s.Value_Int, .str s.Value_Text, .arr s.Kids.m s.Kids.n s.Kids.g]
structure S_x0 where
  c_Tables : Arr
  c_Procs : Arr
  params : Arr
  t_Kind : Int
  t_Tables : Arr
  t_On : Arr
  t_Where : Arr
  t_Items : Arr
  t_Columns : Arr
  t_Grouped : Bool
  t_Groups : Arr
  t_Sorts : Arr
  t_Limit : Arr
  t_Types : Arr
structure S_xb where
  Kind : Int
  Op : Int
  Value_Kind : Int
  Value_Int : Int
  Value_Text : ByteArray
  Table : ByteArray
  Name : ByteArray
  Kids : Arr
  At : Int
def as_xb (x : PV) (K : S_xb → Prop) : Prop := match x with
  | .agg [.int .i64 c0, .int .i64 c1, .int .i64 c2, .int .i64 c3, .str c4, .str c5, .str c6, .arr c7m c7n c7g, .int .i64 c8] => K ⟨c0, c1, c2, c3, c4, c5, c6, ⟨c7m, c7n, c7g⟩, c8⟩
  | _ => False
def p_xb (s : S_xb) : List PV := [.int .i64 s.Kind, .int .i64 s.Op, .int .i64 s.Value_Kind, .int .i64 s.Value_Int, .str s.Value_Text, .str s.Table, .str s.Name, .arr s.Kids.m s.Kids.n s.Kids.g, .int .i64 s.At]
structure S_xg where
  Name : ByteArray
  Expr_Kind : Int
  Expr_Op : Int
  Expr_Value_Kind : Int
  Expr_Value_Int : Int
  Expr_Value_Text : ByteArray
  Expr_Table : ByteArray
  Expr_Name : ByteArray
  Expr_Kids : Arr
  Expr_At : Int
  At : Int
def as_xg (x : PV) (K : S_xg → Prop) : Prop := match x with
  | .agg [.str c0, .int .i64 c1, .int .i64 c2, .int .i64 c3, .int .i64 c4, .str c5, .str c6, .str c7, .arr c8m c8n c8g, .int .i64 c9, .int .i64 c10] => K ⟨c0, c1, c2, c3, c4, c5, c6, c7, ⟨c8m, c8n, c8g⟩, c9, c10⟩
  | _ => False
def p_xg (s : S_xg) : List PV := [.str s.Name, .int .i64 s.Expr_Kind, .int .i64 s.Expr_Op, .int .i64 s.Expr_Value_Kind, .int .i64 s.Expr_Value_Int, .str s.Expr_Value_Text, .str s.Expr_Table, .str s.Expr_Name, .arr s.Expr_Kids.m s.Expr_Kids.n s.Expr_Kids.g, .int .i64 s.Expr_At, .int .i64 s.At]
structure S_xd where
  Item : Int
  Desc : Bool
  At : Int
def as_xd (x : PV) (K : S_xd → Prop) : Prop := match x with
  | .agg [.int .i64 c0, .bool c1, .int .i64 c2] => K ⟨c0, c1, c2⟩
  | _ => False
def p_xd (s : S_xd) : List PV := [.int .i64 s.Item, .bool s.Desc, .int .i64 s.At]
structure S_x2 where
  e0 : ByteArray
  e1 : ByteArray
def as_x2 (x : PV) (K : S_x2 → Prop) : Prop := match x with
  | .agg [.str c0, .str c1] => K ⟨c0, c1⟩
  | _ => False
def p_x2 (s : S_x2) : List PV := [.str s.e0, .str s.e1]
structure S_x3 where
  at' : Int
  kind : Int
  many : Int
def as_x3 (x : PV) (K : S_x3 → Prop) : Prop := match x with
  | .agg [.int .i64 c0, .int .i64 c1, .int .i64 c2] => K ⟨c0, c1, c2⟩
  | _ => False
def p_x3 (s : S_x3) : List PV := [.int .i64 s.at', .int .i64 s.kind, .int .i64 s.many]
structure S_xc where
  Name : ByteArray
  Params : Arr
  Body : Arr
  Rows : Int
  Bytes : Int
def as_xc (x : PV) (K : S_xc → Prop) : Prop := match x with
  | .agg [.str c0, .arr c1m c1n c1g, .arr c2m c2n c2g, .int .i64 c3, .int .i64 c4] => K ⟨c0, ⟨c1m, c1n, c1g⟩, ⟨c2m, c2n, c2g⟩, c3, c4⟩
  | _ => False
def p_xc (s : S_xc) : List PV := [.str s.Name, .arr s.Params.m s.Params.n s.Params.g, .arr s.Body.m s.Body.n s.Body.g, .int .i64 s.Rows, .int .i64 s.Bytes]
structure S_x6 where
  Name : ByteArray
  Columns : Arr
  Unique : Bool
def as_x6 (x : PV) (K : S_x6 → Prop) : Prop := match x with
  | .agg [.str c0, .arr c1m c1n c1g, .bool c2] => K ⟨c0, ⟨c1m, c1n, c1g⟩, c2⟩
  | _ => False
def p_x6 (s : S_x6) : List PV := [.str s.Name, .arr s.Columns.m s.Columns.n s.Columns.g, .bool s.Unique]
def bf (x : PV) (K : Int → Prop) : Prop := match x with
  | .int .i64 n => K n
  | _ => False
def asS (x : PV) (K : ByteArray → Prop) : Prop := match x with
  | .str s => K s
  | _ => False
def asB (x : PV) (K : Bool → Prop) : Prop := match x with
  | .bool b => K b
  | _ => False
def vw : TypeId → PV → (List PV → Prop) → Prop := fun t => tab (fun _ _ => False) [(3, fun x K => bf x fun s => K [.int .i64 s]),
  (4, fun x K => asB x fun s => K [.bool s]),
  (9, fun x K => asS x fun s => K [.str s]),
  (49, fun x K => as_x8 x fun s => K (p_x8 s)),
  (51, fun x K => as_x4 x fun s => K (p_x4 s)),
  (53, fun x K => as_x7 x fun s => K (p_x7 s)),
  (64, fun x K => as_xf x fun s => K (p_xf s)),
  (93, fun x K => as_xb x fun s => K (p_xb s)),
  (107, fun x K => as_xg x fun s => K (p_xg s)),
  (110, fun x K => as_xd x fun s => K (p_xd s)),
  (120, fun x K => as_x2 x fun s => K (p_x2 s)),
  (127, fun x K => as_x3 x fun s => K (p_x3 s)),
  (142, fun x K => as_xc x fun s => K (p_xc s)),
  (190, fun x K => as_x6 x fun s => K (p_x6 s))] t
def pc_x1 : Pat (List AV) S_x1 := (aa pA (aa pA an)).iso (fun a => ⟨a.1, a.2.1⟩) (fun s => (s.Tables, s.Procs, ())) (fun _ => rfl)
def pc_x9 : Pat (List AV) S_x9 := (aa (pI .i64) (aa pA (aa pA (aa pA (aa pA (aa pA (aa pB (aa pA (aa pA (aa pA (aa pA an))))))))))).iso (fun a => ⟨a.1, a.2.1, a.2.2.1, a.2.2.2.1, a.2.2.2.2.1, a.2.2.2.2.2.1, a.2.2.2.2.2.2.1, a.2.2.2.2.2.2.2.1, a.2.2.2.2.2.2.2.2.1, a.2.2.2.2.2.2.2.2.2.1, a.2.2.2.2.2.2.2.2.2.2.1⟩) (fun s => (s.Kind, s.Tables, s.On, s.Where, s.Items, s.Columns, s.Grouped, s.Groups, s.Sorts, s.Limit, s.Types, ())) (fun _ => rfl)
def pc_xe : Pat (List AV) S_xe := (aa (pI .i64) (aa pS (aa pS (aa pA (aa pA (aa pA (aa pB (aa pA (aa pA (aa pA (aa pA (aa (pI .i64) (aa (pI .i64) an))))))))))))).iso (fun a => ⟨a.1, a.2.1, a.2.2.1, a.2.2.2.1, a.2.2.2.2.1, a.2.2.2.2.2.1, a.2.2.2.2.2.2.1, a.2.2.2.2.2.2.2.1, a.2.2.2.2.2.2.2.2.1, a.2.2.2.2.2.2.2.2.2.1, a.2.2.2.2.2.2.2.2.2.2.1, a.2.2.2.2.2.2.2.2.2.2.2.1, a.2.2.2.2.2.2.2.2.2.2.2.2.1⟩) (fun s => (s.Kind, s.Table, s.Join, s.On, s.Where, s.Items, s.Star, s.Sets, s.Groups, s.Sorts, s.Limit, s.At, s.JoinAt, ())) (fun _ => rfl)
def pc_x8 : Pat (List AV) S_x8 := (aa pS (aa pA (aa pA (aa (pI .i64) (aa pA an))))).iso (fun a => ⟨a.1, a.2.1, a.2.2.1, a.2.2.2.1, a.2.2.2.2.1⟩) (fun s => (s.Name, s.Columns, s.Key, s.Part, s.Indexes, ())) (fun _ => rfl)
def pc_x4 : Pat (List AV) S_x4 := (aa pS (aa (pI .i64) (aa pB an))).iso (fun a => ⟨a.1, a.2.1, a.2.2.1⟩) (fun s => (s.Name, s.Type_, s.NotNull, ())) (fun _ => rfl)
def pc_xa : Pat (List AV) S_xa := (aa (pI .i64) (aa (pI .i64) (aa pS an))).iso (fun a => ⟨a.1, a.2.1, a.2.2.1⟩) (fun s => (s.Kind, s.Int, s.Text, ())) (fun _ => rfl)
def pc_xf : Pat (List AV) S_xf := (aa (pI .i64) (aa (pI .i64) (aa (pI .i64) (aa (pI .i64) (aa (pI .i64) (aa pS (aa pA an))))))).iso (fun a => ⟨a.1, a.2.1, a.2.2.1, a.2.2.2.1, a.2.2.2.2.1, a.2.2.2.2.2.1, a.2.2.2.2.2.2.1⟩) (fun s => (s.Op, s.Num, s.Type_, s.Value_Kind, s.Value_Int, s.Value_Text, s.Kids, ())) (fun _ => rfl)
def pc_x0 : Pat (List AV) S_x0 := (aa pA (aa pA (aa pA (aa (pI .i64) (aa pA (aa pA (aa pA (aa pA (aa pA (aa pB (aa pA (aa pA (aa pA (aa pA an)))))))))))))).iso (fun a => ⟨a.1, a.2.1, a.2.2.1, a.2.2.2.1, a.2.2.2.2.1, a.2.2.2.2.2.1, a.2.2.2.2.2.2.1, a.2.2.2.2.2.2.2.1, a.2.2.2.2.2.2.2.2.1, a.2.2.2.2.2.2.2.2.2.1, a.2.2.2.2.2.2.2.2.2.2.1, a.2.2.2.2.2.2.2.2.2.2.2.1, a.2.2.2.2.2.2.2.2.2.2.2.2.1, a.2.2.2.2.2.2.2.2.2.2.2.2.2.1⟩) (fun s => (s.c_Tables, s.c_Procs, s.params, s.t_Kind, s.t_Tables, s.t_On, s.t_Where, s.t_Items, s.t_Columns, s.t_Grouped, s.t_Groups, s.t_Sorts, s.t_Limit, s.t_Types, ())) (fun _ => rfl)
def pc_xb : Pat (List AV) S_xb := (aa (pI .i64) (aa (pI .i64) (aa (pI .i64) (aa (pI .i64) (aa pS (aa pS (aa pS (aa pA (aa (pI .i64) an))))))))).iso (fun a => ⟨a.1, a.2.1, a.2.2.1, a.2.2.2.1, a.2.2.2.2.1, a.2.2.2.2.2.1, a.2.2.2.2.2.2.1, a.2.2.2.2.2.2.2.1, a.2.2.2.2.2.2.2.2.1⟩) (fun s => (s.Kind, s.Op, s.Value_Kind, s.Value_Int, s.Value_Text, s.Table, s.Name, s.Kids, s.At, ())) (fun _ => rfl)
def pc_xg : Pat (List AV) S_xg := (aa pS (aa (pI .i64) (aa (pI .i64) (aa (pI .i64) (aa (pI .i64) (aa pS (aa pS (aa pS (aa pA (aa (pI .i64) (aa (pI .i64) an))))))))))).iso (fun a => ⟨a.1, a.2.1, a.2.2.1, a.2.2.2.1, a.2.2.2.2.1, a.2.2.2.2.2.1, a.2.2.2.2.2.2.1, a.2.2.2.2.2.2.2.1, a.2.2.2.2.2.2.2.2.1, a.2.2.2.2.2.2.2.2.2.1, a.2.2.2.2.2.2.2.2.2.2.1⟩) (fun s => (s.Name, s.Expr_Kind, s.Expr_Op, s.Expr_Value_Kind, s.Expr_Value_Int, s.Expr_Value_Text, s.Expr_Table, s.Expr_Name, s.Expr_Kids, s.Expr_At, s.At, ())) (fun _ => rfl)
def pc_xc : Pat (List AV) S_xc := (aa pS (aa pA (aa pA (aa (pI .i64) (aa (pI .i64) an))))).iso (fun a => ⟨a.1, a.2.1, a.2.2.1, a.2.2.2.1, a.2.2.2.2.1⟩) (fun s => (s.Name, s.Params, s.Body, s.Rows, s.Bytes, ())) (fun _ => rfl)
abbrev Y_z1d := S_x1 → Arr → S_x9 → (Bool → Prop) → Prop
abbrev Y_z1e := (Bool → Prop) → Prop
abbrev Y_zb := S_x1 → Arr → S_x9 → (Bool → Prop) → Prop
abbrev Y_zd := S_x1 → Arr → Prop → (Arr → Arr → Int → Int → (List (PV × PV)) → (List (PV × PV)) → Prop) → Prop
abbrev Y_z0 := S_x1 → (Bool → Prop) → Prop
abbrev Y_z4 := ((List (PV × PV)) → Prop) → Prop
abbrev Y_z3 := S_x8 → (Bool → Prop) → Prop
abbrev Y_z6 := ByteArray → (Bool → Prop) → Prop
abbrev Y_z2s := ByteArray → (Bool → Prop) → Prop
abbrev Y_z2u := ByteArray → (Int → Prop) → Prop
abbrev Y_z2v := ByteArray → Bool → (Int → Prop) → Prop
abbrev Y_z7 := Int → (Bool → Prop) → Prop
abbrev Y_z5 := ByteArray → (List (PV × PV)) → (Bool → (List (PV × PV)) → Prop) → Prop
abbrev Y_z9 := Int → (Bool → Prop) → Prop
abbrev Y_z8 := Arr → Int → (Bool → Prop) → Prop
abbrev Y_z2h := Arr → Int → (Bool → Prop) → Prop
abbrev Y_z2r := Arr → Int → (Int → Prop) → Prop
abbrev Y_z1 := S_xc → (Bool → Prop) → Prop
abbrev Y_z2g := Arr → (Bool → Prop) → Prop
abbrev Y_z2q := Arr → (Int → Prop) → Prop
abbrev Y_z2 := ByteArray → (Bool → Prop) → Prop
abbrev Y_zt := Arr → (Bool → Prop) → Prop
abbrev Y_z1f := ByteArray → (Bool → Prop) → Prop
abbrev Y_z1g := Int → (Int → Prop) → Prop
abbrev Y_z2t := ByteArray → Int → (Int → Prop) → Prop
abbrev Y_z1c := ByteArray → Int → (Int → Prop) → Prop
abbrev Y_z1b := ByteArray → Int → (Int → Prop) → Prop
abbrev Y_z18 := S_x0 → (S_xe → Bool → S_x0 → Prop) → Prop
abbrev Y_z19 := S_x0 → (Bool → S_x0 → Prop) → Prop
abbrev Y_z2f := Arr → S_x0 → (Bool → S_x0 → Prop) → Prop
abbrev Y_z2p := Arr → S_x0 → (Int → S_x0 → Prop) → Prop
abbrev Y_z1a := Int → S_x0 → (Bool → S_x0 → Prop) → Prop
abbrev Y_z15 := Arr → S_x0 → (Arr → Bool → S_x0 → Prop) → Prop
abbrev Y_z14 := S_xf → Int → S_x0 → (S_xb → Bool → S_x0 → Prop) → Prop
abbrev Y_z13 := Int → S_x0 → (S_xb → Bool → S_x0 → Prop) → Prop
abbrev Y_z29 := Arr → (Arr → Prop) → Prop
abbrev Y_z2a := Arr → (Arr → Prop) → Prop
abbrev Y_z16 := Arr → S_x0 → Int → ByteArray → ByteArray → Arr → Arr → Bool → Arr → Arr → Int → Int → (List PV) → (S_x0 → Int → ByteArray → ByteArray → Arr → Arr → Bool → Arr → Arr → Int → Int → (List PV) → Prop) → (Bool → S_x0 → Int → ByteArray → ByteArray → Arr → Arr → Bool → Arr → Arr → Int → Int → (List PV) → (List PV) → Prop) → Prop
abbrev Y_z17 := S_x0 → (Bool → S_x0 → Prop) → Prop
abbrev Y_za := S_x1 → Arr → S_xe → (S_x9 → S_x5 → Prop) → Prop
abbrev Y_z2w := S_xe → (Bool → Prop) → Prop
abbrev Y_z35 := Arr → (Bool → Prop) → Prop
abbrev Y_z2b := Arr → (Bool → Prop) → Prop
abbrev Y_z2l := Arr → (Int → Prop) → Prop
abbrev Y_z36 := S_xb → (Bool → Prop) → Prop
abbrev Y_z2y := S_xb → Int → (Bool → Prop) → Prop
abbrev Y_z37 := Int → (Int → Int → Int → Int → Prop) → Prop
abbrev Y_z2x := S_xb → (Bool → Prop) → Prop
abbrev Y_z39 := S_xa → (Bool → Prop) → Prop
abbrev Y_z2c := Arr → Int → (Bool → Int → Prop) → Prop
abbrev Y_z2m := Arr → Int → (Int → Int → Prop) → Prop
abbrev Y_z2z := S_xb → Int → (Bool → Int → Prop) → Prop
abbrev Y_z31 := S_xe → (Bool → Prop) → Prop
abbrev Y_z30 := S_xb → (Bool → Prop) → Prop
abbrev Y_z38 := Int → (Bool → Prop) → Prop
abbrev Y_z2e := Arr → (Bool → Prop) → Prop
abbrev Y_z2o := Arr → (Int → Prop) → Prop
abbrev Y_z32 := Int → (Bool → Prop) → Prop
abbrev Y_z33 := Arr → (Bool → Prop) → Prop
abbrev Y_z2d := Arr → (Bool → Prop) → Prop
abbrev Y_z2n := Arr → (Int → Prop) → Prop
abbrev Y_z34 := S_xg → (Bool → Prop) → Prop
abbrev Y_zo := S_xe → Arr → Arr → Int → Int → (List (PV × PV)) → (List (PV × PV)) → (S_x9 → Bool → Arr → Arr → Int → Int → (List (PV × PV)) → (List (PV × PV)) → Prop) → Prop
abbrev Y_zj := S_xe → Arr → Arr → Int → Int → (List (PV × PV)) → (List (PV × PV)) → (Arr → Bool → Arr → Arr → Int → Int → (List (PV × PV)) → (List (PV × PV)) → Prop) → Prop
abbrev Y_zw := S_x1 → ByteArray → (Int → Prop) → Prop
abbrev Y_zf := Int → Int → Arr → Arr → Int → Int → (List (PV × PV)) → (List (PV × PV)) → (Arr → Arr → Int → Int → (List (PV × PV)) → (List (PV × PV)) → Prop) → Prop
abbrev Y_zm := Arr → Arr → Arr → Int → Int → (List (PV × PV)) → (List (PV × PV)) → (Arr → Arr → Int → Int → (List (PV × PV)) → (List (PV × PV)) → Prop) → Prop
abbrev Y_zq := Arr → Arr → Arr → Int → Int → (List (PV × PV)) → (List (PV × PV)) → (Arr → Bool → Arr → Arr → Int → Int → (List (PV × PV)) → (List (PV × PV)) → Prop) → Prop
abbrev Y_zk := Int → Arr → Arr → Int → Int → (List (PV × PV)) → (List (PV × PV)) → (Arr → Arr → Int → Int → (List (PV × PV)) → (List (PV × PV)) → Int → Prop) → Prop
abbrev Y_zl := S_xb → Arr → Arr → Int → Int → (List (PV × PV)) → (List (PV × PV)) → Int → (S_xf → Bool → Arr → Arr → Int → Int → (List (PV × PV)) → (List (PV × PV)) → Int → Prop) → Prop
abbrev Y_zp := S_xb → Arr → Arr → Int → Int → (List (PV × PV)) → (List (PV × PV)) → (S_xf → Bool → Arr → Arr → Int → Int → (List (PV × PV)) → (List (PV × PV)) → Prop) → Prop
abbrev Y_zz := Int → (Int → Prop) → Prop → Prop
abbrev Y_z10 := Int → (Int → Prop) → Prop
abbrev Y_z11 := Int → Int → (Bool → Int → Prop) → Prop
abbrev Y_zy := (List PV) → (Bool → (List PV) → Prop) → Prop
abbrev Y_zx := Int → (List PV) → (Int → (List PV) → Prop) → Prop
abbrev Y_z12 := Int → Prop → Prop
abbrev Y_zh := S_xe → S_x8 → Arr → Arr → Int → Int → (List (PV × PV)) → (List (PV × PV)) → Int → Arr → Arr → Arr → Bool → (Arr → Arr → Int → Int → (List (PV × PV)) → (List (PV × PV)) → Int → Arr → Arr → Arr → Bool → Prop) → (Bool → Arr → Arr → Int → Int → (List (PV × PV)) → (List (PV × PV)) → Int → Arr → Arr → Arr → Bool → (List PV) → Prop) → Prop
abbrev Y_zr := S_xe → S_x8 → Arr → Arr → Int → Int → (List (PV × PV)) → (List (PV × PV)) → Int → Arr → Arr → Arr → Bool → (Bool → Arr → Arr → Int → Int → (List (PV × PV)) → (List (PV × PV)) → Int → Arr → Arr → Arr → Bool → (List PV) → (List PV) → Prop) → Prop
abbrev Y_zs := S_x8 → ByteArray → (Int → Prop) → Prop
abbrev Y_ze := S_xe → Arr → Arr → Int → Int → (List (PV × PV)) → (List (PV × PV)) → Int → Arr → Arr → Arr → Bool → (Arr → Arr → Int → Int → (List (PV × PV)) → (List (PV × PV)) → Int → Arr → Arr → Arr → Bool → (List PV) → Prop) → (Arr → Arr → Int → Int → (List (PV × PV)) → (List (PV × PV)) → Int → Arr → Arr → Arr → Bool → (List PV) → (List PV) → Prop) → (Arr → Arr → Int → Int → (List (PV × PV)) → (List (PV × PV)) → Int → Arr → Arr → Arr → Bool → (List PV) → (List PV) → (List PV) → Prop) → (Arr → Arr → Int → Int → (List (PV × PV)) → (List (PV × PV)) → Int → Arr → Arr → Arr → Bool → (List PV) → (List PV) → (List PV) → (List PV) → (List PV) → Prop) → Prop
abbrev Y_zg := S_xe → Arr → Arr → Int → Int → (List (PV × PV)) → (List (PV × PV)) → Int → Arr → Arr → Arr → Bool → (Arr → Arr → Int → Int → (List (PV × PV)) → (List (PV × PV)) → Int → Arr → Arr → Arr → Bool → (List PV) → Prop) → (Arr → Arr → Int → Int → (List (PV × PV)) → (List (PV × PV)) → Int → Arr → Arr → Arr → Bool → (List PV) → (List (PV × PV)) → Prop) → Prop
abbrev Y_zn := S_xe → Arr → Arr → Int → Int → (List (PV × PV)) → (List (PV × PV)) → Int → Arr → Arr → Arr → Bool → (List PV) → (Arr → Arr → Int → Int → (List (PV × PV)) → (List (PV × PV)) → Int → Arr → Arr → Arr → Bool → (List PV) → Prop) → (Bool → Arr → Arr → Int → Int → (List (PV × PV)) → (List (PV × PV)) → Int → Arr → Arr → Arr → Bool → (List PV) → (List PV) → Prop) → Prop
abbrev Y_zi := S_xe → Arr → Arr → Int → Int → (List (PV × PV)) → (List (PV × PV)) → Int → Arr → Arr → Arr → Bool → (List PV) → (List (PV × PV)) → (Bool → Arr → Arr → Int → Int → (List (PV × PV)) → (List (PV × PV)) → Int → Arr → Arr → Arr → Bool → (List PV) → (List (PV × PV)) → (List PV) → Prop) → Prop
abbrev Y_zc := Int → (Bool → Prop) → Prop
abbrev Y_zv := S_x9 → S_x9 → (Bool → Prop) → Prop
abbrev Y_z2k := Arr → Arr → (Bool → Prop) → Prop
abbrev Y_z2j := Arr → Arr → (Bool → Prop) → Prop
abbrev Y_z2i := Arr → Arr → (Bool → Prop) → Prop
abbrev Y_zu := S_xf → S_xf → (Bool → Prop) → Prop
abbrev Y_z1v := S_x1 → Arr → S_x9 → (Bool → Prop) → Prop
abbrev Y_z1l := S_x1 → (Bool → Prop) → Prop
abbrev Y_z1j := S_x8 → (Bool → Prop) → Prop
abbrev Y_z1k := ByteArray → (Bool → Prop) → Prop
abbrev Y_z1n := (List PV) → (Bool → (List PV) → Prop) → Prop
abbrev Y_z1o := Arr → Int → (Bool → Prop) → Prop
abbrev Y_z1i := S_xc → (Bool → Prop) → Prop
abbrev Y_z1m := Int → Int → Int → (Bool → Prop) → Prop
abbrev Y_z1u := Arr → (Bool → Prop) → Prop
abbrev Y_z1p := ByteArray → (Bool → Prop) → Prop
abbrev Y_z1r := Int → (Bool → Prop) → Prop
abbrev Y_z1q := Int → (Bool → Prop) → Prop
abbrev Y_z25 := S_x1 → S_x9 → (Bool → Prop) → Prop
abbrev Y_z1t := S_x1 → Arr → (Arr → Prop) → Prop
abbrev Y_z26 := Arr → Arr → Arr → (Bool → Prop) → Prop
abbrev Y_z1w := S_xf → Arr → Arr → Int → Bool → (Bool → Prop) → Prop
abbrev Y_z23 := S_xf → Arr → Arr → (Bool → Prop) → Prop
abbrev Y_z1s := S_xa → (Bool → Prop) → Prop
abbrev Y_z1h := S_xa → (Bool → Prop) → Prop
abbrev Y_z1x := Int → (Bool → Prop) → Prop
abbrev Y_z22 := Int → Int → (Bool → Prop) → Prop
abbrev Y_z21 := Int → Int → (Bool → Prop) → Prop
abbrev Y_z28 := Int → (Int → Prop) → Prop
abbrev Y_z27 := Int → Arr → (Int → Prop) → Prop
abbrev Y_z24 := S_x9 → Arr → Arr → (Bool → Prop) → Prop
abbrev Y_z20 := Arr → Arr → (Bool → Prop) → Prop
abbrev Y_z1y := Arr → Int → (Bool → Prop) → Prop
abbrev Y_z1z := Arr → Arr → Arr → (List PV) → (Bool → (List PV) → Prop) → Prop
structure Tab where
  fuel : Nat
  f_z1d : Y_z1d
  f_z1e : Y_z1e
  f_zb : Y_zb
  f_zd : Y_zd
  f_z0 : Y_z0
  f_z4 : Y_z4
  f_z3 : Y_z3
  f_z6 : Y_z6
  f_z2s : Y_z2s
  f_z2u : Y_z2u
  f_z2v : Y_z2v
  f_z7 : Y_z7
  f_z5 : Y_z5
  f_z9 : Y_z9
  f_z8 : Y_z8
  f_z2h : Y_z2h
  f_z2r : Y_z2r
  f_z1 : Y_z1
  f_z2g : Y_z2g
  f_z2q : Y_z2q
  f_z2 : Y_z2
  f_zt : Y_zt
  f_z1f : Y_z1f
  f_z1g : Y_z1g
  f_z2t : Y_z2t
  f_z1c : Y_z1c
  f_z1b : Y_z1b
  f_z18 : Y_z18
  f_z19 : Y_z19
  f_z2f : Y_z2f
  f_z2p : Y_z2p
  f_z1a : Y_z1a
  f_z15 : Y_z15
  f_z14 : Y_z14
  f_z13 : Y_z13
  f_z29 : Y_z29
  f_z2a : Y_z2a
  f_z16 : Y_z16
  f_z17 : Y_z17
  f_za : Y_za
  f_z2w : Y_z2w
  f_z35 : Y_z35
  f_z2b : Y_z2b
  f_z2l : Y_z2l
  f_z36 : Y_z36
  f_z2y : Y_z2y
  f_z37 : Y_z37
  f_z2x : Y_z2x
  f_z39 : Y_z39
  f_z2c : Y_z2c
  f_z2m : Y_z2m
  f_z2z : Y_z2z
  f_z31 : Y_z31
  f_z30 : Y_z30
  f_z38 : Y_z38
  f_z2e : Y_z2e
  f_z2o : Y_z2o
  f_z32 : Y_z32
  f_z33 : Y_z33
  f_z2d : Y_z2d
  f_z2n : Y_z2n
  f_z34 : Y_z34
  f_zo : Y_zo
  f_zj : Y_zj
  f_zw : Y_zw
  f_zf : Y_zf
  f_zm : Y_zm
  f_zq : Y_zq
  f_zk : Y_zk
  f_zl : Y_zl
  f_zp : Y_zp
  f_zz : Y_zz
  f_z10 : Y_z10
  f_z11 : Y_z11
  f_zy : Y_zy
  f_zx : Y_zx
  f_z12 : Y_z12
  f_zh : Y_zh
  f_zr : Y_zr
  f_zs : Y_zs
  f_ze : Y_ze
  f_zg : Y_zg
  f_zn : Y_zn
  f_zi : Y_zi
  f_zc : Y_zc
  f_zv : Y_zv
  f_z2k : Y_z2k
  f_z2j : Y_z2j
  f_z2i : Y_z2i
  f_zu : Y_zu
  f_z1v : Y_z1v
  f_z1l : Y_z1l
  f_z1j : Y_z1j
  f_z1k : Y_z1k
  f_z1n : Y_z1n
  f_z1o : Y_z1o
  f_z1i : Y_z1i
  f_z1m : Y_z1m
  f_z1u : Y_z1u
  f_z1p : Y_z1p
  f_z1r : Y_z1r
  f_z1q : Y_z1q
  f_z25 : Y_z25
  f_z1t : Y_z1t
  f_z26 : Y_z26
  f_z1w : Y_z1w
  f_z23 : Y_z23
  f_z1s : Y_z1s
  f_z1h : Y_z1h
  f_z1x : Y_z1x
  f_z22 : Y_z22
  f_z21 : Y_z21
  f_z28 : Y_z28
  f_z27 : Y_z27
  f_z24 : Y_z24
  f_z20 : Y_z20
  f_z1y : Y_z1y
  f_z1z : Y_z1z
end
end Go.RX
