/- Printed by a program of the prover: the functions that the law reaches, as functions in Lean, and that the model does what they say. No condition. -/
import Derived.Test.YtacceochippkaaaGreatRc
import Derived.KernelRfl
import Derived.Test.YtacceochippkaaaGreatProg
set_option linter.all false
namespace Go.RX
noncomputable section
open Go.Proofs
abbrev W (n : Int) : Int := IntKind.wrap .i64 n
def lst (m : Bool) (l : List PV) : Arr := ⟨m, l.length, fun j => l.getD j .nilp⟩
structure S_i_Catalog where
  Tables : Arr
  Procs : Arr
def as_i_Catalog (x : PV) (K : S_i_Catalog → Prop) : Prop := match x with
  | .agg [.arr c0m c0n c0g, .arr c1m c1n c1g] => K ⟨⟨c0m, c0n, c0g⟩, ⟨c1m, c1n, c1g⟩⟩
  | _ => False
def p_i_Catalog (s : S_i_Catalog) : List PV := [.arr s.Tables.m s.Tables.n s.Tables.g, .arr s.Procs.m s.Procs.n s.Procs.g]
structure S_i_Stmt where
  Kind : Int
  Table : ByteArray
  Join : ByteArray
  On : Arr
  Where : Arr
  Items : Arr
  Star : Bool
  Sets : Arr
  Groups : Arr
  Sorts : Arr
  Limit : Arr
  At : Int
  JoinAt : Int
def as_i_Stmt (x : PV) (K : S_i_Stmt → Prop) : Prop := match x with
  | .agg [.int .i64 c0, .str c1, .str c2, .arr c3m c3n c3g, .arr c4m c4n c4g, .arr c5m c5n c5g, .bool c6, .arr c7m c7n c7g, .arr c8m c8n c8g, .arr c9m c9n c9g, .arr c10m c10n c10g, .int .i64 c11, .int .i64 c12] => K ⟨c0, c1, c2, ⟨c3m, c3n, c3g⟩, ⟨c4m, c4n, c4g⟩, ⟨c5m, c5n, c5g⟩, c6, ⟨c7m, c7n, c7g⟩, ⟨c8m, c8n, c8g⟩, ⟨c9m, c9n, c9g⟩, ⟨c10m, c10n, c10g⟩, c11, c12⟩
  | _ => False
def p_i_Stmt (s : S_i_Stmt) : List PV := [.int .i64 s.Kind, .str s.Table, .str s.Join, .arr s.On.m s.On.n s.On.g, .arr s.Where.m s.Where.n s.Where.g, .arr s.Items.m s.Items.n s.Items.g, .bool s.Star, .arr s.Sets.m s.Sets.n s.Sets.g, .arr s.Groups.m s.Groups.n s.Groups.g, .arr s.Sorts.m s.Sorts.n s.Sorts.g, .arr s.Limit.m s.Limit.n s.Limit.g, .int .i64 s.At, .int .i64 s.JoinAt]
structure S_i_Typed where
  Kind : Int
  Tables : Arr
  On : Arr
  Where : Arr
  Items : Arr
  Columns : Arr
  Grouped : Bool
  Groups : Arr
  Sorts : Arr
  Limit : Arr
  Types : Arr
def as_i_Typed (x : PV) (K : S_i_Typed → Prop) : Prop := match x with
  | .agg [.int .i64 c0, .arr c1m c1n c1g, .arr c2m c2n c2g, .arr c3m c3n c3g, .arr c4m c4n c4g, .arr c5m c5n c5g, .bool c6, .arr c7m c7n c7g, .arr c8m c8n c8g, .arr c9m c9n c9g, .arr c10m c10n c10g] => K ⟨c0, ⟨c1m, c1n, c1g⟩, ⟨c2m, c2n, c2g⟩, ⟨c3m, c3n, c3g⟩, ⟨c4m, c4n, c4g⟩, ⟨c5m, c5n, c5g⟩, c6, ⟨c7m, c7n, c7g⟩, ⟨c8m, c8n, c8g⟩, ⟨c9m, c9n, c9g⟩, ⟨c10m, c10n, c10g⟩⟩
  | _ => False
def p_i_Typed (s : S_i_Typed) : List PV := [.int .i64 s.Kind, .arr s.Tables.m s.Tables.n s.Tables.g, .arr s.On.m s.On.n s.On.g, .arr s.Where.m s.Where.n s.Where.g, .arr s.Items.m s.Items.n s.Items.g, .arr s.Columns.m s.Columns.n s.Columns.g, .bool s.Grouped, .arr s.Groups.m s.Groups.n s.Groups.g, .arr s.Sorts.m s.Sorts.n s.Sorts.g, .arr s.Limit.m s.Limit.n s.Limit.g, .arr s.Types.m s.Types.n s.Types.g]
structure S_i_Fault where
  Code : Int
  At : Int
def as_i_Fault (x : PV) (K : S_i_Fault → Prop) : Prop := match x with
  | .agg [.int .i64 c0, .int .i64 c1] => K ⟨c0, c1⟩
  | _ => False
def p_i_Fault (s : S_i_Fault) : List PV := [.int .i64 s.Code, .int .i64 s.At]
structure S_ra where
  c_Tables : Arr
  c_Procs : Arr
  params : Arr
  tables : Arr
  f_Code : Int
  f_At : Int
def as_ra (x : PV) (K : S_ra → Prop) : Prop := match x with
  | .agg [.arr c0m c0n c0g, .arr c1m c1n c1g, .arr c2m c2n c2g, .arr c3m c3n c3g, .int .i64 c4, .int .i64 c5] => K ⟨⟨c0m, c0n, c0g⟩, ⟨c1m, c1n, c1g⟩, ⟨c2m, c2n, c2g⟩, ⟨c3m, c3n, c3g⟩, c4, c5⟩
  | _ => False
def p_ra (s : S_ra) : List PV := [.arr s.c_Tables.m s.c_Tables.n s.c_Tables.g, .arr s.c_Procs.m s.c_Procs.n s.c_Procs.g, .arr s.params.m s.params.n s.params.g, .arr s.tables.m s.tables.n s.tables.g, .int .i64 s.f_Code, .int .i64 s.f_At]
structure S_i_Table where
  Name : ByteArray
  Columns : Arr
  Key : Arr
  Part : Int
  Indexes : Arr
def as_i_Table (x : PV) (K : S_i_Table → Prop) : Prop := match x with
  | .agg [.str c0, .arr c1m c1n c1g, .arr c2m c2n c2g, .int .i64 c3, .arr c4m c4n c4g] => K ⟨c0, ⟨c1m, c1n, c1g⟩, ⟨c2m, c2n, c2g⟩, c3, ⟨c4m, c4n, c4g⟩⟩
  | _ => False
def p_i_Table (s : S_i_Table) : List PV := [.str s.Name, .arr s.Columns.m s.Columns.n s.Columns.g, .arr s.Key.m s.Key.n s.Key.g, .int .i64 s.Part, .arr s.Indexes.m s.Indexes.n s.Indexes.g]
structure S_i_Sort where
  Item : Int
  Desc : Bool
  At : Int
def as_i_Sort (x : PV) (K : S_i_Sort → Prop) : Prop := match x with
  | .agg [.int .i64 c0, .bool c1, .int .i64 c2] => K ⟨c0, c1, c2⟩
  | _ => False
def p_i_Sort (s : S_i_Sort) : List PV := [.int .i64 s.Item, .bool s.Desc, .int .i64 s.At]
structure S_i_Value where
  Kind : Int
  Int : Int
  Text : ByteArray
def as_i_Value (x : PV) (K : S_i_Value → Prop) : Prop := match x with
  | .agg [.int .i64 c0, .int .i64 c1, .str c2] => K ⟨c0, c1, c2⟩
  | _ => False
def p_i_Value (s : S_i_Value) : List PV := [.int .i64 s.Kind, .int .i64 s.Int, .str s.Text]
structure S_i_Term where
  Op : Int
  Num : Int
  Type_ : Int
  Value_Kind : Int
  Value_Int : Int
  Value_Text : ByteArray
  Kids : Arr
def as_i_Term (x : PV) (K : S_i_Term → Prop) : Prop := match x with
  | .agg [.int .i64 c0, .int .i64 c1, .int .i64 c2, .int .i64 c3, .int .i64 c4, .str c5, .arr c6m c6n c6g] => K ⟨c0, c1, c2, c3, c4, c5, ⟨c6m, c6n, c6g⟩⟩
  | _ => False
def p_i_Term (s : S_i_Term) : List PV := [.int .i64 s.Op, .int .i64 s.Num, .int .i64 s.Type_, .int .i64 s.Value_Kind, .int .i64 s.Value_Int, .str s.Value_Text, .arr s.Kids.m s.Kids.n s.Kids.g]
structure S_i_Param where
  Name : ByteArray
  Type_ : Int
def as_i_Param (x : PV) (K : S_i_Param → Prop) : Prop := match x with
  | .agg [.str c0, .int .i64 c1] => K ⟨c0, c1⟩
  | _ => False
def p_i_Param (s : S_i_Param) : List PV := [.str s.Name, .int .i64 s.Type_]
structure S_check_place where
  at' : Int
  kind : Int
  many : Int
def as_check_place (x : PV) (K : S_check_place → Prop) : Prop := match x with
  | .agg [.int .i64 c0, .int .i64 c1, .int .i64 c2] => K ⟨c0, c1, c2⟩
  | _ => False
def p_check_place (s : S_check_place) : List PV := [.int .i64 s.at', .int .i64 s.kind, .int .i64 s.many]
structure S_i_Proc where
  Name : ByteArray
  Params : Arr
  Body : Arr
  Rows : Int
  Bytes : Int
def as_i_Proc (x : PV) (K : S_i_Proc → Prop) : Prop := match x with
  | .agg [.str c0, .arr c1m c1n c1g, .arr c2m c2n c2g, .int .i64 c3, .int .i64 c4] => K ⟨c0, ⟨c1m, c1n, c1g⟩, ⟨c2m, c2n, c2g⟩, c3, c4⟩
  | _ => False
def p_i_Proc (s : S_i_Proc) : List PV := [.str s.Name, .arr s.Params.m s.Params.n s.Params.g, .arr s.Body.m s.Body.n s.Body.g, .int .i64 s.Rows, .int .i64 s.Bytes]
structure S_i_Expr where
  Kind : Int
  Op : Int
  Value_Kind : Int
  Value_Int : Int
  Value_Text : ByteArray
  Table : ByteArray
  Name : ByteArray
  Kids : Arr
  At : Int
def as_i_Expr (x : PV) (K : S_i_Expr → Prop) : Prop := match x with
  | .agg [.int .i64 c0, .int .i64 c1, .int .i64 c2, .int .i64 c3, .str c4, .str c5, .str c6, .arr c7m c7n c7g, .int .i64 c8] => K ⟨c0, c1, c2, c3, c4, c5, c6, ⟨c7m, c7n, c7g⟩, c8⟩
  | _ => False
def p_i_Expr (s : S_i_Expr) : List PV := [.int .i64 s.Kind, .int .i64 s.Op, .int .i64 s.Value_Kind, .int .i64 s.Value_Int, .str s.Value_Text, .str s.Table, .str s.Name, .arr s.Kids.m s.Kids.n s.Kids.g, .int .i64 s.At]
structure S_i_Set where
  Name : ByteArray
  Expr_Kind : Int
  Expr_Op : Int
  Expr_Value_Kind : Int
  Expr_Value_Int : Int
  Expr_Value_Text : ByteArray
  Expr_Table : ByteArray
  Expr_Name : ByteArray
  Expr_Kids : Arr
  Expr_At : Int
  At : Int
def as_i_Set (x : PV) (K : S_i_Set → Prop) : Prop := match x with
  | .agg [.str c0, .int .i64 c1, .int .i64 c2, .int .i64 c3, .int .i64 c4, .str c5, .str c6, .str c7, .arr c8m c8n c8g, .int .i64 c9, .int .i64 c10] => K ⟨c0, c1, c2, c3, c4, c5, c6, c7, ⟨c8m, c8n, c8g⟩, c9, c10⟩
  | _ => False
def p_i_Set (s : S_i_Set) : List PV := [.str s.Name, .int .i64 s.Expr_Kind, .int .i64 s.Expr_Op, .int .i64 s.Expr_Value_Kind, .int .i64 s.Expr_Value_Int, .str s.Expr_Value_Text, .str s.Expr_Table, .str s.Expr_Name, .arr s.Expr_Kids.m s.Expr_Kids.n s.Expr_Kids.g, .int .i64 s.Expr_At, .int .i64 s.At]
structure S_i_Column where
  Name : ByteArray
  Type_ : Int
  NotNull : Bool
def as_i_Column (x : PV) (K : S_i_Column → Prop) : Prop := match x with
  | .agg [.str c0, .int .i64 c1, .bool c2] => K ⟨c0, c1, c2⟩
  | _ => False
def p_i_Column (s : S_i_Column) : List PV := [.str s.Name, .int .i64 s.Type_, .bool s.NotNull]
structure S_arr2_string where
  e0 : ByteArray
  e1 : ByteArray
def as_arr2_string (x : PV) (K : S_arr2_string → Prop) : Prop := match x with
  | .agg [.str c0, .str c1] => K ⟨c0, c1⟩
  | _ => False
def p_arr2_string (s : S_arr2_string) : List PV := [.str s.e0, .str s.e1]
structure S_i_Index where
  Name : ByteArray
  Columns : Arr
  Unique : Bool
def as_i_Index (x : PV) (K : S_i_Index → Prop) : Prop := match x with
  | .agg [.str c0, .arr c1m c1n c1g, .bool c2] => K ⟨c0, ⟨c1m, c1n, c1g⟩, c2⟩
  | _ => False
def p_i_Index (s : S_i_Index) : List PV := [.str s.Name, .arr s.Columns.m s.Columns.n s.Columns.g, .bool s.Unique]
def asI_i64 (x : PV) (K : Int → Prop) : Prop := match x with
  | .int .i64 n => K n
  | _ => False
def asS (x : PV) (K : ByteArray → Prop) : Prop := match x with
  | .str s => K s
  | _ => False
def asB (x : PV) (K : Bool → Prop) : Prop := match x with
  | .bool b => K b
  | _ => False
def asA (x : PV) (K : Arr → Prop) : Prop := match x with
  | .arr m n g => K ⟨m, n, g⟩
  | _ => False
def vw : TypeId → PV → (List PV → Prop) → Prop := fun t => tab (fun _ _ => False) [(3, fun x K => asI_i64 x fun s => K [.int .i64 s]),
  (4, fun x K => asB x fun s => K [.bool s]),
  (9, fun x K => asS x fun s => K [.str s]),
  (65, fun x K => as_i_Table x fun s => K (p_i_Table s)),
  (72, fun x K => as_i_Sort x fun s => K (p_i_Sort s)),
  (77, fun x K => as_i_Term x fun s => K (p_i_Term s)),
  (80, fun x K => as_i_Param x fun s => K (p_i_Param s)),
  (82, fun x K => as_check_place x fun s => K (p_check_place s)),
  (98, fun x K => as_i_Proc x fun s => K (p_i_Proc s)),
  (101, fun x K => as_i_Expr x fun s => K (p_i_Expr s)),
  (103, fun x K => as_i_Set x fun s => K (p_i_Set s)),
  (109, fun x K => as_i_Column x fun s => K (p_i_Column s)),
  (124, fun x K => as_arr2_string x fun s => K (p_arr2_string s)),
  (135, fun x K => as_i_Index x fun s => K (p_i_Index s))] t
def pc_i_Catalog : Pat (List AV) S_i_Catalog := (qC pA (qC pA qN)).iso (fun a => ⟨a.1, a.2.1⟩) (fun s => (s.Tables, s.Procs, ())) (fun _ => rfl)
def pc_i_Stmt : Pat (List AV) S_i_Stmt := (qC (pI .i64) (qC pS (qC pS (qC pA (qC pA (qC pA (qC pB (qC pA (qC pA (qC pA (qC pA (qC (pI .i64) (qC (pI .i64) qN))))))))))))).iso (fun a => ⟨a.1, a.2.1, a.2.2.1, a.2.2.2.1, a.2.2.2.2.1, a.2.2.2.2.2.1, a.2.2.2.2.2.2.1, a.2.2.2.2.2.2.2.1, a.2.2.2.2.2.2.2.2.1, a.2.2.2.2.2.2.2.2.2.1, a.2.2.2.2.2.2.2.2.2.2.1, a.2.2.2.2.2.2.2.2.2.2.2.1, a.2.2.2.2.2.2.2.2.2.2.2.2.1⟩) (fun s => (s.Kind, s.Table, s.Join, s.On, s.Where, s.Items, s.Star, s.Sets, s.Groups, s.Sorts, s.Limit, s.At, s.JoinAt, ())) (fun _ => rfl)
def pc_i_Typed : Pat (List AV) S_i_Typed := (qC (pI .i64) (qC pA (qC pA (qC pA (qC pA (qC pA (qC pB (qC pA (qC pA (qC pA (qC pA qN))))))))))).iso (fun a => ⟨a.1, a.2.1, a.2.2.1, a.2.2.2.1, a.2.2.2.2.1, a.2.2.2.2.2.1, a.2.2.2.2.2.2.1, a.2.2.2.2.2.2.2.1, a.2.2.2.2.2.2.2.2.1, a.2.2.2.2.2.2.2.2.2.1, a.2.2.2.2.2.2.2.2.2.2.1⟩) (fun s => (s.Kind, s.Tables, s.On, s.Where, s.Items, s.Columns, s.Grouped, s.Groups, s.Sorts, s.Limit, s.Types, ())) (fun _ => rfl)
def pc_i_Fault : Pat (List AV) S_i_Fault := (qC (pI .i64) (qC (pI .i64) qN)).iso (fun a => ⟨a.1, a.2.1⟩) (fun s => (s.Code, s.At, ())) (fun _ => rfl)
def pc_ra : Pat (List AV) S_ra := (qC pA (qC pA (qC pA (qC pA (qC (pI .i64) (qC (pI .i64) qN)))))).iso (fun a => ⟨a.1, a.2.1, a.2.2.1, a.2.2.2.1, a.2.2.2.2.1, a.2.2.2.2.2.1⟩) (fun s => (s.c_Tables, s.c_Procs, s.params, s.tables, s.f_Code, s.f_At, ())) (fun _ => rfl)
def pc_i_Table : Pat (List AV) S_i_Table := (qC pS (qC pA (qC pA (qC (pI .i64) (qC pA qN))))).iso (fun a => ⟨a.1, a.2.1, a.2.2.1, a.2.2.2.1, a.2.2.2.2.1⟩) (fun s => (s.Name, s.Columns, s.Key, s.Part, s.Indexes, ())) (fun _ => rfl)
def pc_i_Sort : Pat (List AV) S_i_Sort := (qC (pI .i64) (qC pB (qC (pI .i64) qN))).iso (fun a => ⟨a.1, a.2.1, a.2.2.1⟩) (fun s => (s.Item, s.Desc, s.At, ())) (fun _ => rfl)
def pc_i_Value : Pat (List AV) S_i_Value := (qC (pI .i64) (qC (pI .i64) (qC pS qN))).iso (fun a => ⟨a.1, a.2.1, a.2.2.1⟩) (fun s => (s.Kind, s.Int, s.Text, ())) (fun _ => rfl)
def pc_i_Term : Pat (List AV) S_i_Term := (qC (pI .i64) (qC (pI .i64) (qC (pI .i64) (qC (pI .i64) (qC (pI .i64) (qC pS (qC pA qN))))))).iso (fun a => ⟨a.1, a.2.1, a.2.2.1, a.2.2.2.1, a.2.2.2.2.1, a.2.2.2.2.2.1, a.2.2.2.2.2.2.1⟩) (fun s => (s.Op, s.Num, s.Type_, s.Value_Kind, s.Value_Int, s.Value_Text, s.Kids, ())) (fun _ => rfl)
def pc_i_Param : Pat (List AV) S_i_Param := (qC pS (qC (pI .i64) qN)).iso (fun a => ⟨a.1, a.2.1⟩) (fun s => (s.Name, s.Type_, ())) (fun _ => rfl)
def pc_check_place : Pat (List AV) S_check_place := (qC (pI .i64) (qC (pI .i64) (qC (pI .i64) qN))).iso (fun a => ⟨a.1, a.2.1, a.2.2.1⟩) (fun s => (s.at', s.kind, s.many, ())) (fun _ => rfl)
def pc_i_Proc : Pat (List AV) S_i_Proc := (qC pS (qC pA (qC pA (qC (pI .i64) (qC (pI .i64) qN))))).iso (fun a => ⟨a.1, a.2.1, a.2.2.1, a.2.2.2.1, a.2.2.2.2.1⟩) (fun s => (s.Name, s.Params, s.Body, s.Rows, s.Bytes, ())) (fun _ => rfl)
def pc_i_Expr : Pat (List AV) S_i_Expr := (qC (pI .i64) (qC (pI .i64) (qC (pI .i64) (qC (pI .i64) (qC pS (qC pS (qC pS (qC pA (qC (pI .i64) qN))))))))).iso (fun a => ⟨a.1, a.2.1, a.2.2.1, a.2.2.2.1, a.2.2.2.2.1, a.2.2.2.2.2.1, a.2.2.2.2.2.2.1, a.2.2.2.2.2.2.2.1, a.2.2.2.2.2.2.2.2.1⟩) (fun s => (s.Kind, s.Op, s.Value_Kind, s.Value_Int, s.Value_Text, s.Table, s.Name, s.Kids, s.At, ())) (fun _ => rfl)
def pc_i_Set : Pat (List AV) S_i_Set := (qC pS (qC (pI .i64) (qC (pI .i64) (qC (pI .i64) (qC (pI .i64) (qC pS (qC pS (qC pS (qC pA (qC (pI .i64) (qC (pI .i64) qN))))))))))).iso (fun a => ⟨a.1, a.2.1, a.2.2.1, a.2.2.2.1, a.2.2.2.2.1, a.2.2.2.2.2.1, a.2.2.2.2.2.2.1, a.2.2.2.2.2.2.2.1, a.2.2.2.2.2.2.2.2.1, a.2.2.2.2.2.2.2.2.2.1, a.2.2.2.2.2.2.2.2.2.2.1⟩) (fun s => (s.Name, s.Expr_Kind, s.Expr_Op, s.Expr_Value_Kind, s.Expr_Value_Int, s.Expr_Value_Text, s.Expr_Table, s.Expr_Name, s.Expr_Kids, s.Expr_At, s.At, ())) (fun _ => rfl)
def pc_i_Column : Pat (List AV) S_i_Column := (qC pS (qC (pI .i64) (qC pB qN))).iso (fun a => ⟨a.1, a.2.1, a.2.2.1⟩) (fun s => (s.Name, s.Type_, s.NotNull, ())) (fun _ => rfl)
def pc_arr2_string : Pat (List AV) S_arr2_string := (qC pS (qC pS qN)).iso (fun a => ⟨a.1, a.2.1⟩) (fun s => (s.e0, s.e1, ())) (fun _ => rfl)
def pc_i_Index : Pat (List AV) S_i_Index := (qC pS (qC pA (qC pB qN))).iso (fun a => ⟨a.1, a.2.1, a.2.2.1⟩) (fun s => (s.Name, s.Columns, s.Unique, ())) (fun _ => rfl)
abbrev Y_check_Check := S_i_Catalog → Arr → S_i_Stmt → (S_i_Typed → S_i_Fault → Prop) → Prop
abbrev Y_check_begun := S_i_Catalog → Arr → Prop → (Arr → Arr → Int → Int → (List (PV × PV)) → (List (PV × PV)) → Prop) → Prop
abbrev Y_catalog_Right := S_i_Catalog → (Bool → Prop) → Prop
abbrev Y_catalog_met := ((List (PV × PV)) → Prop) → Prop
abbrev Y_catalog_mayTable := S_i_Table → (Bool → Prop) → Prop
abbrev Y_catalog_named := ByteArray → (Bool → Prop) → Prop
abbrev Y_strings_CF := ByteArray → (Bool → Prop) → Prop
abbrev Y_strings_IF := ByteArray → (Int → Prop) → Prop
abbrev Y_strings_indexFunc := ByteArray → Bool → (Int → Prop) → Prop
abbrev Y_catalog_named_1 := Int → (Bool → Prop) → Prop
abbrev Y_catalog_met_1 := ByteArray → (List (PV × PV)) → (Bool → (List (PV × PV)) → Prop) → Prop
abbrev Y_catalog_typed := Int → (Bool → Prop) → Prop
abbrev Y_catalog_places := Arr → Int → (Bool → Prop) → Prop
abbrev Y_sl_Contains_int_int := Arr → Int → (Bool → Prop) → Prop
abbrev Y_sl_Index_int_int := Arr → Int → (Int → Prop) → Prop
abbrev Y_catalog_mayProc := S_i_Proc → (Bool → Prop) → Prop
abbrev Y_sl_CF_string_string := Arr → (Bool → Prop) → Prop
abbrev Y_sl_IF_string_string := Arr → (Int → Prop) → Prop
abbrev Y_catalog_mayProc_1 := ByteArray → (Bool → Prop) → Prop
abbrev Y_check_rightParams := Arr → (Bool → Prop) → Prop
abbrev Y_lex_IsName := ByteArray → (Bool → Prop) → Prop
abbrev Y_lex_classOf := Int → (Int → Prop) → Prop
abbrev Y_strings_IndexByte := ByteArray → Int → (Int → Prop) → Prop
abbrev Y_internal_stringslite_IndexByte := ByteArray → Int → (Int → Prop) → Prop
abbrev Y_internal_bytealg_IndexByteString := ByteArray → Int → (Int → Prop) → Prop
abbrev Y_syntax_Right := S_i_Stmt → (Bool → Prop) → Prop
abbrev Y_syntax_rights := Arr → (Bool → Prop) → Prop
abbrev Y_sl_CF_i_Expr_i_Expr := Arr → (Bool → Prop) → Prop
abbrev Y_sl_IF_i_Expr_i_Expr := Arr → (Int → Prop) → Prop
abbrev Y_syntax_rights_1 := S_i_Expr → (Bool → Prop) → Prop
abbrev Y_syntax_rightExpr := S_i_Expr → Int → (Bool → Prop) → Prop
abbrev Y_syntax_shape := Int → (Int → Int → Int → Int → Prop) → Prop
abbrev Y_syntax_fields := S_i_Expr → (Bool → Prop) → Prop
abbrev Y_value_Right := S_i_Value → (Bool → Prop) → Prop
abbrev Y_sl_CF_i_Expr_i_Expr_v1 := Arr → Int → (Bool → Int → Prop) → Prop
abbrev Y_sl_IF_i_Expr_i_Expr_v1 := Arr → Int → (Int → Int → Prop) → Prop
abbrev Y_syntax_rightExpr_1 := S_i_Expr → Int → (Bool → Int → Prop) → Prop
abbrev Y_syntax_rightSelect := S_i_Stmt → (Bool → Prop) → Prop
abbrev Y_syntax_rightItem := S_i_Expr → (Bool → Prop) → Prop
abbrev Y_syntax_within := Int → (Bool → Prop) → Prop
abbrev Y_sl_CF_int_int := Arr → (Bool → Prop) → Prop
abbrev Y_sl_IF_int_int := Arr → (Int → Prop) → Prop
abbrev Y_syntax_rightSelect_1 := Int → (Bool → Prop) → Prop
abbrev Y_syntax_rightSets := Arr → (Bool → Prop) → Prop
abbrev Y_sl_CF_i_Set_i_Set := Arr → (Bool → Prop) → Prop
abbrev Y_sl_IF_i_Set_i_Set := Arr → (Int → Prop) → Prop
abbrev Y_syntax_rightSets_1 := S_i_Set → (Bool → Prop) → Prop
abbrev Y_cc_statement := S_i_Stmt → Arr → Arr → Int → Int → (List (PV × PV)) → (List (PV × PV)) → (S_i_Typed → Bool → Arr → Arr → Int → Int → (List (PV × PV)) → (List (PV × PV)) → Prop) → Prop
abbrev Y_cc_names := S_i_Stmt → Arr → Arr → Int → Int → (List (PV × PV)) → (List (PV × PV)) → (Arr → Bool → Arr → Arr → Int → Int → (List (PV × PV)) → (List (PV × PV)) → Prop) → Prop
abbrev Y_check_tableOf := S_i_Catalog → ByteArray → (Int → Prop) → Prop
abbrev Y_cc_fails := Int → Int → Arr → Arr → Int → Int → (List (PV × PV)) → (List (PV × PV)) → (Arr → Arr → Int → Int → (List (PV × PV)) → (List (PV × PV)) → Prop) → Prop
abbrev Y_cc_open := Arr → Arr → Arr → Int → Int → (List (PV × PV)) → (List (PV × PV)) → (Arr → Arr → Int → Int → (List (PV × PV)) → (List (PV × PV)) → Prop) → Prop
abbrev Y_cc_truths := Arr → Arr → Arr → Int → Int → (List (PV × PV)) → (List (PV × PV)) → (Arr → Bool → Arr → Arr → Int → Int → (List (PV × PV)) → (List (PV × PV)) → Prop) → Prop
abbrev Y_cc_of := Int → Arr → Arr → Int → Int → (List (PV × PV)) → (List (PV × PV)) → (Arr → Arr → Int → Int → (List (PV × PV)) → (List (PV × PV)) → Int → Prop) → Prop
abbrev Y_cc_of_1 := S_i_Expr → Arr → Arr → Int → Int → (List (PV × PV)) → (List (PV × PV)) → Int → (S_i_Term → Bool → Arr → Arr → Int → Int → (List (PV × PV)) → (List (PV × PV)) → Int → Prop) → Prop
abbrev Y_cc_term := S_i_Expr → Arr → Arr → Int → Int → (List (PV × PV)) → (List (PV × PV)) → (S_i_Term → Bool → Arr → Arr → Int → Int → (List (PV × PV)) → (List (PV × PV)) → Prop) → Prop
abbrev Y_check_wanted := Int → (Int → Prop) → Prop → Prop
abbrev Y_check_wanted_1 := Int → (Int → Prop) → Prop
abbrev Y_check_wanted_1_1 := Int → Int → (Bool → Int → Prop) → Prop
abbrev Y_check_unlike := (List PV) → (Bool → (List PV) → Prop) → Prop
abbrev Y_check_typeOf := Int → (List PV) → (Int → (List PV) → Prop) → Prop
abbrev Y_check_wanted_2 := Int → Prop → Prop
abbrev Y_cc_insert := S_i_Stmt → S_i_Table → Arr → Arr → Int → Int → (List (PV × PV)) → (List (PV × PV)) → Int → Arr → Arr → Arr → Bool → (Arr → Arr → Int → Int → (List (PV × PV)) → (List (PV × PV)) → Int → Arr → Arr → Arr → Bool → Prop) → (Bool → Arr → Arr → Int → Int → (List (PV × PV)) → (List (PV × PV)) → Int → Arr → Arr → Arr → Bool → (List PV) → Prop) → Prop
abbrev Y_cc_update := S_i_Stmt → S_i_Table → Arr → Arr → Int → Int → (List (PV × PV)) → (List (PV × PV)) → Int → Arr → Arr → Arr → Bool → (Bool → Arr → Arr → Int → Int → (List (PV × PV)) → (List (PV × PV)) → Int → Arr → Arr → Arr → Bool → (List PV) → (List PV) → Prop) → Prop
abbrev Y_check_columnOf := S_i_Table → ByteArray → (Int → Prop) → Prop
abbrev Y_cc_choose := S_i_Stmt → Arr → Arr → Int → Int → (List (PV × PV)) → (List (PV × PV)) → Int → Arr → Arr → Arr → Bool → (Arr → Arr → Int → Int → (List (PV × PV)) → (List (PV × PV)) → Int → Arr → Arr → Arr → Bool → (List PV) → Prop) → (Arr → Arr → Int → Int → (List (PV × PV)) → (List (PV × PV)) → Int → Arr → Arr → Arr → Bool → (List PV) → (List PV) → Prop) → (Arr → Arr → Int → Int → (List (PV × PV)) → (List (PV × PV)) → Int → Arr → Arr → Arr → Bool → (List PV) → (List PV) → (List PV) → Prop) → (Arr → Arr → Int → Int → (List (PV × PV)) → (List (PV × PV)) → Int → Arr → Arr → Arr → Bool → (List PV) → (List PV) → (List PV) → (List PV) → (List PV) → Prop) → Prop
abbrev Y_cc_groups := S_i_Stmt → Arr → Arr → Int → Int → (List (PV × PV)) → (List (PV × PV)) → Int → Arr → Arr → Arr → Bool → (Arr → Arr → Int → Int → (List (PV × PV)) → (List (PV × PV)) → Int → Arr → Arr → Arr → Bool → (List PV) → Prop) → (Arr → Arr → Int → Int → (List (PV × PV)) → (List (PV × PV)) → Int → Arr → Arr → Arr → Bool → (List PV) → (List (PV × PV)) → Prop) → Prop
abbrev Y_cc_star := S_i_Stmt → Arr → Arr → Int → Int → (List (PV × PV)) → (List (PV × PV)) → Int → Arr → Arr → Arr → Bool → (List PV) → (Arr → Arr → Int → Int → (List (PV × PV)) → (List (PV × PV)) → Int → Arr → Arr → Arr → Bool → (List PV) → Prop) → (Bool → Arr → Arr → Int → Int → (List (PV × PV)) → (List (PV × PV)) → Int → Arr → Arr → Arr → Bool → (List PV) → (List PV) → Prop) → Prop
abbrev Y_cc_items := S_i_Stmt → Arr → Arr → Int → Int → (List (PV × PV)) → (List (PV × PV)) → Int → Arr → Arr → Arr → Bool → (List PV) → (List (PV × PV)) → (Bool → Arr → Arr → Int → Int → (List (PV × PV)) → (List (PV × PV)) → Int → Arr → Arr → Arr → Bool → (List PV) → (List (PV × PV)) → (List PV) → Prop) → Prop
abbrev Y_check_aggregate := Int → (Bool → Prop) → Prop
abbrev Y_ref13_Check := S_i_Catalog → Arr → S_i_Stmt → (S_i_Typed → S_i_Fault → Prop) → Prop
abbrev Y_ref08_Right := S_i_Catalog → (Bool → Prop) → Prop
abbrev Y_ref08_MayTable := S_i_Table → (Bool → Prop) → Prop
abbrev Y_ref08_Name := ByteArray → (Bool → Prop) → Prop
abbrev Y_ref08_names := (List PV) → (Bool → (List PV) → Prop) → Prop
abbrev Y_ref08_places := Arr → Int → (Bool → Prop) → Prop
abbrev Y_ref08_MayProc := S_i_Proc → (Bool → Prop) → Prop
abbrev Y_ref08_in := Int → Int → Int → (Bool → Prop) → Prop
abbrev Y_ref13_Params := Arr → (Bool → Prop) → Prop
abbrev Y_ref10_IsName := ByteArray → (Bool → Prop) → Prop
abbrev Y_ref10_small := Int → (Bool → Prop) → Prop
abbrev Y_ref10_digit := Int → (Bool → Prop) → Prop
abbrev Y_ref11_Right := S_i_Stmt → (Bool → Prop) → Prop
abbrev Y_ref11_rights := Arr → (Bool → Prop) → Prop
abbrev Y_ref11_RightExpr := S_i_Expr → Int → (Bool → Prop) → Prop
abbrev Y_ref11_kids := Int → (Int → Int → Prop) → Prop
abbrev Y_ref11_fields := S_i_Expr → (Bool → Prop) → Prop
abbrev Y_ref01_Right := S_i_Value → (Bool → Prop) → Prop
abbrev Y_ref11_rightSelect := S_i_Stmt → (Bool → Prop) → Prop
abbrev Y_ref11_rightItem := S_i_Expr → (Bool → Prop) → Prop
abbrev Y_ra_names := S_i_Stmt → Arr → Arr → Arr → Int → Int → (Arr → Arr → Arr → Arr → Int → Int → Prop) → Prop
abbrev Y_ref13_table := S_i_Catalog → ByteArray → (Int → Prop) → Prop
abbrev Y_ra_fails := Int → Int → Arr → Arr → Arr → Int → Int → (Arr → Arr → Arr → Int → Int → Prop) → Prop
abbrev Y_ra_truths := Arr → S_ra → (Arr → S_ra → Prop) → Prop
abbrev Y_ra_of := S_i_Expr → Int → S_ra → (S_i_Term → S_ra → Prop) → Prop
abbrev Y_ra_asks := S_i_Expr → S_ra → (S_i_Term → S_ra → Prop) → Prop
abbrev Y_ra_bad := S_ra → (Bool → S_ra → Prop) → Prop
abbrev Y_ra_param := S_i_Expr → S_ra → (S_i_Term → S_ra → Prop) → Prop
abbrev Y_ra_fails_v1 := Int → Int → S_ra → (S_ra → Prop) → Prop
abbrev Y_ra_column := S_i_Expr → S_ra → (S_i_Term → S_ra → Prop) → Prop
abbrev Y_ref13_columnOf := S_i_Table → ByteArray → (Int → Prop) → Prop
abbrev Y_ref13_Long := S_i_Catalog → Arr → (Arr → Prop) → Prop
abbrev Y_ref13_want := Int → (Int → Prop) → Prop
abbrev Y_ref13_typeOf := Int → (List PV) → (Int → (List PV) → Prop) → Prop
abbrev Y_ra_insert := S_i_Stmt → S_i_Table → S_ra → (Arr → S_ra → Prop) → Prop
abbrev Y_ra_update := S_i_Stmt → S_i_Table → S_ra → (Arr → Arr → S_ra → Prop) → Prop
abbrev Y_ra_choose := S_i_Stmt → Int → Arr → Arr → Arr → Bool → S_ra → (S_i_Typed → S_ra → Prop) → Prop
abbrev Y_ra_groups := S_i_Stmt → S_ra → (Arr → S_ra → Prop) → Prop
abbrev Y_ref13_among_v1 := Int → (List PV) → (Bool → (List PV) → Prop) → Prop
abbrev Y_ra_star := S_i_Stmt → S_ra → (Arr → S_ra → Prop) → Prop
abbrev Y_ra_items := S_i_Stmt → Arr → S_ra → (Arr → Bool → S_ra → Prop) → Prop
abbrev Y_ref13_aggregate := Int → (Bool → Prop) → Prop
abbrev Y_ref13_among := Arr → Int → (Bool → Prop) → Prop
abbrev Y_law13_same := S_i_Typed → S_i_Typed → (Bool → Prop) → Prop
abbrev Y_law13_sameTerms := Arr → Arr → (Bool → Prop) → Prop
abbrev Y_law13_ints := Arr → Arr → (Bool → Prop) → Prop
structure Tab where
  fuel : Nat
  f_check_Check : Y_check_Check
  f_check_begun : Y_check_begun
  f_catalog_Right : Y_catalog_Right
  f_catalog_met : Y_catalog_met
  f_catalog_mayTable : Y_catalog_mayTable
  f_catalog_named : Y_catalog_named
  f_strings_CF : Y_strings_CF
  f_strings_IF : Y_strings_IF
  f_strings_indexFunc : Y_strings_indexFunc
  f_catalog_named_1 : Y_catalog_named_1
  f_catalog_met_1 : Y_catalog_met_1
  f_catalog_typed : Y_catalog_typed
  f_catalog_places : Y_catalog_places
  f_sl_Contains_int_int : Y_sl_Contains_int_int
  f_sl_Index_int_int : Y_sl_Index_int_int
  f_catalog_mayProc : Y_catalog_mayProc
  f_sl_CF_string_string : Y_sl_CF_string_string
  f_sl_IF_string_string : Y_sl_IF_string_string
  f_catalog_mayProc_1 : Y_catalog_mayProc_1
  f_check_rightParams : Y_check_rightParams
  f_lex_IsName : Y_lex_IsName
  f_lex_classOf : Y_lex_classOf
  f_strings_IndexByte : Y_strings_IndexByte
  f_internal_stringslite_IndexByte : Y_internal_stringslite_IndexByte
  f_internal_bytealg_IndexByteString : Y_internal_bytealg_IndexByteString
  f_syntax_Right : Y_syntax_Right
  f_syntax_rights : Y_syntax_rights
  f_sl_CF_i_Expr_i_Expr : Y_sl_CF_i_Expr_i_Expr
  f_sl_IF_i_Expr_i_Expr : Y_sl_IF_i_Expr_i_Expr
  f_syntax_rights_1 : Y_syntax_rights_1
  f_syntax_rightExpr : Y_syntax_rightExpr
  f_syntax_shape : Y_syntax_shape
  f_syntax_fields : Y_syntax_fields
  f_value_Right : Y_value_Right
  f_sl_CF_i_Expr_i_Expr_v1 : Y_sl_CF_i_Expr_i_Expr_v1
  f_sl_IF_i_Expr_i_Expr_v1 : Y_sl_IF_i_Expr_i_Expr_v1
  f_syntax_rightExpr_1 : Y_syntax_rightExpr_1
  f_syntax_rightSelect : Y_syntax_rightSelect
  f_syntax_rightItem : Y_syntax_rightItem
  f_syntax_within : Y_syntax_within
  f_sl_CF_int_int : Y_sl_CF_int_int
  f_sl_IF_int_int : Y_sl_IF_int_int
  f_syntax_rightSelect_1 : Y_syntax_rightSelect_1
  f_syntax_rightSets : Y_syntax_rightSets
  f_sl_CF_i_Set_i_Set : Y_sl_CF_i_Set_i_Set
  f_sl_IF_i_Set_i_Set : Y_sl_IF_i_Set_i_Set
  f_syntax_rightSets_1 : Y_syntax_rightSets_1
  f_cc_statement : Y_cc_statement
  f_cc_names : Y_cc_names
  f_check_tableOf : Y_check_tableOf
  f_cc_fails : Y_cc_fails
  f_cc_open : Y_cc_open
  f_cc_truths : Y_cc_truths
  f_cc_of : Y_cc_of
  f_cc_of_1 : Y_cc_of_1
  f_cc_term : Y_cc_term
  f_check_wanted : Y_check_wanted
  f_check_wanted_1 : Y_check_wanted_1
  f_check_wanted_1_1 : Y_check_wanted_1_1
  f_check_unlike : Y_check_unlike
  f_check_typeOf : Y_check_typeOf
  f_check_wanted_2 : Y_check_wanted_2
  f_cc_insert : Y_cc_insert
  f_cc_update : Y_cc_update
  f_check_columnOf : Y_check_columnOf
  f_cc_choose : Y_cc_choose
  f_cc_groups : Y_cc_groups
  f_cc_star : Y_cc_star
  f_cc_items : Y_cc_items
  f_check_aggregate : Y_check_aggregate
  f_ref13_Check : Y_ref13_Check
  f_ref08_Right : Y_ref08_Right
  f_ref08_MayTable : Y_ref08_MayTable
  f_ref08_Name : Y_ref08_Name
  f_ref08_names : Y_ref08_names
  f_ref08_places : Y_ref08_places
  f_ref08_MayProc : Y_ref08_MayProc
  f_ref08_in : Y_ref08_in
  f_ref13_Params : Y_ref13_Params
  f_ref10_IsName : Y_ref10_IsName
  f_ref10_small : Y_ref10_small
  f_ref10_digit : Y_ref10_digit
  f_ref11_Right : Y_ref11_Right
  f_ref11_rights : Y_ref11_rights
  f_ref11_RightExpr : Y_ref11_RightExpr
  f_ref11_kids : Y_ref11_kids
  f_ref11_fields : Y_ref11_fields
  f_ref01_Right : Y_ref01_Right
  f_ref11_rightSelect : Y_ref11_rightSelect
  f_ref11_rightItem : Y_ref11_rightItem
  f_ra_names : Y_ra_names
  f_ref13_table : Y_ref13_table
  f_ra_fails : Y_ra_fails
  f_ra_truths : Y_ra_truths
  f_ra_of : Y_ra_of
  f_ra_asks : Y_ra_asks
  f_ra_bad : Y_ra_bad
  f_ra_param : Y_ra_param
  f_ra_fails_v1 : Y_ra_fails_v1
  f_ra_column : Y_ra_column
  f_ref13_columnOf : Y_ref13_columnOf
  f_ref13_Long : Y_ref13_Long
  f_ref13_want : Y_ref13_want
  f_ref13_typeOf : Y_ref13_typeOf
  f_ra_insert : Y_ra_insert
  f_ra_update : Y_ra_update
  f_ra_choose : Y_ra_choose
  f_ra_groups : Y_ra_groups
  f_ref13_among_v1 : Y_ref13_among_v1
  f_ra_star : Y_ra_star
  f_ra_items : Y_ra_items
  f_ref13_aggregate : Y_ref13_aggregate
  f_ref13_among : Y_ref13_among
  f_law13_same : Y_law13_same
  f_law13_sameTerms : Y_law13_sameTerms
  f_law13_ints : Y_law13_ints
end
end Go.RX
