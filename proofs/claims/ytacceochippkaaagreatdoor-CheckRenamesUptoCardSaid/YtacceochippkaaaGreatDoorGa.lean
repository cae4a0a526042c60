/- Printed by a program of the prover: the functions that the law reaches, as functions in Lean, and that the model does what they say. No condition. -/
import Derived.Test.YtacceochippkaaaGreatDoorRd
import Derived.KernelRfl
import Derived.Test.YtacceochippkaaaGreatDoorProg
set_option linter.all false
namespace Go.RX
noncomputable section
open Go.Proofs
abbrev W (n : Int) : Int := IntKind.wrap .i64 n
def lst (m : Bool) (l : List PV) : Arr := ⟨m, l.length, fun j => l.getD j .nilp⟩
structure S_api_Catalog where
  Tables : Arr
  Procs : Arr
def as_api_Catalog (x : PV) (K : S_api_Catalog → Prop) : Prop := match x with
  | .agg [.arr c0m c0n c0g, .arr c1m c1n c1g] => K ⟨⟨c0m, c0n, c0g⟩, ⟨c1m, c1n, c1g⟩⟩
  | _ => False
def p_api_Catalog (s : S_api_Catalog) : List PV := [.arr s.Tables.m s.Tables.n s.Tables.g, .arr s.Procs.m s.Procs.n s.Procs.g]
structure S_api_Typed where
  Kind : Int
  Tables : Arr
  On : Arr
  Where : Arr
  Items : Arr
  Columns : Arr
  Grouped : Bool
  Groups : Arr
  Sorts : Arr
  Limit : Arr
  Types : Arr
def as_api_Typed (x : PV) (K : S_api_Typed → Prop) : Prop := match x with
  | .agg [.int .i64 c0, .arr c1m c1n c1g, .arr c2m c2n c2g, .arr c3m c3n c3g, .arr c4m c4n c4g, .arr c5m c5n c5g, .bool c6, .arr c7m c7n c7g, .arr c8m c8n c8g, .arr c9m c9n c9g, .arr c10m c10n c10g] => K ⟨c0, ⟨c1m, c1n, c1g⟩, ⟨c2m, c2n, c2g⟩, ⟨c3m, c3n, c3g⟩, ⟨c4m, c4n, c4g⟩, ⟨c5m, c5n, c5g⟩, c6, ⟨c7m, c7n, c7g⟩, ⟨c8m, c8n, c8g⟩, ⟨c9m, c9n, c9g⟩, ⟨c10m, c10n, c10g⟩⟩
  | _ => False
def p_api_Typed (s : S_api_Typed) : List PV := [.int .i64 s.Kind, .arr s.Tables.m s.Tables.n s.Tables.g, .arr s.On.m s.On.n s.On.g, .arr s.Where.m s.Where.n s.Where.g, .arr s.Items.m s.Items.n s.Items.g, .arr s.Columns.m s.Columns.n s.Columns.g, .bool s.Grouped, .arr s.Groups.m s.Groups.n s.Groups.g, .arr s.Sorts.m s.Sorts.n s.Sorts.g, .arr s.Limit.m s.Limit.n s.Limit.g, .arr s.Types.m s.Types.n s.Types.g]
structure S_api_Stmt where
  Kind : Int
  Table : ByteArray
  Join : ByteArray
  On : Arr
  Where : Arr
  Items : Arr
  Star : Bool
  Sets : Arr
  Groups : Arr
  Sorts : Arr
  Limit : Arr
  At : Int
  JoinAt : Int
def as_api_Stmt (x : PV) (K : S_api_Stmt → Prop) : Prop := match x with
  | .agg [.int .i64 c0, .str c1, .str c2, .arr c3m c3n c3g, .arr c4m c4n c4g, .arr c5m c5n c5g, .bool c6, .arr c7m c7n c7g, .arr c8m c8n c8g, .arr c9m c9n c9g, .arr c10m c10n c10g, .int .i64 c11, .int .i64 c12] => K ⟨c0, c1, c2, ⟨c3m, c3n, c3g⟩, ⟨c4m, c4n, c4g⟩, ⟨c5m, c5n, c5g⟩, c6, ⟨c7m, c7n, c7g⟩, ⟨c8m, c8n, c8g⟩, ⟨c9m, c9n, c9g⟩, ⟨c10m, c10n, c10g⟩, c11, c12⟩
  | _ => False
def p_api_Stmt (s : S_api_Stmt) : List PV := [.int .i64 s.Kind, .str s.Table, .str s.Join, .arr s.On.m s.On.n s.On.g, .arr s.Where.m s.Where.n s.Where.g, .arr s.Items.m s.Items.n s.Items.g, .bool s.Star, .arr s.Sets.m s.Sets.n s.Sets.g, .arr s.Groups.m s.Groups.n s.Groups.g, .arr s.Sorts.m s.Sorts.n s.Sorts.g, .arr s.Limit.m s.Limit.n s.Limit.g, .int .i64 s.At, .int .i64 s.JoinAt]
structure S_api_Fault where
  Code : Int
  At : Int
def as_api_Fault (x : PV) (K : S_api_Fault → Prop) : Prop := match x with
  | .agg [.int .i64 c0, .int .i64 c1] => K ⟨c0, c1⟩
  | _ => False
def p_api_Fault (s : S_api_Fault) : List PV := [.int .i64 s.Code, .int .i64 s.At]
structure S_api_Table where
  Name : ByteArray
  Columns : Arr
  Key : Arr
  Part : Int
  Indexes : Arr
def as_api_Table (x : PV) (K : S_api_Table → Prop) : Prop := match x with
  | .agg [.str c0, .arr c1m c1n c1g, .arr c2m c2n c2g, .int .i64 c3, .arr c4m c4n c4g] => K ⟨c0, ⟨c1m, c1n, c1g⟩, ⟨c2m, c2n, c2g⟩, c3, ⟨c4m, c4n, c4g⟩⟩
  | _ => False
def p_api_Table (s : S_api_Table) : List PV := [.str s.Name, .arr s.Columns.m s.Columns.n s.Columns.g, .arr s.Key.m s.Key.n s.Key.g, .int .i64 s.Part, .arr s.Indexes.m s.Indexes.n s.Indexes.g]
structure S_api_Column where
  Name : ByteArray
  Type_ : Int
  NotNull : Bool
def as_api_Column (x : PV) (K : S_api_Column → Prop) : Prop := match x with
  | .agg [.str c0, .int .i64 c1, .bool c2] => K ⟨c0, c1, c2⟩
  | _ => False
def p_api_Column (s : S_api_Column) : List PV := [.str s.Name, .int .i64 s.Type_, .bool s.NotNull]
structure S_api_Param where
  Name : ByteArray
  Type_ : Int
def as_api_Param (x : PV) (K : S_api_Param → Prop) : Prop := match x with
  | .agg [.str c0, .int .i64 c1] => K ⟨c0, c1⟩
  | _ => False
def p_api_Param (s : S_api_Param) : List PV := [.str s.Name, .int .i64 s.Type_]
structure S_api_Value where
  Kind : Int
  Int : Int
  Text : ByteArray
def as_api_Value (x : PV) (K : S_api_Value → Prop) : Prop := match x with
  | .agg [.int .i64 c0, .int .i64 c1, .str c2] => K ⟨c0, c1, c2⟩
  | _ => False
def p_api_Value (s : S_api_Value) : List PV := [.int .i64 s.Kind, .int .i64 s.Int, .str s.Text]
structure S_api_Term where
  Op : Int
  Num : Int
  Type_ : Int
  Value_Kind : Int
  Value_Int : Int
  Value_Text : ByteArray
  Kids : Arr
def as_api_Term (x : PV) (K : S_api_Term → Prop) : Prop := match x with
  | .agg [.int .i64 c0, .int .i64 c1, .int .i64 c2, .int .i64 c3, .int .i64 c4, .str c5, .arr c6m c6n c6g] => K ⟨c0, c1, c2, c3, c4, c5, ⟨c6m, c6n, c6g⟩⟩
  | _ => False
def p_api_Term (s : S_api_Term) : List PV := [.int .i64 s.Op, .int .i64 s.Num, .int .i64 s.Type_, .int .i64 s.Value_Kind, .int .i64 s.Value_Int, .str s.Value_Text, .arr s.Kids.m s.Kids.n s.Kids.g]
structure S_api_Expr where
  Kind : Int
  Op : Int
  Value_Kind : Int
  Value_Int : Int
  Value_Text : ByteArray
  Table : ByteArray
  Name : ByteArray
  Kids : Arr
  At : Int
def as_api_Expr (x : PV) (K : S_api_Expr → Prop) : Prop := match x with
  | .agg [.int .i64 c0, .int .i64 c1, .int .i64 c2, .int .i64 c3, .str c4, .str c5, .str c6, .arr c7m c7n c7g, .int .i64 c8] => K ⟨c0, c1, c2, c3, c4, c5, c6, ⟨c7m, c7n, c7g⟩, c8⟩
  | _ => False
def p_api_Expr (s : S_api_Expr) : List PV := [.int .i64 s.Kind, .int .i64 s.Op, .int .i64 s.Value_Kind, .int .i64 s.Value_Int, .str s.Value_Text, .str s.Table, .str s.Name, .arr s.Kids.m s.Kids.n s.Kids.g, .int .i64 s.At]
structure S_api_Set where
  Name : ByteArray
  Expr_Kind : Int
  Expr_Op : Int
  Expr_Value_Kind : Int
  Expr_Value_Int : Int
  Expr_Value_Text : ByteArray
  Expr_Table : ByteArray
  Expr_Name : ByteArray
  Expr_Kids : Arr
  Expr_At : Int
  At : Int
def as_api_Set (x : PV) (K : S_api_Set → Prop) : Prop := match x with
  | .agg [.str c0, .int .i64 c1, .int .i64 c2, .int .i64 c3, .int .i64 c4, .str c5, .str c6, .str c7, .arr c8m c8n c8g, .int .i64 c9, .int .i64 c10] => K ⟨c0, c1, c2, c3, c4, c5, c6, c7, ⟨c8m, c8n, c8g⟩, c9, c10⟩
  | _ => False
def p_api_Set (s : S_api_Set) : List PV := [.str s.Name, .int .i64 s.Expr_Kind, .int .i64 s.Expr_Op, .int .i64 s.Expr_Value_Kind, .int .i64 s.Expr_Value_Int, .str s.Expr_Value_Text, .str s.Expr_Table, .str s.Expr_Name, .arr s.Expr_Kids.m s.Expr_Kids.n s.Expr_Kids.g, .int .i64 s.Expr_At, .int .i64 s.At]
structure S_api_Sort where
  Item : Int
  Desc : Bool
  At : Int
def as_api_Sort (x : PV) (K : S_api_Sort → Prop) : Prop := match x with
  | .agg [.int .i64 c0, .bool c1, .int .i64 c2] => K ⟨c0, c1, c2⟩
  | _ => False
def p_api_Sort (s : S_api_Sort) : List PV := [.int .i64 s.Item, .bool s.Desc, .int .i64 s.At]
structure S_arr2_string where
  e0 : ByteArray
  e1 : ByteArray
def as_arr2_string (x : PV) (K : S_arr2_string → Prop) : Prop := match x with
  | .agg [.str c0, .str c1] => K ⟨c0, c1⟩
  | _ => False
def p_arr2_string (s : S_arr2_string) : List PV := [.str s.e0, .str s.e1]
structure S_check_place where
  at' : Int
  kind : Int
  many : Int
def as_check_place (x : PV) (K : S_check_place → Prop) : Prop := match x with
  | .agg [.int .i64 c0, .int .i64 c1, .int .i64 c2] => K ⟨c0, c1, c2⟩
  | _ => False
def p_check_place (s : S_check_place) : List PV := [.int .i64 s.at', .int .i64 s.kind, .int .i64 s.many]
structure S_api_Proc where
  Name : ByteArray
  Params : Arr
  Body : Arr
  Rows : Int
  Bytes : Int
def as_api_Proc (x : PV) (K : S_api_Proc → Prop) : Prop := match x with
  | .agg [.str c0, .arr c1m c1n c1g, .arr c2m c2n c2g, .int .i64 c3, .int .i64 c4] => K ⟨c0, ⟨c1m, c1n, c1g⟩, ⟨c2m, c2n, c2g⟩, c3, c4⟩
  | _ => False
def p_api_Proc (s : S_api_Proc) : List PV := [.str s.Name, .arr s.Params.m s.Params.n s.Params.g, .arr s.Body.m s.Body.n s.Body.g, .int .i64 s.Rows, .int .i64 s.Bytes]
structure S_api_Index where
  Name : ByteArray
  Columns : Arr
  Unique : Bool
def as_api_Index (x : PV) (K : S_api_Index → Prop) : Prop := match x with
  | .agg [.str c0, .arr c1m c1n c1g, .bool c2] => K ⟨c0, ⟨c1m, c1n, c1g⟩, c2⟩
  | _ => False
def p_api_Index (s : S_api_Index) : List PV := [.str s.Name, .arr s.Columns.m s.Columns.n s.Columns.g, .bool s.Unique]
def asI_i64 (x : PV) (K : Int → Prop) : Prop := match x with
  | .int .i64 n => K n
  | _ => False
def asS (x : PV) (K : ByteArray → Prop) : Prop := match x with
  | .str s => K s
  | _ => False
def asB (x : PV) (K : Bool → Prop) : Prop := match x with
  | .bool b => K b
  | _ => False
def asA (x : PV) (K : Arr → Prop) : Prop := match x with
  | .arr m n g => K ⟨m, n, g⟩
  | _ => False
def vw : TypeId → PV → (List PV → Prop) → Prop := fun t => tab (fun _ _ => False) [(3, fun x K => asI_i64 x fun s => K [.int .i64 s]),
  (4, fun x K => asB x fun s => K [.bool s]),
  (9, fun x K => asS x fun s => K [.str s]),
  (49, fun x K => as_api_Table x fun s => K (p_api_Table s)),
  (51, fun x K => as_api_Column x fun s => K (p_api_Column s)),
  (53, fun x K => as_api_Param x fun s => K (p_api_Param s)),
  (64, fun x K => as_api_Term x fun s => K (p_api_Term s)),
  (93, fun x K => as_api_Expr x fun s => K (p_api_Expr s)),
  (107, fun x K => as_api_Set x fun s => K (p_api_Set s)),
  (110, fun x K => as_api_Sort x fun s => K (p_api_Sort s)),
  (120, fun x K => as_arr2_string x fun s => K (p_arr2_string s)),
  (127, fun x K => as_check_place x fun s => K (p_check_place s)),
  (142, fun x K => as_api_Proc x fun s => K (p_api_Proc s)),
  (190, fun x K => as_api_Index x fun s => K (p_api_Index s))] t
def pc_api_Catalog : Pat (List AV) S_api_Catalog := (pCons pA (pCons pA pNil)).iso (fun a => ⟨a.1, a.2.1⟩) (fun s => (s.Tables, s.Procs, ())) (fun _ => rfl)
def pc_api_Typed : Pat (List AV) S_api_Typed := (pCons (pI .i64) (pCons pA (pCons pA (pCons pA (pCons pA (pCons pA (pCons pB (pCons pA (pCons pA (pCons pA (pCons pA pNil))))))))))).iso (fun a => ⟨a.1, a.2.1, a.2.2.1, a.2.2.2.1, a.2.2.2.2.1, a.2.2.2.2.2.1, a.2.2.2.2.2.2.1, a.2.2.2.2.2.2.2.1, a.2.2.2.2.2.2.2.2.1, a.2.2.2.2.2.2.2.2.2.1, a.2.2.2.2.2.2.2.2.2.2.1⟩) (fun s => (s.Kind, s.Tables, s.On, s.Where, s.Items, s.Columns, s.Grouped, s.Groups, s.Sorts, s.Limit, s.Types, ())) (fun _ => rfl)
def pc_api_Stmt : Pat (List AV) S_api_Stmt := (pCons (pI .i64) (pCons pS (pCons pS (pCons pA (pCons pA (pCons pA (pCons pB (pCons pA (pCons pA (pCons pA (pCons pA (pCons (pI .i64) (pCons (pI .i64) pNil))))))))))))).iso (fun a => ⟨a.1, a.2.1, a.2.2.1, a.2.2.2.1, a.2.2.2.2.1, a.2.2.2.2.2.1, a.2.2.2.2.2.2.1, a.2.2.2.2.2.2.2.1, a.2.2.2.2.2.2.2.2.1, a.2.2.2.2.2.2.2.2.2.1, a.2.2.2.2.2.2.2.2.2.2.1, a.2.2.2.2.2.2.2.2.2.2.2.1, a.2.2.2.2.2.2.2.2.2.2.2.2.1⟩) (fun s => (s.Kind, s.Table, s.Join, s.On, s.Where, s.Items, s.Star, s.Sets, s.Groups, s.Sorts, s.Limit, s.At, s.JoinAt, ())) (fun _ => rfl)
def pc_api_Fault : Pat (List AV) S_api_Fault := (pCons (pI .i64) (pCons (pI .i64) pNil)).iso (fun a => ⟨a.1, a.2.1⟩) (fun s => (s.Code, s.At, ())) (fun _ => rfl)
def pc_api_Table : Pat (List AV) S_api_Table := (pCons pS (pCons pA (pCons pA (pCons (pI .i64) (pCons pA pNil))))).iso (fun a => ⟨a.1, a.2.1, a.2.2.1, a.2.2.2.1, a.2.2.2.2.1⟩) (fun s => (s.Name, s.Columns, s.Key, s.Part, s.Indexes, ())) (fun _ => rfl)
def pc_api_Column : Pat (List AV) S_api_Column := (pCons pS (pCons (pI .i64) (pCons pB pNil))).iso (fun a => ⟨a.1, a.2.1, a.2.2.1⟩) (fun s => (s.Name, s.Type_, s.NotNull, ())) (fun _ => rfl)
def pc_api_Param : Pat (List AV) S_api_Param := (pCons pS (pCons (pI .i64) pNil)).iso (fun a => ⟨a.1, a.2.1⟩) (fun s => (s.Name, s.Type_, ())) (fun _ => rfl)
def pc_api_Value : Pat (List AV) S_api_Value := (pCons (pI .i64) (pCons (pI .i64) (pCons pS pNil))).iso (fun a => ⟨a.1, a.2.1, a.2.2.1⟩) (fun s => (s.Kind, s.Int, s.Text, ())) (fun _ => rfl)
def pc_api_Term : Pat (List AV) S_api_Term := (pCons (pI .i64) (pCons (pI .i64) (pCons (pI .i64) (pCons (pI .i64) (pCons (pI .i64) (pCons pS (pCons pA pNil))))))).iso (fun a => ⟨a.1, a.2.1, a.2.2.1, a.2.2.2.1, a.2.2.2.2.1, a.2.2.2.2.2.1, a.2.2.2.2.2.2.1⟩) (fun s => (s.Op, s.Num, s.Type_, s.Value_Kind, s.Value_Int, s.Value_Text, s.Kids, ())) (fun _ => rfl)
def pc_api_Expr : Pat (List AV) S_api_Expr := (pCons (pI .i64) (pCons (pI .i64) (pCons (pI .i64) (pCons (pI .i64) (pCons pS (pCons pS (pCons pS (pCons pA (pCons (pI .i64) pNil))))))))).iso (fun a => ⟨a.1, a.2.1, a.2.2.1, a.2.2.2.1, a.2.2.2.2.1, a.2.2.2.2.2.1, a.2.2.2.2.2.2.1, a.2.2.2.2.2.2.2.1, a.2.2.2.2.2.2.2.2.1⟩) (fun s => (s.Kind, s.Op, s.Value_Kind, s.Value_Int, s.Value_Text, s.Table, s.Name, s.Kids, s.At, ())) (fun _ => rfl)
def pc_api_Set : Pat (List AV) S_api_Set := (pCons pS (pCons (pI .i64) (pCons (pI .i64) (pCons (pI .i64) (pCons (pI .i64) (pCons pS (pCons pS (pCons pS (pCons pA (pCons (pI .i64) (pCons (pI .i64) pNil))))))))))).iso (fun a => ⟨a.1, a.2.1, a.2.2.1, a.2.2.2.1, a.2.2.2.2.1, a.2.2.2.2.2.1, a.2.2.2.2.2.2.1, a.2.2.2.2.2.2.2.1, a.2.2.2.2.2.2.2.2.1, a.2.2.2.2.2.2.2.2.2.1, a.2.2.2.2.2.2.2.2.2.2.1⟩) (fun s => (s.Name, s.Expr_Kind, s.Expr_Op, s.Expr_Value_Kind, s.Expr_Value_Int, s.Expr_Value_Text, s.Expr_Table, s.Expr_Name, s.Expr_Kids, s.Expr_At, s.At, ())) (fun _ => rfl)
def pc_api_Sort : Pat (List AV) S_api_Sort := (pCons (pI .i64) (pCons pB (pCons (pI .i64) pNil))).iso (fun a => ⟨a.1, a.2.1, a.2.2.1⟩) (fun s => (s.Item, s.Desc, s.At, ())) (fun _ => rfl)
def pc_arr2_string : Pat (List AV) S_arr2_string := (pCons pS (pCons pS pNil)).iso (fun a => ⟨a.1, a.2.1⟩) (fun s => (s.e0, s.e1, ())) (fun _ => rfl)
def pc_check_place : Pat (List AV) S_check_place := (pCons (pI .i64) (pCons (pI .i64) (pCons (pI .i64) pNil))).iso (fun a => ⟨a.1, a.2.1, a.2.2.1⟩) (fun s => (s.at', s.kind, s.many, ())) (fun _ => rfl)
def pc_api_Proc : Pat (List AV) S_api_Proc := (pCons pS (pCons pA (pCons pA (pCons (pI .i64) (pCons (pI .i64) pNil))))).iso (fun a => ⟨a.1, a.2.1, a.2.2.1, a.2.2.2.1, a.2.2.2.2.1⟩) (fun s => (s.Name, s.Params, s.Body, s.Rows, s.Bytes, ())) (fun _ => rfl)
def pc_api_Index : Pat (List AV) S_api_Index := (pCons pS (pCons pA (pCons pB pNil))).iso (fun a => ⟨a.1, a.2.1, a.2.2.1⟩) (fun s => (s.Name, s.Columns, s.Unique, ())) (fun _ => rfl)
abbrev Y_law13_CheckRenames := S_api_Catalog → Arr → S_api_Stmt → (Bool → Prop) → Prop
abbrev Y_law13_awake := (Bool → Prop) → Prop
abbrev Y_check_Check := S_api_Catalog → Arr → S_api_Stmt → (S_api_Typed → S_api_Fault → Prop) → Prop
abbrev Y_check_begun := S_api_Catalog → Arr → Prop → (Arr → Arr → Int → Int → (List (PV × PV)) → (List (PV × PV)) → Prop) → Prop
abbrev Y_catalog_Right := S_api_Catalog → (Bool → Prop) → Prop
abbrev Y_catalog_met := ((List (PV × PV)) → Prop) → Prop
abbrev Y_catalog_mayTable := S_api_Table → (Bool → Prop) → Prop
abbrev Y_catalog_named := ByteArray → (Bool → Prop) → Prop
abbrev Y_strings_ContainsFunc := ByteArray → (Bool → Prop) → Prop
abbrev Y_strings_IndexFunc := ByteArray → (Int → Prop) → Prop
abbrev Y_strings_indexFunc := ByteArray → Bool → (Int → Prop) → Prop
abbrev Y_catalog_named_1 := Int → (Bool → Prop) → Prop
abbrev Y_catalog_met_1 := ByteArray → (List (PV × PV)) → (Bool → (List (PV × PV)) → Prop) → Prop
abbrev Y_catalog_typed := Int → (Bool → Prop) → Prop
abbrev Y_catalog_places := Arr → Int → (Bool → Prop) → Prop
abbrev Y_slices_Contains_int_int := Arr → Int → (Bool → Prop) → Prop
abbrev Y_slices_Index_int_int := Arr → Int → (Int → Prop) → Prop
abbrev Y_catalog_mayProc := S_api_Proc → (Bool → Prop) → Prop
abbrev Y_slices_ContainsFunc_string_string := Arr → (Bool → Prop) → Prop
abbrev Y_slices_IndexFunc_string_string := Arr → (Int → Prop) → Prop
abbrev Y_catalog_mayProc_1 := ByteArray → (Bool → Prop) → Prop
abbrev Y_check_rightParams := Arr → (Bool → Prop) → Prop
abbrev Y_lex_IsName := ByteArray → (Bool → Prop) → Prop
abbrev Y_lex_classOf := Int → (Int → Prop) → Prop
abbrev Y_strings_IndexByte := ByteArray → Int → (Int → Prop) → Prop
abbrev Y_internal_stringslite_IndexByte := ByteArray → Int → (Int → Prop) → Prop
abbrev Y_internal_bytealg_IndexByteString := ByteArray → Int → (Int → Prop) → Prop
abbrev Y_syntax_Right := S_api_Stmt → (Bool → Prop) → Prop
abbrev Y_syntax_rights := Arr → (Bool → Prop) → Prop
abbrev Y_slices_ContainsFunc_api_Expr_api_Expr := Arr → (Bool → Prop) → Prop
abbrev Y_slices_IndexFunc_api_Expr_api_Expr := Arr → (Int → Prop) → Prop
abbrev Y_syntax_rights_1 := S_api_Expr → (Bool → Prop) → Prop
abbrev Y_syntax_rightExpr := S_api_Expr → Int → (Bool → Prop) → Prop
abbrev Y_syntax_shape := Int → (Int → Int → Int → Int → Prop) → Prop
abbrev Y_syntax_fields := S_api_Expr → (Bool → Prop) → Prop
abbrev Y_value_Right := S_api_Value → (Bool → Prop) → Prop
abbrev Y_slices_ContainsFunc_api_Expr_api_Expr_v1 := Arr → Int → (Bool → Int → Prop) → Prop
abbrev Y_slices_IndexFunc_api_Expr_api_Expr_v1 := Arr → Int → (Int → Int → Prop) → Prop
abbrev Y_syntax_rightExpr_1 := S_api_Expr → Int → (Bool → Int → Prop) → Prop
abbrev Y_syntax_rightSelect := S_api_Stmt → (Bool → Prop) → Prop
abbrev Y_syntax_rightItem := S_api_Expr → (Bool → Prop) → Prop
abbrev Y_syntax_within := Int → (Bool → Prop) → Prop
abbrev Y_slices_ContainsFunc_int_int := Arr → (Bool → Prop) → Prop
abbrev Y_slices_IndexFunc_int_int := Arr → (Int → Prop) → Prop
abbrev Y_syntax_rightSelect_1 := Int → (Bool → Prop) → Prop
abbrev Y_syntax_rightSets := Arr → (Bool → Prop) → Prop
abbrev Y_slices_ContainsFunc_api_Set_api_Set := Arr → (Bool → Prop) → Prop
abbrev Y_slices_IndexFunc_api_Set_api_Set := Arr → (Int → Prop) → Prop
abbrev Y_syntax_rightSets_1 := S_api_Set → (Bool → Prop) → Prop
abbrev Y_check_checker_statement := S_api_Stmt → Arr → Arr → Int → Int → (List (PV × PV)) → (List (PV × PV)) → (S_api_Typed → Bool → Arr → Arr → Int → Int → (List (PV × PV)) → (List (PV × PV)) → Prop) → Prop
abbrev Y_check_checker_names := S_api_Stmt → Arr → Arr → Int → Int → (List (PV × PV)) → (List (PV × PV)) → (Arr → Bool → Arr → Arr → Int → Int → (List (PV × PV)) → (List (PV × PV)) → Prop) → Prop
abbrev Y_check_tableOf := S_api_Catalog → ByteArray → (Int → Prop) → Prop
abbrev Y_check_checker_fails := Int → Int → Arr → Arr → Int → Int → (List (PV × PV)) → (List (PV × PV)) → (Arr → Arr → Int → Int → (List (PV × PV)) → (List (PV × PV)) → Prop) → Prop
abbrev Y_check_checker_open := Arr → Arr → Arr → Int → Int → (List (PV × PV)) → (List (PV × PV)) → (Arr → Arr → Int → Int → (List (PV × PV)) → (List (PV × PV)) → Prop) → Prop
abbrev Y_check_checker_truths := Arr → Arr → Arr → Int → Int → (List (PV × PV)) → (List (PV × PV)) → (Arr → Bool → Arr → Arr → Int → Int → (List (PV × PV)) → (List (PV × PV)) → Prop) → Prop
abbrev Y_check_checker_of := Int → Arr → Arr → Int → Int → (List (PV × PV)) → (List (PV × PV)) → (Arr → Arr → Int → Int → (List (PV × PV)) → (List (PV × PV)) → Int → Prop) → Prop
abbrev Y_check_checker_of_1 := S_api_Expr → Arr → Arr → Int → Int → (List (PV × PV)) → (List (PV × PV)) → Int → (S_api_Term → Bool → Arr → Arr → Int → Int → (List (PV × PV)) → (List (PV × PV)) → Int → Prop) → Prop
abbrev Y_check_checker_term := S_api_Expr → Arr → Arr → Int → Int → (List (PV × PV)) → (List (PV × PV)) → (S_api_Term → Bool → Arr → Arr → Int → Int → (List (PV × PV)) → (List (PV × PV)) → Prop) → Prop
abbrev Y_check_wanted := Int → (Int → Prop) → Prop → Prop
abbrev Y_check_wanted_1 := Int → (Int → Prop) → Prop
abbrev Y_check_wanted_1_1 := Int → Int → (Bool → Int → Prop) → Prop
abbrev Y_check_unlike := (List PV) → (Bool → (List PV) → Prop) → Prop
abbrev Y_check_typeOf := Int → (List PV) → (Int → (List PV) → Prop) → Prop
abbrev Y_check_wanted_2 := Int → Prop → Prop
abbrev Y_check_checker_insert := S_api_Stmt → S_api_Table → Arr → Arr → Int → Int → (List (PV × PV)) → (List (PV × PV)) → Int → Arr → Arr → Arr → Bool → (Arr → Arr → Int → Int → (List (PV × PV)) → (List (PV × PV)) → Int → Arr → Arr → Arr → Bool → Prop) → (Bool → Arr → Arr → Int → Int → (List (PV × PV)) → (List (PV × PV)) → Int → Arr → Arr → Arr → Bool → (List PV) → Prop) → Prop
abbrev Y_check_checker_update := S_api_Stmt → S_api_Table → Arr → Arr → Int → Int → (List (PV × PV)) → (List (PV × PV)) → Int → Arr → Arr → Arr → Bool → (Bool → Arr → Arr → Int → Int → (List (PV × PV)) → (List (PV × PV)) → Int → Arr → Arr → Arr → Bool → (List PV) → (List PV) → Prop) → Prop
abbrev Y_check_columnOf := S_api_Table → ByteArray → (Int → Prop) → Prop
abbrev Y_check_checker_choose := S_api_Stmt → Arr → Arr → Int → Int → (List (PV × PV)) → (List (PV × PV)) → Int → Arr → Arr → Arr → Bool → (Arr → Arr → Int → Int → (List (PV × PV)) → (List (PV × PV)) → Int → Arr → Arr → Arr → Bool → (List PV) → Prop) → (Arr → Arr → Int → Int → (List (PV × PV)) → (List (PV × PV)) → Int → Arr → Arr → Arr → Bool → (List PV) → (List PV) → Prop) → (Arr → Arr → Int → Int → (List (PV × PV)) → (List (PV × PV)) → Int → Arr → Arr → Arr → Bool → (List PV) → (List PV) → (List PV) → Prop) → (Arr → Arr → Int → Int → (List (PV × PV)) → (List (PV × PV)) → Int → Arr → Arr → Arr → Bool → (List PV) → (List PV) → (List PV) → (List PV) → (List PV) → Prop) → Prop
abbrev Y_check_checker_groups := S_api_Stmt → Arr → Arr → Int → Int → (List (PV × PV)) → (List (PV × PV)) → Int → Arr → Arr → Arr → Bool → (Arr → Arr → Int → Int → (List (PV × PV)) → (List (PV × PV)) → Int → Arr → Arr → Arr → Bool → (List PV) → Prop) → (Arr → Arr → Int → Int → (List (PV × PV)) → (List (PV × PV)) → Int → Arr → Arr → Arr → Bool → (List PV) → (List (PV × PV)) → Prop) → Prop
abbrev Y_check_checker_star := S_api_Stmt → Arr → Arr → Int → Int → (List (PV × PV)) → (List (PV × PV)) → Int → Arr → Arr → Arr → Bool → (List PV) → (Arr → Arr → Int → Int → (List (PV × PV)) → (List (PV × PV)) → Int → Arr → Arr → Arr → Bool → (List PV) → Prop) → (Bool → Arr → Arr → Int → Int → (List (PV × PV)) → (List (PV × PV)) → Int → Arr → Arr → Arr → Bool → (List PV) → (List PV) → Prop) → Prop
abbrev Y_check_checker_items := S_api_Stmt → Arr → Arr → Int → Int → (List (PV × PV)) → (List (PV × PV)) → Int → Arr → Arr → Arr → Bool → (List PV) → (List (PV × PV)) → (Bool → Arr → Arr → Int → Int → (List (PV × PV)) → (List (PV × PV)) → Int → Arr → Arr → Arr → Bool → (List PV) → (List (PV × PV)) → (List PV) → Prop) → Prop
abbrev Y_check_aggregate := Int → (Bool → Prop) → Prop
abbrev Y_law13_renamed := S_api_Stmt → (S_api_Stmt → Bool → Prop) → Prop
abbrev Y_law13_others := Arr → (Arr → Bool → Prop) → Prop
abbrev Y_law13_same := S_api_Typed → S_api_Typed → (Bool → Prop) → Prop
abbrev Y_law13_sameTerms := Arr → Arr → (Bool → Prop) → Prop
abbrev Y_law13_ints := Arr → Arr → (Bool → Prop) → Prop
structure Tab where
  fuel : Nat
  f_law13_CheckRenames : Y_law13_CheckRenames
  f_law13_awake : Y_law13_awake
  f_check_Check : Y_check_Check
  f_check_begun : Y_check_begun
  f_catalog_Right : Y_catalog_Right
  f_catalog_met : Y_catalog_met
  f_catalog_mayTable : Y_catalog_mayTable
  f_catalog_named : Y_catalog_named
  f_strings_ContainsFunc : Y_strings_ContainsFunc
  f_strings_IndexFunc : Y_strings_IndexFunc
  f_strings_indexFunc : Y_strings_indexFunc
  f_catalog_named_1 : Y_catalog_named_1
  f_catalog_met_1 : Y_catalog_met_1
  f_catalog_typed : Y_catalog_typed
  f_catalog_places : Y_catalog_places
  f_slices_Contains_int_int : Y_slices_Contains_int_int
  f_slices_Index_int_int : Y_slices_Index_int_int
  f_catalog_mayProc : Y_catalog_mayProc
  f_slices_ContainsFunc_string_string : Y_slices_ContainsFunc_string_string
  f_slices_IndexFunc_string_string : Y_slices_IndexFunc_string_string
  f_catalog_mayProc_1 : Y_catalog_mayProc_1
  f_check_rightParams : Y_check_rightParams
  f_lex_IsName : Y_lex_IsName
  f_lex_classOf : Y_lex_classOf
  f_strings_IndexByte : Y_strings_IndexByte
  f_internal_stringslite_IndexByte : Y_internal_stringslite_IndexByte
  f_internal_bytealg_IndexByteString : Y_internal_bytealg_IndexByteString
  f_syntax_Right : Y_syntax_Right
  f_syntax_rights : Y_syntax_rights
  f_slices_ContainsFunc_api_Expr_api_Expr : Y_slices_ContainsFunc_api_Expr_api_Expr
  f_slices_IndexFunc_api_Expr_api_Expr : Y_slices_IndexFunc_api_Expr_api_Expr
  f_syntax_rights_1 : Y_syntax_rights_1
  f_syntax_rightExpr : Y_syntax_rightExpr
  f_syntax_shape : Y_syntax_shape
  f_syntax_fields : Y_syntax_fields
  f_value_Right : Y_value_Right
  f_slices_ContainsFunc_api_Expr_api_Expr_v1 : Y_slices_ContainsFunc_api_Expr_api_Expr_v1
  f_slices_IndexFunc_api_Expr_api_Expr_v1 : Y_slices_IndexFunc_api_Expr_api_Expr_v1
  f_syntax_rightExpr_1 : Y_syntax_rightExpr_1
  f_syntax_rightSelect : Y_syntax_rightSelect
  f_syntax_rightItem : Y_syntax_rightItem
  f_syntax_within : Y_syntax_within
  f_slices_ContainsFunc_int_int : Y_slices_ContainsFunc_int_int
  f_slices_IndexFunc_int_int : Y_slices_IndexFunc_int_int
  f_syntax_rightSelect_1 : Y_syntax_rightSelect_1
  f_syntax_rightSets : Y_syntax_rightSets
  f_slices_ContainsFunc_api_Set_api_Set : Y_slices_ContainsFunc_api_Set_api_Set
  f_slices_IndexFunc_api_Set_api_Set : Y_slices_IndexFunc_api_Set_api_Set
  f_syntax_rightSets_1 : Y_syntax_rightSets_1
  f_check_checker_statement : Y_check_checker_statement
  f_check_checker_names : Y_check_checker_names
  f_check_tableOf : Y_check_tableOf
  f_check_checker_fails : Y_check_checker_fails
  f_check_checker_open : Y_check_checker_open
  f_check_checker_truths : Y_check_checker_truths
  f_check_checker_of : Y_check_checker_of
  f_check_checker_of_1 : Y_check_checker_of_1
  f_check_checker_term : Y_check_checker_term
  f_check_wanted : Y_check_wanted
  f_check_wanted_1 : Y_check_wanted_1
  f_check_wanted_1_1 : Y_check_wanted_1_1
  f_check_unlike : Y_check_unlike
  f_check_typeOf : Y_check_typeOf
  f_check_wanted_2 : Y_check_wanted_2
  f_check_checker_insert : Y_check_checker_insert
  f_check_checker_update : Y_check_checker_update
  f_check_columnOf : Y_check_columnOf
  f_check_checker_choose : Y_check_checker_choose
  f_check_checker_groups : Y_check_checker_groups
  f_check_checker_star : Y_check_checker_star
  f_check_checker_items : Y_check_checker_items
  f_check_aggregate : Y_check_aggregate
  f_law13_renamed : Y_law13_renamed
  f_law13_others : Y_law13_others
  f_law13_same : Y_law13_same
  f_law13_sameTerms : Y_law13_sameTerms
  f_law13_ints : Y_law13_ints
end
end Go.RX
