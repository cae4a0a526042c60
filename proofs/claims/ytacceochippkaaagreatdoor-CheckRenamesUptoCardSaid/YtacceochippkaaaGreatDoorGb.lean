/- Printed by a program of the prover: the functions that the law reaches, as functions in Lean, and that the model does what they say. No condition. -/
import Derived.Test.YtacceochippkaaaGreatDoorGa
set_option linter.all false
namespace Go.RX
noncomputable section
abbrev YL_law13_CheckRenames_4 := Arr → Bool → Int → S_api_Stmt → S_api_Typed → S_api_Fault → Arr → (List PV) → (List PV) → (Bool → Prop) → (Bool → S_api_Stmt → S_api_Typed → S_api_Fault → Arr → (List PV) → (List PV) → Prop) → Prop
def B_law13_CheckRenames_4 (T : Tab) (R : YL_law13_CheckRenames_4) (_a1 : Arr) (_b1 : Bool) (_n1 : Int) (_x1 : S_api_Stmt) (_x2 : S_api_Typed) (_x3 : S_api_Fault) (_a2 : Arr) (_r1 : List PV) (_r2 : List PV) (K0 : Bool → Prop) (K1 : Bool → S_api_Stmt → S_api_Typed → S_api_Fault → Arr → (List PV) → (List PV) → Prop) : Prop :=
 br (decide (_n1 < ((_a1.n : Nat) : Int)))
 (0 ≤ _n1 ∧ _n1 < ((_a1.n : Nat) : Int) ∧
 as_api_Param (_a1.g (_n1.toNat)) fun x147 =>
 br (x147.Name.toList == (ByteArray.mk #[111, 116, 104, 101, 114, 95, 112]).toList)
 (K0 _b1)
 (br (x147.Name.toList == (ByteArray.mk #[112]).toList)
 ((_r2.length + 1) * 24 ≤ 140737488355328 ∧
 R _a1 _b1 (W (_n1 + (1 : Int))) _x1 _x2 _x3 _a2 _r1 (_r2 ++ ([(PV.agg [.str (ByteArray.mk #[111, 116, 104, 101, 114, 95, 112]), .int .i64 x147.Type_])])) K0 K1)
 ((_r2.length + 1) * 24 ≤ 140737488355328 ∧
 R _a1 _b1 (W (_n1 + (1 : Int))) _x1 _x2 _x3 _a2 _r1 (_r2 ++ ([(PV.agg (p_api_Param x147))])) K0 K1)))
 (K1 _b1 _x1 _x2 _x3 _a2 _r1 _r2)
def L_law13_CheckRenames_4 (T : Tab) : Nat → YL_law13_CheckRenames_4
  | 0 => fun _ _ _ _ _ _ _ _ _ _ _ => False
  | n + 1 => B_law13_CheckRenames_4 T (L_law13_CheckRenames_4 T n)
abbrev YL_law13_CheckRenames_2 := Arr → Bool → Int → Int → S_api_Catalog → S_api_Stmt → S_api_Typed → S_api_Fault → Arr → (List PV) → S_api_Table → (List PV) → (Bool → Prop) → (Arr → Bool → Int → S_api_Catalog → S_api_Stmt → S_api_Typed → S_api_Fault → Arr → (List PV) → S_api_Table → (List PV) → Prop) → Prop
def B_law13_CheckRenames_2 (T : Tab) (R : YL_law13_CheckRenames_2) (_a1 : Arr) (_b1 : Bool) (_n1 : Int) (_n2 : Int) (_x1 : S_api_Catalog) (_x2 : S_api_Stmt) (_x3 : S_api_Typed) (_x4 : S_api_Fault) (_a2 : Arr) (_r1 : List PV) (_x5 : S_api_Table) (_r2 : List PV) (K0 : Bool → Prop) (K1 : Arr → Bool → Int → S_api_Catalog → S_api_Stmt → S_api_Typed → S_api_Fault → Arr → (List PV) → S_api_Table → (List PV) → Prop) : Prop :=
 br (decide (_n2 < ((_x5.Columns.n : Nat) : Int)))
 (0 ≤ _n2 ∧ _n2 < ((_x5.Columns.n : Nat) : Int) ∧
 as_api_Column (_x5.Columns.g (_n2.toNat)) fun x32 =>
 br (x32.Name.toList == (ByteArray.mk #[97]).toList)
 (0 ≤ _n2 ∧ _n2 < ((_x5.Columns.n : Nat) : Int) ∧
 as_api_Column (_x5.Columns.g (_n2.toNat)) fun x33 =>
 br (x33.Name.toList == (ByteArray.mk #[111, 116, 104, 101, 114, 95, 97]).toList)
 (K0 _b1)
 ((_r2.length + 1) * 32 ≤ 140737488355328 ∧
 R _a1 _b1 _n1 (W (_n2 + (1 : Int))) _x1 _x2 _x3 _x4 _a2 _r1 _x5 (_r2 ++ ([(PV.agg [.str (ByteArray.mk #[111, 116, 104, 101, 114, 95, 97]), .int .i64 x32.Type_, .bool x32.NotNull])])) K0 K1))
 (0 ≤ _n2 ∧ _n2 < ((_x5.Columns.n : Nat) : Int) ∧
 as_api_Column (_x5.Columns.g (_n2.toNat)) fun x46 =>
 br (x46.Name.toList == (ByteArray.mk #[111, 116, 104, 101, 114, 95, 97]).toList)
 (K0 _b1)
 ((_r2.length + 1) * 32 ≤ 140737488355328 ∧
 R _a1 _b1 _n1 (W (_n2 + (1 : Int))) _x1 _x2 _x3 _x4 _a2 _r1 _x5 (_r2 ++ ([(PV.agg (p_api_Column x32))])) K0 K1)))
 (K1 _a1 _b1 _n1 _x1 _x2 _x3 _x4 _a2 _r1 _x5 _r2)
def L_law13_CheckRenames_2 (T : Tab) : Nat → YL_law13_CheckRenames_2
  | 0 => fun _ _ _ _ _ _ _ _ _ _ _ _ _ _ => False
  | n + 1 => B_law13_CheckRenames_2 T (L_law13_CheckRenames_2 T n)
abbrev YL_law13_CheckRenames_0 := Arr → Bool → Int → S_api_Catalog → S_api_Stmt → S_api_Typed → S_api_Fault → Arr → (List PV) → (Bool → Prop) → (Arr → Bool → S_api_Stmt → S_api_Typed → S_api_Fault → Arr → (List PV) → Prop) → Prop
def B_law13_CheckRenames_0 (T : Tab) (R : YL_law13_CheckRenames_0) (_a1 : Arr) (_b1 : Bool) (_n1 : Int) (_x1 : S_api_Catalog) (_x2 : S_api_Stmt) (_x3 : S_api_Typed) (_x4 : S_api_Fault) (_a2 : Arr) (_r1 : List PV) (K0 : Bool → Prop) (K1 : Arr → Bool → S_api_Stmt → S_api_Typed → S_api_Fault → Arr → (List PV) → Prop) : Prop :=
 br (decide (_n1 < ((_x1.Tables.n : Nat) : Int)))
 (0 ≤ _n1 ∧ _n1 < ((_x1.Tables.n : Nat) : Int) ∧
 as_api_Table (_x1.Tables.g (_n1.toNat)) fun x89 =>
 L_law13_CheckRenames_2 T T.fuel _a1 _b1 _n1 0 _x1 _x2 _x3 _x4 _a2 _r1 x89 ([])
 (fun b90 =>
 K0 b90)
 (fun a91 b92 n93 x94 x95 x96 x97 a98 r99 x100 r101 =>
 br (x100.Name.toList == (ByteArray.mk #[111, 116, 104, 101, 114, 95, 116]).toList)
 (K0 b92)
 (br (x100.Name.toList == (ByteArray.mk #[116]).toList)
 ((r99.length + 1) * 96 ≤ 140737488355328 ∧
 R a91 b92 (W (n93 + (1 : Int))) x94 x95 x96 x97 a98 (r99 ++ ([(PV.agg [.str (ByteArray.mk #[111, 116, 104, 101, 114, 95, 116]), .arr ((lst true r101).m) ((lst true r101).n) ((lst true r101).g), .arr x100.Key.m x100.Key.n x100.Key.g, .int .i64 x100.Part, .arr x100.Indexes.m x100.Indexes.n x100.Indexes.g])])) K0 K1)
 ((r99.length + 1) * 96 ≤ 140737488355328 ∧
 R a91 b92 (W (n93 + (1 : Int))) x94 x95 x96 x97 a98 (r99 ++ ([(PV.agg [.str x100.Name, .arr ((lst true r101).m) ((lst true r101).n) ((lst true r101).g), .arr x100.Key.m x100.Key.n x100.Key.g, .int .i64 x100.Part, .arr x100.Indexes.m x100.Indexes.n x100.Indexes.g])])) K0 K1))))
 (K1 _a1 _b1 _x2 _x3 _x4 _a2 _r1)
def L_law13_CheckRenames_0 (T : Tab) : Nat → YL_law13_CheckRenames_0
  | 0 => fun _ _ _ _ _ _ _ _ _ _ _ => False
  | n + 1 => B_law13_CheckRenames_0 T (L_law13_CheckRenames_0 T n)
def F_law13_CheckRenames (T : Tab) (_x1 : S_api_Catalog) (_a1 : Arr) (_x2 : S_api_Stmt) (K0 : Bool → Prop) : Prop :=
 T.f_law13_awake
 (fun _b1 =>
 T.f_check_Check ⟨⟨false, _x1.Tables.n, (fun i => weakM (_x1.Tables.g i))⟩, ⟨false, _x1.Procs.n, (fun i => weakM (_x1.Procs.g i))⟩⟩ ⟨false, _a1.n, (fun i => weakM (_a1.g i))⟩ ⟨_x2.Kind, _x2.Table, _x2.Join, ⟨false, _x2.On.n, (fun i => weakM (_x2.On.g i))⟩, ⟨false, _x2.Where.n, (fun i => weakM (_x2.Where.g i))⟩, ⟨false, _x2.Items.n, (fun i => weakM (_x2.Items.g i))⟩, _x2.Star, ⟨false, _x2.Sets.n, (fun i => weakM (_x2.Sets.g i))⟩, ⟨false, _x2.Groups.n, (fun i => weakM (_x2.Groups.g i))⟩, ⟨false, _x2.Sorts.n, (fun i => weakM (_x2.Sorts.g i))⟩, ⟨false, _x2.Limit.n, (fun i => weakM (_x2.Limit.g i))⟩, _x2.At, _x2.JoinAt⟩
 (fun _x3 _x4 =>
 L_law13_CheckRenames_0 T T.fuel _a1 _b1 0 _x1 _x2 _x3 _x4 _x1.Procs ([])
 (fun b120 =>
 K0 b120)
 (fun a121 b122 x123 x124 x125 a126 r127 =>
 L_law13_CheckRenames_4 T T.fuel a121 b122 0 x123 x124 x125 a126 r127 ([])
 (fun b166 =>
 K0 b166)
 (fun b167 x168 x169 x170 a171 r172 r173 =>
 T.f_law13_renamed x168
 (fun _x5 _b2 =>
 br (!_b2)
 (K0 b167)
 (T.f_check_Check ⟨⟨false, (lst true r172).n, (fun i => weakM (((lst true r172).g) i))⟩, ⟨false, a171.n, (fun i => weakM (a171.g i))⟩⟩ ⟨false, (lst true r173).n, (fun i => weakM (((lst true r173).g) i))⟩ ⟨_x5.Kind, _x5.Table, _x5.Join, ⟨false, _x5.On.n, (fun i => weakM (_x5.On.g i))⟩, ⟨false, _x5.Where.n, (fun i => weakM (_x5.Where.g i))⟩, ⟨false, _x5.Items.n, (fun i => weakM (_x5.Items.g i))⟩, _x5.Star, ⟨false, _x5.Sets.n, (fun i => weakM (_x5.Sets.g i))⟩, ⟨false, _x5.Groups.n, (fun i => weakM (_x5.Groups.g i))⟩, ⟨false, _x5.Sorts.n, (fun i => weakM (_x5.Sorts.g i))⟩, ⟨false, _x5.Limit.n, (fun i => weakM (_x5.Limit.g i))⟩, _x5.At, _x5.JoinAt⟩
 (fun _x6 _x7 =>
 T.f_law13_same x169 _x6
 (fun _b3 =>
 br b167
 (br _b3
 (K0 ((x170.Code == _x7.Code) && (x170.At == _x7.At)))
 (K0 false))
 (K0 false)))))))))
def F_law13_awake (T : Tab)  (K0 : Bool → Prop) : Prop :=
 K0 true
def F_check_Check (T : Tab) (_x1 : S_api_Catalog) (_a1 : Arr) (_x2 : S_api_Stmt) (K0 : S_api_Typed → S_api_Fault → Prop) : Prop :=
 T.f_check_begun _x1 _a1
 (K0 ⟨0, (lst true []), (lst true []), (lst true []), (lst true []), (lst true []), false, (lst true []), (lst true []), (lst true []), (lst true [])⟩ ⟨80, 0⟩)
 (fun _a2 _a3 _n1 _n2 _m1 _m2 =>
 T.f_syntax_Right _x2
 (fun _b1 =>
 br (!_b1)
 (K0 ⟨0, (lst true []), (lst true []), (lst true []), (lst true []), (lst true []), false, (lst true []), (lst true []), (lst true []), (lst true [])⟩ ⟨120, 0⟩)
 (T.f_check_checker_statement _x2 _a2 _a3 _n1 _n2 _m1 _m2
 (fun _x3 _b2 _a4 _a5 _n3 _n4 _m3 _m4 =>
 br (!_b2)
 (K0 ⟨0, (lst true []), (lst true []), (lst true []), (lst true []), (lst true []), false, (lst true []), (lst true []), (lst true []), (lst true [])⟩ ⟨_n3, _n4⟩)
 (K0 _x3 ⟨0, 0⟩)))))
abbrev YL_check_begun_0 := Arr → Int → Int → Arr → Arr → Int → Int → (List (PV × PV)) → (List (PV × PV)) → (Arr → Arr → Int → Int → (List (PV × PV)) → (List (PV × PV)) → Prop) → Prop
def B_check_begun_0 (T : Tab) (R : YL_check_begun_0) (_a1 : Arr) (_n1 : Int) (_n2 : Int) (_a2 : Arr) (_a3 : Arr) (_n3 : Int) (_n4 : Int) (_m1 : List (PV × PV)) (_m2 : List (PV × PV)) (K0 : Arr → Arr → Int → Int → (List (PV × PV)) → (List (PV × PV)) → Prop) : Prop :=
 br (decide (_n2 < _n1))
 (0 ≤ _n2 ∧ _n2 < ((_a1.n : Nat) : Int) ∧
 as_api_Param (_a1.g (_n2.toNat)) fun x13 =>
 R _a1 _n1 (W (_n2 + (1 : Int))) _a2 _a3 _n3 _n4 (setK (PV.str x13.Name) (PV.agg [.int .i64 _n2, .int .i64 x13.Type_, .int .i64 0]) _m1) _m2 K0)
 (K0 _a2 _a3 _n3 _n4 _m1 _m2)
def L_check_begun_0 (T : Tab) : Nat → YL_check_begun_0
  | 0 => fun _ _ _ _ _ _ _ _ _ _ => False
  | n + 1 => B_check_begun_0 T (L_check_begun_0 T n)
def F_check_begun (T : Tab) (_x1 : S_api_Catalog) (_a1 : Arr) (K0 : Prop) (K1 : Arr → Arr → Int → Int → (List (PV × PV)) → (List (PV × PV)) → Prop) : Prop :=
 T.f_catalog_Right _x1
 (fun _b1 =>
 br (!_b1)
 (K0 )
 (T.f_check_rightParams _a1
 (fun _b2 =>
 br (!_b2)
 (K0 )
 (L_check_begun_0 T T.fuel _a1 ((_a1.n : Nat) : Int) 0 _x1.Tables _x1.Procs 0 0 ([]) ([])
 (fun a23 a24 n25 n26 m27 m28 =>
 K1 a23 a24 n25 n26 m27 m28)))))
abbrev YL_catalog_Right_2 := Arr → Int → Int → (List (PV × PV)) → Prop → Prop → Prop
def B_catalog_Right_2 (T : Tab) (R : YL_catalog_Right_2) (_a1 : Arr) (_n1 : Int) (_n2 : Int) (_m1 : List (PV × PV)) (K0 : Prop) (K1 : Prop) : Prop :=
 br (decide (_n2 < _n1))
 (0 ≤ _n2 ∧ _n2 < ((_a1.n : Nat) : Int) ∧
 as_api_Proc (_a1.g (_n2.toNat)) fun x33 =>
 T.f_catalog_mayProc x33
 (fun _b1 =>
 br (!_b1)
 (K0 )
 (T.f_catalog_met_1 x33.Name _m1
 (fun _b2 _m2 =>
 br (!_b2)
 (K0 )
 (R _a1 _n1 (W (_n2 + (1 : Int))) _m2 K0 K1)))))
 (K1 )
def L_catalog_Right_2 (T : Tab) : Nat → YL_catalog_Right_2
  | 0 => fun _ _ _ _ _ _ => False
  | n + 1 => B_catalog_Right_2 T (L_catalog_Right_2 T n)
abbrev YL_catalog_Right_0 := Arr → Int → Int → S_api_Catalog → (List (PV × PV)) → (List (PV × PV)) → Prop → (S_api_Catalog → (List (PV × PV)) → Prop) → Prop
def B_catalog_Right_0 (T : Tab) (R : YL_catalog_Right_0) (_a1 : Arr) (_n1 : Int) (_n2 : Int) (_x1 : S_api_Catalog) (_m1 : List (PV × PV)) (_m2 : List (PV × PV)) (K0 : Prop) (K1 : S_api_Catalog → (List (PV × PV)) → Prop) : Prop :=
 br (decide (_n2 < _n1))
 (0 ≤ _n2 ∧ _n2 < ((_a1.n : Nat) : Int) ∧
 as_api_Table (_a1.g (_n2.toNat)) fun x13 =>
 T.f_catalog_mayTable x13
 (fun _b1 =>
 br (!_b1)
 (K0 )
 (T.f_catalog_met_1 x13.Name _m1
 (fun _b2 _m3 =>
 br (!_b2)
 (K0 )
 (R _a1 _n1 (W (_n2 + (1 : Int))) _x1 _m3 _m2 K0 K1)))))
 (K1 _x1 _m2)
def L_catalog_Right_0 (T : Tab) : Nat → YL_catalog_Right_0
  | 0 => fun _ _ _ _ _ _ _ _ => False
  | n + 1 => B_catalog_Right_0 T (L_catalog_Right_0 T n)
def F_catalog_Right (T : Tab) (_x1 : S_api_Catalog) (K0 : Bool → Prop) : Prop :=
 br (decide (((_x1.Tables.n : Nat) : Int) > (8 : Int)))
 (K0 false)
 (br (decide (((_x1.Procs.n : Nat) : Int) > (16 : Int)))
 (K0 false)
 (T.f_catalog_met
 (fun _m1 =>
 T.f_catalog_met
 (fun _m2 =>
 L_catalog_Right_0 T T.fuel _x1.Tables ((_x1.Tables.n : Nat) : Int) 0 _x1 _m1 _m2
 (K0 false)
 (fun x23 m24 =>
 L_catalog_Right_2 T T.fuel x23.Procs ((x23.Procs.n : Nat) : Int) 0 m24
 (K0 false)
 (K0 true))))))
def F_catalog_met (T : Tab)  (K0 : (List (PV × PV)) → Prop) : Prop :=
 K0 ([])
abbrev YL_catalog_mayTable_4 := Arr → Int → Int → S_api_Table → (List (PV × PV)) → Prop → Prop → Prop
def B_catalog_mayTable_4 (T : Tab) (R : YL_catalog_mayTable_4) (_a1 : Arr) (_n1 : Int) (_n2 : Int) (_x1 : S_api_Table) (_m1 : List (PV × PV)) (K0 : Prop) (K1 : Prop) : Prop :=
 br (decide (_n2 < _n1))
 (0 ≤ _n2 ∧ _n2 < ((_a1.n : Nat) : Int) ∧
 as_api_Index (_a1.g (_n2.toNat)) fun x53 =>
 T.f_catalog_met_1 x53.Name _m1
 (fun _b1 _m2 =>
 br (!_b1)
 (K0 )
 (T.f_catalog_places x53.Columns ((_x1.Columns.n : Nat) : Int)
 (fun _b2 =>
 br (!_b2)
 (K0 )
 (R _a1 _n1 (W (_n2 + (1 : Int))) _x1 _m2 K0 K1)))))
 (K1 )
def L_catalog_mayTable_4 (T : Tab) : Nat → YL_catalog_mayTable_4
  | 0 => fun _ _ _ _ _ _ _ => False
  | n + 1 => B_catalog_mayTable_4 T (L_catalog_mayTable_4 T n)
abbrev YL_catalog_mayTable_2 := Arr → Int → Int → S_api_Table → (List (PV × PV)) → Prop → (S_api_Table → (List (PV × PV)) → Prop) → Prop
def B_catalog_mayTable_2 (T : Tab) (R : YL_catalog_mayTable_2) (_a1 : Arr) (_n1 : Int) (_n2 : Int) (_x1 : S_api_Table) (_m1 : List (PV × PV)) (K0 : Prop) (K1 : S_api_Table → (List (PV × PV)) → Prop) : Prop :=
 br (decide (_n2 < _n1))
 (0 ≤ _n2 ∧ _n2 < ((_a1.n : Nat) : Int) ∧
 asI_i64 (_a1.g (_n2.toNat)) fun n35 =>
 0 ≤ n35 ∧ n35 < ((_x1.Columns.n : Nat) : Int) ∧
 as_api_Column (_x1.Columns.g (n35.toNat)) fun x36 =>
 br (!x36.NotNull)
 (K0 )
 (R _a1 _n1 (W (_n2 + (1 : Int))) _x1 _m1 K0 K1))
 (K1 _x1 _m1)
def L_catalog_mayTable_2 (T : Tab) : Nat → YL_catalog_mayTable_2
  | 0 => fun _ _ _ _ _ _ _ => False
  | n + 1 => B_catalog_mayTable_2 T (L_catalog_mayTable_2 T n)
abbrev YL_catalog_mayTable_0 := Arr → Int → Int → S_api_Table → (List (PV × PV)) → (List (PV × PV)) → Prop → (S_api_Table → (List (PV × PV)) → Prop) → Prop
def B_catalog_mayTable_0 (T : Tab) (R : YL_catalog_mayTable_0) (_a1 : Arr) (_n1 : Int) (_n2 : Int) (_x1 : S_api_Table) (_m1 : List (PV × PV)) (_m2 : List (PV × PV)) (K0 : Prop) (K1 : S_api_Table → (List (PV × PV)) → Prop) : Prop :=
 br (decide (_n2 < _n1))
 (0 ≤ _n2 ∧ _n2 < ((_a1.n : Nat) : Int) ∧
 as_api_Column (_a1.g (_n2.toNat)) fun x14 =>
 T.f_catalog_met_1 x14.Name _m1
 (fun _b1 _m3 =>
 br (!_b1)
 (K0 )
 (T.f_catalog_typed x14.Type_
 (fun _b2 =>
 br (!_b2)
 (K0 )
 (R _a1 _n1 (W (_n2 + (1 : Int))) _x1 _m3 _m2 K0 K1)))))
 (K1 _x1 _m2)
def L_catalog_mayTable_0 (T : Tab) : Nat → YL_catalog_mayTable_0
  | 0 => fun _ _ _ _ _ _ _ _ => False
  | n + 1 => B_catalog_mayTable_0 T (L_catalog_mayTable_0 T n)
def F_catalog_mayTable (T : Tab) (_x1 : S_api_Table) (K0 : Bool → Prop) : Prop :=
 T.f_catalog_named _x1.Name
 (fun _b1 =>
 br (!_b1)
 (K0 false)
 (br (((_x1.Columns.n : Nat) : Int) == (0 : Int))
 (K0 false)
 (br (decide (((_x1.Columns.n : Nat) : Int) > (16 : Int)))
 (K0 false)
 (br (decide (((_x1.Indexes.n : Nat) : Int) > (4 : Int)))
 (K0 false)
 (T.f_catalog_met
 (fun _m1 =>
 T.f_catalog_met
 (fun _m2 =>
 L_catalog_mayTable_0 T T.fuel _x1.Columns ((_x1.Columns.n : Nat) : Int) 0 _x1 _m1 _m2
 (K0 false)
 (fun x24 m25 =>
 T.f_catalog_places x24.Key ((x24.Columns.n : Nat) : Int)
 (fun _b2 =>
 br (!_b2)
 (K0 false)
 (T.f_slices_Contains_int_int x24.Key x24.Part
 (fun _b3 =>
 br (!_b3)
 (K0 false)
 (L_catalog_mayTable_2 T T.fuel x24.Key ((x24.Key.n : Nat) : Int) 0 x24 m25
 (K0 false)
 (fun x42 m43 =>
 L_catalog_mayTable_4 T T.fuel x42.Indexes ((x42.Indexes.n : Nat) : Int) 0 x42 m43
 (K0 false)
 (K0 true))))))))))))))
def F_catalog_named (T : Tab) (_s1 : ByteArray) (K0 : Bool → Prop) : Prop :=
 br (_s1.toList == (ByteArray.mk #[]).toList)
 (K0 false)
 (br (decide (((_s1.size : Nat) : Int) > (16 : Int)))
 (K0 false)
 (0 ≤ (0 : Int) ∧ (0 : Int) < ((_s1.size : Nat) : Int) ∧
 br (decide ((byteAt _s1 (0 : Int).toNat) < (97 : Int)))
 (K0 false)
 (0 ≤ (0 : Int) ∧ (0 : Int) < ((_s1.size : Nat) : Int) ∧
 br (decide ((byteAt _s1 (0 : Int).toNat) > (122 : Int)))
 (K0 false)
 (T.f_strings_ContainsFunc _s1
 (fun _b1 =>
 K0 (!_b1))))))
def F_strings_ContainsFunc (T : Tab) (_s1 : ByteArray) (K0 : Bool → Prop) : Prop :=
 T.f_strings_IndexFunc _s1
 (fun _n1 =>
 K0 (decide (_n1 ≥ (0 : Int))))
def F_strings_IndexFunc (T : Tab) (_s1 : ByteArray) (K0 : Int → Prop) : Prop :=
 T.f_strings_indexFunc _s1 true
 (fun _n1 =>
 K0 _n1)
abbrev YL_strings_indexFunc_0 := Bool → ByteArray → Nat → (Int → Prop) → Prop → Prop
def B_strings_indexFunc_0 (T : Tab) (R : YL_strings_indexFunc_0) (_b1 : Bool) (_s1 : ByteArray) (_i1 : Nat) (K0 : Int → Prop) (K1 : Prop) : Prop :=
 br (decide (_i1 < _s1.size))
 (T.f_catalog_named_1 ((Utf8.decode _s1 _i1).1 : Int)
 (fun _b2 =>
 br (_b2 == _b1)
 (K0 ((_i1 : Nat) : Int))
 (R _b1 _s1 (_i1 + (Utf8.decode _s1 _i1).2) K0 K1)))
 (K1 )
def L_strings_indexFunc_0 (T : Tab) : Nat → YL_strings_indexFunc_0
  | 0 => fun _ _ _ _ _ => False
  | n + 1 => B_strings_indexFunc_0 T (L_strings_indexFunc_0 T n)
def F_strings_indexFunc (T : Tab) (_s1 : ByteArray) (_b1 : Bool) (K0 : Int → Prop) : Prop :=
 L_strings_indexFunc_0 T T.fuel _b1 _s1 0
 (fun n9 =>
 K0 n9)
 (K0 (-1))
def F_catalog_named_1 (T : Tab) (_n1 : Int) (K0 : Bool → Prop) : Prop :=
 br (_n1 != (95 : Int))
 (br (decide (_n1 < (48 : Int)))
 (br (decide (_n1 < (97 : Int)))
 (K0 true)
 (K0 (decide (_n1 > (122 : Int)))))
 (br (decide (_n1 > (57 : Int)))
 (br (decide (_n1 < (97 : Int)))
 (K0 true)
 (K0 (decide (_n1 > (122 : Int)))))
 (K0 false)))
 (K0 false)
def F_catalog_met_1 (T : Tab) (_s1 : ByteArray) (_m1 : List (PV × PV)) (K0 : Bool → (List (PV × PV)) → Prop) : Prop :=
 T.f_catalog_named _s1
 (fun _b1 =>
 br _b1
 (asB ((look (PV.str _s1) _m1).getD (PV.bool false)) fun b2 =>
 K0 (!b2) (setK (PV.str _s1) (PV.bool true) _m1))
 (K0 false (setK (PV.str _s1) (PV.bool true) _m1)))
def F_catalog_typed (T : Tab) (_n1 : Int) (K0 : Bool → Prop) : Prop :=
 br (decide (_n1 ≥ (1 : Int)))
 (K0 (decide (_n1 ≤ (3 : Int))))
 (K0 false)
abbrev YL_catalog_places_0 := Arr → Int → Arr → Int → Int → (List (PV × PV)) → Prop → (Arr → Prop) → Prop
def B_catalog_places_0 (T : Tab) (R : YL_catalog_places_0) (_a1 : Arr) (_n1 : Int) (_a2 : Arr) (_n2 : Int) (_n3 : Int) (_m1 : List (PV × PV)) (K0 : Prop) (K1 : Arr → Prop) : Prop :=
 br (decide (_n3 < _n2))
 (0 ≤ _n3 ∧ _n3 < ((_a2.n : Nat) : Int) ∧
 asI_i64 (_a2.g (_n3.toNat)) fun n9 =>
 br (decide (n9 < (0 : Int)))
 (K0 )
 (br (decide (n9 ≥ _n1))
 (K0 )
 (asB ((look (PV.int .i64 n9) _m1).getD (PV.bool false)) fun b10 =>
 br b10
 (K0 )
 (R _a1 _n1 _a2 _n2 (W (_n3 + (1 : Int))) (setK (PV.int .i64 n9) (PV.bool true) _m1) K0 K1))))
 (K1 _a1)
def L_catalog_places_0 (T : Tab) : Nat → YL_catalog_places_0
  | 0 => fun _ _ _ _ _ _ _ _ => False
  | n + 1 => B_catalog_places_0 T (L_catalog_places_0 T n)
def F_catalog_places (T : Tab) (_a1 : Arr) (_n1 : Int) (K0 : Bool → Prop) : Prop :=
 L_catalog_places_0 T T.fuel _a1 _n1 _a1 ((_a1.n : Nat) : Int) 0 ([])
 (K0 false)
 (fun a17 =>
 br (decide (((a17.n : Nat) : Int) ≥ (1 : Int)))
 (K0 (decide (((a17.n : Nat) : Int) ≤ (8 : Int))))
 (K0 false))
def F_slices_Contains_int_int (T : Tab) (_a1 : Arr) (_n1 : Int) (K0 : Bool → Prop) : Prop :=
 T.f_slices_Index_int_int _a1 _n1
 (fun _n2 =>
 K0 (decide (_n2 ≥ (0 : Int))))
abbrev YL_slices_Index_int_int_0 := Arr → Int → Int → Int → (Int → Prop) → Prop → Prop
def B_slices_Index_int_int_0 (T : Tab) (R : YL_slices_Index_int_int_0) (_a1 : Arr) (_n1 : Int) (_n2 : Int) (_n3 : Int) (K0 : Int → Prop) (K1 : Prop) : Prop :=
 br (decide (_n3 < _n2))
 (0 ≤ _n3 ∧ _n3 < ((_a1.n : Nat) : Int) ∧
 asI_i64 (_a1.g (_n3.toNat)) fun n6 =>
 br (_n1 == n6)
 (K0 _n3)
 (R _a1 _n1 _n2 (W (_n3 + (1 : Int))) K0 K1))
 (K1 )
def L_slices_Index_int_int_0 (T : Tab) : Nat → YL_slices_Index_int_int_0
  | 0 => fun _ _ _ _ _ _ => False
  | n + 1 => B_slices_Index_int_int_0 T (L_slices_Index_int_int_0 T n)
def F_slices_Index_int_int (T : Tab) (_a1 : Arr) (_n1 : Int) (K0 : Int → Prop) : Prop :=
 L_slices_Index_int_int_0 T T.fuel _a1 _n1 ((_a1.n : Nat) : Int) 0
 (fun n11 =>
 K0 n11)
 (K0 (-1))
abbrev YL_catalog_mayProc_0 := Arr → Int → Int → S_api_Proc → (List (PV × PV)) → Prop → (S_api_Proc → Prop) → Prop
def B_catalog_mayProc_0 (T : Tab) (R : YL_catalog_mayProc_0) (_a1 : Arr) (_n1 : Int) (_n2 : Int) (_x1 : S_api_Proc) (_m1 : List (PV × PV)) (K0 : Prop) (K1 : S_api_Proc → Prop) : Prop :=
 br (decide (_n2 < _n1))
 (0 ≤ _n2 ∧ _n2 < ((_a1.n : Nat) : Int) ∧
 as_api_Param (_a1.g (_n2.toNat)) fun x12 =>
 T.f_catalog_met_1 x12.Name _m1
 (fun _b1 _m2 =>
 br (!_b1)
 (K0 )
 (T.f_catalog_typed x12.Type_
 (fun _b2 =>
 br (!_b2)
 (K0 )
 (R _a1 _n1 (W (_n2 + (1 : Int))) _x1 _m2 K0 K1)))))
 (K1 _x1)
def L_catalog_mayProc_0 (T : Tab) : Nat → YL_catalog_mayProc_0
  | 0 => fun _ _ _ _ _ _ _ => False
  | n + 1 => B_catalog_mayProc_0 T (L_catalog_mayProc_0 T n)
def F_catalog_mayProc (T : Tab) (_x1 : S_api_Proc) (K0 : Bool → Prop) : Prop :=
 T.f_catalog_named _x1.Name
 (fun _b1 =>
 br (!_b1)
 (K0 false)
 (br (decide (((_x1.Params.n : Nat) : Int) > (8 : Int)))
 (K0 false)
 (br (((_x1.Body.n : Nat) : Int) == (0 : Int))
 (K0 false)
 (br (decide (((_x1.Body.n : Nat) : Int) > (8 : Int)))
 (K0 false)
 (br (decide (_x1.Rows < (0 : Int)))
 (K0 false)
 (br (decide (_x1.Rows > (1048576 : Int)))
 (K0 false)
 (br (decide (_x1.Bytes < (0 : Int)))
 (K0 false)
 (br (decide (_x1.Bytes > (1048576 : Int)))
 (K0 false)
 (T.f_catalog_met
 (fun _m1 =>
 L_catalog_mayProc_0 T T.fuel _x1.Params ((_x1.Params.n : Nat) : Int) 0 _x1 _m1
 (K0 false)
 (fun x21 =>
 T.f_slices_ContainsFunc_string_string x21.Body
 (fun _b2 =>
 K0 (!_b2)))))))))))))
def F_slices_ContainsFunc_string_string (T : Tab) (_a1 : Arr) (K0 : Bool → Prop) : Prop :=
 T.f_slices_IndexFunc_string_string _a1
 (fun _n1 =>
 K0 (decide (_n1 ≥ (0 : Int))))
abbrev YL_slices_IndexFunc_string_string_0 := Arr → Int → Int → (Int → Prop) → Prop → Prop
def B_slices_IndexFunc_string_string_0 (T : Tab) (R : YL_slices_IndexFunc_string_string_0) (_a1 : Arr) (_n1 : Int) (_n2 : Int) (K0 : Int → Prop) (K1 : Prop) : Prop :=
 br (decide (_n2 < _n1))
 (0 ≤ _n2 ∧ _n2 < ((_a1.n : Nat) : Int) ∧
 asS (_a1.g (_n2.toNat)) fun s6 =>
 T.f_catalog_mayProc_1 s6
 (fun _b1 =>
 br _b1
 (K0 _n2)
 (R _a1 _n1 (W (_n2 + (1 : Int))) K0 K1)))
 (K1 )
def L_slices_IndexFunc_string_string_0 (T : Tab) : Nat → YL_slices_IndexFunc_string_string_0
  | 0 => fun _ _ _ _ _ => False
  | n + 1 => B_slices_IndexFunc_string_string_0 T (L_slices_IndexFunc_string_string_0 T n)
def F_slices_IndexFunc_string_string (T : Tab) (_a1 : Arr) (K0 : Int → Prop) : Prop :=
 L_slices_IndexFunc_string_string_0 T T.fuel _a1 ((_a1.n : Nat) : Int) 0
 (fun n11 =>
 K0 n11)
 (K0 (-1))
def F_catalog_mayProc_1 (T : Tab) (_s1 : ByteArray) (K0 : Bool → Prop) : Prop :=
 br (_s1.toList == (ByteArray.mk #[]).toList)
 (K0 true)
 (K0 (decide (((_s1.size : Nat) : Int) > (1000 : Int))))
abbrev YL_check_rightParams_0 := Arr → Arr → Int → Int → (List (PV × PV)) → Prop → (Arr → Prop) → Prop
def B_check_rightParams_0 (T : Tab) (R : YL_check_rightParams_0) (_a1 : Arr) (_a2 : Arr) (_n1 : Int) (_n2 : Int) (_m1 : List (PV × PV)) (K0 : Prop) (K1 : Arr → Prop) : Prop :=
 br (decide (_n2 < _n1))
 (0 ≤ _n2 ∧ _n2 < ((_a2.n : Nat) : Int) ∧
 as_api_Param (_a2.g (_n2.toNat)) fun x10 =>
 asI_i64 ((look (PV.str x10.Name) _m1).getD (PV.int .i64 0)) fun n11 =>
 asI_i64 ((look (PV.str x10.Name) (setK (PV.str x10.Name) (PV.int .i64 (W (n11 + (1 : Int)))) _m1)).getD (PV.int .i64 0)) fun n12 =>
 br (decide (n12 > (1 : Int)))
 (K0 )
 (T.f_lex_IsName x10.Name
 (fun _b1 =>
 br (!_b1)
 (K0 )
 (br (decide (x10.Type_ < (1 : Int)))
 (K0 )
 (br (decide (x10.Type_ > (3 : Int)))
 (K0 )
 (R _a1 _a2 _n1 (W (_n2 + (1 : Int))) (setK (PV.str x10.Name) (PV.int .i64 (W (n11 + (1 : Int)))) _m1) K0 K1))))))
 (K1 _a1)
def L_check_rightParams_0 (T : Tab) : Nat → YL_check_rightParams_0
  | 0 => fun _ _ _ _ _ _ _ => False
  | n + 1 => B_check_rightParams_0 T (L_check_rightParams_0 T n)
def F_check_rightParams (T : Tab) (_a1 : Arr) (K0 : Bool → Prop) : Prop :=
 L_check_rightParams_0 T T.fuel _a1 _a1 ((_a1.n : Nat) : Int) 0 ([])
 (K0 false)
 (fun a19 =>
 K0 (decide (((a19.n : Nat) : Int) ≤ (8 : Int))))
abbrev YL_lex_IsName_0 := ByteArray → Int → Int → Prop → (ByteArray → Prop) → Prop
def B_lex_IsName_0 (T : Tab) (R : YL_lex_IsName_0) (_s1 : ByteArray) (_n1 : Int) (_n2 : Int) (K0 : Prop) (K1 : ByteArray → Prop) : Prop :=
 br (decide (_n2 < _n1))
 (0 ≤ _n2 ∧ _n2 < ((_s1.size : Nat) : Int) ∧
 T.f_lex_classOf (byteAt _s1 (_n2).toNat)
 (fun _n3 =>
 br (_n3 != (3 : Int))
 (br (_n2 == (0 : Int))
 (K0 )
 (br (_n3 != (2 : Int))
 (0 ≤ _n2 ∧ _n2 < ((_s1.size : Nat) : Int) ∧
 br ((byteAt _s1 (_n2).toNat) != (95 : Int))
 (K0 )
 (R _s1 _n1 (W (_n2 + (1 : Int))) K0 K1))
 (R _s1 _n1 (W (_n2 + (1 : Int))) K0 K1)))
 (R _s1 _n1 (W (_n2 + (1 : Int))) K0 K1)))
 (K1 _s1)
def L_lex_IsName_0 (T : Tab) : Nat → YL_lex_IsName_0
  | 0 => fun _ _ _ _ _ => False
  | n + 1 => B_lex_IsName_0 T (L_lex_IsName_0 T n)
def F_lex_IsName (T : Tab) (_s1 : ByteArray) (K0 : Bool → Prop) : Prop :=
 L_lex_IsName_0 T T.fuel _s1 ((_s1.size : Nat) : Int) 0
 (K0 false)
 (fun s21 =>
 br (!(s21.toList == (ByteArray.mk #[]).toList))
 (K0 (decide (((s21.size : Nat) : Int) ≤ (16 : Int))))
 (K0 false))
def F_lex_classOf (T : Tab) (_n1 : Int) (K0 : Int → Prop) : Prop :=
 br (_n1 == (32 : Int))
 (K0 1)
 (br (_n1 == (9 : Int))
 (K0 1)
 (br (_n1 == (10 : Int))
 (K0 1)
 (br (decide (_n1 ≥ (48 : Int)))
 (br (decide (_n1 ≤ (57 : Int)))
 (K0 2)
 (br (decide (_n1 ≥ (97 : Int)))
 (br (decide (_n1 ≤ (122 : Int)))
 (K0 3)
 (br (decide (_n1 ≥ (65 : Int)))
 (br (decide (_n1 ≤ (90 : Int)))
 (K0 4)
 (br (_n1 == (95 : Int))
 (K0 4)
 (br (_n1 == (58 : Int))
 (K0 5)
 (br (_n1 == (39 : Int))
 (K0 6)
 (br (_n1 == (45 : Int))
 (K0 7)
 (T.f_strings_IndexByte (ByteArray.mk #[59, 44, 40, 41, 46, 42, 43, 47, 37, 61, 60, 62]) _n1
 (fun _n2 =>
 br (decide (_n2 ≥ (0 : Int)))
 (K0 8)
 (K0 0))))))))
 (br (_n1 == (95 : Int))
 (K0 4)
 (br (_n1 == (58 : Int))
 (K0 5)
 (br (_n1 == (39 : Int))
 (K0 6)
 (br (_n1 == (45 : Int))
 (K0 7)
 (T.f_strings_IndexByte (ByteArray.mk #[59, 44, 40, 41, 46, 42, 43, 47, 37, 61, 60, 62]) _n1
 (fun _n3 =>
 br (decide (_n3 ≥ (0 : Int)))
 (K0 8)
 (K0 0)))))))))
 (br (decide (_n1 ≥ (65 : Int)))
 (br (decide (_n1 ≤ (90 : Int)))
 (K0 4)
 (br (_n1 == (95 : Int))
 (K0 4)
 (br (_n1 == (58 : Int))
 (K0 5)
 (br (_n1 == (39 : Int))
 (K0 6)
 (br (_n1 == (45 : Int))
 (K0 7)
 (T.f_strings_IndexByte (ByteArray.mk #[59, 44, 40, 41, 46, 42, 43, 47, 37, 61, 60, 62]) _n1
 (fun _n4 =>
 br (decide (_n4 ≥ (0 : Int)))
 (K0 8)
 (K0 0))))))))
 (br (_n1 == (95 : Int))
 (K0 4)
 (br (_n1 == (58 : Int))
 (K0 5)
 (br (_n1 == (39 : Int))
 (K0 6)
 (br (_n1 == (45 : Int))
 (K0 7)
 (T.f_strings_IndexByte (ByteArray.mk #[59, 44, 40, 41, 46, 42, 43, 47, 37, 61, 60, 62]) _n1
 (fun _n5 =>
 br (decide (_n5 ≥ (0 : Int)))
 (K0 8)
 (K0 0))))))))))
 (br (decide (_n1 ≥ (97 : Int)))
 (br (decide (_n1 ≤ (122 : Int)))
 (K0 3)
 (br (decide (_n1 ≥ (65 : Int)))
 (br (decide (_n1 ≤ (90 : Int)))
 (K0 4)
 (br (_n1 == (95 : Int))
 (K0 4)
 (br (_n1 == (58 : Int))
 (K0 5)
 (br (_n1 == (39 : Int))
 (K0 6)
 (br (_n1 == (45 : Int))
 (K0 7)
 (T.f_strings_IndexByte (ByteArray.mk #[59, 44, 40, 41, 46, 42, 43, 47, 37, 61, 60, 62]) _n1
 (fun _n6 =>
 br (decide (_n6 ≥ (0 : Int)))
 (K0 8)
 (K0 0))))))))
 (br (_n1 == (95 : Int))
 (K0 4)
 (br (_n1 == (58 : Int))
 (K0 5)
 (br (_n1 == (39 : Int))
 (K0 6)
 (br (_n1 == (45 : Int))
 (K0 7)
 (T.f_strings_IndexByte (ByteArray.mk #[59, 44, 40, 41, 46, 42, 43, 47, 37, 61, 60, 62]) _n1
 (fun _n7 =>
 br (decide (_n7 ≥ (0 : Int)))
 (K0 8)
 (K0 0)))))))))
 (br (decide (_n1 ≥ (65 : Int)))
 (br (decide (_n1 ≤ (90 : Int)))
 (K0 4)
 (br (_n1 == (95 : Int))
 (K0 4)
 (br (_n1 == (58 : Int))
 (K0 5)
 (br (_n1 == (39 : Int))
 (K0 6)
 (br (_n1 == (45 : Int))
 (K0 7)
 (T.f_strings_IndexByte (ByteArray.mk #[59, 44, 40, 41, 46, 42, 43, 47, 37, 61, 60, 62]) _n1
 (fun _n8 =>
 br (decide (_n8 ≥ (0 : Int)))
 (K0 8)
 (K0 0))))))))
 (br (_n1 == (95 : Int))
 (K0 4)
 (br (_n1 == (58 : Int))
 (K0 5)
 (br (_n1 == (39 : Int))
 (K0 6)
 (br (_n1 == (45 : Int))
 (K0 7)
 (T.f_strings_IndexByte (ByteArray.mk #[59, 44, 40, 41, 46, 42, 43, 47, 37, 61, 60, 62]) _n1
 (fun _n9 =>
 br (decide (_n9 ≥ (0 : Int)))
 (K0 8)
 (K0 0))))))))))))
def F_strings_IndexByte (T : Tab) (_s1 : ByteArray) (_n1 : Int) (K0 : Int → Prop) : Prop :=
 T.f_internal_stringslite_IndexByte _s1 _n1
 (fun _n2 =>
 K0 _n2)
def F_internal_stringslite_IndexByte (T : Tab) (_s1 : ByteArray) (_n1 : Int) (K0 : Int → Prop) : Prop :=
 T.f_internal_bytealg_IndexByteString _s1 _n1
 (fun _n2 =>
 K0 _n2)
def F_internal_bytealg_IndexByteString (T : Tab) (_s1 : ByteArray) (_n1 : Int) (K0 : Int → Prop) : Prop :=
 K0 (idxByte _s1 _n1)
def F_syntax_Right (T : Tab) (_x1 : S_api_Stmt) (K0 : Bool → Prop) : Prop :=
 T.f_lex_IsName _x1.Table
 (fun _b1 =>
 br (!_b1)
 (K0 false)
 (br (decide (((_x1.Where.n : Nat) : Int) > (1 : Int)))
 (K0 false)
 (T.f_syntax_rights _x1.Where
 (fun _b2 =>
 br (!_b2)
 (K0 false)
 (br (_x1.Kind == (4 : Int))
 (T.f_syntax_rightSelect _x1
 (fun _b3 =>
 K0 _b3))
 (br (!(_x1.Join.toList == (ByteArray.mk #[]).toList))
 (K0 false)
 (br _x1.Star
 (K0 false)
 (br (decide ((W ((W ((W (((_x1.On.n : Nat) : Int) + ((_x1.Groups.n : Nat) : Int))) + ((_x1.Sorts.n : Nat) : Int))) + ((_x1.Limit.n : Nat) : Int))) > (0 : Int)))
 (K0 false)
 (T.f_syntax_rights _x1.Items
 (fun _b4 =>
 br (!_b4)
 (K0 false)
 (T.f_syntax_rightSets _x1.Sets
 (fun _b5 =>
 br (!_b5)
 (K0 false)
 (br (_x1.Kind == (1 : Int))
 (br (decide (((_x1.Items.n : Nat) : Int) ≥ (1 : Int)))
 (br (decide (((_x1.Items.n : Nat) : Int) ≤ (16 : Int)))
 (br (((_x1.Sets.n : Nat) : Int) == (0 : Int))
 (K0 (((_x1.Where.n : Nat) : Int) == (0 : Int)))
 (K0 false))
 (K0 false))
 (K0 false))
 (br (_x1.Kind == (2 : Int))
 (br (((_x1.Items.n : Nat) : Int) == (0 : Int))
 (br (decide (((_x1.Sets.n : Nat) : Int) ≥ (1 : Int)))
 (K0 (decide (((_x1.Sets.n : Nat) : Int) ≤ (16 : Int))))
 (K0 false))
 (K0 false))
 (br (_x1.Kind == (3 : Int))
 (br (((_x1.Items.n : Nat) : Int) == (0 : Int))
 (K0 (((_x1.Sets.n : Nat) : Int) == (0 : Int)))
 (K0 false))
 (K0 false))))))))))))))))
def F_syntax_rights (T : Tab) (_a1 : Arr) (K0 : Bool → Prop) : Prop :=
 T.f_slices_ContainsFunc_api_Expr_api_Expr _a1
 (fun _b1 =>
 K0 (!_b1))
def F_slices_ContainsFunc_api_Expr_api_Expr (T : Tab) (_a1 : Arr) (K0 : Bool → Prop) : Prop :=
 T.f_slices_IndexFunc_api_Expr_api_Expr _a1
 (fun _n1 =>
 K0 (decide (_n1 ≥ (0 : Int))))
abbrev YL_slices_IndexFunc_api_Expr_api_Expr_0 := Arr → Int → Int → (Int → Prop) → Prop → Prop
def B_slices_IndexFunc_api_Expr_api_Expr_0 (T : Tab) (R : YL_slices_IndexFunc_api_Expr_api_Expr_0) (_a1 : Arr) (_n1 : Int) (_n2 : Int) (K0 : Int → Prop) (K1 : Prop) : Prop :=
 br (decide (_n2 < _n1))
 (0 ≤ _n2 ∧ _n2 < ((_a1.n : Nat) : Int) ∧
 as_api_Expr (_a1.g (_n2.toNat)) fun x6 =>
 T.f_syntax_rights_1 x6
 (fun _b1 =>
 br _b1
 (K0 _n2)
 (R _a1 _n1 (W (_n2 + (1 : Int))) K0 K1)))
 (K1 )
def L_slices_IndexFunc_api_Expr_api_Expr_0 (T : Tab) : Nat → YL_slices_IndexFunc_api_Expr_api_Expr_0
  | 0 => fun _ _ _ _ _ => False
  | n + 1 => B_slices_IndexFunc_api_Expr_api_Expr_0 T (L_slices_IndexFunc_api_Expr_api_Expr_0 T n)
def F_slices_IndexFunc_api_Expr_api_Expr (T : Tab) (_a1 : Arr) (K0 : Int → Prop) : Prop :=
 L_slices_IndexFunc_api_Expr_api_Expr_0 T T.fuel _a1 ((_a1.n : Nat) : Int) 0
 (fun n11 =>
 K0 n11)
 (K0 (-1))
def F_syntax_rights_1 (T : Tab) (_x1 : S_api_Expr) (K0 : Bool → Prop) : Prop :=
 T.f_syntax_rightExpr _x1 1
 (fun _b1 =>
 K0 (!_b1))
def F_syntax_rightExpr (T : Tab) (_x1 : S_api_Expr) (_n1 : Int) (K0 : Bool → Prop) : Prop :=
 T.f_syntax_shape _x1.Kind
 (fun _n2 _n3 _n4 _n5 =>
 br (decide (_n1 > (16 : Int)))
 (K0 false)
 (br (decide (((_x1.Kids.n : Nat) : Int) < _n2))
 (K0 false)
 (br (decide (((_x1.Kids.n : Nat) : Int) > _n3))
 (K0 false)
 (br (decide (_x1.Op < _n4))
 (K0 false)
 (br (decide (_x1.Op > _n5))
 (K0 false)
 (T.f_syntax_fields _x1
 (fun _b1 =>
 br (!_b1)
 (K0 false)
 (T.f_slices_ContainsFunc_api_Expr_api_Expr_v1 _x1.Kids _n1
 (fun _b2 _n6 =>
 K0 (!_b2))))))))))
def F_syntax_shape (T : Tab) (_n1 : Int) (K0 : Int → Int → Int → Int → Prop) : Prop :=
 br (_n1 == (1 : Int))
 (K0 0 0 0 0)
 (br (_n1 == (2 : Int))
 (K0 0 0 0 0)
 (br (_n1 == (3 : Int))
 (K0 0 0 0 0)
 (br (_n1 == (4 : Int))
 (K0 1 1 0 0)
 (br (_n1 == (8 : Int))
 (K0 1 1 0 0)
 (br (_n1 == (7 : Int))
 (K0 1 1 0 1)
 (br (_n1 == (5 : Int))
 (K0 2 2 1 5)
 (br (_n1 == (6 : Int))
 (K0 2 2 1 6)
 (br (_n1 == (9 : Int))
 (K0 2 8 0 0)
 (br (_n1 == (10 : Int))
 (K0 2 8 0 0)
 (K0 0 (-1) 0 0))))))))))
def F_syntax_fields (T : Tab) (_x1 : S_api_Expr) (K0 : Bool → Prop) : Prop :=
 br (_x1.Kind == (1 : Int))
 (br (_x1.Name.toList == (ByteArray.mk #[]).toList)
 (br (_x1.Table.toList == (ByteArray.mk #[]).toList)
 (T.f_value_Right ⟨_x1.Value_Kind, _x1.Value_Int, _x1.Value_Text⟩
 (fun _b1 =>
 br _b1
 (br (_x1.Value_Kind != (1 : Int))
 (K0 true)
 (K0 (decide (_x1.Value_Int ≥ (0 : Int)))))
 (K0 false)))
 (K0 false))
 (K0 false))
 (br (_x1.Kind == (2 : Int))
 (T.f_lex_IsName _x1.Name
 (fun _b2 =>
 br _b2
 (br (_x1.Table.toList == (ByteArray.mk #[]).toList)
 (K0 ((_x1.Value_Kind == 0) && ((_x1.Value_Int == 0) && (_x1.Value_Text.toList == (ByteArray.mk #[]).toList))))
 (K0 false))
 (K0 false)))
 (br (_x1.Kind == (3 : Int))
 (T.f_lex_IsName _x1.Name
 (fun _b3 =>
 br _b3
 (br (_x1.Table.toList == (ByteArray.mk #[]).toList)
 (K0 ((_x1.Value_Kind == 0) && ((_x1.Value_Int == 0) && (_x1.Value_Text.toList == (ByteArray.mk #[]).toList))))
 (T.f_lex_IsName _x1.Table
 (fun _b4 =>
 br _b4
 (K0 ((_x1.Value_Kind == 0) && ((_x1.Value_Int == 0) && (_x1.Value_Text.toList == (ByteArray.mk #[]).toList))))
 (K0 false))))
 (K0 false)))
 (br (_x1.Name.toList == (ByteArray.mk #[]).toList)
 (br (_x1.Table.toList == (ByteArray.mk #[]).toList)
 (K0 ((_x1.Value_Kind == 0) && ((_x1.Value_Int == 0) && (_x1.Value_Text.toList == (ByteArray.mk #[]).toList))))
 (K0 false))
 (K0 false))))
def F_value_Right (T : Tab) (_x1 : S_api_Value) (K0 : Bool → Prop) : Prop :=
 br (_x1.Kind == (0 : Int))
 (K0 ((_x1.Kind == 0) && ((_x1.Int == 0) && (_x1.Text.toList == (ByteArray.mk #[]).toList))))
 (br (_x1.Kind == (1 : Int))
 (br (decide (_x1.Int ≥ ((-4611686018427387904) : Int)))
 (br (decide (_x1.Int ≤ (4611686018427387904 : Int)))
 (K0 (_x1.Text.toList == (ByteArray.mk #[]).toList))
 (K0 false))
 (K0 false))
 (br (_x1.Kind == (2 : Int))
 (0 ≤ (1 : Int) ∧
 br ((Int.fdiv _x1.Int (2 ^ (min (1 : Int).toNat (IntKind.bits .i64)))) == (0 : Int))
 (K0 (_x1.Text.toList == (ByteArray.mk #[]).toList))
 (K0 false))
 (br (_x1.Kind == (3 : Int))
 (br (_x1.Int == (0 : Int))
 (K0 (decide (((_x1.Text.size : Nat) : Int) ≤ (64 : Int))))
 (K0 false))
 (K0 false))))
def F_slices_ContainsFunc_api_Expr_api_Expr_v1 (T : Tab) (_a1 : Arr) (_n1 : Int) (K0 : Bool → Int → Prop) : Prop :=
 T.f_slices_IndexFunc_api_Expr_api_Expr_v1 _a1 _n1
 (fun _n2 _n3 =>
 K0 (decide (_n2 ≥ (0 : Int))) _n3)
abbrev YL_slices_IndexFunc_api_Expr_api_Expr_v1_0 := Arr → Int → Int → Int → (Int → Int → Prop) → (Int → Prop) → Prop
def B_slices_IndexFunc_api_Expr_api_Expr_v1_0 (T : Tab) (R : YL_slices_IndexFunc_api_Expr_api_Expr_v1_0) (_a1 : Arr) (_n1 : Int) (_n2 : Int) (_n3 : Int) (K0 : Int → Int → Prop) (K1 : Int → Prop) : Prop :=
 br (decide (_n2 < _n1))
 (0 ≤ _n2 ∧ _n2 < ((_a1.n : Nat) : Int) ∧
 as_api_Expr (_a1.g (_n2.toNat)) fun x8 =>
 T.f_syntax_rightExpr_1 x8 _n3
 (fun _b1 _n4 =>
 br _b1
 (K0 _n2 _n4)
 (R _a1 _n1 (W (_n2 + (1 : Int))) _n4 K0 K1)))
 (K1 _n3)
def L_slices_IndexFunc_api_Expr_api_Expr_v1_0 (T : Tab) : Nat → YL_slices_IndexFunc_api_Expr_api_Expr_v1_0
  | 0 => fun _ _ _ _ _ _ => False
  | n + 1 => B_slices_IndexFunc_api_Expr_api_Expr_v1_0 T (L_slices_IndexFunc_api_Expr_api_Expr_v1_0 T n)
def F_slices_IndexFunc_api_Expr_api_Expr_v1 (T : Tab) (_a1 : Arr) (_n1 : Int) (K0 : Int → Int → Prop) : Prop :=
 L_slices_IndexFunc_api_Expr_api_Expr_v1_0 T T.fuel _a1 ((_a1.n : Nat) : Int) 0 _n1
 (fun n15 n16 =>
 K0 n15 n16)
 (fun n17 =>
 K0 (-1) n17)
def F_syntax_rightExpr_1 (T : Tab) (_x1 : S_api_Expr) (_n1 : Int) (K0 : Bool → Int → Prop) : Prop :=
 T.f_syntax_rightExpr _x1 (W (_n1 + (1 : Int)))
 (fun _b1 =>
 K0 (!_b1) _n1)
abbrev YL_syntax_rightSelect_4 := Arr → Int → Int → S_api_Stmt → Prop → (S_api_Stmt → Prop) → Prop
def B_syntax_rightSelect_4 (T : Tab) (R : YL_syntax_rightSelect_4) (_a1 : Arr) (_n1 : Int) (_n2 : Int) (_x1 : S_api_Stmt) (K0 : Prop) (K1 : S_api_Stmt → Prop) : Prop :=
 br (decide (_n2 < _n1))
 (0 ≤ _n2 ∧ _n2 < ((_a1.n : Nat) : Int) ∧
 as_api_Sort (_a1.g (_n2.toNat)) fun x31 =>
 T.f_syntax_within x31.Item
 (fun _b1 =>
 br (!_b1)
 (K0 )
 (R _a1 _n1 (W (_n2 + (1 : Int))) _x1 K0 K1)))
 (K1 _x1)
def L_syntax_rightSelect_4 (T : Tab) : Nat → YL_syntax_rightSelect_4
  | 0 => fun _ _ _ _ _ _ => False
  | n + 1 => B_syntax_rightSelect_4 T (L_syntax_rightSelect_4 T n)
abbrev YL_syntax_rightSelect_2 := Arr → Int → Int → S_api_Stmt → Prop → (S_api_Stmt → Prop) → Prop
def B_syntax_rightSelect_2 (T : Tab) (R : YL_syntax_rightSelect_2) (_a1 : Arr) (_n1 : Int) (_n2 : Int) (_x1 : S_api_Stmt) (K0 : Prop) (K1 : S_api_Stmt → Prop) : Prop :=
 br (decide (_n2 < _n1))
 (0 ≤ _n2 ∧ _n2 < ((_a1.n : Nat) : Int) ∧
 as_api_Expr (_a1.g (_n2.toNat)) fun x19 =>
 br (x19.Kind != (3 : Int))
 (K0 )
 (R _a1 _n1 (W (_n2 + (1 : Int))) _x1 K0 K1))
 (K1 _x1)
def L_syntax_rightSelect_2 (T : Tab) : Nat → YL_syntax_rightSelect_2
  | 0 => fun _ _ _ _ _ _ => False
  | n + 1 => B_syntax_rightSelect_2 T (L_syntax_rightSelect_2 T n)
abbrev YL_syntax_rightSelect_0 := Arr → Int → Int → S_api_Stmt → Prop → (S_api_Stmt → Prop) → Prop
def B_syntax_rightSelect_0 (T : Tab) (R : YL_syntax_rightSelect_0) (_a1 : Arr) (_n1 : Int) (_n2 : Int) (_x1 : S_api_Stmt) (K0 : Prop) (K1 : S_api_Stmt → Prop) : Prop :=
 br (decide (_n2 < _n1))
 (0 ≤ _n2 ∧ _n2 < ((_a1.n : Nat) : Int) ∧
 as_api_Expr (_a1.g (_n2.toNat)) fun x7 =>
 T.f_syntax_rightItem x7
 (fun _b1 =>
 br (!_b1)
 (K0 )
 (R _a1 _n1 (W (_n2 + (1 : Int))) _x1 K0 K1)))
 (K1 _x1)
def L_syntax_rightSelect_0 (T : Tab) : Nat → YL_syntax_rightSelect_0
  | 0 => fun _ _ _ _ _ _ => False
  | n + 1 => B_syntax_rightSelect_0 T (L_syntax_rightSelect_0 T n)
def F_syntax_rightSelect (T : Tab) (_x1 : S_api_Stmt) (K0 : Bool → Prop) : Prop :=
 L_syntax_rightSelect_0 T T.fuel _x1.Items ((_x1.Items.n : Nat) : Int) 0 _x1
 (K0 false)
 (fun x13 =>
 L_syntax_rightSelect_2 T T.fuel x13.Groups ((x13.Groups.n : Nat) : Int) 0 x13
 (K0 false)
 (fun x24 =>
 L_syntax_rightSelect_4 T T.fuel x24.Sorts ((x24.Sorts.n : Nat) : Int) 0 x24
 (K0 false)
 (fun x37 =>
 br (x37.Join.toList == (ByteArray.mk #[]).toList)
 (br (((x37.On.n : Nat) : Int) == (0 : Int))
 (T.f_syntax_rights x37.On
 (fun _b1 =>
 br _b1
 (T.f_syntax_rights x37.Groups
 (fun _b2 =>
 br _b2
 (br (x37.Star == (((x37.Items.n : Nat) : Int) == (0 : Int)))
 (br (decide (((x37.Items.n : Nat) : Int) ≤ (8 : Int)))
 (br (decide (((x37.Groups.n : Nat) : Int) ≤ (8 : Int)))
 (br (decide (((x37.Sorts.n : Nat) : Int) ≤ (8 : Int)))
 (br (decide (((x37.Limit.n : Nat) : Int) ≤ (1 : Int)))
 (T.f_slices_ContainsFunc_int_int x37.Limit
 (fun _b3 =>
 br (!_b3)
 (K0 (((x37.Sets.n : Nat) : Int) == (0 : Int)))
 (K0 false)))
 (K0 false))
 (K0 false))
 (K0 false))
 (K0 false))
 (K0 false))
 (K0 false)))
 (K0 false)))
 (T.f_lex_IsName x37.Join
 (fun _b4 =>
 br _b4
 (br (((x37.On.n : Nat) : Int) == (1 : Int))
 (T.f_syntax_rights x37.On
 (fun _b5 =>
 br _b5
 (T.f_syntax_rights x37.Groups
 (fun _b6 =>
 br _b6
 (br (x37.Star == (((x37.Items.n : Nat) : Int) == (0 : Int)))
 (br (decide (((x37.Items.n : Nat) : Int) ≤ (8 : Int)))
 (br (decide (((x37.Groups.n : Nat) : Int) ≤ (8 : Int)))
 (br (decide (((x37.Sorts.n : Nat) : Int) ≤ (8 : Int)))
 (br (decide (((x37.Limit.n : Nat) : Int) ≤ (1 : Int)))
 (T.f_slices_ContainsFunc_int_int x37.Limit
 (fun _b7 =>
 br (!_b7)
 (K0 (((x37.Sets.n : Nat) : Int) == (0 : Int)))
 (K0 false)))
 (K0 false))
 (K0 false))
 (K0 false))
 (K0 false))
 (K0 false))
 (K0 false)))
 (K0 false)))
 (K0 false))
 (K0 false))))
 (T.f_lex_IsName x37.Join
 (fun _b8 =>
 br _b8
 (br (((x37.On.n : Nat) : Int) == (1 : Int))
 (T.f_syntax_rights x37.On
 (fun _b9 =>
 br _b9
 (T.f_syntax_rights x37.Groups
 (fun _b10 =>
 br _b10
 (br (x37.Star == (((x37.Items.n : Nat) : Int) == (0 : Int)))
 (br (decide (((x37.Items.n : Nat) : Int) ≤ (8 : Int)))
 (br (decide (((x37.Groups.n : Nat) : Int) ≤ (8 : Int)))
 (br (decide (((x37.Sorts.n : Nat) : Int) ≤ (8 : Int)))
 (br (decide (((x37.Limit.n : Nat) : Int) ≤ (1 : Int)))
 (T.f_slices_ContainsFunc_int_int x37.Limit
 (fun _b11 =>
 br (!_b11)
 (K0 (((x37.Sets.n : Nat) : Int) == (0 : Int)))
 (K0 false)))
 (K0 false))
 (K0 false))
 (K0 false))
 (K0 false))
 (K0 false))
 (K0 false)))
 (K0 false)))
 (K0 false))
 (K0 false))))))
def F_syntax_rightItem (T : Tab) (_x1 : S_api_Expr) (K0 : Bool → Prop) : Prop :=
 br (_x1.Kind == (11 : Int))
 (br (((_x1.Kids.n : Nat) : Int) == (0 : Int))
 (br (_x1.Op == (0 : Int))
 (T.f_syntax_fields _x1
 (fun _b1 =>
 K0 _b1))
 (K0 false))
 (K0 false))
 (br (_x1.Kind == (12 : Int))
 (br (((_x1.Kids.n : Nat) : Int) == (1 : Int))
 (br (_x1.Op == (0 : Int))
 (T.f_syntax_fields _x1
 (fun _b2 =>
 br _b2
 (0 ≤ (0 : Int) ∧ (0 : Int) < ((_x1.Kids.n : Nat) : Int) ∧
 as_api_Expr (_x1.Kids.g 0) fun x3 =>
 T.f_syntax_rightExpr x3 2
 (fun _b3 =>
 K0 _b3))
 (K0 false)))
 (K0 false))
 (K0 false))
 (br (_x1.Kind == (13 : Int))
 (br (((_x1.Kids.n : Nat) : Int) == (1 : Int))
 (br (_x1.Op == (0 : Int))
 (T.f_syntax_fields _x1
 (fun _b4 =>
 br _b4
 (0 ≤ (0 : Int) ∧ (0 : Int) < ((_x1.Kids.n : Nat) : Int) ∧
 as_api_Expr (_x1.Kids.g 0) fun x6 =>
 T.f_syntax_rightExpr x6 2
 (fun _b5 =>
 K0 _b5))
 (K0 false)))
 (K0 false))
 (K0 false))
 (br (_x1.Kind == (14 : Int))
 (br (((_x1.Kids.n : Nat) : Int) == (1 : Int))
 (br (_x1.Op == (0 : Int))
 (T.f_syntax_fields _x1
 (fun _b6 =>
 br _b6
 (0 ≤ (0 : Int) ∧ (0 : Int) < ((_x1.Kids.n : Nat) : Int) ∧
 as_api_Expr (_x1.Kids.g 0) fun x9 =>
 T.f_syntax_rightExpr x9 2
 (fun _b7 =>
 K0 _b7))
 (K0 false)))
 (K0 false))
 (K0 false))
 (T.f_syntax_rightExpr _x1 1
 (fun _b8 =>
 K0 _b8)))))
def F_syntax_within (T : Tab) (_n1 : Int) (K0 : Bool → Prop) : Prop :=
 br (decide (_n1 ≥ (0 : Int)))
 (K0 (decide (_n1 ≤ (4611686018427387904 : Int))))
 (K0 false)
def F_slices_ContainsFunc_int_int (T : Tab) (_a1 : Arr) (K0 : Bool → Prop) : Prop :=
 T.f_slices_IndexFunc_int_int _a1
 (fun _n1 =>
 K0 (decide (_n1 ≥ (0 : Int))))
abbrev YL_slices_IndexFunc_int_int_0 := Arr → Int → Int → (Int → Prop) → Prop → Prop
def B_slices_IndexFunc_int_int_0 (T : Tab) (R : YL_slices_IndexFunc_int_int_0) (_a1 : Arr) (_n1 : Int) (_n2 : Int) (K0 : Int → Prop) (K1 : Prop) : Prop :=
 br (decide (_n2 < _n1))
 (0 ≤ _n2 ∧ _n2 < ((_a1.n : Nat) : Int) ∧
 asI_i64 (_a1.g (_n2.toNat)) fun n6 =>
 T.f_syntax_rightSelect_1 n6
 (fun _b1 =>
 br _b1
 (K0 _n2)
 (R _a1 _n1 (W (_n2 + (1 : Int))) K0 K1)))
 (K1 )
def L_slices_IndexFunc_int_int_0 (T : Tab) : Nat → YL_slices_IndexFunc_int_int_0
  | 0 => fun _ _ _ _ _ => False
  | n + 1 => B_slices_IndexFunc_int_int_0 T (L_slices_IndexFunc_int_int_0 T n)
def F_slices_IndexFunc_int_int (T : Tab) (_a1 : Arr) (K0 : Int → Prop) : Prop :=
 L_slices_IndexFunc_int_int_0 T T.fuel _a1 ((_a1.n : Nat) : Int) 0
 (fun n11 =>
 K0 n11)
 (K0 (-1))
def F_syntax_rightSelect_1 (T : Tab) (_n1 : Int) (K0 : Bool → Prop) : Prop :=
 T.f_syntax_within _n1
 (fun _b1 =>
 K0 (!_b1))
def F_syntax_rightSets (T : Tab) (_a1 : Arr) (K0 : Bool → Prop) : Prop :=
 T.f_slices_ContainsFunc_api_Set_api_Set _a1
 (fun _b1 =>
 K0 (!_b1))
def F_slices_ContainsFunc_api_Set_api_Set (T : Tab) (_a1 : Arr) (K0 : Bool → Prop) : Prop :=
 T.f_slices_IndexFunc_api_Set_api_Set _a1
 (fun _n1 =>
 K0 (decide (_n1 ≥ (0 : Int))))
abbrev YL_slices_IndexFunc_api_Set_api_Set_0 := Arr → Int → Int → (Int → Prop) → Prop → Prop
def B_slices_IndexFunc_api_Set_api_Set_0 (T : Tab) (R : YL_slices_IndexFunc_api_Set_api_Set_0) (_a1 : Arr) (_n1 : Int) (_n2 : Int) (K0 : Int → Prop) (K1 : Prop) : Prop :=
 br (decide (_n2 < _n1))
 (0 ≤ _n2 ∧ _n2 < ((_a1.n : Nat) : Int) ∧
 as_api_Set (_a1.g (_n2.toNat)) fun x6 =>
 T.f_syntax_rightSets_1 x6
 (fun _b1 =>
 br _b1
 (K0 _n2)
 (R _a1 _n1 (W (_n2 + (1 : Int))) K0 K1)))
 (K1 )
def L_slices_IndexFunc_api_Set_api_Set_0 (T : Tab) : Nat → YL_slices_IndexFunc_api_Set_api_Set_0
  | 0 => fun _ _ _ _ _ => False
  | n + 1 => B_slices_IndexFunc_api_Set_api_Set_0 T (L_slices_IndexFunc_api_Set_api_Set_0 T n)
def F_slices_IndexFunc_api_Set_api_Set (T : Tab) (_a1 : Arr) (K0 : Int → Prop) : Prop :=
 L_slices_IndexFunc_api_Set_api_Set_0 T T.fuel _a1 ((_a1.n : Nat) : Int) 0
 (fun n11 =>
 K0 n11)
 (K0 (-1))
def F_syntax_rightSets_1 (T : Tab) (_x1 : S_api_Set) (K0 : Bool → Prop) : Prop :=
 T.f_lex_IsName _x1.Name
 (fun _b1 =>
 br (!_b1)
 (K0 true)
 (T.f_syntax_rightExpr ⟨_x1.Expr_Kind, _x1.Expr_Op, _x1.Expr_Value_Kind, _x1.Expr_Value_Int, _x1.Expr_Value_Text, _x1.Expr_Table, _x1.Expr_Name, _x1.Expr_Kids, _x1.Expr_At⟩ 1
 (fun _b2 =>
 K0 (!_b2))))
def F_check_checker_statement (T : Tab) (_x1 : S_api_Stmt) (_a1 : Arr) (_a2 : Arr) (_n1 : Int) (_n2 : Int) (_m1 : List (PV × PV)) (_m2 : List (PV × PV)) (K0 : S_api_Typed → Bool → Arr → Arr → Int → Int → (List (PV × PV)) → (List (PV × PV)) → Prop) : Prop :=
 T.f_check_checker_names _x1 _a1 _a2 _n1 _n2 _m1 _m2
 (fun _a3 _b1 _a4 _a5 _n3 _n4 _m3 _m4 =>
 br (!_b1)
 (K0 ⟨_x1.Kind, _a3, (lst true []), (lst true []), (lst true []), (lst true []), false, (lst true []), (lst true []), (lst true []), (lst true [])⟩ false _a4 _a5 _n3 _n4 _m3 _m4)
 (br (_x1.Kind != (1 : Int))
 (T.f_check_checker_open _a3 _a4 _a5 _n3 _n4 _m3 _m4
 (fun _a6 _a7 _n5 _n6 _m5 _m6 =>
 T.f_check_checker_truths _x1.On _a6 _a7 _n5 _n6 _m5 _m6
 (fun _a8 _b2 _a9 _a10 _n7 _n8 _m7 _m8 =>
 br (!_b2)
 (K0 ⟨_x1.Kind, _a3, _a8, (lst true []), (lst true []), (lst true []), false, (lst true []), (lst true []), (lst true []), (lst true [])⟩ false _a9 _a10 _n7 _n8 _m7 _m8)
 (T.f_check_checker_truths _x1.Where _a9 _a10 _n7 _n8 _m7 _m8
 (fun _a11 _b3 _a12 _a13 _n9 _n10 _m9 _m10 =>
 br (!_b3)
 (K0 ⟨_x1.Kind, _a3, _a8, _a11, (lst true []), (lst true []), false, (lst true []), (lst true []), (lst true []), (lst true [])⟩ false _a12 _a13 _n9 _n10 _m9 _m10)
 (0 ≤ (0 : Int) ∧ (0 : Int) < ((_a3.n : Nat) : Int) ∧
 asI_i64 (_a3.g 0) fun n31 =>
 0 ≤ n31 ∧ n31 < ((_a12.n : Nat) : Int) ∧
 as_api_Table (_a12.g (n31.toNat)) fun x32 =>
 br (_x1.Kind == (1 : Int))
 (T.f_check_checker_insert _x1 x32 _a12 _a13 _n9 _n10 _m9 _m10 _x1.Kind _a3 _a8 _a11 false
 (fun _a14 _a15 _n11 _n12 _m11 _m12 _n13 _a16 _a17 _a18 _b4 =>
 K0 ⟨_n13, _a16, _a17, _a18, (lst true []), (lst true []), _b4, (lst true []), (lst true []), (lst true []), (lst true [])⟩ false _a14 _a15 _n11 _n12 _m11 _m12)
 (fun _b5 _a19 _a20 _n14 _n15 _m13 _m14 _n16 _a21 _a22 _a23 _b6 _r1 =>
 K0 ⟨_n16, _a21, _a22, _a23, (lst true _r1), (lst true []), _b6, (lst true []), (lst true []), (lst true []), (lst true [])⟩ _b5 _a19 _a20 _n14 _n15 _m13 _m14))
 (br (_x1.Kind == (2 : Int))
 (T.f_check_checker_update _x1 x32 _a12 _a13 _n9 _n10 _m9 _m10 _x1.Kind _a3 _a8 _a11 false
 (fun _b7 _a24 _a25 _n17 _n18 _m15 _m16 _n19 _a26 _a27 _a28 _b8 _r2 _r3 =>
 K0 ⟨_n19, _a26, _a27, _a28, (lst true _r2), (lst true _r3), _b8, (lst true []), (lst true []), (lst true []), (lst true [])⟩ _b7 _a24 _a25 _n17 _n18 _m15 _m16))
 (br (_x1.Kind == (4 : Int))
 (T.f_check_checker_choose _x1 _a12 _a13 _n9 _n10 _m9 _m10 _x1.Kind _a3 _a8 _a11 false
 (fun _a29 _a30 _n20 _n21 _m17 _m18 _n22 _a31 _a32 _a33 _b9 _r4 =>
 K0 ⟨_n22, _a31, _a32, _a33, (lst true []), (lst true []), _b9, (lst true _r4), (lst true []), (lst true []), (lst true [])⟩ false _a29 _a30 _n20 _n21 _m17 _m18)
 (fun _a34 _a35 _n23 _n24 _m19 _m20 _n25 _a36 _a37 _a38 _b10 _r5 _r6 =>
 K0 ⟨_n25, _a36, _a37, _a38, (lst true _r5), (lst true []), _b10, (lst true _r6), (lst true []), (lst true []), (lst true [])⟩ false _a34 _a35 _n23 _n24 _m19 _m20)
 (fun _a39 _a40 _n26 _n27 _m21 _m22 _n28 _a41 _a42 _a43 _b11 _r7 _r8 _r9 =>
 K0 ⟨_n28, _a41, _a42, _a43, (lst true _r7), (lst true []), _b11, (lst true _r8), (lst true _r9), (lst true []), (lst true [])⟩ false _a39 _a40 _n26 _n27 _m21 _m22)
 (fun _a44 _a45 _n29 _n30 _m23 _m24 _n31 _a46 _a47 _a48 _b12 _r10 _r11 _r12 _r13 _r14 =>
 K0 ⟨_n31, _a46, _a47, _a48, (lst true _r10), (lst true []), _b12, (lst true _r11), (lst true _r12), (lst true _r13), (lst true _r14)⟩ true _a44 _a45 _n29 _n30 _m23 _m24))
 (K0 ⟨_x1.Kind, _a3, _a8, _a11, (lst true []), (lst true []), false, (lst true []), (lst true []), (lst true []), (lst true [])⟩ _b3 _a12 _a13 _n9 _n10 _m9 _m10)))))))))
 (T.f_check_checker_truths _x1.On _a4 _a5 _n3 _n4 _m3 _m4
 (fun _a49 _b13 _a50 _a51 _n32 _n33 _m25 _m26 =>
 br (!_b13)
 (K0 ⟨_x1.Kind, _a3, _a49, (lst true []), (lst true []), (lst true []), false, (lst true []), (lst true []), (lst true []), (lst true [])⟩ false _a50 _a51 _n32 _n33 _m25 _m26)
 (T.f_check_checker_truths _x1.Where _a50 _a51 _n32 _n33 _m25 _m26
 (fun _a52 _b14 _a53 _a54 _n34 _n35 _m27 _m28 =>
 br (!_b14)
 (K0 ⟨_x1.Kind, _a3, _a49, _a52, (lst true []), (lst true []), false, (lst true []), (lst true []), (lst true []), (lst true [])⟩ false _a53 _a54 _n34 _n35 _m27 _m28)
 (0 ≤ (0 : Int) ∧ (0 : Int) < ((_a3.n : Nat) : Int) ∧
 asI_i64 (_a3.g 0) fun n142 =>
 0 ≤ n142 ∧ n142 < ((_a53.n : Nat) : Int) ∧
 as_api_Table (_a53.g (n142.toNat)) fun x143 =>
 br (_x1.Kind == (1 : Int))
 (T.f_check_checker_insert _x1 x143 _a53 _a54 _n34 _n35 _m27 _m28 _x1.Kind _a3 _a49 _a52 false
 (fun _a55 _a56 _n36 _n37 _m29 _m30 _n38 _a57 _a58 _a59 _b15 =>
 K0 ⟨_n38, _a57, _a58, _a59, (lst true []), (lst true []), _b15, (lst true []), (lst true []), (lst true []), (lst true [])⟩ false _a55 _a56 _n36 _n37 _m29 _m30)
 (fun _b16 _a60 _a61 _n39 _n40 _m31 _m32 _n41 _a62 _a63 _a64 _b17 _r15 =>
 K0 ⟨_n41, _a62, _a63, _a64, (lst true _r15), (lst true []), _b17, (lst true []), (lst true []), (lst true []), (lst true [])⟩ _b16 _a60 _a61 _n39 _n40 _m31 _m32))
 (br (_x1.Kind == (2 : Int))
 (T.f_check_checker_update _x1 x143 _a53 _a54 _n34 _n35 _m27 _m28 _x1.Kind _a3 _a49 _a52 false
 (fun _b18 _a65 _a66 _n42 _n43 _m33 _m34 _n44 _a67 _a68 _a69 _b19 _r16 _r17 =>
 K0 ⟨_n44, _a67, _a68, _a69, (lst true _r16), (lst true _r17), _b19, (lst true []), (lst true []), (lst true []), (lst true [])⟩ _b18 _a65 _a66 _n42 _n43 _m33 _m34))
 (br (_x1.Kind == (4 : Int))
 (T.f_check_checker_choose _x1 _a53 _a54 _n34 _n35 _m27 _m28 _x1.Kind _a3 _a49 _a52 false
 (fun _a70 _a71 _n45 _n46 _m35 _m36 _n47 _a72 _a73 _a74 _b20 _r18 =>
 K0 ⟨_n47, _a72, _a73, _a74, (lst true []), (lst true []), _b20, (lst true _r18), (lst true []), (lst true []), (lst true [])⟩ false _a70 _a71 _n45 _n46 _m35 _m36)
 (fun _a75 _a76 _n48 _n49 _m37 _m38 _n50 _a77 _a78 _a79 _b21 _r19 _r20 =>
 K0 ⟨_n50, _a77, _a78, _a79, (lst true _r19), (lst true []), _b21, (lst true _r20), (lst true []), (lst true []), (lst true [])⟩ false _a75 _a76 _n48 _n49 _m37 _m38)
 (fun _a80 _a81 _n51 _n52 _m39 _m40 _n53 _a82 _a83 _a84 _b22 _r21 _r22 _r23 =>
 K0 ⟨_n53, _a82, _a83, _a84, (lst true _r21), (lst true []), _b22, (lst true _r22), (lst true _r23), (lst true []), (lst true [])⟩ false _a80 _a81 _n51 _n52 _m39 _m40)
 (fun _a85 _a86 _n54 _n55 _m41 _m42 _n56 _a87 _a88 _a89 _b23 _r24 _r25 _r26 _r27 _r28 =>
 K0 ⟨_n56, _a87, _a88, _a89, (lst true _r24), (lst true []), _b23, (lst true _r25), (lst true _r26), (lst true _r27), (lst true _r28)⟩ true _a85 _a86 _n54 _n55 _m41 _m42))
 (K0 ⟨_x1.Kind, _a3, _a49, _a52, (lst true []), (lst true []), false, (lst true []), (lst true []), (lst true []), (lst true [])⟩ _b14 _a53 _a54 _n34 _n35 _m27 _m28))))))))))
def F_check_checker_names (T : Tab) (_x1 : S_api_Stmt) (_a1 : Arr) (_a2 : Arr) (_n1 : Int) (_n2 : Int) (_m1 : List (PV × PV)) (_m2 : List (PV × PV)) (K0 : Arr → Bool → Arr → Arr → Int → Int → (List (PV × PV)) → (List (PV × PV)) → Prop) : Prop :=
 T.f_check_tableOf ⟨_a1, _a2⟩ _x1.Table
 (fun _n3 =>
 br (decide (_n3 < (0 : Int)))
 (T.f_check_checker_fails 82 _x1.At _a1 _a2 _n1 _n2 _m1 _m2
 (fun _a3 _a4 _n4 _n5 _m3 _m4 =>
 K0 (lst true []) false _a3 _a4 _n4 _n5 _m3 _m4))
 (br (_x1.Join.toList == (ByteArray.mk #[]).toList)
 (K0 (lst true ([(PV.int .i64 _n3)])) true _a1 _a2 _n1 _n2 _m1 _m2)
 (T.f_check_tableOf ⟨_a1, _a2⟩ _x1.Join
 (fun _n6 =>
 br (decide (_n6 < (0 : Int)))
 (T.f_check_checker_fails 82 _x1.JoinAt _a1 _a2 _n1 _n2 _m1 _m2
 (fun _a5 _a6 _n7 _n8 _m5 _m6 =>
 K0 (lst true []) false _a5 _a6 _n7 _n8 _m5 _m6))
 (br (_n6 == _n3)
 (T.f_check_checker_fails 81 _x1.JoinAt _a1 _a2 _n1 _n2 _m1 _m2
 (fun _a7 _a8 _n9 _n10 _m7 _m8 =>
 K0 (lst true []) false _a7 _a8 _n9 _n10 _m7 _m8))
 (K0 (lst true ([(PV.int .i64 _n3), (PV.int .i64 _n6)])) true _a1 _a2 _n1 _n2 _m1 _m2))))))
abbrev YL_check_tableOf_0 := ByteArray → Arr → Int → Int → (Int → Prop) → Prop → Prop
def B_check_tableOf_0 (T : Tab) (R : YL_check_tableOf_0) (_s1 : ByteArray) (_a1 : Arr) (_n1 : Int) (_n2 : Int) (K0 : Int → Prop) (K1 : Prop) : Prop :=
 br (decide (_n2 < _n1))
 (0 ≤ _n2 ∧ _n2 < ((_a1.n : Nat) : Int) ∧
 as_api_Table (_a1.g (_n2.toNat)) fun x6 =>
 br (x6.Name.toList == _s1.toList)
 (K0 _n2)
 (R _s1 _a1 _n1 (W (_n2 + (1 : Int))) K0 K1))
 (K1 )
def L_check_tableOf_0 (T : Tab) : Nat → YL_check_tableOf_0
  | 0 => fun _ _ _ _ _ _ => False
  | n + 1 => B_check_tableOf_0 T (L_check_tableOf_0 T n)
def F_check_tableOf (T : Tab) (_x1 : S_api_Catalog) (_s1 : ByteArray) (K0 : Int → Prop) : Prop :=
 L_check_tableOf_0 T T.fuel _s1 _x1.Tables ((_x1.Tables.n : Nat) : Int) 0
 (fun n11 =>
 K0 n11)
 (K0 (-1))
def F_check_checker_fails (T : Tab) (_n1 : Int) (_n2 : Int) (_a1 : Arr) (_a2 : Arr) (_n3 : Int) (_n4 : Int) (_m1 : List (PV × PV)) (_m2 : List (PV × PV)) (K0 : Arr → Arr → Int → Int → (List (PV × PV)) → (List (PV × PV)) → Prop) : Prop :=
 br (_n3 == (0 : Int))
 (K0 _a1 _a2 _n1 _n2 _m1 _m2)
 (K0 _a1 _a2 _n3 _n4 _m1 _m2)
abbrev YL_check_checker_open_4 := Int → Arr → Int → Int → Arr → Int → Int → Int → Int → Arr → Arr → Int → Int → (List (PV × PV)) → (List (PV × PV)) → S_api_Table → S_api_Column → (List PV) → (Int → Arr → Int → Int → Arr → Int → Int → Arr → Arr → Int → Int → (List (PV × PV)) → (List (PV × PV)) → S_api_Table → Prop) → Prop
def B_check_checker_open_4 (T : Tab) (R : YL_check_checker_open_4) (_n1 : Int) (_a1 : Arr) (_n2 : Int) (_n3 : Int) (_a2 : Arr) (_n4 : Int) (_n5 : Int) (_n6 : Int) (_n7 : Int) (_a3 : Arr) (_a4 : Arr) (_n8 : Int) (_n9 : Int) (_m1 : List (PV × PV)) (_m2 : List (PV × PV)) (_x1 : S_api_Table) (_x2 : S_api_Column) (_r1 : List PV) (K0 : Int → Arr → Int → Int → Arr → Int → Int → Arr → Arr → Int → Int → (List (PV × PV)) → (List (PV × PV)) → S_api_Table → Prop) : Prop :=
 br (decide (_n7 < _n6))
 (0 ≤ _n7 ∧ _n7 < ((_r1.length : Nat) : Int) ∧
 as_arr2_string (_r1.getD _n7.toNat .nilp) fun x24 =>
 as_check_place ((look (PV.agg (p_arr2_string x24)) _m2).getD (PV.agg [.int .i64 0, .int .i64 0, .int .i64 0])) fun x25 =>
 R _n1 _a1 _n2 _n3 _a2 _n4 _n5 _n6 (W (_n7 + (1 : Int))) _a3 _a4 _n8 _n9 _m1 (setK (PV.agg (p_arr2_string x24)) (PV.agg [.int .i64 _n1, .int .i64 _x2.Type_, .int .i64 (W (x25.many + (1 : Int)))]) _m2) _x1 _x2 _r1 K0)
 (K0 _n1 _a1 _n2 _n3 _a2 _n4 _n5 _a3 _a4 _n8 _n9 _m1 _m2 _x1)
def L_check_checker_open_4 (T : Tab) : Nat → YL_check_checker_open_4
  | 0 => fun _ _ _ _ _ _ _ _ _ _ _ _ _ _ _ _ _ _ _ => False
  | n + 1 => B_check_checker_open_4 T (L_check_checker_open_4 T n)
abbrev YL_check_checker_open_2 := Int → Arr → Int → Int → Arr → Int → Int → Arr → Arr → Int → Int → (List (PV × PV)) → (List (PV × PV)) → S_api_Table → (Int → Arr → Int → Int → Arr → Arr → Int → Int → (List (PV × PV)) → (List (PV × PV)) → Prop) → Prop
def B_check_checker_open_2 (T : Tab) (R : YL_check_checker_open_2) (_n1 : Int) (_a1 : Arr) (_n2 : Int) (_n3 : Int) (_a2 : Arr) (_n4 : Int) (_n5 : Int) (_a3 : Arr) (_a4 : Arr) (_n6 : Int) (_n7 : Int) (_m1 : List (PV × PV)) (_m2 : List (PV × PV)) (_x1 : S_api_Table) (K0 : Int → Arr → Int → Int → Arr → Arr → Int → Int → (List (PV × PV)) → (List (PV × PV)) → Prop) : Prop :=
 br (decide (_n5 < _n4))
 (0 ≤ _n5 ∧ _n5 < ((_a2.n : Nat) : Int) ∧
 as_api_Column (_a2.g (_n5.toNat)) fun x72 =>
 L_check_checker_open_4 T T.fuel _n1 _a1 _n2 _n3 _a2 _n4 _n5 2 0 _a3 _a4 _n6 _n7 _m1 _m2 _x1 x72 ([(PV.agg [.str _x1.Name, .str x72.Name]), (PV.agg [.str (ByteArray.mk #[]), .str x72.Name])])
 (fun n73 a74 n75 n76 a77 n78 n79 a80 a81 n82 n83 m84 m85 x86 =>
 R (W (n73 + (1 : Int))) a74 n75 n76 a77 n78 (W (n79 + (1 : Int))) a80 a81 n82 n83 m84 m85 x86 K0))
 (K0 _n1 _a1 _n2 _n3 _a3 _a4 _n6 _n7 _m1 _m2)
def L_check_checker_open_2 (T : Tab) : Nat → YL_check_checker_open_2
  | 0 => fun _ _ _ _ _ _ _ _ _ _ _ _ _ _ _ => False
  | n + 1 => B_check_checker_open_2 T (L_check_checker_open_2 T n)
abbrev YL_check_checker_open_0 := Int → Arr → Int → Int → Arr → Arr → Int → Int → (List (PV × PV)) → (List (PV × PV)) → (Arr → Arr → Int → Int → (List (PV × PV)) → (List (PV × PV)) → Prop) → Prop
def B_check_checker_open_0 (T : Tab) (R : YL_check_checker_open_0) (_n1 : Int) (_a1 : Arr) (_n2 : Int) (_n3 : Int) (_a2 : Arr) (_a3 : Arr) (_n4 : Int) (_n5 : Int) (_m1 : List (PV × PV)) (_m2 : List (PV × PV)) (K0 : Arr → Arr → Int → Int → (List (PV × PV)) → (List (PV × PV)) → Prop) : Prop :=
 br (decide (_n3 < _n2))
 (0 ≤ _n3 ∧ _n3 < ((_a1.n : Nat) : Int) ∧
 asI_i64 (_a1.g (_n3.toNat)) fun n121 =>
 0 ≤ n121 ∧ n121 < ((_a2.n : Nat) : Int) ∧
 as_api_Table (_a2.g (n121.toNat)) fun x122 =>
 L_check_checker_open_2 T T.fuel _n1 _a1 _n2 _n3 x122.Columns ((x122.Columns.n : Nat) : Int) 0 _a2 _a3 _n4 _n5 _m1 _m2 x122
 (fun n123 a124 n125 n126 a127 a128 n129 n130 m131 m132 =>
 R n123 a124 n125 (W (n126 + (1 : Int))) a127 a128 n129 n130 m131 m132 K0))
 (K0 _a2 _a3 _n4 _n5 _m1 _m2)
def L_check_checker_open_0 (T : Tab) : Nat → YL_check_checker_open_0
  | 0 => fun _ _ _ _ _ _ _ _ _ _ _ => False
  | n + 1 => B_check_checker_open_0 T (L_check_checker_open_0 T n)
def F_check_checker_open (T : Tab) (_a1 : Arr) (_a2 : Arr) (_a3 : Arr) (_n1 : Int) (_n2 : Int) (_m1 : List (PV × PV)) (_m2 : List (PV × PV)) (K0 : Arr → Arr → Int → Int → (List (PV × PV)) → (List (PV × PV)) → Prop) : Prop :=
 L_check_checker_open_0 T T.fuel 0 _a1 ((_a1.n : Nat) : Int) 0 _a2 _a3 _n1 _n2 _m1 _m2
 (fun a143 a144 n145 n146 m147 m148 =>
 K0 a143 a144 n145 n146 m147 m148)
abbrev YL_check_checker_truths_0 := Arr → Int → Int → Arr → Arr → Int → Int → (List (PV × PV)) → (List (PV × PV)) → (List PV) → (Arr → Arr → Int → Int → (List (PV × PV)) → (List (PV × PV)) → Prop) → (Arr → Arr → Int → Int → (List (PV × PV)) → (List (PV × PV)) → (List PV) → Prop) → Prop
def B_check_checker_truths_0 (T : Tab) (R : YL_check_checker_truths_0) (_a1 : Arr) (_n1 : Int) (_n2 : Int) (_a2 : Arr) (_a3 : Arr) (_n3 : Int) (_n4 : Int) (_m1 : List (PV × PV)) (_m2 : List (PV × PV)) (_r1 : List PV) (K0 : Arr → Arr → Int → Int → (List (PV × PV)) → (List (PV × PV)) → Prop) (K1 : Arr → Arr → Int → Int → (List (PV × PV)) → (List (PV × PV)) → (List PV) → Prop) : Prop :=
 br (decide (_n2 < _n1))
 (0 ≤ _n2 ∧ _n2 < ((_a1.n : Nat) : Int) ∧
 as_api_Expr (_a1.g (_n2.toNat)) fun x28 =>
 T.f_check_checker_of 2 _a2 _a3 _n3 _n4 _m1 _m2
 (fun _a4 _a5 _n5 _n6 _m3 _m4 _n7 =>
 T.f_check_checker_of_1 x28 _a4 _a5 _n5 _n6 _m3 _m4 _n7
 (fun _x1 _b1 _a6 _a7 _n8 _n9 _m5 _m6 _n10 =>
 br (!_b1)
 (K0 _a6 _a7 _n8 _n9 _m5 _m6)
 ((_r1.length + 1) * 80 ≤ 140737488355328 ∧
 R _a1 _n1 (W (_n2 + (1 : Int))) _a6 _a7 _n8 _n9 _m5 _m6 (_r1 ++ ([(PV.agg (p_api_Term _x1))])) K0 K1))))
 (K1 _a2 _a3 _n3 _n4 _m1 _m2 _r1)
def L_check_checker_truths_0 (T : Tab) : Nat → YL_check_checker_truths_0
  | 0 => fun _ _ _ _ _ _ _ _ _ _ _ _ => False
  | n + 1 => B_check_checker_truths_0 T (L_check_checker_truths_0 T n)
def F_check_checker_truths (T : Tab) (_a1 : Arr) (_a2 : Arr) (_a3 : Arr) (_n1 : Int) (_n2 : Int) (_m1 : List (PV × PV)) (_m2 : List (PV × PV)) (K0 : Arr → Bool → Arr → Arr → Int → Int → (List (PV × PV)) → (List (PV × PV)) → Prop) : Prop :=
 L_check_checker_truths_0 T T.fuel _a1 ((_a1.n : Nat) : Int) 0 _a2 _a3 _n1 _n2 _m1 _m2 ([])
 (fun a55 a56 n57 n58 m59 m60 =>
 K0 (lst true []) false a55 a56 n57 n58 m59 m60)
 (fun a61 a62 n63 n64 m65 m66 r67 =>
 K0 (lst true r67) true a61 a62 n63 n64 m65 m66)
def F_check_checker_of (T : Tab) (_n1 : Int) (_a1 : Arr) (_a2 : Arr) (_n2 : Int) (_n3 : Int) (_m1 : List (PV × PV)) (_m2 : List (PV × PV)) (K0 : Arr → Arr → Int → Int → (List (PV × PV)) → (List (PV × PV)) → Int → Prop) : Prop :=
 K0 _a1 _a2 _n2 _n3 _m1 _m2 _n1
def F_check_checker_of_1 (T : Tab) (_x1 : S_api_Expr) (_a1 : Arr) (_a2 : Arr) (_n1 : Int) (_n2 : Int) (_m1 : List (PV × PV)) (_m2 : List (PV × PV)) (_n3 : Int) (K0 : S_api_Term → Bool → Arr → Arr → Int → Int → (List (PV × PV)) → (List (PV × PV)) → Int → Prop) : Prop :=
 T.f_check_checker_term _x1 _a1 _a2 _n1 _n2 _m1 _m2
 (fun _x2 _b1 _a3 _a4 _n4 _n5 _m3 _m4 =>
 br _b1
 (br (_x2.Type_ != _n3)
 (br (_x2.Type_ != (0 : Int))
 (T.f_check_checker_fails 11 _x1.At _a3 _a4 _n4 _n5 _m3 _m4
 (fun _a5 _a6 _n6 _n7 _m5 _m6 =>
 K0 ⟨0, 0, 0, 0, 0, (ByteArray.mk #[]), (lst true [])⟩ false _a5 _a6 _n6 _n7 _m5 _m6 _n3))
 (K0 _x2 _b1 _a3 _a4 _n4 _n5 _m3 _m4 _n3))
 (K0 _x2 _b1 _a3 _a4 _n4 _n5 _m3 _m4 _n3))
 (K0 _x2 _b1 _a3 _a4 _n4 _n5 _m3 _m4 _n3))
abbrev YL_check_checker_term_4a := Int → Int → Arr → Arr → Int → Int → (List (PV × PV)) → (List (PV × PV)) → S_api_Expr → Int → Int → Int → Int → Int → ByteArray → Int → Int → Int → Int → Int → ByteArray → (List PV) → (Arr → Arr → Int → Int → (List (PV × PV)) → (List (PV × PV)) → S_api_Expr → Int → Int → Int → Int → Int → ByteArray → Int → Int → Int → Int → Int → ByteArray → (List PV) → Prop) → Prop
def B_check_checker_term_4a (T : Tab) (R : YL_check_checker_term_4a) (_n1 : Int) (_n2 : Int) (_a1 : Arr) (_a2 : Arr) (_n3 : Int) (_n4 : Int) (_m1 : List (PV × PV)) (_m2 : List (PV × PV)) (_x1 : S_api_Expr) (_n5 : Int) (_n6 : Int) (_n7 : Int) (_n8 : Int) (_n9 : Int) (_s1 : ByteArray) (_n10 : Int) (_n11 : Int) (_n12 : Int) (_n13 : Int) (_n14 : Int) (_s2 : ByteArray) (_r1 : List PV) (K0 : Arr → Arr → Int → Int → (List (PV × PV)) → (List (PV × PV)) → S_api_Expr → Int → Int → Int → Int → Int → ByteArray → Int → Int → Int → Int → Int → ByteArray → (List PV) → Prop) : Prop :=
 br (decide (_n2 < _n1))
 (0 ≤ _n2 ∧ _n2 < ((_r1.length : Nat) : Int) ∧
 as_api_Term (_r1.getD _n2.toNat .nilp) fun x251 =>
 T.f_check_wanted_2 x251.Type_
 (R _n1 (W (_n2 + (1 : Int))) _a1 _a2 _n3 _n4 _m1 _m2 _x1 _n5 _n6 _n7 _n8 _n9 _s1 _n10 _n11 _n12 _n13 _n14 _s2 _r1 K0))
 (K0 _a1 _a2 _n3 _n4 _m1 _m2 _x1 _n5 _n6 _n7 _n8 _n9 _s1 _n10 _n11 _n12 _n13 _n14 _s2 _r1)
def L_check_checker_term_4a (T : Tab) : Nat → YL_check_checker_term_4a
  | 0 => fun _ _ _ _ _ _ _ _ _ _ _ _ _ _ _ _ _ _ _ _ _ _ _ => False
  | n + 1 => B_check_checker_term_4a T (L_check_checker_term_4a T n)
abbrev YL_check_checker_term_4 := Int → Int → Arr → Arr → Int → Int → (List (PV × PV)) → (List (PV × PV)) → S_api_Expr → Int → Int → Int → Int → Int → ByteArray → Int → Int → Int → Int → Int → ByteArray → (List PV) → Int → (Arr → Arr → Int → Int → (List (PV × PV)) → (List (PV × PV)) → Int → Int → Int → Int → Int → ByteArray → Prop) → (Arr → Arr → Int → Int → (List (PV × PV)) → (List (PV × PV)) → S_api_Expr → Int → Int → Int → Int → Int → ByteArray → Int → Int → Int → Int → Int → ByteArray → (List PV) → Prop) → Prop
def B_check_checker_term_4 (T : Tab) (R : YL_check_checker_term_4) (_n1 : Int) (_n2 : Int) (_a1 : Arr) (_a2 : Arr) (_n3 : Int) (_n4 : Int) (_m1 : List (PV × PV)) (_m2 : List (PV × PV)) (_x1 : S_api_Expr) (_n5 : Int) (_n6 : Int) (_n7 : Int) (_n8 : Int) (_n9 : Int) (_s1 : ByteArray) (_n10 : Int) (_n11 : Int) (_n12 : Int) (_n13 : Int) (_n14 : Int) (_s2 : ByteArray) (_r1 : List PV) (_n15 : Int) (K0 : Arr → Arr → Int → Int → (List (PV × PV)) → (List (PV × PV)) → Int → Int → Int → Int → Int → ByteArray → Prop) (K1 : Arr → Arr → Int → Int → (List (PV × PV)) → (List (PV × PV)) → S_api_Expr → Int → Int → Int → Int → Int → ByteArray → Int → Int → Int → Int → Int → ByteArray → (List PV) → Prop) : Prop :=
 br (decide (_n2 < _n1))
 (0 ≤ _n2 ∧ _n2 < ((_r1.length : Nat) : Int) ∧
 as_api_Term (_r1.getD _n2.toNat .nilp) fun x151 =>
 T.f_check_wanted_1_1 x151.Type_ _n15
 (fun _b1 _n16 =>
 br (!_b1)
 (0 ≤ _n2 ∧ _n2 < ((_x1.Kids.n : Nat) : Int) ∧
 as_api_Expr (_x1.Kids.g (_n2.toNat)) fun x154 =>
 T.f_check_checker_fails 11 x154.At _a1 _a2 _n3 _n4 _m1 _m2
 (fun _a3 _a4 _n17 _n18 _m3 _m4 =>
 K0 _a3 _a4 _n17 _n18 _m3 _m4 0 0 0 0 0 (ByteArray.mk #[])))
 (R _n1 (W (_n2 + (1 : Int))) _a1 _a2 _n3 _n4 _m1 _m2 _x1 _n5 _n6 _n7 _n8 _n9 _s1 _n10 _n11 _n12 _n13 _n14 _s2 _r1 _n16 K0 K1)))
 (K1 _a1 _a2 _n3 _n4 _m1 _m2 _x1 _n5 _n6 _n7 _n8 _n9 _s1 _n10 _n11 _n12 _n13 _n14 _s2 _r1)
def L_check_checker_term_4 (T : Tab) : Nat → YL_check_checker_term_4
  | 0 => fun _ _ _ _ _ _ _ _ _ _ _ _ _ _ _ _ _ _ _ _ _ _ _ _ _ => False
  | n + 1 => B_check_checker_term_4 T (L_check_checker_term_4 T n)
abbrev YL_check_checker_term_2 := Arr → Int → Int → Arr → Arr → Int → Int → (List (PV × PV)) → (List (PV × PV)) → S_api_Expr → Int → Int → Int → Int → Int → ByteArray → Int → Int → Int → Int → Int → ByteArray → (List PV) → (Arr → Arr → Int → Int → (List (PV × PV)) → (List (PV × PV)) → Int → Int → Int → Int → Int → ByteArray → Prop) → (Arr → Arr → Int → Int → (List (PV × PV)) → (List (PV × PV)) → S_api_Expr → Int → Int → Int → Int → Int → ByteArray → Int → Int → Int → Int → Int → ByteArray → (List PV) → Prop) → Prop
def B_check_checker_term_2 (T : Tab) (R : YL_check_checker_term_2) (_a1 : Arr) (_n1 : Int) (_n2 : Int) (_a2 : Arr) (_a3 : Arr) (_n3 : Int) (_n4 : Int) (_m1 : List (PV × PV)) (_m2 : List (PV × PV)) (_x1 : S_api_Expr) (_n5 : Int) (_n6 : Int) (_n7 : Int) (_n8 : Int) (_n9 : Int) (_s1 : ByteArray) (_n10 : Int) (_n11 : Int) (_n12 : Int) (_n13 : Int) (_n14 : Int) (_s2 : ByteArray) (_r1 : List PV) (K0 : Arr → Arr → Int → Int → (List (PV × PV)) → (List (PV × PV)) → Int → Int → Int → Int → Int → ByteArray → Prop) (K1 : Arr → Arr → Int → Int → (List (PV × PV)) → (List (PV × PV)) → S_api_Expr → Int → Int → Int → Int → Int → ByteArray → Int → Int → Int → Int → Int → ByteArray → (List PV) → Prop) : Prop :=
 br (decide (_n2 < _n1))
 (0 ≤ _n2 ∧ _n2 < ((_a1.n : Nat) : Int) ∧
 as_api_Expr (_a1.g (_n2.toNat)) fun x53 =>
 T.f_check_checker_term x53 _a2 _a3 _n3 _n4 _m1 _m2
 (fun _x2 _b1 _a4 _a5 _n15 _n16 _m3 _m4 =>
 br (!_b1)
 (K0 _a4 _a5 _n15 _n16 _m3 _m4 0 0 0 0 0 (ByteArray.mk #[]))
 ((_r1.length + 1) * 80 ≤ 140737488355328 ∧
 R _a1 _n1 (W (_n2 + (1 : Int))) _a4 _a5 _n15 _n16 _m3 _m4 _x1 _n5 _n6 _n7 _n8 _n9 _s1 _n10 _n11 _n12 _n13 _n14 _s2 (_r1 ++ ([(PV.agg (p_api_Term _x2))])) K0 K1)))
 (K1 _a2 _a3 _n3 _n4 _m1 _m2 _x1 _n5 _n6 _n7 _n8 _n9 _s1 _n10 _n11 _n12 _n13 _n14 _s2 _r1)
def L_check_checker_term_2 (T : Tab) : Nat → YL_check_checker_term_2
  | 0 => fun _ _ _ _ _ _ _ _ _ _ _ _ _ _ _ _ _ _ _ _ _ _ _ _ _ => False
  | n + 1 => B_check_checker_term_2 T (L_check_checker_term_2 T n)
def F_check_checker_term (T : Tab) (_x1 : S_api_Expr) (_a1 : Arr) (_a2 : Arr) (_n1 : Int) (_n2 : Int) (_m1 : List (PV × PV)) (_m2 : List (PV × PV)) (K0 : S_api_Term → Bool → Arr → Arr → Int → Int → (List (PV × PV)) → (List (PV × PV)) → Prop) : Prop :=
 br (_x1.Kind == (1 : Int))
 (K0 ⟨_x1.Kind, 0, _x1.Value_Kind, _x1.Value_Kind, _x1.Value_Int, _x1.Value_Text, (lst true [])⟩ true _a1 _a2 _n1 _n2 _m1 _m2)
 (br (_x1.Kind == (2 : Int))
 (as_check_place ((look (PV.str _x1.Name) _m1).getD (PV.agg [.int .i64 0, .int .i64 0, .int .i64 0])) fun x1 =>
 br (!((look (PV.str _x1.Name) _m1).isSome))
 (T.f_check_checker_fails 82 _x1.At _a1 _a2 _n1 _n2 _m1 _m2
 (fun _a3 _a4 _n3 _n4 _m3 _m4 =>
 K0 ⟨0, 0, 0, 0, 0, (ByteArray.mk #[]), (lst true [])⟩ false _a3 _a4 _n3 _n4 _m3 _m4))
 (K0 ⟨_x1.Kind, x1.at', x1.kind, 0, 0, (ByteArray.mk #[]), (lst true [])⟩ true _a1 _a2 _n1 _n2 _m1 _m2))
 (br (_x1.Kind == (3 : Int))
 (as_check_place ((look (PV.agg [.str _x1.Table, .str _x1.Name]) _m2).getD (PV.agg [.int .i64 0, .int .i64 0, .int .i64 0])) fun x8 =>
 br (x8.many == (0 : Int))
 (T.f_check_checker_fails 82 _x1.At _a1 _a2 _n1 _n2 _m1 _m2
 (fun _a5 _a6 _n5 _n6 _m5 _m6 =>
 K0 ⟨0, 0, 0, 0, 0, (ByteArray.mk #[]), (lst true [])⟩ false _a5 _a6 _n5 _n6 _m5 _m6))
 (br (decide (x8.many > (1 : Int)))
 (T.f_check_checker_fails 81 _x1.At _a1 _a2 _n1 _n2 _m1 _m2
 (fun _a7 _a8 _n7 _n8 _m7 _m8 =>
 K0 ⟨0, 0, 0, 0, 0, (ByteArray.mk #[]), (lst true [])⟩ false _a7 _a8 _n7 _n8 _m7 _m8))
 (K0 ⟨_x1.Kind, x8.at', x8.kind, 0, 0, (ByteArray.mk #[]), (lst true [])⟩ true _a1 _a2 _n1 _n2 _m1 _m2)))
 (L_check_checker_term_2 T T.fuel _x1.Kids ((_x1.Kids.n : Nat) : Int) 0 _a1 _a2 _n1 _n2 _m1 _m2 _x1 0 0 0 0 0 (ByteArray.mk #[]) _x1.Kind _x1.Op 0 0 0 (ByteArray.mk #[]) ([])
 (fun a85 a86 n87 n88 m89 m90 n91 n92 n93 n94 n95 s96 =>
 K0 ⟨n91, n92, n93, n94, n95, s96, (lst true [])⟩ false a85 a86 n87 n88 m89 m90)
 (fun a97 a98 n99 n100 m101 m102 x103 n104 n105 n106 n107 n108 s109 n110 n111 n112 n113 n114 s115 r116 =>
 T.f_check_wanted x103.Kind
 (fun _n9 =>
 L_check_checker_term_4 T T.fuel ((r116.length : Nat) : Int) 0 a97 a98 n99 n100 m101 m102 x103 n104 n105 n106 n107 n108 s109 n110 n111 n112 n113 n114 s115 r116 _n9
 (fun a184 a185 n186 n187 m188 m189 n190 n191 n192 n193 n194 s195 =>
 K0 ⟨n190, n191, n192, n193, n194, s195, (lst true [])⟩ false a184 a185 n186 n187 m188 m189)
 (fun a196 a197 n198 n199 m200 m201 x202 n203 n204 n205 n206 n207 s208 n209 n210 n211 n212 n213 s214 r215 =>
 br (x202.Kind == (6 : Int))
 (T.f_check_unlike r215
 (fun _b1 _r1 =>
 br _b1
 (T.f_check_checker_fails 11 x202.At a196 a197 n198 n199 m200 m201
 (fun _a9 _a10 _n10 _n11 _m9 _m10 =>
 K0 ⟨0, 0, 0, 0, 0, (ByteArray.mk #[]), (lst true [])⟩ false _a9 _a10 _n10 _n11 _m9 _m10))
 (T.f_check_typeOf x202.Kind _r1
 (fun _n12 _r2 =>
 K0 ⟨n209, n210, _n12, n212, n213, s214, (lst true _r2)⟩ true a196 a197 n198 n199 m200 m201))))
 (T.f_check_typeOf x202.Kind r215
 (fun _n13 _r3 =>
 K0 ⟨n209, n210, _n13, n212, n213, s214, (lst true _r3)⟩ true a196 a197 n198 n199 m200 m201))))
 (L_check_checker_term_4a T T.fuel ((r116.length : Nat) : Int) 0 a97 a98 n99 n100 m101 m102 x103 n104 n105 n106 n107 n108 s109 n110 n111 n112 n113 n114 s115 r116
 (fun a274 a275 n276 n277 m278 m279 x280 n281 n282 n283 n284 n285 s286 n287 n288 n289 n290 n291 s292 r293 =>
 br (x280.Kind == (6 : Int))
 (T.f_check_unlike r293
 (fun _b2 _r4 =>
 br _b2
 (T.f_check_checker_fails 11 x280.At a274 a275 n276 n277 m278 m279
 (fun _a11 _a12 _n14 _n15 _m11 _m12 =>
 K0 ⟨0, 0, 0, 0, 0, (ByteArray.mk #[]), (lst true [])⟩ false _a11 _a12 _n14 _n15 _m11 _m12))
 (T.f_check_typeOf x280.Kind _r4
 (fun _n16 _r5 =>
 K0 ⟨n287, n288, _n16, n290, n291, s292, (lst true _r5)⟩ true a274 a275 n276 n277 m278 m279))))
 (T.f_check_typeOf x280.Kind r293
 (fun _n17 _r6 =>
 K0 ⟨n287, n288, _n17, n290, n291, s292, (lst true _r6)⟩ true a274 a275 n276 n277 m278 m279))))))))
def F_check_wanted (T : Tab) (_n1 : Int) (K0 : Int → Prop) (K1 : Prop) : Prop :=
 br (_n1 == (4 : Int))
 (T.f_check_wanted_1 1
 (fun _n2 =>
 K0 _n2))
 (br (_n1 == (5 : Int))
 (T.f_check_wanted_1 1
 (fun _n3 =>
 K0 _n3))
 (br (_n1 == (12 : Int))
 (T.f_check_wanted_1 1
 (fun _n4 =>
 K0 _n4))
 (br (_n1 == (8 : Int))
 (T.f_check_wanted_1 2
 (fun _n5 =>
 K0 _n5))
 (br (_n1 == (9 : Int))
 (T.f_check_wanted_1 2
 (fun _n6 =>
 K0 _n6))
 (br (_n1 == (10 : Int))
 (T.f_check_wanted_1 2
 (fun _n7 =>
 K0 _n7))
 (K1 ))))))
def F_check_wanted_1 (T : Tab) (_n1 : Int) (K0 : Int → Prop) : Prop :=
 K0 _n1
def F_check_wanted_1_1 (T : Tab) (_n1 : Int) (_n2 : Int) (K0 : Bool → Int → Prop) : Prop :=
 br (_n1 == _n2)
 (K0 true _n2)
 (K0 (_n1 == (0 : Int)) _n2)
def F_check_unlike (T : Tab) (_r1 : List PV) (K0 : Bool → (List PV) → Prop) : Prop :=
 0 ≤ (0 : Int) ∧ (0 : Int) < ((_r1.length : Nat) : Int) ∧
 as_api_Term (_r1.getD 0 .nilp) fun x1 =>
 0 ≤ (1 : Int) ∧ (1 : Int) < ((_r1.length : Nat) : Int) ∧
 as_api_Term (_r1.getD 1 .nilp) fun x2 =>
 br (x1.Type_ != x2.Type_)
 (0 ≤ (0 : Int) ∧ (0 : Int) < ((_r1.length : Nat) : Int) ∧
 as_api_Term (_r1.getD 0 .nilp) fun x3 =>
 br (x3.Type_ != (0 : Int))
 (0 ≤ (1 : Int) ∧ (1 : Int) < ((_r1.length : Nat) : Int) ∧
 as_api_Term (_r1.getD 1 .nilp) fun x4 =>
 K0 (x4.Type_ != (0 : Int)) _r1)
 (K0 false _r1))
 (K0 false _r1)
def F_check_typeOf (T : Tab) (_n1 : Int) (_r1 : List PV) (K0 : Int → (List PV) → Prop) : Prop :=
 br (_n1 == (4 : Int))
 (K0 1 _r1)
 (br (_n1 == (5 : Int))
 (K0 1 _r1)
 (br (_n1 == (11 : Int))
 (K0 1 _r1)
 (br (_n1 == (12 : Int))
 (K0 1 _r1)
 (br (_n1 == (13 : Int))
 (0 ≤ (0 : Int) ∧ (0 : Int) < ((_r1.length : Nat) : Int) ∧
 as_api_Term (_r1.getD 0 .nilp) fun x1 =>
 K0 x1.Type_ _r1)
 (br (_n1 == (14 : Int))
 (0 ≤ (0 : Int) ∧ (0 : Int) < ((_r1.length : Nat) : Int) ∧
 as_api_Term (_r1.getD 0 .nilp) fun x2 =>
 K0 x2.Type_ _r1)
 (K0 2 _r1))))))
def F_check_wanted_2 (T : Tab) (_n1 : Int) (K0 : Prop) : Prop :=
 K0
abbrev YL_check_checker_insert_0 := Arr → Int → Int → Arr → Arr → Int → Int → (List (PV × PV)) → (List (PV × PV)) → Int → Arr → Arr → Arr → Bool → (List PV) → S_api_Table → (Arr → Arr → Int → Int → (List (PV × PV)) → (List (PV × PV)) → Int → Arr → Arr → Arr → Bool → (List PV) → Prop) → (Arr → Arr → Int → Int → (List (PV × PV)) → (List (PV × PV)) → Int → Arr → Arr → Arr → Bool → (List PV) → Prop) → Prop
def B_check_checker_insert_0 (T : Tab) (R : YL_check_checker_insert_0) (_a1 : Arr) (_n1 : Int) (_n2 : Int) (_a2 : Arr) (_a3 : Arr) (_n3 : Int) (_n4 : Int) (_m1 : List (PV × PV)) (_m2 : List (PV × PV)) (_n5 : Int) (_a4 : Arr) (_a5 : Arr) (_a6 : Arr) (_b1 : Bool) (_r1 : List PV) (_x1 : S_api_Table) (K0 : Arr → Arr → Int → Int → (List (PV × PV)) → (List (PV × PV)) → Int → Arr → Arr → Arr → Bool → (List PV) → Prop) (K1 : Arr → Arr → Int → Int → (List (PV × PV)) → (List (PV × PV)) → Int → Arr → Arr → Arr → Bool → (List PV) → Prop) : Prop :=
 br (decide (_n2 < _n1))
 (0 ≤ _n2 ∧ _n2 < ((_a1.n : Nat) : Int) ∧
 as_api_Expr (_a1.g (_n2.toNat)) fun x41 =>
 0 ≤ _n2 ∧ _n2 < ((_x1.Columns.n : Nat) : Int) ∧
 as_api_Column (_x1.Columns.g (_n2.toNat)) fun x42 =>
 T.f_check_checker_of x42.Type_ _a2 _a3 _n3 _n4 _m1 _m2
 (fun _a7 _a8 _n6 _n7 _m3 _m4 _n8 =>
 T.f_check_checker_of_1 x41 _a7 _a8 _n6 _n7 _m3 _m4 _n8
 (fun _x2 _b2 _a9 _a10 _n9 _n10 _m5 _m6 _n11 =>
 br (!_b2)
 (K0 _a9 _a10 _n9 _n10 _m5 _m6 _n5 _a4 _a5 _a6 _b1 _r1)
 ((_r1.length + 1) * 80 ≤ 140737488355328 ∧
 0 ≤ ((_r1.length : Nat) : Int) ∧ ((_r1.length : Nat) : Int) < (((_r1 ++ ([(PV.agg [.int .i64 0, .int .i64 0, .int .i64 0, .int .i64 0, .int .i64 0, .str (ByteArray.mk #[]), .arr ((lst true []).m) ((lst true []).n) ((lst true []).g)])])).length : Nat) : Int) ∧
 R _a1 _n1 (W (_n2 + (1 : Int))) _a9 _a10 _n9 _n10 _m5 _m6 _n5 _a4 _a5 _a6 _b1 ((_r1 ++ ([(PV.agg [.int .i64 0, .int .i64 0, .int .i64 0, .int .i64 0, .int .i64 0, .str (ByteArray.mk #[]), .arr ((lst true []).m) ((lst true []).n) ((lst true []).g)])])).set (((_r1.length : Nat) : Int).toNat) (PV.agg (p_api_Term _x2))) _x1 K0 K1))))
 (K1 _a2 _a3 _n3 _n4 _m1 _m2 _n5 _a4 _a5 _a6 _b1 _r1)
def L_check_checker_insert_0 (T : Tab) : Nat → YL_check_checker_insert_0
  | 0 => fun _ _ _ _ _ _ _ _ _ _ _ _ _ _ _ _ _ _ => False
  | n + 1 => B_check_checker_insert_0 T (L_check_checker_insert_0 T n)
def F_check_checker_insert (T : Tab) (_x1 : S_api_Stmt) (_x2 : S_api_Table) (_a1 : Arr) (_a2 : Arr) (_n1 : Int) (_n2 : Int) (_m1 : List (PV × PV)) (_m2 : List (PV × PV)) (_n3 : Int) (_a3 : Arr) (_a4 : Arr) (_a5 : Arr) (_b1 : Bool) (K0 : Arr → Arr → Int → Int → (List (PV × PV)) → (List (PV × PV)) → Int → Arr → Arr → Arr → Bool → Prop) (K1 : Bool → Arr → Arr → Int → Int → (List (PV × PV)) → (List (PV × PV)) → Int → Arr → Arr → Arr → Bool → (List PV) → Prop) : Prop :=
 br (((_x1.Items.n : Nat) : Int) != ((_x2.Columns.n : Nat) : Int))
 (T.f_check_checker_fails 131 _x1.At _a1 _a2 _n1 _n2 _m1 _m2
 (fun _a6 _a7 _n4 _n5 _m3 _m4 =>
 K0 _a6 _a7 _n4 _n5 _m3 _m4 _n3 _a3 _a4 _a5 _b1))
 (L_check_checker_insert_0 T T.fuel _x1.Items ((_x1.Items.n : Nat) : Int) 0 _a1 _a2 _n1 _n2 _m1 _m2 _n3 _a3 _a4 _a5 _b1 ([]) _x2
 (fun a75 a76 n77 n78 m79 m80 n81 a82 a83 a84 b85 r86 =>
 K1 false a75 a76 n77 n78 m79 m80 n81 a82 a83 a84 b85 r86)
 (fun a87 a88 n89 n90 m91 m92 n93 a94 a95 a96 b97 r98 =>
 K1 true a87 a88 n89 n90 m91 m92 n93 a94 a95 a96 b97 r98))
abbrev YL_check_checker_update_0 := Arr → Int → Int → Arr → Arr → Int → Int → (List (PV × PV)) → (List (PV × PV)) → Int → Arr → Arr → Arr → Bool → (List PV) → (List PV) → S_api_Table → (List (PV × PV)) → (Arr → Arr → Int → Int → (List (PV × PV)) → (List (PV × PV)) → Int → Arr → Arr → Arr → Bool → (List PV) → (List PV) → Prop) → (Arr → Arr → Int → Int → (List (PV × PV)) → (List (PV × PV)) → Int → Arr → Arr → Arr → Bool → (List PV) → (List PV) → Prop) → Prop
def B_check_checker_update_0 (T : Tab) (R : YL_check_checker_update_0) (_a1 : Arr) (_n1 : Int) (_n2 : Int) (_a2 : Arr) (_a3 : Arr) (_n3 : Int) (_n4 : Int) (_m1 : List (PV × PV)) (_m2 : List (PV × PV)) (_n5 : Int) (_a4 : Arr) (_a5 : Arr) (_a6 : Arr) (_b1 : Bool) (_r1 : List PV) (_r2 : List PV) (_x1 : S_api_Table) (_m3 : List (PV × PV)) (K0 : Arr → Arr → Int → Int → (List (PV × PV)) → (List (PV × PV)) → Int → Arr → Arr → Arr → Bool → (List PV) → (List PV) → Prop) (K1 : Arr → Arr → Int → Int → (List (PV × PV)) → (List (PV × PV)) → Int → Arr → Arr → Arr → Bool → (List PV) → (List PV) → Prop) : Prop :=
 br (decide (_n2 < _n1))
 (0 ≤ _n2 ∧ _n2 < ((_a1.n : Nat) : Int) ∧
 as_api_Set (_a1.g (_n2.toNat)) fun x52 =>
 T.f_check_columnOf _x1 x52.Name
 (fun _n6 =>
 br (decide (_n6 < (0 : Int)))
 (T.f_check_checker_fails 82 x52.At _a2 _a3 _n3 _n4 _m1 _m2
 (fun _a7 _a8 _n7 _n8 _m4 _m5 =>
 K0 _a7 _a8 _n7 _n8 _m4 _m5 _n5 _a4 _a5 _a6 _b1 _r1 _r2))
 (asI_i64 ((look (PV.int .i64 _n6) _m3).getD (PV.int .i64 0)) fun n60 =>
 asI_i64 ((look (PV.int .i64 _n6) (setK (PV.int .i64 _n6) (PV.int .i64 (W (n60 + (1 : Int)))) _m3)).getD (PV.int .i64 0)) fun n61 =>
 br (decide (n61 > (1 : Int)))
 (T.f_check_checker_fails 81 x52.At _a2 _a3 _n3 _n4 _m1 _m2
 (fun _a9 _a10 _n9 _n10 _m6 _m7 =>
 K0 _a9 _a10 _n9 _n10 _m6 _m7 _n5 _a4 _a5 _a6 _b1 _r1 _r2))
 (0 ≤ _n6 ∧ _n6 < ((_x1.Columns.n : Nat) : Int) ∧
 as_api_Column (_x1.Columns.g (_n6.toNat)) fun x68 =>
 T.f_check_checker_of x68.Type_ _a2 _a3 _n3 _n4 _m1 _m2
 (fun _a11 _a12 _n11 _n12 _m8 _m9 _n13 =>
 T.f_check_checker_of_1 ⟨x52.Expr_Kind, x52.Expr_Op, x52.Expr_Value_Kind, x52.Expr_Value_Int, x52.Expr_Value_Text, x52.Expr_Table, x52.Expr_Name, x52.Expr_Kids, x52.Expr_At⟩ _a11 _a12 _n11 _n12 _m8 _m9 _n13
 (fun _x2 _b2 _a13 _a14 _n14 _n15 _m10 _m11 _n16 =>
 br (!_b2)
 (K0 _a13 _a14 _n14 _n15 _m10 _m11 _n5 _a4 _a5 _a6 _b1 _r1 _r2)
 ((_r1.length + 1) * 80 ≤ 140737488355328 ∧
 (_r2.length + 1) * 8 ≤ 140737488355328 ∧
 R _a1 _n1 (W (_n2 + (1 : Int))) _a13 _a14 _n14 _n15 _m10 _m11 _n5 _a4 _a5 _a6 _b1 (_r1 ++ ([(PV.agg (p_api_Term _x2))])) (_r2 ++ ([(PV.int .i64 _n6)])) _x1 (setK (PV.int .i64 _n6) (PV.int .i64 (W (n60 + (1 : Int)))) _m3) K0 K1)))))))
 (K1 _a2 _a3 _n3 _n4 _m1 _m2 _n5 _a4 _a5 _a6 _b1 _r1 _r2)
def L_check_checker_update_0 (T : Tab) : Nat → YL_check_checker_update_0
  | 0 => fun _ _ _ _ _ _ _ _ _ _ _ _ _ _ _ _ _ _ _ _ => False
  | n + 1 => B_check_checker_update_0 T (L_check_checker_update_0 T n)
def F_check_checker_update (T : Tab) (_x1 : S_api_Stmt) (_x2 : S_api_Table) (_a1 : Arr) (_a2 : Arr) (_n1 : Int) (_n2 : Int) (_m1 : List (PV × PV)) (_m2 : List (PV × PV)) (_n3 : Int) (_a3 : Arr) (_a4 : Arr) (_a5 : Arr) (_b1 : Bool) (K0 : Bool → Arr → Arr → Int → Int → (List (PV × PV)) → (List (PV × PV)) → Int → Arr → Arr → Arr → Bool → (List PV) → (List PV) → Prop) : Prop :=
 L_check_checker_update_0 T T.fuel _x1.Sets ((_x1.Sets.n : Nat) : Int) 0 _a1 _a2 _n1 _n2 _m1 _m2 _n3 _a3 _a4 _a5 _b1 ([]) ([]) _x2 ([])
 (fun a103 a104 n105 n106 m107 m108 n109 a110 a111 a112 b113 r114 r115 =>
 K0 false a103 a104 n105 n106 m107 m108 n109 a110 a111 a112 b113 r114 r115)
 (fun a116 a117 n118 n119 m120 m121 n122 a123 a124 a125 b126 r127 r128 =>
 K0 true a116 a117 n118 n119 m120 m121 n122 a123 a124 a125 b126 r127 r128)
abbrev YL_check_columnOf_0 := ByteArray → Arr → Int → Int → (Int → Prop) → Prop → Prop
def B_check_columnOf_0 (T : Tab) (R : YL_check_columnOf_0) (_s1 : ByteArray) (_a1 : Arr) (_n1 : Int) (_n2 : Int) (K0 : Int → Prop) (K1 : Prop) : Prop :=
 br (decide (_n2 < _n1))
 (0 ≤ _n2 ∧ _n2 < ((_a1.n : Nat) : Int) ∧
 as_api_Column (_a1.g (_n2.toNat)) fun x6 =>
 br (x6.Name.toList == _s1.toList)
 (K0 _n2)
 (R _s1 _a1 _n1 (W (_n2 + (1 : Int))) K0 K1))
 (K1 )
def L_check_columnOf_0 (T : Tab) : Nat → YL_check_columnOf_0
  | 0 => fun _ _ _ _ _ _ => False
  | n + 1 => B_check_columnOf_0 T (L_check_columnOf_0 T n)
def F_check_columnOf (T : Tab) (_x1 : S_api_Table) (_s1 : ByteArray) (K0 : Int → Prop) : Prop :=
 L_check_columnOf_0 T T.fuel _s1 _x1.Columns ((_x1.Columns.n : Nat) : Int) 0
 (fun n11 =>
 K0 n11)
 (K0 (-1))
abbrev YL_check_checker_choose_2 := Int → Int → Arr → Arr → Int → Int → (List (PV × PV)) → (List (PV × PV)) → Int → Arr → Arr → Arr → Bool → (List PV) → (List PV) → (List PV) → (List PV) → (List PV) → (Arr → Arr → Int → Int → (List (PV × PV)) → (List (PV × PV)) → Int → Arr → Arr → Arr → Bool → (List PV) → (List PV) → (List PV) → (List PV) → (List PV) → Prop) → Prop
def B_check_checker_choose_2 (T : Tab) (R : YL_check_checker_choose_2) (_n1 : Int) (_n2 : Int) (_a1 : Arr) (_a2 : Arr) (_n3 : Int) (_n4 : Int) (_m1 : List (PV × PV)) (_m2 : List (PV × PV)) (_n5 : Int) (_a3 : Arr) (_a4 : Arr) (_a5 : Arr) (_b1 : Bool) (_r1 : List PV) (_r2 : List PV) (_r3 : List PV) (_r4 : List PV) (_r5 : List PV) (K0 : Arr → Arr → Int → Int → (List (PV × PV)) → (List (PV × PV)) → Int → Arr → Arr → Arr → Bool → (List PV) → (List PV) → (List PV) → (List PV) → (List PV) → Prop) : Prop :=
 br (decide (_n2 < _n1))
 (0 ≤ _n2 ∧ _n2 < ((_r1.length : Nat) : Int) ∧
 as_api_Term (_r1.getD _n2.toNat .nilp) fun x162 =>
 (_r5.length + 1) * 8 ≤ 140737488355328 ∧
 R _n1 (W (_n2 + (1 : Int))) _a1 _a2 _n3 _n4 _m1 _m2 _n5 _a3 _a4 _a5 _b1 _r1 _r2 _r3 _r4 (_r5 ++ ([(PV.int .i64 x162.Type_)])) K0)
 (K0 _a1 _a2 _n3 _n4 _m1 _m2 _n5 _a3 _a4 _a5 _b1 _r1 _r2 _r3 _r4 _r5)
def L_check_checker_choose_2 (T : Tab) : Nat → YL_check_checker_choose_2
  | 0 => fun _ _ _ _ _ _ _ _ _ _ _ _ _ _ _ _ _ _ _ => False
  | n + 1 => B_check_checker_choose_2 T (L_check_checker_choose_2 T n)
abbrev YL_check_checker_choose_0 := Arr → Int → Int → Arr → Arr → Int → Int → (List (PV × PV)) → (List (PV × PV)) → Int → Arr → Arr → Arr → Bool → (List PV) → (List PV) → (List PV) → S_api_Stmt → (Arr → Arr → Int → Int → (List (PV × PV)) → (List (PV × PV)) → Int → Arr → Arr → Arr → Bool → (List PV) → (List PV) → (List PV) → Prop) → (Arr → Arr → Int → Int → (List (PV × PV)) → (List (PV × PV)) → Int → Arr → Arr → Arr → Bool → (List PV) → (List PV) → (List PV) → S_api_Stmt → Prop) → Prop
def B_check_checker_choose_0 (T : Tab) (R : YL_check_checker_choose_0) (_a1 : Arr) (_n1 : Int) (_n2 : Int) (_a2 : Arr) (_a3 : Arr) (_n3 : Int) (_n4 : Int) (_m1 : List (PV × PV)) (_m2 : List (PV × PV)) (_n5 : Int) (_a4 : Arr) (_a5 : Arr) (_a6 : Arr) (_b1 : Bool) (_r1 : List PV) (_r2 : List PV) (_r3 : List PV) (_x1 : S_api_Stmt) (K0 : Arr → Arr → Int → Int → (List (PV × PV)) → (List (PV × PV)) → Int → Arr → Arr → Arr → Bool → (List PV) → (List PV) → (List PV) → Prop) (K1 : Arr → Arr → Int → Int → (List (PV × PV)) → (List (PV × PV)) → Int → Arr → Arr → Arr → Bool → (List PV) → (List PV) → (List PV) → S_api_Stmt → Prop) : Prop :=
 br (decide (_n2 < _n1))
 (0 ≤ _n2 ∧ _n2 < ((_a1.n : Nat) : Int) ∧
 as_api_Sort (_a1.g (_n2.toNat)) fun x83 =>
 br (decide (x83.Item < (1 : Int)))
 (T.f_check_checker_fails 82 x83.At _a2 _a3 _n3 _n4 _m1 _m2
 (fun _a7 _a8 _n6 _n7 _m3 _m4 =>
 K0 _a7 _a8 _n6 _n7 _m3 _m4 _n5 _a4 _a5 _a6 _b1 _r1 _r2 _r3))
 (br (decide (x83.Item > ((_r1.length : Nat) : Int)))
 (T.f_check_checker_fails 82 x83.At _a2 _a3 _n3 _n4 _m1 _m2
 (fun _a9 _a10 _n8 _n9 _m5 _m6 =>
 K0 _a9 _a10 _n8 _n9 _m5 _m6 _n5 _a4 _a5 _a6 _b1 _r1 _r2 _r3))
 ((_r3.length + 1) * 24 ≤ 140737488355328 ∧
 R _a1 _n1 (W (_n2 + (1 : Int))) _a2 _a3 _n3 _n4 _m1 _m2 _n5 _a4 _a5 _a6 _b1 _r1 _r2 (_r3 ++ ([(PV.agg [.int .i64 x83.Item, .bool x83.Desc, .int .i64 0])])) _x1 K0 K1)))
 (K1 _a2 _a3 _n3 _n4 _m1 _m2 _n5 _a4 _a5 _a6 _b1 _r1 _r2 _r3 _x1)
def L_check_checker_choose_0 (T : Tab) : Nat → YL_check_checker_choose_0
  | 0 => fun _ _ _ _ _ _ _ _ _ _ _ _ _ _ _ _ _ _ _ _ => False
  | n + 1 => B_check_checker_choose_0 T (L_check_checker_choose_0 T n)
def F_check_checker_choose (T : Tab) (_x1 : S_api_Stmt) (_a1 : Arr) (_a2 : Arr) (_n1 : Int) (_n2 : Int) (_m1 : List (PV × PV)) (_m2 : List (PV × PV)) (_n3 : Int) (_a3 : Arr) (_a4 : Arr) (_a5 : Arr) (_b1 : Bool) (K0 : Arr → Arr → Int → Int → (List (PV × PV)) → (List (PV × PV)) → Int → Arr → Arr → Arr → Bool → (List PV) → Prop) (K1 : Arr → Arr → Int → Int → (List (PV × PV)) → (List (PV × PV)) → Int → Arr → Arr → Arr → Bool → (List PV) → (List PV) → Prop) (K2 : Arr → Arr → Int → Int → (List (PV × PV)) → (List (PV × PV)) → Int → Arr → Arr → Arr → Bool → (List PV) → (List PV) → (List PV) → Prop) (K3 : Arr → Arr → Int → Int → (List (PV × PV)) → (List (PV × PV)) → Int → Arr → Arr → Arr → Bool → (List PV) → (List PV) → (List PV) → (List PV) → (List PV) → Prop) : Prop :=
 T.f_check_checker_groups _x1 _a1 _a2 _n1 _n2 _m1 _m2 _n3 _a3 _a4 _a5 _b1
 (fun _a6 _a7 _n4 _n5 _m3 _m4 _n6 _a8 _a9 _a10 _b2 _r1 =>
 K0 _a6 _a7 _n4 _n5 _m3 _m4 _n6 _a8 _a9 _a10 _b2 _r1)
 (fun _a11 _a12 _n7 _n8 _m5 _m6 _n9 _a13 _a14 _a15 _b3 _r2 _m7 =>
 br _x1.Star
 (T.f_check_checker_star _x1 _a11 _a12 _n7 _n8 _m5 _m6 _n9 _a13 _a14 _a15 _b3 _r2
 (fun _a16 _a17 _n10 _n11 _m8 _m9 _n12 _a18 _a19 _a20 _b4 _r3 =>
 K0 _a16 _a17 _n10 _n11 _m8 _m9 _n12 _a18 _a19 _a20 _b4 _r3)
 (fun _b5 _a21 _a22 _n13 _n14 _m10 _m11 _n15 _a23 _a24 _a25 _b6 _r4 _r5 =>
 br (!_b5)
 (K1 _a21 _a22 _n13 _n14 _m10 _m11 _n15 _a23 _a24 _a25 _b6 _r5 _r4)
 (L_check_checker_choose_0 T T.fuel _x1.Sorts ((_x1.Sorts.n : Nat) : Int) 0 _a21 _a22 _n13 _n14 _m10 _m11 _n15 _a23 _a24 _a25 _b6 _r5 _r4 ([]) _x1
 (fun a114 a115 n116 n117 m118 m119 n120 a121 a122 a123 b124 r125 r126 r127 =>
 K2 a114 a115 n116 n117 m118 m119 n120 a121 a122 a123 b124 r125 r126 r127)
 (fun a128 a129 n130 n131 m132 m133 n134 a135 a136 a137 b138 r139 r140 r141 x142 =>
 (∀ i, i < x142.Limit.n → pvSize (x142.Limit.g i) = 1) ∧ ((List.range x142.Limit.n).map x142.Limit.g).length * 8 ≤ 140737488355328 ∧
 L_check_checker_choose_2 T T.fuel ((r139.length : Nat) : Int) 0 a128 a129 n130 n131 m132 m133 n134 a135 a136 a137 b138 r139 r140 r141 ((List.range x142.Limit.n).map x142.Limit.g) ([])
 (fun a181 a182 n183 n184 m185 m186 n187 a188 a189 a190 b191 r192 r193 r194 r195 r196 =>
 K3 a181 a182 n183 n184 m185 m186 n187 a188 a189 a190 b191 r192 r193 r194 r195 r196)))))
 (T.f_check_checker_items _x1 _a11 _a12 _n7 _n8 _m5 _m6 _n9 _a13 _a14 _a15 _b3 _r2 _m7
 (fun _b7 _a26 _a27 _n16 _n17 _m12 _m13 _n18 _a28 _a29 _a30 _b8 _r6 _m14 _r7 =>
 br (!_b7)
 (K1 _a26 _a27 _n16 _n17 _m12 _m13 _n18 _a28 _a29 _a30 _b8 _r7 _r6)
 (L_check_checker_choose_0 T T.fuel _x1.Sorts ((_x1.Sorts.n : Nat) : Int) 0 _a26 _a27 _n16 _n17 _m12 _m13 _n18 _a28 _a29 _a30 _b8 _r7 _r6 ([]) _x1
 (fun a212 a213 n214 n215 m216 m217 n218 a219 a220 a221 b222 r223 r224 r225 =>
 K2 a212 a213 n214 n215 m216 m217 n218 a219 a220 a221 b222 r223 r224 r225)
 (fun a226 a227 n228 n229 m230 m231 n232 a233 a234 a235 b236 r237 r238 r239 x240 =>
 (∀ i, i < x240.Limit.n → pvSize (x240.Limit.g i) = 1) ∧ ((List.range x240.Limit.n).map x240.Limit.g).length * 8 ≤ 140737488355328 ∧
 L_check_checker_choose_2 T T.fuel ((r237.length : Nat) : Int) 0 a226 a227 n228 n229 m230 m231 n232 a233 a234 a235 b236 r237 r238 r239 ((List.range x240.Limit.n).map x240.Limit.g) ([])
 (fun a241 a242 n243 n244 m245 m246 n247 a248 a249 a250 b251 r252 r253 r254 r255 r256 =>
 K3 a241 a242 n243 n244 m245 m246 n247 a248 a249 a250 b251 r252 r253 r254 r255 r256))))))
abbrev YL_check_checker_groups_0 := Arr → Int → Int → Arr → Arr → Int → Int → (List (PV × PV)) → (List (PV × PV)) → Int → Arr → Arr → Arr → Bool → (List PV) → (List (PV × PV)) → (Arr → Arr → Int → Int → (List (PV × PV)) → (List (PV × PV)) → Int → Arr → Arr → Arr → Bool → (List PV) → Prop) → (Arr → Arr → Int → Int → (List (PV × PV)) → (List (PV × PV)) → Int → Arr → Arr → Arr → Bool → (List PV) → (List (PV × PV)) → Prop) → Prop
def B_check_checker_groups_0 (T : Tab) (R : YL_check_checker_groups_0) (_a1 : Arr) (_n1 : Int) (_n2 : Int) (_a2 : Arr) (_a3 : Arr) (_n3 : Int) (_n4 : Int) (_m1 : List (PV × PV)) (_m2 : List (PV × PV)) (_n5 : Int) (_a4 : Arr) (_a5 : Arr) (_a6 : Arr) (_b1 : Bool) (_r1 : List PV) (_m3 : List (PV × PV)) (K0 : Arr → Arr → Int → Int → (List (PV × PV)) → (List (PV × PV)) → Int → Arr → Arr → Arr → Bool → (List PV) → Prop) (K1 : Arr → Arr → Int → Int → (List (PV × PV)) → (List (PV × PV)) → Int → Arr → Arr → Arr → Bool → (List PV) → (List (PV × PV)) → Prop) : Prop :=
 br (decide (_n2 < _n1))
 (0 ≤ _n2 ∧ _n2 < ((_a1.n : Nat) : Int) ∧
 as_api_Expr (_a1.g (_n2.toNat)) fun x34 =>
 T.f_check_checker_term x34 _a2 _a3 _n3 _n4 _m1 _m2
 (fun _x1 _b2 _a7 _a8 _n6 _n7 _m4 _m5 =>
 br (!_b2)
 (K0 _a7 _a8 _n6 _n7 _m4 _m5 _n5 _a4 _a5 _a6 _b1 _r1)
 (asI_i64 ((look (PV.int .i64 _x1.Num) _m3).getD (PV.int .i64 0)) fun n43 =>
 asI_i64 ((look (PV.int .i64 _x1.Num) (setK (PV.int .i64 _x1.Num) (PV.int .i64 (W (n43 + (1 : Int)))) _m3)).getD (PV.int .i64 0)) fun n44 =>
 br (decide (n44 > (1 : Int)))
 (T.f_check_checker_fails 81 x34.At _a7 _a8 _n6 _n7 _m4 _m5
 (fun _a9 _a10 _n8 _n9 _m6 _m7 =>
 K0 _a9 _a10 _n8 _n9 _m6 _m7 _n5 _a4 _a5 _a6 _b1 _r1))
 ((_r1.length + 1) * 8 ≤ 140737488355328 ∧
 R _a1 _n1 (W (_n2 + (1 : Int))) _a7 _a8 _n6 _n7 _m4 _m5 _n5 _a4 _a5 _a6 _b1 (_r1 ++ ([(PV.int .i64 _x1.Num)])) (setK (PV.int .i64 _x1.Num) (PV.int .i64 (W (n43 + (1 : Int)))) _m3) K0 K1))))
 (K1 _a2 _a3 _n3 _n4 _m1 _m2 _n5 _a4 _a5 _a6 _b1 _r1 _m3)
def L_check_checker_groups_0 (T : Tab) : Nat → YL_check_checker_groups_0
  | 0 => fun _ _ _ _ _ _ _ _ _ _ _ _ _ _ _ _ _ _ => False
  | n + 1 => B_check_checker_groups_0 T (L_check_checker_groups_0 T n)
def F_check_checker_groups (T : Tab) (_x1 : S_api_Stmt) (_a1 : Arr) (_a2 : Arr) (_n1 : Int) (_n2 : Int) (_m1 : List (PV × PV)) (_m2 : List (PV × PV)) (_n3 : Int) (_a3 : Arr) (_a4 : Arr) (_a5 : Arr) (_b1 : Bool) (K0 : Arr → Arr → Int → Int → (List (PV × PV)) → (List (PV × PV)) → Int → Arr → Arr → Arr → Bool → (List PV) → Prop) (K1 : Arr → Arr → Int → Int → (List (PV × PV)) → (List (PV × PV)) → Int → Arr → Arr → Arr → Bool → (List PV) → (List (PV × PV)) → Prop) : Prop :=
 L_check_checker_groups_0 T T.fuel _x1.Groups ((_x1.Groups.n : Nat) : Int) 0 _a1 _a2 _n1 _n2 _m1 _m2 _n3 _a3 _a4 _a5 _b1 ([]) ([])
 (fun a67 a68 n69 n70 m71 m72 n73 a74 a75 a76 b77 r78 =>
 K0 a67 a68 n69 n70 m71 m72 n73 a74 a75 a76 b77 r78)
 (fun a79 a80 n81 n82 m83 m84 n85 a86 a87 a88 b89 r90 m91 =>
 K1 a79 a80 n81 n82 m83 m84 n85 a86 a87 a88 b89 r90 m91)
abbrev YL_check_checker_star_2 := Arr → Int → Int → Arr → Int → Int → Arr → Arr → Int → Int → (List (PV × PV)) → (List (PV × PV)) → Int → Arr → Arr → Arr → Bool → (List PV) → (List PV) → S_api_Stmt → (Arr → Int → Int → Arr → Arr → Int → Int → (List (PV × PV)) → (List (PV × PV)) → Int → Arr → Arr → Arr → Bool → (List PV) → (List PV) → S_api_Stmt → Prop) → Prop
def B_check_checker_star_2 (T : Tab) (R : YL_check_checker_star_2) (_a1 : Arr) (_n1 : Int) (_n2 : Int) (_a2 : Arr) (_n3 : Int) (_n4 : Int) (_a3 : Arr) (_a4 : Arr) (_n5 : Int) (_n6 : Int) (_m1 : List (PV × PV)) (_m2 : List (PV × PV)) (_n7 : Int) (_a5 : Arr) (_a6 : Arr) (_a7 : Arr) (_b1 : Bool) (_r1 : List PV) (_r2 : List PV) (_x1 : S_api_Stmt) (K0 : Arr → Int → Int → Arr → Arr → Int → Int → (List (PV × PV)) → (List (PV × PV)) → Int → Arr → Arr → Arr → Bool → (List PV) → (List PV) → S_api_Stmt → Prop) : Prop :=
 br (decide (_n4 < _n3))
 (0 ≤ _n4 ∧ _n4 < ((_a2.n : Nat) : Int) ∧
 as_api_Column (_a2.g (_n4.toNat)) fun x31 =>
 (_r2.length + 1) * 80 ≤ 140737488355328 ∧
 0 ≤ ((_r2.length : Nat) : Int) ∧ ((_r2.length : Nat) : Int) < (((_r2 ++ ([(PV.agg [.int .i64 0, .int .i64 0, .int .i64 0, .int .i64 0, .int .i64 0, .str (ByteArray.mk #[]), .arr ((lst true []).m) ((lst true []).n) ((lst true []).g)])])).length : Nat) : Int) ∧
 R _a1 _n1 _n2 _a2 _n3 (W (_n4 + (1 : Int))) _a3 _a4 _n5 _n6 _m1 _m2 _n7 _a5 _a6 _a7 _b1 _r1 ((_r2 ++ ([(PV.agg [.int .i64 0, .int .i64 0, .int .i64 0, .int .i64 0, .int .i64 0, .str (ByteArray.mk #[]), .arr ((lst true []).m) ((lst true []).n) ((lst true []).g)])])).set (((_r2.length : Nat) : Int).toNat) (PV.agg [.int .i64 3, .int .i64 ((_r2.length : Nat) : Int), .int .i64 x31.Type_, .int .i64 0, .int .i64 0, .str (ByteArray.mk #[]), .arr ((lst true []).m) ((lst true []).n) ((lst true []).g)])) _x1 K0)
 (K0 _a1 _n1 _n2 _a3 _a4 _n5 _n6 _m1 _m2 _n7 _a5 _a6 _a7 _b1 _r1 _r2 _x1)
def L_check_checker_star_2 (T : Tab) : Nat → YL_check_checker_star_2
  | 0 => fun _ _ _ _ _ _ _ _ _ _ _ _ _ _ _ _ _ _ _ _ _ => False
  | n + 1 => B_check_checker_star_2 T (L_check_checker_star_2 T n)
abbrev YL_check_checker_star_0 := Arr → Int → Int → Arr → Arr → Int → Int → (List (PV × PV)) → (List (PV × PV)) → Int → Arr → Arr → Arr → Bool → (List PV) → (List PV) → S_api_Stmt → (Arr → Arr → Int → Int → (List (PV × PV)) → (List (PV × PV)) → Int → Arr → Arr → Arr → Bool → (List PV) → (List PV) → S_api_Stmt → Prop) → Prop
def B_check_checker_star_0 (T : Tab) (R : YL_check_checker_star_0) (_a1 : Arr) (_n1 : Int) (_n2 : Int) (_a2 : Arr) (_a3 : Arr) (_n3 : Int) (_n4 : Int) (_m1 : List (PV × PV)) (_m2 : List (PV × PV)) (_n5 : Int) (_a4 : Arr) (_a5 : Arr) (_a6 : Arr) (_b1 : Bool) (_r1 : List PV) (_r2 : List PV) (_x1 : S_api_Stmt) (K0 : Arr → Arr → Int → Int → (List (PV × PV)) → (List (PV × PV)) → Int → Arr → Arr → Arr → Bool → (List PV) → (List PV) → S_api_Stmt → Prop) : Prop :=
 br (decide (_n2 < _n1))
 (0 ≤ _n2 ∧ _n2 < ((_a1.n : Nat) : Int) ∧
 asI_i64 (_a1.g (_n2.toNat)) fun n86 =>
 0 ≤ n86 ∧ n86 < ((_a2.n : Nat) : Int) ∧
 as_api_Table (_a2.g (n86.toNat)) fun x87 =>
 L_check_checker_star_2 T T.fuel _a1 _n1 _n2 x87.Columns ((x87.Columns.n : Nat) : Int) 0 _a2 _a3 _n3 _n4 _m1 _m2 _n5 _a4 _a5 _a6 _b1 _r1 _r2 _x1
 (fun a88 n89 n90 a91 a92 n93 n94 m95 m96 n97 a98 a99 a100 b101 r102 r103 x104 =>
 R a88 n89 (W (n90 + (1 : Int))) a91 a92 n93 n94 m95 m96 n97 a98 a99 a100 b101 r102 r103 x104 K0))
 (K0 _a2 _a3 _n3 _n4 _m1 _m2 _n5 _a4 _a5 _a6 _b1 _r1 _r2 _x1)
def L_check_checker_star_0 (T : Tab) : Nat → YL_check_checker_star_0
  | 0 => fun _ _ _ _ _ _ _ _ _ _ _ _ _ _ _ _ _ _ => False
  | n + 1 => B_check_checker_star_0 T (L_check_checker_star_0 T n)
def F_check_checker_star (T : Tab) (_x1 : S_api_Stmt) (_a1 : Arr) (_a2 : Arr) (_n1 : Int) (_n2 : Int) (_m1 : List (PV × PV)) (_m2 : List (PV × PV)) (_n3 : Int) (_a3 : Arr) (_a4 : Arr) (_a5 : Arr) (_b1 : Bool) (_r1 : List PV) (K0 : Arr → Arr → Int → Int → (List (PV × PV)) → (List (PV × PV)) → Int → Arr → Arr → Arr → Bool → (List PV) → Prop) (K1 : Bool → Arr → Arr → Int → Int → (List (PV × PV)) → (List (PV × PV)) → Int → Arr → Arr → Arr → Bool → (List PV) → (List PV) → Prop) : Prop :=
 br (decide (((_x1.Groups.n : Nat) : Int) > (0 : Int)))
 (0 ≤ (0 : Int) ∧ (0 : Int) < ((_x1.Groups.n : Nat) : Int) ∧
 as_api_Expr (_x1.Groups.g 0) fun x1 =>
 T.f_check_checker_fails 130 x1.At _a1 _a2 _n1 _n2 _m1 _m2
 (fun _a6 _a7 _n4 _n5 _m3 _m4 =>
 K0 _a6 _a7 _n4 _n5 _m3 _m4 _n3 _a3 _a4 _a5 _b1 _r1))
 (L_check_checker_star_0 T T.fuel _a3 ((_a3.n : Nat) : Int) 0 _a1 _a2 _n1 _n2 _m1 _m2 _n3 _a3 _a4 _a5 _b1 _r1 ([]) _x1
 (fun a122 a123 n124 n125 m126 m127 n128 a129 a130 a131 b132 r133 r134 x135 =>
 br (decide (((r134.length : Nat) : Int) ≤ (16 : Int)))
 (K1 true a122 a123 n124 n125 m126 m127 n128 a129 a130 a131 b132 r133 r134)
 (T.f_check_checker_fails 131 x135.At a122 a123 n124 n125 m126 m127
 (fun _a8 _a9 _n6 _n7 _m5 _m6 =>
 K1 false _a8 _a9 _n6 _n7 _m5 _m6 n128 a129 a130 a131 b132 r133 r134))))
abbrev YL_check_checker_items_2 := Arr → Int → Int → Arr → Arr → Int → Int → (List (PV × PV)) → (List (PV × PV)) → Int → Arr → Arr → Arr → Bool → (List PV) → (List (PV × PV)) → (List PV) → (Arr → Arr → Int → Int → (List (PV × PV)) → (List (PV × PV)) → Int → Arr → Arr → Arr → Bool → (List PV) → (List (PV × PV)) → (List PV) → Prop) → (Arr → Arr → Int → Int → (List (PV × PV)) → (List (PV × PV)) → Int → Arr → Arr → Arr → Bool → (List PV) → (List (PV × PV)) → (List PV) → Prop) → Prop
def B_check_checker_items_2 (T : Tab) (R : YL_check_checker_items_2) (_a1 : Arr) (_n1 : Int) (_n2 : Int) (_a2 : Arr) (_a3 : Arr) (_n3 : Int) (_n4 : Int) (_m1 : List (PV × PV)) (_m2 : List (PV × PV)) (_n5 : Int) (_a4 : Arr) (_a5 : Arr) (_a6 : Arr) (_b1 : Bool) (_r1 : List PV) (_m3 : List (PV × PV)) (_r2 : List PV) (K0 : Arr → Arr → Int → Int → (List (PV × PV)) → (List (PV × PV)) → Int → Arr → Arr → Arr → Bool → (List PV) → (List (PV × PV)) → (List PV) → Prop) (K1 : Arr → Arr → Int → Int → (List (PV × PV)) → (List (PV × PV)) → Int → Arr → Arr → Arr → Bool → (List PV) → (List (PV × PV)) → (List PV) → Prop) : Prop :=
 br (decide (_n2 < _n1))
 (0 ≤ _n2 ∧ _n2 < ((_a1.n : Nat) : Int) ∧
 as_api_Expr (_a1.g (_n2.toNat)) fun x161 =>
 T.f_check_checker_term x161 _a2 _a3 _n3 _n4 _m1 _m2
 (fun _x1 _b2 _a7 _a8 _n6 _n7 _m4 _m5 =>
 br (!_b2)
 (K0 _a7 _a8 _n6 _n7 _m4 _m5 _n5 _a4 _a5 _a6 _b1 _r1 _m3 _r2)
 (br _b1
 (T.f_check_aggregate _x1.Op
 (fun _b3 =>
 br (!_b3)
 (br (_x1.Op != (3 : Int))
 (T.f_check_checker_fails 130 x161.At _a7 _a8 _n6 _n7 _m4 _m5
 (fun _a9 _a10 _n8 _n9 _m6 _m7 =>
 K0 _a9 _a10 _n8 _n9 _m6 _m7 _n5 _a4 _a5 _a6 _b1 _r1 _m3 _r2))
 (asI_i64 ((look (PV.int .i64 _x1.Num) _m3).getD (PV.int .i64 0)) fun n177 =>
 br (n177 == (0 : Int))
 (T.f_check_checker_fails 130 x161.At _a7 _a8 _n6 _n7 _m4 _m5
 (fun _a11 _a12 _n10 _n11 _m8 _m9 =>
 K0 _a11 _a12 _n10 _n11 _m8 _m9 _n5 _a4 _a5 _a6 _b1 _r1 _m3 _r2))
 ((_r2.length + 1) * 80 ≤ 140737488355328 ∧
 0 ≤ ((_r2.length : Nat) : Int) ∧ ((_r2.length : Nat) : Int) < (((_r2 ++ ([(PV.agg [.int .i64 0, .int .i64 0, .int .i64 0, .int .i64 0, .int .i64 0, .str (ByteArray.mk #[]), .arr ((lst true []).m) ((lst true []).n) ((lst true []).g)])])).length : Nat) : Int) ∧
 R _a1 _n1 (W (_n2 + (1 : Int))) _a7 _a8 _n6 _n7 _m4 _m5 _n5 _a4 _a5 _a6 _b1 _r1 _m3 ((_r2 ++ ([(PV.agg [.int .i64 0, .int .i64 0, .int .i64 0, .int .i64 0, .int .i64 0, .str (ByteArray.mk #[]), .arr ((lst true []).m) ((lst true []).n) ((lst true []).g)])])).set (((_r2.length : Nat) : Int).toNat) (PV.agg (p_api_Term _x1))) K0 K1)))
 ((_r2.length + 1) * 80 ≤ 140737488355328 ∧
 0 ≤ ((_r2.length : Nat) : Int) ∧ ((_r2.length : Nat) : Int) < (((_r2 ++ ([(PV.agg [.int .i64 0, .int .i64 0, .int .i64 0, .int .i64 0, .int .i64 0, .str (ByteArray.mk #[]), .arr ((lst true []).m) ((lst true []).n) ((lst true []).g)])])).length : Nat) : Int) ∧
 R _a1 _n1 (W (_n2 + (1 : Int))) _a7 _a8 _n6 _n7 _m4 _m5 _n5 _a4 _a5 _a6 _b1 _r1 _m3 ((_r2 ++ ([(PV.agg [.int .i64 0, .int .i64 0, .int .i64 0, .int .i64 0, .int .i64 0, .str (ByteArray.mk #[]), .arr ((lst true []).m) ((lst true []).n) ((lst true []).g)])])).set (((_r2.length : Nat) : Int).toNat) (PV.agg (p_api_Term _x1))) K0 K1)))
 ((_r2.length + 1) * 80 ≤ 140737488355328 ∧
 0 ≤ ((_r2.length : Nat) : Int) ∧ ((_r2.length : Nat) : Int) < (((_r2 ++ ([(PV.agg [.int .i64 0, .int .i64 0, .int .i64 0, .int .i64 0, .int .i64 0, .str (ByteArray.mk #[]), .arr ((lst true []).m) ((lst true []).n) ((lst true []).g)])])).length : Nat) : Int) ∧
 R _a1 _n1 (W (_n2 + (1 : Int))) _a7 _a8 _n6 _n7 _m4 _m5 _n5 _a4 _a5 _a6 _b1 _r1 _m3 ((_r2 ++ ([(PV.agg [.int .i64 0, .int .i64 0, .int .i64 0, .int .i64 0, .int .i64 0, .str (ByteArray.mk #[]), .arr ((lst true []).m) ((lst true []).n) ((lst true []).g)])])).set (((_r2.length : Nat) : Int).toNat) (PV.agg (p_api_Term _x1))) K0 K1))))
 (K1 _a2 _a3 _n3 _n4 _m1 _m2 _n5 _a4 _a5 _a6 _b1 _r1 _m3 _r2)
def L_check_checker_items_2 (T : Tab) : Nat → YL_check_checker_items_2
  | 0 => fun _ _ _ _ _ _ _ _ _ _ _ _ _ _ _ _ _ _ _ => False
  | n + 1 => B_check_checker_items_2 T (L_check_checker_items_2 T n)
abbrev YL_check_checker_items_0 := Arr → Int → Int → Arr → Arr → Int → Int → (List (PV × PV)) → (List (PV × PV)) → Int → Arr → Arr → Arr → Bool → (List PV) → (List (PV × PV)) → S_api_Stmt → (Arr → Arr → Int → Int → (List (PV × PV)) → (List (PV × PV)) → Int → Arr → Arr → Arr → Bool → (List PV) → (List (PV × PV)) → S_api_Stmt → Prop) → Prop
def B_check_checker_items_0 (T : Tab) (R : YL_check_checker_items_0) (_a1 : Arr) (_n1 : Int) (_n2 : Int) (_a2 : Arr) (_a3 : Arr) (_n3 : Int) (_n4 : Int) (_m1 : List (PV × PV)) (_m2 : List (PV × PV)) (_n5 : Int) (_a4 : Arr) (_a5 : Arr) (_a6 : Arr) (_b1 : Bool) (_r1 : List PV) (_m3 : List (PV × PV)) (_x1 : S_api_Stmt) (K0 : Arr → Arr → Int → Int → (List (PV × PV)) → (List (PV × PV)) → Int → Arr → Arr → Arr → Bool → (List PV) → (List (PV × PV)) → S_api_Stmt → Prop) : Prop :=
 br (decide (_n2 < _n1))
 (0 ≤ _n2 ∧ _n2 < ((_a1.n : Nat) : Int) ∧
 as_api_Expr (_a1.g (_n2.toNat)) fun x37 =>
 br _b1
 (R _a1 _n1 (W (_n2 + (1 : Int))) _a2 _a3 _n3 _n4 _m1 _m2 _n5 _a4 _a5 _a6 true _r1 _m3 _x1 K0)
 (T.f_check_aggregate x37.Kind
 (fun _b2 =>
 R _a1 _n1 (W (_n2 + (1 : Int))) _a2 _a3 _n3 _n4 _m1 _m2 _n5 _a4 _a5 _a6 _b2 _r1 _m3 _x1 K0)))
 (K0 _a2 _a3 _n3 _n4 _m1 _m2 _n5 _a4 _a5 _a6 _b1 _r1 _m3 _x1)
def L_check_checker_items_0 (T : Tab) : Nat → YL_check_checker_items_0
  | 0 => fun _ _ _ _ _ _ _ _ _ _ _ _ _ _ _ _ _ _ => False
  | n + 1 => B_check_checker_items_0 T (L_check_checker_items_0 T n)
def F_check_checker_items (T : Tab) (_x1 : S_api_Stmt) (_a1 : Arr) (_a2 : Arr) (_n1 : Int) (_n2 : Int) (_m1 : List (PV × PV)) (_m2 : List (PV × PV)) (_n3 : Int) (_a3 : Arr) (_a4 : Arr) (_a5 : Arr) (_b1 : Bool) (_r1 : List PV) (_m3 : List (PV × PV)) (K0 : Bool → Arr → Arr → Int → Int → (List (PV × PV)) → (List (PV × PV)) → Int → Arr → Arr → Arr → Bool → (List PV) → (List (PV × PV)) → (List PV) → Prop) : Prop :=
 L_check_checker_items_0 T T.fuel _x1.Items ((_x1.Items.n : Nat) : Int) 0 _a1 _a2 _n1 _n2 _m1 _m2 _n3 _a3 _a4 _a5 (decide (((_x1.Groups.n : Nat) : Int) > (0 : Int))) _r1 _m3 _x1
 (fun a73 a74 n75 n76 m77 m78 n79 a80 a81 a82 b83 r84 m85 x86 =>
 L_check_checker_items_2 T T.fuel x86.Items ((x86.Items.n : Nat) : Int) 0 a73 a74 n75 n76 m77 m78 n79 a80 a81 a82 b83 r84 m85 ([])
 (fun a235 a236 n237 n238 m239 m240 n241 a242 a243 a244 b245 r246 m247 r248 =>
 K0 false a235 a236 n237 n238 m239 m240 n241 a242 a243 a244 b245 r246 m247 r248)
 (fun a249 a250 n251 n252 m253 m254 n255 a256 a257 a258 b259 r260 m261 r262 =>
 K0 true a249 a250 n251 n252 m253 m254 n255 a256 a257 a258 b259 r260 m261 r262))
def F_check_aggregate (T : Tab) (_n1 : Int) (K0 : Bool → Prop) : Prop :=
 br (decide (_n1 ≥ (11 : Int)))
 (K0 (decide (_n1 ≤ (14 : Int))))
 (K0 false)
abbrev YL_law13_renamed_0 := Bool → Int → S_api_Stmt → Int → ByteArray → ByteArray → Bool → Int → Int → (List PV) → (Bool → S_api_Stmt → Int → ByteArray → ByteArray → Bool → Int → Int → (List PV) → Prop) → Prop
def B_law13_renamed_0 (T : Tab) (R : YL_law13_renamed_0) (_b1 : Bool) (_n1 : Int) (_x1 : S_api_Stmt) (_n2 : Int) (_s1 : ByteArray) (_s2 : ByteArray) (_b2 : Bool) (_n3 : Int) (_n4 : Int) (_r1 : List PV) (K0 : Bool → S_api_Stmt → Int → ByteArray → ByteArray → Bool → Int → Int → (List PV) → Prop) : Prop :=
 br (decide (_n1 < ((_x1.Sets.n : Nat) : Int)))
 (0 ≤ _n1 ∧ _n1 < ((_x1.Sets.n : Nat) : Int) ∧
 as_api_Set (_x1.Sets.g (_n1.toNat)) fun x180 =>
 T.f_law13_others ⟨false, (lst true ([(PV.agg [.int .i64 x180.Expr_Kind, .int .i64 x180.Expr_Op, .int .i64 x180.Expr_Value_Kind, .int .i64 x180.Expr_Value_Int, .str x180.Expr_Value_Text, .str x180.Expr_Table, .str x180.Expr_Name, .arr x180.Expr_Kids.m x180.Expr_Kids.n x180.Expr_Kids.g, .int .i64 x180.Expr_At])])).n, (fun i => weakM (((lst true ([(PV.agg [.int .i64 x180.Expr_Kind, .int .i64 x180.Expr_Op, .int .i64 x180.Expr_Value_Kind, .int .i64 x180.Expr_Value_Int, .str x180.Expr_Value_Text, .str x180.Expr_Table, .str x180.Expr_Name, .arr x180.Expr_Kids.m x180.Expr_Kids.n x180.Expr_Kids.g, .int .i64 x180.Expr_At])])).g) i))⟩
 (fun _a1 _b3 =>
 br _b1
 (br _b3
 (br (!(x180.Name.toList == (ByteArray.mk #[111, 116, 104, 101, 114, 95, 97]).toList))
 (br (x180.Name.toList == (ByteArray.mk #[97]).toList)
 (br (((_a1.n : Nat) : Int) == (1 : Int))
 (0 ≤ (0 : Int) ∧ (0 : Int) < ((_a1.n : Nat) : Int) ∧
 as_api_Expr (_a1.g 0) fun x183 =>
 (_r1.length + 1) * 136 ≤ 140737488355328 ∧
 R (((_a1.n : Nat) : Int) == (1 : Int)) (W (_n1 + (1 : Int))) _x1 _n2 _s1 _s2 _b2 _n3 _n4 (_r1 ++ ([(PV.agg [.str (ByteArray.mk #[111, 116, 104, 101, 114, 95, 97]), .int .i64 x183.Kind, .int .i64 x183.Op, .int .i64 x183.Value_Kind, .int .i64 x183.Value_Int, .str x183.Value_Text, .str x183.Table, .str x183.Name, .arr x183.Kids.m x183.Kids.n x183.Kids.g, .int .i64 x183.At, .int .i64 x180.At])])) K0)
 ((_r1.length + 1) * 136 ≤ 140737488355328 ∧
 R (((_a1.n : Nat) : Int) == (1 : Int)) (W (_n1 + (1 : Int))) _x1 _n2 _s1 _s2 _b2 _n3 _n4 (_r1 ++ ([(PV.agg [.str (ByteArray.mk #[111, 116, 104, 101, 114, 95, 97]), .int .i64 x180.Expr_Kind, .int .i64 x180.Expr_Op, .int .i64 x180.Expr_Value_Kind, .int .i64 x180.Expr_Value_Int, .str x180.Expr_Value_Text, .str x180.Expr_Table, .str x180.Expr_Name, .arr x180.Expr_Kids.m x180.Expr_Kids.n x180.Expr_Kids.g, .int .i64 x180.Expr_At, .int .i64 x180.At])])) K0))
 (br (((_a1.n : Nat) : Int) == (1 : Int))
 (0 ≤ (0 : Int) ∧ (0 : Int) < ((_a1.n : Nat) : Int) ∧
 as_api_Expr (_a1.g 0) fun x204 =>
 (_r1.length + 1) * 136 ≤ 140737488355328 ∧
 R (((_a1.n : Nat) : Int) == (1 : Int)) (W (_n1 + (1 : Int))) _x1 _n2 _s1 _s2 _b2 _n3 _n4 (_r1 ++ ([(PV.agg [.str x180.Name, .int .i64 x204.Kind, .int .i64 x204.Op, .int .i64 x204.Value_Kind, .int .i64 x204.Value_Int, .str x204.Value_Text, .str x204.Table, .str x204.Name, .arr x204.Kids.m x204.Kids.n x204.Kids.g, .int .i64 x204.At, .int .i64 x180.At])])) K0)
 ((_r1.length + 1) * 136 ≤ 140737488355328 ∧
 R (((_a1.n : Nat) : Int) == (1 : Int)) (W (_n1 + (1 : Int))) _x1 _n2 _s1 _s2 _b2 _n3 _n4 (_r1 ++ ([(PV.agg (p_api_Set x180))])) K0)))
 (br (x180.Name.toList == (ByteArray.mk #[97]).toList)
 (br (((_a1.n : Nat) : Int) == (1 : Int))
 (0 ≤ (0 : Int) ∧ (0 : Int) < ((_a1.n : Nat) : Int) ∧
 as_api_Expr (_a1.g 0) fun x225 =>
 (_r1.length + 1) * 136 ≤ 140737488355328 ∧
 R false (W (_n1 + (1 : Int))) _x1 _n2 _s1 _s2 _b2 _n3 _n4 (_r1 ++ ([(PV.agg [.str (ByteArray.mk #[111, 116, 104, 101, 114, 95, 97]), .int .i64 x225.Kind, .int .i64 x225.Op, .int .i64 x225.Value_Kind, .int .i64 x225.Value_Int, .str x225.Value_Text, .str x225.Table, .str x225.Name, .arr x225.Kids.m x225.Kids.n x225.Kids.g, .int .i64 x225.At, .int .i64 x180.At])])) K0)
 ((_r1.length + 1) * 136 ≤ 140737488355328 ∧
 R false (W (_n1 + (1 : Int))) _x1 _n2 _s1 _s2 _b2 _n3 _n4 (_r1 ++ ([(PV.agg [.str (ByteArray.mk #[111, 116, 104, 101, 114, 95, 97]), .int .i64 x180.Expr_Kind, .int .i64 x180.Expr_Op, .int .i64 x180.Expr_Value_Kind, .int .i64 x180.Expr_Value_Int, .str x180.Expr_Value_Text, .str x180.Expr_Table, .str x180.Expr_Name, .arr x180.Expr_Kids.m x180.Expr_Kids.n x180.Expr_Kids.g, .int .i64 x180.Expr_At, .int .i64 x180.At])])) K0))
 (br (((_a1.n : Nat) : Int) == (1 : Int))
 (0 ≤ (0 : Int) ∧ (0 : Int) < ((_a1.n : Nat) : Int) ∧
 as_api_Expr (_a1.g 0) fun x246 =>
 (_r1.length + 1) * 136 ≤ 140737488355328 ∧
 R false (W (_n1 + (1 : Int))) _x1 _n2 _s1 _s2 _b2 _n3 _n4 (_r1 ++ ([(PV.agg [.str x180.Name, .int .i64 x246.Kind, .int .i64 x246.Op, .int .i64 x246.Value_Kind, .int .i64 x246.Value_Int, .str x246.Value_Text, .str x246.Table, .str x246.Name, .arr x246.Kids.m x246.Kids.n x246.Kids.g, .int .i64 x246.At, .int .i64 x180.At])])) K0)
 ((_r1.length + 1) * 136 ≤ 140737488355328 ∧
 R false (W (_n1 + (1 : Int))) _x1 _n2 _s1 _s2 _b2 _n3 _n4 (_r1 ++ ([(PV.agg (p_api_Set x180))])) K0))))
 (br (x180.Name.toList == (ByteArray.mk #[97]).toList)
 (br (((_a1.n : Nat) : Int) == (1 : Int))
 (0 ≤ (0 : Int) ∧ (0 : Int) < ((_a1.n : Nat) : Int) ∧
 as_api_Expr (_a1.g 0) fun x267 =>
 (_r1.length + 1) * 136 ≤ 140737488355328 ∧
 R false (W (_n1 + (1 : Int))) _x1 _n2 _s1 _s2 _b2 _n3 _n4 (_r1 ++ ([(PV.agg [.str (ByteArray.mk #[111, 116, 104, 101, 114, 95, 97]), .int .i64 x267.Kind, .int .i64 x267.Op, .int .i64 x267.Value_Kind, .int .i64 x267.Value_Int, .str x267.Value_Text, .str x267.Table, .str x267.Name, .arr x267.Kids.m x267.Kids.n x267.Kids.g, .int .i64 x267.At, .int .i64 x180.At])])) K0)
 ((_r1.length + 1) * 136 ≤ 140737488355328 ∧
 R false (W (_n1 + (1 : Int))) _x1 _n2 _s1 _s2 _b2 _n3 _n4 (_r1 ++ ([(PV.agg [.str (ByteArray.mk #[111, 116, 104, 101, 114, 95, 97]), .int .i64 x180.Expr_Kind, .int .i64 x180.Expr_Op, .int .i64 x180.Expr_Value_Kind, .int .i64 x180.Expr_Value_Int, .str x180.Expr_Value_Text, .str x180.Expr_Table, .str x180.Expr_Name, .arr x180.Expr_Kids.m x180.Expr_Kids.n x180.Expr_Kids.g, .int .i64 x180.Expr_At, .int .i64 x180.At])])) K0))
 (br (((_a1.n : Nat) : Int) == (1 : Int))
 (0 ≤ (0 : Int) ∧ (0 : Int) < ((_a1.n : Nat) : Int) ∧
 as_api_Expr (_a1.g 0) fun x288 =>
 (_r1.length + 1) * 136 ≤ 140737488355328 ∧
 R false (W (_n1 + (1 : Int))) _x1 _n2 _s1 _s2 _b2 _n3 _n4 (_r1 ++ ([(PV.agg [.str x180.Name, .int .i64 x288.Kind, .int .i64 x288.Op, .int .i64 x288.Value_Kind, .int .i64 x288.Value_Int, .str x288.Value_Text, .str x288.Table, .str x288.Name, .arr x288.Kids.m x288.Kids.n x288.Kids.g, .int .i64 x288.At, .int .i64 x180.At])])) K0)
 ((_r1.length + 1) * 136 ≤ 140737488355328 ∧
 R false (W (_n1 + (1 : Int))) _x1 _n2 _s1 _s2 _b2 _n3 _n4 (_r1 ++ ([(PV.agg (p_api_Set x180))])) K0))))
 (br (x180.Name.toList == (ByteArray.mk #[97]).toList)
 (br (((_a1.n : Nat) : Int) == (1 : Int))
 (0 ≤ (0 : Int) ∧ (0 : Int) < ((_a1.n : Nat) : Int) ∧
 as_api_Expr (_a1.g 0) fun x309 =>
 (_r1.length + 1) * 136 ≤ 140737488355328 ∧
 R false (W (_n1 + (1 : Int))) _x1 _n2 _s1 _s2 _b2 _n3 _n4 (_r1 ++ ([(PV.agg [.str (ByteArray.mk #[111, 116, 104, 101, 114, 95, 97]), .int .i64 x309.Kind, .int .i64 x309.Op, .int .i64 x309.Value_Kind, .int .i64 x309.Value_Int, .str x309.Value_Text, .str x309.Table, .str x309.Name, .arr x309.Kids.m x309.Kids.n x309.Kids.g, .int .i64 x309.At, .int .i64 x180.At])])) K0)
 ((_r1.length + 1) * 136 ≤ 140737488355328 ∧
 R false (W (_n1 + (1 : Int))) _x1 _n2 _s1 _s2 _b2 _n3 _n4 (_r1 ++ ([(PV.agg [.str (ByteArray.mk #[111, 116, 104, 101, 114, 95, 97]), .int .i64 x180.Expr_Kind, .int .i64 x180.Expr_Op, .int .i64 x180.Expr_Value_Kind, .int .i64 x180.Expr_Value_Int, .str x180.Expr_Value_Text, .str x180.Expr_Table, .str x180.Expr_Name, .arr x180.Expr_Kids.m x180.Expr_Kids.n x180.Expr_Kids.g, .int .i64 x180.Expr_At, .int .i64 x180.At])])) K0))
 (br (((_a1.n : Nat) : Int) == (1 : Int))
 (0 ≤ (0 : Int) ∧ (0 : Int) < ((_a1.n : Nat) : Int) ∧
 as_api_Expr (_a1.g 0) fun x330 =>
 (_r1.length + 1) * 136 ≤ 140737488355328 ∧
 R false (W (_n1 + (1 : Int))) _x1 _n2 _s1 _s2 _b2 _n3 _n4 (_r1 ++ ([(PV.agg [.str x180.Name, .int .i64 x330.Kind, .int .i64 x330.Op, .int .i64 x330.Value_Kind, .int .i64 x330.Value_Int, .str x330.Value_Text, .str x330.Table, .str x330.Name, .arr x330.Kids.m x330.Kids.n x330.Kids.g, .int .i64 x330.At, .int .i64 x180.At])])) K0)
 ((_r1.length + 1) * 136 ≤ 140737488355328 ∧
 R false (W (_n1 + (1 : Int))) _x1 _n2 _s1 _s2 _b2 _n3 _n4 (_r1 ++ ([(PV.agg (p_api_Set x180))])) K0)))))
 (K0 _b1 _x1 _n2 _s1 _s2 _b2 _n3 _n4 _r1)
def L_law13_renamed_0 (T : Tab) : Nat → YL_law13_renamed_0
  | 0 => fun _ _ _ _ _ _ _ _ _ _ _ => False
  | n + 1 => B_law13_renamed_0 T (L_law13_renamed_0 T n)
def F_law13_renamed (T : Tab) (_x1 : S_api_Stmt) (K0 : S_api_Stmt → Bool → Prop) : Prop :=
 br (_x1.Table.toList == (ByteArray.mk #[111, 116, 104, 101, 114, 95, 116]).toList)
 (K0 _x1 false)
 (br (_x1.Join.toList == (ByteArray.mk #[111, 116, 104, 101, 114, 95, 116]).toList)
 (K0 _x1 false)
 (br (_x1.Table.toList == (ByteArray.mk #[116]).toList)
 (br (_x1.Join.toList == (ByteArray.mk #[116]).toList)
 (T.f_law13_others ⟨false, _x1.On.n, (fun i => weakM (_x1.On.g i))⟩
 (fun _a1 _b1 =>
 T.f_law13_others ⟨false, _x1.Where.n, (fun i => weakM (_x1.Where.g i))⟩
 (fun _a2 _b2 =>
 T.f_law13_others ⟨false, _x1.Items.n, (fun i => weakM (_x1.Items.g i))⟩
 (fun _a3 _b3 =>
 T.f_law13_others ⟨false, _x1.Groups.n, (fun i => weakM (_x1.Groups.g i))⟩
 (fun _a4 _b4 =>
 br _b1
 (br _b2
 (br _b3
 (L_law13_renamed_0 T T.fuel _b4 0 ⟨_x1.Kind, (ByteArray.mk #[111, 116, 104, 101, 114, 95, 116]), (ByteArray.mk #[111, 116, 104, 101, 114, 95, 116]), _a1, _a2, _a3, _x1.Star, _x1.Sets, _a4, _x1.Sorts, _x1.Limit, _x1.At, _x1.JoinAt⟩ 0 (ByteArray.mk #[]) (ByteArray.mk #[]) false 0 0 ([])
 (fun b351 x352 n353 s354 s355 b356 n357 n358 r359 =>
 K0 ⟨x352.Kind, x352.Table, x352.Join, x352.On, x352.Where, x352.Items, x352.Star, (lst true r359), x352.Groups, x352.Sorts, x352.Limit, x352.At, x352.JoinAt⟩ b351))
 (L_law13_renamed_0 T T.fuel false 0 ⟨_x1.Kind, (ByteArray.mk #[111, 116, 104, 101, 114, 95, 116]), (ByteArray.mk #[111, 116, 104, 101, 114, 95, 116]), _a1, _a2, _a3, _x1.Star, _x1.Sets, _a4, _x1.Sorts, _x1.Limit, _x1.At, _x1.JoinAt⟩ 0 (ByteArray.mk #[]) (ByteArray.mk #[]) false 0 0 ([])
 (fun b360 x361 n362 s363 s364 b365 n366 n367 r368 =>
 K0 ⟨x361.Kind, x361.Table, x361.Join, x361.On, x361.Where, x361.Items, x361.Star, (lst true r368), x361.Groups, x361.Sorts, x361.Limit, x361.At, x361.JoinAt⟩ b360)))
 (L_law13_renamed_0 T T.fuel false 0 ⟨_x1.Kind, (ByteArray.mk #[111, 116, 104, 101, 114, 95, 116]), (ByteArray.mk #[111, 116, 104, 101, 114, 95, 116]), _a1, _a2, _a3, _x1.Star, _x1.Sets, _a4, _x1.Sorts, _x1.Limit, _x1.At, _x1.JoinAt⟩ 0 (ByteArray.mk #[]) (ByteArray.mk #[]) false 0 0 ([])
 (fun b369 x370 n371 s372 s373 b374 n375 n376 r377 =>
 K0 ⟨x370.Kind, x370.Table, x370.Join, x370.On, x370.Where, x370.Items, x370.Star, (lst true r377), x370.Groups, x370.Sorts, x370.Limit, x370.At, x370.JoinAt⟩ b369)))
 (L_law13_renamed_0 T T.fuel false 0 ⟨_x1.Kind, (ByteArray.mk #[111, 116, 104, 101, 114, 95, 116]), (ByteArray.mk #[111, 116, 104, 101, 114, 95, 116]), _a1, _a2, _a3, _x1.Star, _x1.Sets, _a4, _x1.Sorts, _x1.Limit, _x1.At, _x1.JoinAt⟩ 0 (ByteArray.mk #[]) (ByteArray.mk #[]) false 0 0 ([])
 (fun b378 x379 n380 s381 s382 b383 n384 n385 r386 =>
 K0 ⟨x379.Kind, x379.Table, x379.Join, x379.On, x379.Where, x379.Items, x379.Star, (lst true r386), x379.Groups, x379.Sorts, x379.Limit, x379.At, x379.JoinAt⟩ b378)))))))
 (T.f_law13_others ⟨false, _x1.On.n, (fun i => weakM (_x1.On.g i))⟩
 (fun _a5 _b5 =>
 T.f_law13_others ⟨false, _x1.Where.n, (fun i => weakM (_x1.Where.g i))⟩
 (fun _a6 _b6 =>
 T.f_law13_others ⟨false, _x1.Items.n, (fun i => weakM (_x1.Items.g i))⟩
 (fun _a7 _b7 =>
 T.f_law13_others ⟨false, _x1.Groups.n, (fun i => weakM (_x1.Groups.g i))⟩
 (fun _a8 _b8 =>
 br _b5
 (br _b6
 (br _b7
 (L_law13_renamed_0 T T.fuel _b8 0 ⟨_x1.Kind, (ByteArray.mk #[111, 116, 104, 101, 114, 95, 116]), _x1.Join, _a5, _a6, _a7, _x1.Star, _x1.Sets, _a8, _x1.Sorts, _x1.Limit, _x1.At, _x1.JoinAt⟩ 0 (ByteArray.mk #[]) (ByteArray.mk #[]) false 0 0 ([])
 (fun b395 x396 n397 s398 s399 b400 n401 n402 r403 =>
 K0 ⟨x396.Kind, x396.Table, x396.Join, x396.On, x396.Where, x396.Items, x396.Star, (lst true r403), x396.Groups, x396.Sorts, x396.Limit, x396.At, x396.JoinAt⟩ b395))
 (L_law13_renamed_0 T T.fuel false 0 ⟨_x1.Kind, (ByteArray.mk #[111, 116, 104, 101, 114, 95, 116]), _x1.Join, _a5, _a6, _a7, _x1.Star, _x1.Sets, _a8, _x1.Sorts, _x1.Limit, _x1.At, _x1.JoinAt⟩ 0 (ByteArray.mk #[]) (ByteArray.mk #[]) false 0 0 ([])
 (fun b404 x405 n406 s407 s408 b409 n410 n411 r412 =>
 K0 ⟨x405.Kind, x405.Table, x405.Join, x405.On, x405.Where, x405.Items, x405.Star, (lst true r412), x405.Groups, x405.Sorts, x405.Limit, x405.At, x405.JoinAt⟩ b404)))
 (L_law13_renamed_0 T T.fuel false 0 ⟨_x1.Kind, (ByteArray.mk #[111, 116, 104, 101, 114, 95, 116]), _x1.Join, _a5, _a6, _a7, _x1.Star, _x1.Sets, _a8, _x1.Sorts, _x1.Limit, _x1.At, _x1.JoinAt⟩ 0 (ByteArray.mk #[]) (ByteArray.mk #[]) false 0 0 ([])
 (fun b413 x414 n415 s416 s417 b418 n419 n420 r421 =>
 K0 ⟨x414.Kind, x414.Table, x414.Join, x414.On, x414.Where, x414.Items, x414.Star, (lst true r421), x414.Groups, x414.Sorts, x414.Limit, x414.At, x414.JoinAt⟩ b413)))
 (L_law13_renamed_0 T T.fuel false 0 ⟨_x1.Kind, (ByteArray.mk #[111, 116, 104, 101, 114, 95, 116]), _x1.Join, _a5, _a6, _a7, _x1.Star, _x1.Sets, _a8, _x1.Sorts, _x1.Limit, _x1.At, _x1.JoinAt⟩ 0 (ByteArray.mk #[]) (ByteArray.mk #[]) false 0 0 ([])
 (fun b422 x423 n424 s425 s426 b427 n428 n429 r430 =>
 K0 ⟨x423.Kind, x423.Table, x423.Join, x423.On, x423.Where, x423.Items, x423.Star, (lst true r430), x423.Groups, x423.Sorts, x423.Limit, x423.At, x423.JoinAt⟩ b422))))))))
 (br (_x1.Join.toList == (ByteArray.mk #[116]).toList)
 (T.f_law13_others ⟨false, _x1.On.n, (fun i => weakM (_x1.On.g i))⟩
 (fun _a9 _b9 =>
 T.f_law13_others ⟨false, _x1.Where.n, (fun i => weakM (_x1.Where.g i))⟩
 (fun _a10 _b10 =>
 T.f_law13_others ⟨false, _x1.Items.n, (fun i => weakM (_x1.Items.g i))⟩
 (fun _a11 _b11 =>
 T.f_law13_others ⟨false, _x1.Groups.n, (fun i => weakM (_x1.Groups.g i))⟩
 (fun _a12 _b12 =>
 br _b9
 (br _b10
 (br _b11
 (L_law13_renamed_0 T T.fuel _b12 0 ⟨_x1.Kind, _x1.Table, (ByteArray.mk #[111, 116, 104, 101, 114, 95, 116]), _a9, _a10, _a11, _x1.Star, _x1.Sets, _a12, _x1.Sorts, _x1.Limit, _x1.At, _x1.JoinAt⟩ 0 (ByteArray.mk #[]) (ByteArray.mk #[]) false 0 0 ([])
 (fun b439 x440 n441 s442 s443 b444 n445 n446 r447 =>
 K0 ⟨x440.Kind, x440.Table, x440.Join, x440.On, x440.Where, x440.Items, x440.Star, (lst true r447), x440.Groups, x440.Sorts, x440.Limit, x440.At, x440.JoinAt⟩ b439))
 (L_law13_renamed_0 T T.fuel false 0 ⟨_x1.Kind, _x1.Table, (ByteArray.mk #[111, 116, 104, 101, 114, 95, 116]), _a9, _a10, _a11, _x1.Star, _x1.Sets, _a12, _x1.Sorts, _x1.Limit, _x1.At, _x1.JoinAt⟩ 0 (ByteArray.mk #[]) (ByteArray.mk #[]) false 0 0 ([])
 (fun b448 x449 n450 s451 s452 b453 n454 n455 r456 =>
 K0 ⟨x449.Kind, x449.Table, x449.Join, x449.On, x449.Where, x449.Items, x449.Star, (lst true r456), x449.Groups, x449.Sorts, x449.Limit, x449.At, x449.JoinAt⟩ b448)))
 (L_law13_renamed_0 T T.fuel false 0 ⟨_x1.Kind, _x1.Table, (ByteArray.mk #[111, 116, 104, 101, 114, 95, 116]), _a9, _a10, _a11, _x1.Star, _x1.Sets, _a12, _x1.Sorts, _x1.Limit, _x1.At, _x1.JoinAt⟩ 0 (ByteArray.mk #[]) (ByteArray.mk #[]) false 0 0 ([])
 (fun b457 x458 n459 s460 s461 b462 n463 n464 r465 =>
 K0 ⟨x458.Kind, x458.Table, x458.Join, x458.On, x458.Where, x458.Items, x458.Star, (lst true r465), x458.Groups, x458.Sorts, x458.Limit, x458.At, x458.JoinAt⟩ b457)))
 (L_law13_renamed_0 T T.fuel false 0 ⟨_x1.Kind, _x1.Table, (ByteArray.mk #[111, 116, 104, 101, 114, 95, 116]), _a9, _a10, _a11, _x1.Star, _x1.Sets, _a12, _x1.Sorts, _x1.Limit, _x1.At, _x1.JoinAt⟩ 0 (ByteArray.mk #[]) (ByteArray.mk #[]) false 0 0 ([])
 (fun b466 x467 n468 s469 s470 b471 n472 n473 r474 =>
 K0 ⟨x467.Kind, x467.Table, x467.Join, x467.On, x467.Where, x467.Items, x467.Star, (lst true r474), x467.Groups, x467.Sorts, x467.Limit, x467.At, x467.JoinAt⟩ b466)))))))
 (T.f_law13_others ⟨false, _x1.On.n, (fun i => weakM (_x1.On.g i))⟩
 (fun _a13 _b13 =>
 T.f_law13_others ⟨false, _x1.Where.n, (fun i => weakM (_x1.Where.g i))⟩
 (fun _a14 _b14 =>
 T.f_law13_others ⟨false, _x1.Items.n, (fun i => weakM (_x1.Items.g i))⟩
 (fun _a15 _b15 =>
 T.f_law13_others ⟨false, _x1.Groups.n, (fun i => weakM (_x1.Groups.g i))⟩
 (fun _a16 _b16 =>
 br _b13
 (br _b14
 (br _b15
 (L_law13_renamed_0 T T.fuel _b16 0 ⟨_x1.Kind, _x1.Table, _x1.Join, _a13, _a14, _a15, _x1.Star, _x1.Sets, _a16, _x1.Sorts, _x1.Limit, _x1.At, _x1.JoinAt⟩ 0 (ByteArray.mk #[]) (ByteArray.mk #[]) false 0 0 ([])
 (fun b483 x484 n485 s486 s487 b488 n489 n490 r491 =>
 K0 ⟨x484.Kind, x484.Table, x484.Join, x484.On, x484.Where, x484.Items, x484.Star, (lst true r491), x484.Groups, x484.Sorts, x484.Limit, x484.At, x484.JoinAt⟩ b483))
 (L_law13_renamed_0 T T.fuel false 0 ⟨_x1.Kind, _x1.Table, _x1.Join, _a13, _a14, _a15, _x1.Star, _x1.Sets, _a16, _x1.Sorts, _x1.Limit, _x1.At, _x1.JoinAt⟩ 0 (ByteArray.mk #[]) (ByteArray.mk #[]) false 0 0 ([])
 (fun b492 x493 n494 s495 s496 b497 n498 n499 r500 =>
 K0 ⟨x493.Kind, x493.Table, x493.Join, x493.On, x493.Where, x493.Items, x493.Star, (lst true r500), x493.Groups, x493.Sorts, x493.Limit, x493.At, x493.JoinAt⟩ b492)))
 (L_law13_renamed_0 T T.fuel false 0 ⟨_x1.Kind, _x1.Table, _x1.Join, _a13, _a14, _a15, _x1.Star, _x1.Sets, _a16, _x1.Sorts, _x1.Limit, _x1.At, _x1.JoinAt⟩ 0 (ByteArray.mk #[]) (ByteArray.mk #[]) false 0 0 ([])
 (fun b501 x502 n503 s504 s505 b506 n507 n508 r509 =>
 K0 ⟨x502.Kind, x502.Table, x502.Join, x502.On, x502.Where, x502.Items, x502.Star, (lst true r509), x502.Groups, x502.Sorts, x502.Limit, x502.At, x502.JoinAt⟩ b501)))
 (L_law13_renamed_0 T T.fuel false 0 ⟨_x1.Kind, _x1.Table, _x1.Join, _a13, _a14, _a15, _x1.Star, _x1.Sets, _a16, _x1.Sorts, _x1.Limit, _x1.At, _x1.JoinAt⟩ 0 (ByteArray.mk #[]) (ByteArray.mk #[]) false 0 0 ([])
 (fun b510 x511 n512 s513 s514 b515 n516 n517 r518 =>
 K0 ⟨x511.Kind, x511.Table, x511.Join, x511.On, x511.Where, x511.Items, x511.Star, (lst true r518), x511.Groups, x511.Sorts, x511.Limit, x511.At, x511.JoinAt⟩ b510))))))))))
abbrev YL_law13_others_0 := Arr → Bool → Int → (List PV) → (Bool → (List PV) → Prop) → Prop
def B_law13_others_0 (T : Tab) (R : YL_law13_others_0) (_a1 : Arr) (_b1 : Bool) (_n1 : Int) (_r1 : List PV) (K0 : Bool → (List PV) → Prop) : Prop :=
 br (decide (_n1 < ((_a1.n : Nat) : Int)))
 (0 ≤ _n1 ∧ _n1 < ((_a1.n : Nat) : Int) ∧
 as_api_Expr (_a1.g (_n1.toNat)) fun x506 =>
 br (x506.Name.toList == (ByteArray.mk #[111, 116, 104, 101, 114, 95, 97]).toList)
 (br (x506.Kind == (3 : Int))
 (br (x506.Name.toList == (ByteArray.mk #[97]).toList)
 (br (x506.Kind == (2 : Int))
 (br ((ByteArray.mk #[111, 116, 104, 101, 114, 95, 97]).toList == (ByteArray.mk #[112]).toList)
 (br (x506.Table.toList == (ByteArray.mk #[116]).toList)
 (T.f_law13_others ⟨false, x506.Kids.n, (fun i => weakM (x506.Kids.g i))⟩
 (fun _a2 _b2 =>
 (_r1.length + 1) * 112 ≤ 140737488355328 ∧
 R _a1 false (W (_n1 + (1 : Int))) (_r1 ++ ([(PV.agg [.int .i64 x506.Kind, .int .i64 x506.Op, .int .i64 x506.Value_Kind, .int .i64 x506.Value_Int, .str x506.Value_Text, .str (ByteArray.mk #[111, 116, 104, 101, 114, 95, 116]), .str (ByteArray.mk #[111, 116, 104, 101, 114, 95, 112]), .arr _a2.m _a2.n _a2.g, .int .i64 x506.At])])) K0))
 (T.f_law13_others ⟨false, x506.Kids.n, (fun i => weakM (x506.Kids.g i))⟩
 (fun _a3 _b3 =>
 (_r1.length + 1) * 112 ≤ 140737488355328 ∧
 R _a1 false (W (_n1 + (1 : Int))) (_r1 ++ ([(PV.agg [.int .i64 x506.Kind, .int .i64 x506.Op, .int .i64 x506.Value_Kind, .int .i64 x506.Value_Int, .str x506.Value_Text, .str x506.Table, .str (ByteArray.mk #[111, 116, 104, 101, 114, 95, 112]), .arr _a3.m _a3.n _a3.g, .int .i64 x506.At])])) K0)))
 (br (x506.Table.toList == (ByteArray.mk #[116]).toList)
 (T.f_law13_others ⟨false, x506.Kids.n, (fun i => weakM (x506.Kids.g i))⟩
 (fun _a4 _b4 =>
 (_r1.length + 1) * 112 ≤ 140737488355328 ∧
 R _a1 false (W (_n1 + (1 : Int))) (_r1 ++ ([(PV.agg [.int .i64 x506.Kind, .int .i64 x506.Op, .int .i64 x506.Value_Kind, .int .i64 x506.Value_Int, .str x506.Value_Text, .str (ByteArray.mk #[111, 116, 104, 101, 114, 95, 116]), .str (ByteArray.mk #[111, 116, 104, 101, 114, 95, 97]), .arr _a4.m _a4.n _a4.g, .int .i64 x506.At])])) K0))
 (T.f_law13_others ⟨false, x506.Kids.n, (fun i => weakM (x506.Kids.g i))⟩
 (fun _a5 _b5 =>
 (_r1.length + 1) * 112 ≤ 140737488355328 ∧
 R _a1 false (W (_n1 + (1 : Int))) (_r1 ++ ([(PV.agg [.int .i64 x506.Kind, .int .i64 x506.Op, .int .i64 x506.Value_Kind, .int .i64 x506.Value_Int, .str x506.Value_Text, .str x506.Table, .str (ByteArray.mk #[111, 116, 104, 101, 114, 95, 97]), .arr _a5.m _a5.n _a5.g, .int .i64 x506.At])])) K0))))
 (br (x506.Table.toList == (ByteArray.mk #[116]).toList)
 (T.f_law13_others ⟨false, x506.Kids.n, (fun i => weakM (x506.Kids.g i))⟩
 (fun _a6 _b6 =>
 (_r1.length + 1) * 112 ≤ 140737488355328 ∧
 R _a1 false (W (_n1 + (1 : Int))) (_r1 ++ ([(PV.agg [.int .i64 x506.Kind, .int .i64 x506.Op, .int .i64 x506.Value_Kind, .int .i64 x506.Value_Int, .str x506.Value_Text, .str (ByteArray.mk #[111, 116, 104, 101, 114, 95, 116]), .str (ByteArray.mk #[111, 116, 104, 101, 114, 95, 97]), .arr _a6.m _a6.n _a6.g, .int .i64 x506.At])])) K0))
 (T.f_law13_others ⟨false, x506.Kids.n, (fun i => weakM (x506.Kids.g i))⟩
 (fun _a7 _b7 =>
 (_r1.length + 1) * 112 ≤ 140737488355328 ∧
 R _a1 false (W (_n1 + (1 : Int))) (_r1 ++ ([(PV.agg [.int .i64 x506.Kind, .int .i64 x506.Op, .int .i64 x506.Value_Kind, .int .i64 x506.Value_Int, .str x506.Value_Text, .str x506.Table, .str (ByteArray.mk #[111, 116, 104, 101, 114, 95, 97]), .arr _a7.m _a7.n _a7.g, .int .i64 x506.At])])) K0))))
 (br (x506.Kind == (2 : Int))
 (br (x506.Name.toList == (ByteArray.mk #[112]).toList)
 (br (x506.Table.toList == (ByteArray.mk #[116]).toList)
 (T.f_law13_others ⟨false, x506.Kids.n, (fun i => weakM (x506.Kids.g i))⟩
 (fun _a8 _b8 =>
 (_r1.length + 1) * 112 ≤ 140737488355328 ∧
 R _a1 false (W (_n1 + (1 : Int))) (_r1 ++ ([(PV.agg [.int .i64 x506.Kind, .int .i64 x506.Op, .int .i64 x506.Value_Kind, .int .i64 x506.Value_Int, .str x506.Value_Text, .str (ByteArray.mk #[111, 116, 104, 101, 114, 95, 116]), .str (ByteArray.mk #[111, 116, 104, 101, 114, 95, 112]), .arr _a8.m _a8.n _a8.g, .int .i64 x506.At])])) K0))
 (T.f_law13_others ⟨false, x506.Kids.n, (fun i => weakM (x506.Kids.g i))⟩
 (fun _a9 _b9 =>
 (_r1.length + 1) * 112 ≤ 140737488355328 ∧
 R _a1 false (W (_n1 + (1 : Int))) (_r1 ++ ([(PV.agg [.int .i64 x506.Kind, .int .i64 x506.Op, .int .i64 x506.Value_Kind, .int .i64 x506.Value_Int, .str x506.Value_Text, .str x506.Table, .str (ByteArray.mk #[111, 116, 104, 101, 114, 95, 112]), .arr _a9.m _a9.n _a9.g, .int .i64 x506.At])])) K0)))
 (br (x506.Table.toList == (ByteArray.mk #[116]).toList)
 (T.f_law13_others ⟨false, x506.Kids.n, (fun i => weakM (x506.Kids.g i))⟩
 (fun _a10 _b10 =>
 (_r1.length + 1) * 112 ≤ 140737488355328 ∧
 R _a1 false (W (_n1 + (1 : Int))) (_r1 ++ ([(PV.agg [.int .i64 x506.Kind, .int .i64 x506.Op, .int .i64 x506.Value_Kind, .int .i64 x506.Value_Int, .str x506.Value_Text, .str (ByteArray.mk #[111, 116, 104, 101, 114, 95, 116]), .str x506.Name, .arr _a10.m _a10.n _a10.g, .int .i64 x506.At])])) K0))
 (T.f_law13_others ⟨false, x506.Kids.n, (fun i => weakM (x506.Kids.g i))⟩
 (fun _a11 _b11 =>
 (_r1.length + 1) * 112 ≤ 140737488355328 ∧
 R _a1 false (W (_n1 + (1 : Int))) (_r1 ++ ([(PV.agg [.int .i64 x506.Kind, .int .i64 x506.Op, .int .i64 x506.Value_Kind, .int .i64 x506.Value_Int, .str x506.Value_Text, .str x506.Table, .str x506.Name, .arr _a11.m _a11.n _a11.g, .int .i64 x506.At])])) K0))))
 (br (x506.Table.toList == (ByteArray.mk #[116]).toList)
 (T.f_law13_others ⟨false, x506.Kids.n, (fun i => weakM (x506.Kids.g i))⟩
 (fun _a12 _b12 =>
 (_r1.length + 1) * 112 ≤ 140737488355328 ∧
 R _a1 false (W (_n1 + (1 : Int))) (_r1 ++ ([(PV.agg [.int .i64 x506.Kind, .int .i64 x506.Op, .int .i64 x506.Value_Kind, .int .i64 x506.Value_Int, .str x506.Value_Text, .str (ByteArray.mk #[111, 116, 104, 101, 114, 95, 116]), .str x506.Name, .arr _a12.m _a12.n _a12.g, .int .i64 x506.At])])) K0))
 (T.f_law13_others ⟨false, x506.Kids.n, (fun i => weakM (x506.Kids.g i))⟩
 (fun _a13 _b13 =>
 (_r1.length + 1) * 112 ≤ 140737488355328 ∧
 R _a1 false (W (_n1 + (1 : Int))) (_r1 ++ ([(PV.agg [.int .i64 x506.Kind, .int .i64 x506.Op, .int .i64 x506.Value_Kind, .int .i64 x506.Value_Int, .str x506.Value_Text, .str x506.Table, .str x506.Name, .arr _a13.m _a13.n _a13.g, .int .i64 x506.At])])) K0)))))
 (br (x506.Kind == (2 : Int))
 (br (x506.Name.toList == (ByteArray.mk #[112]).toList)
 (br (x506.Table.toList == (ByteArray.mk #[116]).toList)
 (T.f_law13_others ⟨false, x506.Kids.n, (fun i => weakM (x506.Kids.g i))⟩
 (fun _a14 _b14 =>
 (_r1.length + 1) * 112 ≤ 140737488355328 ∧
 R _a1 false (W (_n1 + (1 : Int))) (_r1 ++ ([(PV.agg [.int .i64 x506.Kind, .int .i64 x506.Op, .int .i64 x506.Value_Kind, .int .i64 x506.Value_Int, .str x506.Value_Text, .str (ByteArray.mk #[111, 116, 104, 101, 114, 95, 116]), .str (ByteArray.mk #[111, 116, 104, 101, 114, 95, 112]), .arr _a14.m _a14.n _a14.g, .int .i64 x506.At])])) K0))
 (T.f_law13_others ⟨false, x506.Kids.n, (fun i => weakM (x506.Kids.g i))⟩
 (fun _a15 _b15 =>
 (_r1.length + 1) * 112 ≤ 140737488355328 ∧
 R _a1 false (W (_n1 + (1 : Int))) (_r1 ++ ([(PV.agg [.int .i64 x506.Kind, .int .i64 x506.Op, .int .i64 x506.Value_Kind, .int .i64 x506.Value_Int, .str x506.Value_Text, .str x506.Table, .str (ByteArray.mk #[111, 116, 104, 101, 114, 95, 112]), .arr _a15.m _a15.n _a15.g, .int .i64 x506.At])])) K0)))
 (br (x506.Table.toList == (ByteArray.mk #[116]).toList)
 (T.f_law13_others ⟨false, x506.Kids.n, (fun i => weakM (x506.Kids.g i))⟩
 (fun _a16 _b16 =>
 (_r1.length + 1) * 112 ≤ 140737488355328 ∧
 R _a1 false (W (_n1 + (1 : Int))) (_r1 ++ ([(PV.agg [.int .i64 x506.Kind, .int .i64 x506.Op, .int .i64 x506.Value_Kind, .int .i64 x506.Value_Int, .str x506.Value_Text, .str (ByteArray.mk #[111, 116, 104, 101, 114, 95, 116]), .str x506.Name, .arr _a16.m _a16.n _a16.g, .int .i64 x506.At])])) K0))
 (T.f_law13_others ⟨false, x506.Kids.n, (fun i => weakM (x506.Kids.g i))⟩
 (fun _a17 _b17 =>
 (_r1.length + 1) * 112 ≤ 140737488355328 ∧
 R _a1 false (W (_n1 + (1 : Int))) (_r1 ++ ([(PV.agg [.int .i64 x506.Kind, .int .i64 x506.Op, .int .i64 x506.Value_Kind, .int .i64 x506.Value_Int, .str x506.Value_Text, .str x506.Table, .str x506.Name, .arr _a17.m _a17.n _a17.g, .int .i64 x506.At])])) K0))))
 (br (x506.Table.toList == (ByteArray.mk #[116]).toList)
 (T.f_law13_others ⟨false, x506.Kids.n, (fun i => weakM (x506.Kids.g i))⟩
 (fun _a18 _b18 =>
 (_r1.length + 1) * 112 ≤ 140737488355328 ∧
 R _a1 false (W (_n1 + (1 : Int))) (_r1 ++ ([(PV.agg [.int .i64 x506.Kind, .int .i64 x506.Op, .int .i64 x506.Value_Kind, .int .i64 x506.Value_Int, .str x506.Value_Text, .str (ByteArray.mk #[111, 116, 104, 101, 114, 95, 116]), .str x506.Name, .arr _a18.m _a18.n _a18.g, .int .i64 x506.At])])) K0))
 (T.f_law13_others ⟨false, x506.Kids.n, (fun i => weakM (x506.Kids.g i))⟩
 (fun _a19 _b19 =>
 (_r1.length + 1) * 112 ≤ 140737488355328 ∧
 R _a1 false (W (_n1 + (1 : Int))) (_r1 ++ ([(PV.agg [.int .i64 x506.Kind, .int .i64 x506.Op, .int .i64 x506.Value_Kind, .int .i64 x506.Value_Int, .str x506.Value_Text, .str x506.Table, .str x506.Name, .arr _a19.m _a19.n _a19.g, .int .i64 x506.At])])) K0)))))
 (br (x506.Name.toList == (ByteArray.mk #[111, 116, 104, 101, 114, 95, 112]).toList)
 (br (x506.Kind == (3 : Int))
 (br (x506.Name.toList == (ByteArray.mk #[97]).toList)
 (br (x506.Kind == (2 : Int))
 (br ((ByteArray.mk #[111, 116, 104, 101, 114, 95, 97]).toList == (ByteArray.mk #[112]).toList)
 (br (x506.Table.toList == (ByteArray.mk #[116]).toList)
 (T.f_law13_others ⟨false, x506.Kids.n, (fun i => weakM (x506.Kids.g i))⟩
 (fun _a20 _b20 =>
 (_r1.length + 1) * 112 ≤ 140737488355328 ∧
 R _a1 false (W (_n1 + (1 : Int))) (_r1 ++ ([(PV.agg [.int .i64 x506.Kind, .int .i64 x506.Op, .int .i64 x506.Value_Kind, .int .i64 x506.Value_Int, .str x506.Value_Text, .str (ByteArray.mk #[111, 116, 104, 101, 114, 95, 116]), .str (ByteArray.mk #[111, 116, 104, 101, 114, 95, 112]), .arr _a20.m _a20.n _a20.g, .int .i64 x506.At])])) K0))
 (T.f_law13_others ⟨false, x506.Kids.n, (fun i => weakM (x506.Kids.g i))⟩
 (fun _a21 _b21 =>
 (_r1.length + 1) * 112 ≤ 140737488355328 ∧
 R _a1 false (W (_n1 + (1 : Int))) (_r1 ++ ([(PV.agg [.int .i64 x506.Kind, .int .i64 x506.Op, .int .i64 x506.Value_Kind, .int .i64 x506.Value_Int, .str x506.Value_Text, .str x506.Table, .str (ByteArray.mk #[111, 116, 104, 101, 114, 95, 112]), .arr _a21.m _a21.n _a21.g, .int .i64 x506.At])])) K0)))
 (br (x506.Table.toList == (ByteArray.mk #[116]).toList)
 (T.f_law13_others ⟨false, x506.Kids.n, (fun i => weakM (x506.Kids.g i))⟩
 (fun _a22 _b22 =>
 (_r1.length + 1) * 112 ≤ 140737488355328 ∧
 R _a1 false (W (_n1 + (1 : Int))) (_r1 ++ ([(PV.agg [.int .i64 x506.Kind, .int .i64 x506.Op, .int .i64 x506.Value_Kind, .int .i64 x506.Value_Int, .str x506.Value_Text, .str (ByteArray.mk #[111, 116, 104, 101, 114, 95, 116]), .str (ByteArray.mk #[111, 116, 104, 101, 114, 95, 97]), .arr _a22.m _a22.n _a22.g, .int .i64 x506.At])])) K0))
 (T.f_law13_others ⟨false, x506.Kids.n, (fun i => weakM (x506.Kids.g i))⟩
 (fun _a23 _b23 =>
 (_r1.length + 1) * 112 ≤ 140737488355328 ∧
 R _a1 false (W (_n1 + (1 : Int))) (_r1 ++ ([(PV.agg [.int .i64 x506.Kind, .int .i64 x506.Op, .int .i64 x506.Value_Kind, .int .i64 x506.Value_Int, .str x506.Value_Text, .str x506.Table, .str (ByteArray.mk #[111, 116, 104, 101, 114, 95, 97]), .arr _a23.m _a23.n _a23.g, .int .i64 x506.At])])) K0))))
 (br (x506.Table.toList == (ByteArray.mk #[116]).toList)
 (T.f_law13_others ⟨false, x506.Kids.n, (fun i => weakM (x506.Kids.g i))⟩
 (fun _a24 _b24 =>
 (_r1.length + 1) * 112 ≤ 140737488355328 ∧
 R _a1 false (W (_n1 + (1 : Int))) (_r1 ++ ([(PV.agg [.int .i64 x506.Kind, .int .i64 x506.Op, .int .i64 x506.Value_Kind, .int .i64 x506.Value_Int, .str x506.Value_Text, .str (ByteArray.mk #[111, 116, 104, 101, 114, 95, 116]), .str (ByteArray.mk #[111, 116, 104, 101, 114, 95, 97]), .arr _a24.m _a24.n _a24.g, .int .i64 x506.At])])) K0))
 (T.f_law13_others ⟨false, x506.Kids.n, (fun i => weakM (x506.Kids.g i))⟩
 (fun _a25 _b25 =>
 (_r1.length + 1) * 112 ≤ 140737488355328 ∧
 R _a1 false (W (_n1 + (1 : Int))) (_r1 ++ ([(PV.agg [.int .i64 x506.Kind, .int .i64 x506.Op, .int .i64 x506.Value_Kind, .int .i64 x506.Value_Int, .str x506.Value_Text, .str x506.Table, .str (ByteArray.mk #[111, 116, 104, 101, 114, 95, 97]), .arr _a25.m _a25.n _a25.g, .int .i64 x506.At])])) K0))))
 (br (x506.Kind == (2 : Int))
 (br (x506.Name.toList == (ByteArray.mk #[112]).toList)
 (br (x506.Table.toList == (ByteArray.mk #[116]).toList)
 (T.f_law13_others ⟨false, x506.Kids.n, (fun i => weakM (x506.Kids.g i))⟩
 (fun _a26 _b26 =>
 (_r1.length + 1) * 112 ≤ 140737488355328 ∧
 R _a1 false (W (_n1 + (1 : Int))) (_r1 ++ ([(PV.agg [.int .i64 x506.Kind, .int .i64 x506.Op, .int .i64 x506.Value_Kind, .int .i64 x506.Value_Int, .str x506.Value_Text, .str (ByteArray.mk #[111, 116, 104, 101, 114, 95, 116]), .str (ByteArray.mk #[111, 116, 104, 101, 114, 95, 112]), .arr _a26.m _a26.n _a26.g, .int .i64 x506.At])])) K0))
 (T.f_law13_others ⟨false, x506.Kids.n, (fun i => weakM (x506.Kids.g i))⟩
 (fun _a27 _b27 =>
 (_r1.length + 1) * 112 ≤ 140737488355328 ∧
 R _a1 false (W (_n1 + (1 : Int))) (_r1 ++ ([(PV.agg [.int .i64 x506.Kind, .int .i64 x506.Op, .int .i64 x506.Value_Kind, .int .i64 x506.Value_Int, .str x506.Value_Text, .str x506.Table, .str (ByteArray.mk #[111, 116, 104, 101, 114, 95, 112]), .arr _a27.m _a27.n _a27.g, .int .i64 x506.At])])) K0)))
 (br (x506.Table.toList == (ByteArray.mk #[116]).toList)
 (T.f_law13_others ⟨false, x506.Kids.n, (fun i => weakM (x506.Kids.g i))⟩
 (fun _a28 _b28 =>
 (_r1.length + 1) * 112 ≤ 140737488355328 ∧
 R _a1 false (W (_n1 + (1 : Int))) (_r1 ++ ([(PV.agg [.int .i64 x506.Kind, .int .i64 x506.Op, .int .i64 x506.Value_Kind, .int .i64 x506.Value_Int, .str x506.Value_Text, .str (ByteArray.mk #[111, 116, 104, 101, 114, 95, 116]), .str x506.Name, .arr _a28.m _a28.n _a28.g, .int .i64 x506.At])])) K0))
 (T.f_law13_others ⟨false, x506.Kids.n, (fun i => weakM (x506.Kids.g i))⟩
 (fun _a29 _b29 =>
 (_r1.length + 1) * 112 ≤ 140737488355328 ∧
 R _a1 false (W (_n1 + (1 : Int))) (_r1 ++ ([(PV.agg [.int .i64 x506.Kind, .int .i64 x506.Op, .int .i64 x506.Value_Kind, .int .i64 x506.Value_Int, .str x506.Value_Text, .str x506.Table, .str x506.Name, .arr _a29.m _a29.n _a29.g, .int .i64 x506.At])])) K0))))
 (br (x506.Table.toList == (ByteArray.mk #[116]).toList)
 (T.f_law13_others ⟨false, x506.Kids.n, (fun i => weakM (x506.Kids.g i))⟩
 (fun _a30 _b30 =>
 (_r1.length + 1) * 112 ≤ 140737488355328 ∧
 R _a1 false (W (_n1 + (1 : Int))) (_r1 ++ ([(PV.agg [.int .i64 x506.Kind, .int .i64 x506.Op, .int .i64 x506.Value_Kind, .int .i64 x506.Value_Int, .str x506.Value_Text, .str (ByteArray.mk #[111, 116, 104, 101, 114, 95, 116]), .str x506.Name, .arr _a30.m _a30.n _a30.g, .int .i64 x506.At])])) K0))
 (T.f_law13_others ⟨false, x506.Kids.n, (fun i => weakM (x506.Kids.g i))⟩
 (fun _a31 _b31 =>
 (_r1.length + 1) * 112 ≤ 140737488355328 ∧
 R _a1 false (W (_n1 + (1 : Int))) (_r1 ++ ([(PV.agg [.int .i64 x506.Kind, .int .i64 x506.Op, .int .i64 x506.Value_Kind, .int .i64 x506.Value_Int, .str x506.Value_Text, .str x506.Table, .str x506.Name, .arr _a31.m _a31.n _a31.g, .int .i64 x506.At])])) K0)))))
 (br (x506.Kind == (2 : Int))
 (br (x506.Name.toList == (ByteArray.mk #[112]).toList)
 (br (x506.Table.toList == (ByteArray.mk #[116]).toList)
 (T.f_law13_others ⟨false, x506.Kids.n, (fun i => weakM (x506.Kids.g i))⟩
 (fun _a32 _b32 =>
 (_r1.length + 1) * 112 ≤ 140737488355328 ∧
 R _a1 false (W (_n1 + (1 : Int))) (_r1 ++ ([(PV.agg [.int .i64 x506.Kind, .int .i64 x506.Op, .int .i64 x506.Value_Kind, .int .i64 x506.Value_Int, .str x506.Value_Text, .str (ByteArray.mk #[111, 116, 104, 101, 114, 95, 116]), .str (ByteArray.mk #[111, 116, 104, 101, 114, 95, 112]), .arr _a32.m _a32.n _a32.g, .int .i64 x506.At])])) K0))
 (T.f_law13_others ⟨false, x506.Kids.n, (fun i => weakM (x506.Kids.g i))⟩
 (fun _a33 _b33 =>
 (_r1.length + 1) * 112 ≤ 140737488355328 ∧
 R _a1 false (W (_n1 + (1 : Int))) (_r1 ++ ([(PV.agg [.int .i64 x506.Kind, .int .i64 x506.Op, .int .i64 x506.Value_Kind, .int .i64 x506.Value_Int, .str x506.Value_Text, .str x506.Table, .str (ByteArray.mk #[111, 116, 104, 101, 114, 95, 112]), .arr _a33.m _a33.n _a33.g, .int .i64 x506.At])])) K0)))
 (br (x506.Table.toList == (ByteArray.mk #[116]).toList)
 (T.f_law13_others ⟨false, x506.Kids.n, (fun i => weakM (x506.Kids.g i))⟩
 (fun _a34 _b34 =>
 (_r1.length + 1) * 112 ≤ 140737488355328 ∧
 R _a1 false (W (_n1 + (1 : Int))) (_r1 ++ ([(PV.agg [.int .i64 x506.Kind, .int .i64 x506.Op, .int .i64 x506.Value_Kind, .int .i64 x506.Value_Int, .str x506.Value_Text, .str (ByteArray.mk #[111, 116, 104, 101, 114, 95, 116]), .str x506.Name, .arr _a34.m _a34.n _a34.g, .int .i64 x506.At])])) K0))
 (T.f_law13_others ⟨false, x506.Kids.n, (fun i => weakM (x506.Kids.g i))⟩
 (fun _a35 _b35 =>
 (_r1.length + 1) * 112 ≤ 140737488355328 ∧
 R _a1 false (W (_n1 + (1 : Int))) (_r1 ++ ([(PV.agg [.int .i64 x506.Kind, .int .i64 x506.Op, .int .i64 x506.Value_Kind, .int .i64 x506.Value_Int, .str x506.Value_Text, .str x506.Table, .str x506.Name, .arr _a35.m _a35.n _a35.g, .int .i64 x506.At])])) K0))))
 (br (x506.Table.toList == (ByteArray.mk #[116]).toList)
 (T.f_law13_others ⟨false, x506.Kids.n, (fun i => weakM (x506.Kids.g i))⟩
 (fun _a36 _b36 =>
 (_r1.length + 1) * 112 ≤ 140737488355328 ∧
 R _a1 false (W (_n1 + (1 : Int))) (_r1 ++ ([(PV.agg [.int .i64 x506.Kind, .int .i64 x506.Op, .int .i64 x506.Value_Kind, .int .i64 x506.Value_Int, .str x506.Value_Text, .str (ByteArray.mk #[111, 116, 104, 101, 114, 95, 116]), .str x506.Name, .arr _a36.m _a36.n _a36.g, .int .i64 x506.At])])) K0))
 (T.f_law13_others ⟨false, x506.Kids.n, (fun i => weakM (x506.Kids.g i))⟩
 (fun _a37 _b37 =>
 (_r1.length + 1) * 112 ≤ 140737488355328 ∧
 R _a1 false (W (_n1 + (1 : Int))) (_r1 ++ ([(PV.agg [.int .i64 x506.Kind, .int .i64 x506.Op, .int .i64 x506.Value_Kind, .int .i64 x506.Value_Int, .str x506.Value_Text, .str x506.Table, .str x506.Name, .arr _a37.m _a37.n _a37.g, .int .i64 x506.At])])) K0)))))
 (br (x506.Table.toList == (ByteArray.mk #[111, 116, 104, 101, 114, 95, 116]).toList)
 (br (x506.Kind == (3 : Int))
 (br (x506.Name.toList == (ByteArray.mk #[97]).toList)
 (br (x506.Kind == (2 : Int))
 (br ((ByteArray.mk #[111, 116, 104, 101, 114, 95, 97]).toList == (ByteArray.mk #[112]).toList)
 (br (x506.Table.toList == (ByteArray.mk #[116]).toList)
 (T.f_law13_others ⟨false, x506.Kids.n, (fun i => weakM (x506.Kids.g i))⟩
 (fun _a38 _b38 =>
 (_r1.length + 1) * 112 ≤ 140737488355328 ∧
 R _a1 false (W (_n1 + (1 : Int))) (_r1 ++ ([(PV.agg [.int .i64 x506.Kind, .int .i64 x506.Op, .int .i64 x506.Value_Kind, .int .i64 x506.Value_Int, .str x506.Value_Text, .str (ByteArray.mk #[111, 116, 104, 101, 114, 95, 116]), .str (ByteArray.mk #[111, 116, 104, 101, 114, 95, 112]), .arr _a38.m _a38.n _a38.g, .int .i64 x506.At])])) K0))
 (T.f_law13_others ⟨false, x506.Kids.n, (fun i => weakM (x506.Kids.g i))⟩
 (fun _a39 _b39 =>
 (_r1.length + 1) * 112 ≤ 140737488355328 ∧
 R _a1 false (W (_n1 + (1 : Int))) (_r1 ++ ([(PV.agg [.int .i64 x506.Kind, .int .i64 x506.Op, .int .i64 x506.Value_Kind, .int .i64 x506.Value_Int, .str x506.Value_Text, .str x506.Table, .str (ByteArray.mk #[111, 116, 104, 101, 114, 95, 112]), .arr _a39.m _a39.n _a39.g, .int .i64 x506.At])])) K0)))
 (br (x506.Table.toList == (ByteArray.mk #[116]).toList)
 (T.f_law13_others ⟨false, x506.Kids.n, (fun i => weakM (x506.Kids.g i))⟩
 (fun _a40 _b40 =>
 (_r1.length + 1) * 112 ≤ 140737488355328 ∧
 R _a1 false (W (_n1 + (1 : Int))) (_r1 ++ ([(PV.agg [.int .i64 x506.Kind, .int .i64 x506.Op, .int .i64 x506.Value_Kind, .int .i64 x506.Value_Int, .str x506.Value_Text, .str (ByteArray.mk #[111, 116, 104, 101, 114, 95, 116]), .str (ByteArray.mk #[111, 116, 104, 101, 114, 95, 97]), .arr _a40.m _a40.n _a40.g, .int .i64 x506.At])])) K0))
 (T.f_law13_others ⟨false, x506.Kids.n, (fun i => weakM (x506.Kids.g i))⟩
 (fun _a41 _b41 =>
 (_r1.length + 1) * 112 ≤ 140737488355328 ∧
 R _a1 false (W (_n1 + (1 : Int))) (_r1 ++ ([(PV.agg [.int .i64 x506.Kind, .int .i64 x506.Op, .int .i64 x506.Value_Kind, .int .i64 x506.Value_Int, .str x506.Value_Text, .str x506.Table, .str (ByteArray.mk #[111, 116, 104, 101, 114, 95, 97]), .arr _a41.m _a41.n _a41.g, .int .i64 x506.At])])) K0))))
 (br (x506.Table.toList == (ByteArray.mk #[116]).toList)
 (T.f_law13_others ⟨false, x506.Kids.n, (fun i => weakM (x506.Kids.g i))⟩
 (fun _a42 _b42 =>
 (_r1.length + 1) * 112 ≤ 140737488355328 ∧
 R _a1 false (W (_n1 + (1 : Int))) (_r1 ++ ([(PV.agg [.int .i64 x506.Kind, .int .i64 x506.Op, .int .i64 x506.Value_Kind, .int .i64 x506.Value_Int, .str x506.Value_Text, .str (ByteArray.mk #[111, 116, 104, 101, 114, 95, 116]), .str (ByteArray.mk #[111, 116, 104, 101, 114, 95, 97]), .arr _a42.m _a42.n _a42.g, .int .i64 x506.At])])) K0))
 (T.f_law13_others ⟨false, x506.Kids.n, (fun i => weakM (x506.Kids.g i))⟩
 (fun _a43 _b43 =>
 (_r1.length + 1) * 112 ≤ 140737488355328 ∧
 R _a1 false (W (_n1 + (1 : Int))) (_r1 ++ ([(PV.agg [.int .i64 x506.Kind, .int .i64 x506.Op, .int .i64 x506.Value_Kind, .int .i64 x506.Value_Int, .str x506.Value_Text, .str x506.Table, .str (ByteArray.mk #[111, 116, 104, 101, 114, 95, 97]), .arr _a43.m _a43.n _a43.g, .int .i64 x506.At])])) K0))))
 (br (x506.Kind == (2 : Int))
 (br (x506.Name.toList == (ByteArray.mk #[112]).toList)
 (br (x506.Table.toList == (ByteArray.mk #[116]).toList)
 (T.f_law13_others ⟨false, x506.Kids.n, (fun i => weakM (x506.Kids.g i))⟩
 (fun _a44 _b44 =>
 (_r1.length + 1) * 112 ≤ 140737488355328 ∧
 R _a1 false (W (_n1 + (1 : Int))) (_r1 ++ ([(PV.agg [.int .i64 x506.Kind, .int .i64 x506.Op, .int .i64 x506.Value_Kind, .int .i64 x506.Value_Int, .str x506.Value_Text, .str (ByteArray.mk #[111, 116, 104, 101, 114, 95, 116]), .str (ByteArray.mk #[111, 116, 104, 101, 114, 95, 112]), .arr _a44.m _a44.n _a44.g, .int .i64 x506.At])])) K0))
 (T.f_law13_others ⟨false, x506.Kids.n, (fun i => weakM (x506.Kids.g i))⟩
 (fun _a45 _b45 =>
 (_r1.length + 1) * 112 ≤ 140737488355328 ∧
 R _a1 false (W (_n1 + (1 : Int))) (_r1 ++ ([(PV.agg [.int .i64 x506.Kind, .int .i64 x506.Op, .int .i64 x506.Value_Kind, .int .i64 x506.Value_Int, .str x506.Value_Text, .str x506.Table, .str (ByteArray.mk #[111, 116, 104, 101, 114, 95, 112]), .arr _a45.m _a45.n _a45.g, .int .i64 x506.At])])) K0)))
 (br (x506.Table.toList == (ByteArray.mk #[116]).toList)
 (T.f_law13_others ⟨false, x506.Kids.n, (fun i => weakM (x506.Kids.g i))⟩
 (fun _a46 _b46 =>
 (_r1.length + 1) * 112 ≤ 140737488355328 ∧
 R _a1 false (W (_n1 + (1 : Int))) (_r1 ++ ([(PV.agg [.int .i64 x506.Kind, .int .i64 x506.Op, .int .i64 x506.Value_Kind, .int .i64 x506.Value_Int, .str x506.Value_Text, .str (ByteArray.mk #[111, 116, 104, 101, 114, 95, 116]), .str x506.Name, .arr _a46.m _a46.n _a46.g, .int .i64 x506.At])])) K0))
 (T.f_law13_others ⟨false, x506.Kids.n, (fun i => weakM (x506.Kids.g i))⟩
 (fun _a47 _b47 =>
 (_r1.length + 1) * 112 ≤ 140737488355328 ∧
 R _a1 false (W (_n1 + (1 : Int))) (_r1 ++ ([(PV.agg [.int .i64 x506.Kind, .int .i64 x506.Op, .int .i64 x506.Value_Kind, .int .i64 x506.Value_Int, .str x506.Value_Text, .str x506.Table, .str x506.Name, .arr _a47.m _a47.n _a47.g, .int .i64 x506.At])])) K0))))
 (br (x506.Table.toList == (ByteArray.mk #[116]).toList)
 (T.f_law13_others ⟨false, x506.Kids.n, (fun i => weakM (x506.Kids.g i))⟩
 (fun _a48 _b48 =>
 (_r1.length + 1) * 112 ≤ 140737488355328 ∧
 R _a1 false (W (_n1 + (1 : Int))) (_r1 ++ ([(PV.agg [.int .i64 x506.Kind, .int .i64 x506.Op, .int .i64 x506.Value_Kind, .int .i64 x506.Value_Int, .str x506.Value_Text, .str (ByteArray.mk #[111, 116, 104, 101, 114, 95, 116]), .str x506.Name, .arr _a48.m _a48.n _a48.g, .int .i64 x506.At])])) K0))
 (T.f_law13_others ⟨false, x506.Kids.n, (fun i => weakM (x506.Kids.g i))⟩
 (fun _a49 _b49 =>
 (_r1.length + 1) * 112 ≤ 140737488355328 ∧
 R _a1 false (W (_n1 + (1 : Int))) (_r1 ++ ([(PV.agg [.int .i64 x506.Kind, .int .i64 x506.Op, .int .i64 x506.Value_Kind, .int .i64 x506.Value_Int, .str x506.Value_Text, .str x506.Table, .str x506.Name, .arr _a49.m _a49.n _a49.g, .int .i64 x506.At])])) K0)))))
 (br (x506.Kind == (2 : Int))
 (br (x506.Name.toList == (ByteArray.mk #[112]).toList)
 (br (x506.Table.toList == (ByteArray.mk #[116]).toList)
 (T.f_law13_others ⟨false, x506.Kids.n, (fun i => weakM (x506.Kids.g i))⟩
 (fun _a50 _b50 =>
 (_r1.length + 1) * 112 ≤ 140737488355328 ∧
 R _a1 false (W (_n1 + (1 : Int))) (_r1 ++ ([(PV.agg [.int .i64 x506.Kind, .int .i64 x506.Op, .int .i64 x506.Value_Kind, .int .i64 x506.Value_Int, .str x506.Value_Text, .str (ByteArray.mk #[111, 116, 104, 101, 114, 95, 116]), .str (ByteArray.mk #[111, 116, 104, 101, 114, 95, 112]), .arr _a50.m _a50.n _a50.g, .int .i64 x506.At])])) K0))
 (T.f_law13_others ⟨false, x506.Kids.n, (fun i => weakM (x506.Kids.g i))⟩
 (fun _a51 _b51 =>
 (_r1.length + 1) * 112 ≤ 140737488355328 ∧
 R _a1 false (W (_n1 + (1 : Int))) (_r1 ++ ([(PV.agg [.int .i64 x506.Kind, .int .i64 x506.Op, .int .i64 x506.Value_Kind, .int .i64 x506.Value_Int, .str x506.Value_Text, .str x506.Table, .str (ByteArray.mk #[111, 116, 104, 101, 114, 95, 112]), .arr _a51.m _a51.n _a51.g, .int .i64 x506.At])])) K0)))
 (br (x506.Table.toList == (ByteArray.mk #[116]).toList)
 (T.f_law13_others ⟨false, x506.Kids.n, (fun i => weakM (x506.Kids.g i))⟩
 (fun _a52 _b52 =>
 (_r1.length + 1) * 112 ≤ 140737488355328 ∧
 R _a1 false (W (_n1 + (1 : Int))) (_r1 ++ ([(PV.agg [.int .i64 x506.Kind, .int .i64 x506.Op, .int .i64 x506.Value_Kind, .int .i64 x506.Value_Int, .str x506.Value_Text, .str (ByteArray.mk #[111, 116, 104, 101, 114, 95, 116]), .str x506.Name, .arr _a52.m _a52.n _a52.g, .int .i64 x506.At])])) K0))
 (T.f_law13_others ⟨false, x506.Kids.n, (fun i => weakM (x506.Kids.g i))⟩
 (fun _a53 _b53 =>
 (_r1.length + 1) * 112 ≤ 140737488355328 ∧
 R _a1 false (W (_n1 + (1 : Int))) (_r1 ++ ([(PV.agg [.int .i64 x506.Kind, .int .i64 x506.Op, .int .i64 x506.Value_Kind, .int .i64 x506.Value_Int, .str x506.Value_Text, .str x506.Table, .str x506.Name, .arr _a53.m _a53.n _a53.g, .int .i64 x506.At])])) K0))))
 (br (x506.Table.toList == (ByteArray.mk #[116]).toList)
 (T.f_law13_others ⟨false, x506.Kids.n, (fun i => weakM (x506.Kids.g i))⟩
 (fun _a54 _b54 =>
 (_r1.length + 1) * 112 ≤ 140737488355328 ∧
 R _a1 false (W (_n1 + (1 : Int))) (_r1 ++ ([(PV.agg [.int .i64 x506.Kind, .int .i64 x506.Op, .int .i64 x506.Value_Kind, .int .i64 x506.Value_Int, .str x506.Value_Text, .str (ByteArray.mk #[111, 116, 104, 101, 114, 95, 116]), .str x506.Name, .arr _a54.m _a54.n _a54.g, .int .i64 x506.At])])) K0))
 (T.f_law13_others ⟨false, x506.Kids.n, (fun i => weakM (x506.Kids.g i))⟩
 (fun _a55 _b55 =>
 (_r1.length + 1) * 112 ≤ 140737488355328 ∧
 R _a1 false (W (_n1 + (1 : Int))) (_r1 ++ ([(PV.agg [.int .i64 x506.Kind, .int .i64 x506.Op, .int .i64 x506.Value_Kind, .int .i64 x506.Value_Int, .str x506.Value_Text, .str x506.Table, .str x506.Name, .arr _a55.m _a55.n _a55.g, .int .i64 x506.At])])) K0)))))
 (br (x506.Kind == (3 : Int))
 (br (x506.Name.toList == (ByteArray.mk #[97]).toList)
 (br (x506.Kind == (2 : Int))
 (br ((ByteArray.mk #[111, 116, 104, 101, 114, 95, 97]).toList == (ByteArray.mk #[112]).toList)
 (br (x506.Table.toList == (ByteArray.mk #[116]).toList)
 (T.f_law13_others ⟨false, x506.Kids.n, (fun i => weakM (x506.Kids.g i))⟩
 (fun _a56 _b56 =>
 br _b1
 ((_r1.length + 1) * 112 ≤ 140737488355328 ∧
 R _a1 _b56 (W (_n1 + (1 : Int))) (_r1 ++ ([(PV.agg [.int .i64 x506.Kind, .int .i64 x506.Op, .int .i64 x506.Value_Kind, .int .i64 x506.Value_Int, .str x506.Value_Text, .str (ByteArray.mk #[111, 116, 104, 101, 114, 95, 116]), .str (ByteArray.mk #[111, 116, 104, 101, 114, 95, 112]), .arr _a56.m _a56.n _a56.g, .int .i64 x506.At])])) K0)
 ((_r1.length + 1) * 112 ≤ 140737488355328 ∧
 R _a1 false (W (_n1 + (1 : Int))) (_r1 ++ ([(PV.agg [.int .i64 x506.Kind, .int .i64 x506.Op, .int .i64 x506.Value_Kind, .int .i64 x506.Value_Int, .str x506.Value_Text, .str (ByteArray.mk #[111, 116, 104, 101, 114, 95, 116]), .str (ByteArray.mk #[111, 116, 104, 101, 114, 95, 112]), .arr _a56.m _a56.n _a56.g, .int .i64 x506.At])])) K0)))
 (T.f_law13_others ⟨false, x506.Kids.n, (fun i => weakM (x506.Kids.g i))⟩
 (fun _a57 _b57 =>
 br _b1
 ((_r1.length + 1) * 112 ≤ 140737488355328 ∧
 R _a1 _b57 (W (_n1 + (1 : Int))) (_r1 ++ ([(PV.agg [.int .i64 x506.Kind, .int .i64 x506.Op, .int .i64 x506.Value_Kind, .int .i64 x506.Value_Int, .str x506.Value_Text, .str x506.Table, .str (ByteArray.mk #[111, 116, 104, 101, 114, 95, 112]), .arr _a57.m _a57.n _a57.g, .int .i64 x506.At])])) K0)
 ((_r1.length + 1) * 112 ≤ 140737488355328 ∧
 R _a1 false (W (_n1 + (1 : Int))) (_r1 ++ ([(PV.agg [.int .i64 x506.Kind, .int .i64 x506.Op, .int .i64 x506.Value_Kind, .int .i64 x506.Value_Int, .str x506.Value_Text, .str x506.Table, .str (ByteArray.mk #[111, 116, 104, 101, 114, 95, 112]), .arr _a57.m _a57.n _a57.g, .int .i64 x506.At])])) K0))))
 (br (x506.Table.toList == (ByteArray.mk #[116]).toList)
 (T.f_law13_others ⟨false, x506.Kids.n, (fun i => weakM (x506.Kids.g i))⟩
 (fun _a58 _b58 =>
 br _b1
 ((_r1.length + 1) * 112 ≤ 140737488355328 ∧
 R _a1 _b58 (W (_n1 + (1 : Int))) (_r1 ++ ([(PV.agg [.int .i64 x506.Kind, .int .i64 x506.Op, .int .i64 x506.Value_Kind, .int .i64 x506.Value_Int, .str x506.Value_Text, .str (ByteArray.mk #[111, 116, 104, 101, 114, 95, 116]), .str (ByteArray.mk #[111, 116, 104, 101, 114, 95, 97]), .arr _a58.m _a58.n _a58.g, .int .i64 x506.At])])) K0)
 ((_r1.length + 1) * 112 ≤ 140737488355328 ∧
 R _a1 false (W (_n1 + (1 : Int))) (_r1 ++ ([(PV.agg [.int .i64 x506.Kind, .int .i64 x506.Op, .int .i64 x506.Value_Kind, .int .i64 x506.Value_Int, .str x506.Value_Text, .str (ByteArray.mk #[111, 116, 104, 101, 114, 95, 116]), .str (ByteArray.mk #[111, 116, 104, 101, 114, 95, 97]), .arr _a58.m _a58.n _a58.g, .int .i64 x506.At])])) K0)))
 (T.f_law13_others ⟨false, x506.Kids.n, (fun i => weakM (x506.Kids.g i))⟩
 (fun _a59 _b59 =>
 br _b1
 ((_r1.length + 1) * 112 ≤ 140737488355328 ∧
 R _a1 _b59 (W (_n1 + (1 : Int))) (_r1 ++ ([(PV.agg [.int .i64 x506.Kind, .int .i64 x506.Op, .int .i64 x506.Value_Kind, .int .i64 x506.Value_Int, .str x506.Value_Text, .str x506.Table, .str (ByteArray.mk #[111, 116, 104, 101, 114, 95, 97]), .arr _a59.m _a59.n _a59.g, .int .i64 x506.At])])) K0)
 ((_r1.length + 1) * 112 ≤ 140737488355328 ∧
 R _a1 false (W (_n1 + (1 : Int))) (_r1 ++ ([(PV.agg [.int .i64 x506.Kind, .int .i64 x506.Op, .int .i64 x506.Value_Kind, .int .i64 x506.Value_Int, .str x506.Value_Text, .str x506.Table, .str (ByteArray.mk #[111, 116, 104, 101, 114, 95, 97]), .arr _a59.m _a59.n _a59.g, .int .i64 x506.At])])) K0)))))
 (br (x506.Table.toList == (ByteArray.mk #[116]).toList)
 (T.f_law13_others ⟨false, x506.Kids.n, (fun i => weakM (x506.Kids.g i))⟩
 (fun _a60 _b60 =>
 br _b1
 ((_r1.length + 1) * 112 ≤ 140737488355328 ∧
 R _a1 _b60 (W (_n1 + (1 : Int))) (_r1 ++ ([(PV.agg [.int .i64 x506.Kind, .int .i64 x506.Op, .int .i64 x506.Value_Kind, .int .i64 x506.Value_Int, .str x506.Value_Text, .str (ByteArray.mk #[111, 116, 104, 101, 114, 95, 116]), .str (ByteArray.mk #[111, 116, 104, 101, 114, 95, 97]), .arr _a60.m _a60.n _a60.g, .int .i64 x506.At])])) K0)
 ((_r1.length + 1) * 112 ≤ 140737488355328 ∧
 R _a1 false (W (_n1 + (1 : Int))) (_r1 ++ ([(PV.agg [.int .i64 x506.Kind, .int .i64 x506.Op, .int .i64 x506.Value_Kind, .int .i64 x506.Value_Int, .str x506.Value_Text, .str (ByteArray.mk #[111, 116, 104, 101, 114, 95, 116]), .str (ByteArray.mk #[111, 116, 104, 101, 114, 95, 97]), .arr _a60.m _a60.n _a60.g, .int .i64 x506.At])])) K0)))
 (T.f_law13_others ⟨false, x506.Kids.n, (fun i => weakM (x506.Kids.g i))⟩
 (fun _a61 _b61 =>
 br _b1
 ((_r1.length + 1) * 112 ≤ 140737488355328 ∧
 R _a1 _b61 (W (_n1 + (1 : Int))) (_r1 ++ ([(PV.agg [.int .i64 x506.Kind, .int .i64 x506.Op, .int .i64 x506.Value_Kind, .int .i64 x506.Value_Int, .str x506.Value_Text, .str x506.Table, .str (ByteArray.mk #[111, 116, 104, 101, 114, 95, 97]), .arr _a61.m _a61.n _a61.g, .int .i64 x506.At])])) K0)
 ((_r1.length + 1) * 112 ≤ 140737488355328 ∧
 R _a1 false (W (_n1 + (1 : Int))) (_r1 ++ ([(PV.agg [.int .i64 x506.Kind, .int .i64 x506.Op, .int .i64 x506.Value_Kind, .int .i64 x506.Value_Int, .str x506.Value_Text, .str x506.Table, .str (ByteArray.mk #[111, 116, 104, 101, 114, 95, 97]), .arr _a61.m _a61.n _a61.g, .int .i64 x506.At])])) K0)))))
 (br (x506.Kind == (2 : Int))
 (br (x506.Name.toList == (ByteArray.mk #[112]).toList)
 (br (x506.Table.toList == (ByteArray.mk #[116]).toList)
 (T.f_law13_others ⟨false, x506.Kids.n, (fun i => weakM (x506.Kids.g i))⟩
 (fun _a62 _b62 =>
 br _b1
 ((_r1.length + 1) * 112 ≤ 140737488355328 ∧
 R _a1 _b62 (W (_n1 + (1 : Int))) (_r1 ++ ([(PV.agg [.int .i64 x506.Kind, .int .i64 x506.Op, .int .i64 x506.Value_Kind, .int .i64 x506.Value_Int, .str x506.Value_Text, .str (ByteArray.mk #[111, 116, 104, 101, 114, 95, 116]), .str (ByteArray.mk #[111, 116, 104, 101, 114, 95, 112]), .arr _a62.m _a62.n _a62.g, .int .i64 x506.At])])) K0)
 ((_r1.length + 1) * 112 ≤ 140737488355328 ∧
 R _a1 false (W (_n1 + (1 : Int))) (_r1 ++ ([(PV.agg [.int .i64 x506.Kind, .int .i64 x506.Op, .int .i64 x506.Value_Kind, .int .i64 x506.Value_Int, .str x506.Value_Text, .str (ByteArray.mk #[111, 116, 104, 101, 114, 95, 116]), .str (ByteArray.mk #[111, 116, 104, 101, 114, 95, 112]), .arr _a62.m _a62.n _a62.g, .int .i64 x506.At])])) K0)))
 (T.f_law13_others ⟨false, x506.Kids.n, (fun i => weakM (x506.Kids.g i))⟩
 (fun _a63 _b63 =>
 br _b1
 ((_r1.length + 1) * 112 ≤ 140737488355328 ∧
 R _a1 _b63 (W (_n1 + (1 : Int))) (_r1 ++ ([(PV.agg [.int .i64 x506.Kind, .int .i64 x506.Op, .int .i64 x506.Value_Kind, .int .i64 x506.Value_Int, .str x506.Value_Text, .str x506.Table, .str (ByteArray.mk #[111, 116, 104, 101, 114, 95, 112]), .arr _a63.m _a63.n _a63.g, .int .i64 x506.At])])) K0)
 ((_r1.length + 1) * 112 ≤ 140737488355328 ∧
 R _a1 false (W (_n1 + (1 : Int))) (_r1 ++ ([(PV.agg [.int .i64 x506.Kind, .int .i64 x506.Op, .int .i64 x506.Value_Kind, .int .i64 x506.Value_Int, .str x506.Value_Text, .str x506.Table, .str (ByteArray.mk #[111, 116, 104, 101, 114, 95, 112]), .arr _a63.m _a63.n _a63.g, .int .i64 x506.At])])) K0))))
 (br (x506.Table.toList == (ByteArray.mk #[116]).toList)
 (T.f_law13_others ⟨false, x506.Kids.n, (fun i => weakM (x506.Kids.g i))⟩
 (fun _a64 _b64 =>
 br _b1
 ((_r1.length + 1) * 112 ≤ 140737488355328 ∧
 R _a1 _b64 (W (_n1 + (1 : Int))) (_r1 ++ ([(PV.agg [.int .i64 x506.Kind, .int .i64 x506.Op, .int .i64 x506.Value_Kind, .int .i64 x506.Value_Int, .str x506.Value_Text, .str (ByteArray.mk #[111, 116, 104, 101, 114, 95, 116]), .str x506.Name, .arr _a64.m _a64.n _a64.g, .int .i64 x506.At])])) K0)
 ((_r1.length + 1) * 112 ≤ 140737488355328 ∧
 R _a1 false (W (_n1 + (1 : Int))) (_r1 ++ ([(PV.agg [.int .i64 x506.Kind, .int .i64 x506.Op, .int .i64 x506.Value_Kind, .int .i64 x506.Value_Int, .str x506.Value_Text, .str (ByteArray.mk #[111, 116, 104, 101, 114, 95, 116]), .str x506.Name, .arr _a64.m _a64.n _a64.g, .int .i64 x506.At])])) K0)))
 (T.f_law13_others ⟨false, x506.Kids.n, (fun i => weakM (x506.Kids.g i))⟩
 (fun _a65 _b65 =>
 br _b1
 ((_r1.length + 1) * 112 ≤ 140737488355328 ∧
 R _a1 _b65 (W (_n1 + (1 : Int))) (_r1 ++ ([(PV.agg [.int .i64 x506.Kind, .int .i64 x506.Op, .int .i64 x506.Value_Kind, .int .i64 x506.Value_Int, .str x506.Value_Text, .str x506.Table, .str x506.Name, .arr _a65.m _a65.n _a65.g, .int .i64 x506.At])])) K0)
 ((_r1.length + 1) * 112 ≤ 140737488355328 ∧
 R _a1 false (W (_n1 + (1 : Int))) (_r1 ++ ([(PV.agg [.int .i64 x506.Kind, .int .i64 x506.Op, .int .i64 x506.Value_Kind, .int .i64 x506.Value_Int, .str x506.Value_Text, .str x506.Table, .str x506.Name, .arr _a65.m _a65.n _a65.g, .int .i64 x506.At])])) K0)))))
 (br (x506.Table.toList == (ByteArray.mk #[116]).toList)
 (T.f_law13_others ⟨false, x506.Kids.n, (fun i => weakM (x506.Kids.g i))⟩
 (fun _a66 _b66 =>
 br _b1
 ((_r1.length + 1) * 112 ≤ 140737488355328 ∧
 R _a1 _b66 (W (_n1 + (1 : Int))) (_r1 ++ ([(PV.agg [.int .i64 x506.Kind, .int .i64 x506.Op, .int .i64 x506.Value_Kind, .int .i64 x506.Value_Int, .str x506.Value_Text, .str (ByteArray.mk #[111, 116, 104, 101, 114, 95, 116]), .str x506.Name, .arr _a66.m _a66.n _a66.g, .int .i64 x506.At])])) K0)
 ((_r1.length + 1) * 112 ≤ 140737488355328 ∧
 R _a1 false (W (_n1 + (1 : Int))) (_r1 ++ ([(PV.agg [.int .i64 x506.Kind, .int .i64 x506.Op, .int .i64 x506.Value_Kind, .int .i64 x506.Value_Int, .str x506.Value_Text, .str (ByteArray.mk #[111, 116, 104, 101, 114, 95, 116]), .str x506.Name, .arr _a66.m _a66.n _a66.g, .int .i64 x506.At])])) K0)))
 (T.f_law13_others ⟨false, x506.Kids.n, (fun i => weakM (x506.Kids.g i))⟩
 (fun _a67 _b67 =>
 br _b1
 ((_r1.length + 1) * 112 ≤ 140737488355328 ∧
 R _a1 _b67 (W (_n1 + (1 : Int))) (_r1 ++ ([(PV.agg [.int .i64 x506.Kind, .int .i64 x506.Op, .int .i64 x506.Value_Kind, .int .i64 x506.Value_Int, .str x506.Value_Text, .str x506.Table, .str x506.Name, .arr _a67.m _a67.n _a67.g, .int .i64 x506.At])])) K0)
 ((_r1.length + 1) * 112 ≤ 140737488355328 ∧
 R _a1 false (W (_n1 + (1 : Int))) (_r1 ++ ([(PV.agg [.int .i64 x506.Kind, .int .i64 x506.Op, .int .i64 x506.Value_Kind, .int .i64 x506.Value_Int, .str x506.Value_Text, .str x506.Table, .str x506.Name, .arr _a67.m _a67.n _a67.g, .int .i64 x506.At])])) K0))))))
 (br (x506.Kind == (2 : Int))
 (br (x506.Name.toList == (ByteArray.mk #[112]).toList)
 (br (x506.Table.toList == (ByteArray.mk #[116]).toList)
 (T.f_law13_others ⟨false, x506.Kids.n, (fun i => weakM (x506.Kids.g i))⟩
 (fun _a68 _b68 =>
 br _b1
 ((_r1.length + 1) * 112 ≤ 140737488355328 ∧
 R _a1 _b68 (W (_n1 + (1 : Int))) (_r1 ++ ([(PV.agg [.int .i64 x506.Kind, .int .i64 x506.Op, .int .i64 x506.Value_Kind, .int .i64 x506.Value_Int, .str x506.Value_Text, .str (ByteArray.mk #[111, 116, 104, 101, 114, 95, 116]), .str (ByteArray.mk #[111, 116, 104, 101, 114, 95, 112]), .arr _a68.m _a68.n _a68.g, .int .i64 x506.At])])) K0)
 ((_r1.length + 1) * 112 ≤ 140737488355328 ∧
 R _a1 false (W (_n1 + (1 : Int))) (_r1 ++ ([(PV.agg [.int .i64 x506.Kind, .int .i64 x506.Op, .int .i64 x506.Value_Kind, .int .i64 x506.Value_Int, .str x506.Value_Text, .str (ByteArray.mk #[111, 116, 104, 101, 114, 95, 116]), .str (ByteArray.mk #[111, 116, 104, 101, 114, 95, 112]), .arr _a68.m _a68.n _a68.g, .int .i64 x506.At])])) K0)))
 (T.f_law13_others ⟨false, x506.Kids.n, (fun i => weakM (x506.Kids.g i))⟩
 (fun _a69 _b69 =>
 br _b1
 ((_r1.length + 1) * 112 ≤ 140737488355328 ∧
 R _a1 _b69 (W (_n1 + (1 : Int))) (_r1 ++ ([(PV.agg [.int .i64 x506.Kind, .int .i64 x506.Op, .int .i64 x506.Value_Kind, .int .i64 x506.Value_Int, .str x506.Value_Text, .str x506.Table, .str (ByteArray.mk #[111, 116, 104, 101, 114, 95, 112]), .arr _a69.m _a69.n _a69.g, .int .i64 x506.At])])) K0)
 ((_r1.length + 1) * 112 ≤ 140737488355328 ∧
 R _a1 false (W (_n1 + (1 : Int))) (_r1 ++ ([(PV.agg [.int .i64 x506.Kind, .int .i64 x506.Op, .int .i64 x506.Value_Kind, .int .i64 x506.Value_Int, .str x506.Value_Text, .str x506.Table, .str (ByteArray.mk #[111, 116, 104, 101, 114, 95, 112]), .arr _a69.m _a69.n _a69.g, .int .i64 x506.At])])) K0))))
 (br (x506.Table.toList == (ByteArray.mk #[116]).toList)
 (T.f_law13_others ⟨false, x506.Kids.n, (fun i => weakM (x506.Kids.g i))⟩
 (fun _a70 _b70 =>
 br _b1
 ((_r1.length + 1) * 112 ≤ 140737488355328 ∧
 R _a1 _b70 (W (_n1 + (1 : Int))) (_r1 ++ ([(PV.agg [.int .i64 x506.Kind, .int .i64 x506.Op, .int .i64 x506.Value_Kind, .int .i64 x506.Value_Int, .str x506.Value_Text, .str (ByteArray.mk #[111, 116, 104, 101, 114, 95, 116]), .str x506.Name, .arr _a70.m _a70.n _a70.g, .int .i64 x506.At])])) K0)
 ((_r1.length + 1) * 112 ≤ 140737488355328 ∧
 R _a1 false (W (_n1 + (1 : Int))) (_r1 ++ ([(PV.agg [.int .i64 x506.Kind, .int .i64 x506.Op, .int .i64 x506.Value_Kind, .int .i64 x506.Value_Int, .str x506.Value_Text, .str (ByteArray.mk #[111, 116, 104, 101, 114, 95, 116]), .str x506.Name, .arr _a70.m _a70.n _a70.g, .int .i64 x506.At])])) K0)))
 (T.f_law13_others ⟨false, x506.Kids.n, (fun i => weakM (x506.Kids.g i))⟩
 (fun _a71 _b71 =>
 br _b1
 ((_r1.length + 1) * 112 ≤ 140737488355328 ∧
 R _a1 _b71 (W (_n1 + (1 : Int))) (_r1 ++ ([(PV.agg [.int .i64 x506.Kind, .int .i64 x506.Op, .int .i64 x506.Value_Kind, .int .i64 x506.Value_Int, .str x506.Value_Text, .str x506.Table, .str x506.Name, .arr _a71.m _a71.n _a71.g, .int .i64 x506.At])])) K0)
 ((_r1.length + 1) * 112 ≤ 140737488355328 ∧
 R _a1 false (W (_n1 + (1 : Int))) (_r1 ++ ([(PV.agg [.int .i64 x506.Kind, .int .i64 x506.Op, .int .i64 x506.Value_Kind, .int .i64 x506.Value_Int, .str x506.Value_Text, .str x506.Table, .str x506.Name, .arr _a71.m _a71.n _a71.g, .int .i64 x506.At])])) K0)))))
 (br (x506.Table.toList == (ByteArray.mk #[116]).toList)
 (T.f_law13_others ⟨false, x506.Kids.n, (fun i => weakM (x506.Kids.g i))⟩
 (fun _a72 _b72 =>
 br _b1
 ((_r1.length + 1) * 112 ≤ 140737488355328 ∧
 R _a1 _b72 (W (_n1 + (1 : Int))) (_r1 ++ ([(PV.agg [.int .i64 x506.Kind, .int .i64 x506.Op, .int .i64 x506.Value_Kind, .int .i64 x506.Value_Int, .str x506.Value_Text, .str (ByteArray.mk #[111, 116, 104, 101, 114, 95, 116]), .str x506.Name, .arr _a72.m _a72.n _a72.g, .int .i64 x506.At])])) K0)
 ((_r1.length + 1) * 112 ≤ 140737488355328 ∧
 R _a1 false (W (_n1 + (1 : Int))) (_r1 ++ ([(PV.agg [.int .i64 x506.Kind, .int .i64 x506.Op, .int .i64 x506.Value_Kind, .int .i64 x506.Value_Int, .str x506.Value_Text, .str (ByteArray.mk #[111, 116, 104, 101, 114, 95, 116]), .str x506.Name, .arr _a72.m _a72.n _a72.g, .int .i64 x506.At])])) K0)))
 (T.f_law13_others ⟨false, x506.Kids.n, (fun i => weakM (x506.Kids.g i))⟩
 (fun _a73 _b73 =>
 br _b1
 ((_r1.length + 1) * 112 ≤ 140737488355328 ∧
 R _a1 _b73 (W (_n1 + (1 : Int))) (_r1 ++ ([(PV.agg [.int .i64 x506.Kind, .int .i64 x506.Op, .int .i64 x506.Value_Kind, .int .i64 x506.Value_Int, .str x506.Value_Text, .str x506.Table, .str x506.Name, .arr _a73.m _a73.n _a73.g, .int .i64 x506.At])])) K0)
 ((_r1.length + 1) * 112 ≤ 140737488355328 ∧
 R _a1 false (W (_n1 + (1 : Int))) (_r1 ++ ([(PV.agg [.int .i64 x506.Kind, .int .i64 x506.Op, .int .i64 x506.Value_Kind, .int .i64 x506.Value_Int, .str x506.Value_Text, .str x506.Table, .str x506.Name, .arr _a73.m _a73.n _a73.g, .int .i64 x506.At])])) K0)))))))))
 (K0 _b1 _r1)
def L_law13_others_0 (T : Tab) : Nat → YL_law13_others_0
  | 0 => fun _ _ _ _ _ => False
  | n + 1 => B_law13_others_0 T (L_law13_others_0 T n)
def F_law13_others (T : Tab) (_a1 : Arr) (K0 : Arr → Bool → Prop) : Prop :=
 L_law13_others_0 T T.fuel _a1 true 0 ([])
 (fun b1011 r1012 =>
 K0 (lst true r1012) b1011)
abbrev YL_law13_same_0 := Int → S_api_Typed → S_api_Typed → Prop → (S_api_Typed → S_api_Typed → Prop) → Prop
def B_law13_same_0 (T : Tab) (R : YL_law13_same_0) (_n1 : Int) (_x1 : S_api_Typed) (_x2 : S_api_Typed) (K0 : Prop) (K1 : S_api_Typed → S_api_Typed → Prop) : Prop :=
 br (decide (_n1 < ((_x1.Sorts.n : Nat) : Int)))
 (0 ≤ _n1 ∧ _n1 < ((_x1.Sorts.n : Nat) : Int) ∧
 as_api_Sort (_x1.Sorts.g (_n1.toNat)) fun x14 =>
 0 ≤ _n1 ∧ _n1 < ((_x2.Sorts.n : Nat) : Int) ∧
 as_api_Sort (_x2.Sorts.g (_n1.toNat)) fun x15 =>
 br (!((x14.Item == x15.Item) && ((x14.Desc == x15.Desc) && (x14.At == x15.At))))
 (K0 )
 (R (W (_n1 + (1 : Int))) _x1 _x2 K0 K1))
 (K1 _x1 _x2)
def L_law13_same_0 (T : Tab) : Nat → YL_law13_same_0
  | 0 => fun _ _ _ _ _ => False
  | n + 1 => B_law13_same_0 T (L_law13_same_0 T n)
def F_law13_same (T : Tab) (_x1 : S_api_Typed) (_x2 : S_api_Typed) (K0 : Bool → Prop) : Prop :=
 T.f_law13_sameTerms _x1.On _x2.On
 (fun _b1 =>
 T.f_law13_sameTerms _x1.Where _x2.Where
 (fun _b2 =>
 T.f_law13_sameTerms _x1.Items _x2.Items
 (fun _b3 =>
 T.f_law13_ints _x1.Tables _x2.Tables
 (fun _b4 =>
 T.f_law13_ints _x1.Columns _x2.Columns
 (fun _b5 =>
 T.f_law13_ints _x1.Groups _x2.Groups
 (fun _b6 =>
 T.f_law13_ints _x1.Limit _x2.Limit
 (fun _b7 =>
 T.f_law13_ints _x1.Types _x2.Types
 (fun _b8 =>
 br (!_b1)
 (K0 false)
 (br (!_b2)
 (K0 false)
 (br (!_b3)
 (K0 false)
 (br (!_b4)
 (K0 false)
 (br (!_b5)
 (K0 false)
 (br (!_b6)
 (K0 false)
 (br (!_b7)
 (K0 false)
 (br (!_b8)
 (K0 false)
 (br (((_x1.Sorts.n : Nat) : Int) != ((_x2.Sorts.n : Nat) : Int))
 (K0 false)
 (L_law13_same_0 T T.fuel 0 _x1 _x2
 (K0 false)
 (fun x19 x20 =>
 br (x19.Kind == x20.Kind)
 (K0 (x19.Grouped == x20.Grouped))
 (K0 false)))))))))))))))))))
abbrev YL_law13_sameTerms_0 := Arr → Arr → Int → Prop → Prop → Prop
def B_law13_sameTerms_0 (T : Tab) (R : YL_law13_sameTerms_0) (_a1 : Arr) (_a2 : Arr) (_n1 : Int) (K0 : Prop) (K1 : Prop) : Prop :=
 br (decide (_n1 < ((_a1.n : Nat) : Int)))
 (0 ≤ _n1 ∧ _n1 < ((_a1.n : Nat) : Int) ∧
 as_api_Term (_a1.g (_n1.toNat)) fun x15 =>
 0 ≤ _n1 ∧ _n1 < ((_a2.n : Nat) : Int) ∧
 as_api_Term (_a2.g (_n1.toNat)) fun x16 =>
 T.f_law13_sameTerms x15.Kids x16.Kids
 (fun _b1 =>
 br (!_b1)
 (K0 )
 (0 ≤ _n1 ∧ _n1 < ((_a1.n : Nat) : Int) ∧
 as_api_Term (_a1.g (_n1.toNat)) fun x18 =>
 0 ≤ _n1 ∧ _n1 < ((_a2.n : Nat) : Int) ∧
 as_api_Term (_a2.g (_n1.toNat)) fun x19 =>
 br (x18.Op != x19.Op)
 (K0 )
 (0 ≤ _n1 ∧ _n1 < ((_a1.n : Nat) : Int) ∧
 as_api_Term (_a1.g (_n1.toNat)) fun x20 =>
 0 ≤ _n1 ∧ _n1 < ((_a2.n : Nat) : Int) ∧
 as_api_Term (_a2.g (_n1.toNat)) fun x21 =>
 br (x20.Num != x21.Num)
 (K0 )
 (0 ≤ _n1 ∧ _n1 < ((_a1.n : Nat) : Int) ∧
 as_api_Term (_a1.g (_n1.toNat)) fun x22 =>
 0 ≤ _n1 ∧ _n1 < ((_a2.n : Nat) : Int) ∧
 as_api_Term (_a2.g (_n1.toNat)) fun x23 =>
 br (x22.Type_ != x23.Type_)
 (K0 )
 (0 ≤ _n1 ∧ _n1 < ((_a1.n : Nat) : Int) ∧
 as_api_Term (_a1.g (_n1.toNat)) fun x24 =>
 0 ≤ _n1 ∧ _n1 < ((_a2.n : Nat) : Int) ∧
 as_api_Term (_a2.g (_n1.toNat)) fun x25 =>
 br (!((x24.Value_Kind == x25.Value_Kind) && ((x24.Value_Int == x25.Value_Int) && (x24.Value_Text.toList == x25.Value_Text.toList))))
 (K0 )
 (R _a1 _a2 (W (_n1 + (1 : Int))) K0 K1)))))))
 (K1 )
def L_law13_sameTerms_0 (T : Tab) : Nat → YL_law13_sameTerms_0
  | 0 => fun _ _ _ _ _ => False
  | n + 1 => B_law13_sameTerms_0 T (L_law13_sameTerms_0 T n)
def F_law13_sameTerms (T : Tab) (_a1 : Arr) (_a2 : Arr) (K0 : Bool → Prop) : Prop :=
 br (((_a1.n : Nat) : Int) != ((_a2.n : Nat) : Int))
 (K0 false)
 (L_law13_sameTerms_0 T T.fuel _a1 _a2 0
 (K0 false)
 (K0 true))
abbrev YL_law13_ints_0 := Arr → Arr → Int → Prop → Prop → Prop
def B_law13_ints_0 (T : Tab) (R : YL_law13_ints_0) (_a1 : Arr) (_a2 : Arr) (_n1 : Int) (K0 : Prop) (K1 : Prop) : Prop :=
 br (decide (_n1 < ((_a1.n : Nat) : Int)))
 (0 ≤ _n1 ∧ _n1 < ((_a1.n : Nat) : Int) ∧
 asI_i64 (_a1.g (_n1.toNat)) fun n6 =>
 0 ≤ _n1 ∧ _n1 < ((_a2.n : Nat) : Int) ∧
 asI_i64 (_a2.g (_n1.toNat)) fun n7 =>
 br (n6 != n7)
 (K0 )
 (R _a1 _a2 (W (_n1 + (1 : Int))) K0 K1))
 (K1 )
def L_law13_ints_0 (T : Tab) : Nat → YL_law13_ints_0
  | 0 => fun _ _ _ _ _ => False
  | n + 1 => B_law13_ints_0 T (L_law13_ints_0 T n)
def F_law13_ints (T : Tab) (_a1 : Arr) (_a2 : Arr) (K0 : Bool → Prop) : Prop :=
 br (((_a1.n : Nat) : Int) != ((_a2.n : Nat) : Int))
 (K0 false)
 (L_law13_ints_0 T T.fuel _a1 _a2 0
 (K0 false)
 (K0 true))
end
end Go.RX
