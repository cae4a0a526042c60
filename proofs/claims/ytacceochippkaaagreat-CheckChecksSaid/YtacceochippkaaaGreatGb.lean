/- Printed by a program of the prover: the functions that the law reaches, as functions in Lean, and that the model does what they say. No condition. -/
import Derived.Test.YtacceochippkaaaGreatGa
set_option linter.all false
namespace Go.RX
noncomputable section
def F_check_Check (T : Tab) (_x1 : S_i_Catalog) (_a1 : Arr) (_x2 : S_i_Stmt) (K0 : S_i_Typed → S_i_Fault → Prop) : Prop :=
 T.f_check_begun _x1 _a1
 (K0 ⟨0, (lst true []), (lst true []), (lst true []), (lst true []), (lst true []), false, (lst true []), (lst true []), (lst true []), (lst true [])⟩ ⟨80, 0⟩)
 (fun _a2 _a1 _n1 _n2 _m1 _m2 =>
 T.f_syntax_Right _x2
 (fun _b1 =>
 br (!_b1)
 (K0 ⟨0, (lst true []), (lst true []), (lst true []), (lst true []), (lst true []), false, (lst true []), (lst true []), (lst true []), (lst true [])⟩ ⟨120, 0⟩)
 (T.f_cc_statement _x2 _a2 _a1 _n1 _n2 _m1 _m2
 (fun _x3 _b2 _a3 _a4 _n3 _n4 _m3 _m4 =>
 br (!_b2)
 (K0 ⟨0, (lst true []), (lst true []), (lst true []), (lst true []), (lst true []), false, (lst true []), (lst true []), (lst true []), (lst true [])⟩ ⟨_n3, _n4⟩)
 (K0 _x3 ⟨0, 0⟩)))))
abbrev YL_check_begun_0 := Arr → Int → Int → Arr → Arr → Int → Int → (List (PV × PV)) → (List (PV × PV)) → (Arr → Arr → Int → Int → (List (PV × PV)) → (List (PV × PV)) → Prop) → Prop
def B_check_begun_0 (T : Tab) (R : YL_check_begun_0) (_a1 : Arr) (_n1 : Int) (_n2 : Int) (_a2 : Arr) (_a3 : Arr) (_n3 : Int) (_n4 : Int) (_m1 : List (PV × PV)) (_m2 : List (PV × PV)) (K0 : Arr → Arr → Int → Int → (List (PV × PV)) → (List (PV × PV)) → Prop) : Prop :=
 br (decide (_n2 < _n1))
 (0 ≤ _n2 ∧ _n2 < (_a1.n : Int) ∧
 as_i_Param (_a1.g (_n2.toNat)) fun x13 =>
 R _a1 _n1 (W (_n2 + 1)) _a2 _a3 _n3 _n4 (setK (PV.str x13.Name) (PV.agg [.int .i64 _n2, .int .i64 x13.Type_, .int .i64 0]) _m1) _m2 K0)
 (K0 _a2 _a3 _n3 _n4 _m1 _m2)
def L_check_begun_0 (T : Tab) : Nat → YL_check_begun_0
  | 0 => fun _ _ _ _ _ _ _ _ _ _ => False
  | n + 1 => B_check_begun_0 T (L_check_begun_0 T n)
def F_check_begun (T : Tab) (_x1 : S_i_Catalog) (_a1 : Arr) (K0 : Prop) (K1 : Arr → Arr → Int → Int → (List (PV × PV)) → (List (PV × PV)) → Prop) : Prop :=
 T.f_catalog_Right _x1
 (fun _b1 =>
 br (!_b1)
 (K0 )
 (T.f_check_rightParams _a1
 (fun _b2 =>
 br (!_b2)
 (K0 )
 (L_check_begun_0 T T.fuel _a1 (_a1.n : Int) 0 _x1.Tables _x1.Procs 0 0 ([]) ([])
 (fun a23 a24 n25 n26 m27 m28 =>
 K1 a23 a24 n25 n26 m27 m28)))))
abbrev YL_catalog_Right_2 := Arr → Int → Int → (List (PV × PV)) → Prop → Prop → Prop
def B_catalog_Right_2 (T : Tab) (R : YL_catalog_Right_2) (_a1 : Arr) (_n1 : Int) (_n2 : Int) (_m1 : List (PV × PV)) (K0 : Prop) (K1 : Prop) : Prop :=
 br (decide (_n2 < _n1))
 (0 ≤ _n2 ∧ _n2 < (_a1.n : Int) ∧
 as_i_Proc (_a1.g (_n2.toNat)) fun x33 =>
 T.f_catalog_mayProc x33
 (fun _b1 =>
 br (!_b1)
 (K0 )
 (T.f_catalog_met_1 x33.Name _m1
 (fun _b2 _m2 =>
 br (!_b2)
 (K0 )
 (R _a1 _n1 (W (_n2 + 1)) _m2 K0 K1)))))
 (K1 )
def L_catalog_Right_2 (T : Tab) : Nat → YL_catalog_Right_2
  | 0 => fun _ _ _ _ _ _ => False
  | n + 1 => B_catalog_Right_2 T (L_catalog_Right_2 T n)
abbrev YL_catalog_Right_0 := Arr → Int → Int → S_i_Catalog → (List (PV × PV)) → (List (PV × PV)) → Prop → (S_i_Catalog → (List (PV × PV)) → Prop) → Prop
def B_catalog_Right_0 (T : Tab) (R : YL_catalog_Right_0) (_a1 : Arr) (_n1 : Int) (_n2 : Int) (_x1 : S_i_Catalog) (_m1 : List (PV × PV)) (_m2 : List (PV × PV)) (K0 : Prop) (K1 : S_i_Catalog → (List (PV × PV)) → Prop) : Prop :=
 br (decide (_n2 < _n1))
 (0 ≤ _n2 ∧ _n2 < (_a1.n : Int) ∧
 as_i_Table (_a1.g (_n2.toNat)) fun x13 =>
 T.f_catalog_mayTable x13
 (fun _b1 =>
 br (!_b1)
 (K0 )
 (T.f_catalog_met_1 x13.Name _m1
 (fun _b2 _m3 =>
 br (!_b2)
 (K0 )
 (R _a1 _n1 (W (_n2 + 1)) _x1 _m3 _m2 K0 K1)))))
 (K1 _x1 _m2)
def L_catalog_Right_0 (T : Tab) : Nat → YL_catalog_Right_0
  | 0 => fun _ _ _ _ _ _ _ _ => False
  | n + 1 => B_catalog_Right_0 T (L_catalog_Right_0 T n)
def F_catalog_Right (T : Tab) (_x1 : S_i_Catalog) (K0 : Bool → Prop) : Prop :=
 br (decide ((_x1.Tables.n : Int) > (8 : Int)))
 (K0 false)
 (br (decide ((_x1.Procs.n : Int) > (16 : Int)))
 (K0 false)
 (T.f_catalog_met
 (fun _m1 =>
 T.f_catalog_met
 (fun _m2 =>
 L_catalog_Right_0 T T.fuel _x1.Tables (_x1.Tables.n : Int) 0 _x1 _m1 _m2
 (K0 false)
 (fun x23 m24 =>
 L_catalog_Right_2 T T.fuel x23.Procs (x23.Procs.n : Int) 0 m24
 (K0 false)
 (K0 true))))))
def F_catalog_met (T : Tab)  (K0 : (List (PV × PV)) → Prop) : Prop :=
 K0 ([])
abbrev YL_catalog_mayTable_4 := Arr → Int → Int → S_i_Table → (List (PV × PV)) → Prop → Prop → Prop
def B_catalog_mayTable_4 (T : Tab) (R : YL_catalog_mayTable_4) (_a1 : Arr) (_n1 : Int) (_n2 : Int) (_x1 : S_i_Table) (_m1 : List (PV × PV)) (K0 : Prop) (K1 : Prop) : Prop :=
 br (decide (_n2 < _n1))
 (0 ≤ _n2 ∧ _n2 < (_a1.n : Int) ∧
 as_i_Index (_a1.g (_n2.toNat)) fun x53 =>
 T.f_catalog_met_1 x53.Name _m1
 (fun _b1 _m2 =>
 br (!_b1)
 (K0 )
 (T.f_catalog_places x53.Columns (_x1.Columns.n : Int)
 (fun _b2 =>
 br (!_b2)
 (K0 )
 (R _a1 _n1 (W (_n2 + 1)) _x1 _m2 K0 K1)))))
 (K1 )
def L_catalog_mayTable_4 (T : Tab) : Nat → YL_catalog_mayTable_4
  | 0 => fun _ _ _ _ _ _ _ => False
  | n + 1 => B_catalog_mayTable_4 T (L_catalog_mayTable_4 T n)
abbrev YL_catalog_mayTable_2 := Arr → Int → Int → S_i_Table → (List (PV × PV)) → Prop → (S_i_Table → (List (PV × PV)) → Prop) → Prop
def B_catalog_mayTable_2 (T : Tab) (R : YL_catalog_mayTable_2) (_a1 : Arr) (_n1 : Int) (_n2 : Int) (_x1 : S_i_Table) (_m1 : List (PV × PV)) (K0 : Prop) (K1 : S_i_Table → (List (PV × PV)) → Prop) : Prop :=
 br (decide (_n2 < _n1))
 (0 ≤ _n2 ∧ _n2 < (_a1.n : Int) ∧
 asI_i64 (_a1.g (_n2.toNat)) fun n35 =>
 0 ≤ n35 ∧ n35 < (_x1.Columns.n : Int) ∧
 as_i_Column (_x1.Columns.g (n35.toNat)) fun x36 =>
 br (!x36.NotNull)
 (K0 )
 (R _a1 _n1 (W (_n2 + 1)) _x1 _m1 K0 K1))
 (K1 _x1 _m1)
def L_catalog_mayTable_2 (T : Tab) : Nat → YL_catalog_mayTable_2
  | 0 => fun _ _ _ _ _ _ _ => False
  | n + 1 => B_catalog_mayTable_2 T (L_catalog_mayTable_2 T n)
abbrev YL_catalog_mayTable_0 := Arr → Int → Int → S_i_Table → (List (PV × PV)) → (List (PV × PV)) → Prop → (S_i_Table → (List (PV × PV)) → Prop) → Prop
def B_catalog_mayTable_0 (T : Tab) (R : YL_catalog_mayTable_0) (_a1 : Arr) (_n1 : Int) (_n2 : Int) (_x1 : S_i_Table) (_m1 : List (PV × PV)) (_m2 : List (PV × PV)) (K0 : Prop) (K1 : S_i_Table → (List (PV × PV)) → Prop) : Prop :=
 br (decide (_n2 < _n1))
 (0 ≤ _n2 ∧ _n2 < (_a1.n : Int) ∧
 as_i_Column (_a1.g (_n2.toNat)) fun x14 =>
 T.f_catalog_met_1 x14.Name _m1
 (fun _b1 _m3 =>
 br (!_b1)
 (K0 )
 (T.f_catalog_typed x14.Type_
 (fun _b2 =>
 br (!_b2)
 (K0 )
 (R _a1 _n1 (W (_n2 + 1)) _x1 _m3 _m2 K0 K1)))))
 (K1 _x1 _m2)
def L_catalog_mayTable_0 (T : Tab) : Nat → YL_catalog_mayTable_0
  | 0 => fun _ _ _ _ _ _ _ _ => False
  | n + 1 => B_catalog_mayTable_0 T (L_catalog_mayTable_0 T n)
def F_catalog_mayTable (T : Tab) (_x1 : S_i_Table) (K0 : Bool → Prop) : Prop :=
 T.f_catalog_named _x1.Name
 (fun _b1 =>
 br (!_b1)
 (K0 false)
 (br ((_x1.Columns.n : Int) == (0 : Int))
 (K0 false)
 (br (decide ((_x1.Columns.n : Int) > (16 : Int)))
 (K0 false)
 (br (decide ((_x1.Indexes.n : Int) > (4 : Int)))
 (K0 false)
 (T.f_catalog_met
 (fun _m1 =>
 T.f_catalog_met
 (fun _m2 =>
 L_catalog_mayTable_0 T T.fuel _x1.Columns (_x1.Columns.n : Int) 0 _x1 _m1 _m2
 (K0 false)
 (fun x24 m25 =>
 T.f_catalog_places x24.Key (x24.Columns.n : Int)
 (fun _b2 =>
 br (!_b2)
 (K0 false)
 (T.f_sl_Contains_int_int x24.Key x24.Part
 (fun _b3 =>
 br (!_b3)
 (K0 false)
 (L_catalog_mayTable_2 T T.fuel x24.Key (x24.Key.n : Int) 0 x24 m25
 (K0 false)
 (fun x42 m43 =>
 L_catalog_mayTable_4 T T.fuel x42.Indexes (x42.Indexes.n : Int) 0 x42 m43
 (K0 false)
 (K0 true))))))))))))))
def F_catalog_named (T : Tab) (_s1 : ByteArray) (K0 : Bool → Prop) : Prop :=
 br (_s1.toList == (ByteArray.mk #[]).toList)
 (K0 false)
 (br (decide ((_s1.size : Int) > (16 : Int)))
 (K0 false)
 (0 ≤ (0 : Int) ∧ (0 : Int) < (_s1.size : Int) ∧
 br (decide ((byteAt _s1 (0 : Int).toNat) < (97 : Int)))
 (K0 false)
 (0 ≤ (0 : Int) ∧ (0 : Int) < (_s1.size : Int) ∧
 br (decide ((byteAt _s1 (0 : Int).toNat) > (122 : Int)))
 (K0 false)
 (T.f_strings_CF _s1
 (fun _b1 =>
 K0 (!_b1))))))
def F_strings_CF (T : Tab) (_s1 : ByteArray) (K0 : Bool → Prop) : Prop :=
 T.f_strings_IF _s1
 (fun _n1 =>
 K0 (decide (_n1 ≥ (0 : Int))))
def F_strings_IF (T : Tab) (_s1 : ByteArray) (K0 : Int → Prop) : Prop :=
 T.f_strings_indexFunc _s1 true
 (fun _n1 =>
 K0 _n1)
abbrev YL_strings_indexFunc_0 := Bool → ByteArray → Nat → (Int → Prop) → Prop → Prop
def B_strings_indexFunc_0 (T : Tab) (R : YL_strings_indexFunc_0) (_b1 : Bool) (_s1 : ByteArray) (_i1 : Nat) (K0 : Int → Prop) (K1 : Prop) : Prop :=
 br (decide (_i1 < _s1.size))
 (T.f_catalog_named_1 ((Utf8.decode _s1 _i1).1 : Int)
 (fun _b2 =>
 br (_b2 == _b1)
 (K0 (_i1 : Int))
 (R _b1 _s1 (_i1 + (Utf8.decode _s1 _i1).2) K0 K1)))
 (K1 )
def L_strings_indexFunc_0 (T : Tab) : Nat → YL_strings_indexFunc_0
  | 0 => fun _ _ _ _ _ => False
  | n + 1 => B_strings_indexFunc_0 T (L_strings_indexFunc_0 T n)
def F_strings_indexFunc (T : Tab) (_s1 : ByteArray) (_b1 : Bool) (K0 : Int → Prop) : Prop :=
 L_strings_indexFunc_0 T T.fuel _b1 _s1 0
 (fun n9 =>
 K0 n9)
 (K0 (-1))
def F_catalog_named_1 (T : Tab) (_n1 : Int) (K0 : Bool → Prop) : Prop :=
 br (_n1 != (95 : Int))
 (br (decide (_n1 < (48 : Int)))
 (br (decide (_n1 < (97 : Int)))
 (K0 true)
 (K0 (decide (_n1 > (122 : Int)))))
 (br (decide (_n1 > (57 : Int)))
 (br (decide (_n1 < (97 : Int)))
 (K0 true)
 (K0 (decide (_n1 > (122 : Int)))))
 (K0 false)))
 (K0 false)
def F_catalog_met_1 (T : Tab) (_s1 : ByteArray) (_m1 : List (PV × PV)) (K0 : Bool → (List (PV × PV)) → Prop) : Prop :=
 T.f_catalog_named _s1
 (fun _b1 =>
 br _b1
 (asB ((look (PV.str _s1) _m1).getD (PV.bool false)) fun b2 =>
 K0 (!b2) (setK (PV.str _s1) (PV.bool true) _m1))
 (K0 false (setK (PV.str _s1) (PV.bool true) _m1)))
def F_catalog_typed (T : Tab) (_n1 : Int) (K0 : Bool → Prop) : Prop :=
 br (decide (_n1 ≥ (1 : Int)))
 (K0 (decide (_n1 ≤ (3 : Int))))
 (K0 false)
abbrev YL_catalog_places_0 := Arr → Int → Arr → Int → Int → (List (PV × PV)) → Prop → (Arr → Prop) → Prop
def B_catalog_places_0 (T : Tab) (R : YL_catalog_places_0) (_a1 : Arr) (_n1 : Int) (_a2 : Arr) (_n2 : Int) (_n3 : Int) (_m1 : List (PV × PV)) (K0 : Prop) (K1 : Arr → Prop) : Prop :=
 br (decide (_n3 < _n2))
 (0 ≤ _n3 ∧ _n3 < (_a2.n : Int) ∧
 asI_i64 (_a2.g (_n3.toNat)) fun n9 =>
 br (decide (n9 < (0 : Int)))
 (K0 )
 (br (decide (n9 ≥ _n1))
 (K0 )
 (asB ((look (PV.int .i64 n9) _m1).getD (PV.bool false)) fun b10 =>
 br b10
 (K0 )
 (R _a1 _n1 _a2 _n2 (W (_n3 + 1)) (setK (PV.int .i64 n9) (PV.bool true) _m1) K0 K1))))
 (K1 _a1)
def L_catalog_places_0 (T : Tab) : Nat → YL_catalog_places_0
  | 0 => fun _ _ _ _ _ _ _ _ => False
  | n + 1 => B_catalog_places_0 T (L_catalog_places_0 T n)
def F_catalog_places (T : Tab) (_a1 : Arr) (_n1 : Int) (K0 : Bool → Prop) : Prop :=
 L_catalog_places_0 T T.fuel _a1 _n1 _a1 (_a1.n : Int) 0 ([])
 (K0 false)
 (fun a17 =>
 br (decide ((a17.n : Int) ≥ (1 : Int)))
 (K0 (decide ((a17.n : Int) ≤ (8 : Int))))
 (K0 false))
def F_sl_Contains_int_int (T : Tab) (_a1 : Arr) (_n1 : Int) (K0 : Bool → Prop) : Prop :=
 T.f_sl_Index_int_int _a1 _n1
 (fun _n2 =>
 K0 (decide (_n2 ≥ (0 : Int))))
abbrev YL_sl_Index_int_int_0 := Arr → Int → Int → Int → (Int → Prop) → Prop → Prop
def B_sl_Index_int_int_0 (T : Tab) (R : YL_sl_Index_int_int_0) (_a1 : Arr) (_n1 : Int) (_n2 : Int) (_n3 : Int) (K0 : Int → Prop) (K1 : Prop) : Prop :=
 br (decide (_n3 < _n2))
 (0 ≤ _n3 ∧ _n3 < (_a1.n : Int) ∧
 asI_i64 (_a1.g (_n3.toNat)) fun n6 =>
 br (_n1 == n6)
 (K0 _n3)
 (R _a1 _n1 _n2 (W (_n3 + 1)) K0 K1))
 (K1 )
def L_sl_Index_int_int_0 (T : Tab) : Nat → YL_sl_Index_int_int_0
  | 0 => fun _ _ _ _ _ _ => False
  | n + 1 => B_sl_Index_int_int_0 T (L_sl_Index_int_int_0 T n)
def F_sl_Index_int_int (T : Tab) (_a1 : Arr) (_n1 : Int) (K0 : Int → Prop) : Prop :=
 L_sl_Index_int_int_0 T T.fuel _a1 _n1 (_a1.n : Int) 0
 (fun n11 =>
 K0 n11)
 (K0 (-1))
abbrev YL_catalog_mayProc_0 := Arr → Int → Int → S_i_Proc → (List (PV × PV)) → Prop → (S_i_Proc → Prop) → Prop
def B_catalog_mayProc_0 (T : Tab) (R : YL_catalog_mayProc_0) (_a1 : Arr) (_n1 : Int) (_n2 : Int) (_x1 : S_i_Proc) (_m1 : List (PV × PV)) (K0 : Prop) (K1 : S_i_Proc → Prop) : Prop :=
 br (decide (_n2 < _n1))
 (0 ≤ _n2 ∧ _n2 < (_a1.n : Int) ∧
 as_i_Param (_a1.g (_n2.toNat)) fun x12 =>
 T.f_catalog_met_1 x12.Name _m1
 (fun _b1 _m2 =>
 br (!_b1)
 (K0 )
 (T.f_catalog_typed x12.Type_
 (fun _b2 =>
 br (!_b2)
 (K0 )
 (R _a1 _n1 (W (_n2 + 1)) _x1 _m2 K0 K1)))))
 (K1 _x1)
def L_catalog_mayProc_0 (T : Tab) : Nat → YL_catalog_mayProc_0
  | 0 => fun _ _ _ _ _ _ _ => False
  | n + 1 => B_catalog_mayProc_0 T (L_catalog_mayProc_0 T n)
def F_catalog_mayProc (T : Tab) (_x1 : S_i_Proc) (K0 : Bool → Prop) : Prop :=
 T.f_catalog_named _x1.Name
 (fun _b1 =>
 br (!_b1)
 (K0 false)
 (br (decide ((_x1.Params.n : Int) > (8 : Int)))
 (K0 false)
 (br ((_x1.Body.n : Int) == (0 : Int))
 (K0 false)
 (br (decide ((_x1.Body.n : Int) > (8 : Int)))
 (K0 false)
 (br (decide (_x1.Rows < (0 : Int)))
 (K0 false)
 (br (decide (_x1.Rows > (1048576 : Int)))
 (K0 false)
 (br (decide (_x1.Bytes < (0 : Int)))
 (K0 false)
 (br (decide (_x1.Bytes > (1048576 : Int)))
 (K0 false)
 (T.f_catalog_met
 (fun _m1 =>
 L_catalog_mayProc_0 T T.fuel _x1.Params (_x1.Params.n : Int) 0 _x1 _m1
 (K0 false)
 (fun x21 =>
 T.f_sl_CF_string_string x21.Body
 (fun _b2 =>
 K0 (!_b2)))))))))))))
def F_sl_CF_string_string (T : Tab) (_a1 : Arr) (K0 : Bool → Prop) : Prop :=
 T.f_sl_IF_string_string _a1
 (fun _n1 =>
 K0 (decide (_n1 ≥ (0 : Int))))
abbrev YL_sl_IF_string_string_0 := Arr → Int → Int → (Int → Prop) → Prop → Prop
def B_sl_IF_string_string_0 (T : Tab) (R : YL_sl_IF_string_string_0) (_a1 : Arr) (_n1 : Int) (_n2 : Int) (K0 : Int → Prop) (K1 : Prop) : Prop :=
 br (decide (_n2 < _n1))
 (0 ≤ _n2 ∧ _n2 < (_a1.n : Int) ∧
 asS (_a1.g (_n2.toNat)) fun s6 =>
 T.f_catalog_mayProc_1 s6
 (fun _b1 =>
 br _b1
 (K0 _n2)
 (R _a1 _n1 (W (_n2 + 1)) K0 K1)))
 (K1 )
def L_sl_IF_string_string_0 (T : Tab) : Nat → YL_sl_IF_string_string_0
  | 0 => fun _ _ _ _ _ => False
  | n + 1 => B_sl_IF_string_string_0 T (L_sl_IF_string_string_0 T n)
def F_sl_IF_string_string (T : Tab) (_a1 : Arr) (K0 : Int → Prop) : Prop :=
 L_sl_IF_string_string_0 T T.fuel _a1 (_a1.n : Int) 0
 (fun n11 =>
 K0 n11)
 (K0 (-1))
def F_catalog_mayProc_1 (T : Tab) (_s1 : ByteArray) (K0 : Bool → Prop) : Prop :=
 br (_s1.toList == (ByteArray.mk #[]).toList)
 (K0 true)
 (K0 (decide ((_s1.size : Int) > (1000 : Int))))
abbrev YL_check_rightParams_0 := Arr → Arr → Int → Int → (List (PV × PV)) → Prop → (Arr → Prop) → Prop
def B_check_rightParams_0 (T : Tab) (R : YL_check_rightParams_0) (_a1 : Arr) (_a2 : Arr) (_n1 : Int) (_n2 : Int) (_m1 : List (PV × PV)) (K0 : Prop) (K1 : Arr → Prop) : Prop :=
 br (decide (_n2 < _n1))
 (0 ≤ _n2 ∧ _n2 < (_a2.n : Int) ∧
 as_i_Param (_a2.g (_n2.toNat)) fun x10 =>
 asI_i64 ((look (PV.str x10.Name) _m1).getD (PV.int .i64 0)) fun n11 =>
 asI_i64 ((look (PV.str x10.Name) (setK (PV.str x10.Name) (PV.int .i64 (W (n11 + 1))) _m1)).getD (PV.int .i64 0)) fun n12 =>
 br (decide (n12 > (1 : Int)))
 (K0 )
 (T.f_lex_IsName x10.Name
 (fun _b1 =>
 br (!_b1)
 (K0 )
 (br (decide (x10.Type_ < (1 : Int)))
 (K0 )
 (br (decide (x10.Type_ > (3 : Int)))
 (K0 )
 (R _a1 _a2 _n1 (W (_n2 + 1)) (setK (PV.str x10.Name) (PV.int .i64 (W (n11 + 1))) _m1) K0 K1))))))
 (K1 _a1)
def L_check_rightParams_0 (T : Tab) : Nat → YL_check_rightParams_0
  | 0 => fun _ _ _ _ _ _ _ => False
  | n + 1 => B_check_rightParams_0 T (L_check_rightParams_0 T n)
def F_check_rightParams (T : Tab) (_a1 : Arr) (K0 : Bool → Prop) : Prop :=
 L_check_rightParams_0 T T.fuel _a1 _a1 (_a1.n : Int) 0 ([])
 (K0 false)
 (fun a19 =>
 K0 (decide ((a19.n : Int) ≤ (8 : Int))))
abbrev YL_lex_IsName_0 := ByteArray → Int → Int → Prop → (ByteArray → Prop) → Prop
def B_lex_IsName_0 (T : Tab) (R : YL_lex_IsName_0) (_s1 : ByteArray) (_n1 : Int) (_n2 : Int) (K0 : Prop) (K1 : ByteArray → Prop) : Prop :=
 br (decide (_n2 < _n1))
 (0 ≤ _n2 ∧ _n2 < (_s1.size : Int) ∧
 T.f_lex_classOf (byteAt _s1 (_n2).toNat)
 (fun _n3 =>
 br (_n3 != (3 : Int))
 (br (_n2 == (0 : Int))
 (K0 )
 (br (_n3 != (2 : Int))
 (0 ≤ _n2 ∧ _n2 < (_s1.size : Int) ∧
 br ((byteAt _s1 (_n2).toNat) != (95 : Int))
 (K0 )
 (R _s1 _n1 (W (_n2 + 1)) K0 K1))
 (R _s1 _n1 (W (_n2 + 1)) K0 K1)))
 (R _s1 _n1 (W (_n2 + 1)) K0 K1)))
 (K1 _s1)
def L_lex_IsName_0 (T : Tab) : Nat → YL_lex_IsName_0
  | 0 => fun _ _ _ _ _ => False
  | n + 1 => B_lex_IsName_0 T (L_lex_IsName_0 T n)
def F_lex_IsName (T : Tab) (_s1 : ByteArray) (K0 : Bool → Prop) : Prop :=
 L_lex_IsName_0 T T.fuel _s1 (_s1.size : Int) 0
 (K0 false)
 (fun s21 =>
 br (!(s21.toList == (ByteArray.mk #[]).toList))
 (K0 (decide ((s21.size : Int) ≤ (16 : Int))))
 (K0 false))
def F_lex_classOf (T : Tab) (_n1 : Int) (K0 : Int → Prop) : Prop :=
 br (_n1 == (32 : Int))
 (K0 1)
 (br (_n1 == (9 : Int))
 (K0 1)
 (br (_n1 == (10 : Int))
 (K0 1)
 (br (decide (_n1 ≥ (48 : Int)))
 (br (decide (_n1 ≤ (57 : Int)))
 (K0 2)
 (br (decide (_n1 ≥ (97 : Int)))
 (br (decide (_n1 ≤ (122 : Int)))
 (K0 3)
 (br (decide (_n1 ≥ (65 : Int)))
 (br (decide (_n1 ≤ (90 : Int)))
 (K0 4)
 (br (_n1 == (95 : Int))
 (K0 4)
 (br (_n1 == (58 : Int))
 (K0 5)
 (br (_n1 == (39 : Int))
 (K0 6)
 (br (_n1 == (45 : Int))
 (K0 7)
 (T.f_strings_IndexByte (ByteArray.mk #[59, 44, 40, 41, 46, 42, 43, 47, 37, 61, 60, 62]) _n1
 (fun _n2 =>
 br (decide (_n2 ≥ (0 : Int)))
 (K0 8)
 (K0 0))))))))
 (br (_n1 == (95 : Int))
 (K0 4)
 (br (_n1 == (58 : Int))
 (K0 5)
 (br (_n1 == (39 : Int))
 (K0 6)
 (br (_n1 == (45 : Int))
 (K0 7)
 (T.f_strings_IndexByte (ByteArray.mk #[59, 44, 40, 41, 46, 42, 43, 47, 37, 61, 60, 62]) _n1
 (fun _n3 =>
 br (decide (_n3 ≥ (0 : Int)))
 (K0 8)
 (K0 0)))))))))
 (br (decide (_n1 ≥ (65 : Int)))
 (br (decide (_n1 ≤ (90 : Int)))
 (K0 4)
 (br (_n1 == (95 : Int))
 (K0 4)
 (br (_n1 == (58 : Int))
 (K0 5)
 (br (_n1 == (39 : Int))
 (K0 6)
 (br (_n1 == (45 : Int))
 (K0 7)
 (T.f_strings_IndexByte (ByteArray.mk #[59, 44, 40, 41, 46, 42, 43, 47, 37, 61, 60, 62]) _n1
 (fun _n4 =>
 br (decide (_n4 ≥ (0 : Int)))
 (K0 8)
 (K0 0))))))))
 (br (_n1 == (95 : Int))
 (K0 4)
 (br (_n1 == (58 : Int))
 (K0 5)
 (br (_n1 == (39 : Int))
 (K0 6)
 (br (_n1 == (45 : Int))
 (K0 7)
 (T.f_strings_IndexByte (ByteArray.mk #[59, 44, 40, 41, 46, 42, 43, 47, 37, 61, 60, 62]) _n1
 (fun _n5 =>
 br (decide (_n5 ≥ (0 : Int)))
 (K0 8)
 (K0 0))))))))))
 (br (decide (_n1 ≥ (97 : Int)))
 (br (decide (_n1 ≤ (122 : Int)))
 (K0 3)
 (br (decide (_n1 ≥ (65 : Int)))
 (br (decide (_n1 ≤ (90 : Int)))
 (K0 4)
 (br (_n1 == (95 : Int))
 (K0 4)
 (br (_n1 == (58 : Int))
 (K0 5)
 (br (_n1 == (39 : Int))
 (K0 6)
 (br (_n1 == (45 : Int))
 (K0 7)
 (T.f_strings_IndexByte (ByteArray.mk #[59, 44, 40, 41, 46, 42, 43, 47, 37, 61, 60, 62]) _n1
 (fun _n6 =>
 br (decide (_n6 ≥ (0 : Int)))
 (K0 8)
 (K0 0))))))))
 (br (_n1 == (95 : Int))
 (K0 4)
 (br (_n1 == (58 : Int))
 (K0 5)
 (br (_n1 == (39 : Int))
 (K0 6)
 (br (_n1 == (45 : Int))
 (K0 7)
 (T.f_strings_IndexByte (ByteArray.mk #[59, 44, 40, 41, 46, 42, 43, 47, 37, 61, 60, 62]) _n1
 (fun _n7 =>
 br (decide (_n7 ≥ (0 : Int)))
 (K0 8)
 (K0 0)))))))))
 (br (decide (_n1 ≥ (65 : Int)))
 (br (decide (_n1 ≤ (90 : Int)))
 (K0 4)
 (br (_n1 == (95 : Int))
 (K0 4)
 (br (_n1 == (58 : Int))
 (K0 5)
 (br (_n1 == (39 : Int))
 (K0 6)
 (br (_n1 == (45 : Int))
 (K0 7)
 (T.f_strings_IndexByte (ByteArray.mk #[59, 44, 40, 41, 46, 42, 43, 47, 37, 61, 60, 62]) _n1
 (fun _n8 =>
 br (decide (_n8 ≥ (0 : Int)))
 (K0 8)
 (K0 0))))))))
 (br (_n1 == (95 : Int))
 (K0 4)
 (br (_n1 == (58 : Int))
 (K0 5)
 (br (_n1 == (39 : Int))
 (K0 6)
 (br (_n1 == (45 : Int))
 (K0 7)
 (T.f_strings_IndexByte (ByteArray.mk #[59, 44, 40, 41, 46, 42, 43, 47, 37, 61, 60, 62]) _n1
 (fun _n9 =>
 br (decide (_n9 ≥ (0 : Int)))
 (K0 8)
 (K0 0))))))))))))
def F_strings_IndexByte (T : Tab) (_s1 : ByteArray) (_n1 : Int) (K0 : Int → Prop) : Prop :=
 T.f_internal_stringslite_IndexByte _s1 _n1
 (fun _n2 =>
 K0 _n2)
def F_internal_stringslite_IndexByte (T : Tab) (_s1 : ByteArray) (_n1 : Int) (K0 : Int → Prop) : Prop :=
 T.f_internal_bytealg_IndexByteString _s1 _n1
 (fun _n2 =>
 K0 _n2)
def F_internal_bytealg_IndexByteString (T : Tab) (_s1 : ByteArray) (_n1 : Int) (K0 : Int → Prop) : Prop :=
 K0 (idxByte _s1 _n1)
def F_syntax_Right (T : Tab) (_x1 : S_i_Stmt) (K0 : Bool → Prop) : Prop :=
 T.f_lex_IsName _x1.Table
 (fun _b1 =>
 br (!_b1)
 (K0 false)
 (br (decide ((_x1.Where.n : Int) > (1 : Int)))
 (K0 false)
 (T.f_syntax_rights _x1.Where
 (fun _b2 =>
 br (!_b2)
 (K0 false)
 (br (_x1.Kind == (4 : Int))
 (T.f_syntax_rightSelect _x1
 (fun _b3 =>
 K0 _b3))
 (br (!(_x1.Join.toList == (ByteArray.mk #[]).toList))
 (K0 false)
 (br _x1.Star
 (K0 false)
 (br (decide ((W ((W ((W ((_x1.On.n : Int) + (_x1.Groups.n : Int))) + (_x1.Sorts.n : Int))) + (_x1.Limit.n : Int))) > (0 : Int)))
 (K0 false)
 (T.f_syntax_rights _x1.Items
 (fun _b4 =>
 br (!_b4)
 (K0 false)
 (T.f_syntax_rightSets _x1.Sets
 (fun _b5 =>
 br (!_b5)
 (K0 false)
 (br (_x1.Kind == (1 : Int))
 (br (decide ((_x1.Items.n : Int) ≥ (1 : Int)))
 (br (decide ((_x1.Items.n : Int) ≤ (16 : Int)))
 (br ((_x1.Sets.n : Int) == (0 : Int))
 (K0 ((_x1.Where.n : Int) == (0 : Int)))
 (K0 false))
 (K0 false))
 (K0 false))
 (br (_x1.Kind == (2 : Int))
 (br ((_x1.Items.n : Int) == (0 : Int))
 (br (decide ((_x1.Sets.n : Int) ≥ (1 : Int)))
 (K0 (decide ((_x1.Sets.n : Int) ≤ (16 : Int))))
 (K0 false))
 (K0 false))
 (br (_x1.Kind == (3 : Int))
 (br ((_x1.Items.n : Int) == (0 : Int))
 (K0 ((_x1.Sets.n : Int) == (0 : Int)))
 (K0 false))
 (K0 false))))))))))))))))
def F_syntax_rights (T : Tab) (_a1 : Arr) (K0 : Bool → Prop) : Prop :=
 T.f_sl_CF_i_Expr_i_Expr _a1
 (fun _b1 =>
 K0 (!_b1))
def F_sl_CF_i_Expr_i_Expr (T : Tab) (_a1 : Arr) (K0 : Bool → Prop) : Prop :=
 T.f_sl_IF_i_Expr_i_Expr _a1
 (fun _n1 =>
 K0 (decide (_n1 ≥ (0 : Int))))
abbrev YL_sl_IF_i_Expr_i_Expr_0 := Arr → Int → Int → (Int → Prop) → Prop → Prop
def B_sl_IF_i_Expr_i_Expr_0 (T : Tab) (R : YL_sl_IF_i_Expr_i_Expr_0) (_a1 : Arr) (_n1 : Int) (_n2 : Int) (K0 : Int → Prop) (K1 : Prop) : Prop :=
 br (decide (_n2 < _n1))
 (0 ≤ _n2 ∧ _n2 < (_a1.n : Int) ∧
 as_i_Expr (_a1.g (_n2.toNat)) fun x6 =>
 T.f_syntax_rights_1 x6
 (fun _b1 =>
 br _b1
 (K0 _n2)
 (R _a1 _n1 (W (_n2 + 1)) K0 K1)))
 (K1 )
def L_sl_IF_i_Expr_i_Expr_0 (T : Tab) : Nat → YL_sl_IF_i_Expr_i_Expr_0
  | 0 => fun _ _ _ _ _ => False
  | n + 1 => B_sl_IF_i_Expr_i_Expr_0 T (L_sl_IF_i_Expr_i_Expr_0 T n)
def F_sl_IF_i_Expr_i_Expr (T : Tab) (_a1 : Arr) (K0 : Int → Prop) : Prop :=
 L_sl_IF_i_Expr_i_Expr_0 T T.fuel _a1 (_a1.n : Int) 0
 (fun n11 =>
 K0 n11)
 (K0 (-1))
def F_syntax_rights_1 (T : Tab) (_x1 : S_i_Expr) (K0 : Bool → Prop) : Prop :=
 T.f_syntax_rightExpr _x1 1
 (fun _b1 =>
 K0 (!_b1))
def F_syntax_rightExpr (T : Tab) (_x1 : S_i_Expr) (_n1 : Int) (K0 : Bool → Prop) : Prop :=
 T.f_syntax_shape _x1.Kind
 (fun _n2 _n3 _n4 _n5 =>
 br (decide (_n1 > (16 : Int)))
 (K0 false)
 (br (decide ((_x1.Kids.n : Int) < _n2))
 (K0 false)
 (br (decide ((_x1.Kids.n : Int) > _n3))
 (K0 false)
 (br (decide (_x1.Op < _n4))
 (K0 false)
 (br (decide (_x1.Op > _n5))
 (K0 false)
 (T.f_syntax_fields _x1
 (fun _b1 =>
 br (!_b1)
 (K0 false)
 (T.f_sl_CF_i_Expr_i_Expr_v1 _x1.Kids _n1
 (fun _b2 _n6 =>
 K0 (!_b2))))))))))
def F_syntax_shape (T : Tab) (_n1 : Int) (K0 : Int → Int → Int → Int → Prop) : Prop :=
 br (_n1 == (1 : Int))
 (K0 0 0 0 0)
 (br (_n1 == (2 : Int))
 (K0 0 0 0 0)
 (br (_n1 == (3 : Int))
 (K0 0 0 0 0)
 (br (_n1 == (4 : Int))
 (K0 1 1 0 0)
 (br (_n1 == (8 : Int))
 (K0 1 1 0 0)
 (br (_n1 == (7 : Int))
 (K0 1 1 0 1)
 (br (_n1 == (5 : Int))
 (K0 2 2 1 5)
 (br (_n1 == (6 : Int))
 (K0 2 2 1 6)
 (br (_n1 == (9 : Int))
 (K0 2 8 0 0)
 (br (_n1 == (10 : Int))
 (K0 2 8 0 0)
 (K0 0 (-1) 0 0))))))))))
def F_syntax_fields (T : Tab) (_x1 : S_i_Expr) (K0 : Bool → Prop) : Prop :=
 br (_x1.Kind == (1 : Int))
 (br (_x1.Name.toList == (ByteArray.mk #[]).toList)
 (br (_x1.Table.toList == (ByteArray.mk #[]).toList)
 (T.f_value_Right ⟨_x1.Value_Kind, _x1.Value_Int, _x1.Value_Text⟩
 (fun _b1 =>
 br _b1
 (br (_x1.Value_Kind != (1 : Int))
 (K0 true)
 (K0 (decide (_x1.Value_Int ≥ (0 : Int)))))
 (K0 false)))
 (K0 false))
 (K0 false))
 (br (_x1.Kind == (2 : Int))
 (T.f_lex_IsName _x1.Name
 (fun _b2 =>
 br _b2
 (br (_x1.Table.toList == (ByteArray.mk #[]).toList)
 (K0 ((_x1.Value_Kind == 0) && ((_x1.Value_Int == 0) && (_x1.Value_Text.toList == (ByteArray.mk #[]).toList))))
 (K0 false))
 (K0 false)))
 (br (_x1.Kind == (3 : Int))
 (T.f_lex_IsName _x1.Name
 (fun _b3 =>
 br _b3
 (br (_x1.Table.toList == (ByteArray.mk #[]).toList)
 (K0 ((_x1.Value_Kind == 0) && ((_x1.Value_Int == 0) && (_x1.Value_Text.toList == (ByteArray.mk #[]).toList))))
 (T.f_lex_IsName _x1.Table
 (fun _b4 =>
 br _b4
 (K0 ((_x1.Value_Kind == 0) && ((_x1.Value_Int == 0) && (_x1.Value_Text.toList == (ByteArray.mk #[]).toList))))
 (K0 false))))
 (K0 false)))
 (br (_x1.Name.toList == (ByteArray.mk #[]).toList)
 (br (_x1.Table.toList == (ByteArray.mk #[]).toList)
 (K0 ((_x1.Value_Kind == 0) && ((_x1.Value_Int == 0) && (_x1.Value_Text.toList == (ByteArray.mk #[]).toList))))
 (K0 false))
 (K0 false))))
def F_value_Right (T : Tab) (_x1 : S_i_Value) (K0 : Bool → Prop) : Prop :=
 br (_x1.Kind == (0 : Int))
 (K0 ((_x1.Kind == 0) && ((_x1.Int == 0) && (_x1.Text.toList == (ByteArray.mk #[]).toList))))
 (br (_x1.Kind == (1 : Int))
 (br (decide (_x1.Int ≥ ((-4611686018427387904) : Int)))
 (br (decide (_x1.Int ≤ (4611686018427387904 : Int)))
 (K0 (_x1.Text.toList == (ByteArray.mk #[]).toList))
 (K0 false))
 (K0 false))
 (br (_x1.Kind == (2 : Int))
 (0 ≤ (1 : Int) ∧
 br ((Int.fdiv _x1.Int (2 ^ (min (1 : Int).toNat (IntKind.bits .i64)))) == (0 : Int))
 (K0 (_x1.Text.toList == (ByteArray.mk #[]).toList))
 (K0 false))
 (br (_x1.Kind == (3 : Int))
 (br (_x1.Int == (0 : Int))
 (K0 (decide ((_x1.Text.size : Int) ≤ (64 : Int))))
 (K0 false))
 (K0 false))))
def F_sl_CF_i_Expr_i_Expr_v1 (T : Tab) (_a1 : Arr) (_n1 : Int) (K0 : Bool → Int → Prop) : Prop :=
 T.f_sl_IF_i_Expr_i_Expr_v1 _a1 _n1
 (fun _n2 _n3 =>
 K0 (decide (_n2 ≥ (0 : Int))) _n3)
abbrev YL_sl_IF_i_Expr_i_Expr_v1_0 := Arr → Int → Int → Int → (Int → Int → Prop) → (Int → Prop) → Prop
def B_sl_IF_i_Expr_i_Expr_v1_0 (T : Tab) (R : YL_sl_IF_i_Expr_i_Expr_v1_0) (_a1 : Arr) (_n1 : Int) (_n2 : Int) (_n3 : Int) (K0 : Int → Int → Prop) (K1 : Int → Prop) : Prop :=
 br (decide (_n2 < _n1))
 (0 ≤ _n2 ∧ _n2 < (_a1.n : Int) ∧
 as_i_Expr (_a1.g (_n2.toNat)) fun x8 =>
 T.f_syntax_rightExpr_1 x8 _n3
 (fun _b1 _n4 =>
 br _b1
 (K0 _n2 _n4)
 (R _a1 _n1 (W (_n2 + 1)) _n4 K0 K1)))
 (K1 _n3)
def L_sl_IF_i_Expr_i_Expr_v1_0 (T : Tab) : Nat → YL_sl_IF_i_Expr_i_Expr_v1_0
  | 0 => fun _ _ _ _ _ _ => False
  | n + 1 => B_sl_IF_i_Expr_i_Expr_v1_0 T (L_sl_IF_i_Expr_i_Expr_v1_0 T n)
def F_sl_IF_i_Expr_i_Expr_v1 (T : Tab) (_a1 : Arr) (_n1 : Int) (K0 : Int → Int → Prop) : Prop :=
 L_sl_IF_i_Expr_i_Expr_v1_0 T T.fuel _a1 (_a1.n : Int) 0 _n1
 (fun n15 n16 =>
 K0 n15 n16)
 (fun n17 =>
 K0 (-1) n17)
def F_syntax_rightExpr_1 (T : Tab) (_x1 : S_i_Expr) (_n1 : Int) (K0 : Bool → Int → Prop) : Prop :=
 T.f_syntax_rightExpr _x1 (W (_n1 + 1))
 (fun _b1 =>
 K0 (!_b1) _n1)
abbrev YL_syntax_rightSelect_4 := Arr → Int → Int → S_i_Stmt → Prop → (S_i_Stmt → Prop) → Prop
def B_syntax_rightSelect_4 (T : Tab) (R : YL_syntax_rightSelect_4) (_a1 : Arr) (_n1 : Int) (_n2 : Int) (_x1 : S_i_Stmt) (K0 : Prop) (K1 : S_i_Stmt → Prop) : Prop :=
 br (decide (_n2 < _n1))
 (0 ≤ _n2 ∧ _n2 < (_a1.n : Int) ∧
 as_i_Sort (_a1.g (_n2.toNat)) fun x31 =>
 T.f_syntax_within x31.Item
 (fun _b1 =>
 br (!_b1)
 (K0 )
 (R _a1 _n1 (W (_n2 + 1)) _x1 K0 K1)))
 (K1 _x1)
def L_syntax_rightSelect_4 (T : Tab) : Nat → YL_syntax_rightSelect_4
  | 0 => fun _ _ _ _ _ _ => False
  | n + 1 => B_syntax_rightSelect_4 T (L_syntax_rightSelect_4 T n)
abbrev YL_syntax_rightSelect_2 := Arr → Int → Int → S_i_Stmt → Prop → (S_i_Stmt → Prop) → Prop
def B_syntax_rightSelect_2 (T : Tab) (R : YL_syntax_rightSelect_2) (_a1 : Arr) (_n1 : Int) (_n2 : Int) (_x1 : S_i_Stmt) (K0 : Prop) (K1 : S_i_Stmt → Prop) : Prop :=
 br (decide (_n2 < _n1))
 (0 ≤ _n2 ∧ _n2 < (_a1.n : Int) ∧
 as_i_Expr (_a1.g (_n2.toNat)) fun x19 =>
 br (x19.Kind != (3 : Int))
 (K0 )
 (R _a1 _n1 (W (_n2 + 1)) _x1 K0 K1))
 (K1 _x1)
def L_syntax_rightSelect_2 (T : Tab) : Nat → YL_syntax_rightSelect_2
  | 0 => fun _ _ _ _ _ _ => False
  | n + 1 => B_syntax_rightSelect_2 T (L_syntax_rightSelect_2 T n)
abbrev YL_syntax_rightSelect_0 := Arr → Int → Int → S_i_Stmt → Prop → (S_i_Stmt → Prop) → Prop
def B_syntax_rightSelect_0 (T : Tab) (R : YL_syntax_rightSelect_0) (_a1 : Arr) (_n1 : Int) (_n2 : Int) (_x1 : S_i_Stmt) (K0 : Prop) (K1 : S_i_Stmt → Prop) : Prop :=
 br (decide (_n2 < _n1))
 (0 ≤ _n2 ∧ _n2 < (_a1.n : Int) ∧
 as_i_Expr (_a1.g (_n2.toNat)) fun x7 =>
 T.f_syntax_rightItem x7
 (fun _b1 =>
 br (!_b1)
 (K0 )
 (R _a1 _n1 (W (_n2 + 1)) _x1 K0 K1)))
 (K1 _x1)
def L_syntax_rightSelect_0 (T : Tab) : Nat → YL_syntax_rightSelect_0
  | 0 => fun _ _ _ _ _ _ => False
  | n + 1 => B_syntax_rightSelect_0 T (L_syntax_rightSelect_0 T n)
def F_syntax_rightSelect (T : Tab) (_x1 : S_i_Stmt) (K0 : Bool → Prop) : Prop :=
 L_syntax_rightSelect_0 T T.fuel _x1.Items (_x1.Items.n : Int) 0 _x1
 (K0 false)
 (fun x13 =>
 L_syntax_rightSelect_2 T T.fuel x13.Groups (x13.Groups.n : Int) 0 x13
 (K0 false)
 (fun x24 =>
 L_syntax_rightSelect_4 T T.fuel x24.Sorts (x24.Sorts.n : Int) 0 x24
 (K0 false)
 (fun x37 =>
 br (x37.Join.toList == (ByteArray.mk #[]).toList)
 (br ((x37.On.n : Int) == (0 : Int))
 (T.f_syntax_rights x37.On
 (fun _b1 =>
 br _b1
 (T.f_syntax_rights x37.Groups
 (fun _b2 =>
 br _b2
 (br (x37.Star == ((x37.Items.n : Int) == (0 : Int)))
 (br (decide ((x37.Items.n : Int) ≤ (8 : Int)))
 (br (decide ((x37.Groups.n : Int) ≤ (8 : Int)))
 (br (decide ((x37.Sorts.n : Int) ≤ (8 : Int)))
 (br (decide ((x37.Limit.n : Int) ≤ (1 : Int)))
 (T.f_sl_CF_int_int x37.Limit
 (fun _b3 =>
 br (!_b3)
 (K0 ((x37.Sets.n : Int) == (0 : Int)))
 (K0 false)))
 (K0 false))
 (K0 false))
 (K0 false))
 (K0 false))
 (K0 false))
 (K0 false)))
 (K0 false)))
 (T.f_lex_IsName x37.Join
 (fun _b4 =>
 br _b4
 (br ((x37.On.n : Int) == (1 : Int))
 (T.f_syntax_rights x37.On
 (fun _b5 =>
 br _b5
 (T.f_syntax_rights x37.Groups
 (fun _b6 =>
 br _b6
 (br (x37.Star == ((x37.Items.n : Int) == (0 : Int)))
 (br (decide ((x37.Items.n : Int) ≤ (8 : Int)))
 (br (decide ((x37.Groups.n : Int) ≤ (8 : Int)))
 (br (decide ((x37.Sorts.n : Int) ≤ (8 : Int)))
 (br (decide ((x37.Limit.n : Int) ≤ (1 : Int)))
 (T.f_sl_CF_int_int x37.Limit
 (fun _b7 =>
 br (!_b7)
 (K0 ((x37.Sets.n : Int) == (0 : Int)))
 (K0 false)))
 (K0 false))
 (K0 false))
 (K0 false))
 (K0 false))
 (K0 false))
 (K0 false)))
 (K0 false)))
 (K0 false))
 (K0 false))))
 (T.f_lex_IsName x37.Join
 (fun _b8 =>
 br _b8
 (br ((x37.On.n : Int) == (1 : Int))
 (T.f_syntax_rights x37.On
 (fun _b9 =>
 br _b9
 (T.f_syntax_rights x37.Groups
 (fun _b10 =>
 br _b10
 (br (x37.Star == ((x37.Items.n : Int) == (0 : Int)))
 (br (decide ((x37.Items.n : Int) ≤ (8 : Int)))
 (br (decide ((x37.Groups.n : Int) ≤ (8 : Int)))
 (br (decide ((x37.Sorts.n : Int) ≤ (8 : Int)))
 (br (decide ((x37.Limit.n : Int) ≤ (1 : Int)))
 (T.f_sl_CF_int_int x37.Limit
 (fun _b11 =>
 br (!_b11)
 (K0 ((x37.Sets.n : Int) == (0 : Int)))
 (K0 false)))
 (K0 false))
 (K0 false))
 (K0 false))
 (K0 false))
 (K0 false))
 (K0 false)))
 (K0 false)))
 (K0 false))
 (K0 false))))))
def F_syntax_rightItem (T : Tab) (_x1 : S_i_Expr) (K0 : Bool → Prop) : Prop :=
 br (_x1.Kind == (11 : Int))
 (br ((_x1.Kids.n : Int) == (0 : Int))
 (br (_x1.Op == (0 : Int))
 (T.f_syntax_fields _x1
 (fun _b1 =>
 K0 _b1))
 (K0 false))
 (K0 false))
 (br (_x1.Kind == (12 : Int))
 (br ((_x1.Kids.n : Int) == (1 : Int))
 (br (_x1.Op == (0 : Int))
 (T.f_syntax_fields _x1
 (fun _b2 =>
 br _b2
 (0 ≤ (0 : Int) ∧ (0 : Int) < (_x1.Kids.n : Int) ∧
 as_i_Expr (_x1.Kids.g 0) fun x3 =>
 T.f_syntax_rightExpr x3 2
 (fun _b3 =>
 K0 _b3))
 (K0 false)))
 (K0 false))
 (K0 false))
 (br (_x1.Kind == (13 : Int))
 (br ((_x1.Kids.n : Int) == (1 : Int))
 (br (_x1.Op == (0 : Int))
 (T.f_syntax_fields _x1
 (fun _b4 =>
 br _b4
 (0 ≤ (0 : Int) ∧ (0 : Int) < (_x1.Kids.n : Int) ∧
 as_i_Expr (_x1.Kids.g 0) fun x6 =>
 T.f_syntax_rightExpr x6 2
 (fun _b5 =>
 K0 _b5))
 (K0 false)))
 (K0 false))
 (K0 false))
 (br (_x1.Kind == (14 : Int))
 (br ((_x1.Kids.n : Int) == (1 : Int))
 (br (_x1.Op == (0 : Int))
 (T.f_syntax_fields _x1
 (fun _b6 =>
 br _b6
 (0 ≤ (0 : Int) ∧ (0 : Int) < (_x1.Kids.n : Int) ∧
 as_i_Expr (_x1.Kids.g 0) fun x9 =>
 T.f_syntax_rightExpr x9 2
 (fun _b7 =>
 K0 _b7))
 (K0 false)))
 (K0 false))
 (K0 false))
 (T.f_syntax_rightExpr _x1 1
 (fun _b8 =>
 K0 _b8)))))
def F_syntax_within (T : Tab) (_n1 : Int) (K0 : Bool → Prop) : Prop :=
 br (decide (_n1 ≥ (0 : Int)))
 (K0 (decide (_n1 ≤ (4611686018427387904 : Int))))
 (K0 false)
def F_sl_CF_int_int (T : Tab) (_a1 : Arr) (K0 : Bool → Prop) : Prop :=
 T.f_sl_IF_int_int _a1
 (fun _n1 =>
 K0 (decide (_n1 ≥ (0 : Int))))
abbrev YL_sl_IF_int_int_0 := Arr → Int → Int → (Int → Prop) → Prop → Prop
def B_sl_IF_int_int_0 (T : Tab) (R : YL_sl_IF_int_int_0) (_a1 : Arr) (_n1 : Int) (_n2 : Int) (K0 : Int → Prop) (K1 : Prop) : Prop :=
 br (decide (_n2 < _n1))
 (0 ≤ _n2 ∧ _n2 < (_a1.n : Int) ∧
 asI_i64 (_a1.g (_n2.toNat)) fun n6 =>
 T.f_syntax_rightSelect_1 n6
 (fun _b1 =>
 br _b1
 (K0 _n2)
 (R _a1 _n1 (W (_n2 + 1)) K0 K1)))
 (K1 )
def L_sl_IF_int_int_0 (T : Tab) : Nat → YL_sl_IF_int_int_0
  | 0 => fun _ _ _ _ _ => False
  | n + 1 => B_sl_IF_int_int_0 T (L_sl_IF_int_int_0 T n)
def F_sl_IF_int_int (T : Tab) (_a1 : Arr) (K0 : Int → Prop) : Prop :=
 L_sl_IF_int_int_0 T T.fuel _a1 (_a1.n : Int) 0
 (fun n11 =>
 K0 n11)
 (K0 (-1))
def F_syntax_rightSelect_1 (T : Tab) (_n1 : Int) (K0 : Bool → Prop) : Prop :=
 T.f_syntax_within _n1
 (fun _b1 =>
 K0 (!_b1))
def F_syntax_rightSets (T : Tab) (_a1 : Arr) (K0 : Bool → Prop) : Prop :=
 T.f_sl_CF_i_Set_i_Set _a1
 (fun _b1 =>
 K0 (!_b1))
def F_sl_CF_i_Set_i_Set (T : Tab) (_a1 : Arr) (K0 : Bool → Prop) : Prop :=
 T.f_sl_IF_i_Set_i_Set _a1
 (fun _n1 =>
 K0 (decide (_n1 ≥ (0 : Int))))
abbrev YL_sl_IF_i_Set_i_Set_0 := Arr → Int → Int → (Int → Prop) → Prop → Prop
def B_sl_IF_i_Set_i_Set_0 (T : Tab) (R : YL_sl_IF_i_Set_i_Set_0) (_a1 : Arr) (_n1 : Int) (_n2 : Int) (K0 : Int → Prop) (K1 : Prop) : Prop :=
 br (decide (_n2 < _n1))
 (0 ≤ _n2 ∧ _n2 < (_a1.n : Int) ∧
 as_i_Set (_a1.g (_n2.toNat)) fun x6 =>
 T.f_syntax_rightSets_1 x6
 (fun _b1 =>
 br _b1
 (K0 _n2)
 (R _a1 _n1 (W (_n2 + 1)) K0 K1)))
 (K1 )
def L_sl_IF_i_Set_i_Set_0 (T : Tab) : Nat → YL_sl_IF_i_Set_i_Set_0
  | 0 => fun _ _ _ _ _ => False
  | n + 1 => B_sl_IF_i_Set_i_Set_0 T (L_sl_IF_i_Set_i_Set_0 T n)
def F_sl_IF_i_Set_i_Set (T : Tab) (_a1 : Arr) (K0 : Int → Prop) : Prop :=
 L_sl_IF_i_Set_i_Set_0 T T.fuel _a1 (_a1.n : Int) 0
 (fun n11 =>
 K0 n11)
 (K0 (-1))
def F_syntax_rightSets_1 (T : Tab) (_x1 : S_i_Set) (K0 : Bool → Prop) : Prop :=
 T.f_lex_IsName _x1.Name
 (fun _b1 =>
 br (!_b1)
 (K0 true)
 (T.f_syntax_rightExpr ⟨_x1.Expr_Kind, _x1.Expr_Op, _x1.Expr_Value_Kind, _x1.Expr_Value_Int, _x1.Expr_Value_Text, _x1.Expr_Table, _x1.Expr_Name, _x1.Expr_Kids, _x1.Expr_At⟩ 1
 (fun _b2 =>
 K0 (!_b2))))
def F_cc_statement (T : Tab) (_x1 : S_i_Stmt) (_a1 : Arr) (_a2 : Arr) (_n1 : Int) (_n2 : Int) (_m1 : List (PV × PV)) (_m2 : List (PV × PV)) (K0 : S_i_Typed → Bool → Arr → Arr → Int → Int → (List (PV × PV)) → (List (PV × PV)) → Prop) : Prop :=
 T.f_cc_names _x1 _a1 _a2 _n1 _n2 _m1 _m2
 (fun _a3 _b1 _a4 _a5 _n3 _n4 _m3 _m4 =>
 br (!_b1)
 (K0 ⟨_x1.Kind, _a3, (lst true []), (lst true []), (lst true []), (lst true []), false, (lst true []), (lst true []), (lst true []), (lst true [])⟩ false _a4 _a5 _n3 _n4 _m3 _m4)
 (br (_x1.Kind != (1 : Int))
 (T.f_cc_open _a3 _a4 _a5 _n3 _n4 _m3 _m4
 (fun _a6 _a7 _n5 _n6 _m5 _m6 =>
 T.f_cc_truths _x1.On _a6 _a7 _n5 _n6 _m5 _m6
 (fun _a8 _b2 _a9 _a10 _n7 _n8 _m7 _m8 =>
 br (!_b2)
 (K0 ⟨_x1.Kind, _a3, _a8, (lst true []), (lst true []), (lst true []), false, (lst true []), (lst true []), (lst true []), (lst true [])⟩ false _a9 _a10 _n7 _n8 _m7 _m8)
 (T.f_cc_truths _x1.Where _a9 _a10 _n7 _n8 _m7 _m8
 (fun _a11 _b3 _a12 _a13 _n9 _n10 _m9 _m10 =>
 br (!_b3)
 (K0 ⟨_x1.Kind, _a3, _a8, _a11, (lst true []), (lst true []), false, (lst true []), (lst true []), (lst true []), (lst true [])⟩ false _a12 _a13 _n9 _n10 _m9 _m10)
 (0 ≤ (0 : Int) ∧ (0 : Int) < (_a3.n : Int) ∧
 asI_i64 (_a3.g 0) fun n31 =>
 0 ≤ n31 ∧ n31 < (_a12.n : Int) ∧
 as_i_Table (_a12.g (n31.toNat)) fun x32 =>
 br (_x1.Kind == (1 : Int))
 (T.f_cc_insert _x1 x32 _a12 _a13 _n9 _n10 _m9 _m10 _x1.Kind _a3 _a8 _a11 false
 (fun _a14 _a15 _n11 _n12 _m11 _m12 _n13 _a16 _a17 _a18 _b4 =>
 K0 ⟨_n13, _a16, _a17, _a18, (lst true []), (lst true []), _b4, (lst true []), (lst true []), (lst true []), (lst true [])⟩ false _a14 _a15 _n11 _n12 _m11 _m12)
 (fun _b5 _a19 _a20 _n14 _n15 _m13 _m14 _n16 _a21 _a22 _a23 _b6 _r1 =>
 K0 ⟨_n16, _a21, _a22, _a23, (lst true _r1), (lst true []), _b6, (lst true []), (lst true []), (lst true []), (lst true [])⟩ _b5 _a19 _a20 _n14 _n15 _m13 _m14))
 (br (_x1.Kind == (2 : Int))
 (T.f_cc_update _x1 x32 _a12 _a13 _n9 _n10 _m9 _m10 _x1.Kind _a3 _a8 _a11 false
 (fun _b7 _a24 _a25 _n17 _n18 _m15 _m16 _n19 _a26 _a27 _a28 _b8 _r2 _r3 =>
 K0 ⟨_n19, _a26, _a27, _a28, (lst true _r2), (lst true _r3), _b8, (lst true []), (lst true []), (lst true []), (lst true [])⟩ _b7 _a24 _a25 _n17 _n18 _m15 _m16))
 (br (_x1.Kind == (4 : Int))
 (T.f_cc_choose _x1 _a12 _a13 _n9 _n10 _m9 _m10 _x1.Kind _a3 _a8 _a11 false
 (fun _a29 _a30 _n20 _n21 _m17 _m18 _n22 _a31 _a32 _a33 _b9 _r4 =>
 K0 ⟨_n22, _a31, _a32, _a33, (lst true []), (lst true []), _b9, (lst true _r4), (lst true []), (lst true []), (lst true [])⟩ false _a29 _a30 _n20 _n21 _m17 _m18)
 (fun _a34 _a35 _n23 _n24 _m19 _m20 _n25 _a36 _a37 _a38 _b10 _r5 _r6 =>
 K0 ⟨_n25, _a36, _a37, _a38, (lst true _r5), (lst true []), _b10, (lst true _r6), (lst true []), (lst true []), (lst true [])⟩ false _a34 _a35 _n23 _n24 _m19 _m20)
 (fun _a39 _a40 _n26 _n27 _m21 _m22 _n28 _a41 _a42 _a43 _b11 _r7 _r8 _r9 =>
 K0 ⟨_n28, _a41, _a42, _a43, (lst true _r7), (lst true []), _b11, (lst true _r8), (lst true _r9), (lst true []), (lst true [])⟩ false _a39 _a40 _n26 _n27 _m21 _m22)
 (fun _a44 _a45 _n29 _n30 _m23 _m24 _n31 _a46 _a47 _a48 _b12 _r10 _r11 _r12 _r13 _r14 =>
 K0 ⟨_n31, _a46, _a47, _a48, (lst true _r10), (lst true []), _b12, (lst true _r11), (lst true _r12), (lst true _r13), (lst true _r14)⟩ true _a44 _a45 _n29 _n30 _m23 _m24))
 (K0 ⟨_x1.Kind, _a3, _a8, _a11, (lst true []), (lst true []), false, (lst true []), (lst true []), (lst true []), (lst true [])⟩ _b3 _a12 _a13 _n9 _n10 _m9 _m10)))))))))
 (T.f_cc_truths _x1.On _a4 _a5 _n3 _n4 _m3 _m4
 (fun _a49 _b13 _a50 _a51 _n32 _n33 _m25 _m26 =>
 br (!_b13)
 (K0 ⟨_x1.Kind, _a3, _a49, (lst true []), (lst true []), (lst true []), false, (lst true []), (lst true []), (lst true []), (lst true [])⟩ false _a50 _a51 _n32 _n33 _m25 _m26)
 (T.f_cc_truths _x1.Where _a50 _a51 _n32 _n33 _m25 _m26
 (fun _a52 _b14 _a53 _a54 _n34 _n35 _m27 _m28 =>
 br (!_b14)
 (K0 ⟨_x1.Kind, _a3, _a49, _a52, (lst true []), (lst true []), false, (lst true []), (lst true []), (lst true []), (lst true [])⟩ false _a53 _a54 _n34 _n35 _m27 _m28)
 (0 ≤ (0 : Int) ∧ (0 : Int) < (_a3.n : Int) ∧
 asI_i64 (_a3.g 0) fun n142 =>
 0 ≤ n142 ∧ n142 < (_a53.n : Int) ∧
 as_i_Table (_a53.g (n142.toNat)) fun x143 =>
 br (_x1.Kind == (1 : Int))
 (T.f_cc_insert _x1 x143 _a53 _a54 _n34 _n35 _m27 _m28 _x1.Kind _a3 _a49 _a52 false
 (fun _a55 _a56 _n36 _n37 _m29 _m30 _n38 _a57 _a58 _a59 _b15 =>
 K0 ⟨_n38, _a57, _a58, _a59, (lst true []), (lst true []), _b15, (lst true []), (lst true []), (lst true []), (lst true [])⟩ false _a55 _a56 _n36 _n37 _m29 _m30)
 (fun _b16 _a60 _a61 _n39 _n40 _m31 _m32 _n41 _a62 _a63 _a64 _b17 _r15 =>
 K0 ⟨_n41, _a62, _a63, _a64, (lst true _r15), (lst true []), _b17, (lst true []), (lst true []), (lst true []), (lst true [])⟩ _b16 _a60 _a61 _n39 _n40 _m31 _m32))
 (br (_x1.Kind == (2 : Int))
 (T.f_cc_update _x1 x143 _a53 _a54 _n34 _n35 _m27 _m28 _x1.Kind _a3 _a49 _a52 false
 (fun _b18 _a65 _a66 _n42 _n43 _m33 _m34 _n44 _a67 _a68 _a69 _b19 _r16 _r17 =>
 K0 ⟨_n44, _a67, _a68, _a69, (lst true _r16), (lst true _r17), _b19, (lst true []), (lst true []), (lst true []), (lst true [])⟩ _b18 _a65 _a66 _n42 _n43 _m33 _m34))
 (br (_x1.Kind == (4 : Int))
 (T.f_cc_choose _x1 _a53 _a54 _n34 _n35 _m27 _m28 _x1.Kind _a3 _a49 _a52 false
 (fun _a70 _a71 _n45 _n46 _m35 _m36 _n47 _a72 _a73 _a74 _b20 _r18 =>
 K0 ⟨_n47, _a72, _a73, _a74, (lst true []), (lst true []), _b20, (lst true _r18), (lst true []), (lst true []), (lst true [])⟩ false _a70 _a71 _n45 _n46 _m35 _m36)
 (fun _a75 _a76 _n48 _n49 _m37 _m38 _n50 _a77 _a78 _a79 _b21 _r19 _r20 =>
 K0 ⟨_n50, _a77, _a78, _a79, (lst true _r19), (lst true []), _b21, (lst true _r20), (lst true []), (lst true []), (lst true [])⟩ false _a75 _a76 _n48 _n49 _m37 _m38)
 (fun _a80 _a81 _n51 _n52 _m39 _m40 _n53 _a82 _a83 _a84 _b22 _r21 _r22 _r23 =>
 K0 ⟨_n53, _a82, _a83, _a84, (lst true _r21), (lst true []), _b22, (lst true _r22), (lst true _r23), (lst true []), (lst true [])⟩ false _a80 _a81 _n51 _n52 _m39 _m40)
 (fun _a85 _a86 _n54 _n55 _m41 _m42 _n56 _a87 _a88 _a89 _b23 _r24 _r25 _r26 _r27 _r28 =>
 K0 ⟨_n56, _a87, _a88, _a89, (lst true _r24), (lst true []), _b23, (lst true _r25), (lst true _r26), (lst true _r27), (lst true _r28)⟩ true _a85 _a86 _n54 _n55 _m41 _m42))
 (K0 ⟨_x1.Kind, _a3, _a49, _a52, (lst true []), (lst true []), false, (lst true []), (lst true []), (lst true []), (lst true [])⟩ _b14 _a53 _a54 _n34 _n35 _m27 _m28))))))))))
def F_cc_names (T : Tab) (_x1 : S_i_Stmt) (_a1 : Arr) (_a2 : Arr) (_n1 : Int) (_n2 : Int) (_m1 : List (PV × PV)) (_m2 : List (PV × PV)) (K0 : Arr → Bool → Arr → Arr → Int → Int → (List (PV × PV)) → (List (PV × PV)) → Prop) : Prop :=
 T.f_check_tableOf ⟨_a1, _a2⟩ _x1.Table
 (fun _n3 =>
 br (decide (_n3 < (0 : Int)))
 (T.f_cc_fails 82 _x1.At _a1 _a2 _n1 _n2 _m1 _m2
 (fun _a3 _a4 _n4 _n5 _m3 _m4 =>
 K0 (lst true []) false _a3 _a4 _n4 _n5 _m3 _m4))
 (br (_x1.Join.toList == (ByteArray.mk #[]).toList)
 (K0 (lst true ([(PV.int .i64 _n3)])) true _a1 _a2 _n1 _n2 _m1 _m2)
 (T.f_check_tableOf ⟨_a1, _a2⟩ _x1.Join
 (fun _n6 =>
 br (decide (_n6 < (0 : Int)))
 (T.f_cc_fails 82 _x1.JoinAt _a1 _a2 _n1 _n2 _m1 _m2
 (fun _a5 _a6 _n7 _n8 _m5 _m6 =>
 K0 (lst true []) false _a5 _a6 _n7 _n8 _m5 _m6))
 (br (_n6 == _n3)
 (T.f_cc_fails 81 _x1.JoinAt _a1 _a2 _n1 _n2 _m1 _m2
 (fun _a7 _a8 _n9 _n10 _m7 _m8 =>
 K0 (lst true []) false _a7 _a8 _n9 _n10 _m7 _m8))
 (K0 (lst true ([(PV.int .i64 _n3), (PV.int .i64 _n6)])) true _a1 _a2 _n1 _n2 _m1 _m2))))))
abbrev YL_check_tableOf_0 := ByteArray → Arr → Int → Int → (Int → Prop) → Prop → Prop
def B_check_tableOf_0 (T : Tab) (R : YL_check_tableOf_0) (_s1 : ByteArray) (_a1 : Arr) (_n1 : Int) (_n2 : Int) (K0 : Int → Prop) (K1 : Prop) : Prop :=
 br (decide (_n2 < _n1))
 (0 ≤ _n2 ∧ _n2 < (_a1.n : Int) ∧
 as_i_Table (_a1.g (_n2.toNat)) fun x6 =>
 br (x6.Name.toList == _s1.toList)
 (K0 _n2)
 (R _s1 _a1 _n1 (W (_n2 + 1)) K0 K1))
 (K1 )
def L_check_tableOf_0 (T : Tab) : Nat → YL_check_tableOf_0
  | 0 => fun _ _ _ _ _ _ => False
  | n + 1 => B_check_tableOf_0 T (L_check_tableOf_0 T n)
def F_check_tableOf (T : Tab) (_x1 : S_i_Catalog) (_s1 : ByteArray) (K0 : Int → Prop) : Prop :=
 L_check_tableOf_0 T T.fuel _s1 _x1.Tables (_x1.Tables.n : Int) 0
 (fun n11 =>
 K0 n11)
 (K0 (-1))
def F_cc_fails (T : Tab) (_n1 : Int) (_n2 : Int) (_a1 : Arr) (_a2 : Arr) (_n3 : Int) (_n4 : Int) (_m1 : List (PV × PV)) (_m2 : List (PV × PV)) (K0 : Arr → Arr → Int → Int → (List (PV × PV)) → (List (PV × PV)) → Prop) : Prop :=
 br (_n3 == (0 : Int))
 (K0 _a1 _a2 _n1 _n2 _m1 _m2)
 (K0 _a1 _a2 _n3 _n4 _m1 _m2)
abbrev YL_cc_open_4 := Int → Arr → Int → Int → Arr → Int → Int → Int → Int → Arr → Arr → Int → Int → (List (PV × PV)) → (List (PV × PV)) → S_i_Table → S_i_Column → (List PV) → (Int → Arr → Int → Int → Arr → Int → Int → Arr → Arr → Int → Int → (List (PV × PV)) → (List (PV × PV)) → S_i_Table → Prop) → Prop
def B_cc_open_4 (T : Tab) (R : YL_cc_open_4) (_n1 : Int) (_a1 : Arr) (_n2 : Int) (_n3 : Int) (_a2 : Arr) (_n4 : Int) (_n5 : Int) (_n6 : Int) (_n7 : Int) (_a3 : Arr) (_a4 : Arr) (_n8 : Int) (_n9 : Int) (_m1 : List (PV × PV)) (_m2 : List (PV × PV)) (_x1 : S_i_Table) (_x2 : S_i_Column) (_r1 : List PV) (K0 : Int → Arr → Int → Int → Arr → Int → Int → Arr → Arr → Int → Int → (List (PV × PV)) → (List (PV × PV)) → S_i_Table → Prop) : Prop :=
 br (decide (_n7 < _n6))
 (0 ≤ _n7 ∧ _n7 < (_r1.length : Int) ∧
 as_arr2_string (_r1.getD _n7.toNat .nilp) fun x24 =>
 as_check_place ((look (PV.agg (p_arr2_string x24)) _m2).getD (PV.agg [.int .i64 0, .int .i64 0, .int .i64 0])) fun x25 =>
 R _n1 _a1 _n2 _n3 _a2 _n4 _n5 _n6 (W (_n7 + 1)) _a3 _a4 _n8 _n9 _m1 (setK (PV.agg (p_arr2_string x24)) (PV.agg [.int .i64 _n1, .int .i64 _x2.Type_, .int .i64 (W (x25.many + 1))]) _m2) _x1 _x2 _r1 K0)
 (K0 _n1 _a1 _n2 _n3 _a2 _n4 _n5 _a3 _a4 _n8 _n9 _m1 _m2 _x1)
def L_cc_open_4 (T : Tab) : Nat → YL_cc_open_4
  | 0 => fun _ _ _ _ _ _ _ _ _ _ _ _ _ _ _ _ _ _ _ => False
  | n + 1 => B_cc_open_4 T (L_cc_open_4 T n)
abbrev YL_cc_open_2 := Int → Arr → Int → Int → Arr → Int → Int → Arr → Arr → Int → Int → (List (PV × PV)) → (List (PV × PV)) → S_i_Table → (Int → Arr → Int → Int → Arr → Arr → Int → Int → (List (PV × PV)) → (List (PV × PV)) → Prop) → Prop
def B_cc_open_2 (T : Tab) (R : YL_cc_open_2) (_n1 : Int) (_a1 : Arr) (_n2 : Int) (_n3 : Int) (_a2 : Arr) (_n4 : Int) (_n5 : Int) (_a3 : Arr) (_a4 : Arr) (_n6 : Int) (_n7 : Int) (_m1 : List (PV × PV)) (_m2 : List (PV × PV)) (_x1 : S_i_Table) (K0 : Int → Arr → Int → Int → Arr → Arr → Int → Int → (List (PV × PV)) → (List (PV × PV)) → Prop) : Prop :=
 br (decide (_n5 < _n4))
 (0 ≤ _n5 ∧ _n5 < (_a2.n : Int) ∧
 as_i_Column (_a2.g (_n5.toNat)) fun x72 =>
 L_cc_open_4 T T.fuel _n1 _a1 _n2 _n3 _a2 _n4 _n5 2 0 _a3 _a4 _n6 _n7 _m1 _m2 _x1 x72 ([(PV.agg [.str _x1.Name, .str x72.Name]), (PV.agg [.str (ByteArray.mk #[]), .str x72.Name])])
 (fun n73 a74 n75 n76 a77 n78 n79 a80 a81 n82 n83 m84 m85 x86 =>
 R (W (n73 + 1)) a74 n75 n76 a77 n78 (W (n79 + 1)) a80 a81 n82 n83 m84 m85 x86 K0))
 (K0 _n1 _a1 _n2 _n3 _a3 _a4 _n6 _n7 _m1 _m2)
def L_cc_open_2 (T : Tab) : Nat → YL_cc_open_2
  | 0 => fun _ _ _ _ _ _ _ _ _ _ _ _ _ _ _ => False
  | n + 1 => B_cc_open_2 T (L_cc_open_2 T n)
abbrev YL_cc_open_0 := Int → Arr → Int → Int → Arr → Arr → Int → Int → (List (PV × PV)) → (List (PV × PV)) → (Arr → Arr → Int → Int → (List (PV × PV)) → (List (PV × PV)) → Prop) → Prop
def B_cc_open_0 (T : Tab) (R : YL_cc_open_0) (_n1 : Int) (_a1 : Arr) (_n2 : Int) (_n3 : Int) (_a2 : Arr) (_a3 : Arr) (_n4 : Int) (_n5 : Int) (_m1 : List (PV × PV)) (_m2 : List (PV × PV)) (K0 : Arr → Arr → Int → Int → (List (PV × PV)) → (List (PV × PV)) → Prop) : Prop :=
 br (decide (_n3 < _n2))
 (0 ≤ _n3 ∧ _n3 < (_a1.n : Int) ∧
 asI_i64 (_a1.g (_n3.toNat)) fun n121 =>
 0 ≤ n121 ∧ n121 < (_a2.n : Int) ∧
 as_i_Table (_a2.g (n121.toNat)) fun x122 =>
 L_cc_open_2 T T.fuel _n1 _a1 _n2 _n3 x122.Columns (x122.Columns.n : Int) 0 _a2 _a3 _n4 _n5 _m1 _m2 x122
 (fun n123 a124 n125 n126 a127 a128 n129 n130 m131 m132 =>
 R n123 a124 n125 (W (n126 + 1)) a127 a128 n129 n130 m131 m132 K0))
 (K0 _a2 _a3 _n4 _n5 _m1 _m2)
def L_cc_open_0 (T : Tab) : Nat → YL_cc_open_0
  | 0 => fun _ _ _ _ _ _ _ _ _ _ _ => False
  | n + 1 => B_cc_open_0 T (L_cc_open_0 T n)
def F_cc_open (T : Tab) (_a1 : Arr) (_a2 : Arr) (_a3 : Arr) (_n1 : Int) (_n2 : Int) (_m1 : List (PV × PV)) (_m2 : List (PV × PV)) (K0 : Arr → Arr → Int → Int → (List (PV × PV)) → (List (PV × PV)) → Prop) : Prop :=
 L_cc_open_0 T T.fuel 0 _a1 (_a1.n : Int) 0 _a2 _a3 _n1 _n2 _m1 _m2
 (fun a143 a144 n145 n146 m147 m148 =>
 K0 a143 a144 n145 n146 m147 m148)
abbrev YL_cc_truths_0 := Arr → Int → Int → Arr → Arr → Int → Int → (List (PV × PV)) → (List (PV × PV)) → (List PV) → (Arr → Arr → Int → Int → (List (PV × PV)) → (List (PV × PV)) → Prop) → (Arr → Arr → Int → Int → (List (PV × PV)) → (List (PV × PV)) → (List PV) → Prop) → Prop
def B_cc_truths_0 (T : Tab) (R : YL_cc_truths_0) (_a1 : Arr) (_n1 : Int) (_n2 : Int) (_a2 : Arr) (_a3 : Arr) (_n3 : Int) (_n4 : Int) (_m1 : List (PV × PV)) (_m2 : List (PV × PV)) (_r1 : List PV) (K0 : Arr → Arr → Int → Int → (List (PV × PV)) → (List (PV × PV)) → Prop) (K1 : Arr → Arr → Int → Int → (List (PV × PV)) → (List (PV × PV)) → (List PV) → Prop) : Prop :=
 br (decide (_n2 < _n1))
 (0 ≤ _n2 ∧ _n2 < (_a1.n : Int) ∧
 as_i_Expr (_a1.g (_n2.toNat)) fun x28 =>
 T.f_cc_of 2 _a2 _a3 _n3 _n4 _m1 _m2
 (fun _a4 _a5 _n5 _n6 _m3 _m4 _n7 =>
 T.f_cc_of_1 x28 _a4 _a5 _n5 _n6 _m3 _m4 _n7
 (fun _x1 _b1 _a6 _a7 _n8 _n9 _m5 _m6 _n10 =>
 br (!_b1)
 (K0 _a6 _a7 _n8 _n9 _m5 _m6)
 ((_r1.length + 1) * 80 ≤ 140737488355328 ∧
 R _a1 _n1 (W (_n2 + 1)) _a6 _a7 _n8 _n9 _m5 _m6 (_r1 ++ ([(PV.agg (p_i_Term _x1))])) K0 K1))))
 (K1 _a2 _a3 _n3 _n4 _m1 _m2 _r1)
def L_cc_truths_0 (T : Tab) : Nat → YL_cc_truths_0
  | 0 => fun _ _ _ _ _ _ _ _ _ _ _ _ => False
  | n + 1 => B_cc_truths_0 T (L_cc_truths_0 T n)
def F_cc_truths (T : Tab) (_a1 : Arr) (_a2 : Arr) (_a3 : Arr) (_n1 : Int) (_n2 : Int) (_m1 : List (PV × PV)) (_m2 : List (PV × PV)) (K0 : Arr → Bool → Arr → Arr → Int → Int → (List (PV × PV)) → (List (PV × PV)) → Prop) : Prop :=
 L_cc_truths_0 T T.fuel _a1 (_a1.n : Int) 0 _a2 _a3 _n1 _n2 _m1 _m2 ([])
 (fun a55 a56 n57 n58 m59 m60 =>
 K0 (lst true []) false a55 a56 n57 n58 m59 m60)
 (fun a61 a62 n63 n64 m65 m66 r67 =>
 K0 (lst true r67) true a61 a62 n63 n64 m65 m66)
def F_cc_of (T : Tab) (_n1 : Int) (_a1 : Arr) (_a2 : Arr) (_n2 : Int) (_n3 : Int) (_m1 : List (PV × PV)) (_m2 : List (PV × PV)) (K0 : Arr → Arr → Int → Int → (List (PV × PV)) → (List (PV × PV)) → Int → Prop) : Prop :=
 K0 _a1 _a2 _n2 _n3 _m1 _m2 _n1
def F_cc_of_1 (T : Tab) (_x1 : S_i_Expr) (_a1 : Arr) (_a2 : Arr) (_n1 : Int) (_n2 : Int) (_m1 : List (PV × PV)) (_m2 : List (PV × PV)) (_n3 : Int) (K0 : S_i_Term → Bool → Arr → Arr → Int → Int → (List (PV × PV)) → (List (PV × PV)) → Int → Prop) : Prop :=
 T.f_cc_term _x1 _a1 _a2 _n1 _n2 _m1 _m2
 (fun _x2 _b1 _a3 _a4 _n4 _n5 _m3 _m4 =>
 br _b1
 (br (_x2.Type_ != _n3)
 (br (_x2.Type_ != (0 : Int))
 (T.f_cc_fails 11 _x1.At _a3 _a4 _n4 _n5 _m3 _m4
 (fun _a5 _a6 _n6 _n7 _m5 _m6 =>
 K0 ⟨0, 0, 0, 0, 0, (ByteArray.mk #[]), (lst true [])⟩ false _a5 _a6 _n6 _n7 _m5 _m6 _n3))
 (K0 _x2 _b1 _a3 _a4 _n4 _n5 _m3 _m4 _n3))
 (K0 _x2 _b1 _a3 _a4 _n4 _n5 _m3 _m4 _n3))
 (K0 _x2 _b1 _a3 _a4 _n4 _n5 _m3 _m4 _n3))
abbrev YL_cc_term_4a := Int → Int → Arr → Arr → Int → Int → (List (PV × PV)) → (List (PV × PV)) → S_i_Expr → Int → Int → Int → Int → Int → ByteArray → Int → Int → Int → Int → Int → ByteArray → (List PV) → (Arr → Arr → Int → Int → (List (PV × PV)) → (List (PV × PV)) → S_i_Expr → Int → Int → Int → Int → Int → ByteArray → Int → Int → Int → Int → Int → ByteArray → (List PV) → Prop) → Prop
def B_cc_term_4a (T : Tab) (R : YL_cc_term_4a) (_n1 : Int) (_n2 : Int) (_a1 : Arr) (_a2 : Arr) (_n3 : Int) (_n4 : Int) (_m1 : List (PV × PV)) (_m2 : List (PV × PV)) (_x1 : S_i_Expr) (_n5 : Int) (_n6 : Int) (_n7 : Int) (_n8 : Int) (_n9 : Int) (_s1 : ByteArray) (_n10 : Int) (_n11 : Int) (_n12 : Int) (_n13 : Int) (_n14 : Int) (_s2 : ByteArray) (_r1 : List PV) (K0 : Arr → Arr → Int → Int → (List (PV × PV)) → (List (PV × PV)) → S_i_Expr → Int → Int → Int → Int → Int → ByteArray → Int → Int → Int → Int → Int → ByteArray → (List PV) → Prop) : Prop :=
 br (decide (_n2 < _n1))
 (0 ≤ _n2 ∧ _n2 < (_r1.length : Int) ∧
 as_i_Term (_r1.getD _n2.toNat .nilp) fun x251 =>
 T.f_check_wanted_2 x251.Type_
 (R _n1 (W (_n2 + 1)) _a1 _a2 _n3 _n4 _m1 _m2 _x1 _n5 _n6 _n7 _n8 _n9 _s1 _n10 _n11 _n12 _n13 _n14 _s2 _r1 K0))
 (K0 _a1 _a2 _n3 _n4 _m1 _m2 _x1 _n5 _n6 _n7 _n8 _n9 _s1 _n10 _n11 _n12 _n13 _n14 _s2 _r1)
def L_cc_term_4a (T : Tab) : Nat → YL_cc_term_4a
  | 0 => fun _ _ _ _ _ _ _ _ _ _ _ _ _ _ _ _ _ _ _ _ _ _ _ => False
  | n + 1 => B_cc_term_4a T (L_cc_term_4a T n)
abbrev YL_cc_term_4 := Int → Int → Arr → Arr → Int → Int → (List (PV × PV)) → (List (PV × PV)) → S_i_Expr → Int → Int → Int → Int → Int → ByteArray → Int → Int → Int → Int → Int → ByteArray → (List PV) → Int → (Arr → Arr → Int → Int → (List (PV × PV)) → (List (PV × PV)) → Int → Int → Int → Int → Int → ByteArray → Prop) → (Arr → Arr → Int → Int → (List (PV × PV)) → (List (PV × PV)) → S_i_Expr → Int → Int → Int → Int → Int → ByteArray → Int → Int → Int → Int → Int → ByteArray → (List PV) → Prop) → Prop
def B_cc_term_4 (T : Tab) (R : YL_cc_term_4) (_n1 : Int) (_n2 : Int) (_a1 : Arr) (_a2 : Arr) (_n3 : Int) (_n4 : Int) (_m1 : List (PV × PV)) (_m2 : List (PV × PV)) (_x1 : S_i_Expr) (_n5 : Int) (_n6 : Int) (_n7 : Int) (_n8 : Int) (_n9 : Int) (_s1 : ByteArray) (_n10 : Int) (_n11 : Int) (_n12 : Int) (_n13 : Int) (_n14 : Int) (_s2 : ByteArray) (_r1 : List PV) (_n15 : Int) (K0 : Arr → Arr → Int → Int → (List (PV × PV)) → (List (PV × PV)) → Int → Int → Int → Int → Int → ByteArray → Prop) (K1 : Arr → Arr → Int → Int → (List (PV × PV)) → (List (PV × PV)) → S_i_Expr → Int → Int → Int → Int → Int → ByteArray → Int → Int → Int → Int → Int → ByteArray → (List PV) → Prop) : Prop :=
 br (decide (_n2 < _n1))
 (0 ≤ _n2 ∧ _n2 < (_r1.length : Int) ∧
 as_i_Term (_r1.getD _n2.toNat .nilp) fun x151 =>
 T.f_check_wanted_1_1 x151.Type_ _n15
 (fun _b1 _n16 =>
 br (!_b1)
 (0 ≤ _n2 ∧ _n2 < (_x1.Kids.n : Int) ∧
 as_i_Expr (_x1.Kids.g (_n2.toNat)) fun x154 =>
 T.f_cc_fails 11 x154.At _a1 _a2 _n3 _n4 _m1 _m2
 (fun _a3 _a4 _n17 _n18 _m3 _m4 =>
 K0 _a3 _a4 _n17 _n18 _m3 _m4 0 0 0 0 0 (ByteArray.mk #[])))
 (R _n1 (W (_n2 + 1)) _a1 _a2 _n3 _n4 _m1 _m2 _x1 _n5 _n6 _n7 _n8 _n9 _s1 _n10 _n11 _n12 _n13 _n14 _s2 _r1 _n16 K0 K1)))
 (K1 _a1 _a2 _n3 _n4 _m1 _m2 _x1 _n5 _n6 _n7 _n8 _n9 _s1 _n10 _n11 _n12 _n13 _n14 _s2 _r1)
def L_cc_term_4 (T : Tab) : Nat → YL_cc_term_4
  | 0 => fun _ _ _ _ _ _ _ _ _ _ _ _ _ _ _ _ _ _ _ _ _ _ _ _ _ => False
  | n + 1 => B_cc_term_4 T (L_cc_term_4 T n)
abbrev YL_cc_term_2 := Arr → Int → Int → Arr → Arr → Int → Int → (List (PV × PV)) → (List (PV × PV)) → S_i_Expr → Int → Int → Int → Int → Int → ByteArray → Int → Int → Int → Int → Int → ByteArray → (List PV) → (Arr → Arr → Int → Int → (List (PV × PV)) → (List (PV × PV)) → Int → Int → Int → Int → Int → ByteArray → Prop) → (Arr → Arr → Int → Int → (List (PV × PV)) → (List (PV × PV)) → S_i_Expr → Int → Int → Int → Int → Int → ByteArray → Int → Int → Int → Int → Int → ByteArray → (List PV) → Prop) → Prop
def B_cc_term_2 (T : Tab) (R : YL_cc_term_2) (_a1 : Arr) (_n1 : Int) (_n2 : Int) (_a2 : Arr) (_a3 : Arr) (_n3 : Int) (_n4 : Int) (_m1 : List (PV × PV)) (_m2 : List (PV × PV)) (_x1 : S_i_Expr) (_n5 : Int) (_n6 : Int) (_n7 : Int) (_n8 : Int) (_n9 : Int) (_s1 : ByteArray) (_n10 : Int) (_n11 : Int) (_n12 : Int) (_n13 : Int) (_n14 : Int) (_s2 : ByteArray) (_r1 : List PV) (K0 : Arr → Arr → Int → Int → (List (PV × PV)) → (List (PV × PV)) → Int → Int → Int → Int → Int → ByteArray → Prop) (K1 : Arr → Arr → Int → Int → (List (PV × PV)) → (List (PV × PV)) → S_i_Expr → Int → Int → Int → Int → Int → ByteArray → Int → Int → Int → Int → Int → ByteArray → (List PV) → Prop) : Prop :=
 br (decide (_n2 < _n1))
 (0 ≤ _n2 ∧ _n2 < (_a1.n : Int) ∧
 as_i_Expr (_a1.g (_n2.toNat)) fun x53 =>
 T.f_cc_term x53 _a2 _a3 _n3 _n4 _m1 _m2
 (fun _x2 _b1 _a4 _a5 _n15 _n16 _m3 _m4 =>
 br (!_b1)
 (K0 _a4 _a5 _n15 _n16 _m3 _m4 0 0 0 0 0 (ByteArray.mk #[]))
 ((_r1.length + 1) * 80 ≤ 140737488355328 ∧
 R _a1 _n1 (W (_n2 + 1)) _a4 _a5 _n15 _n16 _m3 _m4 _x1 _n5 _n6 _n7 _n8 _n9 _s1 _n10 _n11 _n12 _n13 _n14 _s2 (_r1 ++ ([(PV.agg (p_i_Term _x2))])) K0 K1)))
 (K1 _a2 _a3 _n3 _n4 _m1 _m2 _x1 _n5 _n6 _n7 _n8 _n9 _s1 _n10 _n11 _n12 _n13 _n14 _s2 _r1)
def L_cc_term_2 (T : Tab) : Nat → YL_cc_term_2
  | 0 => fun _ _ _ _ _ _ _ _ _ _ _ _ _ _ _ _ _ _ _ _ _ _ _ _ _ => False
  | n + 1 => B_cc_term_2 T (L_cc_term_2 T n)
def F_cc_term (T : Tab) (_x1 : S_i_Expr) (_a1 : Arr) (_a2 : Arr) (_n1 : Int) (_n2 : Int) (_m1 : List (PV × PV)) (_m2 : List (PV × PV)) (K0 : S_i_Term → Bool → Arr → Arr → Int → Int → (List (PV × PV)) → (List (PV × PV)) → Prop) : Prop :=
 br (_x1.Kind == (1 : Int))
 (K0 ⟨_x1.Kind, 0, _x1.Value_Kind, _x1.Value_Kind, _x1.Value_Int, _x1.Value_Text, (lst true [])⟩ true _a1 _a2 _n1 _n2 _m1 _m2)
 (br (_x1.Kind == (2 : Int))
 (as_check_place ((look (PV.str _x1.Name) _m1).getD (PV.agg [.int .i64 0, .int .i64 0, .int .i64 0])) fun x1 =>
 br (!((look (PV.str _x1.Name) _m1).isSome))
 (T.f_cc_fails 82 _x1.At _a1 _a2 _n1 _n2 _m1 _m2
 (fun _a3 _a4 _n3 _n4 _m3 _m4 =>
 K0 ⟨0, 0, 0, 0, 0, (ByteArray.mk #[]), (lst true [])⟩ false _a3 _a4 _n3 _n4 _m3 _m4))
 (K0 ⟨_x1.Kind, x1.at', x1.kind, 0, 0, (ByteArray.mk #[]), (lst true [])⟩ true _a1 _a2 _n1 _n2 _m1 _m2))
 (br (_x1.Kind == (3 : Int))
 (as_check_place ((look (PV.agg [.str _x1.Table, .str _x1.Name]) _m2).getD (PV.agg [.int .i64 0, .int .i64 0, .int .i64 0])) fun x8 =>
 br (x8.many == (0 : Int))
 (T.f_cc_fails 82 _x1.At _a1 _a2 _n1 _n2 _m1 _m2
 (fun _a5 _a6 _n5 _n6 _m5 _m6 =>
 K0 ⟨0, 0, 0, 0, 0, (ByteArray.mk #[]), (lst true [])⟩ false _a5 _a6 _n5 _n6 _m5 _m6))
 (br (decide (x8.many > (1 : Int)))
 (T.f_cc_fails 81 _x1.At _a1 _a2 _n1 _n2 _m1 _m2
 (fun _a7 _a8 _n7 _n8 _m7 _m8 =>
 K0 ⟨0, 0, 0, 0, 0, (ByteArray.mk #[]), (lst true [])⟩ false _a7 _a8 _n7 _n8 _m7 _m8))
 (K0 ⟨_x1.Kind, x8.at', x8.kind, 0, 0, (ByteArray.mk #[]), (lst true [])⟩ true _a1 _a2 _n1 _n2 _m1 _m2)))
 (L_cc_term_2 T T.fuel _x1.Kids (_x1.Kids.n : Int) 0 _a1 _a2 _n1 _n2 _m1 _m2 _x1 0 0 0 0 0 (ByteArray.mk #[]) _x1.Kind _x1.Op 0 0 0 (ByteArray.mk #[]) ([])
 (fun a85 a86 n87 n88 m89 m90 n91 n92 n93 n94 n95 s96 =>
 K0 ⟨n91, n92, n93, n94, n95, s96, (lst true [])⟩ false a85 a86 n87 n88 m89 m90)
 (fun a97 a98 n99 n100 m101 m102 x103 n104 n105 n106 n107 n108 s109 n110 n111 n112 n113 n114 s115 r116 =>
 T.f_check_wanted x103.Kind
 (fun _n9 =>
 L_cc_term_4 T T.fuel (r116.length : Int) 0 a97 a98 n99 n100 m101 m102 x103 n104 n105 n106 n107 n108 s109 n110 n111 n112 n113 n114 s115 r116 _n9
 (fun a184 a185 n186 n187 m188 m189 n190 n191 n192 n193 n194 s195 =>
 K0 ⟨n190, n191, n192, n193, n194, s195, (lst true [])⟩ false a184 a185 n186 n187 m188 m189)
 (fun a196 a197 n198 n199 m200 m201 x202 n203 n204 n205 n206 n207 s208 n209 n210 n211 n212 n213 s214 r215 =>
 br (x202.Kind == (6 : Int))
 (T.f_check_unlike r215
 (fun _b1 _r1 =>
 br _b1
 (T.f_cc_fails 11 x202.At a196 a197 n198 n199 m200 m201
 (fun _a9 _a10 _n10 _n11 _m9 _m10 =>
 K0 ⟨0, 0, 0, 0, 0, (ByteArray.mk #[]), (lst true [])⟩ false _a9 _a10 _n10 _n11 _m9 _m10))
 (T.f_check_typeOf x202.Kind _r1
 (fun _n12 _r2 =>
 K0 ⟨n209, n210, _n12, n212, n213, s214, (lst true _r2)⟩ true a196 a197 n198 n199 m200 m201))))
 (T.f_check_typeOf x202.Kind r215
 (fun _n13 _r3 =>
 K0 ⟨n209, n210, _n13, n212, n213, s214, (lst true _r3)⟩ true a196 a197 n198 n199 m200 m201))))
 (L_cc_term_4a T T.fuel (r116.length : Int) 0 a97 a98 n99 n100 m101 m102 x103 n104 n105 n106 n107 n108 s109 n110 n111 n112 n113 n114 s115 r116
 (fun a274 a275 n276 n277 m278 m279 x280 n281 n282 n283 n284 n285 s286 n287 n288 n289 n290 n291 s292 r293 =>
 br (x280.Kind == (6 : Int))
 (T.f_check_unlike r293
 (fun _b2 _r4 =>
 br _b2
 (T.f_cc_fails 11 x280.At a274 a275 n276 n277 m278 m279
 (fun _a11 _a12 _n14 _n15 _m11 _m12 =>
 K0 ⟨0, 0, 0, 0, 0, (ByteArray.mk #[]), (lst true [])⟩ false _a11 _a12 _n14 _n15 _m11 _m12))
 (T.f_check_typeOf x280.Kind _r4
 (fun _n16 _r5 =>
 K0 ⟨n287, n288, _n16, n290, n291, s292, (lst true _r5)⟩ true a274 a275 n276 n277 m278 m279))))
 (T.f_check_typeOf x280.Kind r293
 (fun _n17 _r6 =>
 K0 ⟨n287, n288, _n17, n290, n291, s292, (lst true _r6)⟩ true a274 a275 n276 n277 m278 m279))))))))
def F_check_wanted (T : Tab) (_n1 : Int) (K0 : Int → Prop) (K1 : Prop) : Prop :=
 br (_n1 == (4 : Int))
 (T.f_check_wanted_1 1
 (fun _n2 =>
 K0 _n2))
 (br (_n1 == (5 : Int))
 (T.f_check_wanted_1 1
 (fun _n3 =>
 K0 _n3))
 (br (_n1 == (12 : Int))
 (T.f_check_wanted_1 1
 (fun _n4 =>
 K0 _n4))
 (br (_n1 == (8 : Int))
 (T.f_check_wanted_1 2
 (fun _n5 =>
 K0 _n5))
 (br (_n1 == (9 : Int))
 (T.f_check_wanted_1 2
 (fun _n6 =>
 K0 _n6))
 (br (_n1 == (10 : Int))
 (T.f_check_wanted_1 2
 (fun _n7 =>
 K0 _n7))
 (K1 ))))))
def F_check_wanted_1 (T : Tab) (_n1 : Int) (K0 : Int → Prop) : Prop :=
 K0 _n1
def F_check_wanted_1_1 (T : Tab) (_n1 : Int) (_n2 : Int) (K0 : Bool → Int → Prop) : Prop :=
 br (_n1 == _n2)
 (K0 true _n2)
 (K0 (_n1 == (0 : Int)) _n2)
def F_check_unlike (T : Tab) (_r1 : List PV) (K0 : Bool → (List PV) → Prop) : Prop :=
 0 ≤ (0 : Int) ∧ (0 : Int) < (_r1.length : Int) ∧
 as_i_Term (_r1.getD 0 .nilp) fun x1 =>
 0 ≤ (1 : Int) ∧ (1 : Int) < (_r1.length : Int) ∧
 as_i_Term (_r1.getD 1 .nilp) fun x2 =>
 br (x1.Type_ != x2.Type_)
 (0 ≤ (0 : Int) ∧ (0 : Int) < (_r1.length : Int) ∧
 as_i_Term (_r1.getD 0 .nilp) fun x3 =>
 br (x3.Type_ != (0 : Int))
 (0 ≤ (1 : Int) ∧ (1 : Int) < (_r1.length : Int) ∧
 as_i_Term (_r1.getD 1 .nilp) fun x4 =>
 K0 (x4.Type_ != (0 : Int)) _r1)
 (K0 false _r1))
 (K0 false _r1)
def F_check_typeOf (T : Tab) (_n1 : Int) (_r1 : List PV) (K0 : Int → (List PV) → Prop) : Prop :=
 br (_n1 == (4 : Int))
 (K0 1 _r1)
 (br (_n1 == (5 : Int))
 (K0 1 _r1)
 (br (_n1 == (11 : Int))
 (K0 1 _r1)
 (br (_n1 == (12 : Int))
 (K0 1 _r1)
 (br (_n1 == (13 : Int))
 (0 ≤ (0 : Int) ∧ (0 : Int) < (_r1.length : Int) ∧
 as_i_Term (_r1.getD 0 .nilp) fun x1 =>
 K0 x1.Type_ _r1)
 (br (_n1 == (14 : Int))
 (0 ≤ (0 : Int) ∧ (0 : Int) < (_r1.length : Int) ∧
 as_i_Term (_r1.getD 0 .nilp) fun x2 =>
 K0 x2.Type_ _r1)
 (K0 2 _r1))))))
def F_check_wanted_2 (T : Tab) (_n1 : Int) (K0 : Prop) : Prop :=
 K0
abbrev YL_cc_insert_0 := Arr → Int → Int → Arr → Arr → Int → Int → (List (PV × PV)) → (List (PV × PV)) → Int → Arr → Arr → Arr → Bool → (List PV) → S_i_Table → (Arr → Arr → Int → Int → (List (PV × PV)) → (List (PV × PV)) → Int → Arr → Arr → Arr → Bool → (List PV) → Prop) → (Arr → Arr → Int → Int → (List (PV × PV)) → (List (PV × PV)) → Int → Arr → Arr → Arr → Bool → (List PV) → Prop) → Prop
def B_cc_insert_0 (T : Tab) (R : YL_cc_insert_0) (_a1 : Arr) (_n1 : Int) (_n2 : Int) (_a2 : Arr) (_a3 : Arr) (_n3 : Int) (_n4 : Int) (_m1 : List (PV × PV)) (_m2 : List (PV × PV)) (_n5 : Int) (_a4 : Arr) (_a5 : Arr) (_a6 : Arr) (_b1 : Bool) (_r1 : List PV) (_x1 : S_i_Table) (K0 : Arr → Arr → Int → Int → (List (PV × PV)) → (List (PV × PV)) → Int → Arr → Arr → Arr → Bool → (List PV) → Prop) (K1 : Arr → Arr → Int → Int → (List (PV × PV)) → (List (PV × PV)) → Int → Arr → Arr → Arr → Bool → (List PV) → Prop) : Prop :=
 br (decide (_n2 < _n1))
 (0 ≤ _n2 ∧ _n2 < (_a1.n : Int) ∧
 as_i_Expr (_a1.g (_n2.toNat)) fun x41 =>
 0 ≤ _n2 ∧ _n2 < (_x1.Columns.n : Int) ∧
 as_i_Column (_x1.Columns.g (_n2.toNat)) fun x42 =>
 T.f_cc_of x42.Type_ _a2 _a3 _n3 _n4 _m1 _m2
 (fun _a7 _a8 _n6 _n7 _m3 _m4 _n8 =>
 T.f_cc_of_1 x41 _a7 _a8 _n6 _n7 _m3 _m4 _n8
 (fun _x2 _b2 _a9 _a10 _n9 _n10 _m5 _m6 _n11 =>
 br (!_b2)
 (K0 _a9 _a10 _n9 _n10 _m5 _m6 _n5 _a4 _a5 _a6 _b1 _r1)
 ((_r1.length + 1) * 80 ≤ 140737488355328 ∧
 0 ≤ (_r1.length : Int) ∧ (_r1.length : Int) < (((_r1 ++ ([(PV.agg [.int .i64 0, .int .i64 0, .int .i64 0, .int .i64 0, .int .i64 0, .str (ByteArray.mk #[]), .arr ((lst true []).m) ((lst true []).n) ((lst true []).g)])])).length : Nat) : Int) ∧
 R _a1 _n1 (W (_n2 + 1)) _a9 _a10 _n9 _n10 _m5 _m6 _n5 _a4 _a5 _a6 _b1 ((_r1 ++ ([(PV.agg [.int .i64 0, .int .i64 0, .int .i64 0, .int .i64 0, .int .i64 0, .str (ByteArray.mk #[]), .arr ((lst true []).m) ((lst true []).n) ((lst true []).g)])])).set ((_r1.length : Int).toNat) (PV.agg (p_i_Term _x2))) _x1 K0 K1))))
 (K1 _a2 _a3 _n3 _n4 _m1 _m2 _n5 _a4 _a5 _a6 _b1 _r1)
def L_cc_insert_0 (T : Tab) : Nat → YL_cc_insert_0
  | 0 => fun _ _ _ _ _ _ _ _ _ _ _ _ _ _ _ _ _ _ => False
  | n + 1 => B_cc_insert_0 T (L_cc_insert_0 T n)
def F_cc_insert (T : Tab) (_x1 : S_i_Stmt) (_x2 : S_i_Table) (_a1 : Arr) (_a2 : Arr) (_n1 : Int) (_n2 : Int) (_m1 : List (PV × PV)) (_m2 : List (PV × PV)) (_n3 : Int) (_a3 : Arr) (_a4 : Arr) (_a5 : Arr) (_b1 : Bool) (K0 : Arr → Arr → Int → Int → (List (PV × PV)) → (List (PV × PV)) → Int → Arr → Arr → Arr → Bool → Prop) (K1 : Bool → Arr → Arr → Int → Int → (List (PV × PV)) → (List (PV × PV)) → Int → Arr → Arr → Arr → Bool → (List PV) → Prop) : Prop :=
 br ((_x1.Items.n : Int) != (_x2.Columns.n : Int))
 (T.f_cc_fails 131 _x1.At _a1 _a2 _n1 _n2 _m1 _m2
 (fun _a6 _a7 _n4 _n5 _m3 _m4 =>
 K0 _a6 _a7 _n4 _n5 _m3 _m4 _n3 _a3 _a4 _a5 _b1))
 (L_cc_insert_0 T T.fuel _x1.Items (_x1.Items.n : Int) 0 _a1 _a2 _n1 _n2 _m1 _m2 _n3 _a3 _a4 _a5 _b1 ([]) _x2
 (fun a75 a76 n77 n78 m79 m80 n81 a82 a83 a84 b85 r86 =>
 K1 false a75 a76 n77 n78 m79 m80 n81 a82 a83 a84 b85 r86)
 (fun a87 a88 n89 n90 m91 m92 n93 a94 a95 a96 b97 r98 =>
 K1 true a87 a88 n89 n90 m91 m92 n93 a94 a95 a96 b97 r98))
abbrev YL_cc_update_0 := Arr → Int → Int → Arr → Arr → Int → Int → (List (PV × PV)) → (List (PV × PV)) → Int → Arr → Arr → Arr → Bool → (List PV) → (List PV) → S_i_Table → (List (PV × PV)) → (Arr → Arr → Int → Int → (List (PV × PV)) → (List (PV × PV)) → Int → Arr → Arr → Arr → Bool → (List PV) → (List PV) → Prop) → (Arr → Arr → Int → Int → (List (PV × PV)) → (List (PV × PV)) → Int → Arr → Arr → Arr → Bool → (List PV) → (List PV) → Prop) → Prop
def B_cc_update_0 (T : Tab) (R : YL_cc_update_0) (_a1 : Arr) (_n1 : Int) (_n2 : Int) (_a2 : Arr) (_a3 : Arr) (_n3 : Int) (_n4 : Int) (_m1 : List (PV × PV)) (_m2 : List (PV × PV)) (_n5 : Int) (_a4 : Arr) (_a5 : Arr) (_a6 : Arr) (_b1 : Bool) (_r1 : List PV) (_r2 : List PV) (_x1 : S_i_Table) (_m3 : List (PV × PV)) (K0 : Arr → Arr → Int → Int → (List (PV × PV)) → (List (PV × PV)) → Int → Arr → Arr → Arr → Bool → (List PV) → (List PV) → Prop) (K1 : Arr → Arr → Int → Int → (List (PV × PV)) → (List (PV × PV)) → Int → Arr → Arr → Arr → Bool → (List PV) → (List PV) → Prop) : Prop :=
 br (decide (_n2 < _n1))
 (0 ≤ _n2 ∧ _n2 < (_a1.n : Int) ∧
 as_i_Set (_a1.g (_n2.toNat)) fun x52 =>
 T.f_check_columnOf _x1 x52.Name
 (fun _n6 =>
 br (decide (_n6 < (0 : Int)))
 (T.f_cc_fails 82 x52.At _a2 _a3 _n3 _n4 _m1 _m2
 (fun _a7 _a8 _n7 _n8 _m4 _m5 =>
 K0 _a7 _a8 _n7 _n8 _m4 _m5 _n5 _a4 _a5 _a6 _b1 _r1 _r2))
 (asI_i64 ((look (PV.int .i64 _n6) _m3).getD (PV.int .i64 0)) fun n60 =>
 asI_i64 ((look (PV.int .i64 _n6) (setK (PV.int .i64 _n6) (PV.int .i64 (W (n60 + 1))) _m3)).getD (PV.int .i64 0)) fun n61 =>
 br (decide (n61 > (1 : Int)))
 (T.f_cc_fails 81 x52.At _a2 _a3 _n3 _n4 _m1 _m2
 (fun _a9 _a10 _n9 _n10 _m6 _m7 =>
 K0 _a9 _a10 _n9 _n10 _m6 _m7 _n5 _a4 _a5 _a6 _b1 _r1 _r2))
 (0 ≤ _n6 ∧ _n6 < (_x1.Columns.n : Int) ∧
 as_i_Column (_x1.Columns.g (_n6.toNat)) fun x68 =>
 T.f_cc_of x68.Type_ _a2 _a3 _n3 _n4 _m1 _m2
 (fun _a11 _a12 _n11 _n12 _m8 _m9 _n13 =>
 T.f_cc_of_1 ⟨x52.Expr_Kind, x52.Expr_Op, x52.Expr_Value_Kind, x52.Expr_Value_Int, x52.Expr_Value_Text, x52.Expr_Table, x52.Expr_Name, x52.Expr_Kids, x52.Expr_At⟩ _a11 _a12 _n11 _n12 _m8 _m9 _n13
 (fun _x2 _b2 _a13 _a14 _n14 _n15 _m10 _m11 _n16 =>
 br (!_b2)
 (K0 _a13 _a14 _n14 _n15 _m10 _m11 _n5 _a4 _a5 _a6 _b1 _r1 _r2)
 ((_r1.length + 1) * 80 ≤ 140737488355328 ∧
 (_r2.length + 1) * 8 ≤ 140737488355328 ∧
 R _a1 _n1 (W (_n2 + 1)) _a13 _a14 _n14 _n15 _m10 _m11 _n5 _a4 _a5 _a6 _b1 (_r1 ++ ([(PV.agg (p_i_Term _x2))])) (_r2 ++ ([(PV.int .i64 _n6)])) _x1 (setK (PV.int .i64 _n6) (PV.int .i64 (W (n60 + 1))) _m3) K0 K1)))))))
 (K1 _a2 _a3 _n3 _n4 _m1 _m2 _n5 _a4 _a5 _a6 _b1 _r1 _r2)
def L_cc_update_0 (T : Tab) : Nat → YL_cc_update_0
  | 0 => fun _ _ _ _ _ _ _ _ _ _ _ _ _ _ _ _ _ _ _ _ => False
  | n + 1 => B_cc_update_0 T (L_cc_update_0 T n)
def F_cc_update (T : Tab) (_x1 : S_i_Stmt) (_x2 : S_i_Table) (_a1 : Arr) (_a2 : Arr) (_n1 : Int) (_n2 : Int) (_m1 : List (PV × PV)) (_m2 : List (PV × PV)) (_n3 : Int) (_a3 : Arr) (_a4 : Arr) (_a5 : Arr) (_b1 : Bool) (K0 : Bool → Arr → Arr → Int → Int → (List (PV × PV)) → (List (PV × PV)) → Int → Arr → Arr → Arr → Bool → (List PV) → (List PV) → Prop) : Prop :=
 L_cc_update_0 T T.fuel _x1.Sets (_x1.Sets.n : Int) 0 _a1 _a2 _n1 _n2 _m1 _m2 _n3 _a3 _a4 _a5 _b1 ([]) ([]) _x2 ([])
 (fun a103 a104 n105 n106 m107 m108 n109 a110 a111 a112 b113 r114 r115 =>
 K0 false a103 a104 n105 n106 m107 m108 n109 a110 a111 a112 b113 r114 r115)
 (fun a116 a117 n118 n119 m120 m121 n122 a123 a124 a125 b126 r127 r128 =>
 K0 true a116 a117 n118 n119 m120 m121 n122 a123 a124 a125 b126 r127 r128)
abbrev YL_check_columnOf_0 := ByteArray → Arr → Int → Int → (Int → Prop) → Prop → Prop
def B_check_columnOf_0 (T : Tab) (R : YL_check_columnOf_0) (_s1 : ByteArray) (_a1 : Arr) (_n1 : Int) (_n2 : Int) (K0 : Int → Prop) (K1 : Prop) : Prop :=
 br (decide (_n2 < _n1))
 (0 ≤ _n2 ∧ _n2 < (_a1.n : Int) ∧
 as_i_Column (_a1.g (_n2.toNat)) fun x6 =>
 br (x6.Name.toList == _s1.toList)
 (K0 _n2)
 (R _s1 _a1 _n1 (W (_n2 + 1)) K0 K1))
 (K1 )
def L_check_columnOf_0 (T : Tab) : Nat → YL_check_columnOf_0
  | 0 => fun _ _ _ _ _ _ => False
  | n + 1 => B_check_columnOf_0 T (L_check_columnOf_0 T n)
def F_check_columnOf (T : Tab) (_x1 : S_i_Table) (_s1 : ByteArray) (K0 : Int → Prop) : Prop :=
 L_check_columnOf_0 T T.fuel _s1 _x1.Columns (_x1.Columns.n : Int) 0
 (fun n11 =>
 K0 n11)
 (K0 (-1))
abbrev YL_cc_choose_2 := Int → Int → Arr → Arr → Int → Int → (List (PV × PV)) → (List (PV × PV)) → Int → Arr → Arr → Arr → Bool → (List PV) → (List PV) → (List PV) → (List PV) → (List PV) → (Arr → Arr → Int → Int → (List (PV × PV)) → (List (PV × PV)) → Int → Arr → Arr → Arr → Bool → (List PV) → (List PV) → (List PV) → (List PV) → (List PV) → Prop) → Prop
def B_cc_choose_2 (T : Tab) (R : YL_cc_choose_2) (_n1 : Int) (_n2 : Int) (_a1 : Arr) (_a2 : Arr) (_n3 : Int) (_n4 : Int) (_m1 : List (PV × PV)) (_m2 : List (PV × PV)) (_n5 : Int) (_a3 : Arr) (_a4 : Arr) (_a5 : Arr) (_b1 : Bool) (_r1 : List PV) (_r2 : List PV) (_r3 : List PV) (_r4 : List PV) (_r5 : List PV) (K0 : Arr → Arr → Int → Int → (List (PV × PV)) → (List (PV × PV)) → Int → Arr → Arr → Arr → Bool → (List PV) → (List PV) → (List PV) → (List PV) → (List PV) → Prop) : Prop :=
 br (decide (_n2 < _n1))
 (0 ≤ _n2 ∧ _n2 < (_r1.length : Int) ∧
 as_i_Term (_r1.getD _n2.toNat .nilp) fun x162 =>
 (_r5.length + 1) * 8 ≤ 140737488355328 ∧
 R _n1 (W (_n2 + 1)) _a1 _a2 _n3 _n4 _m1 _m2 _n5 _a3 _a4 _a5 _b1 _r1 _r2 _r3 _r4 (_r5 ++ ([(PV.int .i64 x162.Type_)])) K0)
 (K0 _a1 _a2 _n3 _n4 _m1 _m2 _n5 _a3 _a4 _a5 _b1 _r1 _r2 _r3 _r4 _r5)
def L_cc_choose_2 (T : Tab) : Nat → YL_cc_choose_2
  | 0 => fun _ _ _ _ _ _ _ _ _ _ _ _ _ _ _ _ _ _ _ => False
  | n + 1 => B_cc_choose_2 T (L_cc_choose_2 T n)
abbrev YL_cc_choose_0 := Arr → Int → Int → Arr → Arr → Int → Int → (List (PV × PV)) → (List (PV × PV)) → Int → Arr → Arr → Arr → Bool → (List PV) → (List PV) → (List PV) → S_i_Stmt → (Arr → Arr → Int → Int → (List (PV × PV)) → (List (PV × PV)) → Int → Arr → Arr → Arr → Bool → (List PV) → (List PV) → (List PV) → Prop) → (Arr → Arr → Int → Int → (List (PV × PV)) → (List (PV × PV)) → Int → Arr → Arr → Arr → Bool → (List PV) → (List PV) → (List PV) → S_i_Stmt → Prop) → Prop
def B_cc_choose_0 (T : Tab) (R : YL_cc_choose_0) (_a1 : Arr) (_n1 : Int) (_n2 : Int) (_a2 : Arr) (_a3 : Arr) (_n3 : Int) (_n4 : Int) (_m1 : List (PV × PV)) (_m2 : List (PV × PV)) (_n5 : Int) (_a4 : Arr) (_a5 : Arr) (_a6 : Arr) (_b1 : Bool) (_r1 : List PV) (_r2 : List PV) (_r3 : List PV) (_x1 : S_i_Stmt) (K0 : Arr → Arr → Int → Int → (List (PV × PV)) → (List (PV × PV)) → Int → Arr → Arr → Arr → Bool → (List PV) → (List PV) → (List PV) → Prop) (K1 : Arr → Arr → Int → Int → (List (PV × PV)) → (List (PV × PV)) → Int → Arr → Arr → Arr → Bool → (List PV) → (List PV) → (List PV) → S_i_Stmt → Prop) : Prop :=
 br (decide (_n2 < _n1))
 (0 ≤ _n2 ∧ _n2 < (_a1.n : Int) ∧
 as_i_Sort (_a1.g (_n2.toNat)) fun x83 =>
 br (decide (x83.Item < (1 : Int)))
 (T.f_cc_fails 82 x83.At _a2 _a3 _n3 _n4 _m1 _m2
 (fun _a7 _a8 _n6 _n7 _m3 _m4 =>
 K0 _a7 _a8 _n6 _n7 _m3 _m4 _n5 _a4 _a5 _a6 _b1 _r1 _r2 _r3))
 (br (decide (x83.Item > (_r1.length : Int)))
 (T.f_cc_fails 82 x83.At _a2 _a3 _n3 _n4 _m1 _m2
 (fun _a9 _a10 _n8 _n9 _m5 _m6 =>
 K0 _a9 _a10 _n8 _n9 _m5 _m6 _n5 _a4 _a5 _a6 _b1 _r1 _r2 _r3))
 ((_r3.length + 1) * 24 ≤ 140737488355328 ∧
 R _a1 _n1 (W (_n2 + 1)) _a2 _a3 _n3 _n4 _m1 _m2 _n5 _a4 _a5 _a6 _b1 _r1 _r2 (_r3 ++ ([(PV.agg [.int .i64 x83.Item, .bool x83.Desc, .int .i64 0])])) _x1 K0 K1)))
 (K1 _a2 _a3 _n3 _n4 _m1 _m2 _n5 _a4 _a5 _a6 _b1 _r1 _r2 _r3 _x1)
def L_cc_choose_0 (T : Tab) : Nat → YL_cc_choose_0
  | 0 => fun _ _ _ _ _ _ _ _ _ _ _ _ _ _ _ _ _ _ _ _ => False
  | n + 1 => B_cc_choose_0 T (L_cc_choose_0 T n)
def F_cc_choose (T : Tab) (_x1 : S_i_Stmt) (_a1 : Arr) (_a2 : Arr) (_n1 : Int) (_n2 : Int) (_m1 : List (PV × PV)) (_m2 : List (PV × PV)) (_n3 : Int) (_a3 : Arr) (_a4 : Arr) (_a5 : Arr) (_b1 : Bool) (K0 : Arr → Arr → Int → Int → (List (PV × PV)) → (List (PV × PV)) → Int → Arr → Arr → Arr → Bool → (List PV) → Prop) (K1 : Arr → Arr → Int → Int → (List (PV × PV)) → (List (PV × PV)) → Int → Arr → Arr → Arr → Bool → (List PV) → (List PV) → Prop) (K2 : Arr → Arr → Int → Int → (List (PV × PV)) → (List (PV × PV)) → Int → Arr → Arr → Arr → Bool → (List PV) → (List PV) → (List PV) → Prop) (K3 : Arr → Arr → Int → Int → (List (PV × PV)) → (List (PV × PV)) → Int → Arr → Arr → Arr → Bool → (List PV) → (List PV) → (List PV) → (List PV) → (List PV) → Prop) : Prop :=
 T.f_cc_groups _x1 _a1 _a2 _n1 _n2 _m1 _m2 _n3 _a3 _a4 _a5 _b1
 (fun _a6 _a7 _n4 _n5 _m3 _m4 _n6 _a8 _a9 _a10 _b2 _r1 =>
 K0 _a6 _a7 _n4 _n5 _m3 _m4 _n6 _a8 _a9 _a10 _b2 _r1)
 (fun _a11 _a12 _n7 _n8 _m5 _m6 _n9 _a13 _a14 _a15 _b3 _r2 _m7 =>
 br _x1.Star
 (T.f_cc_star _x1 _a11 _a12 _n7 _n8 _m5 _m6 _n9 _a13 _a14 _a15 _b3 _r2
 (fun _a16 _a17 _n10 _n11 _m8 _m9 _n12 _a18 _a19 _a20 _b4 _r3 =>
 K0 _a16 _a17 _n10 _n11 _m8 _m9 _n12 _a18 _a19 _a20 _b4 _r3)
 (fun _b5 _a21 _a22 _n13 _n14 _m10 _m11 _n15 _a23 _a24 _a25 _b6 _r4 _r5 =>
 br (!_b5)
 (K1 _a21 _a22 _n13 _n14 _m10 _m11 _n15 _a23 _a24 _a25 _b6 _r5 _r4)
 (L_cc_choose_0 T T.fuel _x1.Sorts (_x1.Sorts.n : Int) 0 _a21 _a22 _n13 _n14 _m10 _m11 _n15 _a23 _a24 _a25 _b6 _r5 _r4 ([]) _x1
 (fun a114 a115 n116 n117 m118 m119 n120 a121 a122 a123 b124 r125 r126 r127 =>
 K2 a114 a115 n116 n117 m118 m119 n120 a121 a122 a123 b124 r125 r126 r127)
 (fun a128 a129 n130 n131 m132 m133 n134 a135 a136 a137 b138 r139 r140 r141 x142 =>
 (∀ i, i < x142.Limit.n → pvSize (x142.Limit.g i) = 1) ∧ ((List.range x142.Limit.n).map x142.Limit.g).length * 8 ≤ 140737488355328 ∧
 L_cc_choose_2 T T.fuel (r139.length : Int) 0 a128 a129 n130 n131 m132 m133 n134 a135 a136 a137 b138 r139 r140 r141 ((List.range x142.Limit.n).map x142.Limit.g) ([])
 (fun a181 a182 n183 n184 m185 m186 n187 a188 a189 a190 b191 r192 r193 r194 r195 r196 =>
 K3 a181 a182 n183 n184 m185 m186 n187 a188 a189 a190 b191 r192 r193 r194 r195 r196)))))
 (T.f_cc_items _x1 _a11 _a12 _n7 _n8 _m5 _m6 _n9 _a13 _a14 _a15 _b3 _r2 _m7
 (fun _b7 _a26 _a27 _n16 _n17 _m12 _m13 _n18 _a28 _a29 _a30 _b8 _r6 _m14 _r7 =>
 br (!_b7)
 (K1 _a26 _a27 _n16 _n17 _m12 _m13 _n18 _a28 _a29 _a30 _b8 _r7 _r6)
 (L_cc_choose_0 T T.fuel _x1.Sorts (_x1.Sorts.n : Int) 0 _a26 _a27 _n16 _n17 _m12 _m13 _n18 _a28 _a29 _a30 _b8 _r7 _r6 ([]) _x1
 (fun a212 a213 n214 n215 m216 m217 n218 a219 a220 a221 b222 r223 r224 r225 =>
 K2 a212 a213 n214 n215 m216 m217 n218 a219 a220 a221 b222 r223 r224 r225)
 (fun a226 a227 n228 n229 m230 m231 n232 a233 a234 a235 b236 r237 r238 r239 x240 =>
 (∀ i, i < x240.Limit.n → pvSize (x240.Limit.g i) = 1) ∧ ((List.range x240.Limit.n).map x240.Limit.g).length * 8 ≤ 140737488355328 ∧
 L_cc_choose_2 T T.fuel (r237.length : Int) 0 a226 a227 n228 n229 m230 m231 n232 a233 a234 a235 b236 r237 r238 r239 ((List.range x240.Limit.n).map x240.Limit.g) ([])
 (fun a241 a242 n243 n244 m245 m246 n247 a248 a249 a250 b251 r252 r253 r254 r255 r256 =>
 K3 a241 a242 n243 n244 m245 m246 n247 a248 a249 a250 b251 r252 r253 r254 r255 r256))))))
abbrev YL_cc_groups_0 := Arr → Int → Int → Arr → Arr → Int → Int → (List (PV × PV)) → (List (PV × PV)) → Int → Arr → Arr → Arr → Bool → (List PV) → (List (PV × PV)) → (Arr → Arr → Int → Int → (List (PV × PV)) → (List (PV × PV)) → Int → Arr → Arr → Arr → Bool → (List PV) → Prop) → (Arr → Arr → Int → Int → (List (PV × PV)) → (List (PV × PV)) → Int → Arr → Arr → Arr → Bool → (List PV) → (List (PV × PV)) → Prop) → Prop
def B_cc_groups_0 (T : Tab) (R : YL_cc_groups_0) (_a1 : Arr) (_n1 : Int) (_n2 : Int) (_a2 : Arr) (_a3 : Arr) (_n3 : Int) (_n4 : Int) (_m1 : List (PV × PV)) (_m2 : List (PV × PV)) (_n5 : Int) (_a4 : Arr) (_a5 : Arr) (_a6 : Arr) (_b1 : Bool) (_r1 : List PV) (_m3 : List (PV × PV)) (K0 : Arr → Arr → Int → Int → (List (PV × PV)) → (List (PV × PV)) → Int → Arr → Arr → Arr → Bool → (List PV) → Prop) (K1 : Arr → Arr → Int → Int → (List (PV × PV)) → (List (PV × PV)) → Int → Arr → Arr → Arr → Bool → (List PV) → (List (PV × PV)) → Prop) : Prop :=
 br (decide (_n2 < _n1))
 (0 ≤ _n2 ∧ _n2 < (_a1.n : Int) ∧
 as_i_Expr (_a1.g (_n2.toNat)) fun x34 =>
 T.f_cc_term x34 _a2 _a3 _n3 _n4 _m1 _m2
 (fun _x1 _b2 _a7 _a8 _n6 _n7 _m4 _m5 =>
 br (!_b2)
 (K0 _a7 _a8 _n6 _n7 _m4 _m5 _n5 _a4 _a5 _a6 _b1 _r1)
 (asI_i64 ((look (PV.int .i64 _x1.Num) _m3).getD (PV.int .i64 0)) fun n43 =>
 asI_i64 ((look (PV.int .i64 _x1.Num) (setK (PV.int .i64 _x1.Num) (PV.int .i64 (W (n43 + 1))) _m3)).getD (PV.int .i64 0)) fun n44 =>
 br (decide (n44 > (1 : Int)))
 (T.f_cc_fails 81 x34.At _a7 _a8 _n6 _n7 _m4 _m5
 (fun _a9 _a10 _n8 _n9 _m6 _m7 =>
 K0 _a9 _a10 _n8 _n9 _m6 _m7 _n5 _a4 _a5 _a6 _b1 _r1))
 ((_r1.length + 1) * 8 ≤ 140737488355328 ∧
 R _a1 _n1 (W (_n2 + 1)) _a7 _a8 _n6 _n7 _m4 _m5 _n5 _a4 _a5 _a6 _b1 (_r1 ++ ([(PV.int .i64 _x1.Num)])) (setK (PV.int .i64 _x1.Num) (PV.int .i64 (W (n43 + 1))) _m3) K0 K1))))
 (K1 _a2 _a3 _n3 _n4 _m1 _m2 _n5 _a4 _a5 _a6 _b1 _r1 _m3)
def L_cc_groups_0 (T : Tab) : Nat → YL_cc_groups_0
  | 0 => fun _ _ _ _ _ _ _ _ _ _ _ _ _ _ _ _ _ _ => False
  | n + 1 => B_cc_groups_0 T (L_cc_groups_0 T n)
def F_cc_groups (T : Tab) (_x1 : S_i_Stmt) (_a1 : Arr) (_a2 : Arr) (_n1 : Int) (_n2 : Int) (_m1 : List (PV × PV)) (_m2 : List (PV × PV)) (_n3 : Int) (_a3 : Arr) (_a4 : Arr) (_a5 : Arr) (_b1 : Bool) (K0 : Arr → Arr → Int → Int → (List (PV × PV)) → (List (PV × PV)) → Int → Arr → Arr → Arr → Bool → (List PV) → Prop) (K1 : Arr → Arr → Int → Int → (List (PV × PV)) → (List (PV × PV)) → Int → Arr → Arr → Arr → Bool → (List PV) → (List (PV × PV)) → Prop) : Prop :=
 L_cc_groups_0 T T.fuel _x1.Groups (_x1.Groups.n : Int) 0 _a1 _a2 _n1 _n2 _m1 _m2 _n3 _a3 _a4 _a5 _b1 ([]) ([])
 (fun a67 a68 n69 n70 m71 m72 n73 a74 a75 a76 b77 r78 =>
 K0 a67 a68 n69 n70 m71 m72 n73 a74 a75 a76 b77 r78)
 (fun a79 a80 n81 n82 m83 m84 n85 a86 a87 a88 b89 r90 m91 =>
 K1 a79 a80 n81 n82 m83 m84 n85 a86 a87 a88 b89 r90 m91)
abbrev YL_cc_star_2 := Arr → Int → Int → Arr → Int → Int → Arr → Arr → Int → Int → (List (PV × PV)) → (List (PV × PV)) → Int → Arr → Arr → Arr → Bool → (List PV) → (List PV) → S_i_Stmt → (Arr → Int → Int → Arr → Arr → Int → Int → (List (PV × PV)) → (List (PV × PV)) → Int → Arr → Arr → Arr → Bool → (List PV) → (List PV) → S_i_Stmt → Prop) → Prop
def B_cc_star_2 (T : Tab) (R : YL_cc_star_2) (_a1 : Arr) (_n1 : Int) (_n2 : Int) (_a2 : Arr) (_n3 : Int) (_n4 : Int) (_a3 : Arr) (_a4 : Arr) (_n5 : Int) (_n6 : Int) (_m1 : List (PV × PV)) (_m2 : List (PV × PV)) (_n7 : Int) (_a5 : Arr) (_a6 : Arr) (_a7 : Arr) (_b1 : Bool) (_r1 : List PV) (_r2 : List PV) (_x1 : S_i_Stmt) (K0 : Arr → Int → Int → Arr → Arr → Int → Int → (List (PV × PV)) → (List (PV × PV)) → Int → Arr → Arr → Arr → Bool → (List PV) → (List PV) → S_i_Stmt → Prop) : Prop :=
 br (decide (_n4 < _n3))
 (0 ≤ _n4 ∧ _n4 < (_a2.n : Int) ∧
 as_i_Column (_a2.g (_n4.toNat)) fun x31 =>
 (_r2.length + 1) * 80 ≤ 140737488355328 ∧
 0 ≤ (_r2.length : Int) ∧ (_r2.length : Int) < (((_r2 ++ ([(PV.agg [.int .i64 0, .int .i64 0, .int .i64 0, .int .i64 0, .int .i64 0, .str (ByteArray.mk #[]), .arr ((lst true []).m) ((lst true []).n) ((lst true []).g)])])).length : Nat) : Int) ∧
 R _a1 _n1 _n2 _a2 _n3 (W (_n4 + 1)) _a3 _a4 _n5 _n6 _m1 _m2 _n7 _a5 _a6 _a7 _b1 _r1 ((_r2 ++ ([(PV.agg [.int .i64 0, .int .i64 0, .int .i64 0, .int .i64 0, .int .i64 0, .str (ByteArray.mk #[]), .arr ((lst true []).m) ((lst true []).n) ((lst true []).g)])])).set ((_r2.length : Int).toNat) (PV.agg [.int .i64 3, .int .i64 (_r2.length : Int), .int .i64 x31.Type_, .int .i64 0, .int .i64 0, .str (ByteArray.mk #[]), .arr ((lst true []).m) ((lst true []).n) ((lst true []).g)])) _x1 K0)
 (K0 _a1 _n1 _n2 _a3 _a4 _n5 _n6 _m1 _m2 _n7 _a5 _a6 _a7 _b1 _r1 _r2 _x1)
def L_cc_star_2 (T : Tab) : Nat → YL_cc_star_2
  | 0 => fun _ _ _ _ _ _ _ _ _ _ _ _ _ _ _ _ _ _ _ _ _ => False
  | n + 1 => B_cc_star_2 T (L_cc_star_2 T n)
abbrev YL_cc_star_0 := Arr → Int → Int → Arr → Arr → Int → Int → (List (PV × PV)) → (List (PV × PV)) → Int → Arr → Arr → Arr → Bool → (List PV) → (List PV) → S_i_Stmt → (Arr → Arr → Int → Int → (List (PV × PV)) → (List (PV × PV)) → Int → Arr → Arr → Arr → Bool → (List PV) → (List PV) → S_i_Stmt → Prop) → Prop
def B_cc_star_0 (T : Tab) (R : YL_cc_star_0) (_a1 : Arr) (_n1 : Int) (_n2 : Int) (_a2 : Arr) (_a3 : Arr) (_n3 : Int) (_n4 : Int) (_m1 : List (PV × PV)) (_m2 : List (PV × PV)) (_n5 : Int) (_a4 : Arr) (_a5 : Arr) (_a6 : Arr) (_b1 : Bool) (_r1 : List PV) (_r2 : List PV) (_x1 : S_i_Stmt) (K0 : Arr → Arr → Int → Int → (List (PV × PV)) → (List (PV × PV)) → Int → Arr → Arr → Arr → Bool → (List PV) → (List PV) → S_i_Stmt → Prop) : Prop :=
 br (decide (_n2 < _n1))
 (0 ≤ _n2 ∧ _n2 < (_a1.n : Int) ∧
 asI_i64 (_a1.g (_n2.toNat)) fun n86 =>
 0 ≤ n86 ∧ n86 < (_a2.n : Int) ∧
 as_i_Table (_a2.g (n86.toNat)) fun x87 =>
 L_cc_star_2 T T.fuel _a1 _n1 _n2 x87.Columns (x87.Columns.n : Int) 0 _a2 _a3 _n3 _n4 _m1 _m2 _n5 _a4 _a5 _a6 _b1 _r1 _r2 _x1
 (fun a88 n89 n90 a91 a92 n93 n94 m95 m96 n97 a98 a99 a100 b101 r102 r103 x104 =>
 R a88 n89 (W (n90 + 1)) a91 a92 n93 n94 m95 m96 n97 a98 a99 a100 b101 r102 r103 x104 K0))
 (K0 _a2 _a3 _n3 _n4 _m1 _m2 _n5 _a4 _a5 _a6 _b1 _r1 _r2 _x1)
def L_cc_star_0 (T : Tab) : Nat → YL_cc_star_0
  | 0 => fun _ _ _ _ _ _ _ _ _ _ _ _ _ _ _ _ _ _ => False
  | n + 1 => B_cc_star_0 T (L_cc_star_0 T n)
def F_cc_star (T : Tab) (_x1 : S_i_Stmt) (_a1 : Arr) (_a2 : Arr) (_n1 : Int) (_n2 : Int) (_m1 : List (PV × PV)) (_m2 : List (PV × PV)) (_n3 : Int) (_a3 : Arr) (_a4 : Arr) (_a5 : Arr) (_b1 : Bool) (_r1 : List PV) (K0 : Arr → Arr → Int → Int → (List (PV × PV)) → (List (PV × PV)) → Int → Arr → Arr → Arr → Bool → (List PV) → Prop) (K1 : Bool → Arr → Arr → Int → Int → (List (PV × PV)) → (List (PV × PV)) → Int → Arr → Arr → Arr → Bool → (List PV) → (List PV) → Prop) : Prop :=
 br (decide ((_x1.Groups.n : Int) > (0 : Int)))
 (0 ≤ (0 : Int) ∧ (0 : Int) < (_x1.Groups.n : Int) ∧
 as_i_Expr (_x1.Groups.g 0) fun x1 =>
 T.f_cc_fails 130 x1.At _a1 _a2 _n1 _n2 _m1 _m2
 (fun _a6 _a7 _n4 _n5 _m3 _m4 =>
 K0 _a6 _a7 _n4 _n5 _m3 _m4 _n3 _a3 _a4 _a5 _b1 _r1))
 (L_cc_star_0 T T.fuel _a3 (_a3.n : Int) 0 _a1 _a2 _n1 _n2 _m1 _m2 _n3 _a3 _a4 _a5 _b1 _r1 ([]) _x1
 (fun a122 a123 n124 n125 m126 m127 n128 a129 a130 a131 b132 r133 r134 x135 =>
 br (decide ((r134.length : Int) ≤ (16 : Int)))
 (K1 true a122 a123 n124 n125 m126 m127 n128 a129 a130 a131 b132 r133 r134)
 (T.f_cc_fails 131 x135.At a122 a123 n124 n125 m126 m127
 (fun _a8 _a9 _n6 _n7 _m5 _m6 =>
 K1 false _a8 _a9 _n6 _n7 _m5 _m6 n128 a129 a130 a131 b132 r133 r134))))
abbrev YL_cc_items_2 := Arr → Int → Int → Arr → Arr → Int → Int → (List (PV × PV)) → (List (PV × PV)) → Int → Arr → Arr → Arr → Bool → (List PV) → (List (PV × PV)) → (List PV) → (Arr → Arr → Int → Int → (List (PV × PV)) → (List (PV × PV)) → Int → Arr → Arr → Arr → Bool → (List PV) → (List (PV × PV)) → (List PV) → Prop) → (Arr → Arr → Int → Int → (List (PV × PV)) → (List (PV × PV)) → Int → Arr → Arr → Arr → Bool → (List PV) → (List (PV × PV)) → (List PV) → Prop) → Prop
def B_cc_items_2 (T : Tab) (R : YL_cc_items_2) (_a1 : Arr) (_n1 : Int) (_n2 : Int) (_a2 : Arr) (_a3 : Arr) (_n3 : Int) (_n4 : Int) (_m1 : List (PV × PV)) (_m2 : List (PV × PV)) (_n5 : Int) (_a4 : Arr) (_a5 : Arr) (_a6 : Arr) (_b1 : Bool) (_r1 : List PV) (_m3 : List (PV × PV)) (_r2 : List PV) (K0 : Arr → Arr → Int → Int → (List (PV × PV)) → (List (PV × PV)) → Int → Arr → Arr → Arr → Bool → (List PV) → (List (PV × PV)) → (List PV) → Prop) (K1 : Arr → Arr → Int → Int → (List (PV × PV)) → (List (PV × PV)) → Int → Arr → Arr → Arr → Bool → (List PV) → (List (PV × PV)) → (List PV) → Prop) : Prop :=
 br (decide (_n2 < _n1))
 (0 ≤ _n2 ∧ _n2 < (_a1.n : Int) ∧
 as_i_Expr (_a1.g (_n2.toNat)) fun x161 =>
 T.f_cc_term x161 _a2 _a3 _n3 _n4 _m1 _m2
 (fun _x1 _b2 _a7 _a8 _n6 _n7 _m4 _m5 =>
 br (!_b2)
 (K0 _a7 _a8 _n6 _n7 _m4 _m5 _n5 _a4 _a5 _a6 _b1 _r1 _m3 _r2)
 (br _b1
 (T.f_check_aggregate _x1.Op
 (fun _b3 =>
 br (!_b3)
 (br (_x1.Op != (3 : Int))
 (T.f_cc_fails 130 x161.At _a7 _a8 _n6 _n7 _m4 _m5
 (fun _a9 _a10 _n8 _n9 _m6 _m7 =>
 K0 _a9 _a10 _n8 _n9 _m6 _m7 _n5 _a4 _a5 _a6 _b1 _r1 _m3 _r2))
 (asI_i64 ((look (PV.int .i64 _x1.Num) _m3).getD (PV.int .i64 0)) fun n177 =>
 br (n177 == (0 : Int))
 (T.f_cc_fails 130 x161.At _a7 _a8 _n6 _n7 _m4 _m5
 (fun _a11 _a12 _n10 _n11 _m8 _m9 =>
 K0 _a11 _a12 _n10 _n11 _m8 _m9 _n5 _a4 _a5 _a6 _b1 _r1 _m3 _r2))
 ((_r2.length + 1) * 80 ≤ 140737488355328 ∧
 0 ≤ (_r2.length : Int) ∧ (_r2.length : Int) < (((_r2 ++ ([(PV.agg [.int .i64 0, .int .i64 0, .int .i64 0, .int .i64 0, .int .i64 0, .str (ByteArray.mk #[]), .arr ((lst true []).m) ((lst true []).n) ((lst true []).g)])])).length : Nat) : Int) ∧
 R _a1 _n1 (W (_n2 + 1)) _a7 _a8 _n6 _n7 _m4 _m5 _n5 _a4 _a5 _a6 _b1 _r1 _m3 ((_r2 ++ ([(PV.agg [.int .i64 0, .int .i64 0, .int .i64 0, .int .i64 0, .int .i64 0, .str (ByteArray.mk #[]), .arr ((lst true []).m) ((lst true []).n) ((lst true []).g)])])).set ((_r2.length : Int).toNat) (PV.agg (p_i_Term _x1))) K0 K1)))
 ((_r2.length + 1) * 80 ≤ 140737488355328 ∧
 0 ≤ (_r2.length : Int) ∧ (_r2.length : Int) < (((_r2 ++ ([(PV.agg [.int .i64 0, .int .i64 0, .int .i64 0, .int .i64 0, .int .i64 0, .str (ByteArray.mk #[]), .arr ((lst true []).m) ((lst true []).n) ((lst true []).g)])])).length : Nat) : Int) ∧
 R _a1 _n1 (W (_n2 + 1)) _a7 _a8 _n6 _n7 _m4 _m5 _n5 _a4 _a5 _a6 _b1 _r1 _m3 ((_r2 ++ ([(PV.agg [.int .i64 0, .int .i64 0, .int .i64 0, .int .i64 0, .int .i64 0, .str (ByteArray.mk #[]), .arr ((lst true []).m) ((lst true []).n) ((lst true []).g)])])).set ((_r2.length : Int).toNat) (PV.agg (p_i_Term _x1))) K0 K1)))
 ((_r2.length + 1) * 80 ≤ 140737488355328 ∧
 0 ≤ (_r2.length : Int) ∧ (_r2.length : Int) < (((_r2 ++ ([(PV.agg [.int .i64 0, .int .i64 0, .int .i64 0, .int .i64 0, .int .i64 0, .str (ByteArray.mk #[]), .arr ((lst true []).m) ((lst true []).n) ((lst true []).g)])])).length : Nat) : Int) ∧
 R _a1 _n1 (W (_n2 + 1)) _a7 _a8 _n6 _n7 _m4 _m5 _n5 _a4 _a5 _a6 _b1 _r1 _m3 ((_r2 ++ ([(PV.agg [.int .i64 0, .int .i64 0, .int .i64 0, .int .i64 0, .int .i64 0, .str (ByteArray.mk #[]), .arr ((lst true []).m) ((lst true []).n) ((lst true []).g)])])).set ((_r2.length : Int).toNat) (PV.agg (p_i_Term _x1))) K0 K1))))
 (K1 _a2 _a3 _n3 _n4 _m1 _m2 _n5 _a4 _a5 _a6 _b1 _r1 _m3 _r2)
def L_cc_items_2 (T : Tab) : Nat → YL_cc_items_2
  | 0 => fun _ _ _ _ _ _ _ _ _ _ _ _ _ _ _ _ _ _ _ => False
  | n + 1 => B_cc_items_2 T (L_cc_items_2 T n)
abbrev YL_cc_items_0 := Arr → Int → Int → Arr → Arr → Int → Int → (List (PV × PV)) → (List (PV × PV)) → Int → Arr → Arr → Arr → Bool → (List PV) → (List (PV × PV)) → S_i_Stmt → (Arr → Arr → Int → Int → (List (PV × PV)) → (List (PV × PV)) → Int → Arr → Arr → Arr → Bool → (List PV) → (List (PV × PV)) → S_i_Stmt → Prop) → Prop
def B_cc_items_0 (T : Tab) (R : YL_cc_items_0) (_a1 : Arr) (_n1 : Int) (_n2 : Int) (_a2 : Arr) (_a3 : Arr) (_n3 : Int) (_n4 : Int) (_m1 : List (PV × PV)) (_m2 : List (PV × PV)) (_n5 : Int) (_a4 : Arr) (_a5 : Arr) (_a6 : Arr) (_b1 : Bool) (_r1 : List PV) (_m3 : List (PV × PV)) (_x1 : S_i_Stmt) (K0 : Arr → Arr → Int → Int → (List (PV × PV)) → (List (PV × PV)) → Int → Arr → Arr → Arr → Bool → (List PV) → (List (PV × PV)) → S_i_Stmt → Prop) : Prop :=
 br (decide (_n2 < _n1))
 (0 ≤ _n2 ∧ _n2 < (_a1.n : Int) ∧
 as_i_Expr (_a1.g (_n2.toNat)) fun x37 =>
 br _b1
 (R _a1 _n1 (W (_n2 + 1)) _a2 _a3 _n3 _n4 _m1 _m2 _n5 _a4 _a5 _a6 true _r1 _m3 _x1 K0)
 (T.f_check_aggregate x37.Kind
 (fun _b2 =>
 R _a1 _n1 (W (_n2 + 1)) _a2 _a3 _n3 _n4 _m1 _m2 _n5 _a4 _a5 _a6 _b2 _r1 _m3 _x1 K0)))
 (K0 _a2 _a3 _n3 _n4 _m1 _m2 _n5 _a4 _a5 _a6 _b1 _r1 _m3 _x1)
def L_cc_items_0 (T : Tab) : Nat → YL_cc_items_0
  | 0 => fun _ _ _ _ _ _ _ _ _ _ _ _ _ _ _ _ _ _ => False
  | n + 1 => B_cc_items_0 T (L_cc_items_0 T n)
def F_cc_items (T : Tab) (_x1 : S_i_Stmt) (_a1 : Arr) (_a2 : Arr) (_n1 : Int) (_n2 : Int) (_m1 : List (PV × PV)) (_m2 : List (PV × PV)) (_n3 : Int) (_a3 : Arr) (_a4 : Arr) (_a5 : Arr) (_b1 : Bool) (_r1 : List PV) (_m3 : List (PV × PV)) (K0 : Bool → Arr → Arr → Int → Int → (List (PV × PV)) → (List (PV × PV)) → Int → Arr → Arr → Arr → Bool → (List PV) → (List (PV × PV)) → (List PV) → Prop) : Prop :=
 L_cc_items_0 T T.fuel _x1.Items (_x1.Items.n : Int) 0 _a1 _a2 _n1 _n2 _m1 _m2 _n3 _a3 _a4 _a5 (decide ((_x1.Groups.n : Int) > (0 : Int))) _r1 _m3 _x1
 (fun a73 a74 n75 n76 m77 m78 n79 a80 a81 a82 b83 r84 m85 x86 =>
 L_cc_items_2 T T.fuel x86.Items (x86.Items.n : Int) 0 a73 a74 n75 n76 m77 m78 n79 a80 a81 a82 b83 r84 m85 ([])
 (fun a235 a236 n237 n238 m239 m240 n241 a242 a243 a244 b245 r246 m247 r248 =>
 K0 false a235 a236 n237 n238 m239 m240 n241 a242 a243 a244 b245 r246 m247 r248)
 (fun a249 a250 n251 n252 m253 m254 n255 a256 a257 a258 b259 r260 m261 r262 =>
 K0 true a249 a250 n251 n252 m253 m254 n255 a256 a257 a258 b259 r260 m261 r262))
def F_check_aggregate (T : Tab) (_n1 : Int) (K0 : Bool → Prop) : Prop :=
 br (decide (_n1 ≥ (11 : Int)))
 (K0 (decide (_n1 ≤ (14 : Int))))
 (K0 false)
def F_ref13_Check (T : Tab) (_x1 : S_i_Catalog) (_a1 : Arr) (_x2 : S_i_Stmt) (K0 : S_i_Typed → S_i_Fault → Prop) : Prop :=
 T.f_ref08_Right _x1
 (fun _b1 =>
 T.f_ref13_Params _a1
 (fun _b2 =>
 br (!_b1)
 (K0 ⟨0, (lst true []), (lst true []), (lst true []), (lst true []), (lst true []), false, (lst true []), (lst true []), (lst true []), (lst true [])⟩ ⟨80, 0⟩)
 (br (!_b2)
 (K0 ⟨0, (lst true []), (lst true []), (lst true []), (lst true []), (lst true []), false, (lst true []), (lst true []), (lst true []), (lst true [])⟩ ⟨80, 0⟩)
 (T.f_ref11_Right _x2
 (fun _b3 =>
 br (!_b3)
 (K0 ⟨0, (lst true []), (lst true []), (lst true []), (lst true []), (lst true []), false, (lst true []), (lst true []), (lst true []), (lst true [])⟩ ⟨120, 0⟩)
 (T.f_ra_names _x2 _x1.Tables _x1.Procs _a1 0 0
 (fun _a2 _a3 _a4 _a5 _n1 _n2 =>
 br (_n1 != (0 : Int))
 (K0 ⟨0, (lst true []), (lst true []), (lst true []), (lst true []), (lst true []), false, (lst true []), (lst true []), (lst true []), (lst true [])⟩ ⟨_n1, _n2⟩)
 (br (_x2.Kind != (1 : Int))
 (T.f_ra_truths _x2.On ⟨_a3, _a4, _a5, _a2, _n1, _n2⟩
 (fun _a6 _x3 =>
 T.f_ra_truths _x2.Where _x3
 (fun _a7 _x4 =>
 br (_x2.Kind == (1 : Int))
 (0 ≤ (0 : Int) ∧ (0 : Int) < (_a2.n : Int) ∧
 asI_i64 (_a2.g 0) fun n14 =>
 0 ≤ n14 ∧ n14 < (_x1.Tables.n : Int) ∧
 as_i_Table (_x1.Tables.g (n14.toNat)) fun x15 =>
 T.f_ra_insert _x2 x15 _x4
 (fun _a8 _x5 =>
 br (_x5.f_Code != (0 : Int))
 (K0 ⟨0, (lst true []), (lst true []), (lst true []), (lst true []), (lst true []), false, (lst true []), (lst true []), (lst true []), (lst true [])⟩ ⟨_x5.f_Code, _x5.f_At⟩)
 (K0 ⟨_x2.Kind, _a2, _a6, _a7, _a8, (lst true []), false, (lst true []), (lst true []), (lst true []), (lst true [])⟩ ⟨0, 0⟩)))
 (br (_x2.Kind == (2 : Int))
 (0 ≤ (0 : Int) ∧ (0 : Int) < (_a2.n : Int) ∧
 asI_i64 (_a2.g 0) fun n18 =>
 0 ≤ n18 ∧ n18 < (_x1.Tables.n : Int) ∧
 as_i_Table (_x1.Tables.g (n18.toNat)) fun x19 =>
 T.f_ra_update _x2 x19 _x4
 (fun _a9 _a10 _x6 =>
 br (_x6.f_Code != (0 : Int))
 (K0 ⟨0, (lst true []), (lst true []), (lst true []), (lst true []), (lst true []), false, (lst true []), (lst true []), (lst true []), (lst true [])⟩ ⟨_x6.f_Code, _x6.f_At⟩)
 (K0 ⟨_x2.Kind, _a2, _a6, _a7, _a9, _a10, false, (lst true []), (lst true []), (lst true []), (lst true [])⟩ ⟨0, 0⟩)))
 (br (_x2.Kind == (4 : Int))
 (T.f_ra_choose _x2 _x2.Kind _a2 _a6 _a7 false _x4
 (fun _x7 _x8 =>
 br (_x8.f_Code != (0 : Int))
 (K0 ⟨0, (lst true []), (lst true []), (lst true []), (lst true []), (lst true []), false, (lst true []), (lst true []), (lst true []), (lst true [])⟩ ⟨_x8.f_Code, _x8.f_At⟩)
 (K0 _x7 ⟨0, 0⟩)))
 (br (_x4.f_Code != (0 : Int))
 (K0 ⟨0, (lst true []), (lst true []), (lst true []), (lst true []), (lst true []), false, (lst true []), (lst true []), (lst true []), (lst true [])⟩ ⟨_x4.f_Code, _x4.f_At⟩)
 (K0 ⟨_x2.Kind, _a2, _a6, _a7, (lst true []), (lst true []), false, (lst true []), (lst true []), (lst true []), (lst true [])⟩ ⟨0, 0⟩)))))))
 (T.f_ra_truths _x2.On ⟨_a3, _a4, _a5, (lst true []), _n1, _n2⟩
 (fun _a11 _x9 =>
 T.f_ra_truths _x2.Where _x9
 (fun _a12 _x10 =>
 br (_x2.Kind == (1 : Int))
 (0 ≤ (0 : Int) ∧ (0 : Int) < (_a2.n : Int) ∧
 asI_i64 (_a2.g 0) fun n29 =>
 0 ≤ n29 ∧ n29 < (_x1.Tables.n : Int) ∧
 as_i_Table (_x1.Tables.g (n29.toNat)) fun x30 =>
 T.f_ra_insert _x2 x30 _x10
 (fun _a13 _x11 =>
 br (_x11.f_Code != (0 : Int))
 (K0 ⟨0, (lst true []), (lst true []), (lst true []), (lst true []), (lst true []), false, (lst true []), (lst true []), (lst true []), (lst true [])⟩ ⟨_x11.f_Code, _x11.f_At⟩)
 (K0 ⟨_x2.Kind, _a2, _a11, _a12, _a13, (lst true []), false, (lst true []), (lst true []), (lst true []), (lst true [])⟩ ⟨0, 0⟩)))
 (br (_x2.Kind == (2 : Int))
 (0 ≤ (0 : Int) ∧ (0 : Int) < (_a2.n : Int) ∧
 asI_i64 (_a2.g 0) fun n33 =>
 0 ≤ n33 ∧ n33 < (_x1.Tables.n : Int) ∧
 as_i_Table (_x1.Tables.g (n33.toNat)) fun x34 =>
 T.f_ra_update _x2 x34 _x10
 (fun _a14 _a15 _x12 =>
 br (_x12.f_Code != (0 : Int))
 (K0 ⟨0, (lst true []), (lst true []), (lst true []), (lst true []), (lst true []), false, (lst true []), (lst true []), (lst true []), (lst true [])⟩ ⟨_x12.f_Code, _x12.f_At⟩)
 (K0 ⟨_x2.Kind, _a2, _a11, _a12, _a14, _a15, false, (lst true []), (lst true []), (lst true []), (lst true [])⟩ ⟨0, 0⟩)))
 (br (_x2.Kind == (4 : Int))
 (T.f_ra_choose _x2 _x2.Kind _a2 _a11 _a12 false _x10
 (fun _x13 _x14 =>
 br (_x14.f_Code != (0 : Int))
 (K0 ⟨0, (lst true []), (lst true []), (lst true []), (lst true []), (lst true []), false, (lst true []), (lst true []), (lst true []), (lst true [])⟩ ⟨_x14.f_Code, _x14.f_At⟩)
 (K0 _x13 ⟨0, 0⟩)))
 (br (_x10.f_Code != (0 : Int))
 (K0 ⟨0, (lst true []), (lst true []), (lst true []), (lst true []), (lst true []), false, (lst true []), (lst true []), (lst true []), (lst true [])⟩ ⟨_x10.f_Code, _x10.f_At⟩)
 (K0 ⟨_x2.Kind, _a2, _a11, _a12, (lst true []), (lst true []), false, (lst true []), (lst true []), (lst true []), (lst true [])⟩ ⟨0, 0⟩)))))))))))))))
abbrev YL_ref08_Right_2 := Int → S_i_Catalog → (List PV) → (List PV) → Prop → ((List PV) → (List PV) → Prop) → Prop
def B_ref08_Right_2 (T : Tab) (R : YL_ref08_Right_2) (_n1 : Int) (_x1 : S_i_Catalog) (_r1 : List PV) (_r2 : List PV) (K0 : Prop) (K1 : (List PV) → (List PV) → Prop) : Prop :=
 br (decide (_n1 < (_x1.Procs.n : Int)))
 (0 ≤ _n1 ∧ _n1 < (_x1.Procs.n : Int) ∧
 as_i_Proc (_x1.Procs.g (_n1.toNat)) fun x22 =>
 T.f_ref08_MayProc x22
 (fun _b1 =>
 br (!_b1)
 (K0 )
 (0 ≤ _n1 ∧ _n1 < (_x1.Procs.n : Int) ∧
 as_i_Proc (_x1.Procs.g (_n1.toNat)) fun x24 =>
 (_r2.length + 1) * 16 ≤ 140737488355328 ∧
 R (W (_n1 + 1)) _x1 _r1 (_r2 ++ ([(PV.str x24.Name)])) K0 K1)))
 (K1 _r1 _r2)
def L_ref08_Right_2 (T : Tab) : Nat → YL_ref08_Right_2
  | 0 => fun _ _ _ _ _ _ => False
  | n + 1 => B_ref08_Right_2 T (L_ref08_Right_2 T n)
abbrev YL_ref08_Right_0 := Int → S_i_Catalog → (List PV) → Prop → (S_i_Catalog → (List PV) → Prop) → Prop
def B_ref08_Right_0 (T : Tab) (R : YL_ref08_Right_0) (_n1 : Int) (_x1 : S_i_Catalog) (_r1 : List PV) (K0 : Prop) (K1 : S_i_Catalog → (List PV) → Prop) : Prop :=
 br (decide (_n1 < (_x1.Tables.n : Int)))
 (0 ≤ _n1 ∧ _n1 < (_x1.Tables.n : Int) ∧
 as_i_Table (_x1.Tables.g (_n1.toNat)) fun x7 =>
 T.f_ref08_MayTable x7
 (fun _b1 =>
 br (!_b1)
 (K0 )
 (0 ≤ _n1 ∧ _n1 < (_x1.Tables.n : Int) ∧
 as_i_Table (_x1.Tables.g (_n1.toNat)) fun x9 =>
 (_r1.length + 1) * 16 ≤ 140737488355328 ∧
 R (W (_n1 + 1)) _x1 (_r1 ++ ([(PV.str x9.Name)])) K0 K1)))
 (K1 _x1 _r1)
def L_ref08_Right_0 (T : Tab) : Nat → YL_ref08_Right_0
  | 0 => fun _ _ _ _ _ => False
  | n + 1 => B_ref08_Right_0 T (L_ref08_Right_0 T n)
def F_ref08_Right (T : Tab) (_x1 : S_i_Catalog) (K0 : Bool → Prop) : Prop :=
 br (decide ((_x1.Tables.n : Int) > (8 : Int)))
 (K0 false)
 (br (decide ((_x1.Procs.n : Int) > (16 : Int)))
 (K0 false)
 (L_ref08_Right_0 T T.fuel 0 _x1 ([])
 (K0 false)
 (fun x13 r14 =>
 L_ref08_Right_2 T T.fuel 0 x13 r14 ([])
 (K0 false)
 (fun r29 r30 =>
 T.f_ref08_names r29
 (fun _b1 _r1 =>
 T.f_ref08_names r30
 (fun _b2 _r2 =>
 br _b1
 (K0 _b2)
 (K0 false)))))))
abbrev YL_ref08_MayTable_4 := Bool → Int → S_i_Table → (List PV) → Prop → (Bool → (List PV) → Prop) → Prop
def B_ref08_MayTable_4 (T : Tab) (R : YL_ref08_MayTable_4) (_b1 : Bool) (_n1 : Int) (_x1 : S_i_Table) (_r1 : List PV) (K0 : Prop) (K1 : Bool → (List PV) → Prop) : Prop :=
 br (decide (_n1 < (_x1.Indexes.n : Int)))
 (0 ≤ _n1 ∧ _n1 < (_x1.Indexes.n : Int) ∧
 as_i_Index (_x1.Indexes.g (_n1.toNat)) fun x46 =>
 T.f_ref08_places x46.Columns (_x1.Columns.n : Int)
 (fun _b2 =>
 br (!_b2)
 (K0 )
 (0 ≤ _n1 ∧ _n1 < (_x1.Indexes.n : Int) ∧
 as_i_Index (_x1.Indexes.g (_n1.toNat)) fun x48 =>
 (_r1.length + 1) * 16 ≤ 140737488355328 ∧
 R _b1 (W (_n1 + 1)) _x1 (_r1 ++ ([(PV.str x48.Name)])) K0 K1)))
 (K1 _b1 _r1)
def L_ref08_MayTable_4 (T : Tab) : Nat → YL_ref08_MayTable_4
  | 0 => fun _ _ _ _ _ _ => False
  | n + 1 => B_ref08_MayTable_4 T (L_ref08_MayTable_4 T n)
abbrev YL_ref08_MayTable_2 := Bool → Int → S_i_Table → Prop → (Bool → S_i_Table → Prop) → Prop
def B_ref08_MayTable_2 (T : Tab) (R : YL_ref08_MayTable_2) (_b1 : Bool) (_n1 : Int) (_x1 : S_i_Table) (K0 : Prop) (K1 : Bool → S_i_Table → Prop) : Prop :=
 br (decide (_n1 < (_x1.Key.n : Int)))
 (0 ≤ _n1 ∧ _n1 < (_x1.Key.n : Int) ∧
 asI_i64 (_x1.Key.g (_n1.toNat)) fun n28 =>
 0 ≤ n28 ∧ n28 < (_x1.Columns.n : Int) ∧
 as_i_Column (_x1.Columns.g (n28.toNat)) fun x29 =>
 br (!x29.NotNull)
 (K0 )
 (0 ≤ _n1 ∧ _n1 < (_x1.Key.n : Int) ∧
 asI_i64 (_x1.Key.g (_n1.toNat)) fun n30 =>
 br (n30 == _x1.Part)
 (R true (W (_n1 + 1)) _x1 K0 K1)
 (R _b1 (W (_n1 + 1)) _x1 K0 K1)))
 (K1 _b1 _x1)
def L_ref08_MayTable_2 (T : Tab) : Nat → YL_ref08_MayTable_2
  | 0 => fun _ _ _ _ _ => False
  | n + 1 => B_ref08_MayTable_2 T (L_ref08_MayTable_2 T n)
abbrev YL_ref08_MayTable_0 := Int → S_i_Table → (List PV) → Prop → (S_i_Table → (List PV) → Prop) → Prop
def B_ref08_MayTable_0 (T : Tab) (R : YL_ref08_MayTable_0) (_n1 : Int) (_x1 : S_i_Table) (_r1 : List PV) (K0 : Prop) (K1 : S_i_Table → (List PV) → Prop) : Prop :=
 br (decide (_n1 < (_x1.Columns.n : Int)))
 (0 ≤ _n1 ∧ _n1 < (_x1.Columns.n : Int) ∧
 as_i_Column (_x1.Columns.g (_n1.toNat)) fun x8 =>
 (_r1.length + 1) * 16 ≤ 140737488355328 ∧
 0 ≤ _n1 ∧ _n1 < (_x1.Columns.n : Int) ∧
 as_i_Column (_x1.Columns.g (_n1.toNat)) fun x9 =>
 br (decide (x9.Type_ < (1 : Int)))
 (K0 )
 (0 ≤ _n1 ∧ _n1 < (_x1.Columns.n : Int) ∧
 as_i_Column (_x1.Columns.g (_n1.toNat)) fun x10 =>
 br (decide (x10.Type_ > (3 : Int)))
 (K0 )
 (R (W (_n1 + 1)) _x1 (_r1 ++ ([(PV.str x8.Name)])) K0 K1)))
 (K1 _x1 _r1)
def L_ref08_MayTable_0 (T : Tab) : Nat → YL_ref08_MayTable_0
  | 0 => fun _ _ _ _ _ => False
  | n + 1 => B_ref08_MayTable_0 T (L_ref08_MayTable_0 T n)
def F_ref08_MayTable (T : Tab) (_x1 : S_i_Table) (K0 : Bool → Prop) : Prop :=
 T.f_ref08_Name _x1.Name
 (fun _b1 =>
 br (!_b1)
 (K0 false)
 (br (decide ((_x1.Columns.n : Int) < (1 : Int)))
 (K0 false)
 (br (decide ((_x1.Columns.n : Int) > (16 : Int)))
 (K0 false)
 (br (decide ((_x1.Indexes.n : Int) > (4 : Int)))
 (K0 false)
 (L_ref08_MayTable_0 T T.fuel 0 _x1 ([])
 (K0 false)
 (fun x14 r15 =>
 T.f_ref08_names r15
 (fun _b2 _r1 =>
 T.f_ref08_places x14.Key (x14.Columns.n : Int)
 (fun _b3 =>
 br (!_b2)
 (K0 false)
 (br (!_b3)
 (K0 false)
 (L_ref08_MayTable_2 T T.fuel false 0 x14
 (K0 false)
 (fun b37 x38 =>
 L_ref08_MayTable_4 T T.fuel b37 0 x38 ([])
 (K0 false)
 (fun b53 r54 =>
 T.f_ref08_names r54
 (fun _b4 _r2 =>
 br b53
 (K0 _b4)
 (K0 false))))))))))))))
abbrev YL_ref08_Name_0 := ByteArray → Int → Prop → Prop → Prop
def B_ref08_Name_0 (T : Tab) (R : YL_ref08_Name_0) (_s1 : ByteArray) (_n1 : Int) (K0 : Prop) (K1 : Prop) : Prop :=
 br (decide (_n1 < (_s1.size : Int)))
 (0 ≤ _n1 ∧ _n1 < (_s1.size : Int) ∧
 br ((byteAt _s1 (_n1).toNat) != (95 : Int))
 (0 ≤ _n1 ∧ _n1 < (_s1.size : Int) ∧
 br (decide ((byteAt _s1 (_n1).toNat) < (48 : Int)))
 (0 ≤ _n1 ∧ _n1 < (_s1.size : Int) ∧
 br (decide ((byteAt _s1 (_n1).toNat) < (97 : Int)))
 (K0 )
 (0 ≤ _n1 ∧ _n1 < (_s1.size : Int) ∧
 br (decide ((byteAt _s1 (_n1).toNat) > (122 : Int)))
 (K0 )
 (R _s1 (W (_n1 + 1)) K0 K1)))
 (0 ≤ _n1 ∧ _n1 < (_s1.size : Int) ∧
 br (decide ((byteAt _s1 (_n1).toNat) > (57 : Int)))
 (0 ≤ _n1 ∧ _n1 < (_s1.size : Int) ∧
 br (decide ((byteAt _s1 (_n1).toNat) < (97 : Int)))
 (K0 )
 (0 ≤ _n1 ∧ _n1 < (_s1.size : Int) ∧
 br (decide ((byteAt _s1 (_n1).toNat) > (122 : Int)))
 (K0 )
 (R _s1 (W (_n1 + 1)) K0 K1)))
 (R _s1 (W (_n1 + 1)) K0 K1)))
 (R _s1 (W (_n1 + 1)) K0 K1))
 (K1 )
def L_ref08_Name_0 (T : Tab) : Nat → YL_ref08_Name_0
  | 0 => fun _ _ _ _ => False
  | n + 1 => B_ref08_Name_0 T (L_ref08_Name_0 T n)
def F_ref08_Name (T : Tab) (_s1 : ByteArray) (K0 : Bool → Prop) : Prop :=
 br (decide ((_s1.size : Int) < (1 : Int)))
 (K0 false)
 (br (decide ((_s1.size : Int) > (16 : Int)))
 (K0 false)
 (0 ≤ (0 : Int) ∧ (0 : Int) < (_s1.size : Int) ∧
 br (decide ((byteAt _s1 (0 : Int).toNat) < (97 : Int)))
 (K0 false)
 (0 ≤ (0 : Int) ∧ (0 : Int) < (_s1.size : Int) ∧
 br (decide ((byteAt _s1 (0 : Int).toNat) > (122 : Int)))
 (K0 false)
 (L_ref08_Name_0 T T.fuel _s1 0
 (K0 false)
 (K0 true)))))
abbrev YL_ref08_names_2 := Int → Int → (List PV) → ((List PV) → Prop) → (Int → (List PV) → Prop) → Prop
def B_ref08_names_2 (T : Tab) (R : YL_ref08_names_2) (_n1 : Int) (_n2 : Int) (_r1 : List PV) (K0 : (List PV) → Prop) (K1 : Int → (List PV) → Prop) : Prop :=
 br (decide (_n2 < _n1))
 (0 ≤ _n2 ∧ _n2 < (_r1.length : Int) ∧
 asS (_r1.getD _n2.toNat .nilp) fun s8 =>
 0 ≤ _n1 ∧ _n1 < (_r1.length : Int) ∧
 asS (_r1.getD _n1.toNat .nilp) fun s9 =>
 br (s8.toList == s9.toList)
 (K0 _r1)
 (R _n1 (W (_n2 + 1)) _r1 K0 K1))
 (K1 _n1 _r1)
def L_ref08_names_2 (T : Tab) : Nat → YL_ref08_names_2
  | 0 => fun _ _ _ _ _ => False
  | n + 1 => B_ref08_names_2 T (L_ref08_names_2 T n)
abbrev YL_ref08_names_0 := Int → (List PV) → ((List PV) → Prop) → ((List PV) → Prop) → Prop
def B_ref08_names_0 (T : Tab) (R : YL_ref08_names_0) (_n1 : Int) (_r1 : List PV) (K0 : (List PV) → Prop) (K1 : (List PV) → Prop) : Prop :=
 br (decide (_n1 < (_r1.length : Int)))
 (0 ≤ _n1 ∧ _n1 < (_r1.length : Int) ∧
 asS (_r1.getD _n1.toNat .nilp) fun s18 =>
 T.f_ref08_Name s18
 (fun _b1 =>
 br (!_b1)
 (K0 _r1)
 (L_ref08_names_2 T T.fuel _n1 0 _r1
 (fun r20 =>
 K0 r20)
 (fun n21 r22 =>
 R (W (n21 + 1)) r22 K0 K1))))
 (K1 _r1)
def L_ref08_names_0 (T : Tab) : Nat → YL_ref08_names_0
  | 0 => fun _ _ _ _ => False
  | n + 1 => B_ref08_names_0 T (L_ref08_names_0 T n)
def F_ref08_names (T : Tab) (_r1 : List PV) (K0 : Bool → (List PV) → Prop) : Prop :=
 L_ref08_names_0 T T.fuel 0 _r1
 (fun r25 =>
 K0 false r25)
 (fun r26 =>
 K0 true r26)
abbrev YL_ref08_places_2 := Arr → Int → Int → Int → Prop → (Arr → Int → Int → Prop) → Prop
def B_ref08_places_2 (T : Tab) (R : YL_ref08_places_2) (_a1 : Arr) (_n1 : Int) (_n2 : Int) (_n3 : Int) (K0 : Prop) (K1 : Arr → Int → Int → Prop) : Prop :=
 br (decide (_n3 < _n2))
 (0 ≤ _n3 ∧ _n3 < (_a1.n : Int) ∧
 asI_i64 (_a1.g (_n3.toNat)) fun n9 =>
 0 ≤ _n2 ∧ _n2 < (_a1.n : Int) ∧
 asI_i64 (_a1.g (_n2.toNat)) fun n10 =>
 br (n9 == n10)
 (K0 )
 (R _a1 _n1 _n2 (W (_n3 + 1)) K0 K1))
 (K1 _a1 _n1 _n2)
def L_ref08_places_2 (T : Tab) : Nat → YL_ref08_places_2
  | 0 => fun _ _ _ _ _ _ => False
  | n + 1 => B_ref08_places_2 T (L_ref08_places_2 T n)
abbrev YL_ref08_places_0 := Arr → Int → Int → Prop → Prop → Prop
def B_ref08_places_0 (T : Tab) (R : YL_ref08_places_0) (_a1 : Arr) (_n1 : Int) (_n2 : Int) (K0 : Prop) (K1 : Prop) : Prop :=
 br (decide (_n2 < (_a1.n : Int)))
 (0 ≤ _n2 ∧ _n2 < (_a1.n : Int) ∧
 asI_i64 (_a1.g (_n2.toNat)) fun n21 =>
 br (decide (n21 < (0 : Int)))
 (K0 )
 (0 ≤ _n2 ∧ _n2 < (_a1.n : Int) ∧
 asI_i64 (_a1.g (_n2.toNat)) fun n22 =>
 br (decide (n22 ≥ _n1))
 (K0 )
 (L_ref08_places_2 T T.fuel _a1 _n1 _n2 0
 (K0 )
 (fun a23 n24 n25 =>
 R a23 n24 (W (n25 + 1)) K0 K1))))
 (K1 )
def L_ref08_places_0 (T : Tab) : Nat → YL_ref08_places_0
  | 0 => fun _ _ _ _ _ => False
  | n + 1 => B_ref08_places_0 T (L_ref08_places_0 T n)
def F_ref08_places (T : Tab) (_a1 : Arr) (_n1 : Int) (K0 : Bool → Prop) : Prop :=
 br (decide ((_a1.n : Int) < (1 : Int)))
 (K0 false)
 (br (decide ((_a1.n : Int) > (8 : Int)))
 (K0 false)
 (L_ref08_places_0 T T.fuel _a1 _n1 0
 (K0 false)
 (K0 true)))
abbrev YL_ref08_MayProc_2 := Int → S_i_Proc → (List PV) → Prop → ((List PV) → Prop) → Prop
def B_ref08_MayProc_2 (T : Tab) (R : YL_ref08_MayProc_2) (_n1 : Int) (_x1 : S_i_Proc) (_r1 : List PV) (K0 : Prop) (K1 : (List PV) → Prop) : Prop :=
 br (decide (_n1 < (_x1.Body.n : Int)))
 (0 ≤ _n1 ∧ _n1 < (_x1.Body.n : Int) ∧
 asS (_x1.Body.g (_n1.toNat)) fun s23 =>
 br (decide ((s23.size : Int) < (1 : Int)))
 (K0 )
 (0 ≤ _n1 ∧ _n1 < (_x1.Body.n : Int) ∧
 asS (_x1.Body.g (_n1.toNat)) fun s24 =>
 br (decide ((s24.size : Int) > (1000 : Int)))
 (K0 )
 (R (W (_n1 + 1)) _x1 _r1 K0 K1)))
 (K1 _r1)
def L_ref08_MayProc_2 (T : Tab) : Nat → YL_ref08_MayProc_2
  | 0 => fun _ _ _ _ _ => False
  | n + 1 => B_ref08_MayProc_2 T (L_ref08_MayProc_2 T n)
abbrev YL_ref08_MayProc_0 := Int → S_i_Proc → (List PV) → Prop → (S_i_Proc → (List PV) → Prop) → Prop
def B_ref08_MayProc_0 (T : Tab) (R : YL_ref08_MayProc_0) (_n1 : Int) (_x1 : S_i_Proc) (_r1 : List PV) (K0 : Prop) (K1 : S_i_Proc → (List PV) → Prop) : Prop :=
 br (decide (_n1 < (_x1.Params.n : Int)))
 (0 ≤ _n1 ∧ _n1 < (_x1.Params.n : Int) ∧
 as_i_Param (_x1.Params.g (_n1.toNat)) fun x10 =>
 (_r1.length + 1) * 16 ≤ 140737488355328 ∧
 0 ≤ _n1 ∧ _n1 < (_x1.Params.n : Int) ∧
 as_i_Param (_x1.Params.g (_n1.toNat)) fun x11 =>
 br (decide (x11.Type_ < (1 : Int)))
 (K0 )
 (0 ≤ _n1 ∧ _n1 < (_x1.Params.n : Int) ∧
 as_i_Param (_x1.Params.g (_n1.toNat)) fun x12 =>
 br (decide (x12.Type_ > (3 : Int)))
 (K0 )
 (R (W (_n1 + 1)) _x1 (_r1 ++ ([(PV.str x10.Name)])) K0 K1)))
 (K1 _x1 _r1)
def L_ref08_MayProc_0 (T : Tab) : Nat → YL_ref08_MayProc_0
  | 0 => fun _ _ _ _ _ => False
  | n + 1 => B_ref08_MayProc_0 T (L_ref08_MayProc_0 T n)
def F_ref08_MayProc (T : Tab) (_x1 : S_i_Proc) (K0 : Bool → Prop) : Prop :=
 T.f_ref08_Name _x1.Name
 (fun _b1 =>
 T.f_ref08_in _x1.Rows 0 1048576
 (fun _b2 =>
 T.f_ref08_in _x1.Bytes 0 1048576
 (fun _b3 =>
 br (!_b1)
 (K0 false)
 (br (!_b2)
 (K0 false)
 (br (!_b3)
 (K0 false)
 (br (decide ((_x1.Params.n : Int) > (8 : Int)))
 (K0 false)
 (br (decide ((_x1.Body.n : Int) < (1 : Int)))
 (K0 false)
 (br (decide ((_x1.Body.n : Int) > (8 : Int)))
 (K0 false)
 (L_ref08_MayProc_0 T T.fuel 0 _x1 ([])
 (K0 false)
 (fun x16 r17 =>
 L_ref08_MayProc_2 T T.fuel 0 x16 r17
 (K0 false)
 (fun r28 =>
 T.f_ref08_names r28
 (fun _b4 _r1 =>
 K0 _b4))))))))))))
def F_ref08_in (T : Tab) (_n1 : Int) (_n2 : Int) (_n3 : Int) (K0 : Bool → Prop) : Prop :=
 br (decide (_n1 ≥ _n2))
 (K0 (decide (_n1 ≤ _n3)))
 (K0 false)
abbrev YL_ref13_Params_2 := Arr → Int → Int → Prop → (Arr → Int → Prop) → Prop
def B_ref13_Params_2 (T : Tab) (R : YL_ref13_Params_2) (_a1 : Arr) (_n1 : Int) (_n2 : Int) (K0 : Prop) (K1 : Arr → Int → Prop) : Prop :=
 br (decide (_n2 < _n1))
 (0 ≤ _n2 ∧ _n2 < (_a1.n : Int) ∧
 as_i_Param (_a1.g (_n2.toNat)) fun x10 =>
 0 ≤ _n1 ∧ _n1 < (_a1.n : Int) ∧
 as_i_Param (_a1.g (_n1.toNat)) fun x11 =>
 br (x10.Name.toList == x11.Name.toList)
 (K0 )
 (R _a1 _n1 (W (_n2 + 1)) K0 K1))
 (K1 _a1 _n1)
def L_ref13_Params_2 (T : Tab) : Nat → YL_ref13_Params_2
  | 0 => fun _ _ _ _ _ => False
  | n + 1 => B_ref13_Params_2 T (L_ref13_Params_2 T n)
abbrev YL_ref13_Params_0 := Arr → Int → Prop → (Arr → Prop) → Prop
def B_ref13_Params_0 (T : Tab) (R : YL_ref13_Params_0) (_a1 : Arr) (_n1 : Int) (K0 : Prop) (K1 : Arr → Prop) : Prop :=
 br (decide (_n1 < (_a1.n : Int)))
 (0 ≤ _n1 ∧ _n1 < (_a1.n : Int) ∧
 as_i_Param (_a1.g (_n1.toNat)) fun x19 =>
 T.f_ref10_IsName x19.Name
 (fun _b1 =>
 br (!_b1)
 (K0 )
 (0 ≤ _n1 ∧ _n1 < (_a1.n : Int) ∧
 as_i_Param (_a1.g (_n1.toNat)) fun x21 =>
 br (decide (x21.Type_ < (1 : Int)))
 (K0 )
 (0 ≤ _n1 ∧ _n1 < (_a1.n : Int) ∧
 as_i_Param (_a1.g (_n1.toNat)) fun x22 =>
 br (decide (x22.Type_ > (3 : Int)))
 (K0 )
 (L_ref13_Params_2 T T.fuel _a1 _n1 0
 (K0 )
 (fun a23 n24 =>
 R a23 (W (n24 + 1)) K0 K1))))))
 (K1 _a1)
def L_ref13_Params_0 (T : Tab) : Nat → YL_ref13_Params_0
  | 0 => fun _ _ _ _ => False
  | n + 1 => B_ref13_Params_0 T (L_ref13_Params_0 T n)
def F_ref13_Params (T : Tab) (_a1 : Arr) (K0 : Bool → Prop) : Prop :=
 L_ref13_Params_0 T T.fuel _a1 0
 (K0 false)
 (fun a27 =>
 K0 (decide ((a27.n : Int) ≤ (8 : Int))))
abbrev YL_ref10_IsName_0 := ByteArray → Int → Prop → Prop → Prop
def B_ref10_IsName_0 (T : Tab) (R : YL_ref10_IsName_0) (_s1 : ByteArray) (_n1 : Int) (K0 : Prop) (K1 : Prop) : Prop :=
 br (decide (_n1 < (_s1.size : Int)))
 (0 ≤ _n1 ∧ _n1 < (_s1.size : Int) ∧
 T.f_ref10_small (byteAt _s1 (_n1).toNat)
 (fun _b1 =>
 0 ≤ _n1 ∧ _n1 < (_s1.size : Int) ∧
 T.f_ref10_digit (byteAt _s1 (_n1).toNat)
 (fun _b2 =>
 br (!_b1)
 (br (_n1 == (0 : Int))
 (K0 )
 (br (!_b2)
 (0 ≤ _n1 ∧ _n1 < (_s1.size : Int) ∧
 br ((byteAt _s1 (_n1).toNat) != (95 : Int))
 (K0 )
 (R _s1 (W (_n1 + 1)) K0 K1))
 (R _s1 (W (_n1 + 1)) K0 K1)))
 (R _s1 (W (_n1 + 1)) K0 K1))))
 (K1 )
def L_ref10_IsName_0 (T : Tab) : Nat → YL_ref10_IsName_0
  | 0 => fun _ _ _ _ => False
  | n + 1 => B_ref10_IsName_0 T (L_ref10_IsName_0 T n)
def F_ref10_IsName (T : Tab) (_s1 : ByteArray) (K0 : Bool → Prop) : Prop :=
 br (decide ((_s1.size : Int) < (1 : Int)))
 (K0 false)
 (br (decide ((_s1.size : Int) > (16 : Int)))
 (K0 false)
 (L_ref10_IsName_0 T T.fuel _s1 0
 (K0 false)
 (K0 true)))
def F_ref10_small (T : Tab) (_n1 : Int) (K0 : Bool → Prop) : Prop :=
 br (decide (_n1 ≥ (97 : Int)))
 (K0 (decide (_n1 ≤ (122 : Int))))
 (K0 false)
def F_ref10_digit (T : Tab) (_n1 : Int) (K0 : Bool → Prop) : Prop :=
 br (decide (_n1 ≥ (48 : Int)))
 (K0 (decide (_n1 ≤ (57 : Int))))
 (K0 false)
abbrev YL_ref11_Right_0 := Bool → Int → S_i_Stmt → Prop → (Bool → S_i_Stmt → Prop) → Prop
def B_ref11_Right_0 (T : Tab) (R : YL_ref11_Right_0) (_b1 : Bool) (_n1 : Int) (_x1 : S_i_Stmt) (K0 : Prop) (K1 : Bool → S_i_Stmt → Prop) : Prop :=
 br (decide (_n1 < (_x1.Sets.n : Int)))
 (0 ≤ _n1 ∧ _n1 < (_x1.Sets.n : Int) ∧
 as_i_Set (_x1.Sets.g (_n1.toNat)) fun x12 =>
 T.f_ref10_IsName x12.Name
 (fun _b2 =>
 0 ≤ _n1 ∧ _n1 < (_x1.Sets.n : Int) ∧
 as_i_Set (_x1.Sets.g (_n1.toNat)) fun x14 =>
 T.f_ref11_RightExpr ⟨x14.Expr_Kind, x14.Expr_Op, x14.Expr_Value_Kind, x14.Expr_Value_Int, x14.Expr_Value_Text, x14.Expr_Table, x14.Expr_Name, x14.Expr_Kids, x14.Expr_At⟩ 1
 (fun _b3 =>
 br (!_b2)
 (K0 )
 (br (!_b3)
 (K0 )
 (R _b1 (W (_n1 + 1)) _x1 K0 K1)))))
 (K1 _b1 _x1)
def L_ref11_Right_0 (T : Tab) : Nat → YL_ref11_Right_0
  | 0 => fun _ _ _ _ _ => False
  | n + 1 => B_ref11_Right_0 T (L_ref11_Right_0 T n)
def F_ref11_Right (T : Tab) (_x1 : S_i_Stmt) (K0 : Bool → Prop) : Prop :=
 T.f_ref10_IsName _x1.Table
 (fun _b1 =>
 T.f_ref11_rights _x1.Where
 (fun _b2 =>
 br (!_b1)
 (K0 false)
 (br (!_b2)
 (K0 false)
 (br (decide ((_x1.Where.n : Int) > (1 : Int)))
 (K0 false)
 (br (decide (_x1.Kind < (1 : Int)))
 (K0 false)
 (br (decide (_x1.Kind > (4 : Int)))
 (K0 false)
 (br (_x1.Kind == (4 : Int))
 (T.f_ref11_rightSelect _x1
 (fun _b3 =>
 K0 _b3))
 (br (!(_x1.Join.toList == (ByteArray.mk #[]).toList))
 (K0 false)
 (br (decide ((_x1.On.n : Int) > (0 : Int)))
 (K0 false)
 (br _x1.Star
 (K0 false)
 (br (decide ((_x1.Groups.n : Int) > (0 : Int)))
 (K0 false)
 (br (decide ((_x1.Sorts.n : Int) > (0 : Int)))
 (K0 false)
 (br (decide ((_x1.Limit.n : Int) > (0 : Int)))
 (K0 false)
 (T.f_ref11_rights _x1.Items
 (fun _b4 =>
 L_ref11_Right_0 T T.fuel _b4 0 _x1
 (K0 false)
 (fun b19 x20 =>
 br (x20.Kind == (1 : Int))
 (br (decide ((x20.Items.n : Int) ≥ (1 : Int)))
 (br (decide ((x20.Items.n : Int) ≤ (16 : Int)))
 (br ((x20.Sets.n : Int) == (0 : Int))
 (br (x20.Kind == (2 : Int))
 (br ((x20.Items.n : Int) == (0 : Int))
 (br (decide ((x20.Sets.n : Int) ≥ (1 : Int)))
 (br (x20.Kind == (3 : Int))
 (br ((x20.Items.n : Int) == (0 : Int))
 (br b19
 (br ((x20.Where.n : Int) == (0 : Int))
 (K0 true)
 (br (decide ((x20.Sets.n : Int) ≤ (16 : Int)))
 (K0 true)
 (K0 ((x20.Sets.n : Int) == (0 : Int)))))
 (K0 false))
 (br b19
 (br ((x20.Where.n : Int) == (0 : Int))
 (K0 true)
 (br (decide ((x20.Sets.n : Int) ≤ (16 : Int)))
 (K0 true)
 (K0 false)))
 (K0 false)))
 (br b19
 (br ((x20.Where.n : Int) == (0 : Int))
 (K0 true)
 (br (decide ((x20.Sets.n : Int) ≤ (16 : Int)))
 (K0 true)
 (K0 false)))
 (K0 false)))
 (br (x20.Kind == (3 : Int))
 (br ((x20.Items.n : Int) == (0 : Int))
 (br b19
 (br ((x20.Where.n : Int) == (0 : Int))
 (K0 true)
 (K0 ((x20.Sets.n : Int) == (0 : Int))))
 (K0 false))
 (br b19
 (br ((x20.Where.n : Int) == (0 : Int))
 (K0 true)
 (K0 false))
 (K0 false)))
 (br b19
 (br ((x20.Where.n : Int) == (0 : Int))
 (K0 true)
 (K0 false))
 (K0 false))))
 (br (x20.Kind == (3 : Int))
 (br ((x20.Items.n : Int) == (0 : Int))
 (br b19
 (br ((x20.Where.n : Int) == (0 : Int))
 (K0 true)
 (K0 ((x20.Sets.n : Int) == (0 : Int))))
 (K0 false))
 (br b19
 (br ((x20.Where.n : Int) == (0 : Int))
 (K0 true)
 (K0 false))
 (K0 false)))
 (br b19
 (br ((x20.Where.n : Int) == (0 : Int))
 (K0 true)
 (K0 false))
 (K0 false))))
 (br (x20.Kind == (3 : Int))
 (br ((x20.Items.n : Int) == (0 : Int))
 (br b19
 (br ((x20.Where.n : Int) == (0 : Int))
 (K0 true)
 (K0 ((x20.Sets.n : Int) == (0 : Int))))
 (K0 false))
 (br b19
 (br ((x20.Where.n : Int) == (0 : Int))
 (K0 true)
 (K0 false))
 (K0 false)))
 (br b19
 (br ((x20.Where.n : Int) == (0 : Int))
 (K0 true)
 (K0 false))
 (K0 false))))
 (br (x20.Kind == (2 : Int))
 (br ((x20.Items.n : Int) == (0 : Int))
 (br (decide ((x20.Sets.n : Int) ≥ (1 : Int)))
 (br (x20.Kind == (3 : Int))
 (br ((x20.Items.n : Int) == (0 : Int))
 (br b19
 (br (decide ((x20.Sets.n : Int) ≤ (16 : Int)))
 (K0 true)
 (K0 ((x20.Sets.n : Int) == (0 : Int))))
 (K0 false))
 (br b19
 (br (decide ((x20.Sets.n : Int) ≤ (16 : Int)))
 (K0 true)
 (K0 false))
 (K0 false)))
 (br b19
 (br (decide ((x20.Sets.n : Int) ≤ (16 : Int)))
 (K0 true)
 (K0 false))
 (K0 false)))
 (br (x20.Kind == (3 : Int))
 (br ((x20.Items.n : Int) == (0 : Int))
 (br b19
 (K0 ((x20.Sets.n : Int) == (0 : Int)))
 (K0 false))
 (br b19
 (K0 false)
 (K0 false)))
 (br b19
 (K0 false)
 (K0 false))))
 (br (x20.Kind == (3 : Int))
 (br ((x20.Items.n : Int) == (0 : Int))
 (br b19
 (K0 ((x20.Sets.n : Int) == (0 : Int)))
 (K0 false))
 (br b19
 (K0 false)
 (K0 false)))
 (br b19
 (K0 false)
 (K0 false))))
 (br (x20.Kind == (3 : Int))
 (br ((x20.Items.n : Int) == (0 : Int))
 (br b19
 (K0 ((x20.Sets.n : Int) == (0 : Int)))
 (K0 false))
 (br b19
 (K0 false)
 (K0 false)))
 (br b19
 (K0 false)
 (K0 false)))))
 (br (x20.Kind == (2 : Int))
 (br ((x20.Items.n : Int) == (0 : Int))
 (br (decide ((x20.Sets.n : Int) ≥ (1 : Int)))
 (br (x20.Kind == (3 : Int))
 (br ((x20.Items.n : Int) == (0 : Int))
 (br b19
 (br (decide ((x20.Sets.n : Int) ≤ (16 : Int)))
 (K0 true)
 (K0 ((x20.Sets.n : Int) == (0 : Int))))
 (K0 false))
 (br b19
 (br (decide ((x20.Sets.n : Int) ≤ (16 : Int)))
 (K0 true)
 (K0 false))
 (K0 false)))
 (br b19
 (br (decide ((x20.Sets.n : Int) ≤ (16 : Int)))
 (K0 true)
 (K0 false))
 (K0 false)))
 (br (x20.Kind == (3 : Int))
 (br ((x20.Items.n : Int) == (0 : Int))
 (br b19
 (K0 ((x20.Sets.n : Int) == (0 : Int)))
 (K0 false))
 (br b19
 (K0 false)
 (K0 false)))
 (br b19
 (K0 false)
 (K0 false))))
 (br (x20.Kind == (3 : Int))
 (br ((x20.Items.n : Int) == (0 : Int))
 (br b19
 (K0 ((x20.Sets.n : Int) == (0 : Int)))
 (K0 false))
 (br b19
 (K0 false)
 (K0 false)))
 (br b19
 (K0 false)
 (K0 false))))
 (br (x20.Kind == (3 : Int))
 (br ((x20.Items.n : Int) == (0 : Int))
 (br b19
 (K0 ((x20.Sets.n : Int) == (0 : Int)))
 (K0 false))
 (br b19
 (K0 false)
 (K0 false)))
 (br b19
 (K0 false)
 (K0 false)))))
 (br (x20.Kind == (2 : Int))
 (br ((x20.Items.n : Int) == (0 : Int))
 (br (decide ((x20.Sets.n : Int) ≥ (1 : Int)))
 (br (x20.Kind == (3 : Int))
 (br ((x20.Items.n : Int) == (0 : Int))
 (br b19
 (br (decide ((x20.Sets.n : Int) ≤ (16 : Int)))
 (K0 true)
 (K0 ((x20.Sets.n : Int) == (0 : Int))))
 (K0 false))
 (br b19
 (br (decide ((x20.Sets.n : Int) ≤ (16 : Int)))
 (K0 true)
 (K0 false))
 (K0 false)))
 (br b19
 (br (decide ((x20.Sets.n : Int) ≤ (16 : Int)))
 (K0 true)
 (K0 false))
 (K0 false)))
 (br (x20.Kind == (3 : Int))
 (br ((x20.Items.n : Int) == (0 : Int))
 (br b19
 (K0 ((x20.Sets.n : Int) == (0 : Int)))
 (K0 false))
 (br b19
 (K0 false)
 (K0 false)))
 (br b19
 (K0 false)
 (K0 false))))
 (br (x20.Kind == (3 : Int))
 (br ((x20.Items.n : Int) == (0 : Int))
 (br b19
 (K0 ((x20.Sets.n : Int) == (0 : Int)))
 (K0 false))
 (br b19
 (K0 false)
 (K0 false)))
 (br b19
 (K0 false)
 (K0 false))))
 (br (x20.Kind == (3 : Int))
 (br ((x20.Items.n : Int) == (0 : Int))
 (br b19
 (K0 ((x20.Sets.n : Int) == (0 : Int)))
 (K0 false))
 (br b19
 (K0 false)
 (K0 false)))
 (br b19
 (K0 false)
 (K0 false)))))
 (br (x20.Kind == (2 : Int))
 (br ((x20.Items.n : Int) == (0 : Int))
 (br (decide ((x20.Sets.n : Int) ≥ (1 : Int)))
 (br (x20.Kind == (3 : Int))
 (br ((x20.Items.n : Int) == (0 : Int))
 (br b19
 (br (decide ((x20.Sets.n : Int) ≤ (16 : Int)))
 (K0 true)
 (K0 ((x20.Sets.n : Int) == (0 : Int))))
 (K0 false))
 (br b19
 (br (decide ((x20.Sets.n : Int) ≤ (16 : Int)))
 (K0 true)
 (K0 false))
 (K0 false)))
 (br b19
 (br (decide ((x20.Sets.n : Int) ≤ (16 : Int)))
 (K0 true)
 (K0 false))
 (K0 false)))
 (br (x20.Kind == (3 : Int))
 (br ((x20.Items.n : Int) == (0 : Int))
 (br b19
 (K0 ((x20.Sets.n : Int) == (0 : Int)))
 (K0 false))
 (br b19
 (K0 false)
 (K0 false)))
 (br b19
 (K0 false)
 (K0 false))))
 (br (x20.Kind == (3 : Int))
 (br ((x20.Items.n : Int) == (0 : Int))
 (br b19
 (K0 ((x20.Sets.n : Int) == (0 : Int)))
 (K0 false))
 (br b19
 (K0 false)
 (K0 false)))
 (br b19
 (K0 false)
 (K0 false))))
 (br (x20.Kind == (3 : Int))
 (br ((x20.Items.n : Int) == (0 : Int))
 (br b19
 (K0 ((x20.Sets.n : Int) == (0 : Int)))
 (K0 false))
 (br b19
 (K0 false)
 (K0 false)))
 (br b19
 (K0 false)
 (K0 false))))))))))))))))))))
abbrev YL_ref11_rights_0 := Arr → Int → Prop → Prop → Prop
def B_ref11_rights_0 (T : Tab) (R : YL_ref11_rights_0) (_a1 : Arr) (_n1 : Int) (K0 : Prop) (K1 : Prop) : Prop :=
 br (decide (_n1 < (_a1.n : Int)))
 (0 ≤ _n1 ∧ _n1 < (_a1.n : Int) ∧
 as_i_Expr (_a1.g (_n1.toNat)) fun x5 =>
 T.f_ref11_RightExpr x5 1
 (fun _b1 =>
 br (!_b1)
 (K0 )
 (R _a1 (W (_n1 + 1)) K0 K1)))
 (K1 )
def L_ref11_rights_0 (T : Tab) : Nat → YL_ref11_rights_0
  | 0 => fun _ _ _ _ => False
  | n + 1 => B_ref11_rights_0 T (L_ref11_rights_0 T n)
def F_ref11_rights (T : Tab) (_a1 : Arr) (K0 : Bool → Prop) : Prop :=
 L_ref11_rights_0 T T.fuel _a1 0
 (K0 false)
 (K0 true)
abbrev YL_ref11_RightExpr_0 := Int → Int → S_i_Expr → Prop → Prop → Prop
def B_ref11_RightExpr_0 (T : Tab) (R : YL_ref11_RightExpr_0) (_n1 : Int) (_n2 : Int) (_x1 : S_i_Expr) (K0 : Prop) (K1 : Prop) : Prop :=
 br (decide (_n2 < (_x1.Kids.n : Int)))
 (0 ≤ _n2 ∧ _n2 < (_x1.Kids.n : Int) ∧
 as_i_Expr (_x1.Kids.g (_n2.toNat)) fun x9 =>
 T.f_ref11_RightExpr x9 (W (_n1 + 1))
 (fun _b1 =>
 br (!_b1)
 (K0 )
 (R _n1 (W (_n2 + 1)) _x1 K0 K1)))
 (K1 )
def L_ref11_RightExpr_0 (T : Tab) : Nat → YL_ref11_RightExpr_0
  | 0 => fun _ _ _ _ _ => False
  | n + 1 => B_ref11_RightExpr_0 T (L_ref11_RightExpr_0 T n)
def F_ref11_RightExpr (T : Tab) (_x1 : S_i_Expr) (_n1 : Int) (K0 : Bool → Prop) : Prop :=
 T.f_ref11_kids _x1.Kind
 (fun _n2 _n3 =>
 T.f_ref11_fields _x1
 (fun _b1 =>
 br (decide (_n1 > (16 : Int)))
 (K0 false)
 (br (!_b1)
 (K0 false)
 (br (decide ((_x1.Kids.n : Int) < _n2))
 (K0 false)
 (br (decide ((_x1.Kids.n : Int) > _n3))
 (K0 false)
 (L_ref11_RightExpr_0 T T.fuel _n1 0 _x1
 (K0 false)
 (K0 true)))))))
def F_ref11_kids (T : Tab) (_n1 : Int) (K0 : Int → Int → Prop) : Prop :=
 br (_n1 == (1 : Int))
 (K0 0 0)
 (br (_n1 == (2 : Int))
 (K0 0 0)
 (br (_n1 == (3 : Int))
 (K0 0 0)
 (br (_n1 == (4 : Int))
 (K0 1 1)
 (br (_n1 == (7 : Int))
 (K0 1 1)
 (br (_n1 == (8 : Int))
 (K0 1 1)
 (br (_n1 == (5 : Int))
 (K0 2 2)
 (br (_n1 == (6 : Int))
 (K0 2 2)
 (br (_n1 == (9 : Int))
 (K0 2 8)
 (br (_n1 == (10 : Int))
 (K0 2 8)
 (K0 0 (-1)))))))))))
def F_ref11_fields (T : Tab) (_x1 : S_i_Expr) (K0 : Bool → Prop) : Prop :=
 br (_x1.Kind == (5 : Int))
 (br (decide (_x1.Op < (1 : Int)))
 (K0 false)
 (br (decide (_x1.Op > (5 : Int)))
 (K0 false)
 (br (_x1.Kind == (2 : Int))
 (T.f_ref10_IsName _x1.Name
 (fun _b1 =>
 T.f_ref10_IsName _x1.Table
 (fun _b2 =>
 br (!_b1)
 (K0 false)
 (br (!(_x1.Table.toList == (ByteArray.mk #[]).toList))
 (br (_x1.Kind != (3 : Int))
 (K0 false)
 (br (!_b2)
 (K0 false)
 (br (_x1.Kind != (1 : Int))
 (K0 ((_x1.Value_Kind == 0) && ((_x1.Value_Int == 0) && (_x1.Value_Text.toList == (ByteArray.mk #[]).toList))))
 (T.f_ref01_Right ⟨_x1.Value_Kind, _x1.Value_Int, _x1.Value_Text⟩
 (fun _b3 =>
 br _b3
 (br (_x1.Value_Kind != (1 : Int))
 (K0 true)
 (K0 (decide (_x1.Value_Int ≥ (0 : Int)))))
 (K0 false))))))
 (br (_x1.Kind != (1 : Int))
 (K0 ((_x1.Value_Kind == 0) && ((_x1.Value_Int == 0) && (_x1.Value_Text.toList == (ByteArray.mk #[]).toList))))
 (T.f_ref01_Right ⟨_x1.Value_Kind, _x1.Value_Int, _x1.Value_Text⟩
 (fun _b4 =>
 br _b4
 (br (_x1.Value_Kind != (1 : Int))
 (K0 true)
 (K0 (decide (_x1.Value_Int ≥ (0 : Int)))))
 (K0 false))))))))
 (T.f_ref10_IsName _x1.Name
 (fun _b5 =>
 T.f_ref10_IsName _x1.Table
 (fun _b6 =>
 br (_x1.Kind == (3 : Int))
 (br (!_b5)
 (K0 false)
 (br (!(_x1.Kind == (3 : Int)))
 (br (!(_x1.Name.toList == (ByteArray.mk #[]).toList))
 (K0 false)
 (br (!(_x1.Table.toList == (ByteArray.mk #[]).toList))
 (br (_x1.Kind != (3 : Int))
 (K0 false)
 (br (!_b6)
 (K0 false)
 (br (_x1.Kind != (1 : Int))
 (K0 ((_x1.Value_Kind == 0) && ((_x1.Value_Int == 0) && (_x1.Value_Text.toList == (ByteArray.mk #[]).toList))))
 (T.f_ref01_Right ⟨_x1.Value_Kind, _x1.Value_Int, _x1.Value_Text⟩
 (fun _b7 =>
 br _b7
 (br (_x1.Value_Kind != (1 : Int))
 (K0 true)
 (K0 (decide (_x1.Value_Int ≥ (0 : Int)))))
 (K0 false))))))
 (br (_x1.Kind != (1 : Int))
 (K0 ((_x1.Value_Kind == 0) && ((_x1.Value_Int == 0) && (_x1.Value_Text.toList == (ByteArray.mk #[]).toList))))
 (T.f_ref01_Right ⟨_x1.Value_Kind, _x1.Value_Int, _x1.Value_Text⟩
 (fun _b8 =>
 br _b8
 (br (_x1.Value_Kind != (1 : Int))
 (K0 true)
 (K0 (decide (_x1.Value_Int ≥ (0 : Int)))))
 (K0 false))))))
 (br (!(_x1.Table.toList == (ByteArray.mk #[]).toList))
 (br (_x1.Kind != (3 : Int))
 (K0 false)
 (br (!_b6)
 (K0 false)
 (br (_x1.Kind != (1 : Int))
 (K0 ((_x1.Value_Kind == 0) && ((_x1.Value_Int == 0) && (_x1.Value_Text.toList == (ByteArray.mk #[]).toList))))
 (T.f_ref01_Right ⟨_x1.Value_Kind, _x1.Value_Int, _x1.Value_Text⟩
 (fun _b9 =>
 br _b9
 (br (_x1.Value_Kind != (1 : Int))
 (K0 true)
 (K0 (decide (_x1.Value_Int ≥ (0 : Int)))))
 (K0 false))))))
 (br (_x1.Kind != (1 : Int))
 (K0 ((_x1.Value_Kind == 0) && ((_x1.Value_Int == 0) && (_x1.Value_Text.toList == (ByteArray.mk #[]).toList))))
 (T.f_ref01_Right ⟨_x1.Value_Kind, _x1.Value_Int, _x1.Value_Text⟩
 (fun _b10 =>
 br _b10
 (br (_x1.Value_Kind != (1 : Int))
 (K0 true)
 (K0 (decide (_x1.Value_Int ≥ (0 : Int)))))
 (K0 false)))))))
 (br (!(_x1.Kind == (3 : Int)))
 (br (!(_x1.Name.toList == (ByteArray.mk #[]).toList))
 (K0 false)
 (br (!(_x1.Table.toList == (ByteArray.mk #[]).toList))
 (br (_x1.Kind != (3 : Int))
 (K0 false)
 (br (!_b6)
 (K0 false)
 (br (_x1.Kind != (1 : Int))
 (K0 ((_x1.Value_Kind == 0) && ((_x1.Value_Int == 0) && (_x1.Value_Text.toList == (ByteArray.mk #[]).toList))))
 (T.f_ref01_Right ⟨_x1.Value_Kind, _x1.Value_Int, _x1.Value_Text⟩
 (fun _b11 =>
 br _b11
 (br (_x1.Value_Kind != (1 : Int))
 (K0 true)
 (K0 (decide (_x1.Value_Int ≥ (0 : Int)))))
 (K0 false))))))
 (br (_x1.Kind != (1 : Int))
 (K0 ((_x1.Value_Kind == 0) && ((_x1.Value_Int == 0) && (_x1.Value_Text.toList == (ByteArray.mk #[]).toList))))
 (T.f_ref01_Right ⟨_x1.Value_Kind, _x1.Value_Int, _x1.Value_Text⟩
 (fun _b12 =>
 br _b12
 (br (_x1.Value_Kind != (1 : Int))
 (K0 true)
 (K0 (decide (_x1.Value_Int ≥ (0 : Int)))))
 (K0 false))))))
 (br (!(_x1.Table.toList == (ByteArray.mk #[]).toList))
 (br (_x1.Kind != (3 : Int))
 (K0 false)
 (br (!_b6)
 (K0 false)
 (br (_x1.Kind != (1 : Int))
 (K0 ((_x1.Value_Kind == 0) && ((_x1.Value_Int == 0) && (_x1.Value_Text.toList == (ByteArray.mk #[]).toList))))
 (T.f_ref01_Right ⟨_x1.Value_Kind, _x1.Value_Int, _x1.Value_Text⟩
 (fun _b13 =>
 br _b13
 (br (_x1.Value_Kind != (1 : Int))
 (K0 true)
 (K0 (decide (_x1.Value_Int ≥ (0 : Int)))))
 (K0 false))))))
 (br (_x1.Kind != (1 : Int))
 (K0 ((_x1.Value_Kind == 0) && ((_x1.Value_Int == 0) && (_x1.Value_Text.toList == (ByteArray.mk #[]).toList))))
 (T.f_ref01_Right ⟨_x1.Value_Kind, _x1.Value_Int, _x1.Value_Text⟩
 (fun _b14 =>
 br _b14
 (br (_x1.Value_Kind != (1 : Int))
 (K0 true)
 (K0 (decide (_x1.Value_Int ≥ (0 : Int)))))
 (K0 false))))))))))))
 (br (_x1.Kind == (6 : Int))
 (br (decide (_x1.Op < (1 : Int)))
 (K0 false)
 (br (decide (_x1.Op > (6 : Int)))
 (K0 false)
 (br (_x1.Kind == (2 : Int))
 (T.f_ref10_IsName _x1.Name
 (fun _b15 =>
 T.f_ref10_IsName _x1.Table
 (fun _b16 =>
 br (!_b15)
 (K0 false)
 (br (!(_x1.Table.toList == (ByteArray.mk #[]).toList))
 (br (_x1.Kind != (3 : Int))
 (K0 false)
 (br (!_b16)
 (K0 false)
 (br (_x1.Kind != (1 : Int))
 (K0 ((_x1.Value_Kind == 0) && ((_x1.Value_Int == 0) && (_x1.Value_Text.toList == (ByteArray.mk #[]).toList))))
 (T.f_ref01_Right ⟨_x1.Value_Kind, _x1.Value_Int, _x1.Value_Text⟩
 (fun _b17 =>
 br _b17
 (br (_x1.Value_Kind != (1 : Int))
 (K0 true)
 (K0 (decide (_x1.Value_Int ≥ (0 : Int)))))
 (K0 false))))))
 (br (_x1.Kind != (1 : Int))
 (K0 ((_x1.Value_Kind == 0) && ((_x1.Value_Int == 0) && (_x1.Value_Text.toList == (ByteArray.mk #[]).toList))))
 (T.f_ref01_Right ⟨_x1.Value_Kind, _x1.Value_Int, _x1.Value_Text⟩
 (fun _b18 =>
 br _b18
 (br (_x1.Value_Kind != (1 : Int))
 (K0 true)
 (K0 (decide (_x1.Value_Int ≥ (0 : Int)))))
 (K0 false))))))))
 (T.f_ref10_IsName _x1.Name
 (fun _b19 =>
 T.f_ref10_IsName _x1.Table
 (fun _b20 =>
 br (_x1.Kind == (3 : Int))
 (br (!_b19)
 (K0 false)
 (br (!(_x1.Kind == (3 : Int)))
 (br (!(_x1.Name.toList == (ByteArray.mk #[]).toList))
 (K0 false)
 (br (!(_x1.Table.toList == (ByteArray.mk #[]).toList))
 (br (_x1.Kind != (3 : Int))
 (K0 false)
 (br (!_b20)
 (K0 false)
 (br (_x1.Kind != (1 : Int))
 (K0 ((_x1.Value_Kind == 0) && ((_x1.Value_Int == 0) && (_x1.Value_Text.toList == (ByteArray.mk #[]).toList))))
 (T.f_ref01_Right ⟨_x1.Value_Kind, _x1.Value_Int, _x1.Value_Text⟩
 (fun _b21 =>
 br _b21
 (br (_x1.Value_Kind != (1 : Int))
 (K0 true)
 (K0 (decide (_x1.Value_Int ≥ (0 : Int)))))
 (K0 false))))))
 (br (_x1.Kind != (1 : Int))
 (K0 ((_x1.Value_Kind == 0) && ((_x1.Value_Int == 0) && (_x1.Value_Text.toList == (ByteArray.mk #[]).toList))))
 (T.f_ref01_Right ⟨_x1.Value_Kind, _x1.Value_Int, _x1.Value_Text⟩
 (fun _b22 =>
 br _b22
 (br (_x1.Value_Kind != (1 : Int))
 (K0 true)
 (K0 (decide (_x1.Value_Int ≥ (0 : Int)))))
 (K0 false))))))
 (br (!(_x1.Table.toList == (ByteArray.mk #[]).toList))
 (br (_x1.Kind != (3 : Int))
 (K0 false)
 (br (!_b20)
 (K0 false)
 (br (_x1.Kind != (1 : Int))
 (K0 ((_x1.Value_Kind == 0) && ((_x1.Value_Int == 0) && (_x1.Value_Text.toList == (ByteArray.mk #[]).toList))))
 (T.f_ref01_Right ⟨_x1.Value_Kind, _x1.Value_Int, _x1.Value_Text⟩
 (fun _b23 =>
 br _b23
 (br (_x1.Value_Kind != (1 : Int))
 (K0 true)
 (K0 (decide (_x1.Value_Int ≥ (0 : Int)))))
 (K0 false))))))
 (br (_x1.Kind != (1 : Int))
 (K0 ((_x1.Value_Kind == 0) && ((_x1.Value_Int == 0) && (_x1.Value_Text.toList == (ByteArray.mk #[]).toList))))
 (T.f_ref01_Right ⟨_x1.Value_Kind, _x1.Value_Int, _x1.Value_Text⟩
 (fun _b24 =>
 br _b24
 (br (_x1.Value_Kind != (1 : Int))
 (K0 true)
 (K0 (decide (_x1.Value_Int ≥ (0 : Int)))))
 (K0 false)))))))
 (br (!(_x1.Kind == (3 : Int)))
 (br (!(_x1.Name.toList == (ByteArray.mk #[]).toList))
 (K0 false)
 (br (!(_x1.Table.toList == (ByteArray.mk #[]).toList))
 (br (_x1.Kind != (3 : Int))
 (K0 false)
 (br (!_b20)
 (K0 false)
 (br (_x1.Kind != (1 : Int))
 (K0 ((_x1.Value_Kind == 0) && ((_x1.Value_Int == 0) && (_x1.Value_Text.toList == (ByteArray.mk #[]).toList))))
 (T.f_ref01_Right ⟨_x1.Value_Kind, _x1.Value_Int, _x1.Value_Text⟩
 (fun _b25 =>
 br _b25
 (br (_x1.Value_Kind != (1 : Int))
 (K0 true)
 (K0 (decide (_x1.Value_Int ≥ (0 : Int)))))
 (K0 false))))))
 (br (_x1.Kind != (1 : Int))
 (K0 ((_x1.Value_Kind == 0) && ((_x1.Value_Int == 0) && (_x1.Value_Text.toList == (ByteArray.mk #[]).toList))))
 (T.f_ref01_Right ⟨_x1.Value_Kind, _x1.Value_Int, _x1.Value_Text⟩
 (fun _b26 =>
 br _b26
 (br (_x1.Value_Kind != (1 : Int))
 (K0 true)
 (K0 (decide (_x1.Value_Int ≥ (0 : Int)))))
 (K0 false))))))
 (br (!(_x1.Table.toList == (ByteArray.mk #[]).toList))
 (br (_x1.Kind != (3 : Int))
 (K0 false)
 (br (!_b20)
 (K0 false)
 (br (_x1.Kind != (1 : Int))
 (K0 ((_x1.Value_Kind == 0) && ((_x1.Value_Int == 0) && (_x1.Value_Text.toList == (ByteArray.mk #[]).toList))))
 (T.f_ref01_Right ⟨_x1.Value_Kind, _x1.Value_Int, _x1.Value_Text⟩
 (fun _b27 =>
 br _b27
 (br (_x1.Value_Kind != (1 : Int))
 (K0 true)
 (K0 (decide (_x1.Value_Int ≥ (0 : Int)))))
 (K0 false))))))
 (br (_x1.Kind != (1 : Int))
 (K0 ((_x1.Value_Kind == 0) && ((_x1.Value_Int == 0) && (_x1.Value_Text.toList == (ByteArray.mk #[]).toList))))
 (T.f_ref01_Right ⟨_x1.Value_Kind, _x1.Value_Int, _x1.Value_Text⟩
 (fun _b28 =>
 br _b28
 (br (_x1.Value_Kind != (1 : Int))
 (K0 true)
 (K0 (decide (_x1.Value_Int ≥ (0 : Int)))))
 (K0 false))))))))))))
 (br (_x1.Kind == (7 : Int))
 (br (decide (_x1.Op < (0 : Int)))
 (K0 false)
 (br (decide (_x1.Op > (1 : Int)))
 (K0 false)
 (br (_x1.Kind == (2 : Int))
 (T.f_ref10_IsName _x1.Name
 (fun _b29 =>
 T.f_ref10_IsName _x1.Table
 (fun _b30 =>
 br (!_b29)
 (K0 false)
 (br (!(_x1.Table.toList == (ByteArray.mk #[]).toList))
 (br (_x1.Kind != (3 : Int))
 (K0 false)
 (br (!_b30)
 (K0 false)
 (br (_x1.Kind != (1 : Int))
 (K0 ((_x1.Value_Kind == 0) && ((_x1.Value_Int == 0) && (_x1.Value_Text.toList == (ByteArray.mk #[]).toList))))
 (T.f_ref01_Right ⟨_x1.Value_Kind, _x1.Value_Int, _x1.Value_Text⟩
 (fun _b31 =>
 br _b31
 (br (_x1.Value_Kind != (1 : Int))
 (K0 true)
 (K0 (decide (_x1.Value_Int ≥ (0 : Int)))))
 (K0 false))))))
 (br (_x1.Kind != (1 : Int))
 (K0 ((_x1.Value_Kind == 0) && ((_x1.Value_Int == 0) && (_x1.Value_Text.toList == (ByteArray.mk #[]).toList))))
 (T.f_ref01_Right ⟨_x1.Value_Kind, _x1.Value_Int, _x1.Value_Text⟩
 (fun _b32 =>
 br _b32
 (br (_x1.Value_Kind != (1 : Int))
 (K0 true)
 (K0 (decide (_x1.Value_Int ≥ (0 : Int)))))
 (K0 false))))))))
 (T.f_ref10_IsName _x1.Name
 (fun _b33 =>
 T.f_ref10_IsName _x1.Table
 (fun _b34 =>
 br (_x1.Kind == (3 : Int))
 (br (!_b33)
 (K0 false)
 (br (!(_x1.Kind == (3 : Int)))
 (br (!(_x1.Name.toList == (ByteArray.mk #[]).toList))
 (K0 false)
 (br (!(_x1.Table.toList == (ByteArray.mk #[]).toList))
 (br (_x1.Kind != (3 : Int))
 (K0 false)
 (br (!_b34)
 (K0 false)
 (br (_x1.Kind != (1 : Int))
 (K0 ((_x1.Value_Kind == 0) && ((_x1.Value_Int == 0) && (_x1.Value_Text.toList == (ByteArray.mk #[]).toList))))
 (T.f_ref01_Right ⟨_x1.Value_Kind, _x1.Value_Int, _x1.Value_Text⟩
 (fun _b35 =>
 br _b35
 (br (_x1.Value_Kind != (1 : Int))
 (K0 true)
 (K0 (decide (_x1.Value_Int ≥ (0 : Int)))))
 (K0 false))))))
 (br (_x1.Kind != (1 : Int))
 (K0 ((_x1.Value_Kind == 0) && ((_x1.Value_Int == 0) && (_x1.Value_Text.toList == (ByteArray.mk #[]).toList))))
 (T.f_ref01_Right ⟨_x1.Value_Kind, _x1.Value_Int, _x1.Value_Text⟩
 (fun _b36 =>
 br _b36
 (br (_x1.Value_Kind != (1 : Int))
 (K0 true)
 (K0 (decide (_x1.Value_Int ≥ (0 : Int)))))
 (K0 false))))))
 (br (!(_x1.Table.toList == (ByteArray.mk #[]).toList))
 (br (_x1.Kind != (3 : Int))
 (K0 false)
 (br (!_b34)
 (K0 false)
 (br (_x1.Kind != (1 : Int))
 (K0 ((_x1.Value_Kind == 0) && ((_x1.Value_Int == 0) && (_x1.Value_Text.toList == (ByteArray.mk #[]).toList))))
 (T.f_ref01_Right ⟨_x1.Value_Kind, _x1.Value_Int, _x1.Value_Text⟩
 (fun _b37 =>
 br _b37
 (br (_x1.Value_Kind != (1 : Int))
 (K0 true)
 (K0 (decide (_x1.Value_Int ≥ (0 : Int)))))
 (K0 false))))))
 (br (_x1.Kind != (1 : Int))
 (K0 ((_x1.Value_Kind == 0) && ((_x1.Value_Int == 0) && (_x1.Value_Text.toList == (ByteArray.mk #[]).toList))))
 (T.f_ref01_Right ⟨_x1.Value_Kind, _x1.Value_Int, _x1.Value_Text⟩
 (fun _b38 =>
 br _b38
 (br (_x1.Value_Kind != (1 : Int))
 (K0 true)
 (K0 (decide (_x1.Value_Int ≥ (0 : Int)))))
 (K0 false)))))))
 (br (!(_x1.Kind == (3 : Int)))
 (br (!(_x1.Name.toList == (ByteArray.mk #[]).toList))
 (K0 false)
 (br (!(_x1.Table.toList == (ByteArray.mk #[]).toList))
 (br (_x1.Kind != (3 : Int))
 (K0 false)
 (br (!_b34)
 (K0 false)
 (br (_x1.Kind != (1 : Int))
 (K0 ((_x1.Value_Kind == 0) && ((_x1.Value_Int == 0) && (_x1.Value_Text.toList == (ByteArray.mk #[]).toList))))
 (T.f_ref01_Right ⟨_x1.Value_Kind, _x1.Value_Int, _x1.Value_Text⟩
 (fun _b39 =>
 br _b39
 (br (_x1.Value_Kind != (1 : Int))
 (K0 true)
 (K0 (decide (_x1.Value_Int ≥ (0 : Int)))))
 (K0 false))))))
 (br (_x1.Kind != (1 : Int))
 (K0 ((_x1.Value_Kind == 0) && ((_x1.Value_Int == 0) && (_x1.Value_Text.toList == (ByteArray.mk #[]).toList))))
 (T.f_ref01_Right ⟨_x1.Value_Kind, _x1.Value_Int, _x1.Value_Text⟩
 (fun _b40 =>
 br _b40
 (br (_x1.Value_Kind != (1 : Int))
 (K0 true)
 (K0 (decide (_x1.Value_Int ≥ (0 : Int)))))
 (K0 false))))))
 (br (!(_x1.Table.toList == (ByteArray.mk #[]).toList))
 (br (_x1.Kind != (3 : Int))
 (K0 false)
 (br (!_b34)
 (K0 false)
 (br (_x1.Kind != (1 : Int))
 (K0 ((_x1.Value_Kind == 0) && ((_x1.Value_Int == 0) && (_x1.Value_Text.toList == (ByteArray.mk #[]).toList))))
 (T.f_ref01_Right ⟨_x1.Value_Kind, _x1.Value_Int, _x1.Value_Text⟩
 (fun _b41 =>
 br _b41
 (br (_x1.Value_Kind != (1 : Int))
 (K0 true)
 (K0 (decide (_x1.Value_Int ≥ (0 : Int)))))
 (K0 false))))))
 (br (_x1.Kind != (1 : Int))
 (K0 ((_x1.Value_Kind == 0) && ((_x1.Value_Int == 0) && (_x1.Value_Text.toList == (ByteArray.mk #[]).toList))))
 (T.f_ref01_Right ⟨_x1.Value_Kind, _x1.Value_Int, _x1.Value_Text⟩
 (fun _b42 =>
 br _b42
 (br (_x1.Value_Kind != (1 : Int))
 (K0 true)
 (K0 (decide (_x1.Value_Int ≥ (0 : Int)))))
 (K0 false))))))))))))
 (br (decide (_x1.Op < (0 : Int)))
 (K0 false)
 (br (decide (_x1.Op > (0 : Int)))
 (K0 false)
 (br (_x1.Kind == (2 : Int))
 (T.f_ref10_IsName _x1.Name
 (fun _b43 =>
 T.f_ref10_IsName _x1.Table
 (fun _b44 =>
 br (!_b43)
 (K0 false)
 (br (!(_x1.Table.toList == (ByteArray.mk #[]).toList))
 (br (_x1.Kind != (3 : Int))
 (K0 false)
 (br (!_b44)
 (K0 false)
 (br (_x1.Kind != (1 : Int))
 (K0 ((_x1.Value_Kind == 0) && ((_x1.Value_Int == 0) && (_x1.Value_Text.toList == (ByteArray.mk #[]).toList))))
 (T.f_ref01_Right ⟨_x1.Value_Kind, _x1.Value_Int, _x1.Value_Text⟩
 (fun _b45 =>
 br _b45
 (br (_x1.Value_Kind != (1 : Int))
 (K0 true)
 (K0 (decide (_x1.Value_Int ≥ (0 : Int)))))
 (K0 false))))))
 (br (_x1.Kind != (1 : Int))
 (K0 ((_x1.Value_Kind == 0) && ((_x1.Value_Int == 0) && (_x1.Value_Text.toList == (ByteArray.mk #[]).toList))))
 (T.f_ref01_Right ⟨_x1.Value_Kind, _x1.Value_Int, _x1.Value_Text⟩
 (fun _b46 =>
 br _b46
 (br (_x1.Value_Kind != (1 : Int))
 (K0 true)
 (K0 (decide (_x1.Value_Int ≥ (0 : Int)))))
 (K0 false))))))))
 (T.f_ref10_IsName _x1.Name
 (fun _b47 =>
 T.f_ref10_IsName _x1.Table
 (fun _b48 =>
 br (_x1.Kind == (3 : Int))
 (br (!_b47)
 (K0 false)
 (br (!(_x1.Kind == (3 : Int)))
 (br (!(_x1.Name.toList == (ByteArray.mk #[]).toList))
 (K0 false)
 (br (!(_x1.Table.toList == (ByteArray.mk #[]).toList))
 (br (_x1.Kind != (3 : Int))
 (K0 false)
 (br (!_b48)
 (K0 false)
 (br (_x1.Kind != (1 : Int))
 (K0 ((_x1.Value_Kind == 0) && ((_x1.Value_Int == 0) && (_x1.Value_Text.toList == (ByteArray.mk #[]).toList))))
 (T.f_ref01_Right ⟨_x1.Value_Kind, _x1.Value_Int, _x1.Value_Text⟩
 (fun _b49 =>
 br _b49
 (br (_x1.Value_Kind != (1 : Int))
 (K0 true)
 (K0 (decide (_x1.Value_Int ≥ (0 : Int)))))
 (K0 false))))))
 (br (_x1.Kind != (1 : Int))
 (K0 ((_x1.Value_Kind == 0) && ((_x1.Value_Int == 0) && (_x1.Value_Text.toList == (ByteArray.mk #[]).toList))))
 (T.f_ref01_Right ⟨_x1.Value_Kind, _x1.Value_Int, _x1.Value_Text⟩
 (fun _b50 =>
 br _b50
 (br (_x1.Value_Kind != (1 : Int))
 (K0 true)
 (K0 (decide (_x1.Value_Int ≥ (0 : Int)))))
 (K0 false))))))
 (br (!(_x1.Table.toList == (ByteArray.mk #[]).toList))
 (br (_x1.Kind != (3 : Int))
 (K0 false)
 (br (!_b48)
 (K0 false)
 (br (_x1.Kind != (1 : Int))
 (K0 ((_x1.Value_Kind == 0) && ((_x1.Value_Int == 0) && (_x1.Value_Text.toList == (ByteArray.mk #[]).toList))))
 (T.f_ref01_Right ⟨_x1.Value_Kind, _x1.Value_Int, _x1.Value_Text⟩
 (fun _b51 =>
 br _b51
 (br (_x1.Value_Kind != (1 : Int))
 (K0 true)
 (K0 (decide (_x1.Value_Int ≥ (0 : Int)))))
 (K0 false))))))
 (br (_x1.Kind != (1 : Int))
 (K0 ((_x1.Value_Kind == 0) && ((_x1.Value_Int == 0) && (_x1.Value_Text.toList == (ByteArray.mk #[]).toList))))
 (T.f_ref01_Right ⟨_x1.Value_Kind, _x1.Value_Int, _x1.Value_Text⟩
 (fun _b52 =>
 br _b52
 (br (_x1.Value_Kind != (1 : Int))
 (K0 true)
 (K0 (decide (_x1.Value_Int ≥ (0 : Int)))))
 (K0 false)))))))
 (br (!(_x1.Kind == (3 : Int)))
 (br (!(_x1.Name.toList == (ByteArray.mk #[]).toList))
 (K0 false)
 (br (!(_x1.Table.toList == (ByteArray.mk #[]).toList))
 (br (_x1.Kind != (3 : Int))
 (K0 false)
 (br (!_b48)
 (K0 false)
 (br (_x1.Kind != (1 : Int))
 (K0 ((_x1.Value_Kind == 0) && ((_x1.Value_Int == 0) && (_x1.Value_Text.toList == (ByteArray.mk #[]).toList))))
 (T.f_ref01_Right ⟨_x1.Value_Kind, _x1.Value_Int, _x1.Value_Text⟩
 (fun _b53 =>
 br _b53
 (br (_x1.Value_Kind != (1 : Int))
 (K0 true)
 (K0 (decide (_x1.Value_Int ≥ (0 : Int)))))
 (K0 false))))))
 (br (_x1.Kind != (1 : Int))
 (K0 ((_x1.Value_Kind == 0) && ((_x1.Value_Int == 0) && (_x1.Value_Text.toList == (ByteArray.mk #[]).toList))))
 (T.f_ref01_Right ⟨_x1.Value_Kind, _x1.Value_Int, _x1.Value_Text⟩
 (fun _b54 =>
 br _b54
 (br (_x1.Value_Kind != (1 : Int))
 (K0 true)
 (K0 (decide (_x1.Value_Int ≥ (0 : Int)))))
 (K0 false))))))
 (br (!(_x1.Table.toList == (ByteArray.mk #[]).toList))
 (br (_x1.Kind != (3 : Int))
 (K0 false)
 (br (!_b48)
 (K0 false)
 (br (_x1.Kind != (1 : Int))
 (K0 ((_x1.Value_Kind == 0) && ((_x1.Value_Int == 0) && (_x1.Value_Text.toList == (ByteArray.mk #[]).toList))))
 (T.f_ref01_Right ⟨_x1.Value_Kind, _x1.Value_Int, _x1.Value_Text⟩
 (fun _b55 =>
 br _b55
 (br (_x1.Value_Kind != (1 : Int))
 (K0 true)
 (K0 (decide (_x1.Value_Int ≥ (0 : Int)))))
 (K0 false))))))
 (br (_x1.Kind != (1 : Int))
 (K0 ((_x1.Value_Kind == 0) && ((_x1.Value_Int == 0) && (_x1.Value_Text.toList == (ByteArray.mk #[]).toList))))
 (T.f_ref01_Right ⟨_x1.Value_Kind, _x1.Value_Int, _x1.Value_Text⟩
 (fun _b56 =>
 br _b56
 (br (_x1.Value_Kind != (1 : Int))
 (K0 true)
 (K0 (decide (_x1.Value_Int ≥ (0 : Int)))))
 (K0 false))))))))))))))
def F_ref01_Right (T : Tab) (_x1 : S_i_Value) (K0 : Bool → Prop) : Prop :=
 br (_x1.Kind == (0 : Int))
 (br (_x1.Int == (0 : Int))
 (K0 (_x1.Text.toList == (ByteArray.mk #[]).toList))
 (K0 false))
 (br (_x1.Kind == (1 : Int))
 (br (decide (_x1.Int ≥ ((-4611686018427387904) : Int)))
 (br (decide (_x1.Int ≤ (4611686018427387904 : Int)))
 (K0 (_x1.Text.toList == (ByteArray.mk #[]).toList))
 (K0 false))
 (K0 false))
 (br (_x1.Kind == (2 : Int))
 (br (_x1.Int == (0 : Int))
 (K0 (_x1.Text.toList == (ByteArray.mk #[]).toList))
 (br (_x1.Int == (1 : Int))
 (K0 (_x1.Text.toList == (ByteArray.mk #[]).toList))
 (K0 false)))
 (br (_x1.Kind == (3 : Int))
 (br (_x1.Int == (0 : Int))
 (K0 (decide ((_x1.Text.size : Int) ≤ (64 : Int))))
 (K0 false))
 (K0 false))))
abbrev YL_ref11_rightSelect_6 := Int → S_i_Stmt → Prop → (S_i_Stmt → Prop) → Prop
def B_ref11_rightSelect_6 (T : Tab) (R : YL_ref11_rightSelect_6) (_n1 : Int) (_x1 : S_i_Stmt) (K0 : Prop) (K1 : S_i_Stmt → Prop) : Prop :=
 br (decide (_n1 < (_x1.Limit.n : Int)))
 (0 ≤ _n1 ∧ _n1 < (_x1.Limit.n : Int) ∧
 asI_i64 (_x1.Limit.g (_n1.toNat)) fun n34 =>
 br (decide (n34 < (0 : Int)))
 (K0 )
 (0 ≤ _n1 ∧ _n1 < (_x1.Limit.n : Int) ∧
 asI_i64 (_x1.Limit.g (_n1.toNat)) fun n35 =>
 br (decide (n35 > (4611686018427387904 : Int)))
 (K0 )
 (R (W (_n1 + 1)) _x1 K0 K1)))
 (K1 _x1)
def L_ref11_rightSelect_6 (T : Tab) : Nat → YL_ref11_rightSelect_6
  | 0 => fun _ _ _ _ => False
  | n + 1 => B_ref11_rightSelect_6 T (L_ref11_rightSelect_6 T n)
abbrev YL_ref11_rightSelect_4 := Int → S_i_Stmt → Prop → (S_i_Stmt → Prop) → Prop
def B_ref11_rightSelect_4 (T : Tab) (R : YL_ref11_rightSelect_4) (_n1 : Int) (_x1 : S_i_Stmt) (K0 : Prop) (K1 : S_i_Stmt → Prop) : Prop :=
 br (decide (_n1 < (_x1.Sorts.n : Int)))
 (0 ≤ _n1 ∧ _n1 < (_x1.Sorts.n : Int) ∧
 as_i_Sort (_x1.Sorts.g (_n1.toNat)) fun x25 =>
 br (decide (x25.Item < (0 : Int)))
 (K0 )
 (0 ≤ _n1 ∧ _n1 < (_x1.Sorts.n : Int) ∧
 as_i_Sort (_x1.Sorts.g (_n1.toNat)) fun x26 =>
 br (decide (x26.Item > (4611686018427387904 : Int)))
 (K0 )
 (R (W (_n1 + 1)) _x1 K0 K1)))
 (K1 _x1)
def L_ref11_rightSelect_4 (T : Tab) : Nat → YL_ref11_rightSelect_4
  | 0 => fun _ _ _ _ => False
  | n + 1 => B_ref11_rightSelect_4 T (L_ref11_rightSelect_4 T n)
abbrev YL_ref11_rightSelect_2 := Int → S_i_Stmt → Prop → (S_i_Stmt → Prop) → Prop
def B_ref11_rightSelect_2 (T : Tab) (R : YL_ref11_rightSelect_2) (_n1 : Int) (_x1 : S_i_Stmt) (K0 : Prop) (K1 : S_i_Stmt → Prop) : Prop :=
 br (decide (_n1 < (_x1.Groups.n : Int)))
 (0 ≤ _n1 ∧ _n1 < (_x1.Groups.n : Int) ∧
 as_i_Expr (_x1.Groups.g (_n1.toNat)) fun x15 =>
 T.f_ref11_RightExpr x15 1
 (fun _b1 =>
 br (!_b1)
 (K0 )
 (0 ≤ _n1 ∧ _n1 < (_x1.Groups.n : Int) ∧
 as_i_Expr (_x1.Groups.g (_n1.toNat)) fun x17 =>
 br (x17.Kind != (3 : Int))
 (K0 )
 (R (W (_n1 + 1)) _x1 K0 K1))))
 (K1 _x1)
def L_ref11_rightSelect_2 (T : Tab) : Nat → YL_ref11_rightSelect_2
  | 0 => fun _ _ _ _ => False
  | n + 1 => B_ref11_rightSelect_2 T (L_ref11_rightSelect_2 T n)
abbrev YL_ref11_rightSelect_0 := Int → S_i_Stmt → Prop → (S_i_Stmt → Prop) → Prop
def B_ref11_rightSelect_0 (T : Tab) (R : YL_ref11_rightSelect_0) (_n1 : Int) (_x1 : S_i_Stmt) (K0 : Prop) (K1 : S_i_Stmt → Prop) : Prop :=
 br (decide (_n1 < (_x1.Items.n : Int)))
 (0 ≤ _n1 ∧ _n1 < (_x1.Items.n : Int) ∧
 as_i_Expr (_x1.Items.g (_n1.toNat)) fun x5 =>
 T.f_ref11_rightItem x5
 (fun _b1 =>
 br (!_b1)
 (K0 )
 (R (W (_n1 + 1)) _x1 K0 K1)))
 (K1 _x1)
def L_ref11_rightSelect_0 (T : Tab) : Nat → YL_ref11_rightSelect_0
  | 0 => fun _ _ _ _ => False
  | n + 1 => B_ref11_rightSelect_0 T (L_ref11_rightSelect_0 T n)
def F_ref11_rightSelect (T : Tab) (_x1 : S_i_Stmt) (K0 : Bool → Prop) : Prop :=
 L_ref11_rightSelect_0 T T.fuel 0 _x1
 (K0 false)
 (fun x9 =>
 L_ref11_rightSelect_2 T T.fuel 0 x9
 (K0 false)
 (fun x20 =>
 L_ref11_rightSelect_4 T T.fuel 0 x20
 (K0 false)
 (fun x29 =>
 L_ref11_rightSelect_6 T T.fuel 0 x29
 (K0 false)
 (fun x38 =>
 T.f_ref10_IsName x38.Join
 (fun _b1 =>
 T.f_ref11_rights x38.On
 (fun _b2 =>
 br _b1
 (br ((x38.On.n : Int) == (1 : Int))
 (br _b2
 (br (x38.Star == ((x38.Items.n : Int) == (0 : Int)))
 (br (decide ((x38.Items.n : Int) ≤ (8 : Int)))
 (br (decide ((x38.Groups.n : Int) ≤ (8 : Int)))
 (br (decide ((x38.Sorts.n : Int) ≤ (8 : Int)))
 (br (decide ((x38.Limit.n : Int) ≤ (1 : Int)))
 (K0 ((x38.Sets.n : Int) == (0 : Int)))
 (K0 false))
 (K0 false))
 (K0 false))
 (K0 false))
 (K0 false))
 (K0 false))
 (br (x38.Join.toList == (ByteArray.mk #[]).toList)
 (br _b2
 (br ((x38.On.n : Int) == (0 : Int))
 (br (x38.Star == ((x38.Items.n : Int) == (0 : Int)))
 (br (decide ((x38.Items.n : Int) ≤ (8 : Int)))
 (br (decide ((x38.Groups.n : Int) ≤ (8 : Int)))
 (br (decide ((x38.Sorts.n : Int) ≤ (8 : Int)))
 (br (decide ((x38.Limit.n : Int) ≤ (1 : Int)))
 (K0 ((x38.Sets.n : Int) == (0 : Int)))
 (K0 false))
 (K0 false))
 (K0 false))
 (K0 false))
 (K0 false))
 (K0 false))
 (K0 false))
 (br _b2
 (K0 false)
 (K0 false))))
 (br (x38.Join.toList == (ByteArray.mk #[]).toList)
 (br _b2
 (br ((x38.On.n : Int) == (0 : Int))
 (br (x38.Star == ((x38.Items.n : Int) == (0 : Int)))
 (br (decide ((x38.Items.n : Int) ≤ (8 : Int)))
 (br (decide ((x38.Groups.n : Int) ≤ (8 : Int)))
 (br (decide ((x38.Sorts.n : Int) ≤ (8 : Int)))
 (br (decide ((x38.Limit.n : Int) ≤ (1 : Int)))
 (K0 ((x38.Sets.n : Int) == (0 : Int)))
 (K0 false))
 (K0 false))
 (K0 false))
 (K0 false))
 (K0 false))
 (K0 false))
 (K0 false))
 (br _b2
 (K0 false)
 (K0 false)))))))))
def F_ref11_rightItem (T : Tab) (_x1 : S_i_Expr) (K0 : Bool → Prop) : Prop :=
 br (decide (_x1.Kind < (11 : Int)))
 (T.f_ref11_RightExpr _x1 1
 (fun _b1 =>
 K0 _b1))
 (br (decide (_x1.Kind > (14 : Int)))
 (T.f_ref11_RightExpr _x1 1
 (fun _b2 =>
 K0 _b2))
 (br (_x1.Op != (0 : Int))
 (K0 false)
 (br (!(_x1.Name.toList == (ByteArray.mk #[]).toList))
 (K0 false)
 (br (!(_x1.Table.toList == (ByteArray.mk #[]).toList))
 (K0 false)
 (br (!((_x1.Value_Kind == 0) && ((_x1.Value_Int == 0) && (_x1.Value_Text.toList == (ByteArray.mk #[]).toList))))
 (K0 false)
 (br (_x1.Kind == (11 : Int))
 (K0 ((_x1.Kids.n : Int) == (0 : Int)))
 (br ((_x1.Kids.n : Int) != (1 : Int))
 (K0 false)
 (0 ≤ (0 : Int) ∧ (0 : Int) < (_x1.Kids.n : Int) ∧
 as_i_Expr (_x1.Kids.g 0) fun x3 =>
 T.f_ref11_RightExpr x3 2
 (fun _b3 =>
 K0 _b3)))))))))
def F_ra_names (T : Tab) (_x1 : S_i_Stmt) (_a1 : Arr) (_a2 : Arr) (_a3 : Arr) (_n1 : Int) (_n2 : Int) (K0 : Arr → Arr → Arr → Arr → Int → Int → Prop) : Prop :=
 T.f_ref13_table ⟨_a1, _a2⟩ _x1.Table
 (fun _n3 =>
 br (decide (_n3 < (0 : Int)))
 (T.f_ra_fails 82 _x1.At _a1 _a2 _a3 _n1 _n2
 (fun _a4 _a5 _a6 _n4 _n5 =>
 K0 (lst true []) _a4 _a5 _a6 _n4 _n5))
 (br (_x1.Join.toList == (ByteArray.mk #[]).toList)
 (K0 (lst true ([(PV.int .i64 _n3)])) _a1 _a2 _a3 _n1 _n2)
 (T.f_ref13_table ⟨_a1, _a2⟩ _x1.Join
 (fun _n6 =>
 br (decide (_n6 < (0 : Int)))
 (T.f_ra_fails 82 _x1.JoinAt _a1 _a2 _a3 _n1 _n2
 (fun _a7 _a8 _a9 _n7 _n8 =>
 br (_n6 == _n3)
 (T.f_ra_fails 81 _x1.JoinAt _a7 _a8 _a9 _n7 _n8
 (fun _a10 _a11 _a12 _n9 _n10 =>
 K0 (lst true ([(PV.int .i64 _n3), (PV.int .i64 _n6)])) _a10 _a11 _a12 _n9 _n10))
 (K0 (lst true ([(PV.int .i64 _n3), (PV.int .i64 _n6)])) _a7 _a8 _a9 _n7 _n8)))
 (br (_n6 == _n3)
 (T.f_ra_fails 81 _x1.JoinAt _a1 _a2 _a3 _n1 _n2
 (fun _a13 _a14 _a15 _n11 _n12 =>
 K0 (lst true ([(PV.int .i64 _n3), (PV.int .i64 _n6)])) _a13 _a14 _a15 _n11 _n12))
 (K0 (lst true ([(PV.int .i64 _n3), (PV.int .i64 _n6)])) _a1 _a2 _a3 _n1 _n2))))))
abbrev YL_ref13_table_0 := ByteArray → Int → S_i_Catalog → (Int → Prop) → Prop → Prop
def B_ref13_table_0 (T : Tab) (R : YL_ref13_table_0) (_s1 : ByteArray) (_n1 : Int) (_x1 : S_i_Catalog) (K0 : Int → Prop) (K1 : Prop) : Prop :=
 br (decide (_n1 < (_x1.Tables.n : Int)))
 (0 ≤ _n1 ∧ _n1 < (_x1.Tables.n : Int) ∧
 as_i_Table (_x1.Tables.g (_n1.toNat)) fun x5 =>
 br (x5.Name.toList == _s1.toList)
 (K0 _n1)
 (R _s1 (W (_n1 + 1)) _x1 K0 K1))
 (K1 )
def L_ref13_table_0 (T : Tab) : Nat → YL_ref13_table_0
  | 0 => fun _ _ _ _ _ => False
  | n + 1 => B_ref13_table_0 T (L_ref13_table_0 T n)
def F_ref13_table (T : Tab) (_x1 : S_i_Catalog) (_s1 : ByteArray) (K0 : Int → Prop) : Prop :=
 L_ref13_table_0 T T.fuel _s1 0 _x1
 (fun n9 =>
 K0 n9)
 (K0 (-1))
def F_ra_fails (T : Tab) (_n1 : Int) (_n2 : Int) (_a1 : Arr) (_a2 : Arr) (_a3 : Arr) (_n3 : Int) (_n4 : Int) (K0 : Arr → Arr → Arr → Int → Int → Prop) : Prop :=
 br (_n3 == (0 : Int))
 (K0 _a1 _a2 _a3 _n1 _n2)
 (K0 _a1 _a2 _a3 _n3 _n4)
abbrev YL_ra_truths_0 := Arr → Int → S_ra → (List PV) → (S_ra → (List PV) → Prop) → Prop
def B_ra_truths_0 (T : Tab) (R : YL_ra_truths_0) (_a1 : Arr) (_n1 : Int) (_x1 : S_ra) (_r1 : List PV) (K0 : S_ra → (List PV) → Prop) : Prop :=
 br (decide (_n1 < (_a1.n : Int)))
 (0 ≤ _n1 ∧ _n1 < (_a1.n : Int) ∧
 as_i_Expr (_a1.g (_n1.toNat)) fun x8 =>
 T.f_ra_of x8 2 _x1
 (fun _x2 _x3 =>
 (_r1.length + 1) * 80 ≤ 140737488355328 ∧
 R _a1 (W (_n1 + 1)) _x3 (_r1 ++ ([(PV.agg (p_i_Term _x2))])) K0))
 (K0 _x1 _r1)
def L_ra_truths_0 (T : Tab) : Nat → YL_ra_truths_0
  | 0 => fun _ _ _ _ _ => False
  | n + 1 => B_ra_truths_0 T (L_ra_truths_0 T n)
def F_ra_truths (T : Tab) (_a1 : Arr) (_x1 : S_ra) (K0 : Arr → S_ra → Prop) : Prop :=
 L_ra_truths_0 T T.fuel _a1 0 _x1 ([])
 (fun x15 r16 =>
 K0 (lst true r16) x15)
def F_ra_of (T : Tab) (_x1 : S_i_Expr) (_n1 : Int) (_x2 : S_ra) (K0 : S_i_Term → S_ra → Prop) : Prop :=
 T.f_ra_asks _x1 _x2
 (fun _x3 _x4 =>
 T.f_ra_bad _x4
 (fun _b1 _x5 =>
 br (!_b1)
 (br (_x3.Type_ != _n1)
 (br (_x3.Type_ != (0 : Int))
 (T.f_ra_fails_v1 11 _x1.At _x5
 (fun _x6 =>
 K0 _x3 _x6))
 (K0 _x3 _x5))
 (K0 _x3 _x5))
 (K0 _x3 _x5)))
abbrev YL_ra_asks_3 := Int → Int → S_ra → S_i_Expr → Int → Int → Int → Int → Int → ByteArray → Int → Int → Int → Int → Int → ByteArray → (List PV) → (S_ra → S_i_Expr → Int → Int → Int → Int → Int → ByteArray → Int → Int → Int → Int → Int → ByteArray → (List PV) → Prop) → Prop
def B_ra_asks_3 (T : Tab) (R : YL_ra_asks_3) (_n1 : Int) (_n2 : Int) (_x1 : S_ra) (_x2 : S_i_Expr) (_n3 : Int) (_n4 : Int) (_n5 : Int) (_n6 : Int) (_n7 : Int) (_s1 : ByteArray) (_n8 : Int) (_n9 : Int) (_n10 : Int) (_n11 : Int) (_n12 : Int) (_s2 : ByteArray) (_r1 : List PV) (K0 : S_ra → S_i_Expr → Int → Int → Int → Int → Int → ByteArray → Int → Int → Int → Int → Int → ByteArray → (List PV) → Prop) : Prop :=
 br (decide (_n2 < (_r1.length : Int)))
 (br (_n1 != (0 : Int))
 (0 ≤ _n2 ∧ _n2 < (_r1.length : Int) ∧
 as_i_Term (_r1.getD _n2.toNat .nilp) fun x135 =>
 br (x135.Type_ != _n1)
 (0 ≤ _n2 ∧ _n2 < (_r1.length : Int) ∧
 as_i_Term (_r1.getD _n2.toNat .nilp) fun x136 =>
 br (x136.Type_ != (0 : Int))
 (0 ≤ _n2 ∧ _n2 < (_x2.Kids.n : Int) ∧
 as_i_Expr (_x2.Kids.g (_n2.toNat)) fun x137 =>
 T.f_ra_fails_v1 11 x137.At _x1
 (fun _x3 =>
 R _n1 (W (_n2 + 1)) _x3 _x2 _n3 _n4 _n5 _n6 _n7 _s1 _n8 _n9 _n10 _n11 _n12 _s2 _r1 K0))
 (R _n1 (W (_n2 + 1)) _x1 _x2 _n3 _n4 _n5 _n6 _n7 _s1 _n8 _n9 _n10 _n11 _n12 _s2 _r1 K0))
 (R _n1 (W (_n2 + 1)) _x1 _x2 _n3 _n4 _n5 _n6 _n7 _s1 _n8 _n9 _n10 _n11 _n12 _s2 _r1 K0))
 (R _n1 (W (_n2 + 1)) _x1 _x2 _n3 _n4 _n5 _n6 _n7 _s1 _n8 _n9 _n10 _n11 _n12 _s2 _r1 K0))
 (K0 _x1 _x2 _n3 _n4 _n5 _n6 _n7 _s1 _n8 _n9 _n10 _n11 _n12 _s2 _r1)
def L_ra_asks_3 (T : Tab) : Nat → YL_ra_asks_3
  | 0 => fun _ _ _ _ _ _ _ _ _ _ _ _ _ _ _ _ _ _ => False
  | n + 1 => B_ra_asks_3 T (L_ra_asks_3 T n)
abbrev YL_ra_asks_1 := Int → S_ra → S_i_Expr → Int → Int → Int → Int → Int → ByteArray → Int → Int → Int → Int → Int → ByteArray → (List PV) → (S_ra → S_i_Expr → Int → Int → Int → Int → Int → ByteArray → Int → Int → Int → Int → Int → ByteArray → (List PV) → Prop) → Prop
def B_ra_asks_1 (T : Tab) (R : YL_ra_asks_1) (_n1 : Int) (_x1 : S_ra) (_x2 : S_i_Expr) (_n2 : Int) (_n3 : Int) (_n4 : Int) (_n5 : Int) (_n6 : Int) (_s1 : ByteArray) (_n7 : Int) (_n8 : Int) (_n9 : Int) (_n10 : Int) (_n11 : Int) (_s2 : ByteArray) (_r1 : List PV) (K0 : S_ra → S_i_Expr → Int → Int → Int → Int → Int → ByteArray → Int → Int → Int → Int → Int → ByteArray → (List PV) → Prop) : Prop :=
 br (decide (_n1 < (_x2.Kids.n : Int)))
 (0 ≤ _n1 ∧ _n1 < (_x2.Kids.n : Int) ∧
 as_i_Expr (_x2.Kids.g (_n1.toNat)) fun x26 =>
 T.f_ra_asks x26 _x1
 (fun _x3 _x4 =>
 (_r1.length + 1) * 80 ≤ 140737488355328 ∧
 R (W (_n1 + 1)) _x4 _x2 _n2 _n3 _n4 _n5 _n6 _s1 _n7 _n8 _n9 _n10 _n11 _s2 (_r1 ++ ([(PV.agg (p_i_Term _x3))])) K0))
 (K0 _x1 _x2 _n2 _n3 _n4 _n5 _n6 _s1 _n7 _n8 _n9 _n10 _n11 _s2 _r1)
def L_ra_asks_1 (T : Tab) : Nat → YL_ra_asks_1
  | 0 => fun _ _ _ _ _ _ _ _ _ _ _ _ _ _ _ _ _ => False
  | n + 1 => B_ra_asks_1 T (L_ra_asks_1 T n)
def F_ra_asks (T : Tab) (_x1 : S_i_Expr) (_x2 : S_ra) (K0 : S_i_Term → S_ra → Prop) : Prop :=
 T.f_ra_bad _x2
 (fun _b1 _x3 =>
 br _b1
 (K0 ⟨0, 0, 0, 0, 0, (ByteArray.mk #[]), (lst true [])⟩ _x3)
 (br (_x1.Kind == (1 : Int))
 (K0 ⟨_x1.Kind, 0, _x1.Value_Kind, _x1.Value_Kind, _x1.Value_Int, _x1.Value_Text, (lst true [])⟩ _x3)
 (br (_x1.Kind == (2 : Int))
 (T.f_ra_param _x1 _x3
 (fun _x4 _x5 =>
 K0 _x4 _x5))
 (br (_x1.Kind == (3 : Int))
 (T.f_ra_column _x1 _x3
 (fun _x6 _x7 =>
 K0 _x6 _x7))
 (L_ra_asks_1 T T.fuel 0 _x3 _x1 0 0 0 0 0 (ByteArray.mk #[]) _x1.Kind _x1.Op 0 0 0 (ByteArray.mk #[]) ([])
 (fun x45 x46 n47 n48 n49 n50 n51 s52 n53 n54 n55 n56 n57 s58 r59 =>
 T.f_ra_bad x45
 (fun _b2 _x8 =>
 br _b2
 (K0 ⟨0, 0, 0, 0, 0, (ByteArray.mk #[]), (lst true [])⟩ _x8)
 (T.f_ref13_want x46.Kind
 (fun _n1 =>
 L_ra_asks_3 T T.fuel _n1 0 _x8 x46 n47 n48 n49 n50 n51 s52 n53 n54 n55 n56 n57 s58 r59
 (fun x207 x208 n209 n210 n211 n212 n213 s214 n215 n216 n217 n218 n219 s220 r221 =>
 br (x208.Kind == (6 : Int))
 (0 ≤ (0 : Int) ∧ (0 : Int) < (r221.length : Int) ∧
 as_i_Term (r221.getD 0 .nilp) fun x222 =>
 0 ≤ (1 : Int) ∧ (1 : Int) < (r221.length : Int) ∧
 as_i_Term (r221.getD 1 .nilp) fun x223 =>
 br (x222.Type_ != x223.Type_)
 (0 ≤ (0 : Int) ∧ (0 : Int) < (r221.length : Int) ∧
 as_i_Term (r221.getD 0 .nilp) fun x224 =>
 br (x224.Type_ != (0 : Int))
 (0 ≤ (1 : Int) ∧ (1 : Int) < (r221.length : Int) ∧
 as_i_Term (r221.getD 1 .nilp) fun x225 =>
 br (x225.Type_ != (0 : Int))
 (T.f_ra_fails_v1 11 x208.At x207
 (fun _x9 =>
 T.f_ref13_typeOf x208.Kind r221
 (fun _n2 _r1 =>
 K0 ⟨n215, n216, _n2, n218, n219, s220, (lst true _r1)⟩ _x9)))
 (T.f_ref13_typeOf x208.Kind r221
 (fun _n3 _r2 =>
 K0 ⟨n215, n216, _n3, n218, n219, s220, (lst true _r2)⟩ x207)))
 (T.f_ref13_typeOf x208.Kind r221
 (fun _n4 _r3 =>
 K0 ⟨n215, n216, _n4, n218, n219, s220, (lst true _r3)⟩ x207)))
 (T.f_ref13_typeOf x208.Kind r221
 (fun _n5 _r4 =>
 K0 ⟨n215, n216, _n5, n218, n219, s220, (lst true _r4)⟩ x207)))
 (T.f_ref13_typeOf x208.Kind r221
 (fun _n6 _r5 =>
 K0 ⟨n215, n216, _n6, n218, n219, s220, (lst true _r5)⟩ x207))))))))))))
def F_ra_bad (T : Tab) (_x1 : S_ra) (K0 : Bool → S_ra → Prop) : Prop :=
 K0 (_x1.f_Code != (0 : Int)) _x1
abbrev YL_ra_param_0 := Int → S_ra → S_i_Expr → Int → Int → Int → Int → Int → ByteArray → (S_ra → Int → Int → Int → Int → Int → ByteArray → Prop) → (S_ra → S_i_Expr → Int → Int → Int → Int → Int → ByteArray → Prop) → Prop
def B_ra_param_0 (T : Tab) (R : YL_ra_param_0) (_n1 : Int) (_x1 : S_ra) (_x2 : S_i_Expr) (_n2 : Int) (_n3 : Int) (_n4 : Int) (_n5 : Int) (_n6 : Int) (_s1 : ByteArray) (K0 : S_ra → Int → Int → Int → Int → Int → ByteArray → Prop) (K1 : S_ra → S_i_Expr → Int → Int → Int → Int → Int → ByteArray → Prop) : Prop :=
 br (decide (_n1 < (_x1.params.n : Int)))
 (0 ≤ _n1 ∧ _n1 < (_x1.params.n : Int) ∧
 as_i_Param (_x1.params.g (_n1.toNat)) fun x12 =>
 br (x12.Name.toList == _x2.Name.toList)
 (0 ≤ _n1 ∧ _n1 < (_x1.params.n : Int) ∧
 as_i_Param (_x1.params.g (_n1.toNat)) fun x13 =>
 K0 _x1 2 _n1 x13.Type_ 0 0 (ByteArray.mk #[]))
 (R (W (_n1 + 1)) _x1 _x2 _n2 _n3 _n4 _n5 _n6 _s1 K0 K1))
 (K1 _x1 _x2 _n2 _n3 _n4 _n5 _n6 _s1)
def L_ra_param_0 (T : Tab) : Nat → YL_ra_param_0
  | 0 => fun _ _ _ _ _ _ _ _ _ _ _ => False
  | n + 1 => B_ra_param_0 T (L_ra_param_0 T n)
def F_ra_param (T : Tab) (_x1 : S_i_Expr) (_x2 : S_ra) (K0 : S_i_Term → S_ra → Prop) : Prop :=
 L_ra_param_0 T T.fuel 0 _x2 _x1 0 0 0 0 0 (ByteArray.mk #[])
 (fun x23 n24 n25 n26 n27 n28 s29 =>
 K0 ⟨n24, n25, n26, n27, n28, s29, (lst true [])⟩ x23)
 (fun x30 x31 n32 n33 n34 n35 n36 s37 =>
 T.f_ra_fails_v1 82 x31.At x30
 (fun _x3 =>
 K0 ⟨0, 0, 0, 0, 0, (ByteArray.mk #[]), (lst true [])⟩ _x3))
def F_ra_fails_v1 (T : Tab) (_n1 : Int) (_n2 : Int) (_x1 : S_ra) (K0 : S_ra → Prop) : Prop :=
 br (_x1.f_Code == (0 : Int))
 (K0 ⟨_x1.c_Tables, _x1.c_Procs, _x1.params, _x1.tables, _n1, _n2⟩)
 (K0 _x1)
abbrev YL_ra_column_0 := Int → Int → Int → Int → S_ra → S_i_Expr → Int → Int → Int → Int → Int → ByteArray → (Int → Int → S_ra → S_i_Expr → Int → Int → Int → Int → Int → ByteArray → Prop) → Prop
def B_ra_column_0 (T : Tab) (R : YL_ra_column_0) (_n1 : Int) (_n2 : Int) (_n3 : Int) (_n4 : Int) (_x1 : S_ra) (_x2 : S_i_Expr) (_n5 : Int) (_n6 : Int) (_n7 : Int) (_n8 : Int) (_n9 : Int) (_s1 : ByteArray) (K0 : Int → Int → S_ra → S_i_Expr → Int → Int → Int → Int → Int → ByteArray → Prop) : Prop :=
 br (decide (_n4 < (_x1.tables.n : Int)))
 (0 ≤ _n4 ∧ _n4 < (_x1.tables.n : Int) ∧
 asI_i64 (_x1.tables.g (_n4.toNat)) fun n52 =>
 0 ≤ n52 ∧ n52 < (_x1.c_Tables.n : Int) ∧
 as_i_Table (_x1.c_Tables.g (n52.toNat)) fun x53 =>
 T.f_ref13_columnOf x53 _x2.Name
 (fun _n10 =>
 br (decide (_n10 ≥ (0 : Int)))
 (br (_x2.Table.toList == (ByteArray.mk #[]).toList)
 (R (W (_n3 + _n10)) (W (_n2 + 1)) (W (_n3 + (x53.Columns.n : Int))) (W (_n4 + 1)) _x1 _x2 _n5 _n6 _n7 _n8 _n9 _s1 K0)
 (br (_x2.Table.toList == x53.Name.toList)
 (R (W (_n3 + _n10)) (W (_n2 + 1)) (W (_n3 + (x53.Columns.n : Int))) (W (_n4 + 1)) _x1 _x2 _n5 _n6 _n7 _n8 _n9 _s1 K0)
 (R _n1 _n2 (W (_n3 + (x53.Columns.n : Int))) (W (_n4 + 1)) _x1 _x2 _n5 _n6 _n7 _n8 _n9 _s1 K0)))
 (R _n1 _n2 (W (_n3 + (x53.Columns.n : Int))) (W (_n4 + 1)) _x1 _x2 _n5 _n6 _n7 _n8 _n9 _s1 K0)))
 (K0 _n1 _n2 _x1 _x2 _n5 _n6 _n7 _n8 _n9 _s1)
def L_ra_column_0 (T : Tab) : Nat → YL_ra_column_0
  | 0 => fun _ _ _ _ _ _ _ _ _ _ _ _ _ => False
  | n + 1 => B_ra_column_0 T (L_ra_column_0 T n)
def F_ra_column (T : Tab) (_x1 : S_i_Expr) (_x2 : S_ra) (K0 : S_i_Term → S_ra → Prop) : Prop :=
 L_ra_column_0 T T.fuel (-1) 0 0 0 _x2 _x1 0 0 0 0 0 (ByteArray.mk #[])
 (fun n103 n104 x105 x106 n107 n108 n109 n110 n111 s112 =>
 br (n104 != (1 : Int))
 (br (decide (n104 > (1 : Int)))
 (T.f_ra_fails_v1 81 x106.At x105
 (fun _x3 =>
 K0 ⟨0, 0, 0, 0, 0, (ByteArray.mk #[]), (lst true [])⟩ _x3))
 (T.f_ra_fails_v1 82 x106.At x105
 (fun _x4 =>
 K0 ⟨0, 0, 0, 0, 0, (ByteArray.mk #[]), (lst true [])⟩ _x4)))
 (T.f_ref13_Long ⟨x105.c_Tables, x105.c_Procs⟩ x105.tables
 (fun _a1 =>
 0 ≤ n103 ∧ n103 < (_a1.n : Int) ∧
 as_i_Column (_a1.g (n103.toNat)) fun x116 =>
 K0 ⟨3, n103, x116.Type_, 0, 0, (ByteArray.mk #[]), (lst true [])⟩ x105)))
abbrev YL_ref13_columnOf_0 := ByteArray → Int → S_i_Table → (Int → Prop) → Prop → Prop
def B_ref13_columnOf_0 (T : Tab) (R : YL_ref13_columnOf_0) (_s1 : ByteArray) (_n1 : Int) (_x1 : S_i_Table) (K0 : Int → Prop) (K1 : Prop) : Prop :=
 br (decide (_n1 < (_x1.Columns.n : Int)))
 (0 ≤ _n1 ∧ _n1 < (_x1.Columns.n : Int) ∧
 as_i_Column (_x1.Columns.g (_n1.toNat)) fun x5 =>
 br (x5.Name.toList == _s1.toList)
 (K0 _n1)
 (R _s1 (W (_n1 + 1)) _x1 K0 K1))
 (K1 )
def L_ref13_columnOf_0 (T : Tab) : Nat → YL_ref13_columnOf_0
  | 0 => fun _ _ _ _ _ => False
  | n + 1 => B_ref13_columnOf_0 T (L_ref13_columnOf_0 T n)
def F_ref13_columnOf (T : Tab) (_x1 : S_i_Table) (_s1 : ByteArray) (K0 : Int → Prop) : Prop :=
 L_ref13_columnOf_0 T T.fuel _s1 0 _x1
 (fun n9 =>
 K0 n9)
 (K0 (-1))
abbrev YL_ref13_Long_0 := Arr → Int → S_i_Catalog → (List PV) → ((List PV) → Prop) → Prop
def B_ref13_Long_0 (T : Tab) (R : YL_ref13_Long_0) (_a1 : Arr) (_n1 : Int) (_x1 : S_i_Catalog) (_r1 : List PV) (K0 : (List PV) → Prop) : Prop :=
 br (decide (_n1 < (_a1.n : Int)))
 (0 ≤ _n1 ∧ _n1 < (_a1.n : Int) ∧
 asI_i64 (_a1.g (_n1.toNat)) fun n7 =>
 0 ≤ n7 ∧ n7 < (_x1.Tables.n : Int) ∧
 as_i_Table (_x1.Tables.g (n7.toNat)) fun x8 =>
 (∀ i, i < x8.Columns.n → pvSize (x8.Columns.g i) = 3) ∧ (_r1.length + ((List.range x8.Columns.n).map x8.Columns.g).length) * 32 ≤ 140737488355328 ∧
 R _a1 (W (_n1 + 1)) _x1 (_r1 ++ ((List.range x8.Columns.n).map x8.Columns.g)) K0)
 (K0 _r1)
def L_ref13_Long_0 (T : Tab) : Nat → YL_ref13_Long_0
  | 0 => fun _ _ _ _ _ => False
  | n + 1 => B_ref13_Long_0 T (L_ref13_Long_0 T n)
def F_ref13_Long (T : Tab) (_x1 : S_i_Catalog) (_a1 : Arr) (K0 : Arr → Prop) : Prop :=
 L_ref13_Long_0 T T.fuel _a1 0 _x1 ([])
 (fun r13 =>
 K0 (lst true r13))
def F_ref13_want (T : Tab) (_n1 : Int) (K0 : Int → Prop) : Prop :=
 br (_n1 == (4 : Int))
 (K0 1)
 (br (_n1 == (5 : Int))
 (K0 1)
 (br (_n1 == (12 : Int))
 (K0 1)
 (br (_n1 == (8 : Int))
 (K0 2)
 (br (_n1 == (9 : Int))
 (K0 2)
 (br (_n1 == (10 : Int))
 (K0 2)
 (K0 0))))))
def F_ref13_typeOf (T : Tab) (_n1 : Int) (_r1 : List PV) (K0 : Int → (List PV) → Prop) : Prop :=
 br (_n1 == (4 : Int))
 (K0 1 _r1)
 (br (_n1 == (5 : Int))
 (K0 1 _r1)
 (br (_n1 == (11 : Int))
 (K0 1 _r1)
 (br (_n1 == (12 : Int))
 (K0 1 _r1)
 (br (_n1 == (13 : Int))
 (0 ≤ (0 : Int) ∧ (0 : Int) < (_r1.length : Int) ∧
 as_i_Term (_r1.getD 0 .nilp) fun x1 =>
 K0 x1.Type_ _r1)
 (br (_n1 == (14 : Int))
 (0 ≤ (0 : Int) ∧ (0 : Int) < (_r1.length : Int) ∧
 as_i_Term (_r1.getD 0 .nilp) fun x2 =>
 K0 x2.Type_ _r1)
 (K0 2 _r1))))))
abbrev YL_ra_insert_0 := Int → S_ra → S_i_Stmt → S_i_Table → (List PV) → (S_ra → (List PV) → Prop) → Prop
def B_ra_insert_0 (T : Tab) (R : YL_ra_insert_0) (_n1 : Int) (_x1 : S_ra) (_x2 : S_i_Stmt) (_x3 : S_i_Table) (_r1 : List PV) (K0 : S_ra → (List PV) → Prop) : Prop :=
 br (decide (_n1 < (_x2.Items.n : Int)))
 (0 ≤ _n1 ∧ _n1 < (_x2.Items.n : Int) ∧
 as_i_Expr (_x2.Items.g (_n1.toNat)) fun x11 =>
 0 ≤ _n1 ∧ _n1 < (_x3.Columns.n : Int) ∧
 as_i_Column (_x3.Columns.g (_n1.toNat)) fun x12 =>
 T.f_ra_of x11 x12.Type_ _x1
 (fun _x4 _x5 =>
 (_r1.length + 1) * 80 ≤ 140737488355328 ∧
 R (W (_n1 + 1)) _x5 _x2 _x3 (_r1 ++ ([(PV.agg (p_i_Term _x4))])) K0))
 (K0 _x1 _r1)
def L_ra_insert_0 (T : Tab) : Nat → YL_ra_insert_0
  | 0 => fun _ _ _ _ _ _ => False
  | n + 1 => B_ra_insert_0 T (L_ra_insert_0 T n)
def F_ra_insert (T : Tab) (_x1 : S_i_Stmt) (_x2 : S_i_Table) (_x3 : S_ra) (K0 : Arr → S_ra → Prop) : Prop :=
 br ((_x1.Items.n : Int) != (_x2.Columns.n : Int))
 (T.f_ra_fails_v1 131 _x1.At _x3
 (fun _x4 =>
 K0 (lst true []) _x4))
 (L_ra_insert_0 T T.fuel 0 _x3 _x1 _x2 ([])
 (fun x20 r21 =>
 K0 (lst true r21) x20))
abbrev YL_ra_update_2 := Int → Int → Int → S_ra → S_i_Stmt → S_i_Table → (List PV) → (List PV) → (Int → Int → S_ra → S_i_Stmt → S_i_Table → (List PV) → (List PV) → Prop) → Prop
def B_ra_update_2 (T : Tab) (R : YL_ra_update_2) (_n1 : Int) (_n2 : Int) (_n3 : Int) (_x1 : S_ra) (_x2 : S_i_Stmt) (_x3 : S_i_Table) (_r1 : List PV) (_r2 : List PV) (K0 : Int → Int → S_ra → S_i_Stmt → S_i_Table → (List PV) → (List PV) → Prop) : Prop :=
 br (decide (_n3 < (_r2.length : Int)))
 (0 ≤ _n3 ∧ _n3 < (_r2.length : Int) ∧
 asI_i64 (_r2.getD _n3.toNat .nilp) fun n24 =>
 br (n24 == _n2)
 (0 ≤ _n1 ∧ _n1 < (_x2.Sets.n : Int) ∧
 as_i_Set (_x2.Sets.g (_n1.toNat)) fun x25 =>
 T.f_ra_fails_v1 81 x25.At _x1
 (fun _x4 =>
 R _n1 _n2 (W (_n3 + 1)) _x4 _x2 _x3 _r1 _r2 K0))
 (R _n1 _n2 (W (_n3 + 1)) _x1 _x2 _x3 _r1 _r2 K0))
 (K0 _n1 _n2 _x1 _x2 _x3 _r1 _r2)
def L_ra_update_2 (T : Tab) : Nat → YL_ra_update_2
  | 0 => fun _ _ _ _ _ _ _ _ _ => False
  | n + 1 => B_ra_update_2 T (L_ra_update_2 T n)
abbrev YL_ra_update_0 := Int → S_ra → S_i_Stmt → S_i_Table → (List PV) → (List PV) → (S_ra → (List PV) → (List PV) → Prop) → Prop
def B_ra_update_0 (T : Tab) (R : YL_ra_update_0) (_n1 : Int) (_x1 : S_ra) (_x2 : S_i_Stmt) (_x3 : S_i_Table) (_r1 : List PV) (_r2 : List PV) (K0 : S_ra → (List PV) → (List PV) → Prop) : Prop :=
 br (decide (_n1 < (_x2.Sets.n : Int)))
 (br (_x1.f_Code == (0 : Int))
 (0 ≤ _n1 ∧ _n1 < (_x2.Sets.n : Int) ∧
 as_i_Set (_x2.Sets.g (_n1.toNat)) fun x60 =>
 T.f_ref13_columnOf _x3 x60.Name
 (fun _n2 =>
 br (decide (_n2 < (0 : Int)))
 (0 ≤ _n1 ∧ _n1 < (_x2.Sets.n : Int) ∧
 as_i_Set (_x2.Sets.g (_n1.toNat)) fun x62 =>
 T.f_ra_fails_v1 82 x62.At _x1
 (fun _x4 =>
 K0 _x4 _r1 _r2))
 (L_ra_update_2 T T.fuel _n1 _n2 0 _x1 _x2 _x3 _r1 _r2
 (fun n64 n65 x66 x67 x68 r69 r70 =>
 0 ≤ n64 ∧ n64 < (x67.Sets.n : Int) ∧
 as_i_Set (x67.Sets.g (n64.toNat)) fun x71 =>
 0 ≤ n65 ∧ n65 < (x68.Columns.n : Int) ∧
 as_i_Column (x68.Columns.g (n65.toNat)) fun x72 =>
 T.f_ra_of ⟨x71.Expr_Kind, x71.Expr_Op, x71.Expr_Value_Kind, x71.Expr_Value_Int, x71.Expr_Value_Text, x71.Expr_Table, x71.Expr_Name, x71.Expr_Kids, x71.Expr_At⟩ x72.Type_ x66
 (fun _x5 _x6 =>
 (r69.length + 1) * 80 ≤ 140737488355328 ∧
 (r70.length + 1) * 8 ≤ 140737488355328 ∧
 R (W (n64 + 1)) _x6 x67 x68 (r69 ++ ([(PV.agg (p_i_Term _x5))])) (r70 ++ ([(PV.int .i64 n65)])) K0)))))
 (K0 _x1 _r1 _r2))
 (K0 _x1 _r1 _r2)
def L_ra_update_0 (T : Tab) : Nat → YL_ra_update_0
  | 0 => fun _ _ _ _ _ _ _ => False
  | n + 1 => B_ra_update_0 T (L_ra_update_0 T n)
def F_ra_update (T : Tab) (_x1 : S_i_Stmt) (_x2 : S_i_Table) (_x3 : S_ra) (K0 : Arr → Arr → S_ra → Prop) : Prop :=
 L_ra_update_0 T T.fuel 0 _x3 _x1 _x2 ([]) ([])
 (fun x81 r82 r83 =>
 K0 (lst true r82) (lst true r83) x81)
abbrev YL_ra_choose_2 := Int → S_ra → Int → Arr → Arr → Arr → Arr → Bool → Arr → (List PV) → (List PV) → (List PV) → Int → Bool → (S_ra → Int → Arr → Arr → Arr → Arr → Bool → Arr → (List PV) → (List PV) → (List PV) → Int → Bool → Prop) → Prop
def B_ra_choose_2 (T : Tab) (R : YL_ra_choose_2) (_n1 : Int) (_x1 : S_ra) (_n2 : Int) (_a1 : Arr) (_a2 : Arr) (_a3 : Arr) (_a4 : Arr) (_b1 : Bool) (_a5 : Arr) (_r1 : List PV) (_r2 : List PV) (_r3 : List PV) (_n3 : Int) (_b2 : Bool) (K0 : S_ra → Int → Arr → Arr → Arr → Arr → Bool → Arr → (List PV) → (List PV) → (List PV) → Int → Bool → Prop) : Prop :=
 br (decide (_n1 < (_a4.n : Int)))
 (0 ≤ _n1 ∧ _n1 < (_a4.n : Int) ∧
 as_i_Term (_a4.g (_n1.toNat)) fun x134 =>
 (_r3.length + 1) * 8 ≤ 140737488355328 ∧
 R (W (_n1 + 1)) _x1 _n2 _a1 _a2 _a3 _a4 _b1 _a5 _r1 _r2 (_r3 ++ ([(PV.int .i64 x134.Type_)])) _n3 _b2 K0)
 (K0 _x1 _n2 _a1 _a2 _a3 _a4 _b1 _a5 _r1 _r2 _r3 _n3 _b2)
def L_ra_choose_2 (T : Tab) : Nat → YL_ra_choose_2
  | 0 => fun _ _ _ _ _ _ _ _ _ _ _ _ _ _ _ => False
  | n + 1 => B_ra_choose_2 T (L_ra_choose_2 T n)
abbrev YL_ra_choose_0 := Int → S_ra → S_i_Stmt → Int → Arr → Arr → Arr → Arr → Bool → Arr → (List PV) → Int → Bool → (S_ra → S_i_Stmt → Int → Arr → Arr → Arr → Arr → Bool → Arr → (List PV) → Int → Bool → Prop) → Prop
def B_ra_choose_0 (T : Tab) (R : YL_ra_choose_0) (_n1 : Int) (_x1 : S_ra) (_x2 : S_i_Stmt) (_n2 : Int) (_a1 : Arr) (_a2 : Arr) (_a3 : Arr) (_a4 : Arr) (_b1 : Bool) (_a5 : Arr) (_r1 : List PV) (_n3 : Int) (_b2 : Bool) (K0 : S_ra → S_i_Stmt → Int → Arr → Arr → Arr → Arr → Bool → Arr → (List PV) → Int → Bool → Prop) : Prop :=
 br (decide (_n1 < (_x2.Sorts.n : Int)))
 (0 ≤ _n1 ∧ _n1 < (_x2.Sorts.n : Int) ∧
 as_i_Sort (_x2.Sorts.g (_n1.toNat)) fun x56 =>
 br (decide (x56.Item < (1 : Int)))
 (0 ≤ _n1 ∧ _n1 < (_x2.Sorts.n : Int) ∧
 as_i_Sort (_x2.Sorts.g (_n1.toNat)) fun x57 =>
 T.f_ra_fails_v1 82 x57.At _x1
 (fun _x3 =>
 0 ≤ _n1 ∧ _n1 < (_x2.Sorts.n : Int) ∧
 as_i_Sort (_x2.Sorts.g (_n1.toNat)) fun x59 =>
 0 ≤ _n1 ∧ _n1 < (_x2.Sorts.n : Int) ∧
 as_i_Sort (_x2.Sorts.g (_n1.toNat)) fun x60 =>
 (_r1.length + 1) * 24 ≤ 140737488355328 ∧
 R (W (_n1 + 1)) _x3 _x2 _n2 _a1 _a2 _a3 _a4 _b1 _a5 (_r1 ++ ([(PV.agg [.int .i64 x59.Item, .bool x60.Desc, .int .i64 0])])) _n3 _b2 K0))
 (0 ≤ _n1 ∧ _n1 < (_x2.Sorts.n : Int) ∧
 as_i_Sort (_x2.Sorts.g (_n1.toNat)) fun x74 =>
 br (decide (x74.Item > (_a4.n : Int)))
 (0 ≤ _n1 ∧ _n1 < (_x2.Sorts.n : Int) ∧
 as_i_Sort (_x2.Sorts.g (_n1.toNat)) fun x75 =>
 T.f_ra_fails_v1 82 x75.At _x1
 (fun _x4 =>
 0 ≤ _n1 ∧ _n1 < (_x2.Sorts.n : Int) ∧
 as_i_Sort (_x2.Sorts.g (_n1.toNat)) fun x77 =>
 0 ≤ _n1 ∧ _n1 < (_x2.Sorts.n : Int) ∧
 as_i_Sort (_x2.Sorts.g (_n1.toNat)) fun x78 =>
 (_r1.length + 1) * 24 ≤ 140737488355328 ∧
 R (W (_n1 + 1)) _x4 _x2 _n2 _a1 _a2 _a3 _a4 _b1 _a5 (_r1 ++ ([(PV.agg [.int .i64 x77.Item, .bool x78.Desc, .int .i64 0])])) _n3 _b2 K0))
 (0 ≤ _n1 ∧ _n1 < (_x2.Sorts.n : Int) ∧
 as_i_Sort (_x2.Sorts.g (_n1.toNat)) fun x92 =>
 0 ≤ _n1 ∧ _n1 < (_x2.Sorts.n : Int) ∧
 as_i_Sort (_x2.Sorts.g (_n1.toNat)) fun x93 =>
 (_r1.length + 1) * 24 ≤ 140737488355328 ∧
 R (W (_n1 + 1)) _x1 _x2 _n2 _a1 _a2 _a3 _a4 _b1 _a5 (_r1 ++ ([(PV.agg [.int .i64 x92.Item, .bool x93.Desc, .int .i64 0])])) _n3 _b2 K0)))
 (K0 _x1 _x2 _n2 _a1 _a2 _a3 _a4 _b1 _a5 _r1 _n3 _b2)
def L_ra_choose_0 (T : Tab) : Nat → YL_ra_choose_0
  | 0 => fun _ _ _ _ _ _ _ _ _ _ _ _ _ _ => False
  | n + 1 => B_ra_choose_0 T (L_ra_choose_0 T n)
def F_ra_choose (T : Tab) (_x1 : S_i_Stmt) (_n1 : Int) (_a1 : Arr) (_a2 : Arr) (_a3 : Arr) (_b1 : Bool) (_x2 : S_ra) (K0 : S_i_Typed → S_ra → Prop) : Prop :=
 T.f_ra_groups _x1 _x2
 (fun _a4 _x3 =>
 br _x1.Star
 (T.f_ra_star _x1 _x3
 (fun _a5 _x4 =>
 L_ra_choose_0 T T.fuel 0 _x4 _x1 _n1 _a1 _a2 _a3 _a5 (decide ((_x1.Groups.n : Int) > (0 : Int))) _a4 ([]) 0 false
 (fun x107 x108 n109 a110 a111 a112 a113 b114 a115 r116 n117 b118 =>
 (∀ i, i < x108.Limit.n → pvSize (x108.Limit.g i) = 1) ∧ (0 + ((List.range x108.Limit.n).map x108.Limit.g).length) * 8 ≤ 140737488355328 ∧
 L_ra_choose_2 T T.fuel 0 x107 n109 a110 a111 a112 a113 b114 a115 r116 (([]) ++ ((List.range x108.Limit.n).map x108.Limit.g)) ([]) n117 b118
 (fun x149 n150 a151 a152 a153 a154 b155 a156 r157 r158 r159 n160 b161 =>
 K0 ⟨n150, a151, a152, a153, a154, (lst true []), b155, a156, (lst true r157), (lst true r158), (lst true r159)⟩ x149))))
 (T.f_ra_items _x1 _a4 _x3
 (fun _a6 _b2 _x5 =>
 L_ra_choose_0 T T.fuel 0 _x5 _x1 _n1 _a1 _a2 _a3 _a6 _b2 _a4 ([]) 0 false
 (fun x165 x166 n167 a168 a169 a170 a171 b172 a173 r174 n175 b176 =>
 (∀ i, i < x166.Limit.n → pvSize (x166.Limit.g i) = 1) ∧ (0 + ((List.range x166.Limit.n).map x166.Limit.g).length) * 8 ≤ 140737488355328 ∧
 L_ra_choose_2 T T.fuel 0 x165 n167 a168 a169 a170 a171 b172 a173 r174 (([]) ++ ((List.range x166.Limit.n).map x166.Limit.g)) ([]) n175 b176
 (fun x177 n178 a179 a180 a181 a182 b183 a184 r185 r186 r187 n188 b189 =>
 K0 ⟨n178, a179, a180, a181, a182, (lst true []), b183, a184, (lst true r185), (lst true r186), (lst true r187)⟩ x177)))))
abbrev YL_ra_groups_0 := Int → S_ra → S_i_Stmt → (List PV) → (S_ra → (List PV) → Prop) → Prop
def B_ra_groups_0 (T : Tab) (R : YL_ra_groups_0) (_n1 : Int) (_x1 : S_ra) (_x2 : S_i_Stmt) (_r1 : List PV) (K0 : S_ra → (List PV) → Prop) : Prop :=
 br (decide (_n1 < (_x2.Groups.n : Int)))
 (0 ≤ _n1 ∧ _n1 < (_x2.Groups.n : Int) ∧
 as_i_Expr (_x2.Groups.g (_n1.toNat)) fun x22 =>
 T.f_ra_asks x22 _x1
 (fun _x3 _x4 =>
 T.f_ref13_among_v1 _x3.Num _r1
 (fun _b1 _r2 =>
 T.f_ra_bad _x4
 (fun _b2 _x5 =>
 br (!_b2)
 (br _b1
 (0 ≤ _n1 ∧ _n1 < (_x2.Groups.n : Int) ∧
 as_i_Expr (_x2.Groups.g (_n1.toNat)) fun x29 =>
 T.f_ra_fails_v1 81 x29.At _x5
 (fun _x6 =>
 (_r2.length + 1) * 8 ≤ 140737488355328 ∧
 R (W (_n1 + 1)) _x6 _x2 (_r2 ++ ([(PV.int .i64 _x3.Num)])) K0))
 ((_r2.length + 1) * 8 ≤ 140737488355328 ∧
 R (W (_n1 + 1)) _x5 _x2 (_r2 ++ ([(PV.int .i64 _x3.Num)])) K0))
 ((_r2.length + 1) * 8 ≤ 140737488355328 ∧
 R (W (_n1 + 1)) _x5 _x2 (_r2 ++ ([(PV.int .i64 _x3.Num)])) K0)))))
 (K0 _x1 _r1)
def L_ra_groups_0 (T : Tab) : Nat → YL_ra_groups_0
  | 0 => fun _ _ _ _ _ => False
  | n + 1 => B_ra_groups_0 T (L_ra_groups_0 T n)
def F_ra_groups (T : Tab) (_x1 : S_i_Stmt) (_x2 : S_ra) (K0 : Arr → S_ra → Prop) : Prop :=
 L_ra_groups_0 T T.fuel 0 _x2 _x1 ([])
 (fun x43 r44 =>
 K0 (lst true r44) x43)
abbrev YL_ref13_among_v1_0 := Int → Int → (List PV) → ((List PV) → Prop) → ((List PV) → Prop) → Prop
def B_ref13_among_v1_0 (T : Tab) (R : YL_ref13_among_v1_0) (_n1 : Int) (_n2 : Int) (_r1 : List PV) (K0 : (List PV) → Prop) (K1 : (List PV) → Prop) : Prop :=
 br (decide (_n2 < (_r1.length : Int)))
 (0 ≤ _n2 ∧ _n2 < (_r1.length : Int) ∧
 asI_i64 (_r1.getD _n2.toNat .nilp) fun n5 =>
 br (n5 == _n1)
 (K0 _r1)
 (R _n1 (W (_n2 + 1)) _r1 K0 K1))
 (K1 _r1)
def L_ref13_among_v1_0 (T : Tab) : Nat → YL_ref13_among_v1_0
  | 0 => fun _ _ _ _ _ => False
  | n + 1 => B_ref13_among_v1_0 T (L_ref13_among_v1_0 T n)
def F_ref13_among_v1 (T : Tab) (_n1 : Int) (_r1 : List PV) (K0 : Bool → (List PV) → Prop) : Prop :=
 L_ref13_among_v1_0 T T.fuel _n1 0 _r1
 (fun r9 =>
 K0 true r9)
 (fun r10 =>
 K0 false r10)
abbrev YL_ra_star_0 := Arr → Int → S_ra → (List PV) → (S_ra → (List PV) → Prop) → Prop
def B_ra_star_0 (T : Tab) (R : YL_ra_star_0) (_a1 : Arr) (_n1 : Int) (_x1 : S_ra) (_r1 : List PV) (K0 : S_ra → (List PV) → Prop) : Prop :=
 br (decide (_n1 < (_a1.n : Int)))
 (0 ≤ _n1 ∧ _n1 < (_a1.n : Int) ∧
 as_i_Column (_a1.g (_n1.toNat)) fun x10 =>
 (_r1.length + 1) * 80 ≤ 140737488355328 ∧
 R _a1 (W (_n1 + 1)) _x1 (_r1 ++ ([(PV.agg [.int .i64 3, .int .i64 _n1, .int .i64 x10.Type_, .int .i64 0, .int .i64 0, .str (ByteArray.mk #[]), .arr ((lst true []).m) ((lst true []).n) ((lst true []).g)])])) K0)
 (K0 _x1 _r1)
def L_ra_star_0 (T : Tab) : Nat → YL_ra_star_0
  | 0 => fun _ _ _ _ _ => False
  | n + 1 => B_ra_star_0 T (L_ra_star_0 T n)
def F_ra_star (T : Tab) (_x1 : S_i_Stmt) (_x2 : S_ra) (K0 : Arr → S_ra → Prop) : Prop :=
 br (decide ((_x1.Groups.n : Int) > (0 : Int)))
 (0 ≤ (0 : Int) ∧ (0 : Int) < (_x1.Groups.n : Int) ∧
 as_i_Expr (_x1.Groups.g 0) fun x1 =>
 T.f_ra_fails_v1 130 x1.At _x2
 (fun _x3 =>
 T.f_ref13_Long ⟨_x3.c_Tables, _x3.c_Procs⟩ _x3.tables
 (fun _a1 =>
 br (decide ((_a1.n : Int) > (16 : Int)))
 (T.f_ra_fails_v1 131 _x1.At _x3
 (fun _x4 =>
 L_ra_star_0 T T.fuel _a1 0 _x4 ([])
 (fun x15 r16 =>
 K0 (lst true r16) x15)))
 (L_ra_star_0 T T.fuel _a1 0 _x3 ([])
 (fun x17 r18 =>
 K0 (lst true r18) x17)))))
 (T.f_ref13_Long ⟨_x2.c_Tables, _x2.c_Procs⟩ _x2.tables
 (fun _a2 =>
 br (decide ((_a2.n : Int) > (16 : Int)))
 (T.f_ra_fails_v1 131 _x1.At _x2
 (fun _x5 =>
 L_ra_star_0 T T.fuel _a2 0 _x5 ([])
 (fun x21 r22 =>
 K0 (lst true r22) x21)))
 (L_ra_star_0 T T.fuel _a2 0 _x2 ([])
 (fun x23 r24 =>
 K0 (lst true r24) x23))))
abbrev YL_ra_items_2 := Arr → Bool → Int → S_ra → S_i_Stmt → (List PV) → (Bool → S_ra → (List PV) → Prop) → Prop
def B_ra_items_2 (T : Tab) (R : YL_ra_items_2) (_a1 : Arr) (_b1 : Bool) (_n1 : Int) (_x1 : S_ra) (_x2 : S_i_Stmt) (_r1 : List PV) (K0 : Bool → S_ra → (List PV) → Prop) : Prop :=
 br (decide (_n1 < (_x2.Items.n : Int)))
 (0 ≤ _n1 ∧ _n1 < (_x2.Items.n : Int) ∧
 as_i_Expr (_x2.Items.g (_n1.toNat)) fun x97 =>
 T.f_ra_asks x97 _x1
 (fun _x3 _x4 =>
 0 ≤ _n1 ∧ _n1 < (_x2.Items.n : Int) ∧
 as_i_Expr (_x2.Items.g (_n1.toNat)) fun x100 =>
 T.f_ref13_aggregate x100.Kind
 (fun _b2 =>
 br (_x3.Op == (3 : Int))
 (T.f_ref13_among _a1 _x3.Num
 (fun _b3 =>
 T.f_ra_bad _x4
 (fun _b4 _x5 =>
 br (!_b4)
 (br _b1
 (br (!_b2)
 (br (!_b3)
 (0 ≤ _n1 ∧ _n1 < (_x2.Items.n : Int) ∧
 as_i_Expr (_x2.Items.g (_n1.toNat)) fun x105 =>
 T.f_ra_fails_v1 130 x105.At _x5
 (fun _x6 =>
 (_r1.length + 1) * 80 ≤ 140737488355328 ∧
 R _a1 _b1 (W (_n1 + 1)) _x6 _x2 (_r1 ++ ([(PV.agg (p_i_Term _x3))])) K0))
 ((_r1.length + 1) * 80 ≤ 140737488355328 ∧
 R _a1 _b1 (W (_n1 + 1)) _x5 _x2 (_r1 ++ ([(PV.agg (p_i_Term _x3))])) K0))
 ((_r1.length + 1) * 80 ≤ 140737488355328 ∧
 R _a1 _b1 (W (_n1 + 1)) _x5 _x2 (_r1 ++ ([(PV.agg (p_i_Term _x3))])) K0))
 ((_r1.length + 1) * 80 ≤ 140737488355328 ∧
 R _a1 _b1 (W (_n1 + 1)) _x5 _x2 (_r1 ++ ([(PV.agg (p_i_Term _x3))])) K0))
 ((_r1.length + 1) * 80 ≤ 140737488355328 ∧
 R _a1 _b1 (W (_n1 + 1)) _x5 _x2 (_r1 ++ ([(PV.agg (p_i_Term _x3))])) K0))))
 (T.f_ra_bad _x4
 (fun _b5 _x7 =>
 br (!_b5)
 (br _b1
 (br (!_b2)
 (0 ≤ _n1 ∧ _n1 < (_x2.Items.n : Int) ∧
 as_i_Expr (_x2.Items.g (_n1.toNat)) fun x139 =>
 T.f_ra_fails_v1 130 x139.At _x7
 (fun _x8 =>
 (_r1.length + 1) * 80 ≤ 140737488355328 ∧
 R _a1 _b1 (W (_n1 + 1)) _x8 _x2 (_r1 ++ ([(PV.agg (p_i_Term _x3))])) K0))
 ((_r1.length + 1) * 80 ≤ 140737488355328 ∧
 R _a1 _b1 (W (_n1 + 1)) _x7 _x2 (_r1 ++ ([(PV.agg (p_i_Term _x3))])) K0))
 ((_r1.length + 1) * 80 ≤ 140737488355328 ∧
 R _a1 _b1 (W (_n1 + 1)) _x7 _x2 (_r1 ++ ([(PV.agg (p_i_Term _x3))])) K0))
 ((_r1.length + 1) * 80 ≤ 140737488355328 ∧
 R _a1 _b1 (W (_n1 + 1)) _x7 _x2 (_r1 ++ ([(PV.agg (p_i_Term _x3))])) K0))))))
 (K0 _b1 _x1 _r1)
def L_ra_items_2 (T : Tab) : Nat → YL_ra_items_2
  | 0 => fun _ _ _ _ _ _ _ => False
  | n + 1 => B_ra_items_2 T (L_ra_items_2 T n)
abbrev YL_ra_items_0 := Arr → Bool → Int → S_ra → S_i_Stmt → (Arr → Bool → S_ra → S_i_Stmt → Prop) → Prop
def B_ra_items_0 (T : Tab) (R : YL_ra_items_0) (_a1 : Arr) (_b1 : Bool) (_n1 : Int) (_x1 : S_ra) (_x2 : S_i_Stmt) (K0 : Arr → Bool → S_ra → S_i_Stmt → Prop) : Prop :=
 br (decide (_n1 < (_x2.Items.n : Int)))
 (0 ≤ _n1 ∧ _n1 < (_x2.Items.n : Int) ∧
 as_i_Expr (_x2.Items.g (_n1.toNat)) fun x13 =>
 T.f_ref13_aggregate x13.Kind
 (fun _b2 =>
 br _b1
 (R _a1 true (W (_n1 + 1)) _x1 _x2 K0)
 (R _a1 _b2 (W (_n1 + 1)) _x1 _x2 K0)))
 (K0 _a1 _b1 _x1 _x2)
def L_ra_items_0 (T : Tab) : Nat → YL_ra_items_0
  | 0 => fun _ _ _ _ _ _ => False
  | n + 1 => B_ra_items_0 T (L_ra_items_0 T n)
def F_ra_items (T : Tab) (_x1 : S_i_Stmt) (_a1 : Arr) (_x2 : S_ra) (K0 : Arr → Bool → S_ra → Prop) : Prop :=
 L_ra_items_0 T T.fuel _a1 (decide ((_x1.Groups.n : Int) > (0 : Int))) 0 _x2 _x1
 (fun a25 b26 x27 x28 =>
 L_ra_items_2 T T.fuel a25 b26 0 x27 x28 ([])
 (fun b165 x166 r167 =>
 K0 (lst true r167) b165 x166))
def F_ref13_aggregate (T : Tab) (_n1 : Int) (K0 : Bool → Prop) : Prop :=
 br (decide (_n1 ≥ (11 : Int)))
 (K0 (decide (_n1 ≤ (14 : Int))))
 (K0 false)
abbrev YL_ref13_among_0 := Arr → Int → Int → Prop → Prop → Prop
def B_ref13_among_0 (T : Tab) (R : YL_ref13_among_0) (_a1 : Arr) (_n1 : Int) (_n2 : Int) (K0 : Prop) (K1 : Prop) : Prop :=
 br (decide (_n2 < (_a1.n : Int)))
 (0 ≤ _n2 ∧ _n2 < (_a1.n : Int) ∧
 asI_i64 (_a1.g (_n2.toNat)) fun n5 =>
 br (n5 == _n1)
 (K0 )
 (R _a1 _n1 (W (_n2 + 1)) K0 K1))
 (K1 )
def L_ref13_among_0 (T : Tab) : Nat → YL_ref13_among_0
  | 0 => fun _ _ _ _ _ => False
  | n + 1 => B_ref13_among_0 T (L_ref13_among_0 T n)
def F_ref13_among (T : Tab) (_a1 : Arr) (_n1 : Int) (K0 : Bool → Prop) : Prop :=
 L_ref13_among_0 T T.fuel _a1 _n1 0
 (K0 true)
 (K0 false)
abbrev YL_law13_same_0 := Int → S_i_Typed → S_i_Typed → Prop → (S_i_Typed → S_i_Typed → Prop) → Prop
def B_law13_same_0 (T : Tab) (R : YL_law13_same_0) (_n1 : Int) (_x1 : S_i_Typed) (_x2 : S_i_Typed) (K0 : Prop) (K1 : S_i_Typed → S_i_Typed → Prop) : Prop :=
 br (decide (_n1 < (_x1.Sorts.n : Int)))
 (0 ≤ _n1 ∧ _n1 < (_x1.Sorts.n : Int) ∧
 as_i_Sort (_x1.Sorts.g (_n1.toNat)) fun x14 =>
 0 ≤ _n1 ∧ _n1 < (_x2.Sorts.n : Int) ∧
 as_i_Sort (_x2.Sorts.g (_n1.toNat)) fun x15 =>
 br (!((x14.Item == x15.Item) && ((x14.Desc == x15.Desc) && (x14.At == x15.At))))
 (K0 )
 (R (W (_n1 + 1)) _x1 _x2 K0 K1))
 (K1 _x1 _x2)
def L_law13_same_0 (T : Tab) : Nat → YL_law13_same_0
  | 0 => fun _ _ _ _ _ => False
  | n + 1 => B_law13_same_0 T (L_law13_same_0 T n)
def F_law13_same (T : Tab) (_x1 : S_i_Typed) (_x2 : S_i_Typed) (K0 : Bool → Prop) : Prop :=
 T.f_law13_sameTerms _x1.On _x2.On
 (fun _b1 =>
 T.f_law13_sameTerms _x1.Where _x2.Where
 (fun _b2 =>
 T.f_law13_sameTerms _x1.Items _x2.Items
 (fun _b3 =>
 T.f_law13_ints _x1.Tables _x2.Tables
 (fun _b4 =>
 T.f_law13_ints _x1.Columns _x2.Columns
 (fun _b5 =>
 T.f_law13_ints _x1.Groups _x2.Groups
 (fun _b6 =>
 T.f_law13_ints _x1.Limit _x2.Limit
 (fun _b7 =>
 T.f_law13_ints _x1.Types _x2.Types
 (fun _b8 =>
 br (!_b1)
 (K0 false)
 (br (!_b2)
 (K0 false)
 (br (!_b3)
 (K0 false)
 (br (!_b4)
 (K0 false)
 (br (!_b5)
 (K0 false)
 (br (!_b6)
 (K0 false)
 (br (!_b7)
 (K0 false)
 (br (!_b8)
 (K0 false)
 (br ((_x1.Sorts.n : Int) != (_x2.Sorts.n : Int))
 (K0 false)
 (L_law13_same_0 T T.fuel 0 _x1 _x2
 (K0 false)
 (fun x19 x20 =>
 br (x19.Kind == x20.Kind)
 (K0 (x19.Grouped == x20.Grouped))
 (K0 false)))))))))))))))))))
abbrev YL_law13_sameTerms_0 := Arr → Arr → Int → Prop → Prop → Prop
def B_law13_sameTerms_0 (T : Tab) (R : YL_law13_sameTerms_0) (_a1 : Arr) (_a2 : Arr) (_n1 : Int) (K0 : Prop) (K1 : Prop) : Prop :=
 br (decide (_n1 < (_a1.n : Int)))
 (0 ≤ _n1 ∧ _n1 < (_a1.n : Int) ∧
 as_i_Term (_a1.g (_n1.toNat)) fun x15 =>
 0 ≤ _n1 ∧ _n1 < (_a2.n : Int) ∧
 as_i_Term (_a2.g (_n1.toNat)) fun x16 =>
 T.f_law13_sameTerms x15.Kids x16.Kids
 (fun _b1 =>
 br (!_b1)
 (K0 )
 (0 ≤ _n1 ∧ _n1 < (_a1.n : Int) ∧
 as_i_Term (_a1.g (_n1.toNat)) fun x18 =>
 0 ≤ _n1 ∧ _n1 < (_a2.n : Int) ∧
 as_i_Term (_a2.g (_n1.toNat)) fun x19 =>
 br (x18.Op != x19.Op)
 (K0 )
 (0 ≤ _n1 ∧ _n1 < (_a1.n : Int) ∧
 as_i_Term (_a1.g (_n1.toNat)) fun x20 =>
 0 ≤ _n1 ∧ _n1 < (_a2.n : Int) ∧
 as_i_Term (_a2.g (_n1.toNat)) fun x21 =>
 br (x20.Num != x21.Num)
 (K0 )
 (0 ≤ _n1 ∧ _n1 < (_a1.n : Int) ∧
 as_i_Term (_a1.g (_n1.toNat)) fun x22 =>
 0 ≤ _n1 ∧ _n1 < (_a2.n : Int) ∧
 as_i_Term (_a2.g (_n1.toNat)) fun x23 =>
 br (x22.Type_ != x23.Type_)
 (K0 )
 (0 ≤ _n1 ∧ _n1 < (_a1.n : Int) ∧
 as_i_Term (_a1.g (_n1.toNat)) fun x24 =>
 0 ≤ _n1 ∧ _n1 < (_a2.n : Int) ∧
 as_i_Term (_a2.g (_n1.toNat)) fun x25 =>
 br (!((x24.Value_Kind == x25.Value_Kind) && ((x24.Value_Int == x25.Value_Int) && (x24.Value_Text.toList == x25.Value_Text.toList))))
 (K0 )
 (R _a1 _a2 (W (_n1 + 1)) K0 K1)))))))
 (K1 )
def L_law13_sameTerms_0 (T : Tab) : Nat → YL_law13_sameTerms_0
  | 0 => fun _ _ _ _ _ => False
  | n + 1 => B_law13_sameTerms_0 T (L_law13_sameTerms_0 T n)
def F_law13_sameTerms (T : Tab) (_a1 : Arr) (_a2 : Arr) (K0 : Bool → Prop) : Prop :=
 br ((_a1.n : Int) != (_a2.n : Int))
 (K0 false)
 (L_law13_sameTerms_0 T T.fuel _a1 _a2 0
 (K0 false)
 (K0 true))
abbrev YL_law13_ints_0 := Arr → Arr → Int → Prop → Prop → Prop
def B_law13_ints_0 (T : Tab) (R : YL_law13_ints_0) (_a1 : Arr) (_a2 : Arr) (_n1 : Int) (K0 : Prop) (K1 : Prop) : Prop :=
 br (decide (_n1 < (_a1.n : Int)))
 (0 ≤ _n1 ∧ _n1 < (_a1.n : Int) ∧
 asI_i64 (_a1.g (_n1.toNat)) fun n6 =>
 0 ≤ _n1 ∧ _n1 < (_a2.n : Int) ∧
 asI_i64 (_a2.g (_n1.toNat)) fun n7 =>
 br (n6 != n7)
 (K0 )
 (R _a1 _a2 (W (_n1 + 1)) K0 K1))
 (K1 )
def L_law13_ints_0 (T : Tab) : Nat → YL_law13_ints_0
  | 0 => fun _ _ _ _ _ => False
  | n + 1 => B_law13_ints_0 T (L_law13_ints_0 T n)
def F_law13_ints (T : Tab) (_a1 : Arr) (_a2 : Arr) (K0 : Bool → Prop) : Prop :=
 br ((_a1.n : Int) != (_a2.n : Int))
 (K0 false)
 (L_law13_ints_0 T T.fuel _a1 _a2 0
 (K0 false)
 (K0 true))
end
end Go.RX
