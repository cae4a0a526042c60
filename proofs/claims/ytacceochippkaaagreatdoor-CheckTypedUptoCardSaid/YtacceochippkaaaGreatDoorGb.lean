/- Printed by a program of the prover: the functions that the law reaches, as functions in Lean, and that the model does what they say. No condition. -/
import Derived.Test.YtacceochippkaaaGreatDoorGa
set_option linter.all false
namespace Go.RX
noncomputable section
def F_z1d (T : Tab) (_x1 : S_x1) (_a1 : Arr) (_x2 : S_x9) (K0 : Bool → Prop) : Prop :=
 T.f_z1e
 (fun _b1 =>
 T.f_zb _x1 _a1 _x2
 (fun _b2 =>
 T.f_z1v _x1 _a1 _x2
 (fun _b3 =>
 br _b1
 (K0 (_b2 == _b3))
 (K0 false))))
def F_z1e (T : Tab)  (K0 : Bool → Prop) : Prop :=
 K0 true
def F_zb (T : Tab) (_x1 : S_x1) (_a1 : Arr) (_x2 : S_x9) (K0 : Bool → Prop) : Prop :=
 T.f_zd _x1 _a1
 (K0 false)
 (fun _a2 _a3 _n1 _n2 _m1 _m2 =>
 T.f_z18 ⟨_x1.Tables, _x1.Procs, _a1, _x2.Kind, _x2.Tables, _x2.On, _x2.Where, _x2.Items, _x2.Columns, _x2.Grouped, _x2.Groups, _x2.Sorts, _x2.Limit, _x2.Types⟩
 (fun _x3 _b1 _x4 =>
 br (!_b1)
 (K0 false)
 (T.f_za ⟨⟨false, _x1.Tables.n, (fun i => de (_x1.Tables.g i))⟩, ⟨false, _x1.Procs.n, (fun i => de (_x1.Procs.g i))⟩⟩ ⟨false, _a1.n, (fun i => de (_a1.g i))⟩ ⟨_x3.Kind, _x3.Table, _x3.Join, ⟨false, _x3.On.n, (fun i => de (_x3.On.g i))⟩, ⟨false, _x3.Where.n, (fun i => de (_x3.Where.g i))⟩, ⟨false, _x3.Items.n, (fun i => de (_x3.Items.g i))⟩, _x3.Star, ⟨false, _x3.Sets.n, (fun i => de (_x3.Sets.g i))⟩, ⟨false, _x3.Groups.n, (fun i => de (_x3.Groups.g i))⟩, ⟨false, _x3.Sorts.n, (fun i => de (_x3.Sorts.g i))⟩, ⟨false, _x3.Limit.n, (fun i => de (_x3.Limit.g i))⟩, _x3.At, _x3.JoinAt⟩
 (fun _x5 _x6 =>
 br (_x6.Code == (0 : Int))
 (T.f_zv _x5 _x2
 (fun _b2 =>
 K0 _b2))
 (K0 false)))))
abbrev YL_zd_0 := Arr → Int → Int → Arr → Arr → Int → Int → (List (PV × PV)) → (List (PV × PV)) → (Arr → Arr → Int → Int → (List (PV × PV)) → (List (PV × PV)) → Prop) → Prop
def B_zd_0 (T : Tab) (R : YL_zd_0) (_a1 : Arr) (_n1 _n2 : Int) (_a2 _a3 : Arr) (_n3 _n4 : Int) (_m1 _m2 : List (PV × PV)) (K0 : Arr → Arr → Int → Int → (List (PV × PV)) → (List (PV × PV)) → Prop) : Prop :=
 br (decide (_n2 < _n1))
 (0 ≤ _n2 ∧ _n2 < (_a1.n : Int) ∧
 as_x7 (_a1.g (_n2.toNat)) fun x13 =>
 R _a1 _n1 (W (_n2 + 1)) _a2 _a3 _n3 _n4 (m5 (PV.str x13.Name) (PV.agg [.int .i64 _n2, .int .i64 x13.Type_, .int .i64 0]) _m1) _m2 K0)
 (K0 _a2 _a3 _n3 _n4 _m1 _m2)
def L_zd_0 (T : Tab) : Nat → YL_zd_0
  | 0 => fun _ _ _ _ _ _ _ _ _ _ => False
  | n + 1 => B_zd_0 T (L_zd_0 T n)
def F_zd (T : Tab) (_x1 : S_x1) (_a1 : Arr) (K0 : Prop) (K1 : Arr → Arr → Int → Int → (List (PV × PV)) → (List (PV × PV)) → Prop) : Prop :=
 T.f_z0 _x1
 (fun _b1 =>
 br (!_b1)
 (K0 )
 (T.f_zt _a1
 (fun _b2 =>
 br (!_b2)
 (K0 )
 (L_zd_0 T T.fuel _a1 (_a1.n : Int) 0 _x1.Tables _x1.Procs 0 0 ([]) ([])
 (fun a23 a24 n25 n26 m27 m28 =>
 K1 a23 a24 n25 n26 m27 m28)))))
abbrev YL_z0_2 := Arr → Int → Int → (List (PV × PV)) → Prop → Prop → Prop
def B_z0_2 (T : Tab) (R : YL_z0_2) (_a1 : Arr) (_n1 _n2 : Int) (_m1 : List (PV × PV)) (K0 : Prop) (K1 : Prop) : Prop :=
 br (decide (_n2 < _n1))
 (0 ≤ _n2 ∧ _n2 < (_a1.n : Int) ∧
 as_xc (_a1.g (_n2.toNat)) fun x33 =>
 T.f_z1 x33
 (fun _b1 =>
 br (!_b1)
 (K0 )
 (T.f_z5 x33.Name _m1
 (fun _b2 _m2 =>
 br (!_b2)
 (K0 )
 (R _a1 _n1 (W (_n2 + 1)) _m2 K0 K1)))))
 (K1 )
def L_z0_2 (T : Tab) : Nat → YL_z0_2
  | 0 => fun _ _ _ _ _ _ => False
  | n + 1 => B_z0_2 T (L_z0_2 T n)
abbrev YL_z0_0 := Arr → Int → Int → S_x1 → (List (PV × PV)) → (List (PV × PV)) → Prop → (S_x1 → (List (PV × PV)) → Prop) → Prop
def B_z0_0 (T : Tab) (R : YL_z0_0) (_a1 : Arr) (_n1 _n2 : Int) (_x1 : S_x1) (_m1 _m2 : List (PV × PV)) (K0 : Prop) (K1 : S_x1 → (List (PV × PV)) → Prop) : Prop :=
 br (decide (_n2 < _n1))
 (0 ≤ _n2 ∧ _n2 < (_a1.n : Int) ∧
 as_x8 (_a1.g (_n2.toNat)) fun x13 =>
 T.f_z3 x13
 (fun _b1 =>
 br (!_b1)
 (K0 )
 (T.f_z5 x13.Name _m1
 (fun _b2 _m3 =>
 br (!_b2)
 (K0 )
 (R _a1 _n1 (W (_n2 + 1)) _x1 _m3 _m2 K0 K1)))))
 (K1 _x1 _m2)
def L_z0_0 (T : Tab) : Nat → YL_z0_0
  | 0 => fun _ _ _ _ _ _ _ _ => False
  | n + 1 => B_z0_0 T (L_z0_0 T n)
def F_z0 (T : Tab) (_x1 : S_x1) (K0 : Bool → Prop) : Prop :=
 br (decide ((_x1.Tables.n : Int) > (8 : Int)))
 (K0 false)
 (br (decide ((_x1.Procs.n : Int) > (16 : Int)))
 (K0 false)
 (T.f_z4
 (fun _m1 =>
 T.f_z4
 (fun _m2 =>
 L_z0_0 T T.fuel _x1.Tables (_x1.Tables.n : Int) 0 _x1 _m1 _m2
 (K0 false)
 (fun x23 m24 =>
 L_z0_2 T T.fuel x23.Procs (x23.Procs.n : Int) 0 m24
 (K0 false)
 (K0 true))))))
def F_z4 (T : Tab)  (K0 : (List (PV × PV)) → Prop) : Prop :=
 K0 ([])
abbrev YL_z3_4 := Arr → Int → Int → S_x8 → (List (PV × PV)) → Prop → Prop → Prop
def B_z3_4 (T : Tab) (R : YL_z3_4) (_a1 : Arr) (_n1 _n2 : Int) (_x1 : S_x8) (_m1 : List (PV × PV)) (K0 : Prop) (K1 : Prop) : Prop :=
 br (decide (_n2 < _n1))
 (0 ≤ _n2 ∧ _n2 < (_a1.n : Int) ∧
 as_x6 (_a1.g (_n2.toNat)) fun x53 =>
 T.f_z5 x53.Name _m1
 (fun _b1 _m2 =>
 br (!_b1)
 (K0 )
 (T.f_z8 x53.Columns (_x1.Columns.n : Int)
 (fun _b2 =>
 br (!_b2)
 (K0 )
 (R _a1 _n1 (W (_n2 + 1)) _x1 _m2 K0 K1)))))
 (K1 )
def L_z3_4 (T : Tab) : Nat → YL_z3_4
  | 0 => fun _ _ _ _ _ _ _ => False
  | n + 1 => B_z3_4 T (L_z3_4 T n)
abbrev YL_z3_2 := Arr → Int → Int → S_x8 → (List (PV × PV)) → Prop → (S_x8 → (List (PV × PV)) → Prop) → Prop
def B_z3_2 (T : Tab) (R : YL_z3_2) (_a1 : Arr) (_n1 _n2 : Int) (_x1 : S_x8) (_m1 : List (PV × PV)) (K0 : Prop) (K1 : S_x8 → (List (PV × PV)) → Prop) : Prop :=
 br (decide (_n2 < _n1))
 (0 ≤ _n2 ∧ _n2 < (_a1.n : Int) ∧
 bf (_a1.g (_n2.toNat)) fun n35 =>
 0 ≤ n35 ∧ n35 < (_x1.Columns.n : Int) ∧
 as_x4 (_x1.Columns.g (n35.toNat)) fun x36 =>
 br (!x36.NotNull)
 (K0 )
 (R _a1 _n1 (W (_n2 + 1)) _x1 _m1 K0 K1))
 (K1 _x1 _m1)
def L_z3_2 (T : Tab) : Nat → YL_z3_2
  | 0 => fun _ _ _ _ _ _ _ => False
  | n + 1 => B_z3_2 T (L_z3_2 T n)
abbrev YL_z3_0 := Arr → Int → Int → S_x8 → (List (PV × PV)) → (List (PV × PV)) → Prop → (S_x8 → (List (PV × PV)) → Prop) → Prop
def B_z3_0 (T : Tab) (R : YL_z3_0) (_a1 : Arr) (_n1 _n2 : Int) (_x1 : S_x8) (_m1 _m2 : List (PV × PV)) (K0 : Prop) (K1 : S_x8 → (List (PV × PV)) → Prop) : Prop :=
 br (decide (_n2 < _n1))
 (0 ≤ _n2 ∧ _n2 < (_a1.n : Int) ∧
 as_x4 (_a1.g (_n2.toNat)) fun x14 =>
 T.f_z5 x14.Name _m1
 (fun _b1 _m3 =>
 br (!_b1)
 (K0 )
 (T.f_z9 x14.Type_
 (fun _b2 =>
 br (!_b2)
 (K0 )
 (R _a1 _n1 (W (_n2 + 1)) _x1 _m3 _m2 K0 K1)))))
 (K1 _x1 _m2)
def L_z3_0 (T : Tab) : Nat → YL_z3_0
  | 0 => fun _ _ _ _ _ _ _ _ => False
  | n + 1 => B_z3_0 T (L_z3_0 T n)
def F_z3 (T : Tab) (_x1 : S_x8) (K0 : Bool → Prop) : Prop :=
 T.f_z6 _x1.Name
 (fun _b1 =>
 br (!_b1)
 (K0 false)
 (br ((_x1.Columns.n : Int) == (0 : Int))
 (K0 false)
 (br (decide ((_x1.Columns.n : Int) > (16 : Int)))
 (K0 false)
 (br (decide ((_x1.Indexes.n : Int) > (4 : Int)))
 (K0 false)
 (T.f_z4
 (fun _m1 =>
 T.f_z4
 (fun _m2 =>
 L_z3_0 T T.fuel _x1.Columns (_x1.Columns.n : Int) 0 _x1 _m1 _m2
 (K0 false)
 (fun x24 m25 =>
 T.f_z8 x24.Key (x24.Columns.n : Int)
 (fun _b2 =>
 br (!_b2)
 (K0 false)
 (T.f_z2h x24.Key x24.Part
 (fun _b3 =>
 br (!_b3)
 (K0 false)
 (L_z3_2 T T.fuel x24.Key (x24.Key.n : Int) 0 x24 m25
 (K0 false)
 (fun x42 m43 =>
 L_z3_4 T T.fuel x42.Indexes (x42.Indexes.n : Int) 0 x42 m43
 (K0 false)
 (K0 true))))))))))))))
def F_z6 (T : Tab) (_s1 : ByteArray) (K0 : Bool → Prop) : Prop :=
 br (_s1.toList == (ByteArray.mk #[]).toList)
 (K0 false)
 (br (decide ((_s1.size : Int) > (16 : Int)))
 (K0 false)
 (0 ≤ (0 : Int) ∧ (0 : Int) < (_s1.size : Int) ∧
 br (decide ((cb _s1 (0 : Int).toNat) < (97 : Int)))
 (K0 false)
 (0 ≤ (0 : Int) ∧ (0 : Int) < (_s1.size : Int) ∧
 br (decide ((cb _s1 (0 : Int).toNat) > (122 : Int)))
 (K0 false)
 (T.f_z2s _s1
 (fun _b1 =>
 K0 (!_b1))))))
def F_z2s (T : Tab) (_s1 : ByteArray) (K0 : Bool → Prop) : Prop :=
 T.f_z2u _s1
 (fun _n1 =>
 K0 (decide (_n1 ≥ (0 : Int))))
def F_z2u (T : Tab) (_s1 : ByteArray) (K0 : Int → Prop) : Prop :=
 T.f_z2v _s1 true
 (fun _n1 =>
 K0 _n1)
abbrev YL_z2v_0 := Bool → ByteArray → Nat → (Int → Prop) → Prop → Prop
def B_z2v_0 (T : Tab) (R : YL_z2v_0) (_b1 : Bool) (_s1 : ByteArray) (_i1 : Nat) (K0 : Int → Prop) (K1 : Prop) : Prop :=
 br (decide (_i1 < _s1.size))
 (T.f_z7 ((Utf8.decode _s1 _i1).1 : Int)
 (fun _b2 =>
 br (_b2 == _b1)
 (K0 (_i1 : Int))
 (R _b1 _s1 (_i1 + (Utf8.decode _s1 _i1).2) K0 K1)))
 (K1 )
def L_z2v_0 (T : Tab) : Nat → YL_z2v_0
  | 0 => fun _ _ _ _ _ => False
  | n + 1 => B_z2v_0 T (L_z2v_0 T n)
def F_z2v (T : Tab) (_s1 : ByteArray) (_b1 : Bool) (K0 : Int → Prop) : Prop :=
 L_z2v_0 T T.fuel _b1 _s1 0
 (fun n9 =>
 K0 n9)
 (K0 (-1))
def F_z7 (T : Tab) (_n1 : Int) (K0 : Bool → Prop) : Prop :=
 br (_n1 != (95 : Int))
 (br (decide (_n1 < (48 : Int)))
 (br (decide (_n1 < (97 : Int)))
 (K0 true)
 (K0 (decide (_n1 > (122 : Int)))))
 (br (decide (_n1 > (57 : Int)))
 (br (decide (_n1 < (97 : Int)))
 (K0 true)
 (K0 (decide (_n1 > (122 : Int)))))
 (K0 false)))
 (K0 false)
def F_z5 (T : Tab) (_s1 : ByteArray) (_m1 : List (PV × PV)) (K0 : Bool → (List (PV × PV)) → Prop) : Prop :=
 T.f_z6 _s1
 (fun _b1 =>
 br _b1
 (asB ((look (PV.str _s1) _m1).getD (PV.bool false)) fun b2 =>
 K0 (!b2) (m5 (PV.str _s1) (PV.bool true) _m1))
 (K0 false (m5 (PV.str _s1) (PV.bool true) _m1)))
def F_z9 (T : Tab) (_n1 : Int) (K0 : Bool → Prop) : Prop :=
 br (decide (_n1 ≥ (1 : Int)))
 (K0 (decide (_n1 ≤ (3 : Int))))
 (K0 false)
abbrev YL_z8_0 := Arr → Int → Arr → Int → Int → (List (PV × PV)) → Prop → (Arr → Prop) → Prop
def B_z8_0 (T : Tab) (R : YL_z8_0) (_a1 : Arr) (_n1 : Int) (_a2 : Arr) (_n2 _n3 : Int) (_m1 : List (PV × PV)) (K0 : Prop) (K1 : Arr → Prop) : Prop :=
 br (decide (_n3 < _n2))
 (0 ≤ _n3 ∧ _n3 < (_a2.n : Int) ∧
 bf (_a2.g (_n3.toNat)) fun n9 =>
 br (decide (n9 < (0 : Int)))
 (K0 )
 (br (decide (n9 ≥ _n1))
 (K0 )
 (asB ((look (PV.int .i64 n9) _m1).getD (PV.bool false)) fun b10 =>
 br b10
 (K0 )
 (R _a1 _n1 _a2 _n2 (W (_n3 + 1)) (m5 (PV.int .i64 n9) (PV.bool true) _m1) K0 K1))))
 (K1 _a1)
def L_z8_0 (T : Tab) : Nat → YL_z8_0
  | 0 => fun _ _ _ _ _ _ _ _ => False
  | n + 1 => B_z8_0 T (L_z8_0 T n)
def F_z8 (T : Tab) (_a1 : Arr) (_n1 : Int) (K0 : Bool → Prop) : Prop :=
 L_z8_0 T T.fuel _a1 _n1 _a1 (_a1.n : Int) 0 ([])
 (K0 false)
 (fun a17 =>
 br (decide ((a17.n : Int) ≥ (1 : Int)))
 (K0 (decide ((a17.n : Int) ≤ (8 : Int))))
 (K0 false))
def F_z2h (T : Tab) (_a1 : Arr) (_n1 : Int) (K0 : Bool → Prop) : Prop :=
 T.f_z2r _a1 _n1
 (fun _n2 =>
 K0 (decide (_n2 ≥ (0 : Int))))
abbrev YL_z2r_0 := Arr → Int → Int → Int → (Int → Prop) → Prop → Prop
def B_z2r_0 (T : Tab) (R : YL_z2r_0) (_a1 : Arr) (_n1 _n2 _n3 : Int) (K0 : Int → Prop) (K1 : Prop) : Prop :=
 br (decide (_n3 < _n2))
 (0 ≤ _n3 ∧ _n3 < (_a1.n : Int) ∧
 bf (_a1.g (_n3.toNat)) fun n6 =>
 br (_n1 == n6)
 (K0 _n3)
 (R _a1 _n1 _n2 (W (_n3 + 1)) K0 K1))
 (K1 )
def L_z2r_0 (T : Tab) : Nat → YL_z2r_0
  | 0 => fun _ _ _ _ _ _ => False
  | n + 1 => B_z2r_0 T (L_z2r_0 T n)
def F_z2r (T : Tab) (_a1 : Arr) (_n1 : Int) (K0 : Int → Prop) : Prop :=
 L_z2r_0 T T.fuel _a1 _n1 (_a1.n : Int) 0
 (fun n11 =>
 K0 n11)
 (K0 (-1))
abbrev YL_z1_0 := Arr → Int → Int → S_xc → (List (PV × PV)) → Prop → (S_xc → Prop) → Prop
def B_z1_0 (T : Tab) (R : YL_z1_0) (_a1 : Arr) (_n1 _n2 : Int) (_x1 : S_xc) (_m1 : List (PV × PV)) (K0 : Prop) (K1 : S_xc → Prop) : Prop :=
 br (decide (_n2 < _n1))
 (0 ≤ _n2 ∧ _n2 < (_a1.n : Int) ∧
 as_x7 (_a1.g (_n2.toNat)) fun x12 =>
 T.f_z5 x12.Name _m1
 (fun _b1 _m2 =>
 br (!_b1)
 (K0 )
 (T.f_z9 x12.Type_
 (fun _b2 =>
 br (!_b2)
 (K0 )
 (R _a1 _n1 (W (_n2 + 1)) _x1 _m2 K0 K1)))))
 (K1 _x1)
def L_z1_0 (T : Tab) : Nat → YL_z1_0
  | 0 => fun _ _ _ _ _ _ _ => False
  | n + 1 => B_z1_0 T (L_z1_0 T n)
def F_z1 (T : Tab) (_x1 : S_xc) (K0 : Bool → Prop) : Prop :=
 T.f_z6 _x1.Name
 (fun _b1 =>
 br (!_b1)
 (K0 false)
 (br (decide ((_x1.Params.n : Int) > (8 : Int)))
 (K0 false)
 (br ((_x1.Body.n : Int) == (0 : Int))
 (K0 false)
 (br (decide ((_x1.Body.n : Int) > (8 : Int)))
 (K0 false)
 (br (decide (_x1.Rows < (0 : Int)))
 (K0 false)
 (br (decide (_x1.Rows > (1048576 : Int)))
 (K0 false)
 (br (decide (_x1.Bytes < (0 : Int)))
 (K0 false)
 (br (decide (_x1.Bytes > (1048576 : Int)))
 (K0 false)
 (T.f_z4
 (fun _m1 =>
 L_z1_0 T T.fuel _x1.Params (_x1.Params.n : Int) 0 _x1 _m1
 (K0 false)
 (fun x21 =>
 T.f_z2g x21.Body
 (fun _b2 =>
 K0 (!_b2)))))))))))))
def F_z2g (T : Tab) (_a1 : Arr) (K0 : Bool → Prop) : Prop :=
 T.f_z2q _a1
 (fun _n1 =>
 K0 (decide (_n1 ≥ (0 : Int))))
abbrev YL_z2q_0 := Arr → Int → Int → (Int → Prop) → Prop → Prop
def B_z2q_0 (T : Tab) (R : YL_z2q_0) (_a1 : Arr) (_n1 _n2 : Int) (K0 : Int → Prop) (K1 : Prop) : Prop :=
 br (decide (_n2 < _n1))
 (0 ≤ _n2 ∧ _n2 < (_a1.n : Int) ∧
 asS (_a1.g (_n2.toNat)) fun s6 =>
 T.f_z2 s6
 (fun _b1 =>
 br _b1
 (K0 _n2)
 (R _a1 _n1 (W (_n2 + 1)) K0 K1)))
 (K1 )
def L_z2q_0 (T : Tab) : Nat → YL_z2q_0
  | 0 => fun _ _ _ _ _ => False
  | n + 1 => B_z2q_0 T (L_z2q_0 T n)
def F_z2q (T : Tab) (_a1 : Arr) (K0 : Int → Prop) : Prop :=
 L_z2q_0 T T.fuel _a1 (_a1.n : Int) 0
 (fun n11 =>
 K0 n11)
 (K0 (-1))
def F_z2 (T : Tab) (_s1 : ByteArray) (K0 : Bool → Prop) : Prop :=
 br (_s1.toList == (ByteArray.mk #[]).toList)
 (K0 true)
 (K0 (decide ((_s1.size : Int) > (1000 : Int))))
abbrev YL_zt_0 := Arr → Arr → Int → Int → (List (PV × PV)) → Prop → (Arr → Prop) → Prop
def B_zt_0 (T : Tab) (R : YL_zt_0) (_a1 _a2 : Arr) (_n1 _n2 : Int) (_m1 : List (PV × PV)) (K0 : Prop) (K1 : Arr → Prop) : Prop :=
 br (decide (_n2 < _n1))
 (0 ≤ _n2 ∧ _n2 < (_a2.n : Int) ∧
 as_x7 (_a2.g (_n2.toNat)) fun x10 =>
 bf ((look (PV.str x10.Name) _m1).getD (PV.int .i64 0)) fun n11 =>
 bf ((look (PV.str x10.Name) (m5 (PV.str x10.Name) (PV.int .i64 (W (n11 + 1))) _m1)).getD (PV.int .i64 0)) fun n12 =>
 br (decide (n12 > (1 : Int)))
 (K0 )
 (T.f_z1f x10.Name
 (fun _b1 =>
 br (!_b1)
 (K0 )
 (br (decide (x10.Type_ < (1 : Int)))
 (K0 )
 (br (decide (x10.Type_ > (3 : Int)))
 (K0 )
 (R _a1 _a2 _n1 (W (_n2 + 1)) (m5 (PV.str x10.Name) (PV.int .i64 (W (n11 + 1))) _m1) K0 K1))))))
 (K1 _a1)
def L_zt_0 (T : Tab) : Nat → YL_zt_0
  | 0 => fun _ _ _ _ _ _ _ => False
  | n + 1 => B_zt_0 T (L_zt_0 T n)
def F_zt (T : Tab) (_a1 : Arr) (K0 : Bool → Prop) : Prop :=
 L_zt_0 T T.fuel _a1 _a1 (_a1.n : Int) 0 ([])
 (K0 false)
 (fun a19 =>
 K0 (decide ((a19.n : Int) ≤ (8 : Int))))
abbrev YL_z1f_0 := ByteArray → Int → Int → Prop → (ByteArray → Prop) → Prop
def B_z1f_0 (T : Tab) (R : YL_z1f_0) (_s1 : ByteArray) (_n1 _n2 : Int) (K0 : Prop) (K1 : ByteArray → Prop) : Prop :=
 br (decide (_n2 < _n1))
 (0 ≤ _n2 ∧ _n2 < (_s1.size : Int) ∧
 T.f_z1g (cb _s1 (_n2).toNat)
 (fun _n3 =>
 br (_n3 != (3 : Int))
 (br (_n2 == (0 : Int))
 (K0 )
 (br (_n3 != (2 : Int))
 (0 ≤ _n2 ∧ _n2 < (_s1.size : Int) ∧
 br ((cb _s1 (_n2).toNat) != (95 : Int))
 (K0 )
 (R _s1 _n1 (W (_n2 + 1)) K0 K1))
 (R _s1 _n1 (W (_n2 + 1)) K0 K1)))
 (R _s1 _n1 (W (_n2 + 1)) K0 K1)))
 (K1 _s1)
def L_z1f_0 (T : Tab) : Nat → YL_z1f_0
  | 0 => fun _ _ _ _ _ => False
  | n + 1 => B_z1f_0 T (L_z1f_0 T n)
def F_z1f (T : Tab) (_s1 : ByteArray) (K0 : Bool → Prop) : Prop :=
 L_z1f_0 T T.fuel _s1 (_s1.size : Int) 0
 (K0 false)
 (fun s21 =>
 br (!(s21.toList == (ByteArray.mk #[]).toList))
 (K0 (decide ((s21.size : Int) ≤ (16 : Int))))
 (K0 false))
def F_z1g (T : Tab) (_n1 : Int) (K0 : Int → Prop) : Prop :=
 br (_n1 == (32 : Int))
 (K0 1)
 (br (_n1 == (9 : Int))
 (K0 1)
 (br (_n1 == (10 : Int))
 (K0 1)
 (br (decide (_n1 ≥ (48 : Int)))
 (br (decide (_n1 ≤ (57 : Int)))
 (K0 2)
 (br (decide (_n1 ≥ (97 : Int)))
 (br (decide (_n1 ≤ (122 : Int)))
 (K0 3)
 (br (decide (_n1 ≥ (65 : Int)))
 (br (decide (_n1 ≤ (90 : Int)))
 (K0 4)
 (br (_n1 == (95 : Int))
 (K0 4)
 (br (_n1 == (58 : Int))
 (K0 5)
 (br (_n1 == (39 : Int))
 (K0 6)
 (br (_n1 == (45 : Int))
 (K0 7)
 (T.f_z2t (ByteArray.mk #[59, 44, 40, 41, 46, 42, 43, 47, 37, 61, 60, 62]) _n1
 (fun _n2 =>
 br (decide (_n2 ≥ (0 : Int)))
 (K0 8)
 (K0 0))))))))
 (br (_n1 == (95 : Int))
 (K0 4)
 (br (_n1 == (58 : Int))
 (K0 5)
 (br (_n1 == (39 : Int))
 (K0 6)
 (br (_n1 == (45 : Int))
 (K0 7)
 (T.f_z2t (ByteArray.mk #[59, 44, 40, 41, 46, 42, 43, 47, 37, 61, 60, 62]) _n1
 (fun _n3 =>
 br (decide (_n3 ≥ (0 : Int)))
 (K0 8)
 (K0 0)))))))))
 (br (decide (_n1 ≥ (65 : Int)))
 (br (decide (_n1 ≤ (90 : Int)))
 (K0 4)
 (br (_n1 == (95 : Int))
 (K0 4)
 (br (_n1 == (58 : Int))
 (K0 5)
 (br (_n1 == (39 : Int))
 (K0 6)
 (br (_n1 == (45 : Int))
 (K0 7)
 (T.f_z2t (ByteArray.mk #[59, 44, 40, 41, 46, 42, 43, 47, 37, 61, 60, 62]) _n1
 (fun _n4 =>
 br (decide (_n4 ≥ (0 : Int)))
 (K0 8)
 (K0 0))))))))
 (br (_n1 == (95 : Int))
 (K0 4)
 (br (_n1 == (58 : Int))
 (K0 5)
 (br (_n1 == (39 : Int))
 (K0 6)
 (br (_n1 == (45 : Int))
 (K0 7)
 (T.f_z2t (ByteArray.mk #[59, 44, 40, 41, 46, 42, 43, 47, 37, 61, 60, 62]) _n1
 (fun _n5 =>
 br (decide (_n5 ≥ (0 : Int)))
 (K0 8)
 (K0 0))))))))))
 (br (decide (_n1 ≥ (97 : Int)))
 (br (decide (_n1 ≤ (122 : Int)))
 (K0 3)
 (br (decide (_n1 ≥ (65 : Int)))
 (br (decide (_n1 ≤ (90 : Int)))
 (K0 4)
 (br (_n1 == (95 : Int))
 (K0 4)
 (br (_n1 == (58 : Int))
 (K0 5)
 (br (_n1 == (39 : Int))
 (K0 6)
 (br (_n1 == (45 : Int))
 (K0 7)
 (T.f_z2t (ByteArray.mk #[59, 44, 40, 41, 46, 42, 43, 47, 37, 61, 60, 62]) _n1
 (fun _n6 =>
 br (decide (_n6 ≥ (0 : Int)))
 (K0 8)
 (K0 0))))))))
 (br (_n1 == (95 : Int))
 (K0 4)
 (br (_n1 == (58 : Int))
 (K0 5)
 (br (_n1 == (39 : Int))
 (K0 6)
 (br (_n1 == (45 : Int))
 (K0 7)
 (T.f_z2t (ByteArray.mk #[59, 44, 40, 41, 46, 42, 43, 47, 37, 61, 60, 62]) _n1
 (fun _n7 =>
 br (decide (_n7 ≥ (0 : Int)))
 (K0 8)
 (K0 0)))))))))
 (br (decide (_n1 ≥ (65 : Int)))
 (br (decide (_n1 ≤ (90 : Int)))
 (K0 4)
 (br (_n1 == (95 : Int))
 (K0 4)
 (br (_n1 == (58 : Int))
 (K0 5)
 (br (_n1 == (39 : Int))
 (K0 6)
 (br (_n1 == (45 : Int))
 (K0 7)
 (T.f_z2t (ByteArray.mk #[59, 44, 40, 41, 46, 42, 43, 47, 37, 61, 60, 62]) _n1
 (fun _n8 =>
 br (decide (_n8 ≥ (0 : Int)))
 (K0 8)
 (K0 0))))))))
 (br (_n1 == (95 : Int))
 (K0 4)
 (br (_n1 == (58 : Int))
 (K0 5)
 (br (_n1 == (39 : Int))
 (K0 6)
 (br (_n1 == (45 : Int))
 (K0 7)
 (T.f_z2t (ByteArray.mk #[59, 44, 40, 41, 46, 42, 43, 47, 37, 61, 60, 62]) _n1
 (fun _n9 =>
 br (decide (_n9 ≥ (0 : Int)))
 (K0 8)
 (K0 0))))))))))))
def F_z2t (T : Tab) (_s1 : ByteArray) (_n1 : Int) (K0 : Int → Prop) : Prop :=
 T.f_z1c _s1 _n1
 (fun _n2 =>
 K0 _n2)
def F_z1c (T : Tab) (_s1 : ByteArray) (_n1 : Int) (K0 : Int → Prop) : Prop :=
 T.f_z1b _s1 _n1
 (fun _n2 =>
 K0 _n2)
def F_z1b (T : Tab) (_s1 : ByteArray) (_n1 : Int) (K0 : Int → Prop) : Prop :=
 K0 (yh _s1 _n1)
abbrev YL_z18_0 := Arr → Arr → Int → Int → S_x0 → Int → ByteArray → ByteArray → Arr → Arr → Bool → Int → Int → (List PV) → (S_x0 → Int → ByteArray → ByteArray → Arr → Arr → Bool → Int → Int → (List PV) → Prop) → (Arr → S_x0 → Int → ByteArray → ByteArray → Arr → Arr → Bool → Int → Int → (List PV) → Prop) → Prop
def B_z18_0 (T : Tab) (R : YL_z18_0) (_a1 _a2 : Arr) (_n1 _n2 : Int) (_x1 : S_x0) (_n3 : Int) (_s1 _s2 : ByteArray) (_a3 _a4 : Arr) (_b1 : Bool) (_n4 _n5 : Int) (_r1 : List PV) (K0 : S_x0 → Int → ByteArray → ByteArray → Arr → Arr → Bool → Int → Int → (List PV) → Prop) (K1 : Arr → S_x0 → Int → ByteArray → ByteArray → Arr → Arr → Bool → Int → Int → (List PV) → Prop) : Prop :=
 br (decide (_n2 < _n1))
 (0 ≤ _n2 ∧ _n2 < (_a2.n : Int) ∧
 bf (_a2.g (_n2.toNat)) fun n34 =>
 T.f_z13 n34 _x1
 (fun _x2 _b2 _x3 =>
 br (!_b2)
 (K0 _x3 _n3 _s1 _s2 _a3 _a4 _b1 _n4 _n5 _r1)
 ((_r1.length + 1) * 112 ≤ 140737488355328 ∧
 0 ≤ (_r1.length : Int) ∧ (_r1.length : Int) < (((_r1 ++ ([(PV.agg [.int .i64 0, .int .i64 0, .int .i64 0, .int .i64 0, .str (ByteArray.mk #[]), .str (ByteArray.mk #[]), .str (ByteArray.mk #[]), .arr ((lst true []).m) ((lst true []).n) ((lst true []).g), .int .i64 0])])).length : Nat) : Int) ∧
 R _a1 _a2 _n1 (W (_n2 + 1)) _x3 _n3 _s1 _s2 _a3 _a4 _b1 _n4 _n5 ((_r1 ++ ([(PV.agg [.int .i64 0, .int .i64 0, .int .i64 0, .int .i64 0, .str (ByteArray.mk #[]), .str (ByteArray.mk #[]), .str (ByteArray.mk #[]), .arr ((lst true []).m) ((lst true []).n) ((lst true []).g), .int .i64 0])])).set ((_r1.length : Int).toNat) (PV.agg (p_xb _x2))) K0 K1)))
 (K1 _a1 _x1 _n3 _s1 _s2 _a3 _a4 _b1 _n4 _n5 _r1)
def L_z18_0 (T : Tab) : Nat → YL_z18_0
  | 0 => fun _ _ _ _ _ _ _ _ _ _ _ _ _ _ _ _ => False
  | n + 1 => B_z18_0 T (L_z18_0 T n)
def F_z18 (T : Tab) (_x1 : S_x0) (K0 : S_xe → Bool → S_x0 → Prop) : Prop :=
 T.f_z19 _x1
 (fun _b1 _x2 =>
 br (!_b1)
 (K0 ⟨0, (ByteArray.mk #[]), (ByteArray.mk #[]), (lst true []), (lst true []), (lst true []), false, (lst true []), (lst true []), (lst true []), (lst true []), 0, 0⟩ false _x2)
 (0 ≤ (0 : Int) ∧ (0 : Int) < (_x2.t_Tables.n : Int) ∧
 bf (_x2.t_Tables.g 0) fun n3 =>
 0 ≤ n3 ∧ n3 < (_x2.c_Tables.n : Int) ∧
 as_x8 (_x2.c_Tables.g (n3.toNat)) fun x4 =>
 br ((_x2.t_Tables.n : Int) == (2 : Int))
 (0 ≤ (1 : Int) ∧ (1 : Int) < (_x2.t_Tables.n : Int) ∧
 bf (_x2.t_Tables.g 1) fun n5 =>
 0 ≤ n5 ∧ n5 < (_x2.c_Tables.n : Int) ∧
 as_x8 (_x2.c_Tables.g (n5.toNat)) fun x6 =>
 T.f_z15 _x2.t_On _x2
 (fun _a1 _b2 _x3 =>
 br (!_b2)
 (K0 ⟨_x2.t_Kind, x4.Name, x6.Name, _a1, (lst true []), (lst true []), false, (lst true []), (lst true []), (lst true []), (lst true []), 0, 0⟩ false _x3)
 (T.f_z15 _x3.t_Where _x3
 (fun _a2 _b3 _x4 =>
 br (!_b3)
 (K0 ⟨_x2.t_Kind, x4.Name, x6.Name, _a1, _a2, (lst true []), false, (lst true []), (lst true []), (lst true []), (lst true []), 0, 0⟩ false _x4)
 (T.f_z15 _x4.t_Items _x4
 (fun _a3 _b4 _x5 =>
 br (!_b4)
 (K0 ⟨_x2.t_Kind, x4.Name, x6.Name, _a1, _a2, (lst true []), false, (lst true []), (lst true []), (lst true []), (lst true []), 0, 0⟩ false _x5)
 (L_z18_0 T T.fuel _a3 _x5.t_Groups (_x5.t_Groups.n : Int) 0 _x5 _x2.t_Kind x4.Name x6.Name _a1 _a2 false 0 0 ([])
 (fun x52 n53 s54 s55 a56 a57 b58 n59 n60 r61 =>
 K0 ⟨n53, s54, s55, a56, a57, (lst true []), b58, (lst true []), (lst true r61), (lst true []), (lst true []), n59, n60⟩ false x52)
 (fun a62 x63 n64 s65 s66 a67 a68 b69 n70 n71 r72 =>
 T.f_z29 x63.t_Sorts
 (fun _a4 =>
 T.f_z2a x63.t_Limit
 (fun _a5 =>
 br (n64 == (2 : Int))
 (T.f_z16 a62 x63 n64 s65 s66 a67 a68 b69 _a4 _a5 n70 n71 r72
 (fun _x6 _n1 _s1 _s2 _a6 _a7 _b5 _a8 _a9 _n2 _n3 _r1 =>
 K0 ⟨_n1, _s1, _s2, _a6, _a7, (lst true []), _b5, (lst true []), (lst true _r1), _a8, _a9, _n2, _n3⟩ false _x6)
 (fun _b6 _x7 _n4 _s3 _s4 _a10 _a11 _b7 _a12 _a13 _n5 _n6 _r2 _r3 =>
 K0 ⟨_n4, _s3, _s4, _a10, _a11, (lst true []), _b7, (lst true _r3), (lst true _r2), _a12, _a13, _n5, _n6⟩ _b6 _x7))
 (br (n64 == (4 : Int))
 (T.f_z17 x63
 (fun _b8 _x8 =>
 br _b8
 (K0 ⟨n64, s65, s66, a67, a68, (lst true []), true, (lst true []), (lst true r72), _a4, _a5, n70, n71⟩ true _x8)
 (K0 ⟨n64, s65, s66, a67, a68, a62, b69, (lst true []), (lst true r72), _a4, _a5, n70, n71⟩ true _x8)))
 (K0 ⟨n64, s65, s66, a67, a68, a62, b69, (lst true []), (lst true r72), _a4, _a5, n70, n71⟩ true x63))))))))))))
 (T.f_z15 _x2.t_On _x2
 (fun _a14 _b9 _x9 =>
 br (!_b9)
 (K0 ⟨_x2.t_Kind, x4.Name, (ByteArray.mk #[]), _a14, (lst true []), (lst true []), false, (lst true []), (lst true []), (lst true []), (lst true []), 0, 0⟩ false _x9)
 (T.f_z15 _x9.t_Where _x9
 (fun _a15 _b10 _x10 =>
 br (!_b10)
 (K0 ⟨_x2.t_Kind, x4.Name, (ByteArray.mk #[]), _a14, _a15, (lst true []), false, (lst true []), (lst true []), (lst true []), (lst true []), 0, 0⟩ false _x10)
 (T.f_z15 _x10.t_Items _x10
 (fun _a16 _b11 _x11 =>
 br (!_b11)
 (K0 ⟨_x2.t_Kind, x4.Name, (ByteArray.mk #[]), _a14, _a15, (lst true []), false, (lst true []), (lst true []), (lst true []), (lst true []), 0, 0⟩ false _x11)
 (L_z18_0 T T.fuel _a16 _x11.t_Groups (_x11.t_Groups.n : Int) 0 _x11 _x2.t_Kind x4.Name (ByteArray.mk #[]) _a14 _a15 false 0 0 ([])
 (fun x112 n113 s114 s115 a116 a117 b118 n119 n120 r121 =>
 K0 ⟨n113, s114, s115, a116, a117, (lst true []), b118, (lst true []), (lst true r121), (lst true []), (lst true []), n119, n120⟩ false x112)
 (fun a122 x123 n124 s125 s126 a127 a128 b129 n130 n131 r132 =>
 T.f_z29 x123.t_Sorts
 (fun _a17 =>
 T.f_z2a x123.t_Limit
 (fun _a18 =>
 br (n124 == (2 : Int))
 (T.f_z16 a122 x123 n124 s125 s126 a127 a128 b129 _a17 _a18 n130 n131 r132
 (fun _x12 _n7 _s5 _s6 _a19 _a20 _b12 _a21 _a22 _n8 _n9 _r4 =>
 K0 ⟨_n7, _s5, _s6, _a19, _a20, (lst true []), _b12, (lst true []), (lst true _r4), _a21, _a22, _n8, _n9⟩ false _x12)
 (fun _b13 _x13 _n10 _s7 _s8 _a23 _a24 _b14 _a25 _a26 _n11 _n12 _r5 _r6 =>
 K0 ⟨_n10, _s7, _s8, _a23, _a24, (lst true []), _b14, (lst true _r6), (lst true _r5), _a25, _a26, _n11, _n12⟩ _b13 _x13))
 (br (n124 == (4 : Int))
 (T.f_z17 x123
 (fun _b15 _x14 =>
 br _b15
 (K0 ⟨n124, s125, s126, a127, a128, (lst true []), true, (lst true []), (lst true r132), _a17, _a18, n130, n131⟩ true _x14)
 (K0 ⟨n124, s125, s126, a127, a128, a122, b129, (lst true []), (lst true r132), _a17, _a18, n130, n131⟩ true _x14)))
 (K0 ⟨n124, s125, s126, a127, a128, a122, b129, (lst true []), (lst true r132), _a17, _a18, n130, n131⟩ true x123))))))))))))))
def F_z19 (T : Tab) (_x1 : S_x0) (K0 : Bool → S_x0 → Prop) : Prop :=
 br ((_x1.t_Tables.n : Int) == (1 : Int))
 (T.f_z2f _x1.t_Tables _x1
 (fun _b1 _x2 =>
 K0 (!_b1) _x2))
 (br ((_x1.t_Tables.n : Int) == (2 : Int))
 (T.f_z2f _x1.t_Tables _x1
 (fun _b2 _x3 =>
 K0 (!_b2) _x3))
 (K0 false _x1))
def F_z2f (T : Tab) (_a1 : Arr) (_x1 : S_x0) (K0 : Bool → S_x0 → Prop) : Prop :=
 T.f_z2p _a1 _x1
 (fun _n1 _x2 =>
 K0 (decide (_n1 ≥ (0 : Int))) _x2)
abbrev YL_z2p_0 := Arr → Int → Int → S_x0 → (Int → S_x0 → Prop) → (S_x0 → Prop) → Prop
def B_z2p_0 (T : Tab) (R : YL_z2p_0) (_a1 : Arr) (_n1 _n2 : Int) (_x1 : S_x0) (K0 : Int → S_x0 → Prop) (K1 : S_x0 → Prop) : Prop :=
 br (decide (_n2 < _n1))
 (0 ≤ _n2 ∧ _n2 < (_a1.n : Int) ∧
 bf (_a1.g (_n2.toNat)) fun n8 =>
 T.f_z1a n8 _x1
 (fun _b1 _x2 =>
 br _b1
 (K0 _n2 _x2)
 (R _a1 _n1 (W (_n2 + 1)) _x2 K0 K1)))
 (K1 _x1)
def L_z2p_0 (T : Tab) : Nat → YL_z2p_0
  | 0 => fun _ _ _ _ _ _ => False
  | n + 1 => B_z2p_0 T (L_z2p_0 T n)
def F_z2p (T : Tab) (_a1 : Arr) (_x1 : S_x0) (K0 : Int → S_x0 → Prop) : Prop :=
 L_z2p_0 T T.fuel _a1 (_a1.n : Int) 0 _x1
 (fun n15 x16 =>
 K0 n15 x16)
 (fun x17 =>
 K0 (-1) x17)
def F_z1a (T : Tab) (_n1 : Int) (_x1 : S_x0) (K0 : Bool → S_x0 → Prop) : Prop :=
 br (decide (_n1 < (0 : Int)))
 (K0 true _x1)
 (K0 (decide (_n1 ≥ (_x1.c_Tables.n : Int))) _x1)
abbrev YL_z15_0 := Arr → Int → Int → S_x0 → (List PV) → (S_x0 → Prop) → (S_x0 → (List PV) → Prop) → Prop
def B_z15_0 (T : Tab) (R : YL_z15_0) (_a1 : Arr) (_n1 _n2 : Int) (_x1 : S_x0) (_r1 : List PV) (K0 : S_x0 → Prop) (K1 : S_x0 → (List PV) → Prop) : Prop :=
 br (decide (_n2 < _n1))
 (0 ≤ _n2 ∧ _n2 < (_a1.n : Int) ∧
 as_xf (_a1.g (_n2.toNat)) fun x10 =>
 T.f_z14 x10 16 _x1
 (fun _x2 _b1 _x3 =>
 br (!_b1)
 (K0 _x3)
 ((_r1.length + 1) * 112 ≤ 140737488355328 ∧
 R _a1 _n1 (W (_n2 + 1)) _x3 (_r1 ++ ([(PV.agg (p_xb _x2))])) K0 K1)))
 (K1 _x1 _r1)
def L_z15_0 (T : Tab) : Nat → YL_z15_0
  | 0 => fun _ _ _ _ _ _ _ => False
  | n + 1 => B_z15_0 T (L_z15_0 T n)
def F_z15 (T : Tab) (_a1 : Arr) (_x1 : S_x0) (K0 : Arr → Bool → S_x0 → Prop) : Prop :=
 L_z15_0 T T.fuel _a1 (_a1.n : Int) 0 _x1 ([])
 (fun x19 =>
 K0 (lst true []) false x19)
 (fun x20 r21 =>
 K0 (lst true r21) true x20)
abbrev YL_z14_1 := Int → Arr → Int → Int → S_x0 → Int → Int → Int → Int → ByteArray → ByteArray → ByteArray → Int → Int → Int → Int → Int → ByteArray → ByteArray → ByteArray → Int → (List PV) → (S_x0 → Int → Int → Int → Int → ByteArray → ByteArray → ByteArray → Int → Prop) → (S_x0 → Int → Int → Int → Int → ByteArray → ByteArray → ByteArray → Int → Int → Int → Int → Int → ByteArray → ByteArray → ByteArray → Int → (List PV) → Prop) → Prop
def B_z14_1 (T : Tab) (R : YL_z14_1) (_n1 : Int) (_a1 : Arr) (_n2 _n3 : Int) (_x1 : S_x0) (_n4 _n5 _n6 _n7 : Int) (_s1 _s2 _s3 : ByteArray) (_n8 _n9 _n10 _n11 _n12 : Int) (_s4 _s5 _s6 : ByteArray) (_n13 : Int) (_r1 : List PV) (K0 : S_x0 → Int → Int → Int → Int → ByteArray → ByteArray → ByteArray → Int → Prop) (K1 : S_x0 → Int → Int → Int → Int → ByteArray → ByteArray → ByteArray → Int → Int → Int → Int → Int → ByteArray → ByteArray → ByteArray → Int → (List PV) → Prop) : Prop :=
 br (decide (_n3 < _n2))
 (0 ≤ _n3 ∧ _n3 < (_a1.n : Int) ∧
 as_xf (_a1.g (_n3.toNat)) fun x31 =>
 T.f_z14 x31 (W (_n1 - (1 : Int))) _x1
 (fun _x2 _b1 _x3 =>
 br (!_b1)
 (K0 _x3 0 0 0 0 (ByteArray.mk #[]) (ByteArray.mk #[]) (ByteArray.mk #[]) 0)
 ((_r1.length + 1) * 112 ≤ 140737488355328 ∧
 R _n1 _a1 _n2 (W (_n3 + 1)) _x3 _n4 _n5 _n6 _n7 _s1 _s2 _s3 _n8 _n9 _n10 _n11 _n12 _s4 _s5 _s6 _n13 (_r1 ++ ([(PV.agg (p_xb _x2))])) K0 K1)))
 (K1 _x1 _n4 _n5 _n6 _n7 _s1 _s2 _s3 _n8 _n9 _n10 _n11 _n12 _s4 _s5 _s6 _n13 _r1)
def L_z14_1 (T : Tab) : Nat → YL_z14_1
  | 0 => fun _ _ _ _ _ _ _ _ _ _ _ _ _ _ _ _ _ _ _ _ _ _ _ _ => False
  | n + 1 => B_z14_1 T (L_z14_1 T n)
def F_z14 (T : Tab) (_x1 : S_xf) (_n1 : Int) (_x2 : S_x0) (K0 : S_xb → Bool → S_x0 → Prop) : Prop :=
 br (_n1 == (0 : Int))
 (K0 ⟨0, 0, 0, 0, (ByteArray.mk #[]), (ByteArray.mk #[]), (ByteArray.mk #[]), (lst true []), 0⟩ false _x2)
 (br (_x1.Op == (2 : Int))
 (br (decide (_x1.Num < (0 : Int)))
 (K0 ⟨0, 0, 0, 0, (ByteArray.mk #[]), (ByteArray.mk #[]), (ByteArray.mk #[]), (lst true []), 0⟩ false _x2)
 (br (decide (_x1.Num ≥ (_x2.params.n : Int)))
 (K0 ⟨0, 0, 0, 0, (ByteArray.mk #[]), (ByteArray.mk #[]), (ByteArray.mk #[]), (lst true []), 0⟩ false _x2)
 (0 ≤ _x1.Num ∧ _x1.Num < (_x2.params.n : Int) ∧
 as_x7 (_x2.params.g (_x1.Num.toNat)) fun x1 =>
 K0 ⟨_x1.Op, 0, 0, 0, (ByteArray.mk #[]), (ByteArray.mk #[]), x1.Name, (lst true []), 0⟩ true _x2)))
 (br (_x1.Op == (3 : Int))
 (T.f_z13 _x1.Num _x2
 (fun _x3 _b1 _x4 =>
 K0 _x3 _b1 _x4))
 (br (decide ((_x1.Kids.n : Int) > (8 : Int)))
 (K0 ⟨0, 0, 0, 0, (ByteArray.mk #[]), (ByteArray.mk #[]), (ByteArray.mk #[]), (lst true []), 0⟩ false _x2)
 (L_z14_1 T T.fuel _n1 _x1.Kids (_x1.Kids.n : Int) 0 _x2 0 0 0 0 (ByteArray.mk #[]) (ByteArray.mk #[]) (ByteArray.mk #[]) 0 _x1.Op _x1.Num _x1.Value_Kind _x1.Value_Int _x1.Value_Text (ByteArray.mk #[]) (ByteArray.mk #[]) 0 ([])
 (fun x57 n58 n59 n60 n61 s62 s63 s64 n65 =>
 K0 ⟨n58, n59, n60, n61, s62, s63, s64, (lst true []), n65⟩ false x57)
 (fun x66 n67 n68 n69 n70 s71 s72 s73 n74 n75 n76 n77 n78 s79 s80 s81 n82 r83 =>
 K0 ⟨n75, n76, n77, n78, s79, s80, s81, (lst true r83), n82⟩ true x66)))))
abbrev YL_z13_0 := Int → Arr → Int → Int → S_x0 → Int → Int → Int → Int → ByteArray → ByteArray → ByteArray → Int → (S_x0 → Int → Int → Int → Int → ByteArray → ByteArray → ByteArray → Int → Prop) → (S_x0 → Int → Int → Int → Int → ByteArray → ByteArray → ByteArray → Int → Prop) → Prop
def B_z13_0 (T : Tab) (R : YL_z13_0) (_n1 : Int) (_a1 : Arr) (_n2 _n3 : Int) (_x1 : S_x0) (_n4 _n5 _n6 _n7 : Int) (_s1 _s2 _s3 : ByteArray) (_n8 : Int) (K0 : S_x0 → Int → Int → Int → Int → ByteArray → ByteArray → ByteArray → Int → Prop) (K1 : S_x0 → Int → Int → Int → Int → ByteArray → ByteArray → ByteArray → Int → Prop) : Prop :=
 br (decide (_n3 < _n2))
 (0 ≤ _n3 ∧ _n3 < (_a1.n : Int) ∧
 bf (_a1.g (_n3.toNat)) fun n30 =>
 0 ≤ n30 ∧ n30 < (_x1.c_Tables.n : Int) ∧
 as_x8 (_x1.c_Tables.g (n30.toNat)) fun x31 =>
 br (decide (_n1 ≥ (0 : Int)))
 (br (decide (_n1 < (x31.Columns.n : Int)))
 (0 ≤ _n1 ∧ _n1 < (x31.Columns.n : Int) ∧
 as_x4 (x31.Columns.g (_n1.toNat)) fun x32 =>
 K0 _x1 3 0 0 0 (ByteArray.mk #[]) x31.Name x32.Name 0)
 (R (W (_n1 - (x31.Columns.n : Int))) _a1 _n2 (W (_n3 + 1)) _x1 _n4 _n5 _n6 _n7 _s1 _s2 _s3 _n8 K0 K1))
 (R (W (_n1 - (x31.Columns.n : Int))) _a1 _n2 (W (_n3 + 1)) _x1 _n4 _n5 _n6 _n7 _s1 _s2 _s3 _n8 K0 K1))
 (K1 _x1 _n4 _n5 _n6 _n7 _s1 _s2 _s3 _n8)
def L_z13_0 (T : Tab) : Nat → YL_z13_0
  | 0 => fun _ _ _ _ _ _ _ _ _ _ _ _ _ _ _ => False
  | n + 1 => B_z13_0 T (L_z13_0 T n)
def F_z13 (T : Tab) (_n1 : Int) (_x1 : S_x0) (K0 : S_xb → Bool → S_x0 → Prop) : Prop :=
 L_z13_0 T T.fuel _n1 _x1.t_Tables (_x1.t_Tables.n : Int) 0 _x1 0 0 0 0 (ByteArray.mk #[]) (ByteArray.mk #[]) (ByteArray.mk #[]) 0
 (fun x59 n60 n61 n62 n63 s64 s65 s66 n67 =>
 K0 ⟨n60, n61, n62, n63, s64, s65, s66, (lst true []), n67⟩ true x59)
 (fun x68 n69 n70 n71 n72 s73 s74 s75 n76 =>
 K0 ⟨0, 0, 0, 0, (ByteArray.mk #[]), (ByteArray.mk #[]), (ByteArray.mk #[]), (lst true []), 0⟩ false x68)
def F_z29 (T : Tab) (_a1 : Arr) (K0 : Arr → Prop) : Prop :=
 (∀ i, i < _a1.n → dn (_a1.g i) = 3) ∧ _a1.n * 24 ≤ 140737488355328 ∧ K0 ⟨true, _a1.n, _a1.g⟩
def F_z2a (T : Tab) (_a1 : Arr) (K0 : Arr → Prop) : Prop :=
 (∀ i, i < _a1.n → dn (_a1.g i) = 1) ∧ _a1.n * 8 ≤ 140737488355328 ∧ K0 ⟨true, _a1.n, _a1.g⟩
abbrev YL_z16_0 := Arr → Arr → Int → Int → S_x0 → Int → ByteArray → ByteArray → Arr → Arr → Bool → Arr → Arr → Int → Int → (List PV) → (List PV) → S_x8 → (S_x0 → Int → ByteArray → ByteArray → Arr → Arr → Bool → Arr → Arr → Int → Int → (List PV) → (List PV) → Prop) → (S_x0 → Int → ByteArray → ByteArray → Arr → Arr → Bool → Arr → Arr → Int → Int → (List PV) → (List PV) → Prop) → Prop
def B_z16_0 (T : Tab) (R : YL_z16_0) (_a1 _a2 : Arr) (_n1 _n2 : Int) (_x1 : S_x0) (_n3 : Int) (_s1 _s2 : ByteArray) (_a3 _a4 : Arr) (_b1 : Bool) (_a5 _a6 : Arr) (_n4 _n5 : Int) (_r1 _r2 : List PV) (_x2 : S_x8) (K0 : S_x0 → Int → ByteArray → ByteArray → Arr → Arr → Bool → Arr → Arr → Int → Int → (List PV) → (List PV) → Prop) (K1 : S_x0 → Int → ByteArray → ByteArray → Arr → Arr → Bool → Arr → Arr → Int → Int → (List PV) → (List PV) → Prop) : Prop :=
 br (decide (_n2 < _n1))
 (0 ≤ _n2 ∧ _n2 < (_a2.n : Int) ∧
 bf (_a2.g (_n2.toNat)) fun n24 =>
 br (decide (n24 < (0 : Int)))
 (K0 _x1 _n3 _s1 _s2 _a3 _a4 _b1 _a5 _a6 _n4 _n5 _r1 _r2)
 (br (decide (n24 ≥ (_x2.Columns.n : Int)))
 (K0 _x1 _n3 _s1 _s2 _a3 _a4 _b1 _a5 _a6 _n4 _n5 _r1 _r2)
 (0 ≤ n24 ∧ n24 < (_x2.Columns.n : Int) ∧
 as_x4 (_x2.Columns.g (n24.toNat)) fun x25 =>
 0 ≤ _n2 ∧ _n2 < (_a1.n : Int) ∧
 as_xb (_a1.g (_n2.toNat)) fun x26 =>
 (_r2.length + 1) * 136 ≤ 140737488355328 ∧
 R _a1 _a2 _n1 (W (_n2 + 1)) _x1 _n3 _s1 _s2 _a3 _a4 _b1 _a5 _a6 _n4 _n5 _r1 (_r2 ++ ([(PV.agg [.str x25.Name, .int .i64 x26.Kind, .int .i64 x26.Op, .int .i64 x26.Value_Kind, .int .i64 x26.Value_Int, .str x26.Value_Text, .str x26.Table, .str x26.Name, .arr x26.Kids.m x26.Kids.n x26.Kids.g, .int .i64 x26.At, .int .i64 0])])) _x2 K0 K1)))
 (K1 _x1 _n3 _s1 _s2 _a3 _a4 _b1 _a5 _a6 _n4 _n5 _r1 _r2)
def L_z16_0 (T : Tab) : Nat → YL_z16_0
  | 0 => fun _ _ _ _ _ _ _ _ _ _ _ _ _ _ _ _ _ _ _ _ => False
  | n + 1 => B_z16_0 T (L_z16_0 T n)
def F_z16 (T : Tab) (_a1 : Arr) (_x1 : S_x0) (_n1 : Int) (_s1 _s2 : ByteArray) (_a2 _a3 : Arr) (_b1 : Bool) (_a4 _a5 : Arr) (_n2 _n3 : Int) (_r1 : List PV) (K0 : S_x0 → Int → ByteArray → ByteArray → Arr → Arr → Bool → Arr → Arr → Int → Int → (List PV) → Prop) (K1 : Bool → S_x0 → Int → ByteArray → ByteArray → Arr → Arr → Bool → Arr → Arr → Int → Int → (List PV) → (List PV) → Prop) : Prop :=
 0 ≤ (0 : Int) ∧ (0 : Int) < (_x1.t_Tables.n : Int) ∧
 bf (_x1.t_Tables.g 0) fun n1 =>
 0 ≤ n1 ∧ n1 < (_x1.c_Tables.n : Int) ∧
 as_x8 (_x1.c_Tables.g (n1.toNat)) fun x2 =>
 br ((_a1.n : Int) != (_x1.t_Columns.n : Int))
 (K0 _x1 _n1 _s1 _s2 _a2 _a3 _b1 _a4 _a5 _n2 _n3 _r1)
 (L_z16_0 T T.fuel _a1 _x1.t_Columns (_x1.t_Columns.n : Int) 0 _x1 _n1 _s1 _s2 _a2 _a3 _b1 _a4 _a5 _n2 _n3 _r1 ([]) x2
 (fun x45 n46 s47 s48 a49 a50 b51 a52 a53 n54 n55 r56 r57 =>
 K1 false x45 n46 s47 s48 a49 a50 b51 a52 a53 n54 n55 r56 r57)
 (fun x58 n59 s60 s61 a62 a63 b64 a65 a66 n67 n68 r69 r70 =>
 K1 true x58 n59 s60 s61 a62 a63 b64 a65 a66 n67 n68 r69 r70))
abbrev YL_z17_0 := Arr → Int → Int → S_x0 → (S_x0 → Prop) → (S_x0 → Prop) → Prop
def B_z17_0 (T : Tab) (R : YL_z17_0) (_a1 : Arr) (_n1 _n2 : Int) (_x1 : S_x0) (K0 : S_x0 → Prop) (K1 : S_x0 → Prop) : Prop :=
 br (decide (_n2 < _n1))
 (0 ≤ _n2 ∧ _n2 < (_a1.n : Int) ∧
 as_xf (_a1.g (_n2.toNat)) fun x6 =>
 br (x6.Op != (3 : Int))
 (K0 _x1)
 (br (x6.Num != _n2)
 (K0 _x1)
 (R _a1 _n1 (W (_n2 + 1)) _x1 K0 K1)))
 (K1 _x1)
def L_z17_0 (T : Tab) : Nat → YL_z17_0
  | 0 => fun _ _ _ _ _ _ => False
  | n + 1 => B_z17_0 T (L_z17_0 T n)
def F_z17 (T : Tab) (_x1 : S_x0) (K0 : Bool → S_x0 → Prop) : Prop :=
 br (decide ((_x1.t_Items.n : Int) ≤ (8 : Int)))
 (K0 false _x1)
 (L_z17_0 T T.fuel _x1.t_Items (_x1.t_Items.n : Int) 0 _x1
 (fun x11 =>
 K0 false x11)
 (fun x12 =>
 T.f_z13 (x12.t_Items.n : Int) x12
 (fun _x2 _b1 _x3 =>
 K0 (!_b1) _x3)))
def F_za (T : Tab) (_x1 : S_x1) (_a1 : Arr) (_x2 : S_xe) (K0 : S_x9 → S_x5 → Prop) : Prop :=
 T.f_zd _x1 _a1
 (K0 ⟨0, (lst true []), (lst true []), (lst true []), (lst true []), (lst true []), false, (lst true []), (lst true []), (lst true []), (lst true [])⟩ ⟨80, 0⟩)
 (fun _a2 _a3 _n1 _n2 _m1 _m2 =>
 T.f_z2w _x2
 (fun _b1 =>
 br (!_b1)
 (K0 ⟨0, (lst true []), (lst true []), (lst true []), (lst true []), (lst true []), false, (lst true []), (lst true []), (lst true []), (lst true [])⟩ ⟨120, 0⟩)
 (T.f_zo _x2 _a2 _a3 _n1 _n2 _m1 _m2
 (fun _x3 _b2 _a4 _a5 _n3 _n4 _m3 _m4 =>
 br (!_b2)
 (K0 ⟨0, (lst true []), (lst true []), (lst true []), (lst true []), (lst true []), false, (lst true []), (lst true []), (lst true []), (lst true [])⟩ ⟨_n3, _n4⟩)
 (K0 _x3 ⟨0, 0⟩)))))
def F_z2w (T : Tab) (_x1 : S_xe) (K0 : Bool → Prop) : Prop :=
 T.f_z1f _x1.Table
 (fun _b1 =>
 br (!_b1)
 (K0 false)
 (br (decide ((_x1.Where.n : Int) > (1 : Int)))
 (K0 false)
 (T.f_z35 _x1.Where
 (fun _b2 =>
 br (!_b2)
 (K0 false)
 (br (_x1.Kind == (4 : Int))
 (T.f_z31 _x1
 (fun _b3 =>
 K0 _b3))
 (br (!(_x1.Join.toList == (ByteArray.mk #[]).toList))
 (K0 false)
 (br _x1.Star
 (K0 false)
 (br (decide ((W ((W ((W ((_x1.On.n : Int) + (_x1.Groups.n : Int))) + (_x1.Sorts.n : Int))) + (_x1.Limit.n : Int))) > (0 : Int)))
 (K0 false)
 (T.f_z35 _x1.Items
 (fun _b4 =>
 br (!_b4)
 (K0 false)
 (T.f_z33 _x1.Sets
 (fun _b5 =>
 br (!_b5)
 (K0 false)
 (br (_x1.Kind == (1 : Int))
 (br (decide ((_x1.Items.n : Int) ≥ (1 : Int)))
 (br (decide ((_x1.Items.n : Int) ≤ (16 : Int)))
 (br ((_x1.Sets.n : Int) == (0 : Int))
 (K0 ((_x1.Where.n : Int) == (0 : Int)))
 (K0 false))
 (K0 false))
 (K0 false))
 (br (_x1.Kind == (2 : Int))
 (br ((_x1.Items.n : Int) == (0 : Int))
 (br (decide ((_x1.Sets.n : Int) ≥ (1 : Int)))
 (K0 (decide ((_x1.Sets.n : Int) ≤ (16 : Int))))
 (K0 false))
 (K0 false))
 (br (_x1.Kind == (3 : Int))
 (br ((_x1.Items.n : Int) == (0 : Int))
 (K0 ((_x1.Sets.n : Int) == (0 : Int)))
 (K0 false))
 (K0 false))))))))))))))))
def F_z35 (T : Tab) (_a1 : Arr) (K0 : Bool → Prop) : Prop :=
 T.f_z2b _a1
 (fun _b1 =>
 K0 (!_b1))
def F_z2b (T : Tab) (_a1 : Arr) (K0 : Bool → Prop) : Prop :=
 T.f_z2l _a1
 (fun _n1 =>
 K0 (decide (_n1 ≥ (0 : Int))))
abbrev YL_z2l_0 := Arr → Int → Int → (Int → Prop) → Prop → Prop
def B_z2l_0 (T : Tab) (R : YL_z2l_0) (_a1 : Arr) (_n1 _n2 : Int) (K0 : Int → Prop) (K1 : Prop) : Prop :=
 br (decide (_n2 < _n1))
 (0 ≤ _n2 ∧ _n2 < (_a1.n : Int) ∧
 as_xb (_a1.g (_n2.toNat)) fun x6 =>
 T.f_z36 x6
 (fun _b1 =>
 br _b1
 (K0 _n2)
 (R _a1 _n1 (W (_n2 + 1)) K0 K1)))
 (K1 )
def L_z2l_0 (T : Tab) : Nat → YL_z2l_0
  | 0 => fun _ _ _ _ _ => False
  | n + 1 => B_z2l_0 T (L_z2l_0 T n)
def F_z2l (T : Tab) (_a1 : Arr) (K0 : Int → Prop) : Prop :=
 L_z2l_0 T T.fuel _a1 (_a1.n : Int) 0
 (fun n11 =>
 K0 n11)
 (K0 (-1))
def F_z36 (T : Tab) (_x1 : S_xb) (K0 : Bool → Prop) : Prop :=
 T.f_z2y _x1 1
 (fun _b1 =>
 K0 (!_b1))
def F_z2y (T : Tab) (_x1 : S_xb) (_n1 : Int) (K0 : Bool → Prop) : Prop :=
 T.f_z37 _x1.Kind
 (fun _n2 _n3 _n4 _n5 =>
 br (decide (_n1 > (16 : Int)))
 (K0 false)
 (br (decide ((_x1.Kids.n : Int) < _n2))
 (K0 false)
 (br (decide ((_x1.Kids.n : Int) > _n3))
 (K0 false)
 (br (decide (_x1.Op < _n4))
 (K0 false)
 (br (decide (_x1.Op > _n5))
 (K0 false)
 (T.f_z2x _x1
 (fun _b1 =>
 br (!_b1)
 (K0 false)
 (T.f_z2c _x1.Kids _n1
 (fun _b2 _n6 =>
 K0 (!_b2))))))))))
def F_z37 (T : Tab) (_n1 : Int) (K0 : Int → Int → Int → Int → Prop) : Prop :=
 br (_n1 == (1 : Int))
 (K0 0 0 0 0)
 (br (_n1 == (2 : Int))
 (K0 0 0 0 0)
 (br (_n1 == (3 : Int))
 (K0 0 0 0 0)
 (br (_n1 == (4 : Int))
 (K0 1 1 0 0)
 (br (_n1 == (8 : Int))
 (K0 1 1 0 0)
 (br (_n1 == (7 : Int))
 (K0 1 1 0 1)
 (br (_n1 == (5 : Int))
 (K0 2 2 1 5)
 (br (_n1 == (6 : Int))
 (K0 2 2 1 6)
 (br (_n1 == (9 : Int))
 (K0 2 8 0 0)
 (br (_n1 == (10 : Int))
 (K0 2 8 0 0)
 (K0 0 (-1) 0 0))))))))))
def F_z2x (T : Tab) (_x1 : S_xb) (K0 : Bool → Prop) : Prop :=
 br (_x1.Kind == (1 : Int))
 (br (_x1.Name.toList == (ByteArray.mk #[]).toList)
 (br (_x1.Table.toList == (ByteArray.mk #[]).toList)
 (T.f_z39 ⟨_x1.Value_Kind, _x1.Value_Int, _x1.Value_Text⟩
 (fun _b1 =>
 br _b1
 (br (_x1.Value_Kind != (1 : Int))
 (K0 true)
 (K0 (decide (_x1.Value_Int ≥ (0 : Int)))))
 (K0 false)))
 (K0 false))
 (K0 false))
 (br (_x1.Kind == (2 : Int))
 (T.f_z1f _x1.Name
 (fun _b2 =>
 br _b2
 (br (_x1.Table.toList == (ByteArray.mk #[]).toList)
 (K0 ((_x1.Value_Kind == 0) && ((_x1.Value_Int == 0) && (_x1.Value_Text.toList == (ByteArray.mk #[]).toList))))
 (K0 false))
 (K0 false)))
 (br (_x1.Kind == (3 : Int))
 (T.f_z1f _x1.Name
 (fun _b3 =>
 br _b3
 (br (_x1.Table.toList == (ByteArray.mk #[]).toList)
 (K0 ((_x1.Value_Kind == 0) && ((_x1.Value_Int == 0) && (_x1.Value_Text.toList == (ByteArray.mk #[]).toList))))
 (T.f_z1f _x1.Table
 (fun _b4 =>
 br _b4
 (K0 ((_x1.Value_Kind == 0) && ((_x1.Value_Int == 0) && (_x1.Value_Text.toList == (ByteArray.mk #[]).toList))))
 (K0 false))))
 (K0 false)))
 (br (_x1.Name.toList == (ByteArray.mk #[]).toList)
 (br (_x1.Table.toList == (ByteArray.mk #[]).toList)
 (K0 ((_x1.Value_Kind == 0) && ((_x1.Value_Int == 0) && (_x1.Value_Text.toList == (ByteArray.mk #[]).toList))))
 (K0 false))
 (K0 false))))
def F_z39 (T : Tab) (_x1 : S_xa) (K0 : Bool → Prop) : Prop :=
 br (_x1.Kind == (0 : Int))
 (K0 ((_x1.Kind == 0) && ((_x1.Int == 0) && (_x1.Text.toList == (ByteArray.mk #[]).toList))))
 (br (_x1.Kind == (1 : Int))
 (br (decide (_x1.Int ≥ ((-4611686018427387904) : Int)))
 (br (decide (_x1.Int ≤ (4611686018427387904 : Int)))
 (K0 (_x1.Text.toList == (ByteArray.mk #[]).toList))
 (K0 false))
 (K0 false))
 (br (_x1.Kind == (2 : Int))
 (0 ≤ (1 : Int) ∧
 br ((Int.fdiv _x1.Int (2 ^ (min (1 : Int).toNat (IntKind.bits .i64)))) == (0 : Int))
 (K0 (_x1.Text.toList == (ByteArray.mk #[]).toList))
 (K0 false))
 (br (_x1.Kind == (3 : Int))
 (br (_x1.Int == (0 : Int))
 (K0 (decide ((_x1.Text.size : Int) ≤ (64 : Int))))
 (K0 false))
 (K0 false))))
def F_z2c (T : Tab) (_a1 : Arr) (_n1 : Int) (K0 : Bool → Int → Prop) : Prop :=
 T.f_z2m _a1 _n1
 (fun _n2 _n3 =>
 K0 (decide (_n2 ≥ (0 : Int))) _n3)
abbrev YL_z2m_0 := Arr → Int → Int → Int → (Int → Int → Prop) → (Int → Prop) → Prop
def B_z2m_0 (T : Tab) (R : YL_z2m_0) (_a1 : Arr) (_n1 _n2 _n3 : Int) (K0 : Int → Int → Prop) (K1 : Int → Prop) : Prop :=
 br (decide (_n2 < _n1))
 (0 ≤ _n2 ∧ _n2 < (_a1.n : Int) ∧
 as_xb (_a1.g (_n2.toNat)) fun x8 =>
 T.f_z2z x8 _n3
 (fun _b1 _n4 =>
 br _b1
 (K0 _n2 _n4)
 (R _a1 _n1 (W (_n2 + 1)) _n4 K0 K1)))
 (K1 _n3)
def L_z2m_0 (T : Tab) : Nat → YL_z2m_0
  | 0 => fun _ _ _ _ _ _ => False
  | n + 1 => B_z2m_0 T (L_z2m_0 T n)
def F_z2m (T : Tab) (_a1 : Arr) (_n1 : Int) (K0 : Int → Int → Prop) : Prop :=
 L_z2m_0 T T.fuel _a1 (_a1.n : Int) 0 _n1
 (fun n15 n16 =>
 K0 n15 n16)
 (fun n17 =>
 K0 (-1) n17)
def F_z2z (T : Tab) (_x1 : S_xb) (_n1 : Int) (K0 : Bool → Int → Prop) : Prop :=
 T.f_z2y _x1 (W (_n1 + 1))
 (fun _b1 =>
 K0 (!_b1) _n1)
abbrev YL_z31_4 := Arr → Int → Int → S_xe → Prop → (S_xe → Prop) → Prop
def B_z31_4 (T : Tab) (R : YL_z31_4) (_a1 : Arr) (_n1 _n2 : Int) (_x1 : S_xe) (K0 : Prop) (K1 : S_xe → Prop) : Prop :=
 br (decide (_n2 < _n1))
 (0 ≤ _n2 ∧ _n2 < (_a1.n : Int) ∧
 as_xd (_a1.g (_n2.toNat)) fun x31 =>
 T.f_z38 x31.Item
 (fun _b1 =>
 br (!_b1)
 (K0 )
 (R _a1 _n1 (W (_n2 + 1)) _x1 K0 K1)))
 (K1 _x1)
def L_z31_4 (T : Tab) : Nat → YL_z31_4
  | 0 => fun _ _ _ _ _ _ => False
  | n + 1 => B_z31_4 T (L_z31_4 T n)
abbrev YL_z31_2 := Arr → Int → Int → S_xe → Prop → (S_xe → Prop) → Prop
def B_z31_2 (T : Tab) (R : YL_z31_2) (_a1 : Arr) (_n1 _n2 : Int) (_x1 : S_xe) (K0 : Prop) (K1 : S_xe → Prop) : Prop :=
 br (decide (_n2 < _n1))
 (0 ≤ _n2 ∧ _n2 < (_a1.n : Int) ∧
 as_xb (_a1.g (_n2.toNat)) fun x19 =>
 br (x19.Kind != (3 : Int))
 (K0 )
 (R _a1 _n1 (W (_n2 + 1)) _x1 K0 K1))
 (K1 _x1)
def L_z31_2 (T : Tab) : Nat → YL_z31_2
  | 0 => fun _ _ _ _ _ _ => False
  | n + 1 => B_z31_2 T (L_z31_2 T n)
abbrev YL_z31_0 := Arr → Int → Int → S_xe → Prop → (S_xe → Prop) → Prop
def B_z31_0 (T : Tab) (R : YL_z31_0) (_a1 : Arr) (_n1 _n2 : Int) (_x1 : S_xe) (K0 : Prop) (K1 : S_xe → Prop) : Prop :=
 br (decide (_n2 < _n1))
 (0 ≤ _n2 ∧ _n2 < (_a1.n : Int) ∧
 as_xb (_a1.g (_n2.toNat)) fun x7 =>
 T.f_z30 x7
 (fun _b1 =>
 br (!_b1)
 (K0 )
 (R _a1 _n1 (W (_n2 + 1)) _x1 K0 K1)))
 (K1 _x1)
def L_z31_0 (T : Tab) : Nat → YL_z31_0
  | 0 => fun _ _ _ _ _ _ => False
  | n + 1 => B_z31_0 T (L_z31_0 T n)
def F_z31 (T : Tab) (_x1 : S_xe) (K0 : Bool → Prop) : Prop :=
 L_z31_0 T T.fuel _x1.Items (_x1.Items.n : Int) 0 _x1
 (K0 false)
 (fun x13 =>
 L_z31_2 T T.fuel x13.Groups (x13.Groups.n : Int) 0 x13
 (K0 false)
 (fun x24 =>
 L_z31_4 T T.fuel x24.Sorts (x24.Sorts.n : Int) 0 x24
 (K0 false)
 (fun x37 =>
 br (x37.Join.toList == (ByteArray.mk #[]).toList)
 (br ((x37.On.n : Int) == (0 : Int))
 (T.f_z35 x37.On
 (fun _b1 =>
 br _b1
 (T.f_z35 x37.Groups
 (fun _b2 =>
 br _b2
 (br (x37.Star == ((x37.Items.n : Int) == (0 : Int)))
 (br (decide ((x37.Items.n : Int) ≤ (8 : Int)))
 (br (decide ((x37.Groups.n : Int) ≤ (8 : Int)))
 (br (decide ((x37.Sorts.n : Int) ≤ (8 : Int)))
 (br (decide ((x37.Limit.n : Int) ≤ (1 : Int)))
 (T.f_z2e x37.Limit
 (fun _b3 =>
 br (!_b3)
 (K0 ((x37.Sets.n : Int) == (0 : Int)))
 (K0 false)))
 (K0 false))
 (K0 false))
 (K0 false))
 (K0 false))
 (K0 false))
 (K0 false)))
 (K0 false)))
 (T.f_z1f x37.Join
 (fun _b4 =>
 br _b4
 (br ((x37.On.n : Int) == (1 : Int))
 (T.f_z35 x37.On
 (fun _b5 =>
 br _b5
 (T.f_z35 x37.Groups
 (fun _b6 =>
 br _b6
 (br (x37.Star == ((x37.Items.n : Int) == (0 : Int)))
 (br (decide ((x37.Items.n : Int) ≤ (8 : Int)))
 (br (decide ((x37.Groups.n : Int) ≤ (8 : Int)))
 (br (decide ((x37.Sorts.n : Int) ≤ (8 : Int)))
 (br (decide ((x37.Limit.n : Int) ≤ (1 : Int)))
 (T.f_z2e x37.Limit
 (fun _b7 =>
 br (!_b7)
 (K0 ((x37.Sets.n : Int) == (0 : Int)))
 (K0 false)))
 (K0 false))
 (K0 false))
 (K0 false))
 (K0 false))
 (K0 false))
 (K0 false)))
 (K0 false)))
 (K0 false))
 (K0 false))))
 (T.f_z1f x37.Join
 (fun _b8 =>
 br _b8
 (br ((x37.On.n : Int) == (1 : Int))
 (T.f_z35 x37.On
 (fun _b9 =>
 br _b9
 (T.f_z35 x37.Groups
 (fun _b10 =>
 br _b10
 (br (x37.Star == ((x37.Items.n : Int) == (0 : Int)))
 (br (decide ((x37.Items.n : Int) ≤ (8 : Int)))
 (br (decide ((x37.Groups.n : Int) ≤ (8 : Int)))
 (br (decide ((x37.Sorts.n : Int) ≤ (8 : Int)))
 (br (decide ((x37.Limit.n : Int) ≤ (1 : Int)))
 (T.f_z2e x37.Limit
 (fun _b11 =>
 br (!_b11)
 (K0 ((x37.Sets.n : Int) == (0 : Int)))
 (K0 false)))
 (K0 false))
 (K0 false))
 (K0 false))
 (K0 false))
 (K0 false))
 (K0 false)))
 (K0 false)))
 (K0 false))
 (K0 false))))))
def F_z30 (T : Tab) (_x1 : S_xb) (K0 : Bool → Prop) : Prop :=
 br (_x1.Kind == (11 : Int))
 (br ((_x1.Kids.n : Int) == (0 : Int))
 (br (_x1.Op == (0 : Int))
 (T.f_z2x _x1
 (fun _b1 =>
 K0 _b1))
 (K0 false))
 (K0 false))
 (br (_x1.Kind == (12 : Int))
 (br ((_x1.Kids.n : Int) == (1 : Int))
 (br (_x1.Op == (0 : Int))
 (T.f_z2x _x1
 (fun _b2 =>
 br _b2
 (0 ≤ (0 : Int) ∧ (0 : Int) < (_x1.Kids.n : Int) ∧
 as_xb (_x1.Kids.g 0) fun x3 =>
 T.f_z2y x3 2
 (fun _b3 =>
 K0 _b3))
 (K0 false)))
 (K0 false))
 (K0 false))
 (br (_x1.Kind == (13 : Int))
 (br ((_x1.Kids.n : Int) == (1 : Int))
 (br (_x1.Op == (0 : Int))
 (T.f_z2x _x1
 (fun _b4 =>
 br _b4
 (0 ≤ (0 : Int) ∧ (0 : Int) < (_x1.Kids.n : Int) ∧
 as_xb (_x1.Kids.g 0) fun x6 =>
 T.f_z2y x6 2
 (fun _b5 =>
 K0 _b5))
 (K0 false)))
 (K0 false))
 (K0 false))
 (br (_x1.Kind == (14 : Int))
 (br ((_x1.Kids.n : Int) == (1 : Int))
 (br (_x1.Op == (0 : Int))
 (T.f_z2x _x1
 (fun _b6 =>
 br _b6
 (0 ≤ (0 : Int) ∧ (0 : Int) < (_x1.Kids.n : Int) ∧
 as_xb (_x1.Kids.g 0) fun x9 =>
 T.f_z2y x9 2
 (fun _b7 =>
 K0 _b7))
 (K0 false)))
 (K0 false))
 (K0 false))
 (T.f_z2y _x1 1
 (fun _b8 =>
 K0 _b8)))))
def F_z38 (T : Tab) (_n1 : Int) (K0 : Bool → Prop) : Prop :=
 br (decide (_n1 ≥ (0 : Int)))
 (K0 (decide (_n1 ≤ (4611686018427387904 : Int))))
 (K0 false)
def F_z2e (T : Tab) (_a1 : Arr) (K0 : Bool → Prop) : Prop :=
 T.f_z2o _a1
 (fun _n1 =>
 K0 (decide (_n1 ≥ (0 : Int))))
abbrev YL_z2o_0 := Arr → Int → Int → (Int → Prop) → Prop → Prop
def B_z2o_0 (T : Tab) (R : YL_z2o_0) (_a1 : Arr) (_n1 _n2 : Int) (K0 : Int → Prop) (K1 : Prop) : Prop :=
 br (decide (_n2 < _n1))
 (0 ≤ _n2 ∧ _n2 < (_a1.n : Int) ∧
 bf (_a1.g (_n2.toNat)) fun n6 =>
 T.f_z32 n6
 (fun _b1 =>
 br _b1
 (K0 _n2)
 (R _a1 _n1 (W (_n2 + 1)) K0 K1)))
 (K1 )
def L_z2o_0 (T : Tab) : Nat → YL_z2o_0
  | 0 => fun _ _ _ _ _ => False
  | n + 1 => B_z2o_0 T (L_z2o_0 T n)
def F_z2o (T : Tab) (_a1 : Arr) (K0 : Int → Prop) : Prop :=
 L_z2o_0 T T.fuel _a1 (_a1.n : Int) 0
 (fun n11 =>
 K0 n11)
 (K0 (-1))
def F_z32 (T : Tab) (_n1 : Int) (K0 : Bool → Prop) : Prop :=
 T.f_z38 _n1
 (fun _b1 =>
 K0 (!_b1))
def F_z33 (T : Tab) (_a1 : Arr) (K0 : Bool → Prop) : Prop :=
 T.f_z2d _a1
 (fun _b1 =>
 K0 (!_b1))
def F_z2d (T : Tab) (_a1 : Arr) (K0 : Bool → Prop) : Prop :=
 T.f_z2n _a1
 (fun _n1 =>
 K0 (decide (_n1 ≥ (0 : Int))))
abbrev YL_z2n_0 := Arr → Int → Int → (Int → Prop) → Prop → Prop
def B_z2n_0 (T : Tab) (R : YL_z2n_0) (_a1 : Arr) (_n1 _n2 : Int) (K0 : Int → Prop) (K1 : Prop) : Prop :=
 br (decide (_n2 < _n1))
 (0 ≤ _n2 ∧ _n2 < (_a1.n : Int) ∧
 as_xg (_a1.g (_n2.toNat)) fun x6 =>
 T.f_z34 x6
 (fun _b1 =>
 br _b1
 (K0 _n2)
 (R _a1 _n1 (W (_n2 + 1)) K0 K1)))
 (K1 )
def L_z2n_0 (T : Tab) : Nat → YL_z2n_0
  | 0 => fun _ _ _ _ _ => False
  | n + 1 => B_z2n_0 T (L_z2n_0 T n)
def F_z2n (T : Tab) (_a1 : Arr) (K0 : Int → Prop) : Prop :=
 L_z2n_0 T T.fuel _a1 (_a1.n : Int) 0
 (fun n11 =>
 K0 n11)
 (K0 (-1))
def F_z34 (T : Tab) (_x1 : S_xg) (K0 : Bool → Prop) : Prop :=
 T.f_z1f _x1.Name
 (fun _b1 =>
 br (!_b1)
 (K0 true)
 (T.f_z2y ⟨_x1.Expr_Kind, _x1.Expr_Op, _x1.Expr_Value_Kind, _x1.Expr_Value_Int, _x1.Expr_Value_Text, _x1.Expr_Table, _x1.Expr_Name, _x1.Expr_Kids, _x1.Expr_At⟩ 1
 (fun _b2 =>
 K0 (!_b2))))
def F_zo (T : Tab) (_x1 : S_xe) (_a1 _a2 : Arr) (_n1 _n2 : Int) (_m1 _m2 : List (PV × PV)) (K0 : S_x9 → Bool → Arr → Arr → Int → Int → (List (PV × PV)) → (List (PV × PV)) → Prop) : Prop :=
 T.f_zj _x1 _a1 _a2 _n1 _n2 _m1 _m2
 (fun _a3 _b1 _a4 _a5 _n3 _n4 _m3 _m4 =>
 br (!_b1)
 (K0 ⟨_x1.Kind, _a3, (lst true []), (lst true []), (lst true []), (lst true []), false, (lst true []), (lst true []), (lst true []), (lst true [])⟩ false _a4 _a5 _n3 _n4 _m3 _m4)
 (br (_x1.Kind != (1 : Int))
 (T.f_zm _a3 _a4 _a5 _n3 _n4 _m3 _m4
 (fun _a6 _a7 _n5 _n6 _m5 _m6 =>
 T.f_zq _x1.On _a6 _a7 _n5 _n6 _m5 _m6
 (fun _a8 _b2 _a9 _a10 _n7 _n8 _m7 _m8 =>
 br (!_b2)
 (K0 ⟨_x1.Kind, _a3, _a8, (lst true []), (lst true []), (lst true []), false, (lst true []), (lst true []), (lst true []), (lst true [])⟩ false _a9 _a10 _n7 _n8 _m7 _m8)
 (T.f_zq _x1.Where _a9 _a10 _n7 _n8 _m7 _m8
 (fun _a11 _b3 _a12 _a13 _n9 _n10 _m9 _m10 =>
 br (!_b3)
 (K0 ⟨_x1.Kind, _a3, _a8, _a11, (lst true []), (lst true []), false, (lst true []), (lst true []), (lst true []), (lst true [])⟩ false _a12 _a13 _n9 _n10 _m9 _m10)
 (0 ≤ (0 : Int) ∧ (0 : Int) < (_a3.n : Int) ∧
 bf (_a3.g 0) fun n31 =>
 0 ≤ n31 ∧ n31 < (_a12.n : Int) ∧
 as_x8 (_a12.g (n31.toNat)) fun x32 =>
 br (_x1.Kind == (1 : Int))
 (T.f_zh _x1 x32 _a12 _a13 _n9 _n10 _m9 _m10 _x1.Kind _a3 _a8 _a11 false
 (fun _a14 _a15 _n11 _n12 _m11 _m12 _n13 _a16 _a17 _a18 _b4 =>
 K0 ⟨_n13, _a16, _a17, _a18, (lst true []), (lst true []), _b4, (lst true []), (lst true []), (lst true []), (lst true [])⟩ false _a14 _a15 _n11 _n12 _m11 _m12)
 (fun _b5 _a19 _a20 _n14 _n15 _m13 _m14 _n16 _a21 _a22 _a23 _b6 _r1 =>
 K0 ⟨_n16, _a21, _a22, _a23, (lst true _r1), (lst true []), _b6, (lst true []), (lst true []), (lst true []), (lst true [])⟩ _b5 _a19 _a20 _n14 _n15 _m13 _m14))
 (br (_x1.Kind == (2 : Int))
 (T.f_zr _x1 x32 _a12 _a13 _n9 _n10 _m9 _m10 _x1.Kind _a3 _a8 _a11 false
 (fun _b7 _a24 _a25 _n17 _n18 _m15 _m16 _n19 _a26 _a27 _a28 _b8 _r2 _r3 =>
 K0 ⟨_n19, _a26, _a27, _a28, (lst true _r2), (lst true _r3), _b8, (lst true []), (lst true []), (lst true []), (lst true [])⟩ _b7 _a24 _a25 _n17 _n18 _m15 _m16))
 (br (_x1.Kind == (4 : Int))
 (T.f_ze _x1 _a12 _a13 _n9 _n10 _m9 _m10 _x1.Kind _a3 _a8 _a11 false
 (fun _a29 _a30 _n20 _n21 _m17 _m18 _n22 _a31 _a32 _a33 _b9 _r4 =>
 K0 ⟨_n22, _a31, _a32, _a33, (lst true []), (lst true []), _b9, (lst true _r4), (lst true []), (lst true []), (lst true [])⟩ false _a29 _a30 _n20 _n21 _m17 _m18)
 (fun _a34 _a35 _n23 _n24 _m19 _m20 _n25 _a36 _a37 _a38 _b10 _r5 _r6 =>
 K0 ⟨_n25, _a36, _a37, _a38, (lst true _r5), (lst true []), _b10, (lst true _r6), (lst true []), (lst true []), (lst true [])⟩ false _a34 _a35 _n23 _n24 _m19 _m20)
 (fun _a39 _a40 _n26 _n27 _m21 _m22 _n28 _a41 _a42 _a43 _b11 _r7 _r8 _r9 =>
 K0 ⟨_n28, _a41, _a42, _a43, (lst true _r7), (lst true []), _b11, (lst true _r8), (lst true _r9), (lst true []), (lst true [])⟩ false _a39 _a40 _n26 _n27 _m21 _m22)
 (fun _a44 _a45 _n29 _n30 _m23 _m24 _n31 _a46 _a47 _a48 _b12 _r10 _r11 _r12 _r13 _r14 =>
 K0 ⟨_n31, _a46, _a47, _a48, (lst true _r10), (lst true []), _b12, (lst true _r11), (lst true _r12), (lst true _r13), (lst true _r14)⟩ true _a44 _a45 _n29 _n30 _m23 _m24))
 (K0 ⟨_x1.Kind, _a3, _a8, _a11, (lst true []), (lst true []), false, (lst true []), (lst true []), (lst true []), (lst true [])⟩ _b3 _a12 _a13 _n9 _n10 _m9 _m10)))))))))
 (T.f_zq _x1.On _a4 _a5 _n3 _n4 _m3 _m4
 (fun _a49 _b13 _a50 _a51 _n32 _n33 _m25 _m26 =>
 br (!_b13)
 (K0 ⟨_x1.Kind, _a3, _a49, (lst true []), (lst true []), (lst true []), false, (lst true []), (lst true []), (lst true []), (lst true [])⟩ false _a50 _a51 _n32 _n33 _m25 _m26)
 (T.f_zq _x1.Where _a50 _a51 _n32 _n33 _m25 _m26
 (fun _a52 _b14 _a53 _a54 _n34 _n35 _m27 _m28 =>
 br (!_b14)
 (K0 ⟨_x1.Kind, _a3, _a49, _a52, (lst true []), (lst true []), false, (lst true []), (lst true []), (lst true []), (lst true [])⟩ false _a53 _a54 _n34 _n35 _m27 _m28)
 (0 ≤ (0 : Int) ∧ (0 : Int) < (_a3.n : Int) ∧
 bf (_a3.g 0) fun n142 =>
 0 ≤ n142 ∧ n142 < (_a53.n : Int) ∧
 as_x8 (_a53.g (n142.toNat)) fun x143 =>
 br (_x1.Kind == (1 : Int))
 (T.f_zh _x1 x143 _a53 _a54 _n34 _n35 _m27 _m28 _x1.Kind _a3 _a49 _a52 false
 (fun _a55 _a56 _n36 _n37 _m29 _m30 _n38 _a57 _a58 _a59 _b15 =>
 K0 ⟨_n38, _a57, _a58, _a59, (lst true []), (lst true []), _b15, (lst true []), (lst true []), (lst true []), (lst true [])⟩ false _a55 _a56 _n36 _n37 _m29 _m30)
 (fun _b16 _a60 _a61 _n39 _n40 _m31 _m32 _n41 _a62 _a63 _a64 _b17 _r15 =>
 K0 ⟨_n41, _a62, _a63, _a64, (lst true _r15), (lst true []), _b17, (lst true []), (lst true []), (lst true []), (lst true [])⟩ _b16 _a60 _a61 _n39 _n40 _m31 _m32))
 (br (_x1.Kind == (2 : Int))
 (T.f_zr _x1 x143 _a53 _a54 _n34 _n35 _m27 _m28 _x1.Kind _a3 _a49 _a52 false
 (fun _b18 _a65 _a66 _n42 _n43 _m33 _m34 _n44 _a67 _a68 _a69 _b19 _r16 _r17 =>
 K0 ⟨_n44, _a67, _a68, _a69, (lst true _r16), (lst true _r17), _b19, (lst true []), (lst true []), (lst true []), (lst true [])⟩ _b18 _a65 _a66 _n42 _n43 _m33 _m34))
 (br (_x1.Kind == (4 : Int))
 (T.f_ze _x1 _a53 _a54 _n34 _n35 _m27 _m28 _x1.Kind _a3 _a49 _a52 false
 (fun _a70 _a71 _n45 _n46 _m35 _m36 _n47 _a72 _a73 _a74 _b20 _r18 =>
 K0 ⟨_n47, _a72, _a73, _a74, (lst true []), (lst true []), _b20, (lst true _r18), (lst true []), (lst true []), (lst true [])⟩ false _a70 _a71 _n45 _n46 _m35 _m36)
 (fun _a75 _a76 _n48 _n49 _m37 _m38 _n50 _a77 _a78 _a79 _b21 _r19 _r20 =>
 K0 ⟨_n50, _a77, _a78, _a79, (lst true _r19), (lst true []), _b21, (lst true _r20), (lst true []), (lst true []), (lst true [])⟩ false _a75 _a76 _n48 _n49 _m37 _m38)
 (fun _a80 _a81 _n51 _n52 _m39 _m40 _n53 _a82 _a83 _a84 _b22 _r21 _r22 _r23 =>
 K0 ⟨_n53, _a82, _a83, _a84, (lst true _r21), (lst true []), _b22, (lst true _r22), (lst true _r23), (lst true []), (lst true [])⟩ false _a80 _a81 _n51 _n52 _m39 _m40)
 (fun _a85 _a86 _n54 _n55 _m41 _m42 _n56 _a87 _a88 _a89 _b23 _r24 _r25 _r26 _r27 _r28 =>
 K0 ⟨_n56, _a87, _a88, _a89, (lst true _r24), (lst true []), _b23, (lst true _r25), (lst true _r26), (lst true _r27), (lst true _r28)⟩ true _a85 _a86 _n54 _n55 _m41 _m42))
 (K0 ⟨_x1.Kind, _a3, _a49, _a52, (lst true []), (lst true []), false, (lst true []), (lst true []), (lst true []), (lst true [])⟩ _b14 _a53 _a54 _n34 _n35 _m27 _m28))))))))))
def F_zj (T : Tab) (_x1 : S_xe) (_a1 _a2 : Arr) (_n1 _n2 : Int) (_m1 _m2 : List (PV × PV)) (K0 : Arr → Bool → Arr → Arr → Int → Int → (List (PV × PV)) → (List (PV × PV)) → Prop) : Prop :=
 T.f_zw ⟨_a1, _a2⟩ _x1.Table
 (fun _n3 =>
 br (decide (_n3 < (0 : Int)))
 (T.f_zf 82 _x1.At _a1 _a2 _n1 _n2 _m1 _m2
 (fun _a3 _a4 _n4 _n5 _m3 _m4 =>
 K0 (lst true []) false _a3 _a4 _n4 _n5 _m3 _m4))
 (br (_x1.Join.toList == (ByteArray.mk #[]).toList)
 (K0 (lst true ([(PV.int .i64 _n3)])) true _a1 _a2 _n1 _n2 _m1 _m2)
 (T.f_zw ⟨_a1, _a2⟩ _x1.Join
 (fun _n6 =>
 br (decide (_n6 < (0 : Int)))
 (T.f_zf 82 _x1.JoinAt _a1 _a2 _n1 _n2 _m1 _m2
 (fun _a5 _a6 _n7 _n8 _m5 _m6 =>
 K0 (lst true []) false _a5 _a6 _n7 _n8 _m5 _m6))
 (br (_n6 == _n3)
 (T.f_zf 81 _x1.JoinAt _a1 _a2 _n1 _n2 _m1 _m2
 (fun _a7 _a8 _n9 _n10 _m7 _m8 =>
 K0 (lst true []) false _a7 _a8 _n9 _n10 _m7 _m8))
 (K0 (lst true ([(PV.int .i64 _n3), (PV.int .i64 _n6)])) true _a1 _a2 _n1 _n2 _m1 _m2))))))
abbrev YL_zw_0 := ByteArray → Arr → Int → Int → (Int → Prop) → Prop → Prop
def B_zw_0 (T : Tab) (R : YL_zw_0) (_s1 : ByteArray) (_a1 : Arr) (_n1 _n2 : Int) (K0 : Int → Prop) (K1 : Prop) : Prop :=
 br (decide (_n2 < _n1))
 (0 ≤ _n2 ∧ _n2 < (_a1.n : Int) ∧
 as_x8 (_a1.g (_n2.toNat)) fun x6 =>
 br (x6.Name.toList == _s1.toList)
 (K0 _n2)
 (R _s1 _a1 _n1 (W (_n2 + 1)) K0 K1))
 (K1 )
def L_zw_0 (T : Tab) : Nat → YL_zw_0
  | 0 => fun _ _ _ _ _ _ => False
  | n + 1 => B_zw_0 T (L_zw_0 T n)
def F_zw (T : Tab) (_x1 : S_x1) (_s1 : ByteArray) (K0 : Int → Prop) : Prop :=
 L_zw_0 T T.fuel _s1 _x1.Tables (_x1.Tables.n : Int) 0
 (fun n11 =>
 K0 n11)
 (K0 (-1))
def F_zf (T : Tab) (_n1 _n2 : Int) (_a1 _a2 : Arr) (_n3 _n4 : Int) (_m1 _m2 : List (PV × PV)) (K0 : Arr → Arr → Int → Int → (List (PV × PV)) → (List (PV × PV)) → Prop) : Prop :=
 br (_n3 == (0 : Int))
 (K0 _a1 _a2 _n1 _n2 _m1 _m2)
 (K0 _a1 _a2 _n3 _n4 _m1 _m2)
abbrev YL_zm_4 := Int → Arr → Int → Int → Arr → Int → Int → Int → Int → Arr → Arr → Int → Int → (List (PV × PV)) → (List (PV × PV)) → S_x8 → S_x4 → (List PV) → (Int → Arr → Int → Int → Arr → Int → Int → Arr → Arr → Int → Int → (List (PV × PV)) → (List (PV × PV)) → S_x8 → Prop) → Prop
def B_zm_4 (T : Tab) (R : YL_zm_4) (_n1 : Int) (_a1 : Arr) (_n2 _n3 : Int) (_a2 : Arr) (_n4 _n5 _n6 _n7 : Int) (_a3 _a4 : Arr) (_n8 _n9 : Int) (_m1 _m2 : List (PV × PV)) (_x1 : S_x8) (_x2 : S_x4) (_r1 : List PV) (K0 : Int → Arr → Int → Int → Arr → Int → Int → Arr → Arr → Int → Int → (List (PV × PV)) → (List (PV × PV)) → S_x8 → Prop) : Prop :=
 br (decide (_n7 < _n6))
 (0 ≤ _n7 ∧ _n7 < (_r1.length : Int) ∧
 as_x2 (_r1.getD _n7.toNat .nilp) fun x24 =>
 as_x3 ((look (PV.agg (p_x2 x24)) _m2).getD (PV.agg [.int .i64 0, .int .i64 0, .int .i64 0])) fun x25 =>
 R _n1 _a1 _n2 _n3 _a2 _n4 _n5 _n6 (W (_n7 + 1)) _a3 _a4 _n8 _n9 _m1 (m5 (PV.agg (p_x2 x24)) (PV.agg [.int .i64 _n1, .int .i64 _x2.Type_, .int .i64 (W (x25.many + 1))]) _m2) _x1 _x2 _r1 K0)
 (K0 _n1 _a1 _n2 _n3 _a2 _n4 _n5 _a3 _a4 _n8 _n9 _m1 _m2 _x1)
def L_zm_4 (T : Tab) : Nat → YL_zm_4
  | 0 => fun _ _ _ _ _ _ _ _ _ _ _ _ _ _ _ _ _ _ _ => False
  | n + 1 => B_zm_4 T (L_zm_4 T n)
abbrev YL_zm_2 := Int → Arr → Int → Int → Arr → Int → Int → Arr → Arr → Int → Int → (List (PV × PV)) → (List (PV × PV)) → S_x8 → (Int → Arr → Int → Int → Arr → Arr → Int → Int → (List (PV × PV)) → (List (PV × PV)) → Prop) → Prop
def B_zm_2 (T : Tab) (R : YL_zm_2) (_n1 : Int) (_a1 : Arr) (_n2 _n3 : Int) (_a2 : Arr) (_n4 _n5 : Int) (_a3 _a4 : Arr) (_n6 _n7 : Int) (_m1 _m2 : List (PV × PV)) (_x1 : S_x8) (K0 : Int → Arr → Int → Int → Arr → Arr → Int → Int → (List (PV × PV)) → (List (PV × PV)) → Prop) : Prop :=
 br (decide (_n5 < _n4))
 (0 ≤ _n5 ∧ _n5 < (_a2.n : Int) ∧
 as_x4 (_a2.g (_n5.toNat)) fun x72 =>
 L_zm_4 T T.fuel _n1 _a1 _n2 _n3 _a2 _n4 _n5 2 0 _a3 _a4 _n6 _n7 _m1 _m2 _x1 x72 ([(PV.agg [.str _x1.Name, .str x72.Name]), (PV.agg [.str (ByteArray.mk #[]), .str x72.Name])])
 (fun n73 a74 n75 n76 a77 n78 n79 a80 a81 n82 n83 m84 m85 x86 =>
 R (W (n73 + 1)) a74 n75 n76 a77 n78 (W (n79 + 1)) a80 a81 n82 n83 m84 m85 x86 K0))
 (K0 _n1 _a1 _n2 _n3 _a3 _a4 _n6 _n7 _m1 _m2)
def L_zm_2 (T : Tab) : Nat → YL_zm_2
  | 0 => fun _ _ _ _ _ _ _ _ _ _ _ _ _ _ _ => False
  | n + 1 => B_zm_2 T (L_zm_2 T n)
abbrev YL_zm_0 := Int → Arr → Int → Int → Arr → Arr → Int → Int → (List (PV × PV)) → (List (PV × PV)) → (Arr → Arr → Int → Int → (List (PV × PV)) → (List (PV × PV)) → Prop) → Prop
def B_zm_0 (T : Tab) (R : YL_zm_0) (_n1 : Int) (_a1 : Arr) (_n2 _n3 : Int) (_a2 _a3 : Arr) (_n4 _n5 : Int) (_m1 _m2 : List (PV × PV)) (K0 : Arr → Arr → Int → Int → (List (PV × PV)) → (List (PV × PV)) → Prop) : Prop :=
 br (decide (_n3 < _n2))
 (0 ≤ _n3 ∧ _n3 < (_a1.n : Int) ∧
 bf (_a1.g (_n3.toNat)) fun n121 =>
 0 ≤ n121 ∧ n121 < (_a2.n : Int) ∧
 as_x8 (_a2.g (n121.toNat)) fun x122 =>
 L_zm_2 T T.fuel _n1 _a1 _n2 _n3 x122.Columns (x122.Columns.n : Int) 0 _a2 _a3 _n4 _n5 _m1 _m2 x122
 (fun n123 a124 n125 n126 a127 a128 n129 n130 m131 m132 =>
 R n123 a124 n125 (W (n126 + 1)) a127 a128 n129 n130 m131 m132 K0))
 (K0 _a2 _a3 _n4 _n5 _m1 _m2)
def L_zm_0 (T : Tab) : Nat → YL_zm_0
  | 0 => fun _ _ _ _ _ _ _ _ _ _ _ => False
  | n + 1 => B_zm_0 T (L_zm_0 T n)
def F_zm (T : Tab) (_a1 _a2 _a3 : Arr) (_n1 _n2 : Int) (_m1 _m2 : List (PV × PV)) (K0 : Arr → Arr → Int → Int → (List (PV × PV)) → (List (PV × PV)) → Prop) : Prop :=
 L_zm_0 T T.fuel 0 _a1 (_a1.n : Int) 0 _a2 _a3 _n1 _n2 _m1 _m2
 (fun a143 a144 n145 n146 m147 m148 =>
 K0 a143 a144 n145 n146 m147 m148)
abbrev YL_zq_0 := Arr → Int → Int → Arr → Arr → Int → Int → (List (PV × PV)) → (List (PV × PV)) → (List PV) → (Arr → Arr → Int → Int → (List (PV × PV)) → (List (PV × PV)) → Prop) → (Arr → Arr → Int → Int → (List (PV × PV)) → (List (PV × PV)) → (List PV) → Prop) → Prop
def B_zq_0 (T : Tab) (R : YL_zq_0) (_a1 : Arr) (_n1 _n2 : Int) (_a2 _a3 : Arr) (_n3 _n4 : Int) (_m1 _m2 : List (PV × PV)) (_r1 : List PV) (K0 : Arr → Arr → Int → Int → (List (PV × PV)) → (List (PV × PV)) → Prop) (K1 : Arr → Arr → Int → Int → (List (PV × PV)) → (List (PV × PV)) → (List PV) → Prop) : Prop :=
 br (decide (_n2 < _n1))
 (0 ≤ _n2 ∧ _n2 < (_a1.n : Int) ∧
 as_xb (_a1.g (_n2.toNat)) fun x28 =>
 T.f_zk 2 _a2 _a3 _n3 _n4 _m1 _m2
 (fun _a4 _a5 _n5 _n6 _m3 _m4 _n7 =>
 T.f_zl x28 _a4 _a5 _n5 _n6 _m3 _m4 _n7
 (fun _x1 _b1 _a6 _a7 _n8 _n9 _m5 _m6 _n10 =>
 br (!_b1)
 (K0 _a6 _a7 _n8 _n9 _m5 _m6)
 ((_r1.length + 1) * 80 ≤ 140737488355328 ∧
 R _a1 _n1 (W (_n2 + 1)) _a6 _a7 _n8 _n9 _m5 _m6 (_r1 ++ ([(PV.agg (p_xf _x1))])) K0 K1))))
 (K1 _a2 _a3 _n3 _n4 _m1 _m2 _r1)
def L_zq_0 (T : Tab) : Nat → YL_zq_0
  | 0 => fun _ _ _ _ _ _ _ _ _ _ _ _ => False
  | n + 1 => B_zq_0 T (L_zq_0 T n)
def F_zq (T : Tab) (_a1 _a2 _a3 : Arr) (_n1 _n2 : Int) (_m1 _m2 : List (PV × PV)) (K0 : Arr → Bool → Arr → Arr → Int → Int → (List (PV × PV)) → (List (PV × PV)) → Prop) : Prop :=
 L_zq_0 T T.fuel _a1 (_a1.n : Int) 0 _a2 _a3 _n1 _n2 _m1 _m2 ([])
 (fun a55 a56 n57 n58 m59 m60 =>
 K0 (lst true []) false a55 a56 n57 n58 m59 m60)
 (fun a61 a62 n63 n64 m65 m66 r67 =>
 K0 (lst true r67) true a61 a62 n63 n64 m65 m66)
def F_zk (T : Tab) (_n1 : Int) (_a1 _a2 : Arr) (_n2 _n3 : Int) (_m1 _m2 : List (PV × PV)) (K0 : Arr → Arr → Int → Int → (List (PV × PV)) → (List (PV × PV)) → Int → Prop) : Prop :=
 K0 _a1 _a2 _n2 _n3 _m1 _m2 _n1
def F_zl (T : Tab) (_x1 : S_xb) (_a1 _a2 : Arr) (_n1 _n2 : Int) (_m1 _m2 : List (PV × PV)) (_n3 : Int) (K0 : S_xf → Bool → Arr → Arr → Int → Int → (List (PV × PV)) → (List (PV × PV)) → Int → Prop) : Prop :=
 T.f_zp _x1 _a1 _a2 _n1 _n2 _m1 _m2
 (fun _x2 _b1 _a3 _a4 _n4 _n5 _m3 _m4 =>
 br _b1
 (br (_x2.Type_ != _n3)
 (br (_x2.Type_ != (0 : Int))
 (T.f_zf 11 _x1.At _a3 _a4 _n4 _n5 _m3 _m4
 (fun _a5 _a6 _n6 _n7 _m5 _m6 =>
 K0 ⟨0, 0, 0, 0, 0, (ByteArray.mk #[]), (lst true [])⟩ false _a5 _a6 _n6 _n7 _m5 _m6 _n3))
 (K0 _x2 _b1 _a3 _a4 _n4 _n5 _m3 _m4 _n3))
 (K0 _x2 _b1 _a3 _a4 _n4 _n5 _m3 _m4 _n3))
 (K0 _x2 _b1 _a3 _a4 _n4 _n5 _m3 _m4 _n3))
abbrev ed := Int → Int → Arr → Arr → Int → Int → (List (PV × PV)) → (List (PV × PV)) → S_xb → Int → Int → Int → Int → Int → ByteArray → Int → Int → Int → Int → Int → ByteArray → (List PV) → (Arr → Arr → Int → Int → (List (PV × PV)) → (List (PV × PV)) → S_xb → Int → Int → Int → Int → Int → ByteArray → Int → Int → Int → Int → Int → ByteArray → (List PV) → Prop) → Prop
def eh (T : Tab) (R : ed) (_n1 _n2 : Int) (_a1 _a2 : Arr) (_n3 _n4 : Int) (_m1 _m2 : List (PV × PV)) (_x1 : S_xb) (_n5 _n6 _n7 _n8 _n9 : Int) (_s1 : ByteArray) (_n10 _n11 _n12 _n13 _n14 : Int) (_s2 : ByteArray) (_r1 : List PV) (K0 : Arr → Arr → Int → Int → (List (PV × PV)) → (List (PV × PV)) → S_xb → Int → Int → Int → Int → Int → ByteArray → Int → Int → Int → Int → Int → ByteArray → (List PV) → Prop) : Prop :=
 br (decide (_n2 < _n1))
 (0 ≤ _n2 ∧ _n2 < (_r1.length : Int) ∧
 as_xf (_r1.getD _n2.toNat .nilp) fun x251 =>
 T.f_z12 x251.Type_
 (R _n1 (W (_n2 + 1)) _a1 _a2 _n3 _n4 _m1 _m2 _x1 _n5 _n6 _n7 _n8 _n9 _s1 _n10 _n11 _n12 _n13 _n14 _s2 _r1 K0))
 (K0 _a1 _a2 _n3 _n4 _m1 _m2 _x1 _n5 _n6 _n7 _n8 _n9 _s1 _n10 _n11 _n12 _n13 _n14 _s2 _r1)
def b9 (T : Tab) : Nat → ed
  | 0 => fun _ _ _ _ _ _ _ _ _ _ _ _ _ _ _ _ _ _ _ _ _ _ _ => False
  | n + 1 => eh T (b9 T n)
abbrev YL_zp_4 := Int → Int → Arr → Arr → Int → Int → (List (PV × PV)) → (List (PV × PV)) → S_xb → Int → Int → Int → Int → Int → ByteArray → Int → Int → Int → Int → Int → ByteArray → (List PV) → Int → (Arr → Arr → Int → Int → (List (PV × PV)) → (List (PV × PV)) → Int → Int → Int → Int → Int → ByteArray → Prop) → (Arr → Arr → Int → Int → (List (PV × PV)) → (List (PV × PV)) → S_xb → Int → Int → Int → Int → Int → ByteArray → Int → Int → Int → Int → Int → ByteArray → (List PV) → Prop) → Prop
def B_zp_4 (T : Tab) (R : YL_zp_4) (_n1 _n2 : Int) (_a1 _a2 : Arr) (_n3 _n4 : Int) (_m1 _m2 : List (PV × PV)) (_x1 : S_xb) (_n5 _n6 _n7 _n8 _n9 : Int) (_s1 : ByteArray) (_n10 _n11 _n12 _n13 _n14 : Int) (_s2 : ByteArray) (_r1 : List PV) (_n15 : Int) (K0 : Arr → Arr → Int → Int → (List (PV × PV)) → (List (PV × PV)) → Int → Int → Int → Int → Int → ByteArray → Prop) (K1 : Arr → Arr → Int → Int → (List (PV × PV)) → (List (PV × PV)) → S_xb → Int → Int → Int → Int → Int → ByteArray → Int → Int → Int → Int → Int → ByteArray → (List PV) → Prop) : Prop :=
 br (decide (_n2 < _n1))
 (0 ≤ _n2 ∧ _n2 < (_r1.length : Int) ∧
 as_xf (_r1.getD _n2.toNat .nilp) fun x151 =>
 T.f_z11 x151.Type_ _n15
 (fun _b1 _n16 =>
 br (!_b1)
 (0 ≤ _n2 ∧ _n2 < (_x1.Kids.n : Int) ∧
 as_xb (_x1.Kids.g (_n2.toNat)) fun x154 =>
 T.f_zf 11 x154.At _a1 _a2 _n3 _n4 _m1 _m2
 (fun _a3 _a4 _n17 _n18 _m3 _m4 =>
 K0 _a3 _a4 _n17 _n18 _m3 _m4 0 0 0 0 0 (ByteArray.mk #[])))
 (R _n1 (W (_n2 + 1)) _a1 _a2 _n3 _n4 _m1 _m2 _x1 _n5 _n6 _n7 _n8 _n9 _s1 _n10 _n11 _n12 _n13 _n14 _s2 _r1 _n16 K0 K1)))
 (K1 _a1 _a2 _n3 _n4 _m1 _m2 _x1 _n5 _n6 _n7 _n8 _n9 _s1 _n10 _n11 _n12 _n13 _n14 _s2 _r1)
def L_zp_4 (T : Tab) : Nat → YL_zp_4
  | 0 => fun _ _ _ _ _ _ _ _ _ _ _ _ _ _ _ _ _ _ _ _ _ _ _ _ _ => False
  | n + 1 => B_zp_4 T (L_zp_4 T n)
abbrev YL_zp_2 := Arr → Int → Int → Arr → Arr → Int → Int → (List (PV × PV)) → (List (PV × PV)) → S_xb → Int → Int → Int → Int → Int → ByteArray → Int → Int → Int → Int → Int → ByteArray → (List PV) → (Arr → Arr → Int → Int → (List (PV × PV)) → (List (PV × PV)) → Int → Int → Int → Int → Int → ByteArray → Prop) → (Arr → Arr → Int → Int → (List (PV × PV)) → (List (PV × PV)) → S_xb → Int → Int → Int → Int → Int → ByteArray → Int → Int → Int → Int → Int → ByteArray → (List PV) → Prop) → Prop
def B_zp_2 (T : Tab) (R : YL_zp_2) (_a1 : Arr) (_n1 _n2 : Int) (_a2 _a3 : Arr) (_n3 _n4 : Int) (_m1 _m2 : List (PV × PV)) (_x1 : S_xb) (_n5 _n6 _n7 _n8 _n9 : Int) (_s1 : ByteArray) (_n10 _n11 _n12 _n13 _n14 : Int) (_s2 : ByteArray) (_r1 : List PV) (K0 : Arr → Arr → Int → Int → (List (PV × PV)) → (List (PV × PV)) → Int → Int → Int → Int → Int → ByteArray → Prop) (K1 : Arr → Arr → Int → Int → (List (PV × PV)) → (List (PV × PV)) → S_xb → Int → Int → Int → Int → Int → ByteArray → Int → Int → Int → Int → Int → ByteArray → (List PV) → Prop) : Prop :=
 br (decide (_n2 < _n1))
 (0 ≤ _n2 ∧ _n2 < (_a1.n : Int) ∧
 as_xb (_a1.g (_n2.toNat)) fun x53 =>
 T.f_zp x53 _a2 _a3 _n3 _n4 _m1 _m2
 (fun _x2 _b1 _a4 _a5 _n15 _n16 _m3 _m4 =>
 br (!_b1)
 (K0 _a4 _a5 _n15 _n16 _m3 _m4 0 0 0 0 0 (ByteArray.mk #[]))
 ((_r1.length + 1) * 80 ≤ 140737488355328 ∧
 R _a1 _n1 (W (_n2 + 1)) _a4 _a5 _n15 _n16 _m3 _m4 _x1 _n5 _n6 _n7 _n8 _n9 _s1 _n10 _n11 _n12 _n13 _n14 _s2 (_r1 ++ ([(PV.agg (p_xf _x2))])) K0 K1)))
 (K1 _a2 _a3 _n3 _n4 _m1 _m2 _x1 _n5 _n6 _n7 _n8 _n9 _s1 _n10 _n11 _n12 _n13 _n14 _s2 _r1)
def L_zp_2 (T : Tab) : Nat → YL_zp_2
  | 0 => fun _ _ _ _ _ _ _ _ _ _ _ _ _ _ _ _ _ _ _ _ _ _ _ _ _ => False
  | n + 1 => B_zp_2 T (L_zp_2 T n)
def F_zp (T : Tab) (_x1 : S_xb) (_a1 _a2 : Arr) (_n1 _n2 : Int) (_m1 _m2 : List (PV × PV)) (K0 : S_xf → Bool → Arr → Arr → Int → Int → (List (PV × PV)) → (List (PV × PV)) → Prop) : Prop :=
 br (_x1.Kind == (1 : Int))
 (K0 ⟨_x1.Kind, 0, _x1.Value_Kind, _x1.Value_Kind, _x1.Value_Int, _x1.Value_Text, (lst true [])⟩ true _a1 _a2 _n1 _n2 _m1 _m2)
 (br (_x1.Kind == (2 : Int))
 (as_x3 ((look (PV.str _x1.Name) _m1).getD (PV.agg [.int .i64 0, .int .i64 0, .int .i64 0])) fun x1 =>
 br (!((look (PV.str _x1.Name) _m1).isSome))
 (T.f_zf 82 _x1.At _a1 _a2 _n1 _n2 _m1 _m2
 (fun _a3 _a4 _n3 _n4 _m3 _m4 =>
 K0 ⟨0, 0, 0, 0, 0, (ByteArray.mk #[]), (lst true [])⟩ false _a3 _a4 _n3 _n4 _m3 _m4))
 (K0 ⟨_x1.Kind, x1.at', x1.kind, 0, 0, (ByteArray.mk #[]), (lst true [])⟩ true _a1 _a2 _n1 _n2 _m1 _m2))
 (br (_x1.Kind == (3 : Int))
 (as_x3 ((look (PV.agg [.str _x1.Table, .str _x1.Name]) _m2).getD (PV.agg [.int .i64 0, .int .i64 0, .int .i64 0])) fun x8 =>
 br (x8.many == (0 : Int))
 (T.f_zf 82 _x1.At _a1 _a2 _n1 _n2 _m1 _m2
 (fun _a5 _a6 _n5 _n6 _m5 _m6 =>
 K0 ⟨0, 0, 0, 0, 0, (ByteArray.mk #[]), (lst true [])⟩ false _a5 _a6 _n5 _n6 _m5 _m6))
 (br (decide (x8.many > (1 : Int)))
 (T.f_zf 81 _x1.At _a1 _a2 _n1 _n2 _m1 _m2
 (fun _a7 _a8 _n7 _n8 _m7 _m8 =>
 K0 ⟨0, 0, 0, 0, 0, (ByteArray.mk #[]), (lst true [])⟩ false _a7 _a8 _n7 _n8 _m7 _m8))
 (K0 ⟨_x1.Kind, x8.at', x8.kind, 0, 0, (ByteArray.mk #[]), (lst true [])⟩ true _a1 _a2 _n1 _n2 _m1 _m2)))
 (L_zp_2 T T.fuel _x1.Kids (_x1.Kids.n : Int) 0 _a1 _a2 _n1 _n2 _m1 _m2 _x1 0 0 0 0 0 (ByteArray.mk #[]) _x1.Kind _x1.Op 0 0 0 (ByteArray.mk #[]) ([])
 (fun a85 a86 n87 n88 m89 m90 n91 n92 n93 n94 n95 s96 =>
 K0 ⟨n91, n92, n93, n94, n95, s96, (lst true [])⟩ false a85 a86 n87 n88 m89 m90)
 (fun a97 a98 n99 n100 m101 m102 x103 n104 n105 n106 n107 n108 s109 n110 n111 n112 n113 n114 s115 r116 =>
 T.f_zz x103.Kind
 (fun _n9 =>
 L_zp_4 T T.fuel (r116.length : Int) 0 a97 a98 n99 n100 m101 m102 x103 n104 n105 n106 n107 n108 s109 n110 n111 n112 n113 n114 s115 r116 _n9
 (fun a184 a185 n186 n187 m188 m189 n190 n191 n192 n193 n194 s195 =>
 K0 ⟨n190, n191, n192, n193, n194, s195, (lst true [])⟩ false a184 a185 n186 n187 m188 m189)
 (fun a196 a197 n198 n199 m200 m201 x202 n203 n204 n205 n206 n207 s208 n209 n210 n211 n212 n213 s214 r215 =>
 br (x202.Kind == (6 : Int))
 (T.f_zy r215
 (fun _b1 _r1 =>
 br _b1
 (T.f_zf 11 x202.At a196 a197 n198 n199 m200 m201
 (fun _a9 _a10 _n10 _n11 _m9 _m10 =>
 K0 ⟨0, 0, 0, 0, 0, (ByteArray.mk #[]), (lst true [])⟩ false _a9 _a10 _n10 _n11 _m9 _m10))
 (T.f_zx x202.Kind _r1
 (fun _n12 _r2 =>
 K0 ⟨n209, n210, _n12, n212, n213, s214, (lst true _r2)⟩ true a196 a197 n198 n199 m200 m201))))
 (T.f_zx x202.Kind r215
 (fun _n13 _r3 =>
 K0 ⟨n209, n210, _n13, n212, n213, s214, (lst true _r3)⟩ true a196 a197 n198 n199 m200 m201))))
 (b9 T T.fuel (r116.length : Int) 0 a97 a98 n99 n100 m101 m102 x103 n104 n105 n106 n107 n108 s109 n110 n111 n112 n113 n114 s115 r116
 (fun a274 a275 n276 n277 m278 m279 x280 n281 n282 n283 n284 n285 s286 n287 n288 n289 n290 n291 s292 r293 =>
 br (x280.Kind == (6 : Int))
 (T.f_zy r293
 (fun _b2 _r4 =>
 br _b2
 (T.f_zf 11 x280.At a274 a275 n276 n277 m278 m279
 (fun _a11 _a12 _n14 _n15 _m11 _m12 =>
 K0 ⟨0, 0, 0, 0, 0, (ByteArray.mk #[]), (lst true [])⟩ false _a11 _a12 _n14 _n15 _m11 _m12))
 (T.f_zx x280.Kind _r4
 (fun _n16 _r5 =>
 K0 ⟨n287, n288, _n16, n290, n291, s292, (lst true _r5)⟩ true a274 a275 n276 n277 m278 m279))))
 (T.f_zx x280.Kind r293
 (fun _n17 _r6 =>
 K0 ⟨n287, n288, _n17, n290, n291, s292, (lst true _r6)⟩ true a274 a275 n276 n277 m278 m279))))))))
def F_zz (T : Tab) (_n1 : Int) (K0 : Int → Prop) (K1 : Prop) : Prop :=
 br (_n1 == (4 : Int))
 (T.f_z10 1
 (fun _n2 =>
 K0 _n2))
 (br (_n1 == (5 : Int))
 (T.f_z10 1
 (fun _n3 =>
 K0 _n3))
 (br (_n1 == (12 : Int))
 (T.f_z10 1
 (fun _n4 =>
 K0 _n4))
 (br (_n1 == (8 : Int))
 (T.f_z10 2
 (fun _n5 =>
 K0 _n5))
 (br (_n1 == (9 : Int))
 (T.f_z10 2
 (fun _n6 =>
 K0 _n6))
 (br (_n1 == (10 : Int))
 (T.f_z10 2
 (fun _n7 =>
 K0 _n7))
 (K1 ))))))
def F_z10 (T : Tab) (_n1 : Int) (K0 : Int → Prop) : Prop :=
 K0 _n1
def F_z11 (T : Tab) (_n1 _n2 : Int) (K0 : Bool → Int → Prop) : Prop :=
 br (_n1 == _n2)
 (K0 true _n2)
 (K0 (_n1 == (0 : Int)) _n2)
def F_zy (T : Tab) (_r1 : List PV) (K0 : Bool → (List PV) → Prop) : Prop :=
 0 ≤ (0 : Int) ∧ (0 : Int) < (_r1.length : Int) ∧
 as_xf (_r1.getD 0 .nilp) fun x1 =>
 0 ≤ (1 : Int) ∧ (1 : Int) < (_r1.length : Int) ∧
 as_xf (_r1.getD 1 .nilp) fun x2 =>
 br (x1.Type_ != x2.Type_)
 (0 ≤ (0 : Int) ∧ (0 : Int) < (_r1.length : Int) ∧
 as_xf (_r1.getD 0 .nilp) fun x3 =>
 br (x3.Type_ != (0 : Int))
 (0 ≤ (1 : Int) ∧ (1 : Int) < (_r1.length : Int) ∧
 as_xf (_r1.getD 1 .nilp) fun x4 =>
 K0 (x4.Type_ != (0 : Int)) _r1)
 (K0 false _r1))
 (K0 false _r1)
def F_zx (T : Tab) (_n1 : Int) (_r1 : List PV) (K0 : Int → (List PV) → Prop) : Prop :=
 br (_n1 == (4 : Int))
 (K0 1 _r1)
 (br (_n1 == (5 : Int))
 (K0 1 _r1)
 (br (_n1 == (11 : Int))
 (K0 1 _r1)
 (br (_n1 == (12 : Int))
 (K0 1 _r1)
 (br (_n1 == (13 : Int))
 (0 ≤ (0 : Int) ∧ (0 : Int) < (_r1.length : Int) ∧
 as_xf (_r1.getD 0 .nilp) fun x1 =>
 K0 x1.Type_ _r1)
 (br (_n1 == (14 : Int))
 (0 ≤ (0 : Int) ∧ (0 : Int) < (_r1.length : Int) ∧
 as_xf (_r1.getD 0 .nilp) fun x2 =>
 K0 x2.Type_ _r1)
 (K0 2 _r1))))))
def F_z12 (T : Tab) (_n1 : Int) (K0 : Prop) : Prop :=
 K0
abbrev YL_zh_0 := Arr → Int → Int → Arr → Arr → Int → Int → (List (PV × PV)) → (List (PV × PV)) → Int → Arr → Arr → Arr → Bool → (List PV) → S_x8 → (Arr → Arr → Int → Int → (List (PV × PV)) → (List (PV × PV)) → Int → Arr → Arr → Arr → Bool → (List PV) → Prop) → (Arr → Arr → Int → Int → (List (PV × PV)) → (List (PV × PV)) → Int → Arr → Arr → Arr → Bool → (List PV) → Prop) → Prop
def B_zh_0 (T : Tab) (R : YL_zh_0) (_a1 : Arr) (_n1 _n2 : Int) (_a2 _a3 : Arr) (_n3 _n4 : Int) (_m1 _m2 : List (PV × PV)) (_n5 : Int) (_a4 _a5 _a6 : Arr) (_b1 : Bool) (_r1 : List PV) (_x1 : S_x8) (K0 : Arr → Arr → Int → Int → (List (PV × PV)) → (List (PV × PV)) → Int → Arr → Arr → Arr → Bool → (List PV) → Prop) (K1 : Arr → Arr → Int → Int → (List (PV × PV)) → (List (PV × PV)) → Int → Arr → Arr → Arr → Bool → (List PV) → Prop) : Prop :=
 br (decide (_n2 < _n1))
 (0 ≤ _n2 ∧ _n2 < (_a1.n : Int) ∧
 as_xb (_a1.g (_n2.toNat)) fun x41 =>
 0 ≤ _n2 ∧ _n2 < (_x1.Columns.n : Int) ∧
 as_x4 (_x1.Columns.g (_n2.toNat)) fun x42 =>
 T.f_zk x42.Type_ _a2 _a3 _n3 _n4 _m1 _m2
 (fun _a7 _a8 _n6 _n7 _m3 _m4 _n8 =>
 T.f_zl x41 _a7 _a8 _n6 _n7 _m3 _m4 _n8
 (fun _x2 _b2 _a9 _a10 _n9 _n10 _m5 _m6 _n11 =>
 br (!_b2)
 (K0 _a9 _a10 _n9 _n10 _m5 _m6 _n5 _a4 _a5 _a6 _b1 _r1)
 ((_r1.length + 1) * 80 ≤ 140737488355328 ∧
 0 ≤ (_r1.length : Int) ∧ (_r1.length : Int) < (((_r1 ++ ([(PV.agg [.int .i64 0, .int .i64 0, .int .i64 0, .int .i64 0, .int .i64 0, .str (ByteArray.mk #[]), .arr ((lst true []).m) ((lst true []).n) ((lst true []).g)])])).length : Nat) : Int) ∧
 R _a1 _n1 (W (_n2 + 1)) _a9 _a10 _n9 _n10 _m5 _m6 _n5 _a4 _a5 _a6 _b1 ((_r1 ++ ([(PV.agg [.int .i64 0, .int .i64 0, .int .i64 0, .int .i64 0, .int .i64 0, .str (ByteArray.mk #[]), .arr ((lst true []).m) ((lst true []).n) ((lst true []).g)])])).set ((_r1.length : Int).toNat) (PV.agg (p_xf _x2))) _x1 K0 K1))))
 (K1 _a2 _a3 _n3 _n4 _m1 _m2 _n5 _a4 _a5 _a6 _b1 _r1)
def L_zh_0 (T : Tab) : Nat → YL_zh_0
  | 0 => fun _ _ _ _ _ _ _ _ _ _ _ _ _ _ _ _ _ _ => False
  | n + 1 => B_zh_0 T (L_zh_0 T n)
def F_zh (T : Tab) (_x1 : S_xe) (_x2 : S_x8) (_a1 _a2 : Arr) (_n1 _n2 : Int) (_m1 _m2 : List (PV × PV)) (_n3 : Int) (_a3 _a4 _a5 : Arr) (_b1 : Bool) (K0 : Arr → Arr → Int → Int → (List (PV × PV)) → (List (PV × PV)) → Int → Arr → Arr → Arr → Bool → Prop) (K1 : Bool → Arr → Arr → Int → Int → (List (PV × PV)) → (List (PV × PV)) → Int → Arr → Arr → Arr → Bool → (List PV) → Prop) : Prop :=
 br ((_x1.Items.n : Int) != (_x2.Columns.n : Int))
 (T.f_zf 131 _x1.At _a1 _a2 _n1 _n2 _m1 _m2
 (fun _a6 _a7 _n4 _n5 _m3 _m4 =>
 K0 _a6 _a7 _n4 _n5 _m3 _m4 _n3 _a3 _a4 _a5 _b1))
 (L_zh_0 T T.fuel _x1.Items (_x1.Items.n : Int) 0 _a1 _a2 _n1 _n2 _m1 _m2 _n3 _a3 _a4 _a5 _b1 ([]) _x2
 (fun a75 a76 n77 n78 m79 m80 n81 a82 a83 a84 b85 r86 =>
 K1 false a75 a76 n77 n78 m79 m80 n81 a82 a83 a84 b85 r86)
 (fun a87 a88 n89 n90 m91 m92 n93 a94 a95 a96 b97 r98 =>
 K1 true a87 a88 n89 n90 m91 m92 n93 a94 a95 a96 b97 r98))
abbrev YL_zr_0 := Arr → Int → Int → Arr → Arr → Int → Int → (List (PV × PV)) → (List (PV × PV)) → Int → Arr → Arr → Arr → Bool → (List PV) → (List PV) → S_x8 → (List (PV × PV)) → (Arr → Arr → Int → Int → (List (PV × PV)) → (List (PV × PV)) → Int → Arr → Arr → Arr → Bool → (List PV) → (List PV) → Prop) → (Arr → Arr → Int → Int → (List (PV × PV)) → (List (PV × PV)) → Int → Arr → Arr → Arr → Bool → (List PV) → (List PV) → Prop) → Prop
def B_zr_0 (T : Tab) (R : YL_zr_0) (_a1 : Arr) (_n1 _n2 : Int) (_a2 _a3 : Arr) (_n3 _n4 : Int) (_m1 _m2 : List (PV × PV)) (_n5 : Int) (_a4 _a5 _a6 : Arr) (_b1 : Bool) (_r1 _r2 : List PV) (_x1 : S_x8) (_m3 : List (PV × PV)) (K0 : Arr → Arr → Int → Int → (List (PV × PV)) → (List (PV × PV)) → Int → Arr → Arr → Arr → Bool → (List PV) → (List PV) → Prop) (K1 : Arr → Arr → Int → Int → (List (PV × PV)) → (List (PV × PV)) → Int → Arr → Arr → Arr → Bool → (List PV) → (List PV) → Prop) : Prop :=
 br (decide (_n2 < _n1))
 (0 ≤ _n2 ∧ _n2 < (_a1.n : Int) ∧
 as_xg (_a1.g (_n2.toNat)) fun x52 =>
 T.f_zs _x1 x52.Name
 (fun _n6 =>
 br (decide (_n6 < (0 : Int)))
 (T.f_zf 82 x52.At _a2 _a3 _n3 _n4 _m1 _m2
 (fun _a7 _a8 _n7 _n8 _m4 _m5 =>
 K0 _a7 _a8 _n7 _n8 _m4 _m5 _n5 _a4 _a5 _a6 _b1 _r1 _r2))
 (bf ((look (PV.int .i64 _n6) _m3).getD (PV.int .i64 0)) fun n60 =>
 bf ((look (PV.int .i64 _n6) (m5 (PV.int .i64 _n6) (PV.int .i64 (W (n60 + 1))) _m3)).getD (PV.int .i64 0)) fun n61 =>
 br (decide (n61 > (1 : Int)))
 (T.f_zf 81 x52.At _a2 _a3 _n3 _n4 _m1 _m2
 (fun _a9 _a10 _n9 _n10 _m6 _m7 =>
 K0 _a9 _a10 _n9 _n10 _m6 _m7 _n5 _a4 _a5 _a6 _b1 _r1 _r2))
 (0 ≤ _n6 ∧ _n6 < (_x1.Columns.n : Int) ∧
 as_x4 (_x1.Columns.g (_n6.toNat)) fun x68 =>
 T.f_zk x68.Type_ _a2 _a3 _n3 _n4 _m1 _m2
 (fun _a11 _a12 _n11 _n12 _m8 _m9 _n13 =>
 T.f_zl ⟨x52.Expr_Kind, x52.Expr_Op, x52.Expr_Value_Kind, x52.Expr_Value_Int, x52.Expr_Value_Text, x52.Expr_Table, x52.Expr_Name, x52.Expr_Kids, x52.Expr_At⟩ _a11 _a12 _n11 _n12 _m8 _m9 _n13
 (fun _x2 _b2 _a13 _a14 _n14 _n15 _m10 _m11 _n16 =>
 br (!_b2)
 (K0 _a13 _a14 _n14 _n15 _m10 _m11 _n5 _a4 _a5 _a6 _b1 _r1 _r2)
 ((_r1.length + 1) * 80 ≤ 140737488355328 ∧
 (_r2.length + 1) * 8 ≤ 140737488355328 ∧
 R _a1 _n1 (W (_n2 + 1)) _a13 _a14 _n14 _n15 _m10 _m11 _n5 _a4 _a5 _a6 _b1 (_r1 ++ ([(PV.agg (p_xf _x2))])) (_r2 ++ ([(PV.int .i64 _n6)])) _x1 (m5 (PV.int .i64 _n6) (PV.int .i64 (W (n60 + 1))) _m3) K0 K1)))))))
 (K1 _a2 _a3 _n3 _n4 _m1 _m2 _n5 _a4 _a5 _a6 _b1 _r1 _r2)
def L_zr_0 (T : Tab) : Nat → YL_zr_0
  | 0 => fun _ _ _ _ _ _ _ _ _ _ _ _ _ _ _ _ _ _ _ _ => False
  | n + 1 => B_zr_0 T (L_zr_0 T n)
def F_zr (T : Tab) (_x1 : S_xe) (_x2 : S_x8) (_a1 _a2 : Arr) (_n1 _n2 : Int) (_m1 _m2 : List (PV × PV)) (_n3 : Int) (_a3 _a4 _a5 : Arr) (_b1 : Bool) (K0 : Bool → Arr → Arr → Int → Int → (List (PV × PV)) → (List (PV × PV)) → Int → Arr → Arr → Arr → Bool → (List PV) → (List PV) → Prop) : Prop :=
 L_zr_0 T T.fuel _x1.Sets (_x1.Sets.n : Int) 0 _a1 _a2 _n1 _n2 _m1 _m2 _n3 _a3 _a4 _a5 _b1 ([]) ([]) _x2 ([])
 (fun a103 a104 n105 n106 m107 m108 n109 a110 a111 a112 b113 r114 r115 =>
 K0 false a103 a104 n105 n106 m107 m108 n109 a110 a111 a112 b113 r114 r115)
 (fun a116 a117 n118 n119 m120 m121 n122 a123 a124 a125 b126 r127 r128 =>
 K0 true a116 a117 n118 n119 m120 m121 n122 a123 a124 a125 b126 r127 r128)
abbrev YL_zs_0 := ByteArray → Arr → Int → Int → (Int → Prop) → Prop → Prop
def B_zs_0 (T : Tab) (R : YL_zs_0) (_s1 : ByteArray) (_a1 : Arr) (_n1 _n2 : Int) (K0 : Int → Prop) (K1 : Prop) : Prop :=
 br (decide (_n2 < _n1))
 (0 ≤ _n2 ∧ _n2 < (_a1.n : Int) ∧
 as_x4 (_a1.g (_n2.toNat)) fun x6 =>
 br (x6.Name.toList == _s1.toList)
 (K0 _n2)
 (R _s1 _a1 _n1 (W (_n2 + 1)) K0 K1))
 (K1 )
def L_zs_0 (T : Tab) : Nat → YL_zs_0
  | 0 => fun _ _ _ _ _ _ => False
  | n + 1 => B_zs_0 T (L_zs_0 T n)
def F_zs (T : Tab) (_x1 : S_x8) (_s1 : ByteArray) (K0 : Int → Prop) : Prop :=
 L_zs_0 T T.fuel _s1 _x1.Columns (_x1.Columns.n : Int) 0
 (fun n11 =>
 K0 n11)
 (K0 (-1))
abbrev YL_ze_2 := Int → Int → Arr → Arr → Int → Int → (List (PV × PV)) → (List (PV × PV)) → Int → Arr → Arr → Arr → Bool → (List PV) → (List PV) → (List PV) → (List PV) → (List PV) → (Arr → Arr → Int → Int → (List (PV × PV)) → (List (PV × PV)) → Int → Arr → Arr → Arr → Bool → (List PV) → (List PV) → (List PV) → (List PV) → (List PV) → Prop) → Prop
def B_ze_2 (T : Tab) (R : YL_ze_2) (_n1 _n2 : Int) (_a1 _a2 : Arr) (_n3 _n4 : Int) (_m1 _m2 : List (PV × PV)) (_n5 : Int) (_a3 _a4 _a5 : Arr) (_b1 : Bool) (_r1 _r2 _r3 _r4 _r5 : List PV) (K0 : Arr → Arr → Int → Int → (List (PV × PV)) → (List (PV × PV)) → Int → Arr → Arr → Arr → Bool → (List PV) → (List PV) → (List PV) → (List PV) → (List PV) → Prop) : Prop :=
 br (decide (_n2 < _n1))
 (0 ≤ _n2 ∧ _n2 < (_r1.length : Int) ∧
 as_xf (_r1.getD _n2.toNat .nilp) fun x162 =>
 (_r5.length + 1) * 8 ≤ 140737488355328 ∧
 R _n1 (W (_n2 + 1)) _a1 _a2 _n3 _n4 _m1 _m2 _n5 _a3 _a4 _a5 _b1 _r1 _r2 _r3 _r4 (_r5 ++ ([(PV.int .i64 x162.Type_)])) K0)
 (K0 _a1 _a2 _n3 _n4 _m1 _m2 _n5 _a3 _a4 _a5 _b1 _r1 _r2 _r3 _r4 _r5)
def L_ze_2 (T : Tab) : Nat → YL_ze_2
  | 0 => fun _ _ _ _ _ _ _ _ _ _ _ _ _ _ _ _ _ _ _ => False
  | n + 1 => B_ze_2 T (L_ze_2 T n)
abbrev YL_ze_0 := Arr → Int → Int → Arr → Arr → Int → Int → (List (PV × PV)) → (List (PV × PV)) → Int → Arr → Arr → Arr → Bool → (List PV) → (List PV) → (List PV) → S_xe → (Arr → Arr → Int → Int → (List (PV × PV)) → (List (PV × PV)) → Int → Arr → Arr → Arr → Bool → (List PV) → (List PV) → (List PV) → Prop) → (Arr → Arr → Int → Int → (List (PV × PV)) → (List (PV × PV)) → Int → Arr → Arr → Arr → Bool → (List PV) → (List PV) → (List PV) → S_xe → Prop) → Prop
def B_ze_0 (T : Tab) (R : YL_ze_0) (_a1 : Arr) (_n1 _n2 : Int) (_a2 _a3 : Arr) (_n3 _n4 : Int) (_m1 _m2 : List (PV × PV)) (_n5 : Int) (_a4 _a5 _a6 : Arr) (_b1 : Bool) (_r1 _r2 _r3 : List PV) (_x1 : S_xe) (K0 : Arr → Arr → Int → Int → (List (PV × PV)) → (List (PV × PV)) → Int → Arr → Arr → Arr → Bool → (List PV) → (List PV) → (List PV) → Prop) (K1 : Arr → Arr → Int → Int → (List (PV × PV)) → (List (PV × PV)) → Int → Arr → Arr → Arr → Bool → (List PV) → (List PV) → (List PV) → S_xe → Prop) : Prop :=
 br (decide (_n2 < _n1))
 (0 ≤ _n2 ∧ _n2 < (_a1.n : Int) ∧
 as_xd (_a1.g (_n2.toNat)) fun x83 =>
 br (decide (x83.Item < (1 : Int)))
 (T.f_zf 82 x83.At _a2 _a3 _n3 _n4 _m1 _m2
 (fun _a7 _a8 _n6 _n7 _m3 _m4 =>
 K0 _a7 _a8 _n6 _n7 _m3 _m4 _n5 _a4 _a5 _a6 _b1 _r1 _r2 _r3))
 (br (decide (x83.Item > (_r1.length : Int)))
 (T.f_zf 82 x83.At _a2 _a3 _n3 _n4 _m1 _m2
 (fun _a9 _a10 _n8 _n9 _m5 _m6 =>
 K0 _a9 _a10 _n8 _n9 _m5 _m6 _n5 _a4 _a5 _a6 _b1 _r1 _r2 _r3))
 ((_r3.length + 1) * 24 ≤ 140737488355328 ∧
 R _a1 _n1 (W (_n2 + 1)) _a2 _a3 _n3 _n4 _m1 _m2 _n5 _a4 _a5 _a6 _b1 _r1 _r2 (_r3 ++ ([(PV.agg [.int .i64 x83.Item, .bool x83.Desc, .int .i64 0])])) _x1 K0 K1)))
 (K1 _a2 _a3 _n3 _n4 _m1 _m2 _n5 _a4 _a5 _a6 _b1 _r1 _r2 _r3 _x1)
def L_ze_0 (T : Tab) : Nat → YL_ze_0
  | 0 => fun _ _ _ _ _ _ _ _ _ _ _ _ _ _ _ _ _ _ _ _ => False
  | n + 1 => B_ze_0 T (L_ze_0 T n)
def F_ze (T : Tab) (_x1 : S_xe) (_a1 _a2 : Arr) (_n1 _n2 : Int) (_m1 _m2 : List (PV × PV)) (_n3 : Int) (_a3 _a4 _a5 : Arr) (_b1 : Bool) (K0 : Arr → Arr → Int → Int → (List (PV × PV)) → (List (PV × PV)) → Int → Arr → Arr → Arr → Bool → (List PV) → Prop) (K1 : Arr → Arr → Int → Int → (List (PV × PV)) → (List (PV × PV)) → Int → Arr → Arr → Arr → Bool → (List PV) → (List PV) → Prop) (K2 : Arr → Arr → Int → Int → (List (PV × PV)) → (List (PV × PV)) → Int → Arr → Arr → Arr → Bool → (List PV) → (List PV) → (List PV) → Prop) (K3 : Arr → Arr → Int → Int → (List (PV × PV)) → (List (PV × PV)) → Int → Arr → Arr → Arr → Bool → (List PV) → (List PV) → (List PV) → (List PV) → (List PV) → Prop) : Prop :=
 T.f_zg _x1 _a1 _a2 _n1 _n2 _m1 _m2 _n3 _a3 _a4 _a5 _b1
 (fun _a6 _a7 _n4 _n5 _m3 _m4 _n6 _a8 _a9 _a10 _b2 _r1 =>
 K0 _a6 _a7 _n4 _n5 _m3 _m4 _n6 _a8 _a9 _a10 _b2 _r1)
 (fun _a11 _a12 _n7 _n8 _m5 _m6 _n9 _a13 _a14 _a15 _b3 _r2 _m7 =>
 br _x1.Star
 (T.f_zn _x1 _a11 _a12 _n7 _n8 _m5 _m6 _n9 _a13 _a14 _a15 _b3 _r2
 (fun _a16 _a17 _n10 _n11 _m8 _m9 _n12 _a18 _a19 _a20 _b4 _r3 =>
 K0 _a16 _a17 _n10 _n11 _m8 _m9 _n12 _a18 _a19 _a20 _b4 _r3)
 (fun _b5 _a21 _a22 _n13 _n14 _m10 _m11 _n15 _a23 _a24 _a25 _b6 _r4 _r5 =>
 br (!_b5)
 (K1 _a21 _a22 _n13 _n14 _m10 _m11 _n15 _a23 _a24 _a25 _b6 _r5 _r4)
 (L_ze_0 T T.fuel _x1.Sorts (_x1.Sorts.n : Int) 0 _a21 _a22 _n13 _n14 _m10 _m11 _n15 _a23 _a24 _a25 _b6 _r5 _r4 ([]) _x1
 (fun a114 a115 n116 n117 m118 m119 n120 a121 a122 a123 b124 r125 r126 r127 =>
 K2 a114 a115 n116 n117 m118 m119 n120 a121 a122 a123 b124 r125 r126 r127)
 (fun a128 a129 n130 n131 m132 m133 n134 a135 a136 a137 b138 r139 r140 r141 x142 =>
 (∀ i, i < x142.Limit.n → dn (x142.Limit.g i) = 1) ∧ ((List.range x142.Limit.n).map x142.Limit.g).length * 8 ≤ 140737488355328 ∧
 L_ze_2 T T.fuel (r139.length : Int) 0 a128 a129 n130 n131 m132 m133 n134 a135 a136 a137 b138 r139 r140 r141 ((List.range x142.Limit.n).map x142.Limit.g) ([])
 (fun a181 a182 n183 n184 m185 m186 n187 a188 a189 a190 b191 r192 r193 r194 r195 r196 =>
 K3 a181 a182 n183 n184 m185 m186 n187 a188 a189 a190 b191 r192 r193 r194 r195 r196)))))
 (T.f_zi _x1 _a11 _a12 _n7 _n8 _m5 _m6 _n9 _a13 _a14 _a15 _b3 _r2 _m7
 (fun _b7 _a26 _a27 _n16 _n17 _m12 _m13 _n18 _a28 _a29 _a30 _b8 _r6 _m14 _r7 =>
 br (!_b7)
 (K1 _a26 _a27 _n16 _n17 _m12 _m13 _n18 _a28 _a29 _a30 _b8 _r7 _r6)
 (L_ze_0 T T.fuel _x1.Sorts (_x1.Sorts.n : Int) 0 _a26 _a27 _n16 _n17 _m12 _m13 _n18 _a28 _a29 _a30 _b8 _r7 _r6 ([]) _x1
 (fun a212 a213 n214 n215 m216 m217 n218 a219 a220 a221 b222 r223 r224 r225 =>
 K2 a212 a213 n214 n215 m216 m217 n218 a219 a220 a221 b222 r223 r224 r225)
 (fun a226 a227 n228 n229 m230 m231 n232 a233 a234 a235 b236 r237 r238 r239 x240 =>
 (∀ i, i < x240.Limit.n → dn (x240.Limit.g i) = 1) ∧ ((List.range x240.Limit.n).map x240.Limit.g).length * 8 ≤ 140737488355328 ∧
 L_ze_2 T T.fuel (r237.length : Int) 0 a226 a227 n228 n229 m230 m231 n232 a233 a234 a235 b236 r237 r238 r239 ((List.range x240.Limit.n).map x240.Limit.g) ([])
 (fun a241 a242 n243 n244 m245 m246 n247 a248 a249 a250 b251 r252 r253 r254 r255 r256 =>
 K3 a241 a242 n243 n244 m245 m246 n247 a248 a249 a250 b251 r252 r253 r254 r255 r256))))))
abbrev YL_zg_0 := Arr → Int → Int → Arr → Arr → Int → Int → (List (PV × PV)) → (List (PV × PV)) → Int → Arr → Arr → Arr → Bool → (List PV) → (List (PV × PV)) → (Arr → Arr → Int → Int → (List (PV × PV)) → (List (PV × PV)) → Int → Arr → Arr → Arr → Bool → (List PV) → Prop) → (Arr → Arr → Int → Int → (List (PV × PV)) → (List (PV × PV)) → Int → Arr → Arr → Arr → Bool → (List PV) → (List (PV × PV)) → Prop) → Prop
def B_zg_0 (T : Tab) (R : YL_zg_0) (_a1 : Arr) (_n1 _n2 : Int) (_a2 _a3 : Arr) (_n3 _n4 : Int) (_m1 _m2 : List (PV × PV)) (_n5 : Int) (_a4 _a5 _a6 : Arr) (_b1 : Bool) (_r1 : List PV) (_m3 : List (PV × PV)) (K0 : Arr → Arr → Int → Int → (List (PV × PV)) → (List (PV × PV)) → Int → Arr → Arr → Arr → Bool → (List PV) → Prop) (K1 : Arr → Arr → Int → Int → (List (PV × PV)) → (List (PV × PV)) → Int → Arr → Arr → Arr → Bool → (List PV) → (List (PV × PV)) → Prop) : Prop :=
 br (decide (_n2 < _n1))
 (0 ≤ _n2 ∧ _n2 < (_a1.n : Int) ∧
 as_xb (_a1.g (_n2.toNat)) fun x34 =>
 T.f_zp x34 _a2 _a3 _n3 _n4 _m1 _m2
 (fun _x1 _b2 _a7 _a8 _n6 _n7 _m4 _m5 =>
 br (!_b2)
 (K0 _a7 _a8 _n6 _n7 _m4 _m5 _n5 _a4 _a5 _a6 _b1 _r1)
 (bf ((look (PV.int .i64 _x1.Num) _m3).getD (PV.int .i64 0)) fun n43 =>
 bf ((look (PV.int .i64 _x1.Num) (m5 (PV.int .i64 _x1.Num) (PV.int .i64 (W (n43 + 1))) _m3)).getD (PV.int .i64 0)) fun n44 =>
 br (decide (n44 > (1 : Int)))
 (T.f_zf 81 x34.At _a7 _a8 _n6 _n7 _m4 _m5
 (fun _a9 _a10 _n8 _n9 _m6 _m7 =>
 K0 _a9 _a10 _n8 _n9 _m6 _m7 _n5 _a4 _a5 _a6 _b1 _r1))
 ((_r1.length + 1) * 8 ≤ 140737488355328 ∧
 R _a1 _n1 (W (_n2 + 1)) _a7 _a8 _n6 _n7 _m4 _m5 _n5 _a4 _a5 _a6 _b1 (_r1 ++ ([(PV.int .i64 _x1.Num)])) (m5 (PV.int .i64 _x1.Num) (PV.int .i64 (W (n43 + 1))) _m3) K0 K1))))
 (K1 _a2 _a3 _n3 _n4 _m1 _m2 _n5 _a4 _a5 _a6 _b1 _r1 _m3)
def L_zg_0 (T : Tab) : Nat → YL_zg_0
  | 0 => fun _ _ _ _ _ _ _ _ _ _ _ _ _ _ _ _ _ _ => False
  | n + 1 => B_zg_0 T (L_zg_0 T n)
def F_zg (T : Tab) (_x1 : S_xe) (_a1 _a2 : Arr) (_n1 _n2 : Int) (_m1 _m2 : List (PV × PV)) (_n3 : Int) (_a3 _a4 _a5 : Arr) (_b1 : Bool) (K0 : Arr → Arr → Int → Int → (List (PV × PV)) → (List (PV × PV)) → Int → Arr → Arr → Arr → Bool → (List PV) → Prop) (K1 : Arr → Arr → Int → Int → (List (PV × PV)) → (List (PV × PV)) → Int → Arr → Arr → Arr → Bool → (List PV) → (List (PV × PV)) → Prop) : Prop :=
 L_zg_0 T T.fuel _x1.Groups (_x1.Groups.n : Int) 0 _a1 _a2 _n1 _n2 _m1 _m2 _n3 _a3 _a4 _a5 _b1 ([]) ([])
 (fun a67 a68 n69 n70 m71 m72 n73 a74 a75 a76 b77 r78 =>
 K0 a67 a68 n69 n70 m71 m72 n73 a74 a75 a76 b77 r78)
 (fun a79 a80 n81 n82 m83 m84 n85 a86 a87 a88 b89 r90 m91 =>
 K1 a79 a80 n81 n82 m83 m84 n85 a86 a87 a88 b89 r90 m91)
abbrev YL_zn_2 := Arr → Int → Int → Arr → Int → Int → Arr → Arr → Int → Int → (List (PV × PV)) → (List (PV × PV)) → Int → Arr → Arr → Arr → Bool → (List PV) → (List PV) → S_xe → (Arr → Int → Int → Arr → Arr → Int → Int → (List (PV × PV)) → (List (PV × PV)) → Int → Arr → Arr → Arr → Bool → (List PV) → (List PV) → S_xe → Prop) → Prop
def B_zn_2 (T : Tab) (R : YL_zn_2) (_a1 : Arr) (_n1 _n2 : Int) (_a2 : Arr) (_n3 _n4 : Int) (_a3 _a4 : Arr) (_n5 _n6 : Int) (_m1 _m2 : List (PV × PV)) (_n7 : Int) (_a5 _a6 _a7 : Arr) (_b1 : Bool) (_r1 _r2 : List PV) (_x1 : S_xe) (K0 : Arr → Int → Int → Arr → Arr → Int → Int → (List (PV × PV)) → (List (PV × PV)) → Int → Arr → Arr → Arr → Bool → (List PV) → (List PV) → S_xe → Prop) : Prop :=
 br (decide (_n4 < _n3))
 (0 ≤ _n4 ∧ _n4 < (_a2.n : Int) ∧
 as_x4 (_a2.g (_n4.toNat)) fun x31 =>
 (_r2.length + 1) * 80 ≤ 140737488355328 ∧
 0 ≤ (_r2.length : Int) ∧ (_r2.length : Int) < (((_r2 ++ ([(PV.agg [.int .i64 0, .int .i64 0, .int .i64 0, .int .i64 0, .int .i64 0, .str (ByteArray.mk #[]), .arr ((lst true []).m) ((lst true []).n) ((lst true []).g)])])).length : Nat) : Int) ∧
 R _a1 _n1 _n2 _a2 _n3 (W (_n4 + 1)) _a3 _a4 _n5 _n6 _m1 _m2 _n7 _a5 _a6 _a7 _b1 _r1 ((_r2 ++ ([(PV.agg [.int .i64 0, .int .i64 0, .int .i64 0, .int .i64 0, .int .i64 0, .str (ByteArray.mk #[]), .arr ((lst true []).m) ((lst true []).n) ((lst true []).g)])])).set ((_r2.length : Int).toNat) (PV.agg [.int .i64 3, .int .i64 (_r2.length : Int), .int .i64 x31.Type_, .int .i64 0, .int .i64 0, .str (ByteArray.mk #[]), .arr ((lst true []).m) ((lst true []).n) ((lst true []).g)])) _x1 K0)
 (K0 _a1 _n1 _n2 _a3 _a4 _n5 _n6 _m1 _m2 _n7 _a5 _a6 _a7 _b1 _r1 _r2 _x1)
def L_zn_2 (T : Tab) : Nat → YL_zn_2
  | 0 => fun _ _ _ _ _ _ _ _ _ _ _ _ _ _ _ _ _ _ _ _ _ => False
  | n + 1 => B_zn_2 T (L_zn_2 T n)
abbrev YL_zn_0 := Arr → Int → Int → Arr → Arr → Int → Int → (List (PV × PV)) → (List (PV × PV)) → Int → Arr → Arr → Arr → Bool → (List PV) → (List PV) → S_xe → (Arr → Arr → Int → Int → (List (PV × PV)) → (List (PV × PV)) → Int → Arr → Arr → Arr → Bool → (List PV) → (List PV) → S_xe → Prop) → Prop
def B_zn_0 (T : Tab) (R : YL_zn_0) (_a1 : Arr) (_n1 _n2 : Int) (_a2 _a3 : Arr) (_n3 _n4 : Int) (_m1 _m2 : List (PV × PV)) (_n5 : Int) (_a4 _a5 _a6 : Arr) (_b1 : Bool) (_r1 _r2 : List PV) (_x1 : S_xe) (K0 : Arr → Arr → Int → Int → (List (PV × PV)) → (List (PV × PV)) → Int → Arr → Arr → Arr → Bool → (List PV) → (List PV) → S_xe → Prop) : Prop :=
 br (decide (_n2 < _n1))
 (0 ≤ _n2 ∧ _n2 < (_a1.n : Int) ∧
 bf (_a1.g (_n2.toNat)) fun n86 =>
 0 ≤ n86 ∧ n86 < (_a2.n : Int) ∧
 as_x8 (_a2.g (n86.toNat)) fun x87 =>
 L_zn_2 T T.fuel _a1 _n1 _n2 x87.Columns (x87.Columns.n : Int) 0 _a2 _a3 _n3 _n4 _m1 _m2 _n5 _a4 _a5 _a6 _b1 _r1 _r2 _x1
 (fun a88 n89 n90 a91 a92 n93 n94 m95 m96 n97 a98 a99 a100 b101 r102 r103 x104 =>
 R a88 n89 (W (n90 + 1)) a91 a92 n93 n94 m95 m96 n97 a98 a99 a100 b101 r102 r103 x104 K0))
 (K0 _a2 _a3 _n3 _n4 _m1 _m2 _n5 _a4 _a5 _a6 _b1 _r1 _r2 _x1)
def L_zn_0 (T : Tab) : Nat → YL_zn_0
  | 0 => fun _ _ _ _ _ _ _ _ _ _ _ _ _ _ _ _ _ _ => False
  | n + 1 => B_zn_0 T (L_zn_0 T n)
def F_zn (T : Tab) (_x1 : S_xe) (_a1 _a2 : Arr) (_n1 _n2 : Int) (_m1 _m2 : List (PV × PV)) (_n3 : Int) (_a3 _a4 _a5 : Arr) (_b1 : Bool) (_r1 : List PV) (K0 : Arr → Arr → Int → Int → (List (PV × PV)) → (List (PV × PV)) → Int → Arr → Arr → Arr → Bool → (List PV) → Prop) (K1 : Bool → Arr → Arr → Int → Int → (List (PV × PV)) → (List (PV × PV)) → Int → Arr → Arr → Arr → Bool → (List PV) → (List PV) → Prop) : Prop :=
 br (decide ((_x1.Groups.n : Int) > (0 : Int)))
 (0 ≤ (0 : Int) ∧ (0 : Int) < (_x1.Groups.n : Int) ∧
 as_xb (_x1.Groups.g 0) fun x1 =>
 T.f_zf 130 x1.At _a1 _a2 _n1 _n2 _m1 _m2
 (fun _a6 _a7 _n4 _n5 _m3 _m4 =>
 K0 _a6 _a7 _n4 _n5 _m3 _m4 _n3 _a3 _a4 _a5 _b1 _r1))
 (L_zn_0 T T.fuel _a3 (_a3.n : Int) 0 _a1 _a2 _n1 _n2 _m1 _m2 _n3 _a3 _a4 _a5 _b1 _r1 ([]) _x1
 (fun a122 a123 n124 n125 m126 m127 n128 a129 a130 a131 b132 r133 r134 x135 =>
 br (decide ((r134.length : Int) ≤ (16 : Int)))
 (K1 true a122 a123 n124 n125 m126 m127 n128 a129 a130 a131 b132 r133 r134)
 (T.f_zf 131 x135.At a122 a123 n124 n125 m126 m127
 (fun _a8 _a9 _n6 _n7 _m5 _m6 =>
 K1 false _a8 _a9 _n6 _n7 _m5 _m6 n128 a129 a130 a131 b132 r133 r134))))
abbrev YL_zi_2 := Arr → Int → Int → Arr → Arr → Int → Int → (List (PV × PV)) → (List (PV × PV)) → Int → Arr → Arr → Arr → Bool → (List PV) → (List (PV × PV)) → (List PV) → (Arr → Arr → Int → Int → (List (PV × PV)) → (List (PV × PV)) → Int → Arr → Arr → Arr → Bool → (List PV) → (List (PV × PV)) → (List PV) → Prop) → (Arr → Arr → Int → Int → (List (PV × PV)) → (List (PV × PV)) → Int → Arr → Arr → Arr → Bool → (List PV) → (List (PV × PV)) → (List PV) → Prop) → Prop
def B_zi_2 (T : Tab) (R : YL_zi_2) (_a1 : Arr) (_n1 _n2 : Int) (_a2 _a3 : Arr) (_n3 _n4 : Int) (_m1 _m2 : List (PV × PV)) (_n5 : Int) (_a4 _a5 _a6 : Arr) (_b1 : Bool) (_r1 : List PV) (_m3 : List (PV × PV)) (_r2 : List PV) (K0 : Arr → Arr → Int → Int → (List (PV × PV)) → (List (PV × PV)) → Int → Arr → Arr → Arr → Bool → (List PV) → (List (PV × PV)) → (List PV) → Prop) (K1 : Arr → Arr → Int → Int → (List (PV × PV)) → (List (PV × PV)) → Int → Arr → Arr → Arr → Bool → (List PV) → (List (PV × PV)) → (List PV) → Prop) : Prop :=
 br (decide (_n2 < _n1))
 (0 ≤ _n2 ∧ _n2 < (_a1.n : Int) ∧
 as_xb (_a1.g (_n2.toNat)) fun x161 =>
 T.f_zp x161 _a2 _a3 _n3 _n4 _m1 _m2
 (fun _x1 _b2 _a7 _a8 _n6 _n7 _m4 _m5 =>
 br (!_b2)
 (K0 _a7 _a8 _n6 _n7 _m4 _m5 _n5 _a4 _a5 _a6 _b1 _r1 _m3 _r2)
 (br _b1
 (T.f_zc _x1.Op
 (fun _b3 =>
 br (!_b3)
 (br (_x1.Op != (3 : Int))
 (T.f_zf 130 x161.At _a7 _a8 _n6 _n7 _m4 _m5
 (fun _a9 _a10 _n8 _n9 _m6 _m7 =>
 K0 _a9 _a10 _n8 _n9 _m6 _m7 _n5 _a4 _a5 _a6 _b1 _r1 _m3 _r2))
 (bf ((look (PV.int .i64 _x1.Num) _m3).getD (PV.int .i64 0)) fun n177 =>
 br (n177 == (0 : Int))
 (T.f_zf 130 x161.At _a7 _a8 _n6 _n7 _m4 _m5
 (fun _a11 _a12 _n10 _n11 _m8 _m9 =>
 K0 _a11 _a12 _n10 _n11 _m8 _m9 _n5 _a4 _a5 _a6 _b1 _r1 _m3 _r2))
 ((_r2.length + 1) * 80 ≤ 140737488355328 ∧
 0 ≤ (_r2.length : Int) ∧ (_r2.length : Int) < (((_r2 ++ ([(PV.agg [.int .i64 0, .int .i64 0, .int .i64 0, .int .i64 0, .int .i64 0, .str (ByteArray.mk #[]), .arr ((lst true []).m) ((lst true []).n) ((lst true []).g)])])).length : Nat) : Int) ∧
 R _a1 _n1 (W (_n2 + 1)) _a7 _a8 _n6 _n7 _m4 _m5 _n5 _a4 _a5 _a6 _b1 _r1 _m3 ((_r2 ++ ([(PV.agg [.int .i64 0, .int .i64 0, .int .i64 0, .int .i64 0, .int .i64 0, .str (ByteArray.mk #[]), .arr ((lst true []).m) ((lst true []).n) ((lst true []).g)])])).set ((_r2.length : Int).toNat) (PV.agg (p_xf _x1))) K0 K1)))
 ((_r2.length + 1) * 80 ≤ 140737488355328 ∧
 0 ≤ (_r2.length : Int) ∧ (_r2.length : Int) < (((_r2 ++ ([(PV.agg [.int .i64 0, .int .i64 0, .int .i64 0, .int .i64 0, .int .i64 0, .str (ByteArray.mk #[]), .arr ((lst true []).m) ((lst true []).n) ((lst true []).g)])])).length : Nat) : Int) ∧
 R _a1 _n1 (W (_n2 + 1)) _a7 _a8 _n6 _n7 _m4 _m5 _n5 _a4 _a5 _a6 _b1 _r1 _m3 ((_r2 ++ ([(PV.agg [.int .i64 0, .int .i64 0, .int .i64 0, .int .i64 0, .int .i64 0, .str (ByteArray.mk #[]), .arr ((lst true []).m) ((lst true []).n) ((lst true []).g)])])).set ((_r2.length : Int).toNat) (PV.agg (p_xf _x1))) K0 K1)))
 ((_r2.length + 1) * 80 ≤ 140737488355328 ∧
 0 ≤ (_r2.length : Int) ∧ (_r2.length : Int) < (((_r2 ++ ([(PV.agg [.int .i64 0, .int .i64 0, .int .i64 0, .int .i64 0, .int .i64 0, .str (ByteArray.mk #[]), .arr ((lst true []).m) ((lst true []).n) ((lst true []).g)])])).length : Nat) : Int) ∧
 R _a1 _n1 (W (_n2 + 1)) _a7 _a8 _n6 _n7 _m4 _m5 _n5 _a4 _a5 _a6 _b1 _r1 _m3 ((_r2 ++ ([(PV.agg [.int .i64 0, .int .i64 0, .int .i64 0, .int .i64 0, .int .i64 0, .str (ByteArray.mk #[]), .arr ((lst true []).m) ((lst true []).n) ((lst true []).g)])])).set ((_r2.length : Int).toNat) (PV.agg (p_xf _x1))) K0 K1))))
 (K1 _a2 _a3 _n3 _n4 _m1 _m2 _n5 _a4 _a5 _a6 _b1 _r1 _m3 _r2)
def L_zi_2 (T : Tab) : Nat → YL_zi_2
  | 0 => fun _ _ _ _ _ _ _ _ _ _ _ _ _ _ _ _ _ _ _ => False
  | n + 1 => B_zi_2 T (L_zi_2 T n)
abbrev YL_zi_0 := Arr → Int → Int → Arr → Arr → Int → Int → (List (PV × PV)) → (List (PV × PV)) → Int → Arr → Arr → Arr → Bool → (List PV) → (List (PV × PV)) → S_xe → (Arr → Arr → Int → Int → (List (PV × PV)) → (List (PV × PV)) → Int → Arr → Arr → Arr → Bool → (List PV) → (List (PV × PV)) → S_xe → Prop) → Prop
def B_zi_0 (T : Tab) (R : YL_zi_0) (_a1 : Arr) (_n1 _n2 : Int) (_a2 _a3 : Arr) (_n3 _n4 : Int) (_m1 _m2 : List (PV × PV)) (_n5 : Int) (_a4 _a5 _a6 : Arr) (_b1 : Bool) (_r1 : List PV) (_m3 : List (PV × PV)) (_x1 : S_xe) (K0 : Arr → Arr → Int → Int → (List (PV × PV)) → (List (PV × PV)) → Int → Arr → Arr → Arr → Bool → (List PV) → (List (PV × PV)) → S_xe → Prop) : Prop :=
 br (decide (_n2 < _n1))
 (0 ≤ _n2 ∧ _n2 < (_a1.n : Int) ∧
 as_xb (_a1.g (_n2.toNat)) fun x37 =>
 br _b1
 (R _a1 _n1 (W (_n2 + 1)) _a2 _a3 _n3 _n4 _m1 _m2 _n5 _a4 _a5 _a6 true _r1 _m3 _x1 K0)
 (T.f_zc x37.Kind
 (fun _b2 =>
 R _a1 _n1 (W (_n2 + 1)) _a2 _a3 _n3 _n4 _m1 _m2 _n5 _a4 _a5 _a6 _b2 _r1 _m3 _x1 K0)))
 (K0 _a2 _a3 _n3 _n4 _m1 _m2 _n5 _a4 _a5 _a6 _b1 _r1 _m3 _x1)
def L_zi_0 (T : Tab) : Nat → YL_zi_0
  | 0 => fun _ _ _ _ _ _ _ _ _ _ _ _ _ _ _ _ _ _ => False
  | n + 1 => B_zi_0 T (L_zi_0 T n)
def F_zi (T : Tab) (_x1 : S_xe) (_a1 _a2 : Arr) (_n1 _n2 : Int) (_m1 _m2 : List (PV × PV)) (_n3 : Int) (_a3 _a4 _a5 : Arr) (_b1 : Bool) (_r1 : List PV) (_m3 : List (PV × PV)) (K0 : Bool → Arr → Arr → Int → Int → (List (PV × PV)) → (List (PV × PV)) → Int → Arr → Arr → Arr → Bool → (List PV) → (List (PV × PV)) → (List PV) → Prop) : Prop :=
 L_zi_0 T T.fuel _x1.Items (_x1.Items.n : Int) 0 _a1 _a2 _n1 _n2 _m1 _m2 _n3 _a3 _a4 _a5 (decide ((_x1.Groups.n : Int) > (0 : Int))) _r1 _m3 _x1
 (fun a73 a74 n75 n76 m77 m78 n79 a80 a81 a82 b83 r84 m85 x86 =>
 L_zi_2 T T.fuel x86.Items (x86.Items.n : Int) 0 a73 a74 n75 n76 m77 m78 n79 a80 a81 a82 b83 r84 m85 ([])
 (fun a235 a236 n237 n238 m239 m240 n241 a242 a243 a244 b245 r246 m247 r248 =>
 K0 false a235 a236 n237 n238 m239 m240 n241 a242 a243 a244 b245 r246 m247 r248)
 (fun a249 a250 n251 n252 m253 m254 n255 a256 a257 a258 b259 r260 m261 r262 =>
 K0 true a249 a250 n251 n252 m253 m254 n255 a256 a257 a258 b259 r260 m261 r262))
def F_zc (T : Tab) (_n1 : Int) (K0 : Bool → Prop) : Prop :=
 br (decide (_n1 ≥ (11 : Int)))
 (K0 (decide (_n1 ≤ (14 : Int))))
 (K0 false)
def F_zv (T : Tab) (_x1 _x2 : S_x9) (K0 : Bool → Prop) : Prop :=
 br (_x1.Kind == _x2.Kind)
 (br (_x1.Grouped == _x2.Grouped)
 (T.f_z2k _x1.Tables _x2.Tables
 (fun _b1 =>
 br _b1
 (T.f_z2k _x1.Columns _x2.Columns
 (fun _b2 =>
 br _b2
 (T.f_z2k _x1.Groups _x2.Groups
 (fun _b3 =>
 br _b3
 (T.f_z2j _x1.Sorts _x2.Sorts
 (fun _b4 =>
 br _b4
 (T.f_z2k _x1.Limit _x2.Limit
 (fun _b5 =>
 br _b5
 (T.f_z2k _x1.Types _x2.Types
 (fun _b6 =>
 br _b6
 (T.f_z2i _x1.On _x2.On
 (fun _b7 =>
 br _b7
 (T.f_z2i _x1.Where _x2.Where
 (fun _b8 =>
 br _b8
 (T.f_z2i _x1.Items _x2.Items
 (fun _b9 =>
 K0 _b9))
 (K0 false)))
 (K0 false)))
 (K0 false)))
 (K0 false)))
 (K0 false)))
 (K0 false)))
 (K0 false)))
 (K0 false)))
 (K0 false))
 (K0 false)
abbrev YL_z2k_0 := Arr → Arr → Int → Int → Prop → Prop → Prop
def B_z2k_0 (T : Tab) (R : YL_z2k_0) (_a1 _a2 : Arr) (_n1 _n2 : Int) (K0 : Prop) (K1 : Prop) : Prop :=
 br (decide (_n2 < _n1))
 (0 ≤ _n2 ∧ _n2 < (_a1.n : Int) ∧
 bf (_a1.g (_n2.toNat)) fun n7 =>
 0 ≤ _n2 ∧ _n2 < (_a2.n : Int) ∧
 bf (_a2.g (_n2.toNat)) fun n8 =>
 br (n7 != n8)
 (K0 )
 (R _a1 _a2 _n1 (W (_n2 + 1)) K0 K1))
 (K1 )
def L_z2k_0 (T : Tab) : Nat → YL_z2k_0
  | 0 => fun _ _ _ _ _ _ => False
  | n + 1 => B_z2k_0 T (L_z2k_0 T n)
def F_z2k (T : Tab) (_a1 _a2 : Arr) (K0 : Bool → Prop) : Prop :=
 br ((_a1.n : Int) != (_a2.n : Int))
 (K0 false)
 (L_z2k_0 T T.fuel _a1 _a2 (_a1.n : Int) 0
 (K0 false)
 (K0 true))
abbrev YL_z2j_0 := Arr → Arr → Int → Int → Prop → Prop → Prop
def B_z2j_0 (T : Tab) (R : YL_z2j_0) (_a1 _a2 : Arr) (_n1 _n2 : Int) (K0 : Prop) (K1 : Prop) : Prop :=
 br (decide (_n2 < _n1))
 (0 ≤ _n2 ∧ _n2 < (_a1.n : Int) ∧
 as_xd (_a1.g (_n2.toNat)) fun x7 =>
 0 ≤ _n2 ∧ _n2 < (_a2.n : Int) ∧
 as_xd (_a2.g (_n2.toNat)) fun x8 =>
 br (!((x7.Item == x8.Item) && ((x7.Desc == x8.Desc) && (x7.At == x8.At))))
 (K0 )
 (R _a1 _a2 _n1 (W (_n2 + 1)) K0 K1))
 (K1 )
def L_z2j_0 (T : Tab) : Nat → YL_z2j_0
  | 0 => fun _ _ _ _ _ _ => False
  | n + 1 => B_z2j_0 T (L_z2j_0 T n)
def F_z2j (T : Tab) (_a1 _a2 : Arr) (K0 : Bool → Prop) : Prop :=
 br ((_a1.n : Int) != (_a2.n : Int))
 (K0 false)
 (L_z2j_0 T T.fuel _a1 _a2 (_a1.n : Int) 0
 (K0 false)
 (K0 true))
abbrev YL_z2i_0 := Arr → Arr → Int → Int → Prop → Prop → Prop
def B_z2i_0 (T : Tab) (R : YL_z2i_0) (_a1 _a2 : Arr) (_n1 _n2 : Int) (K0 : Prop) (K1 : Prop) : Prop :=
 br (decide (_n2 < _n1))
 (0 ≤ _n2 ∧ _n2 < (_a2.n : Int) ∧
 as_xf (_a2.g (_n2.toNat)) fun x8 =>
 0 ≤ _n2 ∧ _n2 < (_a1.n : Int) ∧
 as_xf (_a1.g (_n2.toNat)) fun x9 =>
 T.f_zu x8 x9
 (fun _b1 =>
 br (!_b1)
 (K0 )
 (R _a1 _a2 _n1 (W (_n2 + 1)) K0 K1)))
 (K1 )
def L_z2i_0 (T : Tab) : Nat → YL_z2i_0
  | 0 => fun _ _ _ _ _ _ => False
  | n + 1 => B_z2i_0 T (L_z2i_0 T n)
def F_z2i (T : Tab) (_a1 _a2 : Arr) (K0 : Bool → Prop) : Prop :=
 br ((_a1.n : Int) != (_a2.n : Int))
 (K0 false)
 (L_z2i_0 T T.fuel _a2 _a1 (_a1.n : Int) 0
 (K0 false)
 (K0 true))
def F_zu (T : Tab) (_x1 _x2 : S_xf) (K0 : Bool → Prop) : Prop :=
 br (_x1.Op == _x2.Op)
 (br (_x1.Num == _x2.Num)
 (br (_x1.Type_ == _x2.Type_)
 (br ((_x1.Value_Kind == _x2.Value_Kind) && ((_x1.Value_Int == _x2.Value_Int) && (_x1.Value_Text.toList == _x2.Value_Text.toList)))
 (T.f_z2i _x1.Kids _x2.Kids
 (fun _b1 =>
 K0 _b1))
 (K0 false))
 (K0 false))
 (K0 false))
 (K0 false)
abbrev YL_z1v_3 := Arr → Arr → Int → S_x9 → (List PV) → Prop → (Arr → Arr → S_x9 → (List PV) → Prop) → Prop
def B_z1v_3 (T : Tab) (R : YL_z1v_3) (_a1 _a2 : Arr) (_n1 : Int) (_x1 : S_x9) (_r1 : List PV) (K0 : Prop) (K1 : Arr → Arr → S_x9 → (List PV) → Prop) : Prop :=
 br (decide (_n1 < (_x1.Columns.n : Int)))
 ((∀ i, i < _x1.Columns.n → dn (_x1.Columns.g i) = 1) ∧
 0 ≤ (0 : Int) ∧ (0 : Int) ≤ _n1 ∧ _n1 ≤ (_x1.Columns.n : Int) ∧
 0 ≤ _n1 ∧ _n1 < (_x1.Columns.n : Int) ∧
 bf (_x1.Columns.g (_n1.toNat)) fun n36 =>
 T.f_z1y ⟨_x1.Columns.m, (_n1.toNat - (0 : Int).toNat), (fun i => _x1.Columns.g ((0 : Int).toNat + i))⟩ n36
 (fun _b1 =>
 0 ≤ _n1 ∧ _n1 < (_x1.Columns.n : Int) ∧
 bf (_x1.Columns.g (_n1.toNat)) fun n38 =>
 br (decide (n38 < (0 : Int)))
 (K0 )
 (0 ≤ _n1 ∧ _n1 < (_x1.Columns.n : Int) ∧
 bf (_x1.Columns.g (_n1.toNat)) fun n39 =>
 br (decide (n39 ≥ (_a2.n : Int)))
 (K0 )
 (br _b1
 (K0 )
 (0 ≤ _n1 ∧ _n1 < (_x1.Columns.n : Int) ∧
 bf (_x1.Columns.g (_n1.toNat)) fun n40 =>
 0 ≤ n40 ∧ n40 < (_a2.n : Int) ∧
 as_x4 (_a2.g (n40.toNat)) fun x41 =>
 (_r1.length + 1) * 8 ≤ 140737488355328 ∧
 R _a1 _a2 (W (_n1 + 1)) _x1 (_r1 ++ ([(PV.int .i64 x41.Type_)])) K0 K1)))))
 (K1 _a1 _a2 _x1 _r1)
def L_z1v_3 (T : Tab) : Nat → YL_z1v_3
  | 0 => fun _ _ _ _ _ _ _ => False
  | n + 1 => B_z1v_3 T (L_z1v_3 T n)
abbrev YL_z1v_1 := Arr → Arr → Int → S_x9 → (List PV) → (Arr → S_x9 → (List PV) → Prop) → Prop
def B_z1v_1 (T : Tab) (R : YL_z1v_1) (_a1 _a2 : Arr) (_n1 : Int) (_x1 : S_x9) (_r1 : List PV) (K0 : Arr → S_x9 → (List PV) → Prop) : Prop :=
 br (decide (_n1 < (_a2.n : Int)))
 (0 ≤ _n1 ∧ _n1 < (_a2.n : Int) ∧
 as_x4 (_a2.g (_n1.toNat)) fun x14 =>
 (_r1.length + 1) * 8 ≤ 140737488355328 ∧
 R _a1 _a2 (W (_n1 + 1)) _x1 (_r1 ++ ([(PV.int .i64 x14.Type_)])) K0)
 (K0 _a1 _x1 _r1)
def L_z1v_1 (T : Tab) : Nat → YL_z1v_1
  | 0 => fun _ _ _ _ _ _ => False
  | n + 1 => B_z1v_1 T (L_z1v_1 T n)
def F_z1v (T : Tab) (_x1 : S_x1) (_a1 : Arr) (_x2 : S_x9) (K0 : Bool → Prop) : Prop :=
 T.f_z1l _x1
 (fun _b1 =>
 T.f_z1u _a1
 (fun _b2 =>
 br (!_b1)
 (K0 false)
 (br (!_b2)
 (K0 false)
 (br (decide (_x2.Kind < (1 : Int)))
 (K0 false)
 (br (decide (_x2.Kind > (4 : Int)))
 (K0 false)
 (T.f_z25 _x1 _x2
 (fun _b3 =>
 br (!_b3)
 (K0 false)
 (T.f_z1t _x1 _x2.Tables
 (fun _a2 =>
 T.f_z26 _x2.On _a2 _a1
 (fun _b4 =>
 T.f_z26 _x2.Where _a2 _a1
 (fun _b5 =>
 br (!_b4)
 (K0 false)
 (br (!_b5)
 (K0 false)
 (br (_x2.Kind == (4 : Int))
 (T.f_z24 _x2 _a2 _a1
 (fun _b6 =>
 K0 _b6))
 (br _x2.Grouped
 (K0 false)
 (br (decide ((_x2.Groups.n : Int) > (0 : Int)))
 (K0 false)
 (br (decide ((_x2.Sorts.n : Int) > (0 : Int)))
 (K0 false)
 (br (decide ((_x2.Limit.n : Int) > (0 : Int)))
 (K0 false)
 (br (decide ((_x2.Types.n : Int) > (0 : Int)))
 (K0 false)
 (br (_x2.Kind == (1 : Int))
 (L_z1v_1 T T.fuel _a1 _a2 0 _x2 ([])
 (fun a20 x21 r22 =>
 br (decide ((x21.Columns.n : Int) > (0 : Int)))
 (K0 false)
 (br (decide ((x21.Where.n : Int) > (0 : Int)))
 (K0 false)
 (br ((x21.Items.n : Int) != (r22.length : Int))
 (K0 false)
 (T.f_z1z x21.Items (lst true []) a20 r22
 (fun _b7 _r1 =>
 K0 _b7))))))
 (br (_x2.Kind == (3 : Int))
 (br ((_x2.Columns.n : Int) == (0 : Int))
 (K0 ((_x2.Items.n : Int) == (0 : Int)))
 (K0 false))
 (L_z1v_3 T T.fuel _a1 _a2 0 _x2 ([])
 (K0 false)
 (fun a47 a48 x49 r50 =>
 br ((x49.Items.n : Int) != (r50.length : Int))
 (K0 false)
 (br (decide ((r50.length : Int) < (1 : Int)))
 (K0 false)
 (T.f_z1z x49.Items a48 a47 r50
 (fun _b8 _r2 =>
 K0 _b8)))))))))))))))))))))))))
abbrev YL_z1l_2 := Int → S_x1 → (List PV) → (List PV) → Prop → ((List PV) → (List PV) → Prop) → Prop
def B_z1l_2 (T : Tab) (R : YL_z1l_2) (_n1 : Int) (_x1 : S_x1) (_r1 _r2 : List PV) (K0 : Prop) (K1 : (List PV) → (List PV) → Prop) : Prop :=
 br (decide (_n1 < (_x1.Procs.n : Int)))
 (0 ≤ _n1 ∧ _n1 < (_x1.Procs.n : Int) ∧
 as_xc (_x1.Procs.g (_n1.toNat)) fun x22 =>
 T.f_z1i x22
 (fun _b1 =>
 br (!_b1)
 (K0 )
 (0 ≤ _n1 ∧ _n1 < (_x1.Procs.n : Int) ∧
 as_xc (_x1.Procs.g (_n1.toNat)) fun x24 =>
 (_r2.length + 1) * 16 ≤ 140737488355328 ∧
 R (W (_n1 + 1)) _x1 _r1 (_r2 ++ ([(PV.str x24.Name)])) K0 K1)))
 (K1 _r1 _r2)
def L_z1l_2 (T : Tab) : Nat → YL_z1l_2
  | 0 => fun _ _ _ _ _ _ => False
  | n + 1 => B_z1l_2 T (L_z1l_2 T n)
abbrev YL_z1l_0 := Int → S_x1 → (List PV) → Prop → (S_x1 → (List PV) → Prop) → Prop
def B_z1l_0 (T : Tab) (R : YL_z1l_0) (_n1 : Int) (_x1 : S_x1) (_r1 : List PV) (K0 : Prop) (K1 : S_x1 → (List PV) → Prop) : Prop :=
 br (decide (_n1 < (_x1.Tables.n : Int)))
 (0 ≤ _n1 ∧ _n1 < (_x1.Tables.n : Int) ∧
 as_x8 (_x1.Tables.g (_n1.toNat)) fun x7 =>
 T.f_z1j x7
 (fun _b1 =>
 br (!_b1)
 (K0 )
 (0 ≤ _n1 ∧ _n1 < (_x1.Tables.n : Int) ∧
 as_x8 (_x1.Tables.g (_n1.toNat)) fun x9 =>
 (_r1.length + 1) * 16 ≤ 140737488355328 ∧
 R (W (_n1 + 1)) _x1 (_r1 ++ ([(PV.str x9.Name)])) K0 K1)))
 (K1 _x1 _r1)
def L_z1l_0 (T : Tab) : Nat → YL_z1l_0
  | 0 => fun _ _ _ _ _ => False
  | n + 1 => B_z1l_0 T (L_z1l_0 T n)
def F_z1l (T : Tab) (_x1 : S_x1) (K0 : Bool → Prop) : Prop :=
 br (decide ((_x1.Tables.n : Int) > (8 : Int)))
 (K0 false)
 (br (decide ((_x1.Procs.n : Int) > (16 : Int)))
 (K0 false)
 (L_z1l_0 T T.fuel 0 _x1 ([])
 (K0 false)
 (fun x13 r14 =>
 L_z1l_2 T T.fuel 0 x13 r14 ([])
 (K0 false)
 (fun r29 r30 =>
 T.f_z1n r29
 (fun _b1 _r1 =>
 T.f_z1n r30
 (fun _b2 _r2 =>
 br _b1
 (K0 _b2)
 (K0 false)))))))
abbrev YL_z1j_4 := Bool → Int → S_x8 → (List PV) → Prop → (Bool → (List PV) → Prop) → Prop
def B_z1j_4 (T : Tab) (R : YL_z1j_4) (_b1 : Bool) (_n1 : Int) (_x1 : S_x8) (_r1 : List PV) (K0 : Prop) (K1 : Bool → (List PV) → Prop) : Prop :=
 br (decide (_n1 < (_x1.Indexes.n : Int)))
 (0 ≤ _n1 ∧ _n1 < (_x1.Indexes.n : Int) ∧
 as_x6 (_x1.Indexes.g (_n1.toNat)) fun x46 =>
 T.f_z1o x46.Columns (_x1.Columns.n : Int)
 (fun _b2 =>
 br (!_b2)
 (K0 )
 (0 ≤ _n1 ∧ _n1 < (_x1.Indexes.n : Int) ∧
 as_x6 (_x1.Indexes.g (_n1.toNat)) fun x48 =>
 (_r1.length + 1) * 16 ≤ 140737488355328 ∧
 R _b1 (W (_n1 + 1)) _x1 (_r1 ++ ([(PV.str x48.Name)])) K0 K1)))
 (K1 _b1 _r1)
def L_z1j_4 (T : Tab) : Nat → YL_z1j_4
  | 0 => fun _ _ _ _ _ _ => False
  | n + 1 => B_z1j_4 T (L_z1j_4 T n)
abbrev YL_z1j_2 := Bool → Int → S_x8 → Prop → (Bool → S_x8 → Prop) → Prop
def B_z1j_2 (T : Tab) (R : YL_z1j_2) (_b1 : Bool) (_n1 : Int) (_x1 : S_x8) (K0 : Prop) (K1 : Bool → S_x8 → Prop) : Prop :=
 br (decide (_n1 < (_x1.Key.n : Int)))
 (0 ≤ _n1 ∧ _n1 < (_x1.Key.n : Int) ∧
 bf (_x1.Key.g (_n1.toNat)) fun n28 =>
 0 ≤ n28 ∧ n28 < (_x1.Columns.n : Int) ∧
 as_x4 (_x1.Columns.g (n28.toNat)) fun x29 =>
 br (!x29.NotNull)
 (K0 )
 (0 ≤ _n1 ∧ _n1 < (_x1.Key.n : Int) ∧
 bf (_x1.Key.g (_n1.toNat)) fun n30 =>
 br (n30 == _x1.Part)
 (R true (W (_n1 + 1)) _x1 K0 K1)
 (R _b1 (W (_n1 + 1)) _x1 K0 K1)))
 (K1 _b1 _x1)
def L_z1j_2 (T : Tab) : Nat → YL_z1j_2
  | 0 => fun _ _ _ _ _ => False
  | n + 1 => B_z1j_2 T (L_z1j_2 T n)
abbrev YL_z1j_0 := Int → S_x8 → (List PV) → Prop → (S_x8 → (List PV) → Prop) → Prop
def B_z1j_0 (T : Tab) (R : YL_z1j_0) (_n1 : Int) (_x1 : S_x8) (_r1 : List PV) (K0 : Prop) (K1 : S_x8 → (List PV) → Prop) : Prop :=
 br (decide (_n1 < (_x1.Columns.n : Int)))
 (0 ≤ _n1 ∧ _n1 < (_x1.Columns.n : Int) ∧
 as_x4 (_x1.Columns.g (_n1.toNat)) fun x8 =>
 (_r1.length + 1) * 16 ≤ 140737488355328 ∧
 0 ≤ _n1 ∧ _n1 < (_x1.Columns.n : Int) ∧
 as_x4 (_x1.Columns.g (_n1.toNat)) fun x9 =>
 br (decide (x9.Type_ < (1 : Int)))
 (K0 )
 (0 ≤ _n1 ∧ _n1 < (_x1.Columns.n : Int) ∧
 as_x4 (_x1.Columns.g (_n1.toNat)) fun x10 =>
 br (decide (x10.Type_ > (3 : Int)))
 (K0 )
 (R (W (_n1 + 1)) _x1 (_r1 ++ ([(PV.str x8.Name)])) K0 K1)))
 (K1 _x1 _r1)
def L_z1j_0 (T : Tab) : Nat → YL_z1j_0
  | 0 => fun _ _ _ _ _ => False
  | n + 1 => B_z1j_0 T (L_z1j_0 T n)
def F_z1j (T : Tab) (_x1 : S_x8) (K0 : Bool → Prop) : Prop :=
 T.f_z1k _x1.Name
 (fun _b1 =>
 br (!_b1)
 (K0 false)
 (br (decide ((_x1.Columns.n : Int) < (1 : Int)))
 (K0 false)
 (br (decide ((_x1.Columns.n : Int) > (16 : Int)))
 (K0 false)
 (br (decide ((_x1.Indexes.n : Int) > (4 : Int)))
 (K0 false)
 (L_z1j_0 T T.fuel 0 _x1 ([])
 (K0 false)
 (fun x14 r15 =>
 T.f_z1n r15
 (fun _b2 _r1 =>
 T.f_z1o x14.Key (x14.Columns.n : Int)
 (fun _b3 =>
 br (!_b2)
 (K0 false)
 (br (!_b3)
 (K0 false)
 (L_z1j_2 T T.fuel false 0 x14
 (K0 false)
 (fun b37 x38 =>
 L_z1j_4 T T.fuel b37 0 x38 ([])
 (K0 false)
 (fun b53 r54 =>
 T.f_z1n r54
 (fun _b4 _r2 =>
 br b53
 (K0 _b4)
 (K0 false))))))))))))))
abbrev YL_z1k_0 := ByteArray → Int → Prop → Prop → Prop
def B_z1k_0 (T : Tab) (R : YL_z1k_0) (_s1 : ByteArray) (_n1 : Int) (K0 : Prop) (K1 : Prop) : Prop :=
 br (decide (_n1 < (_s1.size : Int)))
 (0 ≤ _n1 ∧ _n1 < (_s1.size : Int) ∧
 br ((cb _s1 (_n1).toNat) != (95 : Int))
 (0 ≤ _n1 ∧ _n1 < (_s1.size : Int) ∧
 br (decide ((cb _s1 (_n1).toNat) < (48 : Int)))
 (0 ≤ _n1 ∧ _n1 < (_s1.size : Int) ∧
 br (decide ((cb _s1 (_n1).toNat) < (97 : Int)))
 (K0 )
 (0 ≤ _n1 ∧ _n1 < (_s1.size : Int) ∧
 br (decide ((cb _s1 (_n1).toNat) > (122 : Int)))
 (K0 )
 (R _s1 (W (_n1 + 1)) K0 K1)))
 (0 ≤ _n1 ∧ _n1 < (_s1.size : Int) ∧
 br (decide ((cb _s1 (_n1).toNat) > (57 : Int)))
 (0 ≤ _n1 ∧ _n1 < (_s1.size : Int) ∧
 br (decide ((cb _s1 (_n1).toNat) < (97 : Int)))
 (K0 )
 (0 ≤ _n1 ∧ _n1 < (_s1.size : Int) ∧
 br (decide ((cb _s1 (_n1).toNat) > (122 : Int)))
 (K0 )
 (R _s1 (W (_n1 + 1)) K0 K1)))
 (R _s1 (W (_n1 + 1)) K0 K1)))
 (R _s1 (W (_n1 + 1)) K0 K1))
 (K1 )
def L_z1k_0 (T : Tab) : Nat → YL_z1k_0
  | 0 => fun _ _ _ _ => False
  | n + 1 => B_z1k_0 T (L_z1k_0 T n)
def F_z1k (T : Tab) (_s1 : ByteArray) (K0 : Bool → Prop) : Prop :=
 br (decide ((_s1.size : Int) < (1 : Int)))
 (K0 false)
 (br (decide ((_s1.size : Int) > (16 : Int)))
 (K0 false)
 (0 ≤ (0 : Int) ∧ (0 : Int) < (_s1.size : Int) ∧
 br (decide ((cb _s1 (0 : Int).toNat) < (97 : Int)))
 (K0 false)
 (0 ≤ (0 : Int) ∧ (0 : Int) < (_s1.size : Int) ∧
 br (decide ((cb _s1 (0 : Int).toNat) > (122 : Int)))
 (K0 false)
 (L_z1k_0 T T.fuel _s1 0
 (K0 false)
 (K0 true)))))
abbrev YL_z1n_2 := Int → Int → (List PV) → ((List PV) → Prop) → (Int → (List PV) → Prop) → Prop
def B_z1n_2 (T : Tab) (R : YL_z1n_2) (_n1 _n2 : Int) (_r1 : List PV) (K0 : (List PV) → Prop) (K1 : Int → (List PV) → Prop) : Prop :=
 br (decide (_n2 < _n1))
 (0 ≤ _n2 ∧ _n2 < (_r1.length : Int) ∧
 asS (_r1.getD _n2.toNat .nilp) fun s8 =>
 0 ≤ _n1 ∧ _n1 < (_r1.length : Int) ∧
 asS (_r1.getD _n1.toNat .nilp) fun s9 =>
 br (s8.toList == s9.toList)
 (K0 _r1)
 (R _n1 (W (_n2 + 1)) _r1 K0 K1))
 (K1 _n1 _r1)
def L_z1n_2 (T : Tab) : Nat → YL_z1n_2
  | 0 => fun _ _ _ _ _ => False
  | n + 1 => B_z1n_2 T (L_z1n_2 T n)
abbrev YL_z1n_0 := Int → (List PV) → ((List PV) → Prop) → ((List PV) → Prop) → Prop
def B_z1n_0 (T : Tab) (R : YL_z1n_0) (_n1 : Int) (_r1 : List PV) (K0 : (List PV) → Prop) (K1 : (List PV) → Prop) : Prop :=
 br (decide (_n1 < (_r1.length : Int)))
 (0 ≤ _n1 ∧ _n1 < (_r1.length : Int) ∧
 asS (_r1.getD _n1.toNat .nilp) fun s18 =>
 T.f_z1k s18
 (fun _b1 =>
 br (!_b1)
 (K0 _r1)
 (L_z1n_2 T T.fuel _n1 0 _r1
 (fun r20 =>
 K0 r20)
 (fun n21 r22 =>
 R (W (n21 + 1)) r22 K0 K1))))
 (K1 _r1)
def L_z1n_0 (T : Tab) : Nat → YL_z1n_0
  | 0 => fun _ _ _ _ => False
  | n + 1 => B_z1n_0 T (L_z1n_0 T n)
def F_z1n (T : Tab) (_r1 : List PV) (K0 : Bool → (List PV) → Prop) : Prop :=
 L_z1n_0 T T.fuel 0 _r1
 (fun r25 =>
 K0 false r25)
 (fun r26 =>
 K0 true r26)
abbrev YL_z1o_2 := Arr → Int → Int → Int → Prop → (Arr → Int → Int → Prop) → Prop
def B_z1o_2 (T : Tab) (R : YL_z1o_2) (_a1 : Arr) (_n1 _n2 _n3 : Int) (K0 : Prop) (K1 : Arr → Int → Int → Prop) : Prop :=
 br (decide (_n3 < _n2))
 (0 ≤ _n3 ∧ _n3 < (_a1.n : Int) ∧
 bf (_a1.g (_n3.toNat)) fun n9 =>
 0 ≤ _n2 ∧ _n2 < (_a1.n : Int) ∧
 bf (_a1.g (_n2.toNat)) fun n10 =>
 br (n9 == n10)
 (K0 )
 (R _a1 _n1 _n2 (W (_n3 + 1)) K0 K1))
 (K1 _a1 _n1 _n2)
def L_z1o_2 (T : Tab) : Nat → YL_z1o_2
  | 0 => fun _ _ _ _ _ _ => False
  | n + 1 => B_z1o_2 T (L_z1o_2 T n)
abbrev YL_z1o_0 := Arr → Int → Int → Prop → Prop → Prop
def B_z1o_0 (T : Tab) (R : YL_z1o_0) (_a1 : Arr) (_n1 _n2 : Int) (K0 : Prop) (K1 : Prop) : Prop :=
 br (decide (_n2 < (_a1.n : Int)))
 (0 ≤ _n2 ∧ _n2 < (_a1.n : Int) ∧
 bf (_a1.g (_n2.toNat)) fun n21 =>
 br (decide (n21 < (0 : Int)))
 (K0 )
 (0 ≤ _n2 ∧ _n2 < (_a1.n : Int) ∧
 bf (_a1.g (_n2.toNat)) fun n22 =>
 br (decide (n22 ≥ _n1))
 (K0 )
 (L_z1o_2 T T.fuel _a1 _n1 _n2 0
 (K0 )
 (fun a23 n24 n25 =>
 R a23 n24 (W (n25 + 1)) K0 K1))))
 (K1 )
def L_z1o_0 (T : Tab) : Nat → YL_z1o_0
  | 0 => fun _ _ _ _ _ => False
  | n + 1 => B_z1o_0 T (L_z1o_0 T n)
def F_z1o (T : Tab) (_a1 : Arr) (_n1 : Int) (K0 : Bool → Prop) : Prop :=
 br (decide ((_a1.n : Int) < (1 : Int)))
 (K0 false)
 (br (decide ((_a1.n : Int) > (8 : Int)))
 (K0 false)
 (L_z1o_0 T T.fuel _a1 _n1 0
 (K0 false)
 (K0 true)))
abbrev YL_z1i_2 := Int → S_xc → (List PV) → Prop → ((List PV) → Prop) → Prop
def B_z1i_2 (T : Tab) (R : YL_z1i_2) (_n1 : Int) (_x1 : S_xc) (_r1 : List PV) (K0 : Prop) (K1 : (List PV) → Prop) : Prop :=
 br (decide (_n1 < (_x1.Body.n : Int)))
 (0 ≤ _n1 ∧ _n1 < (_x1.Body.n : Int) ∧
 asS (_x1.Body.g (_n1.toNat)) fun s23 =>
 br (decide ((s23.size : Int) < (1 : Int)))
 (K0 )
 (0 ≤ _n1 ∧ _n1 < (_x1.Body.n : Int) ∧
 asS (_x1.Body.g (_n1.toNat)) fun s24 =>
 br (decide ((s24.size : Int) > (1000 : Int)))
 (K0 )
 (R (W (_n1 + 1)) _x1 _r1 K0 K1)))
 (K1 _r1)
def L_z1i_2 (T : Tab) : Nat → YL_z1i_2
  | 0 => fun _ _ _ _ _ => False
  | n + 1 => B_z1i_2 T (L_z1i_2 T n)
abbrev YL_z1i_0 := Int → S_xc → (List PV) → Prop → (S_xc → (List PV) → Prop) → Prop
def B_z1i_0 (T : Tab) (R : YL_z1i_0) (_n1 : Int) (_x1 : S_xc) (_r1 : List PV) (K0 : Prop) (K1 : S_xc → (List PV) → Prop) : Prop :=
 br (decide (_n1 < (_x1.Params.n : Int)))
 (0 ≤ _n1 ∧ _n1 < (_x1.Params.n : Int) ∧
 as_x7 (_x1.Params.g (_n1.toNat)) fun x10 =>
 (_r1.length + 1) * 16 ≤ 140737488355328 ∧
 0 ≤ _n1 ∧ _n1 < (_x1.Params.n : Int) ∧
 as_x7 (_x1.Params.g (_n1.toNat)) fun x11 =>
 br (decide (x11.Type_ < (1 : Int)))
 (K0 )
 (0 ≤ _n1 ∧ _n1 < (_x1.Params.n : Int) ∧
 as_x7 (_x1.Params.g (_n1.toNat)) fun x12 =>
 br (decide (x12.Type_ > (3 : Int)))
 (K0 )
 (R (W (_n1 + 1)) _x1 (_r1 ++ ([(PV.str x10.Name)])) K0 K1)))
 (K1 _x1 _r1)
def L_z1i_0 (T : Tab) : Nat → YL_z1i_0
  | 0 => fun _ _ _ _ _ => False
  | n + 1 => B_z1i_0 T (L_z1i_0 T n)
def F_z1i (T : Tab) (_x1 : S_xc) (K0 : Bool → Prop) : Prop :=
 T.f_z1k _x1.Name
 (fun _b1 =>
 T.f_z1m _x1.Rows 0 1048576
 (fun _b2 =>
 T.f_z1m _x1.Bytes 0 1048576
 (fun _b3 =>
 br (!_b1)
 (K0 false)
 (br (!_b2)
 (K0 false)
 (br (!_b3)
 (K0 false)
 (br (decide ((_x1.Params.n : Int) > (8 : Int)))
 (K0 false)
 (br (decide ((_x1.Body.n : Int) < (1 : Int)))
 (K0 false)
 (br (decide ((_x1.Body.n : Int) > (8 : Int)))
 (K0 false)
 (L_z1i_0 T T.fuel 0 _x1 ([])
 (K0 false)
 (fun x16 r17 =>
 L_z1i_2 T T.fuel 0 x16 r17
 (K0 false)
 (fun r28 =>
 T.f_z1n r28
 (fun _b4 _r1 =>
 K0 _b4))))))))))))
def F_z1m (T : Tab) (_n1 _n2 _n3 : Int) (K0 : Bool → Prop) : Prop :=
 br (decide (_n1 ≥ _n2))
 (K0 (decide (_n1 ≤ _n3)))
 (K0 false)
abbrev YL_z1u_2 := Arr → Int → Int → Prop → (Arr → Int → Prop) → Prop
def B_z1u_2 (T : Tab) (R : YL_z1u_2) (_a1 : Arr) (_n1 _n2 : Int) (K0 : Prop) (K1 : Arr → Int → Prop) : Prop :=
 br (decide (_n2 < _n1))
 (0 ≤ _n2 ∧ _n2 < (_a1.n : Int) ∧
 as_x7 (_a1.g (_n2.toNat)) fun x10 =>
 0 ≤ _n1 ∧ _n1 < (_a1.n : Int) ∧
 as_x7 (_a1.g (_n1.toNat)) fun x11 =>
 br (x10.Name.toList == x11.Name.toList)
 (K0 )
 (R _a1 _n1 (W (_n2 + 1)) K0 K1))
 (K1 _a1 _n1)
def L_z1u_2 (T : Tab) : Nat → YL_z1u_2
  | 0 => fun _ _ _ _ _ => False
  | n + 1 => B_z1u_2 T (L_z1u_2 T n)
abbrev YL_z1u_0 := Arr → Int → Prop → (Arr → Prop) → Prop
def B_z1u_0 (T : Tab) (R : YL_z1u_0) (_a1 : Arr) (_n1 : Int) (K0 : Prop) (K1 : Arr → Prop) : Prop :=
 br (decide (_n1 < (_a1.n : Int)))
 (0 ≤ _n1 ∧ _n1 < (_a1.n : Int) ∧
 as_x7 (_a1.g (_n1.toNat)) fun x19 =>
 T.f_z1p x19.Name
 (fun _b1 =>
 br (!_b1)
 (K0 )
 (0 ≤ _n1 ∧ _n1 < (_a1.n : Int) ∧
 as_x7 (_a1.g (_n1.toNat)) fun x21 =>
 br (decide (x21.Type_ < (1 : Int)))
 (K0 )
 (0 ≤ _n1 ∧ _n1 < (_a1.n : Int) ∧
 as_x7 (_a1.g (_n1.toNat)) fun x22 =>
 br (decide (x22.Type_ > (3 : Int)))
 (K0 )
 (L_z1u_2 T T.fuel _a1 _n1 0
 (K0 )
 (fun a23 n24 =>
 R a23 (W (n24 + 1)) K0 K1))))))
 (K1 _a1)
def L_z1u_0 (T : Tab) : Nat → YL_z1u_0
  | 0 => fun _ _ _ _ => False
  | n + 1 => B_z1u_0 T (L_z1u_0 T n)
def F_z1u (T : Tab) (_a1 : Arr) (K0 : Bool → Prop) : Prop :=
 L_z1u_0 T T.fuel _a1 0
 (K0 false)
 (fun a27 =>
 K0 (decide ((a27.n : Int) ≤ (8 : Int))))
abbrev YL_z1p_0 := ByteArray → Int → Prop → Prop → Prop
def B_z1p_0 (T : Tab) (R : YL_z1p_0) (_s1 : ByteArray) (_n1 : Int) (K0 : Prop) (K1 : Prop) : Prop :=
 br (decide (_n1 < (_s1.size : Int)))
 (0 ≤ _n1 ∧ _n1 < (_s1.size : Int) ∧
 T.f_z1r (cb _s1 (_n1).toNat)
 (fun _b1 =>
 0 ≤ _n1 ∧ _n1 < (_s1.size : Int) ∧
 T.f_z1q (cb _s1 (_n1).toNat)
 (fun _b2 =>
 br (!_b1)
 (br (_n1 == (0 : Int))
 (K0 )
 (br (!_b2)
 (0 ≤ _n1 ∧ _n1 < (_s1.size : Int) ∧
 br ((cb _s1 (_n1).toNat) != (95 : Int))
 (K0 )
 (R _s1 (W (_n1 + 1)) K0 K1))
 (R _s1 (W (_n1 + 1)) K0 K1)))
 (R _s1 (W (_n1 + 1)) K0 K1))))
 (K1 )
def L_z1p_0 (T : Tab) : Nat → YL_z1p_0
  | 0 => fun _ _ _ _ => False
  | n + 1 => B_z1p_0 T (L_z1p_0 T n)
def F_z1p (T : Tab) (_s1 : ByteArray) (K0 : Bool → Prop) : Prop :=
 br (decide ((_s1.size : Int) < (1 : Int)))
 (K0 false)
 (br (decide ((_s1.size : Int) > (16 : Int)))
 (K0 false)
 (L_z1p_0 T T.fuel _s1 0
 (K0 false)
 (K0 true)))
def F_z1r (T : Tab) (_n1 : Int) (K0 : Bool → Prop) : Prop :=
 br (decide (_n1 ≥ (97 : Int)))
 (K0 (decide (_n1 ≤ (122 : Int))))
 (K0 false)
def F_z1q (T : Tab) (_n1 : Int) (K0 : Bool → Prop) : Prop :=
 br (decide (_n1 ≥ (48 : Int)))
 (K0 (decide (_n1 ≤ (57 : Int))))
 (K0 false)
abbrev YL_z25_0 := Int → S_x1 → S_x9 → Prop → (S_x9 → Prop) → Prop
def B_z25_0 (T : Tab) (R : YL_z25_0) (_n1 : Int) (_x1 : S_x1) (_x2 : S_x9) (K0 : Prop) (K1 : S_x9 → Prop) : Prop :=
 br (decide (_n1 < (_x2.Tables.n : Int)))
 (0 ≤ _n1 ∧ _n1 < (_x2.Tables.n : Int) ∧
 bf (_x2.Tables.g (_n1.toNat)) fun n6 =>
 br (decide (n6 < (0 : Int)))
 (K0 )
 (0 ≤ _n1 ∧ _n1 < (_x2.Tables.n : Int) ∧
 bf (_x2.Tables.g (_n1.toNat)) fun n7 =>
 br (decide (n7 ≥ (_x1.Tables.n : Int)))
 (K0 )
 (R (W (_n1 + 1)) _x1 _x2 K0 K1)))
 (K1 _x2)
def L_z25_0 (T : Tab) : Nat → YL_z25_0
  | 0 => fun _ _ _ _ _ => False
  | n + 1 => B_z25_0 T (L_z25_0 T n)
def F_z25 (T : Tab) (_x1 : S_x1) (_x2 : S_x9) (K0 : Bool → Prop) : Prop :=
 L_z25_0 T T.fuel 0 _x1 _x2
 (K0 false)
 (fun x11 =>
 br ((x11.Tables.n : Int) == (2 : Int))
 (br (x11.Kind == (4 : Int))
 (0 ≤ (0 : Int) ∧ (0 : Int) < (x11.Tables.n : Int) ∧
 bf (x11.Tables.g 0) fun n12 =>
 0 ≤ (1 : Int) ∧ (1 : Int) < (x11.Tables.n : Int) ∧
 bf (x11.Tables.g 1) fun n13 =>
 br (n12 != n13)
 (K0 ((x11.On.n : Int) == (1 : Int)))
 (K0 false))
 (K0 false))
 (br ((x11.Tables.n : Int) == (1 : Int))
 (K0 ((x11.On.n : Int) == (0 : Int)))
 (K0 false)))
abbrev YL_z1t_0 := Arr → Int → S_x1 → (List PV) → ((List PV) → Prop) → Prop
def B_z1t_0 (T : Tab) (R : YL_z1t_0) (_a1 : Arr) (_n1 : Int) (_x1 : S_x1) (_r1 : List PV) (K0 : (List PV) → Prop) : Prop :=
 br (decide (_n1 < (_a1.n : Int)))
 (0 ≤ _n1 ∧ _n1 < (_a1.n : Int) ∧
 bf (_a1.g (_n1.toNat)) fun n7 =>
 0 ≤ n7 ∧ n7 < (_x1.Tables.n : Int) ∧
 as_x8 (_x1.Tables.g (n7.toNat)) fun x8 =>
 (∀ i, i < x8.Columns.n → dn (x8.Columns.g i) = 3) ∧ (_r1.length + ((List.range x8.Columns.n).map x8.Columns.g).length) * 32 ≤ 140737488355328 ∧
 R _a1 (W (_n1 + 1)) _x1 (_r1 ++ ((List.range x8.Columns.n).map x8.Columns.g)) K0)
 (K0 _r1)
def L_z1t_0 (T : Tab) : Nat → YL_z1t_0
  | 0 => fun _ _ _ _ _ => False
  | n + 1 => B_z1t_0 T (L_z1t_0 T n)
def F_z1t (T : Tab) (_x1 : S_x1) (_a1 : Arr) (K0 : Arr → Prop) : Prop :=
 L_z1t_0 T T.fuel _a1 0 _x1 ([])
 (fun r13 =>
 K0 (lst true r13))
abbrev YL_z26_0 := Arr → Arr → Arr → Int → Prop → (Arr → Prop) → Prop
def B_z26_0 (T : Tab) (R : YL_z26_0) (_a1 _a2 _a3 : Arr) (_n1 : Int) (K0 : Prop) (K1 : Arr → Prop) : Prop :=
 br (decide (_n1 < (_a1.n : Int)))
 (0 ≤ _n1 ∧ _n1 < (_a1.n : Int) ∧
 as_xf (_a1.g (_n1.toNat)) fun x13 =>
 T.f_z1w x13 _a2 _a3 1 false
 (fun _b1 =>
 br (!_b1)
 (K0 )
 (0 ≤ _n1 ∧ _n1 < (_a1.n : Int) ∧
 as_xf (_a1.g (_n1.toNat)) fun x15 =>
 br (x15.Type_ != (2 : Int))
 (0 ≤ _n1 ∧ _n1 < (_a1.n : Int) ∧
 as_xf (_a1.g (_n1.toNat)) fun x16 =>
 br (x16.Type_ != (0 : Int))
 (K0 )
 (R _a1 _a2 _a3 (W (_n1 + 1)) K0 K1))
 (R _a1 _a2 _a3 (W (_n1 + 1)) K0 K1))))
 (K1 _a1)
def L_z26_0 (T : Tab) : Nat → YL_z26_0
  | 0 => fun _ _ _ _ _ _ => False
  | n + 1 => B_z26_0 T (L_z26_0 T n)
def F_z26 (T : Tab) (_a1 _a2 _a3 : Arr) (K0 : Bool → Prop) : Prop :=
 L_z26_0 T T.fuel _a1 _a2 _a3 0
 (K0 false)
 (fun a25 =>
 K0 (decide ((a25.n : Int) ≤ (1 : Int))))
abbrev YL_z1w_0 := Arr → Arr → Int → Int → Int → S_xf → Prop → (S_xf → Prop) → Prop
def B_z1w_0 (T : Tab) (R : YL_z1w_0) (_a1 _a2 : Arr) (_n1 _n2 _n3 : Int) (_x1 : S_xf) (K0 : Prop) (K1 : S_xf → Prop) : Prop :=
 br (decide (_n3 < (_x1.Kids.n : Int)))
 (0 ≤ _n3 ∧ _n3 < (_x1.Kids.n : Int) ∧
 as_xf (_x1.Kids.g (_n3.toNat)) fun x28 =>
 T.f_z1w x28 _a1 _a2 (W (_n1 + 1)) false
 (fun _b1 =>
 br (!_b1)
 (K0 )
 (br (_n2 != (0 : Int))
 (0 ≤ _n3 ∧ _n3 < (_x1.Kids.n : Int) ∧
 as_xf (_x1.Kids.g (_n3.toNat)) fun x30 =>
 br (x30.Type_ != _n2)
 (0 ≤ _n3 ∧ _n3 < (_x1.Kids.n : Int) ∧
 as_xf (_x1.Kids.g (_n3.toNat)) fun x31 =>
 br (x31.Type_ != (0 : Int))
 (K0 )
 (R _a1 _a2 _n1 _n2 (W (_n3 + 1)) _x1 K0 K1))
 (R _a1 _a2 _n1 _n2 (W (_n3 + 1)) _x1 K0 K1))
 (R _a1 _a2 _n1 _n2 (W (_n3 + 1)) _x1 K0 K1))))
 (K1 _x1)
def L_z1w_0 (T : Tab) : Nat → YL_z1w_0
  | 0 => fun _ _ _ _ _ _ _ _ => False
  | n + 1 => B_z1w_0 T (L_z1w_0 T n)
def F_z1w (T : Tab) (_x1 : S_xf) (_a1 _a2 : Arr) (_n1 : Int) (_b1 : Bool) (K0 : Bool → Prop) : Prop :=
 br (decide (_n1 > (16 : Int)))
 (K0 false)
 (br (decide (_x1.Op ≤ (3 : Int)))
 (T.f_z23 _x1 _a1 _a2
 (fun _b2 =>
 br _b2
 (K0 ((_x1.Kids.n : Int) == (0 : Int)))
 (K0 false)))
 (T.f_z1x _x1.Op
 (fun _b3 =>
 T.f_z22 _x1.Op _x1.Num
 (fun _b4 =>
 T.f_z21 _x1.Op (_x1.Kids.n : Int)
 (fun _b5 =>
 br _b3
 (br (!_b1)
 (K0 false)
 (br (!_b4)
 (K0 false)
 (br (!_b5)
 (K0 false)
 (br (!((_x1.Value_Kind == 0) && ((_x1.Value_Int == 0) && (_x1.Value_Text.toList == (ByteArray.mk #[]).toList))))
 (K0 false)
 (br (decide (_x1.Op > (14 : Int)))
 (K0 false)
 (T.f_z28 _x1.Op
 (fun _n2 =>
 L_z1w_0 T T.fuel _a1 _a2 _n1 _n2 0 _x1
 (K0 false)
 (fun x50 =>
 br (x50.Op == (6 : Int))
 (0 ≤ (0 : Int) ∧ (0 : Int) < (x50.Kids.n : Int) ∧
 as_xf (x50.Kids.g 0) fun x51 =>
 0 ≤ (1 : Int) ∧ (1 : Int) < (x50.Kids.n : Int) ∧
 as_xf (x50.Kids.g 1) fun x52 =>
 br (x51.Type_ != x52.Type_)
 (0 ≤ (0 : Int) ∧ (0 : Int) < (x50.Kids.n : Int) ∧
 as_xf (x50.Kids.g 0) fun x53 =>
 br (x53.Type_ != (0 : Int))
 (0 ≤ (1 : Int) ∧ (1 : Int) < (x50.Kids.n : Int) ∧
 as_xf (x50.Kids.g 1) fun x54 =>
 br (x54.Type_ != (0 : Int))
 (K0 false)
 (T.f_z27 x50.Op x50.Kids
 (fun _n3 =>
 K0 (x50.Type_ == _n3))))
 (T.f_z27 x50.Op x50.Kids
 (fun _n4 =>
 K0 (x50.Type_ == _n4))))
 (T.f_z27 x50.Op x50.Kids
 (fun _n5 =>
 K0 (x50.Type_ == _n5))))
 (T.f_z27 x50.Op x50.Kids
 (fun _n6 =>
 K0 (x50.Type_ == _n6)))))))))))
 (br (!_b4)
 (K0 false)
 (br (!_b5)
 (K0 false)
 (br (!((_x1.Value_Kind == 0) && ((_x1.Value_Int == 0) && (_x1.Value_Text.toList == (ByteArray.mk #[]).toList))))
 (K0 false)
 (br (decide (_x1.Op > (14 : Int)))
 (K0 false)
 (T.f_z28 _x1.Op
 (fun _n7 =>
 L_z1w_0 T T.fuel _a1 _a2 _n1 _n7 0 _x1
 (K0 false)
 (fun x60 =>
 br (x60.Op == (6 : Int))
 (0 ≤ (0 : Int) ∧ (0 : Int) < (x60.Kids.n : Int) ∧
 as_xf (x60.Kids.g 0) fun x61 =>
 0 ≤ (1 : Int) ∧ (1 : Int) < (x60.Kids.n : Int) ∧
 as_xf (x60.Kids.g 1) fun x62 =>
 br (x61.Type_ != x62.Type_)
 (0 ≤ (0 : Int) ∧ (0 : Int) < (x60.Kids.n : Int) ∧
 as_xf (x60.Kids.g 0) fun x63 =>
 br (x63.Type_ != (0 : Int))
 (0 ≤ (1 : Int) ∧ (1 : Int) < (x60.Kids.n : Int) ∧
 as_xf (x60.Kids.g 1) fun x64 =>
 br (x64.Type_ != (0 : Int))
 (K0 false)
 (T.f_z27 x60.Op x60.Kids
 (fun _n8 =>
 K0 (x60.Type_ == _n8))))
 (T.f_z27 x60.Op x60.Kids
 (fun _n9 =>
 K0 (x60.Type_ == _n9))))
 (T.f_z27 x60.Op x60.Kids
 (fun _n10 =>
 K0 (x60.Type_ == _n10))))
 (T.f_z27 x60.Op x60.Kids
 (fun _n11 =>
 K0 (x60.Type_ == _n11)))))))))))))))
def F_z23 (T : Tab) (_x1 : S_xf) (_a1 _a2 : Arr) (K0 : Bool → Prop) : Prop :=
 br (_x1.Op == (1 : Int))
 (T.f_z1s ⟨_x1.Value_Kind, _x1.Value_Int, _x1.Value_Text⟩
 (fun _b1 =>
 br _b1
 (br (_x1.Num == (0 : Int))
 (K0 (_x1.Type_ == _x1.Value_Kind))
 (K0 false))
 (K0 false)))
 (br (_x1.Op == (2 : Int))
 (br (decide (_x1.Num ≥ (0 : Int)))
 (br (decide (_x1.Num < (_a2.n : Int)))
 (br ((_x1.Value_Kind == 0) && ((_x1.Value_Int == 0) && (_x1.Value_Text.toList == (ByteArray.mk #[]).toList)))
 (0 ≤ _x1.Num ∧ _x1.Num < (_a2.n : Int) ∧
 as_x7 (_a2.g (_x1.Num.toNat)) fun x2 =>
 K0 (_x1.Type_ == x2.Type_))
 (K0 false))
 (K0 false))
 (K0 false))
 (br (_x1.Op == (3 : Int))
 (br (decide (_x1.Num ≥ (0 : Int)))
 (br (decide (_x1.Num < (_a1.n : Int)))
 (br ((_x1.Value_Kind == 0) && ((_x1.Value_Int == 0) && (_x1.Value_Text.toList == (ByteArray.mk #[]).toList)))
 (0 ≤ _x1.Num ∧ _x1.Num < (_a1.n : Int) ∧
 as_x4 (_a1.g (_x1.Num.toNat)) fun x3 =>
 K0 (_x1.Type_ == x3.Type_))
 (K0 false))
 (K0 false))
 (K0 false))
 (K0 false)))
def F_z1s (T : Tab) (_x1 : S_xa) (K0 : Bool → Prop) : Prop :=
 T.f_z1h _x1
 (fun _b1 =>
 br _b1
 (br (_x1.Kind != (1 : Int))
 (K0 true)
 (K0 (decide (_x1.Int ≥ (0 : Int)))))
 (K0 false))
def F_z1h (T : Tab) (_x1 : S_xa) (K0 : Bool → Prop) : Prop :=
 br (_x1.Kind == (0 : Int))
 (br (_x1.Int == (0 : Int))
 (K0 (_x1.Text.toList == (ByteArray.mk #[]).toList))
 (K0 false))
 (br (_x1.Kind == (1 : Int))
 (br (decide (_x1.Int ≥ ((-4611686018427387904) : Int)))
 (br (decide (_x1.Int ≤ (4611686018427387904 : Int)))
 (K0 (_x1.Text.toList == (ByteArray.mk #[]).toList))
 (K0 false))
 (K0 false))
 (br (_x1.Kind == (2 : Int))
 (br (_x1.Int == (0 : Int))
 (K0 (_x1.Text.toList == (ByteArray.mk #[]).toList))
 (br (_x1.Int == (1 : Int))
 (K0 (_x1.Text.toList == (ByteArray.mk #[]).toList))
 (K0 false)))
 (br (_x1.Kind == (3 : Int))
 (br (_x1.Int == (0 : Int))
 (K0 (decide ((_x1.Text.size : Int) ≤ (64 : Int))))
 (K0 false))
 (K0 false))))
def F_z1x (T : Tab) (_n1 : Int) (K0 : Bool → Prop) : Prop :=
 br (decide (_n1 ≥ (11 : Int)))
 (K0 (decide (_n1 ≤ (14 : Int))))
 (K0 false)
def F_z22 (T : Tab) (_n1 _n2 : Int) (K0 : Bool → Prop) : Prop :=
 br (_n1 == (5 : Int))
 (br (decide (_n2 ≥ (1 : Int)))
 (K0 (decide (_n2 ≤ (5 : Int))))
 (K0 false))
 (br (_n1 == (6 : Int))
 (br (decide (_n2 ≥ (1 : Int)))
 (K0 (decide (_n2 ≤ (6 : Int))))
 (K0 false))
 (br (_n1 == (7 : Int))
 (br (_n2 == (0 : Int))
 (K0 true)
 (K0 (_n2 == (1 : Int))))
 (K0 (_n2 == (0 : Int)))))
def F_z21 (T : Tab) (_n1 _n2 : Int) (K0 : Bool → Prop) : Prop :=
 br (_n1 == (4 : Int))
 (K0 (_n2 == (1 : Int)))
 (br (_n1 == (7 : Int))
 (K0 (_n2 == (1 : Int)))
 (br (_n1 == (8 : Int))
 (K0 (_n2 == (1 : Int)))
 (br (_n1 == (12 : Int))
 (K0 (_n2 == (1 : Int)))
 (br (_n1 == (13 : Int))
 (K0 (_n2 == (1 : Int)))
 (br (_n1 == (14 : Int))
 (K0 (_n2 == (1 : Int)))
 (br (_n1 == (5 : Int))
 (K0 (_n2 == (2 : Int)))
 (br (_n1 == (6 : Int))
 (K0 (_n2 == (2 : Int)))
 (br (_n1 == (9 : Int))
 (br (decide (_n2 ≥ (2 : Int)))
 (K0 (decide (_n2 ≤ (8 : Int))))
 (K0 false))
 (br (_n1 == (10 : Int))
 (br (decide (_n2 ≥ (2 : Int)))
 (K0 (decide (_n2 ≤ (8 : Int))))
 (K0 false))
 (br (_n1 == (11 : Int))
 (K0 (_n2 == (0 : Int)))
 (K0 false)))))))))))
def F_z28 (T : Tab) (_n1 : Int) (K0 : Int → Prop) : Prop :=
 br (_n1 == (4 : Int))
 (K0 1)
 (br (_n1 == (5 : Int))
 (K0 1)
 (br (_n1 == (12 : Int))
 (K0 1)
 (br (_n1 == (8 : Int))
 (K0 2)
 (br (_n1 == (9 : Int))
 (K0 2)
 (br (_n1 == (10 : Int))
 (K0 2)
 (K0 0))))))
def F_z27 (T : Tab) (_n1 : Int) (_a1 : Arr) (K0 : Int → Prop) : Prop :=
 br (_n1 == (4 : Int))
 (K0 1)
 (br (_n1 == (5 : Int))
 (K0 1)
 (br (_n1 == (11 : Int))
 (K0 1)
 (br (_n1 == (12 : Int))
 (K0 1)
 (br (_n1 == (13 : Int))
 (0 ≤ (0 : Int) ∧ (0 : Int) < (_a1.n : Int) ∧
 as_xf (_a1.g 0) fun x1 =>
 K0 x1.Type_)
 (br (_n1 == (14 : Int))
 (0 ≤ (0 : Int) ∧ (0 : Int) < (_a1.n : Int) ∧
 as_xf (_a1.g 0) fun x2 =>
 K0 x2.Type_)
 (K0 2))))))
abbrev YL_z24_6 := Int → S_x9 → Prop → (S_x9 → Prop) → Prop
def B_z24_6 (T : Tab) (R : YL_z24_6) (_n1 : Int) (_x1 : S_x9) (K0 : Prop) (K1 : S_x9 → Prop) : Prop :=
 br (decide (_n1 < (_x1.Sorts.n : Int)))
 (0 ≤ _n1 ∧ _n1 < (_x1.Sorts.n : Int) ∧
 as_xd (_x1.Sorts.g (_n1.toNat)) fun x130 =>
 br (decide (x130.Item < (1 : Int)))
 (K0 )
 (0 ≤ _n1 ∧ _n1 < (_x1.Sorts.n : Int) ∧
 as_xd (_x1.Sorts.g (_n1.toNat)) fun x131 =>
 br (decide (x131.Item > (_x1.Items.n : Int)))
 (K0 )
 (0 ≤ _n1 ∧ _n1 < (_x1.Sorts.n : Int) ∧
 as_xd (_x1.Sorts.g (_n1.toNat)) fun x132 =>
 br (x132.At != (0 : Int))
 (K0 )
 (R (W (_n1 + 1)) _x1 K0 K1))))
 (K1 _x1)
def L_z24_6 (T : Tab) : Nat → YL_z24_6
  | 0 => fun _ _ _ _ => False
  | n + 1 => B_z24_6 T (L_z24_6 T n)
abbrev YL_z24_4 := Arr → Arr → Bool → Int → S_x9 → Prop → (S_x9 → Prop) → Prop
def B_z24_4 (T : Tab) (R : YL_z24_4) (_a1 _a2 : Arr) (_b1 : Bool) (_n1 : Int) (_x1 : S_x9) (K0 : Prop) (K1 : S_x9 → Prop) : Prop :=
 br (decide (_n1 < (_x1.Items.n : Int)))
 (0 ≤ _n1 ∧ _n1 < (_x1.Items.n : Int) ∧
 as_xf (_x1.Items.g (_n1.toNat)) fun x88 =>
 T.f_z1w x88 _a1 _a2 1 true
 (fun _b2 =>
 0 ≤ _n1 ∧ _n1 < (_x1.Items.n : Int) ∧
 as_xf (_x1.Items.g (_n1.toNat)) fun x90 =>
 T.f_z1x x90.Op
 (fun _b3 =>
 0 ≤ _n1 ∧ _n1 < (_x1.Items.n : Int) ∧
 as_xf (_x1.Items.g (_n1.toNat)) fun x92 =>
 br (x92.Op == (3 : Int))
 (0 ≤ _n1 ∧ _n1 < (_x1.Items.n : Int) ∧
 as_xf (_x1.Items.g (_n1.toNat)) fun x93 =>
 T.f_z1y _x1.Groups x93.Num
 (fun _b4 =>
 br (!_b2)
 (K0 )
 (0 ≤ _n1 ∧ _n1 < (_x1.Types.n : Int) ∧
 bf (_x1.Types.g (_n1.toNat)) fun n95 =>
 0 ≤ _n1 ∧ _n1 < (_x1.Items.n : Int) ∧
 as_xf (_x1.Items.g (_n1.toNat)) fun x96 =>
 br (n95 != x96.Type_)
 (K0 )
 (br _b1
 (br (!_b3)
 (br (!_b4)
 (K0 )
 (R _a1 _a2 _b1 (W (_n1 + 1)) _x1 K0 K1))
 (R _a1 _a2 _b1 (W (_n1 + 1)) _x1 K0 K1))
 (R _a1 _a2 _b1 (W (_n1 + 1)) _x1 K0 K1)))))
 (br (!_b2)
 (K0 )
 (0 ≤ _n1 ∧ _n1 < (_x1.Types.n : Int) ∧
 bf (_x1.Types.g (_n1.toNat)) fun n112 =>
 0 ≤ _n1 ∧ _n1 < (_x1.Items.n : Int) ∧
 as_xf (_x1.Items.g (_n1.toNat)) fun x113 =>
 br (n112 != x113.Type_)
 (K0 )
 (br _b1
 (br (!_b3)
 (K0 )
 (R _a1 _a2 _b1 (W (_n1 + 1)) _x1 K0 K1))
 (R _a1 _a2 _b1 (W (_n1 + 1)) _x1 K0 K1)))))))
 (K1 _x1)
def L_z24_4 (T : Tab) : Nat → YL_z24_4
  | 0 => fun _ _ _ _ _ _ _ => False
  | n + 1 => B_z24_4 T (L_z24_4 T n)
abbrev YL_z24_2 := Arr → Arr → Bool → Int → S_x9 → Prop → (Arr → Arr → Bool → S_x9 → Prop) → Prop
def B_z24_2 (T : Tab) (R : YL_z24_2) (_a1 _a2 : Arr) (_b1 : Bool) (_n1 : Int) (_x1 : S_x9) (K0 : Prop) (K1 : Arr → Arr → Bool → S_x9 → Prop) : Prop :=
 br (decide (_n1 < (_x1.Groups.n : Int)))
 ((∀ i, i < _x1.Groups.n → dn (_x1.Groups.g i) = 1) ∧
 0 ≤ (0 : Int) ∧ (0 : Int) ≤ _n1 ∧ _n1 ≤ (_x1.Groups.n : Int) ∧
 0 ≤ _n1 ∧ _n1 < (_x1.Groups.n : Int) ∧
 bf (_x1.Groups.g (_n1.toNat)) fun n39 =>
 T.f_z1y ⟨_x1.Groups.m, (_n1.toNat - (0 : Int).toNat), (fun i => _x1.Groups.g ((0 : Int).toNat + i))⟩ n39
 (fun _b2 =>
 0 ≤ _n1 ∧ _n1 < (_x1.Groups.n : Int) ∧
 bf (_x1.Groups.g (_n1.toNat)) fun n41 =>
 br (decide (n41 < (0 : Int)))
 (K0 )
 (0 ≤ _n1 ∧ _n1 < (_x1.Groups.n : Int) ∧
 bf (_x1.Groups.g (_n1.toNat)) fun n42 =>
 br (decide (n42 ≥ (_a1.n : Int)))
 (K0 )
 (br _b2
 (K0 )
 (R _a1 _a2 _b1 (W (_n1 + 1)) _x1 K0 K1)))))
 (K1 _a1 _a2 _b1 _x1)
def L_z24_2 (T : Tab) : Nat → YL_z24_2
  | 0 => fun _ _ _ _ _ _ _ => False
  | n + 1 => B_z24_2 T (L_z24_2 T n)
abbrev YL_z24_0 := Arr → Arr → Bool → Int → S_x9 → (Arr → Arr → Bool → S_x9 → Prop) → Prop
def B_z24_0 (T : Tab) (R : YL_z24_0) (_a1 _a2 : Arr) (_b1 : Bool) (_n1 : Int) (_x1 : S_x9) (K0 : Arr → Arr → Bool → S_x9 → Prop) : Prop :=
 br (decide (_n1 < (_x1.Items.n : Int)))
 (0 ≤ _n1 ∧ _n1 < (_x1.Items.n : Int) ∧
 as_xf (_x1.Items.g (_n1.toNat)) fun x13 =>
 T.f_z1x x13.Op
 (fun _b2 =>
 br _b1
 (R _a1 _a2 true (W (_n1 + 1)) _x1 K0)
 (R _a1 _a2 _b2 (W (_n1 + 1)) _x1 K0)))
 (K0 _a1 _a2 _b1 _x1)
def L_z24_0 (T : Tab) : Nat → YL_z24_0
  | 0 => fun _ _ _ _ _ _ => False
  | n + 1 => B_z24_0 T (L_z24_0 T n)
def F_z24 (T : Tab) (_x1 : S_x9) (_a1 _a2 : Arr) (K0 : Bool → Prop) : Prop :=
 L_z24_0 T T.fuel _a1 _a2 (decide ((_x1.Groups.n : Int) > (0 : Int))) 0 _x1
 (fun a25 a26 b27 x28 =>
 br (!(x28.Grouped == b27))
 (K0 false)
 (br ((x28.Items.n : Int) != (x28.Types.n : Int))
 (K0 false)
 (br (decide ((x28.Groups.n : Int) > (8 : Int)))
 (K0 false)
 (br (decide ((x28.Sorts.n : Int) > (8 : Int)))
 (K0 false)
 (br (decide ((x28.Limit.n : Int) > (1 : Int)))
 (K0 false)
 (br (decide ((x28.Columns.n : Int) > (0 : Int)))
 (K0 false)
 (T.f_z20 x28.Items a25
 (fun _b1 =>
 br (decide ((x28.Items.n : Int) < (1 : Int)))
 (K0 false)
 (br (decide ((x28.Items.n : Int) > (8 : Int)))
 (br (!_b1)
 (K0 false)
 (br b27
 (K0 false)
 (br (decide ((x28.Items.n : Int) > (16 : Int)))
 (K0 false)
 (L_z24_2 T T.fuel a25 a26 b27 0 x28
 (K0 false)
 (fun a48 a49 b50 x51 =>
 L_z24_4 T T.fuel a48 a49 b50 0 x51
 (K0 false)
 (fun x124 =>
 L_z24_6 T T.fuel 0 x124
 (K0 false)
 (fun x135 =>
 br ((x135.Limit.n : Int) == (0 : Int))
 (K0 true)
 (0 ≤ (0 : Int) ∧ (0 : Int) < (x135.Limit.n : Int) ∧
 bf (x135.Limit.g 0) fun n136 =>
 br (decide (n136 ≥ (0 : Int)))
 (0 ≤ (0 : Int) ∧ (0 : Int) < (x135.Limit.n : Int) ∧
 bf (x135.Limit.g 0) fun n137 =>
 K0 (decide (n137 ≤ (4611686018427387904 : Int))))
 (K0 false)))))))))
 (L_z24_2 T T.fuel a25 a26 b27 0 x28
 (K0 false)
 (fun a138 a139 b140 x141 =>
 L_z24_4 T T.fuel a138 a139 b140 0 x141
 (K0 false)
 (fun x142 =>
 L_z24_6 T T.fuel 0 x142
 (K0 false)
 (fun x143 =>
 br ((x143.Limit.n : Int) == (0 : Int))
 (K0 true)
 (0 ≤ (0 : Int) ∧ (0 : Int) < (x143.Limit.n : Int) ∧
 bf (x143.Limit.g 0) fun n144 =>
 br (decide (n144 ≥ (0 : Int)))
 (0 ≤ (0 : Int) ∧ (0 : Int) < (x143.Limit.n : Int) ∧
 bf (x143.Limit.g 0) fun n145 =>
 K0 (decide (n145 ≤ (4611686018427387904 : Int))))
 (K0 false)))))))))))))))
abbrev YL_z20_0 := Arr → Arr → Int → Prop → (Arr → Arr → Prop) → Prop
def B_z20_0 (T : Tab) (R : YL_z20_0) (_a1 _a2 : Arr) (_n1 : Int) (K0 : Prop) (K1 : Arr → Arr → Prop) : Prop :=
 br (decide (_n1 < (_a1.n : Int)))
 (0 ≤ _n1 ∧ _n1 < (_a1.n : Int) ∧
 as_xf (_a1.g (_n1.toNat)) fun x6 =>
 br (x6.Op != (3 : Int))
 (K0 )
 (0 ≤ _n1 ∧ _n1 < (_a1.n : Int) ∧
 as_xf (_a1.g (_n1.toNat)) fun x7 =>
 br (x7.Num != _n1)
 (K0 )
 (R _a1 _a2 (W (_n1 + 1)) K0 K1)))
 (K1 _a1 _a2)
def L_z20_0 (T : Tab) : Nat → YL_z20_0
  | 0 => fun _ _ _ _ _ => False
  | n + 1 => B_z20_0 T (L_z20_0 T n)
def F_z20 (T : Tab) (_a1 _a2 : Arr) (K0 : Bool → Prop) : Prop :=
 L_z20_0 T T.fuel _a1 _a2 0
 (K0 false)
 (fun a11 a12 =>
 K0 ((a11.n : Int) == (a12.n : Int)))
abbrev YL_z1y_0 := Arr → Int → Int → Prop → Prop → Prop
def B_z1y_0 (T : Tab) (R : YL_z1y_0) (_a1 : Arr) (_n1 _n2 : Int) (K0 : Prop) (K1 : Prop) : Prop :=
 br (decide (_n2 < (_a1.n : Int)))
 (0 ≤ _n2 ∧ _n2 < (_a1.n : Int) ∧
 bf (_a1.g (_n2.toNat)) fun n5 =>
 br (n5 == _n1)
 (K0 )
 (R _a1 _n1 (W (_n2 + 1)) K0 K1))
 (K1 )
def L_z1y_0 (T : Tab) : Nat → YL_z1y_0
  | 0 => fun _ _ _ _ _ => False
  | n + 1 => B_z1y_0 T (L_z1y_0 T n)
def F_z1y (T : Tab) (_a1 : Arr) (_n1 : Int) (K0 : Bool → Prop) : Prop :=
 L_z1y_0 T T.fuel _a1 _n1 0
 (K0 true)
 (K0 false)
abbrev YL_z1z_0 := Arr → Arr → Arr → Int → (List PV) → ((List PV) → Prop) → ((List PV) → Prop) → Prop
def B_z1z_0 (T : Tab) (R : YL_z1z_0) (_a1 _a2 _a3 : Arr) (_n1 : Int) (_r1 : List PV) (K0 : (List PV) → Prop) (K1 : (List PV) → Prop) : Prop :=
 br (decide (_n1 < (_a1.n : Int)))
 (0 ≤ _n1 ∧ _n1 < (_a1.n : Int) ∧
 as_xf (_a1.g (_n1.toNat)) fun x16 =>
 T.f_z1w x16 _a2 _a3 1 false
 (fun _b1 =>
 br (!_b1)
 (K0 _r1)
 (0 ≤ _n1 ∧ _n1 < (_a1.n : Int) ∧
 as_xf (_a1.g (_n1.toNat)) fun x18 =>
 0 ≤ _n1 ∧ _n1 < (_r1.length : Int) ∧
 bf (_r1.getD _n1.toNat .nilp) fun n19 =>
 br (x18.Type_ != n19)
 (0 ≤ _n1 ∧ _n1 < (_a1.n : Int) ∧
 as_xf (_a1.g (_n1.toNat)) fun x20 =>
 br (x20.Type_ != (0 : Int))
 (K0 _r1)
 (R _a1 _a2 _a3 (W (_n1 + 1)) _r1 K0 K1))
 (R _a1 _a2 _a3 (W (_n1 + 1)) _r1 K0 K1))))
 (K1 _r1)
def L_z1z_0 (T : Tab) : Nat → YL_z1z_0
  | 0 => fun _ _ _ _ _ _ _ => False
  | n + 1 => B_z1z_0 T (L_z1z_0 T n)
def F_z1z (T : Tab) (_a1 _a2 _a3 : Arr) (_r1 : List PV) (K0 : Bool → (List PV) → Prop) : Prop :=
 L_z1z_0 T T.fuel _a1 _a2 _a3 0 _r1
 (fun r31 =>
 K0 false r31)
 (fun r32 =>
 K0 true r32)
end
end Go.RX
