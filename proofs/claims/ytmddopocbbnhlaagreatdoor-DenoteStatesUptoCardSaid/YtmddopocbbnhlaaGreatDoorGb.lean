/- Printed by a program of the prover: the functions that the law reaches, as functions in Lean, and that the model does what they say. No condition. -/
import Derived.Test.YtmddopocbbnhlaaGreatDoorGa
set_option linter.all false
namespace Go.RX
noncomputable section
def F_zq (T : Tab) (_x1 : S_x0) (_x2 : S_x4) (K0 : Bool → Prop) : Prop :=
 T.f_zr
 (fun _b1 =>
 T.f_ze _x1 _x2
 (fun _b2 =>
 T.f_z16 _x1 _x2
 (fun _b3 =>
 T.f_zd _x1
 (fun _x3 =>
 T.f_z13 _x1
 (fun _x4 =>
 T.f_zt _x3 _x4
 (fun _b4 =>
 br _b1
 (br (_b2 == _b3)
 (K0 _b4)
 (K0 false))
 (K0 false)))))))
def F_zr (T : Tab)  (K0 : Bool → Prop) : Prop :=
 K0 true
abbrev YL_ze_2 := Arr → Arr → Int → Int → Int → Int → S_x4 → S_x5 → Prop → (Arr → Arr → Int → Int → S_x4 → S_x5 → Prop) → Prop
def B_ze_2 (T : Tab) (R : YL_ze_2) (_a1 _a2 : Arr) (_n1 _n2 _n3 _n4 : Int) (_x1 : S_x4) (_x2 : S_x5) (K0 : Prop) (K1 : Arr → Arr → Int → Int → S_x4 → S_x5 → Prop) : Prop :=
 br (decide (_n4 < _n3))
 (0 ≤ _n4 ∧ _n4 < (_a1.n : Int) ∧
 asA (_a1.g (_n4.toNat)) fun a17 =>
 0 ≤ (W (_n4 + 1)) ∧ (W (_n4 + 1)) < (_a1.n : Int) ∧
 asA (_a1.g ((W (_n4 + 1)).toNat)) fun a18 =>
 T.f_zl a17 a18 _x2.Key
 (fun _n5 =>
 br (decide (_n5 ≥ (0 : Int)))
 (K0 )
 (R _a1 _a2 _n1 _n2 _n3 (W (_n4 + 1)) _x1 _x2 K0 K1)))
 (K1 _a1 _a2 _n1 _n2 _x1 _x2)
def L_ze_2 (T : Tab) : Nat → YL_ze_2
  | 0 => fun _ _ _ _ _ _ _ _ _ _ => False
  | n + 1 => B_ze_2 T (L_ze_2 T n)
abbrev YL_ze_0 := Arr → Int → Int → S_x4 → Prop → Prop → Prop
def B_ze_0 (T : Tab) (R : YL_ze_0) (_a1 : Arr) (_n1 _n2 : Int) (_x1 : S_x4) (K0 : Prop) (K1 : Prop) : Prop :=
 br (decide (_n2 < _n1))
 (0 ≤ _n2 ∧ _n2 < (_a1.n : Int) ∧
 as_x5 (_a1.g (_n2.toNat)) fun x39 =>
 0 ≤ _n2 ∧ _n2 < (_x1.Tables.n : Int) ∧
 asA (_x1.Tables.g (_n2.toNat)) fun a40 =>
 T.f_z1b a40 x39
 (fun _b1 _x2 =>
 br _b1
 (K0 )
 (L_ze_2 T T.fuel a40 _a1 _n1 _n2 (W ((a40.n : Int) - (1 : Int))) 0 _x1 _x2
 (K0 )
 (fun a43 a44 n45 n46 x47 x48 =>
 T.f_zn x48 a43
 (fun _b2 =>
 br (!_b2)
 (K0 )
 (R a44 n45 (W (n46 + 1)) x47 K0 K1))))))
 (K1 )
def L_ze_0 (T : Tab) : Nat → YL_ze_0
  | 0 => fun _ _ _ _ _ _ => False
  | n + 1 => B_ze_0 T (L_ze_0 T n)
def F_ze (T : Tab) (_x1 : S_x0) (_x2 : S_x4) (K0 : Bool → Prop) : Prop :=
 T.f_z0 _x1
 (fun _b1 =>
 br (!_b1)
 (K0 false)
 (br ((_x2.Tables.n : Int) != (_x1.Tables.n : Int))
 (K0 false)
 (L_ze_0 T T.fuel _x1.Tables (_x1.Tables.n : Int) 0 _x2
 (K0 false)
 (K0 true))))
abbrev YL_z0_2 := Arr → Int → Int → (List (PV × PV)) → Prop → Prop → Prop
def B_z0_2 (T : Tab) (R : YL_z0_2) (_a1 : Arr) (_n1 _n2 : Int) (_m1 : List (PV × PV)) (K0 : Prop) (K1 : Prop) : Prop :=
 br (decide (_n2 < _n1))
 (0 ≤ _n2 ∧ _n2 < (_a1.n : Int) ∧
 as_x7 (_a1.g (_n2.toNat)) fun x33 =>
 T.f_z1 x33
 (fun _b1 =>
 br (!_b1)
 (K0 )
 (T.f_z5 x33.Name _m1
 (fun _b2 _m2 =>
 br (!_b2)
 (K0 )
 (R _a1 _n1 (W (_n2 + 1)) _m2 K0 K1)))))
 (K1 )
def L_z0_2 (T : Tab) : Nat → YL_z0_2
  | 0 => fun _ _ _ _ _ _ => False
  | n + 1 => B_z0_2 T (L_z0_2 T n)
abbrev YL_z0_0 := Arr → Int → Int → S_x0 → (List (PV × PV)) → (List (PV × PV)) → Prop → (S_x0 → (List (PV × PV)) → Prop) → Prop
def B_z0_0 (T : Tab) (R : YL_z0_0) (_a1 : Arr) (_n1 _n2 : Int) (_x1 : S_x0) (_m1 _m2 : List (PV × PV)) (K0 : Prop) (K1 : S_x0 → (List (PV × PV)) → Prop) : Prop :=
 br (decide (_n2 < _n1))
 (0 ≤ _n2 ∧ _n2 < (_a1.n : Int) ∧
 as_x5 (_a1.g (_n2.toNat)) fun x13 =>
 T.f_z3 x13
 (fun _b1 =>
 br (!_b1)
 (K0 )
 (T.f_z5 x13.Name _m1
 (fun _b2 _m3 =>
 br (!_b2)
 (K0 )
 (R _a1 _n1 (W (_n2 + 1)) _x1 _m3 _m2 K0 K1)))))
 (K1 _x1 _m2)
def L_z0_0 (T : Tab) : Nat → YL_z0_0
  | 0 => fun _ _ _ _ _ _ _ _ => False
  | n + 1 => B_z0_0 T (L_z0_0 T n)
def F_z0 (T : Tab) (_x1 : S_x0) (K0 : Bool → Prop) : Prop :=
 br (decide ((_x1.Tables.n : Int) > (8 : Int)))
 (K0 false)
 (br (decide ((_x1.Procs.n : Int) > (16 : Int)))
 (K0 false)
 (T.f_z4
 (fun _m1 =>
 T.f_z4
 (fun _m2 =>
 L_z0_0 T T.fuel _x1.Tables (_x1.Tables.n : Int) 0 _x1 _m1 _m2
 (K0 false)
 (fun x23 m24 =>
 L_z0_2 T T.fuel x23.Procs (x23.Procs.n : Int) 0 m24
 (K0 false)
 (K0 true))))))
def F_z4 (T : Tab)  (K0 : (List (PV × PV)) → Prop) : Prop :=
 K0 ([])
abbrev YL_z3_4 := Arr → Int → Int → S_x5 → (List (PV × PV)) → Prop → Prop → Prop
def B_z3_4 (T : Tab) (R : YL_z3_4) (_a1 : Arr) (_n1 _n2 : Int) (_x1 : S_x5) (_m1 : List (PV × PV)) (K0 : Prop) (K1 : Prop) : Prop :=
 br (decide (_n2 < _n1))
 (0 ≤ _n2 ∧ _n2 < (_a1.n : Int) ∧
 as_x2 (_a1.g (_n2.toNat)) fun x53 =>
 T.f_z5 x53.Name _m1
 (fun _b1 _m2 =>
 br (!_b1)
 (K0 )
 (T.f_z8 x53.Columns (_x1.Columns.n : Int)
 (fun _b2 =>
 br (!_b2)
 (K0 )
 (R _a1 _n1 (W (_n2 + 1)) _x1 _m2 K0 K1)))))
 (K1 )
def L_z3_4 (T : Tab) : Nat → YL_z3_4
  | 0 => fun _ _ _ _ _ _ _ => False
  | n + 1 => B_z3_4 T (L_z3_4 T n)
abbrev YL_z3_2 := Arr → Int → Int → S_x5 → (List (PV × PV)) → Prop → (S_x5 → (List (PV × PV)) → Prop) → Prop
def B_z3_2 (T : Tab) (R : YL_z3_2) (_a1 : Arr) (_n1 _n2 : Int) (_x1 : S_x5) (_m1 : List (PV × PV)) (K0 : Prop) (K1 : S_x5 → (List (PV × PV)) → Prop) : Prop :=
 br (decide (_n2 < _n1))
 (0 ≤ _n2 ∧ _n2 < (_a1.n : Int) ∧
 cm (_a1.g (_n2.toNat)) fun n35 =>
 0 ≤ n35 ∧ n35 < (_x1.Columns.n : Int) ∧
 as_x1 (_x1.Columns.g (n35.toNat)) fun x36 =>
 br (!x36.NotNull)
 (K0 )
 (R _a1 _n1 (W (_n2 + 1)) _x1 _m1 K0 K1))
 (K1 _x1 _m1)
def L_z3_2 (T : Tab) : Nat → YL_z3_2
  | 0 => fun _ _ _ _ _ _ _ => False
  | n + 1 => B_z3_2 T (L_z3_2 T n)
abbrev YL_z3_0 := Arr → Int → Int → S_x5 → (List (PV × PV)) → (List (PV × PV)) → Prop → (S_x5 → (List (PV × PV)) → Prop) → Prop
def B_z3_0 (T : Tab) (R : YL_z3_0) (_a1 : Arr) (_n1 _n2 : Int) (_x1 : S_x5) (_m1 _m2 : List (PV × PV)) (K0 : Prop) (K1 : S_x5 → (List (PV × PV)) → Prop) : Prop :=
 br (decide (_n2 < _n1))
 (0 ≤ _n2 ∧ _n2 < (_a1.n : Int) ∧
 as_x1 (_a1.g (_n2.toNat)) fun x14 =>
 T.f_z5 x14.Name _m1
 (fun _b1 _m3 =>
 br (!_b1)
 (K0 )
 (T.f_z9 x14.Type_
 (fun _b2 =>
 br (!_b2)
 (K0 )
 (R _a1 _n1 (W (_n2 + 1)) _x1 _m3 _m2 K0 K1)))))
 (K1 _x1 _m2)
def L_z3_0 (T : Tab) : Nat → YL_z3_0
  | 0 => fun _ _ _ _ _ _ _ _ => False
  | n + 1 => B_z3_0 T (L_z3_0 T n)
def F_z3 (T : Tab) (_x1 : S_x5) (K0 : Bool → Prop) : Prop :=
 T.f_z6 _x1.Name
 (fun _b1 =>
 br (!_b1)
 (K0 false)
 (br ((_x1.Columns.n : Int) == (0 : Int))
 (K0 false)
 (br (decide ((_x1.Columns.n : Int) > (16 : Int)))
 (K0 false)
 (br (decide ((_x1.Indexes.n : Int) > (4 : Int)))
 (K0 false)
 (T.f_z4
 (fun _m1 =>
 T.f_z4
 (fun _m2 =>
 L_z3_0 T T.fuel _x1.Columns (_x1.Columns.n : Int) 0 _x1 _m1 _m2
 (K0 false)
 (fun x24 m25 =>
 T.f_z8 x24.Key (x24.Columns.n : Int)
 (fun _b2 =>
 br (!_b2)
 (K0 false)
 (T.f_z1f x24.Key x24.Part
 (fun _b3 =>
 br (!_b3)
 (K0 false)
 (L_z3_2 T T.fuel x24.Key (x24.Key.n : Int) 0 x24 m25
 (K0 false)
 (fun x42 m43 =>
 L_z3_4 T T.fuel x42.Indexes (x42.Indexes.n : Int) 0 x42 m43
 (K0 false)
 (K0 true))))))))))))))
def F_z6 (T : Tab) (_s1 : ByteArray) (K0 : Bool → Prop) : Prop :=
 br (_s1.toList == (ByteArray.mk #[]).toList)
 (K0 false)
 (br (decide ((_s1.size : Int) > (16 : Int)))
 (K0 false)
 (0 ≤ (0 : Int) ∧ (0 : Int) < (_s1.size : Int) ∧
 br (decide ((bh _s1 (0 : Int).toNat) < (97 : Int)))
 (K0 false)
 (0 ≤ (0 : Int) ∧ (0 : Int) < (_s1.size : Int) ∧
 br (decide ((bh _s1 (0 : Int).toNat) > (122 : Int)))
 (K0 false)
 (T.f_z1m _s1
 (fun _b1 =>
 K0 (!_b1))))))
def F_z1m (T : Tab) (_s1 : ByteArray) (K0 : Bool → Prop) : Prop :=
 T.f_z1n _s1
 (fun _n1 =>
 K0 (decide (_n1 ≥ (0 : Int))))
def F_z1n (T : Tab) (_s1 : ByteArray) (K0 : Int → Prop) : Prop :=
 T.f_z1o _s1 true
 (fun _n1 =>
 K0 _n1)
abbrev YL_z1o_0 := Bool → ByteArray → Nat → (Int → Prop) → Prop → Prop
def B_z1o_0 (T : Tab) (R : YL_z1o_0) (_b1 : Bool) (_s1 : ByteArray) (_i1 : Nat) (K0 : Int → Prop) (K1 : Prop) : Prop :=
 br (decide (_i1 < _s1.size))
 (T.f_z7 ((Utf8.decode _s1 _i1).1 : Int)
 (fun _b2 =>
 br (_b2 == _b1)
 (K0 (_i1 : Int))
 (R _b1 _s1 (_i1 + (Utf8.decode _s1 _i1).2) K0 K1)))
 (K1 )
def L_z1o_0 (T : Tab) : Nat → YL_z1o_0
  | 0 => fun _ _ _ _ _ => False
  | n + 1 => B_z1o_0 T (L_z1o_0 T n)
def F_z1o (T : Tab) (_s1 : ByteArray) (_b1 : Bool) (K0 : Int → Prop) : Prop :=
 L_z1o_0 T T.fuel _b1 _s1 0
 (fun n9 =>
 K0 n9)
 (K0 (-1))
def F_z7 (T : Tab) (_n1 : Int) (K0 : Bool → Prop) : Prop :=
 br (_n1 != (95 : Int))
 (br (decide (_n1 < (48 : Int)))
 (br (decide (_n1 < (97 : Int)))
 (K0 true)
 (K0 (decide (_n1 > (122 : Int)))))
 (br (decide (_n1 > (57 : Int)))
 (br (decide (_n1 < (97 : Int)))
 (K0 true)
 (K0 (decide (_n1 > (122 : Int)))))
 (K0 false)))
 (K0 false)
def F_z5 (T : Tab) (_s1 : ByteArray) (_m1 : List (PV × PV)) (K0 : Bool → (List (PV × PV)) → Prop) : Prop :=
 T.f_z6 _s1
 (fun _b1 =>
 br _b1
 (asB ((look (PV.str _s1) _m1).getD (PV.bool false)) fun b2 =>
 K0 (!b2) (nj (PV.str _s1) (PV.bool true) _m1))
 (K0 false (nj (PV.str _s1) (PV.bool true) _m1)))
def F_z9 (T : Tab) (_n1 : Int) (K0 : Bool → Prop) : Prop :=
 br (decide (_n1 ≥ (1 : Int)))
 (K0 (decide (_n1 ≤ (3 : Int))))
 (K0 false)
abbrev YL_z8_0 := Arr → Int → Arr → Int → Int → (List (PV × PV)) → Prop → (Arr → Prop) → Prop
def B_z8_0 (T : Tab) (R : YL_z8_0) (_a1 : Arr) (_n1 : Int) (_a2 : Arr) (_n2 _n3 : Int) (_m1 : List (PV × PV)) (K0 : Prop) (K1 : Arr → Prop) : Prop :=
 br (decide (_n3 < _n2))
 (0 ≤ _n3 ∧ _n3 < (_a2.n : Int) ∧
 cm (_a2.g (_n3.toNat)) fun n9 =>
 br (decide (n9 < (0 : Int)))
 (K0 )
 (br (decide (n9 ≥ _n1))
 (K0 )
 (asB ((look (PV.int .i64 n9) _m1).getD (PV.bool false)) fun b10 =>
 br b10
 (K0 )
 (R _a1 _n1 _a2 _n2 (W (_n3 + 1)) (nj (PV.int .i64 n9) (PV.bool true) _m1) K0 K1))))
 (K1 _a1)
def L_z8_0 (T : Tab) : Nat → YL_z8_0
  | 0 => fun _ _ _ _ _ _ _ _ => False
  | n + 1 => B_z8_0 T (L_z8_0 T n)
def F_z8 (T : Tab) (_a1 : Arr) (_n1 : Int) (K0 : Bool → Prop) : Prop :=
 L_z8_0 T T.fuel _a1 _n1 _a1 (_a1.n : Int) 0 ([])
 (K0 false)
 (fun a17 =>
 br (decide ((a17.n : Int) ≥ (1 : Int)))
 (K0 (decide ((a17.n : Int) ≤ (8 : Int))))
 (K0 false))
def F_z1f (T : Tab) (_a1 : Arr) (_n1 : Int) (K0 : Bool → Prop) : Prop :=
 T.f_z1k _a1 _n1
 (fun _n2 =>
 K0 (decide (_n2 ≥ (0 : Int))))
abbrev YL_z1k_0 := Arr → Int → Int → Int → (Int → Prop) → Prop → Prop
def B_z1k_0 (T : Tab) (R : YL_z1k_0) (_a1 : Arr) (_n1 _n2 _n3 : Int) (K0 : Int → Prop) (K1 : Prop) : Prop :=
 br (decide (_n3 < _n2))
 (0 ≤ _n3 ∧ _n3 < (_a1.n : Int) ∧
 cm (_a1.g (_n3.toNat)) fun n6 =>
 br (_n1 == n6)
 (K0 _n3)
 (R _a1 _n1 _n2 (W (_n3 + 1)) K0 K1))
 (K1 )
def L_z1k_0 (T : Tab) : Nat → YL_z1k_0
  | 0 => fun _ _ _ _ _ _ => False
  | n + 1 => B_z1k_0 T (L_z1k_0 T n)
def F_z1k (T : Tab) (_a1 : Arr) (_n1 : Int) (K0 : Int → Prop) : Prop :=
 L_z1k_0 T T.fuel _a1 _n1 (_a1.n : Int) 0
 (fun n11 =>
 K0 n11)
 (K0 (-1))
abbrev YL_z1_0 := Arr → Int → Int → S_x7 → (List (PV × PV)) → Prop → (S_x7 → Prop) → Prop
def B_z1_0 (T : Tab) (R : YL_z1_0) (_a1 : Arr) (_n1 _n2 : Int) (_x1 : S_x7) (_m1 : List (PV × PV)) (K0 : Prop) (K1 : S_x7 → Prop) : Prop :=
 br (decide (_n2 < _n1))
 (0 ≤ _n2 ∧ _n2 < (_a1.n : Int) ∧
 as_x3 (_a1.g (_n2.toNat)) fun x12 =>
 T.f_z5 x12.Name _m1
 (fun _b1 _m2 =>
 br (!_b1)
 (K0 )
 (T.f_z9 x12.Type_
 (fun _b2 =>
 br (!_b2)
 (K0 )
 (R _a1 _n1 (W (_n2 + 1)) _x1 _m2 K0 K1)))))
 (K1 _x1)
def L_z1_0 (T : Tab) : Nat → YL_z1_0
  | 0 => fun _ _ _ _ _ _ _ => False
  | n + 1 => B_z1_0 T (L_z1_0 T n)
def F_z1 (T : Tab) (_x1 : S_x7) (K0 : Bool → Prop) : Prop :=
 T.f_z6 _x1.Name
 (fun _b1 =>
 br (!_b1)
 (K0 false)
 (br (decide ((_x1.Params.n : Int) > (8 : Int)))
 (K0 false)
 (br ((_x1.Body.n : Int) == (0 : Int))
 (K0 false)
 (br (decide ((_x1.Body.n : Int) > (8 : Int)))
 (K0 false)
 (br (decide (_x1.Rows < (0 : Int)))
 (K0 false)
 (br (decide (_x1.Rows > (1048576 : Int)))
 (K0 false)
 (br (decide (_x1.Bytes < (0 : Int)))
 (K0 false)
 (br (decide (_x1.Bytes > (1048576 : Int)))
 (K0 false)
 (T.f_z4
 (fun _m1 =>
 L_z1_0 T T.fuel _x1.Params (_x1.Params.n : Int) 0 _x1 _m1
 (K0 false)
 (fun x21 =>
 T.f_z1e x21.Body
 (fun _b2 =>
 K0 (!_b2)))))))))))))
def F_z1e (T : Tab) (_a1 : Arr) (K0 : Bool → Prop) : Prop :=
 T.f_z1j _a1
 (fun _n1 =>
 K0 (decide (_n1 ≥ (0 : Int))))
abbrev YL_z1j_0 := Arr → Int → Int → (Int → Prop) → Prop → Prop
def B_z1j_0 (T : Tab) (R : YL_z1j_0) (_a1 : Arr) (_n1 _n2 : Int) (K0 : Int → Prop) (K1 : Prop) : Prop :=
 br (decide (_n2 < _n1))
 (0 ≤ _n2 ∧ _n2 < (_a1.n : Int) ∧
 asS (_a1.g (_n2.toNat)) fun s6 =>
 T.f_z2 s6
 (fun _b1 =>
 br _b1
 (K0 _n2)
 (R _a1 _n1 (W (_n2 + 1)) K0 K1)))
 (K1 )
def L_z1j_0 (T : Tab) : Nat → YL_z1j_0
  | 0 => fun _ _ _ _ _ => False
  | n + 1 => B_z1j_0 T (L_z1j_0 T n)
def F_z1j (T : Tab) (_a1 : Arr) (K0 : Int → Prop) : Prop :=
 L_z1j_0 T T.fuel _a1 (_a1.n : Int) 0
 (fun n11 =>
 K0 n11)
 (K0 (-1))
def F_z2 (T : Tab) (_s1 : ByteArray) (K0 : Bool → Prop) : Prop :=
 br (_s1.toList == (ByteArray.mk #[]).toList)
 (K0 true)
 (K0 (decide ((_s1.size : Int) > (1000 : Int))))
def F_z1b (T : Tab) (_a1 : Arr) (_x1 : S_x5) (K0 : Bool → S_x5 → Prop) : Prop :=
 T.f_z1g _a1 _x1
 (fun _n1 _x2 =>
 K0 (decide (_n1 ≥ (0 : Int))) _x2)
abbrev YL_z1g_0 := Arr → Int → Int → S_x5 → (Int → S_x5 → Prop) → (S_x5 → Prop) → Prop
def B_z1g_0 (T : Tab) (R : YL_z1g_0) (_a1 : Arr) (_n1 _n2 : Int) (_x1 : S_x5) (K0 : Int → S_x5 → Prop) (K1 : S_x5 → Prop) : Prop :=
 br (decide (_n2 < _n1))
 (0 ≤ _n2 ∧ _n2 < (_a1.n : Int) ∧
 asA (_a1.g (_n2.toNat)) fun a8 =>
 T.f_zf a8 _x1
 (fun _b1 _x2 =>
 br _b1
 (K0 _n2 _x2)
 (R _a1 _n1 (W (_n2 + 1)) _x2 K0 K1)))
 (K1 _x1)
def L_z1g_0 (T : Tab) : Nat → YL_z1g_0
  | 0 => fun _ _ _ _ _ _ => False
  | n + 1 => B_z1g_0 T (L_z1g_0 T n)
def F_z1g (T : Tab) (_a1 : Arr) (_x1 : S_x5) (K0 : Int → S_x5 → Prop) : Prop :=
 L_z1g_0 T T.fuel _a1 (_a1.n : Int) 0 _x1
 (fun n15 x16 =>
 K0 n15 x16)
 (fun x17 =>
 K0 (-1) x17)
def F_zf (T : Tab) (_a1 : Arr) (_x1 : S_x5) (K0 : Bool → S_x5 → Prop) : Prop :=
 T.f_zm _x1 _a1
 (fun _b1 =>
 K0 (!_b1) _x1)
abbrev YL_zm_0 := Arr → Arr → Int → Int → S_x5 → Prop → (Arr → S_x5 → Prop) → Prop
def B_zm_0 (T : Tab) (R : YL_zm_0) (_a1 _a2 : Arr) (_n1 _n2 : Int) (_x1 : S_x5) (K0 : Prop) (K1 : Arr → S_x5 → Prop) : Prop :=
 br (decide (_n2 < _n1))
 (0 ≤ _n2 ∧ _n2 < (_a2.n : Int) ∧
 as_x6 (_a2.g (_n2.toNat)) fun x15 =>
 T.f_z1q x15
 (fun _b1 =>
 br (!_b1)
 (K0 )
 (T.f_zi x15
 (fun _b2 =>
 br (!_b2)
 (0 ≤ _n2 ∧ _n2 < (_x1.Columns.n : Int) ∧
 as_x1 (_x1.Columns.g (_n2.toNat)) fun x18 =>
 br (x15.Kind != x18.Type_)
 (K0 )
 (R _a1 _a2 _n1 (W (_n2 + 1)) _x1 K0 K1))
 (R _a1 _a2 _n1 (W (_n2 + 1)) _x1 K0 K1)))))
 (K1 _a1 _x1)
def L_zm_0 (T : Tab) : Nat → YL_zm_0
  | 0 => fun _ _ _ _ _ _ _ => False
  | n + 1 => B_zm_0 T (L_zm_0 T n)
def F_zm (T : Tab) (_x1 : S_x5) (_a1 : Arr) (K0 : Bool → Prop) : Prop :=
 br ((_a1.n : Int) != (_x1.Columns.n : Int))
 (K0 false)
 (L_zm_0 T T.fuel _a1 _a1 (_a1.n : Int) 0 _x1
 (K0 false)
 (fun a29 x30 =>
 T.f_zj x30 a29
 (fun _b1 =>
 K0 (!_b1))))
def F_z1q (T : Tab) (_x1 : S_x6) (K0 : Bool → Prop) : Prop :=
 br (_x1.Kind == (0 : Int))
 (K0 ((_x1.Kind == 0) && ((_x1.Int == 0) && (_x1.Text.toList == (ByteArray.mk #[]).toList))))
 (br (_x1.Kind == (1 : Int))
 (br (decide (_x1.Int ≥ ((-4611686018427387904) : Int)))
 (br (decide (_x1.Int ≤ (4611686018427387904 : Int)))
 (K0 (_x1.Text.toList == (ByteArray.mk #[]).toList))
 (K0 false))
 (K0 false))
 (br (_x1.Kind == (2 : Int))
 (0 ≤ (1 : Int) ∧
 br ((Int.fdiv _x1.Int (2 ^ (min (1 : Int).toNat (IntKind.bits .i64)))) == (0 : Int))
 (K0 (_x1.Text.toList == (ByteArray.mk #[]).toList))
 (K0 false))
 (br (_x1.Kind == (3 : Int))
 (br (_x1.Int == (0 : Int))
 (K0 (decide ((_x1.Text.size : Int) ≤ (64 : Int))))
 (K0 false))
 (K0 false))))
def F_zi (T : Tab) (_x1 : S_x6) (K0 : Bool → Prop) : Prop :=
 K0 (_x1.Kind == (0 : Int))
abbrev YL_zj_0 := Arr → Int → Int → S_x5 → Arr → Prop → (S_x5 → Arr → Prop) → Prop
def B_zj_0 (T : Tab) (R : YL_zj_0) (_a1 : Arr) (_n1 _n2 : Int) (_x1 : S_x5) (_a2 : Arr) (K0 : Prop) (K1 : S_x5 → Arr → Prop) : Prop :=
 br (decide (_n2 < _n1))
 (0 ≤ _n2 ∧ _n2 < (_a1.n : Int) ∧
 as_x1 (_a1.g (_n2.toNat)) fun x14 =>
 br x14.NotNull
 (0 ≤ _n2 ∧ _n2 < (_a2.n : Int) ∧
 as_x6 (_a2.g (_n2.toNat)) fun x15 =>
 T.f_zi x15
 (fun _b1 =>
 br _b1
 (K0 )
 (R _a1 _n1 (W (_n2 + 1)) _x1 _a2 K0 K1)))
 (R _a1 _n1 (W (_n2 + 1)) _x1 _a2 K0 K1))
 (K1 _x1 _a2)
def L_zj_0 (T : Tab) : Nat → YL_zj_0
  | 0 => fun _ _ _ _ _ _ _ => False
  | n + 1 => B_zj_0 T (L_zj_0 T n)
def F_zj (T : Tab) (_x1 : S_x5) (_a1 : Arr) (K0 : Bool → Prop) : Prop :=
 L_zj_0 T T.fuel _x1.Columns (_x1.Columns.n : Int) 0 _x1 _a1
 (K0 true)
 (fun x27 a28 =>
 T.f_z1c x27.Key a28
 (fun _b1 _a2 =>
 K0 _b1))
def F_z1c (T : Tab) (_a1 _a2 : Arr) (K0 : Bool → Arr → Prop) : Prop :=
 T.f_z1h _a1 _a2
 (fun _n1 _a3 =>
 K0 (decide (_n1 ≥ (0 : Int))) _a3)
abbrev YL_z1h_0 := Arr → Int → Int → Arr → (Int → Arr → Prop) → (Arr → Prop) → Prop
def B_z1h_0 (T : Tab) (R : YL_z1h_0) (_a1 : Arr) (_n1 _n2 : Int) (_a2 : Arr) (K0 : Int → Arr → Prop) (K1 : Arr → Prop) : Prop :=
 br (decide (_n2 < _n1))
 (0 ≤ _n2 ∧ _n2 < (_a1.n : Int) ∧
 cm (_a1.g (_n2.toNat)) fun n8 =>
 T.f_zk n8 _a2
 (fun _b1 _a3 =>
 br _b1
 (K0 _n2 _a3)
 (R _a1 _n1 (W (_n2 + 1)) _a3 K0 K1)))
 (K1 _a2)
def L_z1h_0 (T : Tab) : Nat → YL_z1h_0
  | 0 => fun _ _ _ _ _ _ => False
  | n + 1 => B_z1h_0 T (L_z1h_0 T n)
def F_z1h (T : Tab) (_a1 _a2 : Arr) (K0 : Int → Arr → Prop) : Prop :=
 L_z1h_0 T T.fuel _a1 (_a1.n : Int) 0 _a2
 (fun n15 a16 =>
 K0 n15 a16)
 (fun a17 =>
 K0 (-1) a17)
def F_zk (T : Tab) (_n1 : Int) (_a1 : Arr) (K0 : Bool → Arr → Prop) : Prop :=
 0 ≤ _n1 ∧ _n1 < (_a1.n : Int) ∧
 as_x6 (_a1.g (_n1.toNat)) fun x1 =>
 T.f_zi x1
 (fun _b1 =>
 K0 _b1 _a1)
abbrev YL_zl_0 := Arr → Arr → Arr → Int → Int → (Int → Prop) → Prop → Prop
def B_zl_0 (T : Tab) (R : YL_zl_0) (_a1 _a2 _a3 : Arr) (_n1 _n2 : Int) (K0 : Int → Prop) (K1 : Prop) : Prop :=
 br (decide (_n2 < _n1))
 (0 ≤ _n2 ∧ _n2 < (_a3.n : Int) ∧
 cm (_a3.g (_n2.toNat)) fun n10 =>
 0 ≤ n10 ∧ n10 < (_a1.n : Int) ∧
 as_x6 (_a1.g (n10.toNat)) fun x11 =>
 0 ≤ n10 ∧ n10 < (_a2.n : Int) ∧
 as_x6 (_a2.g (n10.toNat)) fun x12 =>
 T.f_z1p x11 x12
 (fun _n3 =>
 br (_n3 != (0 : Int))
 (K0 _n3)
 (R _a1 _a2 _a3 _n1 (W (_n2 + 1)) K0 K1)))
 (K1 )
def L_zl_0 (T : Tab) : Nat → YL_zl_0
  | 0 => fun _ _ _ _ _ _ _ => False
  | n + 1 => B_zl_0 T (L_zl_0 T n)
def F_zl (T : Tab) (_a1 _a2 _a3 : Arr) (K0 : Int → Prop) : Prop :=
 L_zl_0 T T.fuel _a1 _a2 _a3 (_a3.n : Int) 0
 (fun n19 =>
 K0 n19)
 (K0 0)
def F_z1p (T : Tab) (_x1 _x2 : S_x6) (K0 : Int → Prop) : Prop :=
 T.f_za _x1.Kind _x2.Kind
 (fun _n1 =>
 T.f_za _x1.Int _x2.Int
 (fun _n2 =>
 T.f_z1l _x1.Text _x2.Text
 (fun _n3 =>
 T.f_zb ([(PV.int .i64 _n1), (PV.int .i64 _n2), (PV.int .i64 _n3)])
 (fun _n4 _r1 =>
 K0 _n4))))
def F_za (T : Tab) (_n1 _n2 : Int) (K0 : Int → Prop) : Prop :=
 T.f_zc _n1
 (fun _b1 =>
 T.f_zc _n2
 (fun _b2 =>
 br _b1
 (br _b2
 (K0 0)
 (K0 (-1)))
 (br _b2
 (K0 1)
 (br (decide (_n1 < _n2))
 (K0 (-1))
 (br (decide (_n1 > _n2))
 (K0 1)
 (K0 0))))))
def F_zc (T : Tab) (_n1 : Int) (K0 : Bool → Prop) : Prop :=
 K0 (_n1 != _n1)
def F_z1l (T : Tab) (_s1 _s2 : ByteArray) (K0 : Int → Prop) : Prop :=
 T.f_zo _s1 _s2
 (fun _n1 =>
 K0 _n1)
def F_zo (T : Tab) (_s1 _s2 : ByteArray) (K0 : Int → Prop) : Prop :=
 T.f_zp _s1 _s2
 (fun _n1 =>
 K0 _n1)
def F_zp (T : Tab) (_s1 _s2 : ByteArray) (K0 : Int → Prop) : Prop :=
 K0 (qf6 _s1.data.toList _s2.data.toList)
abbrev YL_zb_0 := Int → Int → Int → (List PV) → (Int → (List PV) → Prop) → (Int → (List PV) → Prop) → Prop
def B_zb_0 (T : Tab) (R : YL_zb_0) (_n1 _n2 _n3 : Int) (_r1 : List PV) (K0 : Int → (List PV) → Prop) (K1 : Int → (List PV) → Prop) : Prop :=
 br (decide (_n3 < _n2))
 (0 ≤ _n3 ∧ _n3 < (_r1.length : Int) ∧
 cm (_r1.getD _n3.toNat .nilp) fun n6 =>
 br (n6 != _n1)
 (K0 n6 _r1)
 (R _n1 _n2 (W (_n3 + 1)) _r1 K0 K1))
 (K1 _n1 _r1)
def L_zb_0 (T : Tab) : Nat → YL_zb_0
  | 0 => fun _ _ _ _ _ _ => False
  | n + 1 => B_zb_0 T (L_zb_0 T n)
def F_zb (T : Tab) (_r1 : List PV) (K0 : Int → (List PV) → Prop) : Prop :=
 L_zb_0 T T.fuel 0 (_r1.length : Int) 0 _r1
 (fun n11 r12 =>
 K0 n11 r12)
 (fun n13 r14 =>
 K0 n13 r14)
abbrev YL_zn_2 := Arr → Arr → Arr → Int → Int → Arr → Int → Int → S_x5 → Prop → (Arr → Arr → Int → Int → S_x5 → Prop) → Prop
def B_zn_2 (T : Tab) (R : YL_zn_2) (_a1 _a2 _a3 : Arr) (_n1 _n2 : Int) (_a4 : Arr) (_n3 _n4 : Int) (_x1 : S_x5) (K0 : Prop) (K1 : Arr → Arr → Int → Int → S_x5 → Prop) : Prop :=
 br (decide (_n4 < _n3))
 (0 ≤ _n4 ∧ _n4 < (_a4.n : Int) ∧
 asA (_a4.g (_n4.toNat)) fun a13 =>
 T.f_zg _x1 _a2 a13
 (fun _b1 =>
 br _b1
 (K0 )
 (R _a1 _a2 _a3 _n1 _n2 _a4 _n3 (W (_n4 + 1)) _x1 K0 K1)))
 (K1 _a1 _a3 _n1 _n2 _x1)
def L_zn_2 (T : Tab) : Nat → YL_zn_2
  | 0 => fun _ _ _ _ _ _ _ _ _ _ _ => False
  | n + 1 => B_zn_2 T (L_zn_2 T n)
abbrev YL_zn_0 := Arr → Arr → Int → Int → S_x5 → Prop → Prop → Prop
def B_zn_0 (T : Tab) (R : YL_zn_0) (_a1 _a2 : Arr) (_n1 _n2 : Int) (_x1 : S_x5) (K0 : Prop) (K1 : Prop) : Prop :=
 br (decide (_n2 < _n1))
 (0 ≤ _n2 ∧ _n2 < (_a2.n : Int) ∧
 asA (_a2.g (_n2.toNat)) fun a34 =>
 (∀ i, i < _a1.n → cf (_a1.g i) = 1) ∧
 0 ≤ (0 : Int) ∧ (0 : Int) ≤ _n2 ∧ _n2 ≤ (_a1.n : Int) ∧
 L_zn_2 T T.fuel _a1 a34 _a2 _n1 _n2 ⟨_a1.m, (_n2.toNat - (0 : Int).toNat), (fun i => _a1.g ((0 : Int).toNat + i))⟩ (((_n2.toNat - (0 : Int).toNat) : Nat) : Int) 0 _x1
 (K0 )
 (fun a35 a36 n37 n38 x39 =>
 R a35 a36 n37 (W (n38 + 1)) x39 K0 K1))
 (K1 )
def L_zn_0 (T : Tab) : Nat → YL_zn_0
  | 0 => fun _ _ _ _ _ _ _ => False
  | n + 1 => B_zn_0 T (L_zn_0 T n)
def F_zn (T : Tab) (_x1 : S_x5) (_a1 : Arr) (K0 : Bool → Prop) : Prop :=
 L_zn_0 T T.fuel _a1 _a1 (_a1.n : Int) 0 _x1
 (K0 false)
 (K0 true)
abbrev YL_zg_0 := Arr → Arr → Int → Int → Arr → Prop → Prop → Prop
def B_zg_0 (T : Tab) (R : YL_zg_0) (_a1 _a2 : Arr) (_n1 _n2 : Int) (_a3 : Arr) (K0 : Prop) (K1 : Prop) : Prop :=
 br (decide (_n2 < _n1))
 (0 ≤ _n2 ∧ _n2 < (_a2.n : Int) ∧
 as_x2 (_a2.g (_n2.toNat)) fun x21 =>
 br x21.Unique
 (T.f_zl _a3 _a1 x21.Columns
 (fun _n3 =>
 br (_n3 == (0 : Int))
 (T.f_z1d x21.Columns _a3
 (fun _b1 _a4 =>
 br (!_b1)
 (K0 )
 (R _a1 _a2 _n1 (W (_n2 + 1)) _a4 K0 K1)))
 (R _a1 _a2 _n1 (W (_n2 + 1)) _a3 K0 K1)))
 (R _a1 _a2 _n1 (W (_n2 + 1)) _a3 K0 K1))
 (K1 )
def L_zg_0 (T : Tab) : Nat → YL_zg_0
  | 0 => fun _ _ _ _ _ _ _ => False
  | n + 1 => B_zg_0 T (L_zg_0 T n)
def F_zg (T : Tab) (_x1 : S_x5) (_a1 _a2 : Arr) (K0 : Bool → Prop) : Prop :=
 T.f_zl _a1 _a2 _x1.Key
 (fun _n1 =>
 br (_n1 == (0 : Int))
 (K0 true)
 (L_zg_0 T T.fuel _a2 _x1.Indexes (_x1.Indexes.n : Int) 0 _a1
 (K0 true)
 (K0 false)))
def F_z1d (T : Tab) (_a1 _a2 : Arr) (K0 : Bool → Arr → Prop) : Prop :=
 T.f_z1i _a1 _a2
 (fun _n1 _a3 =>
 K0 (decide (_n1 ≥ (0 : Int))) _a3)
abbrev YL_z1i_0 := Arr → Int → Int → Arr → (Int → Arr → Prop) → (Arr → Prop) → Prop
def B_z1i_0 (T : Tab) (R : YL_z1i_0) (_a1 : Arr) (_n1 _n2 : Int) (_a2 : Arr) (K0 : Int → Arr → Prop) (K1 : Arr → Prop) : Prop :=
 br (decide (_n2 < _n1))
 (0 ≤ _n2 ∧ _n2 < (_a1.n : Int) ∧
 cm (_a1.g (_n2.toNat)) fun n8 =>
 T.f_zh n8 _a2
 (fun _b1 _a3 =>
 br _b1
 (K0 _n2 _a3)
 (R _a1 _n1 (W (_n2 + 1)) _a3 K0 K1)))
 (K1 _a2)
def L_z1i_0 (T : Tab) : Nat → YL_z1i_0
  | 0 => fun _ _ _ _ _ _ => False
  | n + 1 => B_z1i_0 T (L_z1i_0 T n)
def F_z1i (T : Tab) (_a1 _a2 : Arr) (K0 : Int → Arr → Prop) : Prop :=
 L_z1i_0 T T.fuel _a1 (_a1.n : Int) 0 _a2
 (fun n15 a16 =>
 K0 n15 a16)
 (fun a17 =>
 K0 (-1) a17)
def F_zh (T : Tab) (_n1 : Int) (_a1 : Arr) (K0 : Bool → Arr → Prop) : Prop :=
 0 ≤ _n1 ∧ _n1 < (_a1.n : Int) ∧
 as_x6 (_a1.g (_n1.toNat)) fun x1 =>
 T.f_zi x1
 (fun _b1 =>
 K0 _b1 _a1)
abbrev YL_z16_2 := Int → Arr → Int → S_x0 → S_x4 → Prop → (Int → Arr → S_x0 → S_x4 → Prop) → Prop
def B_z16_2 (T : Tab) (R : YL_z16_2) (_n1 : Int) (_a1 : Arr) (_n2 : Int) (_x1 : S_x0) (_x2 : S_x4) (K0 : Prop) (K1 : Int → Arr → S_x0 → S_x4 → Prop) : Prop :=
 br (decide (_n2 < (_a1.n : Int)))
 (0 ≤ _n1 ∧ _n1 < (_x1.Tables.n : Int) ∧
 as_x5 (_x1.Tables.g (_n1.toNat)) fun x20 =>
 0 ≤ _n2 ∧ _n2 < (_a1.n : Int) ∧
 asA (_a1.g (_n2.toNat)) fun a21 =>
 T.f_z17 x20 a21
 (fun _b1 =>
 br (!_b1)
 (K0 )
 (br (decide (_n2 > (0 : Int)))
 (0 ≤ (W (_n2 - (1 : Int))) ∧ (W (_n2 - (1 : Int))) < (_a1.n : Int) ∧
 asA (_a1.g ((W (_n2 - (1 : Int))).toNat)) fun a23 =>
 0 ≤ _n2 ∧ _n2 < (_a1.n : Int) ∧
 asA (_a1.g (_n2.toNat)) fun a24 =>
 0 ≤ _n1 ∧ _n1 < (_x1.Tables.n : Int) ∧
 as_x5 (_x1.Tables.g (_n1.toNat)) fun x25 =>
 T.f_z15 a23 a24 x25.Key
 (fun _n3 =>
 br (decide (_n3 ≥ (0 : Int)))
 (K0 )
 (R _n1 _a1 (W (_n2 + 1)) _x1 _x2 K0 K1)))
 (R _n1 _a1 (W (_n2 + 1)) _x1 _x2 K0 K1))))
 (K1 _n1 _a1 _x1 _x2)
def L_z16_2 (T : Tab) : Nat → YL_z16_2
  | 0 => fun _ _ _ _ _ _ _ => False
  | n + 1 => B_z16_2 T (L_z16_2 T n)
abbrev YL_z16_0 := Int → S_x0 → S_x4 → Prop → Prop → Prop
def B_z16_0 (T : Tab) (R : YL_z16_0) (_n1 : Int) (_x1 : S_x0) (_x2 : S_x4) (K0 : Prop) (K1 : Prop) : Prop :=
 br (decide (_n1 < (_x1.Tables.n : Int)))
 (0 ≤ _n1 ∧ _n1 < (_x2.Tables.n : Int) ∧
 asA (_x2.Tables.g (_n1.toNat)) fun a46 =>
 L_z16_2 T T.fuel _n1 a46 0 _x1 _x2
 (K0 )
 (fun n47 a48 x49 x50 =>
 0 ≤ n47 ∧ n47 < (x49.Tables.n : Int) ∧
 as_x5 (x49.Tables.g (n47.toNat)) fun x51 =>
 T.f_z18 x51 a48
 (fun _b1 =>
 br (!_b1)
 (K0 )
 (R (W (n47 + 1)) x49 x50 K0 K1))))
 (K1 )
def L_z16_0 (T : Tab) : Nat → YL_z16_0
  | 0 => fun _ _ _ _ _ => False
  | n + 1 => B_z16_0 T (L_z16_0 T n)
def F_z16 (T : Tab) (_x1 : S_x0) (_x2 : S_x4) (K0 : Bool → Prop) : Prop :=
 T.f_zz _x1
 (fun _b1 =>
 br (!_b1)
 (K0 false)
 (br ((_x2.Tables.n : Int) != (_x1.Tables.n : Int))
 (K0 false)
 (L_z16_0 T T.fuel 0 _x1 _x2
 (K0 false)
 (K0 true))))
abbrev YL_zz_2 := Int → S_x0 → (List PV) → (List PV) → Prop → ((List PV) → (List PV) → Prop) → Prop
def B_zz_2 (T : Tab) (R : YL_zz_2) (_n1 : Int) (_x1 : S_x0) (_r1 _r2 : List PV) (K0 : Prop) (K1 : (List PV) → (List PV) → Prop) : Prop :=
 br (decide (_n1 < (_x1.Procs.n : Int)))
 (0 ≤ _n1 ∧ _n1 < (_x1.Procs.n : Int) ∧
 as_x7 (_x1.Procs.g (_n1.toNat)) fun x22 =>
 T.f_zw x22
 (fun _b1 =>
 br (!_b1)
 (K0 )
 (0 ≤ _n1 ∧ _n1 < (_x1.Procs.n : Int) ∧
 as_x7 (_x1.Procs.g (_n1.toNat)) fun x24 =>
 (_r2.length + 1) * 16 ≤ 140737488355328 ∧
 R (W (_n1 + 1)) _x1 _r1 (_r2 ++ ([(PV.str x24.Name)])) K0 K1)))
 (K1 _r1 _r2)
def L_zz_2 (T : Tab) : Nat → YL_zz_2
  | 0 => fun _ _ _ _ _ _ => False
  | n + 1 => B_zz_2 T (L_zz_2 T n)
abbrev YL_zz_0 := Int → S_x0 → (List PV) → Prop → (S_x0 → (List PV) → Prop) → Prop
def B_zz_0 (T : Tab) (R : YL_zz_0) (_n1 : Int) (_x1 : S_x0) (_r1 : List PV) (K0 : Prop) (K1 : S_x0 → (List PV) → Prop) : Prop :=
 br (decide (_n1 < (_x1.Tables.n : Int)))
 (0 ≤ _n1 ∧ _n1 < (_x1.Tables.n : Int) ∧
 as_x5 (_x1.Tables.g (_n1.toNat)) fun x7 =>
 T.f_zx x7
 (fun _b1 =>
 br (!_b1)
 (K0 )
 (0 ≤ _n1 ∧ _n1 < (_x1.Tables.n : Int) ∧
 as_x5 (_x1.Tables.g (_n1.toNat)) fun x9 =>
 (_r1.length + 1) * 16 ≤ 140737488355328 ∧
 R (W (_n1 + 1)) _x1 (_r1 ++ ([(PV.str x9.Name)])) K0 K1)))
 (K1 _x1 _r1)
def L_zz_0 (T : Tab) : Nat → YL_zz_0
  | 0 => fun _ _ _ _ _ => False
  | n + 1 => B_zz_0 T (L_zz_0 T n)
def F_zz (T : Tab) (_x1 : S_x0) (K0 : Bool → Prop) : Prop :=
 br (decide ((_x1.Tables.n : Int) > (8 : Int)))
 (K0 false)
 (br (decide ((_x1.Procs.n : Int) > (16 : Int)))
 (K0 false)
 (L_zz_0 T T.fuel 0 _x1 ([])
 (K0 false)
 (fun x13 r14 =>
 L_zz_2 T T.fuel 0 x13 r14 ([])
 (K0 false)
 (fun r29 r30 =>
 T.f_z11 r29
 (fun _b1 _r1 =>
 T.f_z11 r30
 (fun _b2 _r2 =>
 br _b1
 (K0 _b2)
 (K0 false)))))))
abbrev YL_zx_4 := Bool → Int → S_x5 → (List PV) → Prop → (Bool → (List PV) → Prop) → Prop
def B_zx_4 (T : Tab) (R : YL_zx_4) (_b1 : Bool) (_n1 : Int) (_x1 : S_x5) (_r1 : List PV) (K0 : Prop) (K1 : Bool → (List PV) → Prop) : Prop :=
 br (decide (_n1 < (_x1.Indexes.n : Int)))
 (0 ≤ _n1 ∧ _n1 < (_x1.Indexes.n : Int) ∧
 as_x2 (_x1.Indexes.g (_n1.toNat)) fun x46 =>
 T.f_z12 x46.Columns (_x1.Columns.n : Int)
 (fun _b2 =>
 br (!_b2)
 (K0 )
 (0 ≤ _n1 ∧ _n1 < (_x1.Indexes.n : Int) ∧
 as_x2 (_x1.Indexes.g (_n1.toNat)) fun x48 =>
 (_r1.length + 1) * 16 ≤ 140737488355328 ∧
 R _b1 (W (_n1 + 1)) _x1 (_r1 ++ ([(PV.str x48.Name)])) K0 K1)))
 (K1 _b1 _r1)
def L_zx_4 (T : Tab) : Nat → YL_zx_4
  | 0 => fun _ _ _ _ _ _ => False
  | n + 1 => B_zx_4 T (L_zx_4 T n)
abbrev YL_zx_2 := Bool → Int → S_x5 → Prop → (Bool → S_x5 → Prop) → Prop
def B_zx_2 (T : Tab) (R : YL_zx_2) (_b1 : Bool) (_n1 : Int) (_x1 : S_x5) (K0 : Prop) (K1 : Bool → S_x5 → Prop) : Prop :=
 br (decide (_n1 < (_x1.Key.n : Int)))
 (0 ≤ _n1 ∧ _n1 < (_x1.Key.n : Int) ∧
 cm (_x1.Key.g (_n1.toNat)) fun n28 =>
 0 ≤ n28 ∧ n28 < (_x1.Columns.n : Int) ∧
 as_x1 (_x1.Columns.g (n28.toNat)) fun x29 =>
 br (!x29.NotNull)
 (K0 )
 (0 ≤ _n1 ∧ _n1 < (_x1.Key.n : Int) ∧
 cm (_x1.Key.g (_n1.toNat)) fun n30 =>
 br (n30 == _x1.Part)
 (R true (W (_n1 + 1)) _x1 K0 K1)
 (R _b1 (W (_n1 + 1)) _x1 K0 K1)))
 (K1 _b1 _x1)
def L_zx_2 (T : Tab) : Nat → YL_zx_2
  | 0 => fun _ _ _ _ _ => False
  | n + 1 => B_zx_2 T (L_zx_2 T n)
abbrev YL_zx_0 := Int → S_x5 → (List PV) → Prop → (S_x5 → (List PV) → Prop) → Prop
def B_zx_0 (T : Tab) (R : YL_zx_0) (_n1 : Int) (_x1 : S_x5) (_r1 : List PV) (K0 : Prop) (K1 : S_x5 → (List PV) → Prop) : Prop :=
 br (decide (_n1 < (_x1.Columns.n : Int)))
 (0 ≤ _n1 ∧ _n1 < (_x1.Columns.n : Int) ∧
 as_x1 (_x1.Columns.g (_n1.toNat)) fun x8 =>
 (_r1.length + 1) * 16 ≤ 140737488355328 ∧
 0 ≤ _n1 ∧ _n1 < (_x1.Columns.n : Int) ∧
 as_x1 (_x1.Columns.g (_n1.toNat)) fun x9 =>
 br (decide (x9.Type_ < (1 : Int)))
 (K0 )
 (0 ≤ _n1 ∧ _n1 < (_x1.Columns.n : Int) ∧
 as_x1 (_x1.Columns.g (_n1.toNat)) fun x10 =>
 br (decide (x10.Type_ > (3 : Int)))
 (K0 )
 (R (W (_n1 + 1)) _x1 (_r1 ++ ([(PV.str x8.Name)])) K0 K1)))
 (K1 _x1 _r1)
def L_zx_0 (T : Tab) : Nat → YL_zx_0
  | 0 => fun _ _ _ _ _ => False
  | n + 1 => B_zx_0 T (L_zx_0 T n)
def F_zx (T : Tab) (_x1 : S_x5) (K0 : Bool → Prop) : Prop :=
 T.f_zy _x1.Name
 (fun _b1 =>
 br (!_b1)
 (K0 false)
 (br (decide ((_x1.Columns.n : Int) < (1 : Int)))
 (K0 false)
 (br (decide ((_x1.Columns.n : Int) > (16 : Int)))
 (K0 false)
 (br (decide ((_x1.Indexes.n : Int) > (4 : Int)))
 (K0 false)
 (L_zx_0 T T.fuel 0 _x1 ([])
 (K0 false)
 (fun x14 r15 =>
 T.f_z11 r15
 (fun _b2 _r1 =>
 T.f_z12 x14.Key (x14.Columns.n : Int)
 (fun _b3 =>
 br (!_b2)
 (K0 false)
 (br (!_b3)
 (K0 false)
 (L_zx_2 T T.fuel false 0 x14
 (K0 false)
 (fun b37 x38 =>
 L_zx_4 T T.fuel b37 0 x38 ([])
 (K0 false)
 (fun b53 r54 =>
 T.f_z11 r54
 (fun _b4 _r2 =>
 br b53
 (K0 _b4)
 (K0 false))))))))))))))
abbrev YL_zy_0 := ByteArray → Int → Prop → Prop → Prop
def B_zy_0 (T : Tab) (R : YL_zy_0) (_s1 : ByteArray) (_n1 : Int) (K0 : Prop) (K1 : Prop) : Prop :=
 br (decide (_n1 < (_s1.size : Int)))
 (0 ≤ _n1 ∧ _n1 < (_s1.size : Int) ∧
 br ((bh _s1 (_n1).toNat) != (95 : Int))
 (0 ≤ _n1 ∧ _n1 < (_s1.size : Int) ∧
 br (decide ((bh _s1 (_n1).toNat) < (48 : Int)))
 (0 ≤ _n1 ∧ _n1 < (_s1.size : Int) ∧
 br (decide ((bh _s1 (_n1).toNat) < (97 : Int)))
 (K0 )
 (0 ≤ _n1 ∧ _n1 < (_s1.size : Int) ∧
 br (decide ((bh _s1 (_n1).toNat) > (122 : Int)))
 (K0 )
 (R _s1 (W (_n1 + 1)) K0 K1)))
 (0 ≤ _n1 ∧ _n1 < (_s1.size : Int) ∧
 br (decide ((bh _s1 (_n1).toNat) > (57 : Int)))
 (0 ≤ _n1 ∧ _n1 < (_s1.size : Int) ∧
 br (decide ((bh _s1 (_n1).toNat) < (97 : Int)))
 (K0 )
 (0 ≤ _n1 ∧ _n1 < (_s1.size : Int) ∧
 br (decide ((bh _s1 (_n1).toNat) > (122 : Int)))
 (K0 )
 (R _s1 (W (_n1 + 1)) K0 K1)))
 (R _s1 (W (_n1 + 1)) K0 K1)))
 (R _s1 (W (_n1 + 1)) K0 K1))
 (K1 )
def L_zy_0 (T : Tab) : Nat → YL_zy_0
  | 0 => fun _ _ _ _ => False
  | n + 1 => B_zy_0 T (L_zy_0 T n)
def F_zy (T : Tab) (_s1 : ByteArray) (K0 : Bool → Prop) : Prop :=
 br (decide ((_s1.size : Int) < (1 : Int)))
 (K0 false)
 (br (decide ((_s1.size : Int) > (16 : Int)))
 (K0 false)
 (0 ≤ (0 : Int) ∧ (0 : Int) < (_s1.size : Int) ∧
 br (decide ((bh _s1 (0 : Int).toNat) < (97 : Int)))
 (K0 false)
 (0 ≤ (0 : Int) ∧ (0 : Int) < (_s1.size : Int) ∧
 br (decide ((bh _s1 (0 : Int).toNat) > (122 : Int)))
 (K0 false)
 (L_zy_0 T T.fuel _s1 0
 (K0 false)
 (K0 true)))))
abbrev YL_z11_2 := Int → Int → (List PV) → ((List PV) → Prop) → (Int → (List PV) → Prop) → Prop
def B_z11_2 (T : Tab) (R : YL_z11_2) (_n1 _n2 : Int) (_r1 : List PV) (K0 : (List PV) → Prop) (K1 : Int → (List PV) → Prop) : Prop :=
 br (decide (_n2 < _n1))
 (0 ≤ _n2 ∧ _n2 < (_r1.length : Int) ∧
 asS (_r1.getD _n2.toNat .nilp) fun s8 =>
 0 ≤ _n1 ∧ _n1 < (_r1.length : Int) ∧
 asS (_r1.getD _n1.toNat .nilp) fun s9 =>
 br (s8.toList == s9.toList)
 (K0 _r1)
 (R _n1 (W (_n2 + 1)) _r1 K0 K1))
 (K1 _n1 _r1)
def L_z11_2 (T : Tab) : Nat → YL_z11_2
  | 0 => fun _ _ _ _ _ => False
  | n + 1 => B_z11_2 T (L_z11_2 T n)
abbrev YL_z11_0 := Int → (List PV) → ((List PV) → Prop) → ((List PV) → Prop) → Prop
def B_z11_0 (T : Tab) (R : YL_z11_0) (_n1 : Int) (_r1 : List PV) (K0 : (List PV) → Prop) (K1 : (List PV) → Prop) : Prop :=
 br (decide (_n1 < (_r1.length : Int)))
 (0 ≤ _n1 ∧ _n1 < (_r1.length : Int) ∧
 asS (_r1.getD _n1.toNat .nilp) fun s18 =>
 T.f_zy s18
 (fun _b1 =>
 br (!_b1)
 (K0 _r1)
 (L_z11_2 T T.fuel _n1 0 _r1
 (fun r20 =>
 K0 r20)
 (fun n21 r22 =>
 R (W (n21 + 1)) r22 K0 K1))))
 (K1 _r1)
def L_z11_0 (T : Tab) : Nat → YL_z11_0
  | 0 => fun _ _ _ _ => False
  | n + 1 => B_z11_0 T (L_z11_0 T n)
def F_z11 (T : Tab) (_r1 : List PV) (K0 : Bool → (List PV) → Prop) : Prop :=
 L_z11_0 T T.fuel 0 _r1
 (fun r25 =>
 K0 false r25)
 (fun r26 =>
 K0 true r26)
abbrev YL_z12_2 := Arr → Int → Int → Int → Prop → (Arr → Int → Int → Prop) → Prop
def B_z12_2 (T : Tab) (R : YL_z12_2) (_a1 : Arr) (_n1 _n2 _n3 : Int) (K0 : Prop) (K1 : Arr → Int → Int → Prop) : Prop :=
 br (decide (_n3 < _n2))
 (0 ≤ _n3 ∧ _n3 < (_a1.n : Int) ∧
 cm (_a1.g (_n3.toNat)) fun n9 =>
 0 ≤ _n2 ∧ _n2 < (_a1.n : Int) ∧
 cm (_a1.g (_n2.toNat)) fun n10 =>
 br (n9 == n10)
 (K0 )
 (R _a1 _n1 _n2 (W (_n3 + 1)) K0 K1))
 (K1 _a1 _n1 _n2)
def L_z12_2 (T : Tab) : Nat → YL_z12_2
  | 0 => fun _ _ _ _ _ _ => False
  | n + 1 => B_z12_2 T (L_z12_2 T n)
abbrev YL_z12_0 := Arr → Int → Int → Prop → Prop → Prop
def B_z12_0 (T : Tab) (R : YL_z12_0) (_a1 : Arr) (_n1 _n2 : Int) (K0 : Prop) (K1 : Prop) : Prop :=
 br (decide (_n2 < (_a1.n : Int)))
 (0 ≤ _n2 ∧ _n2 < (_a1.n : Int) ∧
 cm (_a1.g (_n2.toNat)) fun n21 =>
 br (decide (n21 < (0 : Int)))
 (K0 )
 (0 ≤ _n2 ∧ _n2 < (_a1.n : Int) ∧
 cm (_a1.g (_n2.toNat)) fun n22 =>
 br (decide (n22 ≥ _n1))
 (K0 )
 (L_z12_2 T T.fuel _a1 _n1 _n2 0
 (K0 )
 (fun a23 n24 n25 =>
 R a23 n24 (W (n25 + 1)) K0 K1))))
 (K1 )
def L_z12_0 (T : Tab) : Nat → YL_z12_0
  | 0 => fun _ _ _ _ _ => False
  | n + 1 => B_z12_0 T (L_z12_0 T n)
def F_z12 (T : Tab) (_a1 : Arr) (_n1 : Int) (K0 : Bool → Prop) : Prop :=
 br (decide ((_a1.n : Int) < (1 : Int)))
 (K0 false)
 (br (decide ((_a1.n : Int) > (8 : Int)))
 (K0 false)
 (L_z12_0 T T.fuel _a1 _n1 0
 (K0 false)
 (K0 true)))
abbrev YL_zw_2 := Int → S_x7 → (List PV) → Prop → ((List PV) → Prop) → Prop
def B_zw_2 (T : Tab) (R : YL_zw_2) (_n1 : Int) (_x1 : S_x7) (_r1 : List PV) (K0 : Prop) (K1 : (List PV) → Prop) : Prop :=
 br (decide (_n1 < (_x1.Body.n : Int)))
 (0 ≤ _n1 ∧ _n1 < (_x1.Body.n : Int) ∧
 asS (_x1.Body.g (_n1.toNat)) fun s23 =>
 br (decide ((s23.size : Int) < (1 : Int)))
 (K0 )
 (0 ≤ _n1 ∧ _n1 < (_x1.Body.n : Int) ∧
 asS (_x1.Body.g (_n1.toNat)) fun s24 =>
 br (decide ((s24.size : Int) > (1000 : Int)))
 (K0 )
 (R (W (_n1 + 1)) _x1 _r1 K0 K1)))
 (K1 _r1)
def L_zw_2 (T : Tab) : Nat → YL_zw_2
  | 0 => fun _ _ _ _ _ => False
  | n + 1 => B_zw_2 T (L_zw_2 T n)
abbrev YL_zw_0 := Int → S_x7 → (List PV) → Prop → (S_x7 → (List PV) → Prop) → Prop
def B_zw_0 (T : Tab) (R : YL_zw_0) (_n1 : Int) (_x1 : S_x7) (_r1 : List PV) (K0 : Prop) (K1 : S_x7 → (List PV) → Prop) : Prop :=
 br (decide (_n1 < (_x1.Params.n : Int)))
 (0 ≤ _n1 ∧ _n1 < (_x1.Params.n : Int) ∧
 as_x3 (_x1.Params.g (_n1.toNat)) fun x10 =>
 (_r1.length + 1) * 16 ≤ 140737488355328 ∧
 0 ≤ _n1 ∧ _n1 < (_x1.Params.n : Int) ∧
 as_x3 (_x1.Params.g (_n1.toNat)) fun x11 =>
 br (decide (x11.Type_ < (1 : Int)))
 (K0 )
 (0 ≤ _n1 ∧ _n1 < (_x1.Params.n : Int) ∧
 as_x3 (_x1.Params.g (_n1.toNat)) fun x12 =>
 br (decide (x12.Type_ > (3 : Int)))
 (K0 )
 (R (W (_n1 + 1)) _x1 (_r1 ++ ([(PV.str x10.Name)])) K0 K1)))
 (K1 _x1 _r1)
def L_zw_0 (T : Tab) : Nat → YL_zw_0
  | 0 => fun _ _ _ _ _ => False
  | n + 1 => B_zw_0 T (L_zw_0 T n)
def F_zw (T : Tab) (_x1 : S_x7) (K0 : Bool → Prop) : Prop :=
 T.f_zy _x1.Name
 (fun _b1 =>
 T.f_z10 _x1.Rows 0 1048576
 (fun _b2 =>
 T.f_z10 _x1.Bytes 0 1048576
 (fun _b3 =>
 br (!_b1)
 (K0 false)
 (br (!_b2)
 (K0 false)
 (br (!_b3)
 (K0 false)
 (br (decide ((_x1.Params.n : Int) > (8 : Int)))
 (K0 false)
 (br (decide ((_x1.Body.n : Int) < (1 : Int)))
 (K0 false)
 (br (decide ((_x1.Body.n : Int) > (8 : Int)))
 (K0 false)
 (L_zw_0 T T.fuel 0 _x1 ([])
 (K0 false)
 (fun x16 r17 =>
 L_zw_2 T T.fuel 0 x16 r17
 (K0 false)
 (fun r28 =>
 T.f_z11 r28
 (fun _b4 _r1 =>
 K0 _b4))))))))))))
def F_z10 (T : Tab) (_n1 _n2 _n3 : Int) (K0 : Bool → Prop) : Prop :=
 br (decide (_n1 ≥ _n2))
 (K0 (decide (_n1 ≤ _n3)))
 (K0 false)
abbrev YL_z17_0 := Arr → Int → S_x5 → Prop → (Arr → S_x5 → Prop) → Prop
def B_z17_0 (T : Tab) (R : YL_z17_0) (_a1 : Arr) (_n1 : Int) (_x1 : S_x5) (K0 : Prop) (K1 : Arr → S_x5 → Prop) : Prop :=
 br (decide (_n1 < (_a1.n : Int)))
 (0 ≤ _n1 ∧ _n1 < (_a1.n : Int) ∧
 as_x6 (_a1.g (_n1.toNat)) fun x12 =>
 T.f_zv x12
 (fun _b1 =>
 br (!_b1)
 (K0 )
 (0 ≤ _n1 ∧ _n1 < (_a1.n : Int) ∧
 as_x6 (_a1.g (_n1.toNat)) fun x14 =>
 br (x14.Kind != (0 : Int))
 (0 ≤ _n1 ∧ _n1 < (_a1.n : Int) ∧
 as_x6 (_a1.g (_n1.toNat)) fun x15 =>
 0 ≤ _n1 ∧ _n1 < (_x1.Columns.n : Int) ∧
 as_x1 (_x1.Columns.g (_n1.toNat)) fun x16 =>
 br (x15.Kind != x16.Type_)
 (K0 )
 (R _a1 (W (_n1 + 1)) _x1 K0 K1))
 (R _a1 (W (_n1 + 1)) _x1 K0 K1))))
 (K1 _a1 _x1)
def L_z17_0 (T : Tab) : Nat → YL_z17_0
  | 0 => fun _ _ _ _ _ => False
  | n + 1 => B_z17_0 T (L_z17_0 T n)
def F_z17 (T : Tab) (_x1 : S_x5) (_a1 : Arr) (K0 : Bool → Prop) : Prop :=
 br ((_a1.n : Int) != (_x1.Columns.n : Int))
 (K0 false)
 (L_z17_0 T T.fuel _a1 0 _x1
 (K0 false)
 (fun a23 x24 =>
 T.f_z14 x24 a23
 (fun _b1 =>
 K0 (!_b1))))
def F_zv (T : Tab) (_x1 : S_x6) (K0 : Bool → Prop) : Prop :=
 br (_x1.Kind == (0 : Int))
 (br (_x1.Int == (0 : Int))
 (K0 (_x1.Text.toList == (ByteArray.mk #[]).toList))
 (K0 false))
 (br (_x1.Kind == (1 : Int))
 (br (decide (_x1.Int ≥ ((-4611686018427387904) : Int)))
 (br (decide (_x1.Int ≤ (4611686018427387904 : Int)))
 (K0 (_x1.Text.toList == (ByteArray.mk #[]).toList))
 (K0 false))
 (K0 false))
 (br (_x1.Kind == (2 : Int))
 (br (_x1.Int == (0 : Int))
 (K0 (_x1.Text.toList == (ByteArray.mk #[]).toList))
 (br (_x1.Int == (1 : Int))
 (K0 (_x1.Text.toList == (ByteArray.mk #[]).toList))
 (K0 false)))
 (br (_x1.Kind == (3 : Int))
 (br (_x1.Int == (0 : Int))
 (K0 (decide ((_x1.Text.size : Int) ≤ (64 : Int))))
 (K0 false))
 (K0 false))))
abbrev YL_z14_2 := Arr → Int → S_x5 → Prop → Prop → Prop
def B_z14_2 (T : Tab) (R : YL_z14_2) (_a1 : Arr) (_n1 : Int) (_x1 : S_x5) (K0 : Prop) (K1 : Prop) : Prop :=
 br (decide (_n1 < (_x1.Key.n : Int)))
 (0 ≤ _n1 ∧ _n1 < (_x1.Key.n : Int) ∧
 cm (_x1.Key.g (_n1.toNat)) fun n24 =>
 0 ≤ n24 ∧ n24 < (_a1.n : Int) ∧
 as_x6 (_a1.g (n24.toNat)) fun x25 =>
 br (x25.Kind == (0 : Int))
 (K0 )
 (R _a1 (W (_n1 + 1)) _x1 K0 K1))
 (K1 )
def L_z14_2 (T : Tab) : Nat → YL_z14_2
  | 0 => fun _ _ _ _ _ => False
  | n + 1 => B_z14_2 T (L_z14_2 T n)
abbrev YL_z14_0 := Arr → Int → S_x5 → Prop → (Arr → S_x5 → Prop) → Prop
def B_z14_0 (T : Tab) (R : YL_z14_0) (_a1 : Arr) (_n1 : Int) (_x1 : S_x5) (K0 : Prop) (K1 : Arr → S_x5 → Prop) : Prop :=
 br (decide (_n1 < (_a1.n : Int)))
 (0 ≤ _n1 ∧ _n1 < (_a1.n : Int) ∧
 as_x6 (_a1.g (_n1.toNat)) fun x9 =>
 br (x9.Kind == (0 : Int))
 (0 ≤ _n1 ∧ _n1 < (_x1.Columns.n : Int) ∧
 as_x1 (_x1.Columns.g (_n1.toNat)) fun x10 =>
 br x10.NotNull
 (K0 )
 (R _a1 (W (_n1 + 1)) _x1 K0 K1))
 (R _a1 (W (_n1 + 1)) _x1 K0 K1))
 (K1 _a1 _x1)
def L_z14_0 (T : Tab) : Nat → YL_z14_0
  | 0 => fun _ _ _ _ _ => False
  | n + 1 => B_z14_0 T (L_z14_0 T n)
def F_z14 (T : Tab) (_x1 : S_x5) (_a1 : Arr) (K0 : Bool → Prop) : Prop :=
 L_z14_0 T T.fuel _a1 0 _x1
 (K0 true)
 (fun a17 x18 =>
 L_z14_2 T T.fuel a17 0 x18
 (K0 true)
 (K0 false))
abbrev YL_z15_0 := Arr → Arr → Arr → Int → (Int → Prop) → Prop → Prop
def B_z15_0 (T : Tab) (R : YL_z15_0) (_a1 _a2 _a3 : Arr) (_n1 : Int) (K0 : Int → Prop) (K1 : Prop) : Prop :=
 br (decide (_n1 < (_a3.n : Int)))
 (0 ≤ _n1 ∧ _n1 < (_a3.n : Int) ∧
 cm (_a3.g (_n1.toNat)) fun n10 =>
 0 ≤ n10 ∧ n10 < (_a1.n : Int) ∧
 as_x6 (_a1.g (n10.toNat)) fun x11 =>
 0 ≤ _n1 ∧ _n1 < (_a3.n : Int) ∧
 cm (_a3.g (_n1.toNat)) fun n12 =>
 0 ≤ n12 ∧ n12 < (_a2.n : Int) ∧
 as_x6 (_a2.g (n12.toNat)) fun x13 =>
 T.f_zu x11 x13
 (fun _n2 =>
 br (_n2 != (0 : Int))
 (K0 _n2)
 (R _a1 _a2 _a3 (W (_n1 + 1)) K0 K1)))
 (K1 )
def L_z15_0 (T : Tab) : Nat → YL_z15_0
  | 0 => fun _ _ _ _ _ _ => False
  | n + 1 => B_z15_0 T (L_z15_0 T n)
def F_z15 (T : Tab) (_a1 _a2 _a3 : Arr) (K0 : Int → Prop) : Prop :=
 L_z15_0 T T.fuel _a1 _a2 _a3 0
 (fun n19 =>
 K0 n19)
 (K0 0)
def F_zu (T : Tab) (_x1 _x2 : S_x6) (K0 : Int → Prop) : Prop :=
 br ((_x1.Kind == _x2.Kind) && ((_x1.Int == _x2.Int) && (_x1.Text.toList == _x2.Text.toList)))
 (K0 0)
 (br (decide (_x1.Kind < _x2.Kind))
 (K0 (-1))
 (br (_x1.Kind == _x2.Kind)
 (br (decide (_x1.Int < _x2.Int))
 (K0 (-1))
 (br (_x1.Kind == _x2.Kind)
 (br (_x1.Int == _x2.Int)
 (br (Op.bytesLess _x1.Text.toList _x2.Text.toList)
 (K0 (-1))
 (K0 1))
 (K0 1))
 (K0 1)))
 (br (_x1.Kind == _x2.Kind)
 (br (_x1.Int == _x2.Int)
 (br (Op.bytesLess _x1.Text.toList _x2.Text.toList)
 (K0 (-1))
 (K0 1))
 (K0 1))
 (K0 1))))
abbrev YL_z18_2 := Arr → Int → Int → S_x5 → Prop → (Arr → Int → S_x5 → Prop) → Prop
def B_z18_2 (T : Tab) (R : YL_z18_2) (_a1 : Arr) (_n1 _n2 : Int) (_x1 : S_x5) (K0 : Prop) (K1 : Arr → Int → S_x5 → Prop) : Prop :=
 br (decide (_n2 < _n1))
 (0 ≤ _n1 ∧ _n1 < (_a1.n : Int) ∧
 asA (_a1.g (_n1.toNat)) fun a8 =>
 0 ≤ _n2 ∧ _n2 < (_a1.n : Int) ∧
 asA (_a1.g (_n2.toNat)) fun a9 =>
 T.f_z19 _x1 a8 a9
 (fun _b1 =>
 br _b1
 (K0 )
 (R _a1 _n1 (W (_n2 + 1)) _x1 K0 K1)))
 (K1 _a1 _n1 _x1)
def L_z18_2 (T : Tab) : Nat → YL_z18_2
  | 0 => fun _ _ _ _ _ _ => False
  | n + 1 => B_z18_2 T (L_z18_2 T n)
abbrev YL_z18_0 := Arr → Int → S_x5 → Prop → Prop → Prop
def B_z18_0 (T : Tab) (R : YL_z18_0) (_a1 : Arr) (_n1 : Int) (_x1 : S_x5) (K0 : Prop) (K1 : Prop) : Prop :=
 br (decide (_n1 < (_a1.n : Int)))
 (L_z18_2 T T.fuel _a1 _n1 0 _x1
 (K0 )
 (fun a21 n22 x23 =>
 R a21 (W (n22 + 1)) x23 K0 K1))
 (K1 )
def L_z18_0 (T : Tab) : Nat → YL_z18_0
  | 0 => fun _ _ _ _ _ => False
  | n + 1 => B_z18_0 T (L_z18_0 T n)
def F_z18 (T : Tab) (_x1 : S_x5) (_a1 : Arr) (K0 : Bool → Prop) : Prop :=
 L_z18_0 T T.fuel _a1 0 _x1
 (K0 false)
 (K0 true)
abbrev YL_z19_0 := Arr → Arr → Int → S_x5 → Prop → Prop → Prop
def B_z19_0 (T : Tab) (R : YL_z19_0) (_a1 _a2 : Arr) (_n1 : Int) (_x1 : S_x5) (K0 : Prop) (K1 : Prop) : Prop :=
 br (decide (_n1 < (_x1.Indexes.n : Int)))
 (0 ≤ _n1 ∧ _n1 < (_x1.Indexes.n : Int) ∧
 as_x2 (_x1.Indexes.g (_n1.toNat)) fun x17 =>
 T.f_z15 _a1 _a2 x17.Columns
 (fun _n2 =>
 T.f_z1a _a1 x17.Columns
 (fun _b1 =>
 br x17.Unique
 (br (_n2 == (0 : Int))
 (br _b1
 (K0 )
 (R _a1 _a2 (W (_n1 + 1)) _x1 K0 K1))
 (R _a1 _a2 (W (_n1 + 1)) _x1 K0 K1))
 (R _a1 _a2 (W (_n1 + 1)) _x1 K0 K1))))
 (K1 )
def L_z19_0 (T : Tab) : Nat → YL_z19_0
  | 0 => fun _ _ _ _ _ _ => False
  | n + 1 => B_z19_0 T (L_z19_0 T n)
def F_z19 (T : Tab) (_x1 : S_x5) (_a1 _a2 : Arr) (K0 : Bool → Prop) : Prop :=
 T.f_z15 _a1 _a2 _x1.Key
 (fun _n1 =>
 br (_n1 == (0 : Int))
 (K0 true)
 (L_z19_0 T T.fuel _a1 _a2 0 _x1
 (K0 true)
 (K0 false)))
abbrev YL_z1a_0 := Arr → Arr → Int → Prop → Prop → Prop
def B_z1a_0 (T : Tab) (R : YL_z1a_0) (_a1 _a2 : Arr) (_n1 : Int) (K0 : Prop) (K1 : Prop) : Prop :=
 br (decide (_n1 < (_a2.n : Int)))
 (0 ≤ _n1 ∧ _n1 < (_a2.n : Int) ∧
 cm (_a2.g (_n1.toNat)) fun n6 =>
 0 ≤ n6 ∧ n6 < (_a1.n : Int) ∧
 as_x6 (_a1.g (n6.toNat)) fun x7 =>
 br (x7.Kind == (0 : Int))
 (K0 )
 (R _a1 _a2 (W (_n1 + 1)) K0 K1))
 (K1 )
def L_z1a_0 (T : Tab) : Nat → YL_z1a_0
  | 0 => fun _ _ _ _ _ => False
  | n + 1 => B_z1a_0 T (L_z1a_0 T n)
def F_z1a (T : Tab) (_a1 _a2 : Arr) (K0 : Bool → Prop) : Prop :=
 L_z1a_0 T T.fuel _a1 _a2 0
 (K0 false)
 (K0 true)
def F_zd (T : Tab) (_x1 : S_x0) (K0 : S_x4 → Prop) : Prop :=
 T.f_z0 _x1
 (fun _b1 =>
 br (!_b1)
 (K0 ⟨(lst true [])⟩)
 ((_x1.Tables.n : Int) = (_x1.Tables.n : Int) ∧ 0 ≤ (_x1.Tables.n : Int) ∧ (_x1.Tables.n : Int) ≤ 140737488355328 ∧ (_x1.Tables.n : Int) * 24 ≤ 140737488355328 ∧
 K0 ⟨(lst true (List.replicate ((_x1.Tables.n : Int)).toNat (PV.arr ((lst true []).m) ((lst true []).n) ((lst true []).g))))⟩))
abbrev YL_z13_0 := Bool → Int → S_x0 → (List PV) → ((List PV) → Prop) → Prop
def B_z13_0 (T : Tab) (R : YL_z13_0) (_b1 : Bool) (_n1 : Int) (_x1 : S_x0) (_r1 : List PV) (K0 : (List PV) → Prop) : Prop :=
 br (decide (_n1 < (_x1.Tables.n : Int)))
 (br _b1
 ((_r1.length + 1) * 24 ≤ 140737488355328 ∧
 R _b1 (W (_n1 + 1)) _x1 (_r1 ++ ([(PV.arr ((lst true []).m) ((lst true []).n) ((lst true []).g))])) K0)
 (K0 _r1))
 (K0 _r1)
def L_z13_0 (T : Tab) : Nat → YL_z13_0
  | 0 => fun _ _ _ _ _ => False
  | n + 1 => B_z13_0 T (L_z13_0 T n)
def F_z13 (T : Tab) (_x1 : S_x0) (K0 : S_x4 → Prop) : Prop :=
 T.f_zz _x1
 (fun _b1 =>
 L_z13_0 T T.fuel _b1 0 _x1 ([])
 (fun r10 =>
 K0 ⟨(lst true r10)⟩))
abbrev YL_zt_0 := Int → S_x4 → S_x4 → Prop → Prop → Prop
def B_zt_0 (T : Tab) (R : YL_zt_0) (_n1 : Int) (_x1 _x2 : S_x4) (K0 : Prop) (K1 : Prop) : Prop :=
 br (decide (_n1 < (_x1.Tables.n : Int)))
 (0 ≤ _n1 ∧ _n1 < (_x1.Tables.n : Int) ∧
 asA (_x1.Tables.g (_n1.toNat)) fun a7 =>
 0 ≤ _n1 ∧ _n1 < (_x2.Tables.n : Int) ∧
 asA (_x2.Tables.g (_n1.toNat)) fun a8 =>
 T.f_zs a7 a8
 (fun _b1 =>
 br (!_b1)
 (K0 )
 (R (W (_n1 + 1)) _x1 _x2 K0 K1)))
 (K1 )
def L_zt_0 (T : Tab) : Nat → YL_zt_0
  | 0 => fun _ _ _ _ _ => False
  | n + 1 => B_zt_0 T (L_zt_0 T n)
def F_zt (T : Tab) (_x1 _x2 : S_x4) (K0 : Bool → Prop) : Prop :=
 br ((_x1.Tables.n : Int) != (_x2.Tables.n : Int))
 (K0 false)
 (L_zt_0 T T.fuel 0 _x1 _x2
 (K0 false)
 (K0 true))
abbrev YL_zs_2 := Arr → Arr → Int → Int → Prop → (Arr → Arr → Int → Prop) → Prop
def B_zs_2 (T : Tab) (R : YL_zs_2) (_a1 _a2 : Arr) (_n1 _n2 : Int) (K0 : Prop) (K1 : Arr → Arr → Int → Prop) : Prop :=
 0 ≤ _n1 ∧ _n1 < (_a1.n : Int) ∧
 asA (_a1.g (_n1.toNat)) fun a12 =>
 br (decide (_n2 < (a12.n : Int)))
 (0 ≤ _n1 ∧ _n1 < (_a1.n : Int) ∧
 asA (_a1.g (_n1.toNat)) fun a13 =>
 0 ≤ _n2 ∧ _n2 < (a13.n : Int) ∧
 as_x6 (a13.g (_n2.toNat)) fun x14 =>
 0 ≤ _n1 ∧ _n1 < (_a2.n : Int) ∧
 asA (_a2.g (_n1.toNat)) fun a15 =>
 0 ≤ _n2 ∧ _n2 < (a15.n : Int) ∧
 as_x6 (a15.g (_n2.toNat)) fun x16 =>
 br (!((x14.Kind == x16.Kind) && ((x14.Int == x16.Int) && (x14.Text.toList == x16.Text.toList))))
 (K0 )
 (R _a1 _a2 _n1 (W (_n2 + 1)) K0 K1))
 (K1 _a1 _a2 _n1)
def L_zs_2 (T : Tab) : Nat → YL_zs_2
  | 0 => fun _ _ _ _ _ _ => False
  | n + 1 => B_zs_2 T (L_zs_2 T n)
abbrev YL_zs_0 := Arr → Arr → Int → Prop → Prop → Prop
def B_zs_0 (T : Tab) (R : YL_zs_0) (_a1 _a2 : Arr) (_n1 : Int) (K0 : Prop) (K1 : Prop) : Prop :=
 br (decide (_n1 < (_a1.n : Int)))
 (0 ≤ _n1 ∧ _n1 < (_a1.n : Int) ∧
 asA (_a1.g (_n1.toNat)) fun a27 =>
 0 ≤ _n1 ∧ _n1 < (_a2.n : Int) ∧
 asA (_a2.g (_n1.toNat)) fun a28 =>
 br ((a27.n : Int) != (a28.n : Int))
 (K0 )
 (L_zs_2 T T.fuel _a1 _a2 _n1 0
 (K0 )
 (fun a29 a30 n31 =>
 R a29 a30 (W (n31 + 1)) K0 K1)))
 (K1 )
def L_zs_0 (T : Tab) : Nat → YL_zs_0
  | 0 => fun _ _ _ _ _ => False
  | n + 1 => B_zs_0 T (L_zs_0 T n)
def F_zs (T : Tab) (_a1 _a2 : Arr) (K0 : Bool → Prop) : Prop :=
 br ((_a1.n : Int) != (_a2.n : Int))
 (K0 false)
 (L_zs_0 T T.fuel _a1 _a2 0
 (K0 false)
 (K0 true))
end
end Go.RX
