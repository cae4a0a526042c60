/- Printed by a program of the prover: the functions that the law reaches, as functions in Lean, and that the model does what they say. No condition. -/
import Derived.Test.YtacceochippkaaaGreatDoorGb
set_option linter.all false
set_option maxRecDepth 100000
namespace Go.RX
noncomputable section
abbrev qI : Pat AV Int := pI .i64
abbrev ar (a : Arr) : AV := .p (.arr a.m a.n a.g)
abbrev ai (n : Int) : AV := .p (.int .i64 n)
abbrev ab (b : Bool) : AV := .p (.bool b)
abbrev aw (s : ByteArray) : AV := .p (.str s)
noncomputable section
open Go.Proofs
abbrev Pat.T {X α : Type} (_ : Pat X α) : Type := α
def P_z1d := cc (aa (j7 pc_x1) (aa pA (aa (j7 pc_x9) an))) (an (Y := AO))
def H_z1d (X : Y_z1d) (p : P_z1d.T) (K : AV → List AO → Prop) : Prop := X p.1.1 p.1.2.1 p.1.2.2.1 (fun _b1 => K (ab _b1) [])
def P_z1e := cc (an (Y := AV)) (an (Y := AO))
def H_z1e (X : Y_z1e) (p : P_z1e.T) (K : AV → List AO → Prop) : Prop := X  (fun _b1 => K (ab _b1) [])
def P_zb := cc (aa (j7 pc_x1) (aa pA (aa (j7 pc_x9) an))) (an (Y := AO))
def H_zb (X : Y_zb) (p : P_zb.T) (K : AV → List AO → Prop) : Prop := X p.1.1 p.1.2.1 p.1.2.2.1 (fun _b1 => K (ab _b1) [])
def P_zd := cc (aa (j7 pc_x1) (aa pA an)) (an (Y := AO))
def H_zd (X : Y_zd) (p : P_zd.T) (K : AV → List AO → Prop) : Prop := X p.1.1 p.1.2.1 (K (.tup [.p .nilp, ab false]) []) (fun _a1 _a2 _n1 _n2 _m1 _m2 => K (.tup [.ptr 0 0, ab true]) [.box [ar _a1, ar _a2, .map 1, .map 2, ai _n1, ai _n2], .map .str _m1, .map .str2 _m2])
def P_z0 := cc (aa (j7 pc_x1) an) (an (Y := AO))
def H_z0 (X : Y_z0) (p : P_z0.T) (K : AV → List AO → Prop) : Prop := X p.1.1 (fun _b1 => K (ab _b1) [])
def P_z4 := cc (an (Y := AV)) (an (Y := AO))
def H_z4 (X : Y_z4) (p : P_z4.T) (K : AV → List AO → Prop) : Prop := X  (fun _m1 => K (.func (.func 157) [] [.ptr 0 0]) [.box [.map 1], .map .str _m1])
def P_z3 := cc (aa (j7 pc_x8) an) (an (Y := AO))
def H_z3 (X : Y_z3) (p : P_z3.T) (K : AV → List AO → Prop) : Prop := X p.1.1 (fun _b1 => K (ab _b1) [])
def P_z6 := cc (aa pS an) (an (Y := AO))
def H_z6 (X : Y_z6) (p : P_z6.T) (K : AV → List AO → Prop) : Prop := X p.1.1 (fun _b1 => K (ab _b1) [])
def P_z2s := cc (aa pS (aa (ia 186 an an) an)) (an (Y := AO))
def H_z2s (X : Y_z2s) (p : P_z2s.T) (K : AV → List AO → Prop) : Prop := X p.1.1 (fun _b1 => K (ab _b1) [])
def P_z2u := cc (aa pS (aa (ia 186 an an) an)) (an (Y := AO))
def H_z2u (X : Y_z2u) (p : P_z2u.T) (K : AV → List AO → Prop) : Prop := X p.1.1 (fun _n1 => K (ai _n1) [])
def P_z2v := cc (aa pS (aa (ia 186 an an) (aa pB an))) (an (Y := AO))
def H_z2v (X : Y_z2v) (p : P_z2v.T) (K : AV → List AO → Prop) : Prop := X p.1.1 p.1.2.2.1 (fun _n1 => K (ai _n1) [])
def P_z7 := cc (aa (pI .i32) an) (an (Y := AO))
def H_z7 (X : Y_z7) (p : P_z7.T) (K : AV → List AO → Prop) : Prop := X p.1.1 (fun _b1 => K (ab _b1) [])
def P_z5 := cc (aa pS (aa (di 0 0) an)) (aa (dh (aa (fx 1) an)) (aa (cw .str) an))
def H_z5 (X : Y_z5) (p : P_z5.T) (K : AV → List AO → Prop) : Prop := X p.1.1 p.2.2.1 (fun _b1 _m1 => K (ab _b1) [.box [.map 1], .map .str _m1])
def P_z9 := cc (aa qI an) (an (Y := AO))
def H_z9 (X : Y_z9) (p : P_z9.T) (K : AV → List AO → Prop) : Prop := X p.1.1 (fun _b1 => K (ab _b1) [])
def P_z8 := cc (aa pA (aa qI an)) (an (Y := AO))
def H_z8 (X : Y_z8) (p : P_z8.T) (K : AV → List AO → Prop) : Prop := X p.1.1 p.1.2.1 (fun _b1 => K (ab _b1) [])
def P_z2h := cc (aa pA (aa qI an)) (an (Y := AO))
def H_z2h (X : Y_z2h) (p : P_z2h.T) (K : AV → List AO → Prop) : Prop := X p.1.1 p.1.2.1 (fun _b1 => K (ab _b1) [])
def P_z2r := cc (aa pA (aa qI an)) (an (Y := AO))
def H_z2r (X : Y_z2r) (p : P_z2r.T) (K : AV → List AO → Prop) : Prop := X p.1.1 p.1.2.1 (fun _n1 => K (ai _n1) [])
def P_z1 := cc (aa (j7 pc_xc) an) (an (Y := AO))
def H_z1 (X : Y_z1) (p : P_z1.T) (K : AV → List AO → Prop) : Prop := X p.1.1 (fun _b1 => K (ab _b1) [])
def P_z2g := cc (aa pA (aa (ia 163 an an) an)) (an (Y := AO))
def H_z2g (X : Y_z2g) (p : P_z2g.T) (K : AV → List AO → Prop) : Prop := X p.1.1 (fun _b1 => K (ab _b1) [])
def P_z2q := cc (aa pA (aa (ia 163 an an) an)) (an (Y := AO))
def H_z2q (X : Y_z2q) (p : P_z2q.T) (K : AV → List AO → Prop) : Prop := X p.1.1 (fun _n1 => K (ai _n1) [])
def P_z2 := cc (aa pS an) (an (Y := AO))
def H_z2 (X : Y_z2) (p : P_z2.T) (K : AV → List AO → Prop) : Prop := X p.1.1 (fun _b1 => K (ab _b1) [])
def P_zt := cc (aa pA an) (an (Y := AO))
def H_zt (X : Y_zt) (p : P_zt.T) (K : AV → List AO → Prop) : Prop := X p.1.1 (fun _b1 => K (ab _b1) [])
def P_z1f := cc (aa pS an) (an (Y := AO))
def H_z1f (X : Y_z1f) (p : P_z1f.T) (K : AV → List AO → Prop) : Prop := X p.1.1 (fun _b1 => K (ab _b1) [])
def P_z1g := cc (aa (pI .u8) an) (an (Y := AO))
def H_z1g (X : Y_z1g) (p : P_z1g.T) (K : AV → List AO → Prop) : Prop := X p.1.1 (fun _n1 => K (ai _n1) [])
def P_z2t := cc (aa pS (aa (pI .u8) an)) (an (Y := AO))
def H_z2t (X : Y_z2t) (p : P_z2t.T) (K : AV → List AO → Prop) : Prop := X p.1.1 p.1.2.1 (fun _n1 => K (ai _n1) [])
def P_z1c := cc (aa pS (aa (pI .u8) an)) (an (Y := AO))
def H_z1c (X : Y_z1c) (p : P_z1c.T) (K : AV → List AO → Prop) : Prop := X p.1.1 p.1.2.1 (fun _n1 => K (ai _n1) [])
def P_z1b := cc (aa pS (aa (pI .u8) an)) (an (Y := AO))
def H_z1b (X : Y_z1b) (p : P_z1b.T) (K : AV → List AO → Prop) : Prop := X p.1.1 p.1.2.1 (fun _n1 => K (ai _n1) [])
def P_z18 := cc (aa (di 0 0) an) (aa (dh pc_x0) an)
def H_z18 (X : Y_z18) (p : P_z18.T) (K : AV → List AO → Prop) : Prop := X p.2.1 (fun _x1 _b1 _x2 => K (.tup [.agg [ai _x1.Kind, aw _x1.Table, aw _x1.Join, ar _x1.On, ar _x1.Where, ar _x1.Items, ab _x1.Star, ar _x1.Sets, ar _x1.Groups, ar _x1.Sorts, ar _x1.Limit, ai _x1.At, ai _x1.JoinAt], ab _b1]) [.box [ar _x2.c_Tables, ar _x2.c_Procs, ar _x2.params, ai _x2.t_Kind, ar _x2.t_Tables, ar _x2.t_On, ar _x2.t_Where, ar _x2.t_Items, ar _x2.t_Columns, ab _x2.t_Grouped, ar _x2.t_Groups, ar _x2.t_Sorts, ar _x2.t_Limit, ar _x2.t_Types]])
def P_z19 := cc (aa (di 0 0) an) (aa (dh pc_x0) an)
def H_z19 (X : Y_z19) (p : P_z19.T) (K : AV → List AO → Prop) : Prop := X p.2.1 (fun _b1 _x1 => K (ab _b1) [.box [ar _x1.c_Tables, ar _x1.c_Procs, ar _x1.params, ai _x1.t_Kind, ar _x1.t_Tables, ar _x1.t_On, ar _x1.t_Where, ar _x1.t_Items, ar _x1.t_Columns, ab _x1.t_Grouped, ar _x1.t_Groups, ar _x1.t_Sorts, ar _x1.t_Limit, ar _x1.t_Types]])
def P_z2f := cc (aa pA (aa (ia 105 an (aa (di 0 0) an)) an)) (aa (dh (aa (di 1 0) an)) (aa (dh pc_x0) an))
def H_z2f (X : Y_z2f) (p : P_z2f.T) (K : AV → List AO → Prop) : Prop := X p.1.1 p.2.2.1 (fun _b1 _x1 => K (ab _b1) [.box [.ptr 1 0], .box [ar _x1.c_Tables, ar _x1.c_Procs, ar _x1.params, ai _x1.t_Kind, ar _x1.t_Tables, ar _x1.t_On, ar _x1.t_Where, ar _x1.t_Items, ar _x1.t_Columns, ab _x1.t_Grouped, ar _x1.t_Groups, ar _x1.t_Sorts, ar _x1.t_Limit, ar _x1.t_Types]])
def P_z2p := cc (aa pA (aa (ia 105 an (aa (di 0 0) an)) an)) (aa (dh (aa (di 1 0) an)) (aa (dh pc_x0) an))
def H_z2p (X : Y_z2p) (p : P_z2p.T) (K : AV → List AO → Prop) : Prop := X p.1.1 p.2.2.1 (fun _n1 _x1 => K (ai _n1) [.box [.ptr 1 0], .box [ar _x1.c_Tables, ar _x1.c_Procs, ar _x1.params, ai _x1.t_Kind, ar _x1.t_Tables, ar _x1.t_On, ar _x1.t_Where, ar _x1.t_Items, ar _x1.t_Columns, ab _x1.t_Grouped, ar _x1.t_Groups, ar _x1.t_Sorts, ar _x1.t_Limit, ar _x1.t_Types]])
def P_z1a := cc (aa qI (aa (di 0 0) an)) (aa (dh (aa (di 1 0) an)) (aa (dh pc_x0) an))
def H_z1a (X : Y_z1a) (p : P_z1a.T) (K : AV → List AO → Prop) : Prop := X p.1.1 p.2.2.1 (fun _b1 _x1 => K (ab _b1) [.box [.ptr 1 0], .box [ar _x1.c_Tables, ar _x1.c_Procs, ar _x1.params, ai _x1.t_Kind, ar _x1.t_Tables, ar _x1.t_On, ar _x1.t_Where, ar _x1.t_Items, ar _x1.t_Columns, ab _x1.t_Grouped, ar _x1.t_Groups, ar _x1.t_Sorts, ar _x1.t_Limit, ar _x1.t_Types]])
def P_z15 := cc (aa (di 0 0) (aa pA an)) (aa (dh pc_x0) an)
def H_z15 (X : Y_z15) (p : P_z15.T) (K : AV → List AO → Prop) : Prop := X p.1.2.1 p.2.1 (fun _a1 _b1 _x1 => K (.tup [ar _a1, ab _b1]) [.box [ar _x1.c_Tables, ar _x1.c_Procs, ar _x1.params, ai _x1.t_Kind, ar _x1.t_Tables, ar _x1.t_On, ar _x1.t_Where, ar _x1.t_Items, ar _x1.t_Columns, ab _x1.t_Grouped, ar _x1.t_Groups, ar _x1.t_Sorts, ar _x1.t_Limit, ar _x1.t_Types]])
def P_z14 := cc (aa (di 0 0) (aa (j7 pc_xf) (aa qI an))) (aa (dh pc_x0) an)
def H_z14 (X : Y_z14) (p : P_z14.T) (K : AV → List AO → Prop) : Prop := X p.1.2.1 p.1.2.2.1 p.2.1 (fun _x1 _b1 _x2 => K (.tup [.agg [ai _x1.Kind, ai _x1.Op, ai _x1.Value_Kind, ai _x1.Value_Int, aw _x1.Value_Text, aw _x1.Table, aw _x1.Name, ar _x1.Kids, ai _x1.At], ab _b1]) [.box [ar _x2.c_Tables, ar _x2.c_Procs, ar _x2.params, ai _x2.t_Kind, ar _x2.t_Tables, ar _x2.t_On, ar _x2.t_Where, ar _x2.t_Items, ar _x2.t_Columns, ab _x2.t_Grouped, ar _x2.t_Groups, ar _x2.t_Sorts, ar _x2.t_Limit, ar _x2.t_Types]])
def P_z13 := cc (aa (di 0 0) (aa qI an)) (aa (dh pc_x0) an)
def H_z13 (X : Y_z13) (p : P_z13.T) (K : AV → List AO → Prop) : Prop := X p.1.2.1 p.2.1 (fun _x1 _b1 _x2 => K (.tup [.agg [ai _x1.Kind, ai _x1.Op, ai _x1.Value_Kind, ai _x1.Value_Int, aw _x1.Value_Text, aw _x1.Table, aw _x1.Name, ar _x1.Kids, ai _x1.At], ab _b1]) [.box [ar _x2.c_Tables, ar _x2.c_Procs, ar _x2.params, ai _x2.t_Kind, ar _x2.t_Tables, ar _x2.t_On, ar _x2.t_Where, ar _x2.t_Items, ar _x2.t_Columns, ab _x2.t_Grouped, ar _x2.t_Groups, ar _x2.t_Sorts, ar _x2.t_Limit, ar _x2.t_Types]])
def P_z29 := cc (aa pA an) (an (Y := AO))
def H_z29 (X : Y_z29) (p : P_z29.T) (K : AV → List AO → Prop) : Prop := X p.1.1 (fun _a1 => K (ar _a1) [])
def P_z2a := cc (aa pA an) (an (Y := AO))
def H_z2a (X : Y_z2a) (p : P_z2a.T) (K : AV → List AO → Prop) : Prop := X p.1.1 (fun _a1 => K (ar _a1) [])
def P_z16 := cc (aa (di 0 0) (aa (di 1 0) (aa pA an))) (aa (dh pc_x0) (aa (dh (aa qI (aa pS (aa pS (aa pA (aa pA (aa (pN 1) (aa pB (aa (pN 1) (aa (j4 2) (aa pA (aa pA (aa qI (aa qI an)))))))))))))) (aa (ei 93 9) an)))
def H_z16 (X : Y_z16) (p : P_z16.T) (K : AV → List AO → Prop) : Prop := X p.1.2.2.1 p.2.1 p.2.2.1.1 p.2.2.1.2.1 p.2.2.1.2.2.1 p.2.2.1.2.2.2.1 p.2.2.1.2.2.2.2.1 p.2.2.1.2.2.2.2.2.2.1 p.2.2.1.2.2.2.2.2.2.2.2.2.1 p.2.2.1.2.2.2.2.2.2.2.2.2.2.1 p.2.2.1.2.2.2.2.2.2.2.2.2.2.2.1 p.2.2.1.2.2.2.2.2.2.2.2.2.2.2.2.1 p.2.2.2.1 (fun _x1 _n1 _s1 _s2 _a1 _a2 _b1 _a3 _a4 _n2 _n3 _r1 => K (ab false) [.box [ar _x1.c_Tables, ar _x1.c_Procs, ar _x1.params, ai _x1.t_Kind, ar _x1.t_Tables, ar _x1.t_On, ar _x1.t_Where, ar _x1.t_Items, ar _x1.t_Columns, ab _x1.t_Grouped, ar _x1.t_Groups, ar _x1.t_Sorts, ar _x1.t_Limit, ar _x1.t_Types], .box [ai _n1, aw _s1, aw _s2, ar _a1, ar _a2, .p .nils, ab _b1, .p .nils, .row 2, ar _a3, ar _a4, ai _n2, ai _n3], .row 93 9 _r1]) (fun _b2 _x2 _n4 _s3 _s4 _a5 _a6 _b3 _a7 _a8 _n5 _n6 _r2 _r3 => K (ab _b2) [.box [ar _x2.c_Tables, ar _x2.c_Procs, ar _x2.params, ai _x2.t_Kind, ar _x2.t_Tables, ar _x2.t_On, ar _x2.t_Where, ar _x2.t_Items, ar _x2.t_Columns, ab _x2.t_Grouped, ar _x2.t_Groups, ar _x2.t_Sorts, ar _x2.t_Limit, ar _x2.t_Types], .box [ai _n4, aw _s3, aw _s4, ar _a5, ar _a6, .p .nils, ab _b3, .row 3, .row 2, ar _a7, ar _a8, ai _n5, ai _n6], .row 93 9 _r2, .row 107 11 _r3])
def P_z17 := cc (aa (di 0 0) an) (aa (dh pc_x0) an)
def H_z17 (X : Y_z17) (p : P_z17.T) (K : AV → List AO → Prop) : Prop := X p.2.1 (fun _b1 _x1 => K (ab _b1) [.box [ar _x1.c_Tables, ar _x1.c_Procs, ar _x1.params, ai _x1.t_Kind, ar _x1.t_Tables, ar _x1.t_On, ar _x1.t_Where, ar _x1.t_Items, ar _x1.t_Columns, ab _x1.t_Grouped, ar _x1.t_Groups, ar _x1.t_Sorts, ar _x1.t_Limit, ar _x1.t_Types]])
def P_za := cc (aa (j7 pc_x1) (aa pA (aa (j7 pc_xe) an))) (an (Y := AO))
def H_za (X : Y_za) (p : P_za.T) (K : AV → List AO → Prop) : Prop := X p.1.1 p.1.2.1 p.1.2.2.1 (fun _x1 _x2 => K (.tup [.agg [ai _x1.Kind, ar _x1.Tables, ar _x1.On, ar _x1.Where, ar _x1.Items, ar _x1.Columns, ab _x1.Grouped, ar _x1.Groups, ar _x1.Sorts, ar _x1.Limit, ar _x1.Types], .agg [ai _x2.Code, ai _x2.At]]) [])
def P_z2w := cc (aa (j7 pc_xe) an) (an (Y := AO))
def H_z2w (X : Y_z2w) (p : P_z2w.T) (K : AV → List AO → Prop) : Prop := X p.1.1 (fun _b1 => K (ab _b1) [])
def P_z35 := cc (aa pA an) (an (Y := AO))
def H_z35 (X : Y_z35) (p : P_z35.T) (K : AV → List AO → Prop) : Prop := X p.1.1 (fun _b1 => K (ab _b1) [])
def P_z2b := cc (aa pA (aa (ia 137 an an) an)) (an (Y := AO))
def H_z2b (X : Y_z2b) (p : P_z2b.T) (K : AV → List AO → Prop) : Prop := X p.1.1 (fun _b1 => K (ab _b1) [])
def P_z2l := cc (aa pA (aa (ia 137 an an) an)) (an (Y := AO))
def H_z2l (X : Y_z2l) (p : P_z2l.T) (K : AV → List AO → Prop) : Prop := X p.1.1 (fun _n1 => K (ai _n1) [])
def P_z36 := cc (aa (j7 pc_xb) an) (an (Y := AO))
def H_z36 (X : Y_z36) (p : P_z36.T) (K : AV → List AO → Prop) : Prop := X p.1.1 (fun _b1 => K (ab _b1) [])
def P_z2y := cc (aa (j7 pc_xb) (aa qI an)) (an (Y := AO))
def H_z2y (X : Y_z2y) (p : P_z2y.T) (K : AV → List AO → Prop) : Prop := X p.1.1 p.1.2.1 (fun _b1 => K (ab _b1) [])
def P_z37 := cc (aa qI an) (an (Y := AO))
def H_z37 (X : Y_z37) (p : P_z37.T) (K : AV → List AO → Prop) : Prop := X p.1.1 (fun _n1 _n2 _n3 _n4 => K (.tup [ai _n1, ai _n2, ai _n3, ai _n4]) [])
def P_z2x := cc (aa (j7 pc_xb) an) (an (Y := AO))
def H_z2x (X : Y_z2x) (p : P_z2x.T) (K : AV → List AO → Prop) : Prop := X p.1.1 (fun _b1 => K (ab _b1) [])
def P_z39 := cc (aa (j7 pc_xa) an) (an (Y := AO))
def H_z39 (X : Y_z39) (p : P_z39.T) (K : AV → List AO → Prop) : Prop := X p.1.1 (fun _b1 => K (ab _b1) [])
def P_z2c := cc (aa pA (aa (ia 174 an (aa (di 0 0) an)) an)) (aa (dh (aa qI an)) an)
def H_z2c (X : Y_z2c) (p : P_z2c.T) (K : AV → List AO → Prop) : Prop := X p.1.1 p.2.1.1 (fun _b1 _n1 => K (ab _b1) [.box [ai _n1]])
def P_z2m := cc (aa pA (aa (ia 174 an (aa (di 0 0) an)) an)) (aa (dh (aa qI an)) an)
def H_z2m (X : Y_z2m) (p : P_z2m.T) (K : AV → List AO → Prop) : Prop := X p.1.1 p.2.1.1 (fun _n1 _n2 => K (ai _n1) [.box [ai _n2]])
def P_z2z := cc (aa (j7 pc_xb) (aa (di 0 0) an)) (aa (dh (aa qI an)) an)
def H_z2z (X : Y_z2z) (p : P_z2z.T) (K : AV → List AO → Prop) : Prop := X p.1.1 p.2.1.1 (fun _b1 _n1 => K (ab _b1) [.box [ai _n1]])
def P_z31 := cc (aa (j7 pc_xe) an) (an (Y := AO))
def H_z31 (X : Y_z31) (p : P_z31.T) (K : AV → List AO → Prop) : Prop := X p.1.1 (fun _b1 => K (ab _b1) [])
def P_z30 := cc (aa (j7 pc_xb) an) (an (Y := AO))
def H_z30 (X : Y_z30) (p : P_z30.T) (K : AV → List AO → Prop) : Prop := X p.1.1 (fun _b1 => K (ab _b1) [])
def P_z38 := cc (aa qI an) (an (Y := AO))
def H_z38 (X : Y_z38) (p : P_z38.T) (K : AV → List AO → Prop) : Prop := X p.1.1 (fun _b1 => K (ab _b1) [])
def P_z2e := cc (aa pA (aa (ia 141 an an) an)) (an (Y := AO))
def H_z2e (X : Y_z2e) (p : P_z2e.T) (K : AV → List AO → Prop) : Prop := X p.1.1 (fun _b1 => K (ab _b1) [])
def P_z2o := cc (aa pA (aa (ia 141 an an) an)) (an (Y := AO))
def H_z2o (X : Y_z2o) (p : P_z2o.T) (K : AV → List AO → Prop) : Prop := X p.1.1 (fun _n1 => K (ai _n1) [])
def P_z32 := cc (aa qI an) (an (Y := AO))
def H_z32 (X : Y_z32) (p : P_z32.T) (K : AV → List AO → Prop) : Prop := X p.1.1 (fun _b1 => K (ab _b1) [])
def P_z33 := cc (aa pA an) (an (Y := AO))
def H_z33 (X : Y_z33) (p : P_z33.T) (K : AV → List AO → Prop) : Prop := X p.1.1 (fun _b1 => K (ab _b1) [])
def P_z2d := cc (aa pA (aa (ia 143 an an) an)) (an (Y := AO))
def H_z2d (X : Y_z2d) (p : P_z2d.T) (K : AV → List AO → Prop) : Prop := X p.1.1 (fun _b1 => K (ab _b1) [])
def P_z2n := cc (aa pA (aa (ia 143 an an) an)) (an (Y := AO))
def H_z2n (X : Y_z2n) (p : P_z2n.T) (K : AV → List AO → Prop) : Prop := X p.1.1 (fun _n1 => K (ai _n1) [])
def P_z34 := cc (aa (j7 pc_xg) an) (an (Y := AO))
def H_z34 (X : Y_z34) (p : P_z34.T) (K : AV → List AO → Prop) : Prop := X p.1.1 (fun _b1 => K (ab _b1) [])
def P_zo := cc (aa (di 0 0) (aa (j7 pc_xe) an)) (aa (dh (aa pA (aa pA (aa (fx 1) (aa (fx 2) (aa qI (aa qI an))))))) (aa (cw .str) (aa (cw .str2) an)))
def H_zo (X : Y_zo) (p : P_zo.T) (K : AV → List AO → Prop) : Prop := X p.1.2.1 p.2.1.1 p.2.1.2.1 p.2.1.2.2.2.2.1 p.2.1.2.2.2.2.2.1 p.2.2.1 p.2.2.2.1 (fun _x1 _b1 _a1 _a2 _n1 _n2 _m1 _m2 => K (.tup [.agg [ai _x1.Kind, ar _x1.Tables, ar _x1.On, ar _x1.Where, ar _x1.Items, ar _x1.Columns, ab _x1.Grouped, ar _x1.Groups, ar _x1.Sorts, ar _x1.Limit, ar _x1.Types], ab _b1]) [.box [ar _a1, ar _a2, .map 1, .map 2, ai _n1, ai _n2], .map .str _m1, .map .str2 _m2])
def P_zj := cc (aa (di 0 0) (aa (j7 pc_xe) an)) (aa (dh (aa pA (aa pA (aa (fx 1) (aa (fx 2) (aa qI (aa qI an))))))) (aa (cw .str) (aa (cw .str2) an)))
def H_zj (X : Y_zj) (p : P_zj.T) (K : AV → List AO → Prop) : Prop := X p.1.2.1 p.2.1.1 p.2.1.2.1 p.2.1.2.2.2.2.1 p.2.1.2.2.2.2.2.1 p.2.2.1 p.2.2.2.1 (fun _a1 _b1 _a2 _a3 _n1 _n2 _m1 _m2 => K (.tup [ar _a1, ab _b1]) [.box [ar _a2, ar _a3, .map 1, .map 2, ai _n1, ai _n2], .map .str _m1, .map .str2 _m2])
def P_zw := cc (aa (j7 pc_x1) (aa pS an)) (an (Y := AO))
def H_zw (X : Y_zw) (p : P_zw.T) (K : AV → List AO → Prop) : Prop := X p.1.1 p.1.2.1 (fun _n1 => K (ai _n1) [])
def P_zf := cc (aa (di 0 0) (aa qI (aa qI an))) (aa (dh (aa pA (aa pA (aa (fx 1) (aa (fx 2) (aa qI (aa qI an))))))) (aa (cw .str) (aa (cw .str2) an)))
def H_zf (X : Y_zf) (p : P_zf.T) (K : AV → List AO → Prop) : Prop := X p.1.2.1 p.1.2.2.1 p.2.1.1 p.2.1.2.1 p.2.1.2.2.2.2.1 p.2.1.2.2.2.2.2.1 p.2.2.1 p.2.2.2.1 (fun _a1 _a2 _n1 _n2 _m1 _m2 => K (ab false) [.box [ar _a1, ar _a2, .map 1, .map 2, ai _n1, ai _n2], .map .str _m1, .map .str2 _m2])
def P_zm := cc (aa (di 0 0) (aa pA an)) (aa (dh (aa pA (aa pA (aa (fx 1) (aa (fx 2) (aa qI (aa qI an))))))) (aa (cw .str) (aa (cw .str2) an)))
def H_zm (X : Y_zm) (p : P_zm.T) (K : AV → List AO → Prop) : Prop := X p.1.2.1 p.2.1.1 p.2.1.2.1 p.2.1.2.2.2.2.1 p.2.1.2.2.2.2.2.1 p.2.2.1 p.2.2.2.1 (fun _a1 _a2 _n1 _n2 _m1 _m2 => K (.tup []) [.box [ar _a1, ar _a2, .map 1, .map 2, ai _n1, ai _n2], .map .str _m1, .map .str2 _m2])
def P_zq := cc (aa (di 0 0) (aa pA an)) (aa (dh (aa pA (aa pA (aa (fx 1) (aa (fx 2) (aa qI (aa qI an))))))) (aa (cw .str) (aa (cw .str2) an)))
def H_zq (X : Y_zq) (p : P_zq.T) (K : AV → List AO → Prop) : Prop := X p.1.2.1 p.2.1.1 p.2.1.2.1 p.2.1.2.2.2.2.1 p.2.1.2.2.2.2.2.1 p.2.2.1 p.2.2.2.1 (fun _a1 _b1 _a2 _a3 _n1 _n2 _m1 _m2 => K (.tup [ar _a1, ab _b1]) [.box [ar _a2, ar _a3, .map 1, .map 2, ai _n1, ai _n2], .map .str _m1, .map .str2 _m2])
def P_zk := cc (aa (di 0 0) (aa qI an)) (aa (dh (aa pA (aa pA (aa (fx 1) (aa (fx 2) (aa qI (aa qI an))))))) (aa (cw .str) (aa (cw .str2) an)))
def H_zk (X : Y_zk) (p : P_zk.T) (K : AV → List AO → Prop) : Prop := X p.1.2.1 p.2.1.1 p.2.1.2.1 p.2.1.2.2.2.2.1 p.2.1.2.2.2.2.2.1 p.2.2.1 p.2.2.2.1 (fun _a1 _a2 _n1 _n2 _m1 _m2 _n3 => K (.func (.func 176) [] [.ptr 3 0, .ptr 4 0]) [.box [ar _a1, ar _a2, .map 1, .map 2, ai _n1, ai _n2], .map .str _m1, .map .str2 _m2, .box [.ptr 0 0], .box [ai _n3]])
def P_zl := cc (aa (j7 pc_xb) (aa (di 0 0) (aa (di 4 0) an))) (aa (dh (aa (di 1 0) an)) (aa (dh (aa pA (aa pA (aa (fx 2) (aa (fx 3) (aa qI (aa qI an))))))) (aa (cw .str) (aa (cw .str2) (aa (dh (aa qI an)) an)))))
def H_zl (X : Y_zl) (p : P_zl.T) (K : AV → List AO → Prop) : Prop := X p.1.1 p.2.2.1.1 p.2.2.1.2.1 p.2.2.1.2.2.2.2.1 p.2.2.1.2.2.2.2.2.1 p.2.2.2.1 p.2.2.2.2.1 p.2.2.2.2.2.1.1 (fun _x1 _b1 _a1 _a2 _n1 _n2 _m1 _m2 _n3 => K (.tup [.agg [ai _x1.Op, ai _x1.Num, ai _x1.Type_, ai _x1.Value_Kind, ai _x1.Value_Int, aw _x1.Value_Text, ar _x1.Kids], ab _b1]) [.box [.ptr 1 0], .box [ar _a1, ar _a2, .map 2, .map 3, ai _n1, ai _n2], .map .str _m1, .map .str2 _m2, .box [ai _n3]])
def P_zp := cc (aa (di 0 0) (aa (j7 pc_xb) an)) (aa (dh (aa pA (aa pA (aa (fx 1) (aa (fx 2) (aa qI (aa qI an))))))) (aa (cw .str) (aa (cw .str2) an)))
def H_zp (X : Y_zp) (p : P_zp.T) (K : AV → List AO → Prop) : Prop := X p.1.2.1 p.2.1.1 p.2.1.2.1 p.2.1.2.2.2.2.1 p.2.1.2.2.2.2.2.1 p.2.2.1 p.2.2.2.1 (fun _x1 _b1 _a1 _a2 _n1 _n2 _m1 _m2 => K (.tup [.agg [ai _x1.Op, ai _x1.Num, ai _x1.Type_, ai _x1.Value_Kind, ai _x1.Value_Int, aw _x1.Value_Text, ar _x1.Kids], ab _b1]) [.box [ar _a1, ar _a2, .map 1, .map 2, ai _n1, ai _n2], .map .str _m1, .map .str2 _m2])
def P_zz := cc (aa qI an) (an (Y := AO))
def H_zz (X : Y_zz) (p : P_zz.T) (K : AV → List AO → Prop) : Prop := X p.1.1 (fun _n1 => K (.func (.func 217) [] [.ptr 0 0]) [.box [ai _n1]]) (K (.func (.func 218) [] []) [])
def P_z10 := cc (aa qI an) (an (Y := AO))
def H_z10 (X : Y_z10) (p : P_z10.T) (K : AV → List AO → Prop) : Prop := X p.1.1 (fun _n1 => K (.func (.func 217) [] [.ptr 0 0]) [.box [ai _n1]])
def P_z11 := cc (aa qI (aa (di 0 0) an)) (aa (dh (aa qI an)) an)
def H_z11 (X : Y_z11) (p : P_z11.T) (K : AV → List AO → Prop) : Prop := X p.1.1 p.2.1.1 (fun _b1 _n1 => K (ab _b1) [.box [ai _n1]])
def P_zy := cc (aa (j4 0) an) (aa (ei 64 7) an)
def H_zy (X : Y_zy) (p : P_zy.T) (K : AV → List AO → Prop) : Prop := X p.2.1 (fun _b1 _r1 => K (ab _b1) [.row 64 7 _r1])
def P_zx := cc (aa qI (aa (j4 0) an)) (aa (ei 64 7) an)
def H_zx (X : Y_zx) (p : P_zx.T) (K : AV → List AO → Prop) : Prop := X p.1.1 p.2.1 (fun _n1 _r1 => K (ai _n1) [.row 64 7 _r1])
def P_z12 := cc (aa qI an) (an (Y := AO))
def H_z12 (X : Y_z12) (p : P_z12.T) (K : AV → List AO → Prop) : Prop := X p.1.1 (K (ab true) [])
def P_zh := cc (aa (di 0 0) (aa (j7 pc_xe) (aa (di 3 0) (aa (j7 pc_x8) an)))) (aa (dh (aa pA (aa pA (aa (fx 1) (aa (fx 2) (aa qI (aa qI an))))))) (aa (cw .str) (aa (cw .str2) (aa (dh (aa qI (aa pA (aa pA (aa pA (aa (pN 1) (aa (pN 1) (aa pB (aa (pN 1) (aa (pN 1) (aa (pN 1) (aa (pN 1) an)))))))))))) an))))
def H_zh (X : Y_zh) (p : P_zh.T) (K : AV → List AO → Prop) : Prop := X p.1.2.1 p.1.2.2.2.1 p.2.1.1 p.2.1.2.1 p.2.1.2.2.2.2.1 p.2.1.2.2.2.2.2.1 p.2.2.1 p.2.2.2.1 p.2.2.2.2.1.1 p.2.2.2.2.1.2.1 p.2.2.2.2.1.2.2.1 p.2.2.2.2.1.2.2.2.1 p.2.2.2.2.1.2.2.2.2.2.2.1 (fun _a1 _a2 _n1 _n2 _m1 _m2 _n3 _a3 _a4 _a5 _b1 => K (ab false) [.box [ar _a1, ar _a2, .map 1, .map 2, ai _n1, ai _n2], .map .str _m1, .map .str2 _m2, .box [ai _n3, ar _a3, ar _a4, ar _a5, .p .nils, .p .nils, ab _b1, .p .nils, .p .nils, .p .nils, .p .nils]]) (fun _b2 _a6 _a7 _n4 _n5 _m3 _m4 _n6 _a8 _a9 _a10 _b3 _r1 => K (ab _b2) [.box [ar _a6, ar _a7, .map 1, .map 2, ai _n4, ai _n5], .map .str _m3, .map .str2 _m4, .box [ai _n6, ar _a8, ar _a9, ar _a10, .row 4, .p .nils, ab _b3, .p .nils, .p .nils, .p .nils, .p .nils], .row 64 7 _r1])
def P_zr := cc (aa (di 0 0) (aa (j7 pc_xe) (aa (di 3 0) (aa (j7 pc_x8) an)))) (aa (dh (aa pA (aa pA (aa (fx 1) (aa (fx 2) (aa qI (aa qI an))))))) (aa (cw .str) (aa (cw .str2) (aa (dh (aa qI (aa pA (aa pA (aa pA (aa (pN 1) (aa (pN 1) (aa pB (aa (pN 1) (aa (pN 1) (aa (pN 1) (aa (pN 1) an)))))))))))) an))))
def H_zr (X : Y_zr) (p : P_zr.T) (K : AV → List AO → Prop) : Prop := X p.1.2.1 p.1.2.2.2.1 p.2.1.1 p.2.1.2.1 p.2.1.2.2.2.2.1 p.2.1.2.2.2.2.2.1 p.2.2.1 p.2.2.2.1 p.2.2.2.2.1.1 p.2.2.2.2.1.2.1 p.2.2.2.2.1.2.2.1 p.2.2.2.2.1.2.2.2.1 p.2.2.2.2.1.2.2.2.2.2.2.1 (fun _b1 _a1 _a2 _n1 _n2 _m1 _m2 _n3 _a3 _a4 _a5 _b2 _r1 _r2 => K (ab _b1) [.box [ar _a1, ar _a2, .map 1, .map 2, ai _n1, ai _n2], .map .str _m1, .map .str2 _m2, .box [ai _n3, ar _a3, ar _a4, ar _a5, .row 4, .row 5, ab _b2, .p .nils, .p .nils, .p .nils, .p .nils], .row 64 7 _r1, .row 3 1 _r2])
def P_zs := cc (aa (j7 pc_x8) (aa pS an)) (an (Y := AO))
def H_zs (X : Y_zs) (p : P_zs.T) (K : AV → List AO → Prop) : Prop := X p.1.1 p.1.2.1 (fun _n1 => K (ai _n1) [])
def P_ze := cc (aa (di 0 0) (aa (j7 pc_xe) (aa (di 3 0) an))) (aa (dh (aa pA (aa pA (aa (fx 1) (aa (fx 2) (aa qI (aa qI an))))))) (aa (cw .str) (aa (cw .str2) (aa (dh (aa qI (aa pA (aa pA (aa pA (aa (pN 1) (aa (pN 1) (aa pB (aa (pN 1) (aa (pN 1) (aa (pN 1) (aa (pN 1) an)))))))))))) an))))
def H_ze (X : Y_ze) (p : P_ze.T) (K : AV → List AO → Prop) : Prop := X p.1.2.1 p.2.1.1 p.2.1.2.1 p.2.1.2.2.2.2.1 p.2.1.2.2.2.2.2.1 p.2.2.1 p.2.2.2.1 p.2.2.2.2.1.1 p.2.2.2.2.1.2.1 p.2.2.2.2.1.2.2.1 p.2.2.2.2.1.2.2.2.1 p.2.2.2.2.1.2.2.2.2.2.2.1 (fun _a1 _a2 _n1 _n2 _m1 _m2 _n3 _a3 _a4 _a5 _b1 _r1 => K (ab false) [.box [ar _a1, ar _a2, .map 1, .map 2, ai _n1, ai _n2], .map .str _m1, .map .str2 _m2, .box [ai _n3, ar _a3, ar _a4, ar _a5, .p .nils, .p .nils, ab _b1, .row 4, .p .nils, .p .nils, .p .nils], .row 3 1 _r1]) (fun _a6 _a7 _n4 _n5 _m3 _m4 _n6 _a8 _a9 _a10 _b2 _r2 _r3 => K (ab false) [.box [ar _a6, ar _a7, .map 1, .map 2, ai _n4, ai _n5], .map .str _m3, .map .str2 _m4, .box [ai _n6, ar _a8, ar _a9, ar _a10, .row 4, .p .nils, ab _b2, .row 5, .p .nils, .p .nils, .p .nils], .row 64 7 _r2, .row 3 1 _r3]) (fun _a11 _a12 _n7 _n8 _m5 _m6 _n9 _a13 _a14 _a15 _b3 _r4 _r5 _r6 => K (ab false) [.box [ar _a11, ar _a12, .map 1, .map 2, ai _n7, ai _n8], .map .str _m5, .map .str2 _m6, .box [ai _n9, ar _a13, ar _a14, ar _a15, .row 4, .p .nils, ab _b3, .row 5, .row 6, .p .nils, .p .nils], .row 64 7 _r4, .row 3 1 _r5, .row 110 3 _r6]) (fun _a16 _a17 _n10 _n11 _m7 _m8 _n12 _a18 _a19 _a20 _b4 _r7 _r8 _r9 _r10 _r11 => K (ab true) [.box [ar _a16, ar _a17, .map 1, .map 2, ai _n10, ai _n11], .map .str _m7, .map .str2 _m8, .box [ai _n12, ar _a18, ar _a19, ar _a20, .row 4, .p .nils, ab _b4, .row 5, .row 6, .row 7, .row 8], .row 64 7 _r7, .row 3 1 _r8, .row 110 3 _r9, .row 3 1 _r10, .row 3 1 _r11])
def P_zg := cc (aa (di 0 0) (aa (j7 pc_xe) (aa (di 3 0) an))) (aa (dh (aa pA (aa pA (aa (fx 1) (aa (fx 2) (aa qI (aa qI an))))))) (aa (cw .str) (aa (cw .str2) (aa (dh (aa qI (aa pA (aa pA (aa pA (aa (pN 1) (aa (pN 1) (aa pB (aa (pN 1) (aa (pN 1) (aa (pN 1) (aa (pN 1) an)))))))))))) an))))
def H_zg (X : Y_zg) (p : P_zg.T) (K : AV → List AO → Prop) : Prop := X p.1.2.1 p.2.1.1 p.2.1.2.1 p.2.1.2.2.2.2.1 p.2.1.2.2.2.2.2.1 p.2.2.1 p.2.2.2.1 p.2.2.2.2.1.1 p.2.2.2.2.1.2.1 p.2.2.2.2.1.2.2.1 p.2.2.2.2.1.2.2.2.1 p.2.2.2.2.1.2.2.2.2.2.2.1 (fun _a1 _a2 _n1 _n2 _m1 _m2 _n3 _a3 _a4 _a5 _b1 _r1 => K (.tup [.p .nilm, ab false]) [.box [ar _a1, ar _a2, .map 1, .map 2, ai _n1, ai _n2], .map .str _m1, .map .str2 _m2, .box [ai _n3, ar _a3, ar _a4, ar _a5, .p .nils, .p .nils, ab _b1, .row 4, .p .nils, .p .nils, .p .nils], .row 3 1 _r1]) (fun _a6 _a7 _n4 _n5 _m3 _m4 _n6 _a8 _a9 _a10 _b2 _r2 _m5 => K (.tup [.map 5, ab true]) [.box [ar _a6, ar _a7, .map 1, .map 2, ai _n4, ai _n5], .map .str _m3, .map .str2 _m4, .box [ai _n6, ar _a8, ar _a9, ar _a10, .p .nils, .p .nils, ab _b2, .row 4, .p .nils, .p .nils, .p .nils], .row 3 1 _r2, .map (.int .i64) _m5])
def P_zn := cc (aa (di 0 0) (aa (j7 pc_xe) (aa (di 3 0) an))) (aa (dh (aa pA (aa pA (aa (fx 1) (aa (fx 2) (aa qI (aa qI an))))))) (aa (cw .str) (aa (cw .str2) (aa (dh (aa qI (aa pA (aa pA (aa pA (aa (pN 1) (aa (pN 1) (aa pB (aa (j4 4) (aa (pN 1) (aa (pN 1) (aa (pN 1) an)))))))))))) (aa (ei 3 1) an)))))
def H_zn (X : Y_zn) (p : P_zn.T) (K : AV → List AO → Prop) : Prop := X p.1.2.1 p.2.1.1 p.2.1.2.1 p.2.1.2.2.2.2.1 p.2.1.2.2.2.2.2.1 p.2.2.1 p.2.2.2.1 p.2.2.2.2.1.1 p.2.2.2.2.1.2.1 p.2.2.2.2.1.2.2.1 p.2.2.2.2.1.2.2.2.1 p.2.2.2.2.1.2.2.2.2.2.2.1 p.2.2.2.2.2.1 (fun _a1 _a2 _n1 _n2 _m1 _m2 _n3 _a3 _a4 _a5 _b1 _r1 => K (ab false) [.box [ar _a1, ar _a2, .map 1, .map 2, ai _n1, ai _n2], .map .str _m1, .map .str2 _m2, .box [ai _n3, ar _a3, ar _a4, ar _a5, .p .nils, .p .nils, ab _b1, .row 4, .p .nils, .p .nils, .p .nils], .row 3 1 _r1]) (fun _b2 _a6 _a7 _n4 _n5 _m3 _m4 _n6 _a8 _a9 _a10 _b3 _r2 _r3 => K (ab _b2) [.box [ar _a6, ar _a7, .map 1, .map 2, ai _n4, ai _n5], .map .str _m3, .map .str2 _m4, .box [ai _n6, ar _a8, ar _a9, ar _a10, .row 5, .p .nils, ab _b3, .row 4, .p .nils, .p .nils, .p .nils], .row 3 1 _r2, .row 64 7 _r3])
def P_zi := cc (aa (di 0 0) (aa (j7 pc_xe) (aa (di 3 0) (aa (fx 5) an)))) (aa (dh (aa pA (aa pA (aa (fx 1) (aa (fx 2) (aa qI (aa qI an))))))) (aa (cw .str) (aa (cw .str2) (aa (dh (aa qI (aa pA (aa pA (aa pA (aa (pN 1) (aa (pN 1) (aa pB (aa (j4 4) (aa (pN 1) (aa (pN 1) (aa (pN 1) an)))))))))))) (aa (ei 3 1) (aa (cw (.int .i64)) an))))))
def H_zi (X : Y_zi) (p : P_zi.T) (K : AV → List AO → Prop) : Prop := X p.1.2.1 p.2.1.1 p.2.1.2.1 p.2.1.2.2.2.2.1 p.2.1.2.2.2.2.2.1 p.2.2.1 p.2.2.2.1 p.2.2.2.2.1.1 p.2.2.2.2.1.2.1 p.2.2.2.2.1.2.2.1 p.2.2.2.2.1.2.2.2.1 p.2.2.2.2.1.2.2.2.2.2.2.1 p.2.2.2.2.2.1 p.2.2.2.2.2.2.1 (fun _b1 _a1 _a2 _n1 _n2 _m1 _m2 _n3 _a3 _a4 _a5 _b2 _r1 _m3 _r2 => K (ab _b1) [.box [ar _a1, ar _a2, .map 1, .map 2, ai _n1, ai _n2], .map .str _m1, .map .str2 _m2, .box [ai _n3, ar _a3, ar _a4, ar _a5, .row 6, .p .nils, ab _b2, .row 4, .p .nils, .p .nils, .p .nils], .row 3 1 _r1, .map (.int .i64) _m3, .row 64 7 _r2])
def P_zc := cc (aa qI an) (an (Y := AO))
def H_zc (X : Y_zc) (p : P_zc.T) (K : AV → List AO → Prop) : Prop := X p.1.1 (fun _b1 => K (ab _b1) [])
def P_zv := cc (aa (j7 pc_x9) (aa (j7 pc_x9) an)) (an (Y := AO))
def H_zv (X : Y_zv) (p : P_zv.T) (K : AV → List AO → Prop) : Prop := X p.1.1 p.1.2.1 (fun _b1 => K (ab _b1) [])
def P_z2k := cc (aa pA (aa pA an)) (an (Y := AO))
def H_z2k (X : Y_z2k) (p : P_z2k.T) (K : AV → List AO → Prop) : Prop := X p.1.1 p.1.2.1 (fun _b1 => K (ab _b1) [])
def P_z2j := cc (aa pA (aa pA an)) (an (Y := AO))
def H_z2j (X : Y_z2j) (p : P_z2j.T) (K : AV → List AO → Prop) : Prop := X p.1.1 p.1.2.1 (fun _b1 => K (ab _b1) [])
def P_z2i := cc (aa pA (aa pA (aa (ia 58 an an) an))) (an (Y := AO))
def H_z2i (X : Y_z2i) (p : P_z2i.T) (K : AV → List AO → Prop) : Prop := X p.1.1 p.1.2.1 (fun _b1 => K (ab _b1) [])
def P_zu := cc (aa (j7 pc_xf) (aa (j7 pc_xf) an)) (an (Y := AO))
def H_zu (X : Y_zu) (p : P_zu.T) (K : AV → List AO → Prop) : Prop := X p.1.1 p.1.2.1 (fun _b1 => K (ab _b1) [])
def P_z1v := cc (aa (j7 pc_x1) (aa pA (aa (j7 pc_x9) an))) (an (Y := AO))
def H_z1v (X : Y_z1v) (p : P_z1v.T) (K : AV → List AO → Prop) : Prop := X p.1.1 p.1.2.1 p.1.2.2.1 (fun _b1 => K (ab _b1) [])
def P_z1l := cc (aa (j7 pc_x1) an) (an (Y := AO))
def H_z1l (X : Y_z1l) (p : P_z1l.T) (K : AV → List AO → Prop) : Prop := X p.1.1 (fun _b1 => K (ab _b1) [])
def P_z1j := cc (aa (j7 pc_x8) an) (an (Y := AO))
def H_z1j (X : Y_z1j) (p : P_z1j.T) (K : AV → List AO → Prop) : Prop := X p.1.1 (fun _b1 => K (ab _b1) [])
def P_z1k := cc (aa pS an) (an (Y := AO))
def H_z1k (X : Y_z1k) (p : P_z1k.T) (K : AV → List AO → Prop) : Prop := X p.1.1 (fun _b1 => K (ab _b1) [])
def P_z1n := cc (aa (j4 0) an) (aa (ei 9 1) an)
def H_z1n (X : Y_z1n) (p : P_z1n.T) (K : AV → List AO → Prop) : Prop := X p.2.1 (fun _b1 _r1 => K (ab _b1) [.row 9 1 _r1])
def P_z1o := cc (aa pA (aa qI an)) (an (Y := AO))
def H_z1o (X : Y_z1o) (p : P_z1o.T) (K : AV → List AO → Prop) : Prop := X p.1.1 p.1.2.1 (fun _b1 => K (ab _b1) [])
def P_z1i := cc (aa (j7 pc_xc) an) (an (Y := AO))
def H_z1i (X : Y_z1i) (p : P_z1i.T) (K : AV → List AO → Prop) : Prop := X p.1.1 (fun _b1 => K (ab _b1) [])
def P_z1m := cc (aa qI (aa qI (aa qI an))) (an (Y := AO))
def H_z1m (X : Y_z1m) (p : P_z1m.T) (K : AV → List AO → Prop) : Prop := X p.1.1 p.1.2.1 p.1.2.2.1 (fun _b1 => K (ab _b1) [])
def P_z1u := cc (aa pA an) (an (Y := AO))
def H_z1u (X : Y_z1u) (p : P_z1u.T) (K : AV → List AO → Prop) : Prop := X p.1.1 (fun _b1 => K (ab _b1) [])
def P_z1p := cc (aa pS an) (an (Y := AO))
def H_z1p (X : Y_z1p) (p : P_z1p.T) (K : AV → List AO → Prop) : Prop := X p.1.1 (fun _b1 => K (ab _b1) [])
def P_z1r := cc (aa (pI .u8) an) (an (Y := AO))
def H_z1r (X : Y_z1r) (p : P_z1r.T) (K : AV → List AO → Prop) : Prop := X p.1.1 (fun _b1 => K (ab _b1) [])
def P_z1q := cc (aa (pI .u8) an) (an (Y := AO))
def H_z1q (X : Y_z1q) (p : P_z1q.T) (K : AV → List AO → Prop) : Prop := X p.1.1 (fun _b1 => K (ab _b1) [])
def P_z25 := cc (aa (j7 pc_x1) (aa (j7 pc_x9) an)) (an (Y := AO))
def H_z25 (X : Y_z25) (p : P_z25.T) (K : AV → List AO → Prop) : Prop := X p.1.1 p.1.2.1 (fun _b1 => K (ab _b1) [])
def P_z1t := cc (aa (j7 pc_x1) (aa pA an)) (an (Y := AO))
def H_z1t (X : Y_z1t) (p : P_z1t.T) (K : AV → List AO → Prop) : Prop := X p.1.1 p.1.2.1 (fun _a1 => K (ar _a1) [])
def P_z26 := cc (aa pA (aa pA (aa pA an))) (an (Y := AO))
def H_z26 (X : Y_z26) (p : P_z26.T) (K : AV → List AO → Prop) : Prop := X p.1.1 p.1.2.1 p.1.2.2.1 (fun _b1 => K (ab _b1) [])
def P_z1w := cc (aa (j7 pc_xf) (aa pA (aa pA (aa qI (aa pB an))))) (an (Y := AO))
def H_z1w (X : Y_z1w) (p : P_z1w.T) (K : AV → List AO → Prop) : Prop := X p.1.1 p.1.2.1 p.1.2.2.1 p.1.2.2.2.1 p.1.2.2.2.2.1 (fun _b1 => K (ab _b1) [])
def P_z23 := cc (aa (j7 pc_xf) (aa pA (aa pA an))) (an (Y := AO))
def H_z23 (X : Y_z23) (p : P_z23.T) (K : AV → List AO → Prop) : Prop := X p.1.1 p.1.2.1 p.1.2.2.1 (fun _b1 => K (ab _b1) [])
def P_z1s := cc (aa (j7 pc_xa) an) (an (Y := AO))
def H_z1s (X : Y_z1s) (p : P_z1s.T) (K : AV → List AO → Prop) : Prop := X p.1.1 (fun _b1 => K (ab _b1) [])
def P_z1h := cc (aa (j7 pc_xa) an) (an (Y := AO))
def H_z1h (X : Y_z1h) (p : P_z1h.T) (K : AV → List AO → Prop) : Prop := X p.1.1 (fun _b1 => K (ab _b1) [])
def P_z1x := cc (aa qI an) (an (Y := AO))
def H_z1x (X : Y_z1x) (p : P_z1x.T) (K : AV → List AO → Prop) : Prop := X p.1.1 (fun _b1 => K (ab _b1) [])
def P_z22 := cc (aa qI (aa qI an)) (an (Y := AO))
def H_z22 (X : Y_z22) (p : P_z22.T) (K : AV → List AO → Prop) : Prop := X p.1.1 p.1.2.1 (fun _b1 => K (ab _b1) [])
def P_z21 := cc (aa qI (aa qI an)) (an (Y := AO))
def H_z21 (X : Y_z21) (p : P_z21.T) (K : AV → List AO → Prop) : Prop := X p.1.1 p.1.2.1 (fun _b1 => K (ab _b1) [])
def P_z28 := cc (aa qI an) (an (Y := AO))
def H_z28 (X : Y_z28) (p : P_z28.T) (K : AV → List AO → Prop) : Prop := X p.1.1 (fun _n1 => K (ai _n1) [])
def P_z27 := cc (aa qI (aa pA an)) (an (Y := AO))
def H_z27 (X : Y_z27) (p : P_z27.T) (K : AV → List AO → Prop) : Prop := X p.1.1 p.1.2.1 (fun _n1 => K (ai _n1) [])
def P_z24 := cc (aa (j7 pc_x9) (aa pA (aa pA an))) (an (Y := AO))
def H_z24 (X : Y_z24) (p : P_z24.T) (K : AV → List AO → Prop) : Prop := X p.1.1 p.1.2.1 p.1.2.2.1 (fun _b1 => K (ab _b1) [])
def P_z20 := cc (aa pA (aa pA an)) (an (Y := AO))
def H_z20 (X : Y_z20) (p : P_z20.T) (K : AV → List AO → Prop) : Prop := X p.1.1 p.1.2.1 (fun _b1 => K (ab _b1) [])
def P_z1y := cc (aa pA (aa qI an)) (an (Y := AO))
def H_z1y (X : Y_z1y) (p : P_z1y.T) (K : AV → List AO → Prop) : Prop := X p.1.1 p.1.2.1 (fun _b1 => K (ab _b1) [])
def P_z1z := cc (aa pA (aa pA (aa pA (aa (j4 0) an)))) (aa (ei 3 1) an)
def H_z1z (X : Y_z1z) (p : P_z1z.T) (K : AV → List AO → Prop) : Prop := X p.1.1 p.1.2.1 p.1.2.2.1 p.2.1 (fun _b1 _r1 => K (ab _b1) [.row 3 1 _r1])
def E3 (T : Tab) : bd := dt [⟨_, P_z1d, H_z1d T.f_z1d⟩]
def E7 (T : Tab) : bd := dt [⟨_, P_z1e, H_z1e T.f_z1e⟩]
def E8 (T : Tab) : bd := dt [⟨_, P_zb, H_zb T.f_zb⟩]
def E17 (T : Tab) : bd := dt [⟨_, P_zd, H_zd T.f_zd⟩]
def E46 (T : Tab) : bd := dt [⟨_, P_z0, H_z0 T.f_z0⟩]
def qz7 (T : Tab) : bd := dt [⟨_, P_z4, H_z4 T.f_z4⟩]
def qz8 (T : Tab) : bd := dt [⟨_, P_z3, H_z3 T.f_z3⟩]
def q05 (T : Tab) : bd := dt [⟨_, P_z6, H_z6 T.f_z6⟩]
def q1l (T : Tab) : bd := dt [⟨_, P_z2s, H_z2s T.f_z2s⟩]
def q1s (T : Tab) : bd := dt [⟨_, P_z2u, H_z2u T.f_z2u⟩]
def q1w (T : Tab) : bd := dt [⟨_, P_z2v, H_z2v T.f_z2v⟩]
def q1m (T : Tab) : bd := dt [⟨_, P_z7, H_z7 T.f_z7⟩]
def q04 (T : Tab) : bd := dt [⟨_, P_z5, H_z5 T.f_z5⟩]
def q06 (T : Tab) : bd := dt [⟨_, P_z9, H_z9 T.f_z9⟩]
def q07 (T : Tab) : bd := dt [⟨_, P_z8, H_z8 T.f_z8⟩]
def q08 (T : Tab) : bd := dt [⟨_, P_z2h, H_z2h T.f_z2h⟩]
def q1n (T : Tab) : bd := dt [⟨_, P_z2r, H_z2r T.f_z2r⟩]
def qz9 (T : Tab) : bd := dt [⟨_, P_z1, H_z1 T.f_z1⟩]
def q09 (T : Tab) : bd := dt [⟨_, P_z2g, H_z2g T.f_z2g⟩]
def q0o (T : Tab) : bd := dt [⟨_, P_z2q, H_z2q T.f_z2q⟩]
def q1a (T : Tab) : bd := dt [⟨_, P_z2, H_z2 T.f_z2⟩]
def E47 (T : Tab) : bd := dt [⟨_, P_zt, H_zt T.f_zt⟩]
def E84 (T : Tab) : bd := dt [⟨_, P_z1f, H_z1f T.f_z1f⟩]
def E66 (T : Tab) : bd := dt [⟨_, P_z1g, H_z1g T.f_z1g⟩]
def E68 (T : Tab) : bd := dt [⟨_, P_z2t, H_z2t T.f_z2t⟩]
def q0n (T : Tab) : bd := dt [⟨_, P_z1c, H_z1c T.f_z1c⟩]
def q1d (T : Tab) : bd := dt [⟨_, P_z1b, H_z1b T.f_z1b⟩]
def E18 (T : Tab) : bd := dt [⟨_, P_z18, H_z18 T.f_z18⟩]
def E48 (T : Tab) : bd := dt [⟨_, P_z19, H_z19 T.f_z19⟩]
def q0a (T : Tab) : bd := dt [⟨_, P_z2f, H_z2f T.f_z2f⟩, ⟨_, P_z2e, H_z2e T.f_z2e⟩]
def q1b (T : Tab) : bd := dt [⟨_, P_z2p, H_z2p T.f_z2p⟩, ⟨_, P_z2o, H_z2o T.f_z2o⟩]
def q0b (T : Tab) : bd := dt [⟨_, P_z1a, H_z1a T.f_z1a⟩]
def E49 (T : Tab) : bd := dt [⟨_, P_z15, H_z15 T.f_z15⟩]
def q0c (T : Tab) : bd := dt [⟨_, P_z14, H_z14 T.f_z14⟩]
def E50 (T : Tab) : bd := dt [⟨_, P_z13, H_z13 T.f_z13⟩]
def E51 (T : Tab) : bd := dt [⟨_, P_z29, H_z29 T.f_z29⟩]
def E52 (T : Tab) : bd := dt [⟨_, P_z2a, H_z2a T.f_z2a⟩]
def E53 (T : Tab) : bd := dt [⟨_, P_z16, H_z16 T.f_z16⟩]
def E54 (T : Tab) : bd := dt [⟨_, P_z17, H_z17 T.f_z17⟩]
def E11 (T : Tab) : bd := dt [⟨_, P_za, H_za T.f_za⟩]
def E35 (T : Tab) : bd := dt [⟨_, P_z2w, H_z2w T.f_z2w⟩]
def E85 (T : Tab) : bd := dt [⟨_, P_z35, H_z35 T.f_z35⟩]
def E31 (T : Tab) : bd := dt [⟨_, P_z2b, H_z2b T.f_z2b⟩, ⟨_, P_z2c, H_z2c T.f_z2c⟩]
def E82 (T : Tab) : bd := dt [⟨_, P_z2l, H_z2l T.f_z2l⟩, ⟨_, P_z2m, H_z2m T.f_z2m⟩]
def q0p (T : Tab) : bd := dt [⟨_, P_z36, H_z36 T.f_z36⟩]
def q0q (T : Tab) : bd := dt [⟨_, P_z2y, H_z2y T.f_z2y⟩]
def q1e (T : Tab) : bd := dt [⟨_, P_z37, H_z37 T.f_z37⟩]
def q1f (T : Tab) : bd := dt [⟨_, P_z2x, H_z2x T.f_z2x⟩]
def q03 (T : Tab) : bd := dt [⟨_, P_z39, H_z39 T.f_z39⟩]
def q1g (T : Tab) : bd := dt [⟨_, P_z2z, H_z2z T.f_z2z⟩]
def E86 (T : Tab) : bd := dt [⟨_, P_z31, H_z31 T.f_z31⟩]
def q0r (T : Tab) : bd := dt [⟨_, P_z30, H_z30 T.f_z30⟩]
def q0s (T : Tab) : bd := dt [⟨_, P_z38, H_z38 T.f_z38⟩]
def q0t (T : Tab) : bd := dt [⟨_, P_z32, H_z32 T.f_z32⟩]
def E87 (T : Tab) : bd := dt [⟨_, P_z33, H_z33 T.f_z33⟩]
def q0u (T : Tab) : bd := dt [⟨_, P_z2d, H_z2d T.f_z2d⟩]
def q1h (T : Tab) : bd := dt [⟨_, P_z2n, H_z2n T.f_z2n⟩]
def q0v (T : Tab) : bd := dt [⟨_, P_z34, H_z34 T.f_z34⟩]
def E36 (T : Tab) : bd := dt [⟨_, P_zo, H_zo T.f_zo⟩]
def E88 (T : Tab) : bd := dt [⟨_, P_zj, H_zj T.f_zj⟩]
def q0w (T : Tab) : bd := dt [⟨_, P_zw, H_zw T.f_zw⟩]
def q0x (T : Tab) : bd := dt [⟨_, P_zf, H_zf T.f_zf⟩]
def E89 (T : Tab) : bd := dt [⟨_, P_zm, H_zm T.f_zm⟩]
def E90 (T : Tab) : bd := dt [⟨_, P_zq, H_zq T.f_zq⟩]
def q0y (T : Tab) : bd := dt [⟨_, P_zk, H_zk T.f_zk⟩]
def q1i (T : Tab) : bd := dt [⟨_, P_zl, H_zl T.f_zl⟩]
def q1j (T : Tab) : bd := dt [⟨_, P_zp, H_zp T.f_zp⟩]
def q1p (T : Tab) : bd := dt [⟨_, P_zz, H_zz T.f_zz⟩]
def q1t (T : Tab) : bd := dt [⟨_, P_z10, H_z10 T.f_z10⟩]
def q1u (T : Tab) : bd := dt [⟨_, P_z11, H_z11 T.f_z11⟩]
def q1q (T : Tab) : bd := dt [⟨_, P_zy, H_zy T.f_zy⟩]
def q1r (T : Tab) : bd := dt [⟨_, P_zx, H_zx T.f_zx⟩]
def q1v (T : Tab) : bd := dt [⟨_, P_z12, H_z12 T.f_z12⟩]
def E91 (T : Tab) : bd := dt [⟨_, P_zh, H_zh T.f_zh⟩]
def E92 (T : Tab) : bd := dt [⟨_, P_zr, H_zr T.f_zr⟩]
def q0z (T : Tab) : bd := dt [⟨_, P_zs, H_zs T.f_zs⟩]
def E93 (T : Tab) : bd := dt [⟨_, P_ze, H_ze T.f_ze⟩]
def q00 (T : Tab) : bd := dt [⟨_, P_zg, H_zg T.f_zg⟩]
def q01 (T : Tab) : bd := dt [⟨_, P_zn, H_zn T.f_zn⟩]
def q02 (T : Tab) : bd := dt [⟨_, P_zi, H_zi T.f_zi⟩]
def q1k (T : Tab) : bd := dt [⟨_, P_zc, H_zc T.f_zc⟩]
def E19 (T : Tab) : bd := dt [⟨_, P_zv, H_zv T.f_zv⟩]
def E55 (T : Tab) : bd := dt [⟨_, P_z2k, H_z2k T.f_z2k⟩]
def E56 (T : Tab) : bd := dt [⟨_, P_z2j, H_z2j T.f_z2j⟩]
def E57 (T : Tab) : bd := dt [⟨_, P_z2i, H_z2i T.f_z2i⟩]
def E58 (T : Tab) : bd := dt [⟨_, P_zu, H_zu T.f_zu⟩]
def E9 (T : Tab) : bd := dt [⟨_, P_z1v, H_z1v T.f_z1v⟩]
def E20 (T : Tab) : bd := dt [⟨_, P_z1l, H_z1l T.f_z1l⟩]
def E59 (T : Tab) : bd := dt [⟨_, P_z1j, H_z1j T.f_z1j⟩]
def q0d (T : Tab) : bd := dt [⟨_, P_z1k, H_z1k T.f_z1k⟩]
def E61 (T : Tab) : bd := dt [⟨_, P_z1n, H_z1n T.f_z1n⟩]
def q0e (T : Tab) : bd := dt [⟨_, P_z1o, H_z1o T.f_z1o⟩]
def E60 (T : Tab) : bd := dt [⟨_, P_z1i, H_z1i T.f_z1i⟩]
def q0f (T : Tab) : bd := dt [⟨_, P_z1m, H_z1m T.f_z1m⟩]
def E21 (T : Tab) : bd := dt [⟨_, P_z1u, H_z1u T.f_z1u⟩]
def E62 (T : Tab) : bd := dt [⟨_, P_z1p, H_z1p T.f_z1p⟩]
def q0g (T : Tab) : bd := dt [⟨_, P_z1r, H_z1r T.f_z1r⟩]
def q0h (T : Tab) : bd := dt [⟨_, P_z1q, H_z1q T.f_z1q⟩]
def E22 (T : Tab) : bd := dt [⟨_, P_z25, H_z25 T.f_z25⟩]
def E23 (T : Tab) : bd := dt [⟨_, P_z1t, H_z1t T.f_z1t⟩]
def E24 (T : Tab) : bd := dt [⟨_, P_z26, H_z26 T.f_z26⟩]
def E63 (T : Tab) : bd := dt [⟨_, P_z1w, H_z1w T.f_z1w⟩]
def q0i (T : Tab) : bd := dt [⟨_, P_z23, H_z23 T.f_z23⟩]
def q1c (T : Tab) : bd := dt [⟨_, P_z1s, H_z1s T.f_z1s⟩]
def q1o (T : Tab) : bd := dt [⟨_, P_z1h, H_z1h T.f_z1h⟩]
def E64 (T : Tab) : bd := dt [⟨_, P_z1x, H_z1x T.f_z1x⟩]
def q0j (T : Tab) : bd := dt [⟨_, P_z22, H_z22 T.f_z22⟩]
def q0k (T : Tab) : bd := dt [⟨_, P_z21, H_z21 T.f_z21⟩]
def q0l (T : Tab) : bd := dt [⟨_, P_z28, H_z28 T.f_z28⟩]
def q0m (T : Tab) : bd := dt [⟨_, P_z27, H_z27 T.f_z27⟩]
def E25 (T : Tab) : bd := dt [⟨_, P_z24, H_z24 T.f_z24⟩]
def E65 (T : Tab) : bd := dt [⟨_, P_z20, H_z20 T.f_z20⟩]
def E27 (T : Tab) : bd := dt [⟨_, P_z1y, H_z1y T.f_z1y⟩]
def E26 (T : Tab) : bd := dt [⟨_, P_z1z, H_z1z T.f_z1z⟩]
def CT (T : Tab) : FuncId → bd := tab tf [(3, E3 T), (7, E7 T), (8, E8 T), (9, E9 T), (11, E11 T), (17, E17 T), (18, E18 T), (19, E19 T), (20, E20 T), (21, E21 T), (22, E22 T), (23, E23 T), (24, E24 T), (25, E25 T), (26, E26 T), (27, E27 T), (31, E31 T), (35, E35 T), (36, E36 T), (46, E46 T), (47, E47 T), (48, E48 T), (49, E49 T), (50, E50 T), (51, E51 T), (52, E52 T), (53, E53 T), (54, E54 T), (55, E55 T), (56, E56 T), (57, E57 T), (58, E58 T), (59, E59 T), (60, E60 T), (61, E61 T), (62, E62 T), (63, E63 T), (64, E64 T), (65, E65 T), (66, E66 T), (68, E68 T), (82, E82 T), (84, E84 T), (85, E85 T), (86, E86 T), (87, E87 T), (88, E88 T), (89, E89 T), (90, E90 T), (91, E91 T), (92, E92 T), (93, E93 T), (101, qz7 T), (102, qz8 T), (103, qz9 T), (104, q0a T), (105, q0b T), (106, q0c T), (107, q0d T), (108, q0e T), (109, q0f T), (110, q0g T), (111, q0h T), (112, q0i T), (113, q0j T), (114, q0k T), (115, q0l T), (116, q0m T), (118, q0n T), (125, q0o T), (137, q0p T), (138, q0q T), (139, q0r T), (140, q0s T), (141, q0t T), (142, q0u T), (143, q0v T), (144, q0w T), (145, q0x T), (146, q0y T), (147, q0z T), (148, q00 T), (149, q01 T), (150, q02 T), (152, q03 T), (157, q04 T), (158, q05 T), (159, q06 T), (160, q07 T), (161, q08 T), (162, q09 T), (163, q1a T), (164, q1b T), (165, q1c T), (166, q1d T), (172, q1e T), (173, q1f T), (174, q1g T), (175, q1h T), (176, q1i T), (177, q1j T), (178, q1k T), (185, q1l T), (186, q1m T), (187, q1n T), (188, q1o T), (195, q1p T), (196, q1q T), (197, q1r T), (208, q1s T), (216, q1t T), (217, q1u T), (218, q1v T), (228, q1w T)]
def wk (f : FuncId) : Bool := true
def wkB (f : FuncId) : Bool := false
def fzc (f : FuncId) : Bool := Nat.beq f 11
def pl : cn := fun t => tab (fun _ _ => none) [(62, kd [.i .i64, .i .i64, .s]), (110, kd [.i .i64, .b, .i .i64])] t
def mk := qqq Tryz.prog vw wk wkB fzc pl
def env_z1d (T : Tab) : Env := mk (CT T) 25 0 [] [] [] [6] [] []
def env_zb (T : Tab) : Env := mk (CT T) 49 0 [] [] [] [6] [] []
def PL_zd_0 := cc (pSl 6 (di 0 0) (pSl 22 pA (pSl 23 qI (pSl 24 qI an)))) (aa (dh (aa pA (aa pA (aa (fx 1) (aa (fx 2) (aa qI (aa qI an))))))) (aa (cw .str) (aa (cw .str2) an)))
def HL_zd_0 (X : YL_zd_0) (p : PL_zd_0.T) (K : Ex → St → Prop) : Prop := X p.1.2.1 p.1.2.2.1 p.1.2.2.2.1 p.2.1.1 p.2.1.2.1 p.2.1.2.2.2.2.1 p.2.1.2.2.2.2.2.1 p.2.2.1 p.2.2.2.1 (fun _a1 _a2 _n1 _n2 _m1 _m2 => K (.exit 0) ⟨[(6, .ptr 0 0)], [.box [ar _a1, ar _a2, .map 1, .map 2, ai _n1, ai _n2], .map .str _m1, .map .str2 _m2]⟩)
def Q_zd_0 (R0 : YL_zd_0) : ck := cu [⟨_, PL_zd_0, HL_zd_0 R0⟩]
def env_zd (T : Tab) : Env := mk (CT T) 41 0 [(0, Q_zd_0 (L_zd_0 T T.fuel))] [(0, [6, 22, 23, 24])] [(0, [(0, [6])])] [4, 5] [] [(7, [0, 1, 3, 7, 0, 16, 0, 0, 128, 448, 1023])]
def PL_z0_0 := cc (pSl 1 (di 0 0) (pSl 3 (ia 157 an (aa (di 1 0) an)) (pSl 4 (ia 157 an (aa (di 3 0) an)) (pSl 22 pA (pSl 23 qI (pSl 24 qI an)))))) (aa (dh pc_x1) (aa (dh (aa (fx 2) an)) (aa (cw .str) (aa (dh (aa (fx 4) an)) (aa (cw .str) an)))))
def HL_z0_0 (X : YL_z0_0) (p : PL_z0_0.T) (K : Ex → St → Prop) : Prop := X p.1.2.2.2.1 p.1.2.2.2.2.1 p.1.2.2.2.2.2.1 p.2.1 p.2.2.2.1 p.2.2.2.2.2.1 (K .ret ⟨[(2, ab false)], []⟩) (fun _x1 _m1 => K (.exit 0) ⟨[(1, .ptr 0 0), (4, .func (.func 157) [] [.ptr 1 0])], [.box [ar _x1.Tables, ar _x1.Procs], .box [.map 2], .map .str _m1]⟩)
def Q_z0_0 (R0 : YL_z0_0) : ck := cu [⟨_, PL_z0_0, HL_z0_0 R0⟩]
def PL_z0_2 := cc (pSl 4 (ia 157 an (aa (di 0 0) an)) (pSl 40 pA (pSl 41 qI (pSl 42 qI an)))) (aa (dh (aa (fx 1) an)) (aa (cw .str) an))
def HL_z0_2 (X : YL_z0_2) (p : PL_z0_2.T) (K : Ex → St → Prop) : Prop := X p.1.2.1 p.1.2.2.1 p.1.2.2.2.1 p.2.2.1 (K .ret ⟨[(2, ab false)], []⟩) (K (.exit 2) ⟨[], []⟩)
def Q_z0_2 (R0 : YL_z0_2) : ck := cu [⟨_, PL_z0_2, HL_z0_2 R0⟩]
def env_z0 (T : Tab) : Env := mk (CT T) 57 0 [(0, Q_z0_0 (L_z0_0 T T.fuel)), (2, Q_z0_2 (L_z0_2 T T.fuel))] [(0, [1, 3, 4, 22, 23, 24]), (2, [4, 40, 41, 42])] [(0, [(0, [1, 4])]), (2, [(2, [])])] [2] [] []
def env_z4 (T : Tab) : Env := mk (CT T) 4 0 [] [] [] [0] [] []
def PL_z3_0 := cc (pSl 1 (di 0 0) (pSl 3 (ia 157 an (aa (di 1 0) an)) (pSl 4 (ia 157 an (aa (di 3 0) an)) (pSl 36 pA (pSl 37 qI (pSl 38 qI an)))))) (aa (dh pc_x8) (aa (dh (aa (fx 2) an)) (aa (cw .str) (aa (dh (aa (fx 4) an)) (aa (cw .str) an)))))
def HL_z3_0 (X : YL_z3_0) (p : PL_z3_0.T) (K : Ex → St → Prop) : Prop := X p.1.2.2.2.1 p.1.2.2.2.2.1 p.1.2.2.2.2.2.1 p.2.1 p.2.2.2.1 p.2.2.2.2.2.1 (K .ret ⟨[(2, ab false)], []⟩) (fun _x1 _m1 => K (.exit 0) ⟨[(1, .ptr 0 0), (4, .func (.func 157) [] [.ptr 1 0])], [.box [aw _x1.Name, ar _x1.Columns, ar _x1.Key, ai _x1.Part, ar _x1.Indexes], .box [.map 2], .map .str _m1]⟩)
def Q_z3_0 (R0 : YL_z3_0) : ck := cu [⟨_, PL_z3_0, HL_z3_0 R0⟩]
def PL_z3_2 := cc (pSl 1 (di 0 0) (pSl 4 (ia 157 an (aa (di 1 0) an)) (pSl 70 pA (pSl 71 qI (pSl 72 qI an))))) (aa (dh pc_x8) (aa (dh (aa (fx 2) an)) (aa (cw .str) an)))
def HL_z3_2 (X : YL_z3_2) (p : PL_z3_2.T) (K : Ex → St → Prop) : Prop := X p.1.2.2.1 p.1.2.2.2.1 p.1.2.2.2.2.1 p.2.1 p.2.2.2.1 (K .ret ⟨[(2, ab false)], []⟩) (fun _x1 _m1 => K (.exit 2) ⟨[(1, .ptr 0 0), (4, .func (.func 157) [] [.ptr 1 0])], [.box [aw _x1.Name, ar _x1.Columns, ar _x1.Key, ai _x1.Part, ar _x1.Indexes], .box [.map 2], .map .str _m1]⟩)
def Q_z3_2 (R0 : YL_z3_2) : ck := cu [⟨_, PL_z3_2, HL_z3_2 R0⟩]
def PL_z3_4 := cc (pSl 1 (di 0 0) (pSl 4 (ia 157 an (aa (di 1 0) an)) (pSl 85 pA (pSl 86 qI (pSl 87 qI an))))) (aa (dh pc_x8) (aa (dh (aa (fx 2) an)) (aa (cw .str) an)))
def HL_z3_4 (X : YL_z3_4) (p : PL_z3_4.T) (K : Ex → St → Prop) : Prop := X p.1.2.2.1 p.1.2.2.2.1 p.1.2.2.2.2.1 p.2.1 p.2.2.2.1 (K .ret ⟨[(2, ab false)], []⟩) (K (.exit 4) ⟨[], []⟩)
def Q_z3_4 (R0 : YL_z3_4) : ck := cu [⟨_, PL_z3_4, HL_z3_4 R0⟩]
def env_z3 (T : Tab) : Env := mk (CT T) 106 0 [(0, Q_z3_0 (L_z3_0 T T.fuel)), (2, Q_z3_2 (L_z3_2 T T.fuel)), (4, Q_z3_4 (L_z3_4 T T.fuel))] [(0, [1, 3, 4, 36, 37, 38]), (2, [1, 4, 70, 71, 72]), (4, [1, 4, 85, 86, 87])] [(0, [(0, [1, 4])]), (2, [(2, [1, 4])]), (4, [(4, [])])] [2] [] []
def env_z6 (T : Tab) : Env := mk (CT T) 23 0 [] [] [] [2] [] []
def env_z2s (T : Tab) : Env := mk (CT T) 9 0 [] [] [] [4] [] []
def env_z2u (T : Tab) : Env := mk (CT T) 8 0 [] [] [] [4] [] []
def PL_z2v_0 := cc (pSl 1 (ia 186 an an) (pSl 2 pB (pSl 10 (q7a 0) an))) (aa qzi an)
def HL_z2v_0 (X : YL_z2v_0) (p : PL_z2v_0.T) (K : Ex → St → Prop) : Prop := X p.1.2.1 p.2.1.1 p.2.1.2 (fun _n1 => K .ret ⟨[(6, ai _n1)], []⟩) (K (.exit 0) ⟨[], []⟩)
def Q_z2v_0 (R0 : YL_z2v_0) : ck := cu [⟨_, PL_z2v_0, HL_z2v_0 R0⟩]
def env_z2v (T : Tab) : Env := mk (CT T) 21 0 [(0, Q_z2v_0 (L_z2v_0 T T.fuel))] [(0, [1, 2, 10])] [(0, [(0, [])])] [6] [] []
def env_z7 (T : Tab) : Env := mk (CT T) 21 0 [] [] [] [2] [] []
def env_z5 (T : Tab) : Env := mk (CT T) 16 2 [] [] [] [3] [] []
def env_z9 (T : Tab) : Env := mk (CT T) 9 0 [] [] [] [2] [] []
def PL_z8_0 := cc (pSl 0 pA (pSl 1 qI (pSl 5 (fx 0) (pSl 9 pA (pSl 10 qI (pSl 11 qI an)))))) (aa (cw (.int .i64)) an)
def HL_z8_0 (X : YL_z8_0) (p : PL_z8_0.T) (K : Ex → St → Prop) : Prop := X p.1.1 p.1.2.1 p.1.2.2.2.1 p.1.2.2.2.2.1 p.1.2.2.2.2.2.1 p.2.1 (K .ret ⟨[(4, ab false)], []⟩) (fun _a1 => K (.exit 0) ⟨[(0, ar _a1)], []⟩)
def Q_z8_0 (R0 : YL_z8_0) : ck := cu [⟨_, PL_z8_0, HL_z8_0 R0⟩]
def env_z8 (T : Tab) : Env := mk (CT T) 38 0 [(0, Q_z8_0 (L_z8_0 T T.fuel))] [(0, [0, 1, 5, 9, 10, 11])] [(0, [(0, [0])])] [4] [] []
def env_z2h (T : Tab) : Env := mk (CT T) 9 0 [] [] [] [4] [] []
def PL_z2r_0 := cc (pSl 0 pA (pSl 1 qI (pSl 7 qI (pSl 8 qI an)))) (an (Y := AO))
def HL_z2r_0 (X : YL_z2r_0) (p : PL_z2r_0.T) (K : Ex → St → Prop) : Prop := X p.1.1 p.1.2.1 p.1.2.2.1 p.1.2.2.2.1 (fun _n1 => K .ret ⟨[(4, ai _n1)], []⟩) (K (.exit 0) ⟨[], []⟩)
def Q_z2r_0 (R0 : YL_z2r_0) : ck := cu [⟨_, PL_z2r_0, HL_z2r_0 R0⟩]
def env_z2r (T : Tab) : Env := mk (CT T) 19 0 [(0, Q_z2r_0 (L_z2r_0 T T.fuel))] [(0, [0, 1, 7, 8])] [(0, [(0, [])])] [4] [] []
def PL_z1_0 := cc (pSl 1 (di 0 0) (pSl 3 (ia 157 an (aa (di 1 0) an)) (pSl 50 pA (pSl 51 qI (pSl 52 qI an))))) (aa (dh pc_xc) (aa (dh (aa (fx 2) an)) (aa (cw .str) an)))
def HL_z1_0 (X : YL_z1_0) (p : PL_z1_0.T) (K : Ex → St → Prop) : Prop := X p.1.2.2.1 p.1.2.2.2.1 p.1.2.2.2.2.1 p.2.1 p.2.2.2.1 (K .ret ⟨[(2, ab false)], []⟩) (fun _x1 => K (.exit 0) ⟨[(1, .ptr 0 0)], [.box [aw _x1.Name, ar _x1.Params, ar _x1.Body, ai _x1.Rows, ai _x1.Bytes]]⟩)
def Q_z1_0 (R0 : YL_z1_0) : ck := cu [⟨_, PL_z1_0, HL_z1_0 R0⟩]
def env_z1 (T : Tab) : Env := mk (CT T) 72 0 [(0, Q_z1_0 (L_z1_0 T T.fuel))] [(0, [1, 3, 50, 51, 52])] [(0, [(0, [1])])] [2] [] []
def env_z2g (T : Tab) : Env := mk (CT T) 9 0 [] [] [] [4] [] []
def PL_z2q_0 := cc (pSl 0 pA (pSl 1 (ia 163 an an) (pSl 7 qI (pSl 8 qI an)))) (an (Y := AO))
def HL_z2q_0 (X : YL_z2q_0) (p : PL_z2q_0.T) (K : Ex → St → Prop) : Prop := X p.1.1 p.1.2.2.1 p.1.2.2.2.1 (fun _n1 => K .ret ⟨[(4, ai _n1)], []⟩) (K (.exit 0) ⟨[], []⟩)
def Q_z2q_0 (R0 : YL_z2q_0) : ck := cu [⟨_, PL_z2q_0, HL_z2q_0 R0⟩]
def env_z2q (T : Tab) : Env := mk (CT T) 19 0 [(0, Q_z2q_0 (L_z2q_0 T T.fuel))] [(0, [0, 1, 7, 8])] [(0, [(0, [])])] [4] [] []
def env_z2 (T : Tab) : Env := mk (CT T) 10 0 [] [] [] [2] [] []
def PL_zt_0 := cc (pSl 0 pA (pSl 3 (fx 0) (pSl 7 pA (pSl 8 qI (pSl 9 qI an))))) (aa (cw .str) an)
def HL_zt_0 (X : YL_zt_0) (p : PL_zt_0.T) (K : Ex → St → Prop) : Prop := X p.1.1 p.1.2.2.1 p.1.2.2.2.1 p.1.2.2.2.2.1 p.2.1 (K .ret ⟨[(2, ab false)], []⟩) (fun _a1 => K (.exit 0) ⟨[(0, ar _a1)], []⟩)
def Q_zt_0 (R0 : YL_zt_0) : ck := cu [⟨_, PL_zt_0, HL_zt_0 R0⟩]
def env_zt (T : Tab) : Env := mk (CT T) 43 0 [(0, Q_zt_0 (L_zt_0 T T.fuel))] [(0, [0, 3, 7, 8, 9])] [(0, [(0, [0])])] [2] [] []
def PL_z1f_0 := cc (pSl 0 pS (pSl 6 qI (pSl 7 qI an))) (an (Y := AO))
def HL_z1f_0 (X : YL_z1f_0) (p : PL_z1f_0.T) (K : Ex → St → Prop) : Prop := X p.1.1 p.1.2.1 p.1.2.2.1 (K .ret ⟨[(2, ab false)], []⟩) (fun _s1 => K (.exit 0) ⟨[(0, aw _s1)], []⟩)
def Q_z1f_0 (R0 : YL_z1f_0) : ck := cu [⟨_, PL_z1f_0, HL_z1f_0 R0⟩]
def env_z1f (T : Tab) : Env := mk (CT T) 38 0 [(0, Q_z1f_0 (L_z1f_0 T T.fuel))] [(0, [0, 6, 7])] [(0, [(0, [0])])] [2] [] []
def env_z1g (T : Tab) : Env := mk (CT T) 52 0 [] [] [] [2] [] []
def env_z2t (T : Tab) : Env := mk (CT T) 8 0 [] [] [] [4] [] []
def env_z1c (T : Tab) : Env := mk (CT T) 8 0 [] [] [] [4] [] []
def PL_z18_0 := cc (pSl 0 (di 0 0) (pSl 2 (di 1 0) (pSl 4 pA (pSl 104 pA (pSl 105 qI (pSl 106 qI an)))))) (aa (dh pc_x0) (aa (dh (aa qI (aa pS (aa pS (aa pA (aa pA (aa (pN 1) (aa pB (aa (pN 1) (aa (j4 2) (aa (pN 1) (aa (pN 1) (aa qI (aa qI an)))))))))))))) (aa (ei 93 9) an)))
def HL_z18_0 (X : YL_z18_0) (p : PL_z18_0.T) (K : Ex → St → Prop) : Prop := X p.1.2.2.1 p.1.2.2.2.1 p.1.2.2.2.2.1 p.1.2.2.2.2.2.1 p.2.1 p.2.2.1.1 p.2.2.1.2.1 p.2.2.1.2.2.1 p.2.2.1.2.2.2.1 p.2.2.1.2.2.2.2.1 p.2.2.1.2.2.2.2.2.2.1 p.2.2.1.2.2.2.2.2.2.2.2.2.2.2.1 p.2.2.1.2.2.2.2.2.2.2.2.2.2.2.2.1 p.2.2.2.1 (fun _x1 _n1 _s1 _s2 _a1 _a2 _b1 _n2 _n3 _r1 => K .ret ⟨[(2, .ptr 1 0), (3, ab false)], [.box [ar _x1.c_Tables, ar _x1.c_Procs, ar _x1.params, ai _x1.t_Kind, ar _x1.t_Tables, ar _x1.t_On, ar _x1.t_Where, ar _x1.t_Items, ar _x1.t_Columns, ab _x1.t_Grouped, ar _x1.t_Groups, ar _x1.t_Sorts, ar _x1.t_Limit, ar _x1.t_Types], .box [ai _n1, aw _s1, aw _s2, ar _a1, ar _a2, .p .nils, ab _b1, .p .nils, .row 2, .p .nils, .p .nils, ai _n2, ai _n3], .row 93 9 _r1]⟩) (fun _a3 _x2 _n4 _s3 _s4 _a4 _a5 _b2 _n5 _n6 _r2 => K (.exit 0) ⟨[(0, .ptr 0 0), (2, .ptr 1 0), (4, ar _a3)], [.box [ar _x2.c_Tables, ar _x2.c_Procs, ar _x2.params, ai _x2.t_Kind, ar _x2.t_Tables, ar _x2.t_On, ar _x2.t_Where, ar _x2.t_Items, ar _x2.t_Columns, ab _x2.t_Grouped, ar _x2.t_Groups, ar _x2.t_Sorts, ar _x2.t_Limit, ar _x2.t_Types], .box [ai _n4, aw _s3, aw _s4, ar _a4, ar _a5, .p .nils, ab _b2, .p .nils, .row 2, .p .nils, .p .nils, ai _n5, ai _n6], .row 93 9 _r2]⟩)
def Q_z18_0 (R0 : YL_z18_0) : ck := cu [⟨_, PL_z18_0, HL_z18_0 R0⟩]
def env_z18 (T : Tab) : Env := mk (CT T) 163 1 [(0, Q_z18_0 (L_z18_0 T T.fuel))] [(0, [0, 2, 4, 104, 105, 106])] [(0, [(0, [0, 2, 4])])] [2, 3] [(0, [(93, (2, some 8))])] [(3, [0, 1, 3, 7, 15, 0, 32, 96, 224, 480, 0, 1024, 3072, 7168, 15360, 31744, 64512, 131040, 262112, 524256, 1048575, 2097151, 4194303, 8388607]), (5, [0, 1, 3, 7, 15, 0, 32, 96, 224, 480, 992, 2016, 4095, 8191, 16383, 32767, 65535]), (21, [0, 1, 0, 3, 0, 31, 63, 127, 63, 319]), (23, [0, 1, 3, 7, 15, 31, 0, 64, 192, 448, 960, 2047, 4095, 8191, 16383, 32767])]
def env_z19 (T : Tab) : Env := mk (CT T) 29 1 [] [] [] [2] [] []
def env_z2f (T : Tab) : Env := mk (CT T) 9 2 [] [] [] [4] [] []
def PL_z2p_0 := cc (pSl 0 pA (pSl 1 (ia 105 an (aa (di 0 0) an)) (pSl 7 qI (pSl 8 qI an)))) (aa (dh (aa (di 1 0) an)) (aa (dh pc_x0) an))
def HL_z2p_0 (X : YL_z2p_0) (p : PL_z2p_0.T) (K : Ex → St → Prop) : Prop := X p.1.1 p.1.2.2.1 p.1.2.2.2.1 p.2.2.1 (fun _n1 _x1 => K .ret ⟨[(4, ai _n1)], [.box [.ptr 1 0], .box [ar _x1.c_Tables, ar _x1.c_Procs, ar _x1.params, ai _x1.t_Kind, ar _x1.t_Tables, ar _x1.t_On, ar _x1.t_Where, ar _x1.t_Items, ar _x1.t_Columns, ab _x1.t_Grouped, ar _x1.t_Groups, ar _x1.t_Sorts, ar _x1.t_Limit, ar _x1.t_Types]]⟩) (fun _x2 => K (.exit 0) ⟨[], [.box [.ptr 1 0], .box [ar _x2.c_Tables, ar _x2.c_Procs, ar _x2.params, ai _x2.t_Kind, ar _x2.t_Tables, ar _x2.t_On, ar _x2.t_Where, ar _x2.t_Items, ar _x2.t_Columns, ab _x2.t_Grouped, ar _x2.t_Groups, ar _x2.t_Sorts, ar _x2.t_Limit, ar _x2.t_Types]]⟩)
def Q_z2p_0 (R0 : YL_z2p_0) : ck := cu [⟨_, PL_z2p_0, HL_z2p_0 R0⟩]
def env_z2p (T : Tab) : Env := mk (CT T) 19 2 [(0, Q_z2p_0 (L_z2p_0 T T.fuel))] [(0, [0, 1, 7, 8])] [(0, [(0, [])])] [4] [] []
def env_z1a (T : Tab) : Env := mk (CT T) 16 2 [] [] [] [3] [] []
def PL_z15_0 := cc (pSl 0 (di 0 0) (pSl 4 (j4 1) (pSl 10 pA (pSl 11 qI (pSl 12 qI an))))) (aa (dh pc_x0) (aa (ei 93 9) an))
def HL_z15_0 (X : YL_z15_0) (p : PL_z15_0.T) (K : Ex → St → Prop) : Prop := X p.1.2.2.1 p.1.2.2.2.1 p.1.2.2.2.2.1 p.2.1 p.2.2.1 (fun _x1 => K .ret ⟨[(4, .p .nils), (5, ab false)], [.box [ar _x1.c_Tables, ar _x1.c_Procs, ar _x1.params, ai _x1.t_Kind, ar _x1.t_Tables, ar _x1.t_On, ar _x1.t_Where, ar _x1.t_Items, ar _x1.t_Columns, ab _x1.t_Grouped, ar _x1.t_Groups, ar _x1.t_Sorts, ar _x1.t_Limit, ar _x1.t_Types]]⟩) (fun _x2 _r1 => K (.exit 0) ⟨[(4, .row 1)], [.box [ar _x2.c_Tables, ar _x2.c_Procs, ar _x2.params, ai _x2.t_Kind, ar _x2.t_Tables, ar _x2.t_On, ar _x2.t_Where, ar _x2.t_Items, ar _x2.t_Columns, ab _x2.t_Grouped, ar _x2.t_Groups, ar _x2.t_Sorts, ar _x2.t_Limit, ar _x2.t_Types], .row 93 9 _r1]⟩)
def Q_z15_0 (R0 : YL_z15_0) : ck := cu [⟨_, PL_z15_0, HL_z15_0 R0⟩]
def env_z15 (T : Tab) : Env := mk (CT T) 30 1 [(0, Q_z15_0 (L_z15_0 T T.fuel))] [(0, [0, 4, 10, 11, 12])] [(0, [(0, [4])])] [4, 5] [(0, [(93, (4, none))])] []
def PL_z14_1 := cc (pSl 0 (di 0 0) (pSl 2 qI (pSl 6 (di 1 0) (pSl 8 (di 2 0) (pSl 71 pA (pSl 72 qI (pSl 73 qI an))))))) (aa (dh pc_x0) (aa (dh (aa qI (aa qI (aa qI (aa qI (aa pS (aa pS (aa pS (aa (pN 1) (aa qI an)))))))))) (aa (dh (aa qI (aa qI (aa qI (aa qI (aa pS (aa pS (aa pS (aa (j4 3) (aa qI an)))))))))) (aa (ei 93 9) an))))
def HL_z14_1 (X : YL_z14_1) (p : PL_z14_1.T) (K : Ex → St → Prop) : Prop := X p.1.2.1 p.1.2.2.2.2.1 p.1.2.2.2.2.2.1 p.1.2.2.2.2.2.2.1 p.2.1 p.2.2.1.1 p.2.2.1.2.1 p.2.2.1.2.2.1 p.2.2.1.2.2.2.1 p.2.2.1.2.2.2.2.1 p.2.2.1.2.2.2.2.2.1 p.2.2.1.2.2.2.2.2.2.1 p.2.2.1.2.2.2.2.2.2.2.2.1 p.2.2.2.1.1 p.2.2.2.1.2.1 p.2.2.2.1.2.2.1 p.2.2.2.1.2.2.2.1 p.2.2.2.1.2.2.2.2.1 p.2.2.2.1.2.2.2.2.2.1 p.2.2.2.1.2.2.2.2.2.2.1 p.2.2.2.1.2.2.2.2.2.2.2.2.1 p.2.2.2.2.1 (fun _x1 _n1 _n2 _n3 _n4 _s1 _s2 _s3 _n5 => K .ret ⟨[(6, .ptr 1 0), (7, ab false)], [.box [ar _x1.c_Tables, ar _x1.c_Procs, ar _x1.params, ai _x1.t_Kind, ar _x1.t_Tables, ar _x1.t_On, ar _x1.t_Where, ar _x1.t_Items, ar _x1.t_Columns, ab _x1.t_Grouped, ar _x1.t_Groups, ar _x1.t_Sorts, ar _x1.t_Limit, ar _x1.t_Types], .box [ai _n1, ai _n2, ai _n3, ai _n4, aw _s1, aw _s2, aw _s3, .p .nils, ai _n5]]⟩) (fun _x2 _n6 _n7 _n8 _n9 _s4 _s5 _s6 _n10 _n11 _n12 _n13 _n14 _s7 _s8 _s9 _n15 _r1 => K (.exit 1) ⟨[(6, .ptr 1 0), (8, .ptr 2 0)], [.box [ar _x2.c_Tables, ar _x2.c_Procs, ar _x2.params, ai _x2.t_Kind, ar _x2.t_Tables, ar _x2.t_On, ar _x2.t_Where, ar _x2.t_Items, ar _x2.t_Columns, ab _x2.t_Grouped, ar _x2.t_Groups, ar _x2.t_Sorts, ar _x2.t_Limit, ar _x2.t_Types], .box [ai _n6, ai _n7, ai _n8, ai _n9, aw _s4, aw _s5, aw _s6, .p .nils, ai _n10], .box [ai _n11, ai _n12, ai _n13, ai _n14, aw _s7, aw _s8, aw _s9, .row 3, ai _n15], .row 93 9 _r1]⟩)
def Q_z14_1 (R0 : YL_z14_1) : ck := cu [⟨_, PL_z14_1, HL_z14_1 R0⟩]
def env_z14 (T : Tab) : Env := mk (CT T) 96 1 [(1, Q_z14_1 (L_z14_1 T T.fuel))] [(1, [0, 2, 6, 8, 71, 72, 73])] [(1, [(1, [6, 8])])] [6, 7] [(1, [(93, (8, some 7))])] [(4, [0, 1, 3, 7, 15, 31, 15, 79, 207, 463, 975, 2047, 4095]), (6, [0, 1, 0, 4, 12, 28, 0, 64, 252, 508, 1020, 2047, 4095, 8191])]
def PL_z13_0 := cc (pSl 0 (di 0 0) (pSl 1 qI (pSl 4 (di 1 0) (pSl 13 pA (pSl 14 qI (pSl 15 qI an)))))) (aa (dh pc_x0) (aa (dh (aa qI (aa qI (aa qI (aa qI (aa pS (aa pS (aa pS (aa (pN 1) (aa qI an)))))))))) an))
def HL_z13_0 (X : YL_z13_0) (p : PL_z13_0.T) (K : Ex → St → Prop) : Prop := X p.1.2.1 p.1.2.2.2.1 p.1.2.2.2.2.1 p.1.2.2.2.2.2.1 p.2.1 p.2.2.1.1 p.2.2.1.2.1 p.2.2.1.2.2.1 p.2.2.1.2.2.2.1 p.2.2.1.2.2.2.2.1 p.2.2.1.2.2.2.2.2.1 p.2.2.1.2.2.2.2.2.2.1 p.2.2.1.2.2.2.2.2.2.2.2.1 (fun _x1 _n1 _n2 _n3 _n4 _s1 _s2 _s3 _n5 => K .ret ⟨[(4, .ptr 1 0), (5, ab true)], [.box [ar _x1.c_Tables, ar _x1.c_Procs, ar _x1.params, ai _x1.t_Kind, ar _x1.t_Tables, ar _x1.t_On, ar _x1.t_Where, ar _x1.t_Items, ar _x1.t_Columns, ab _x1.t_Grouped, ar _x1.t_Groups, ar _x1.t_Sorts, ar _x1.t_Limit, ar _x1.t_Types], .box [ai _n1, ai _n2, ai _n3, ai _n4, aw _s1, aw _s2, aw _s3, .p .nils, ai _n5]]⟩) (fun _x2 _n6 _n7 _n8 _n9 _s4 _s5 _s6 _n10 => K (.exit 0) ⟨[(4, .ptr 1 0)], [.box [ar _x2.c_Tables, ar _x2.c_Procs, ar _x2.params, ai _x2.t_Kind, ar _x2.t_Tables, ar _x2.t_On, ar _x2.t_Where, ar _x2.t_Items, ar _x2.t_Columns, ab _x2.t_Grouped, ar _x2.t_Groups, ar _x2.t_Sorts, ar _x2.t_Limit, ar _x2.t_Types], .box [ai _n6, ai _n7, ai _n8, ai _n9, aw _s4, aw _s5, aw _s6, .p .nils, ai _n10]]⟩)
def Q_z13_0 (R0 : YL_z13_0) : ck := cu [⟨_, PL_z13_0, HL_z13_0 R0⟩]
def env_z13 (T : Tab) : Env := mk (CT T) 52 1 [(0, Q_z13_0 (L_z13_0 T T.fuel))] [(0, [0, 1, 4, 13, 14, 15])] [(0, [(0, [4])])] [4, 5] [] [(6, [0, 1, 0, 4, 0, 28, 60, 124, 255, 511, 1023])]
def PL_z16_0 := cc (pSl 1 (di 1 0) (pSl 2 pA (pSl 7 (di 4 0) (pSl 37 pA (pSl 38 qI (pSl 39 qI an)))))) (aa (dh pc_x0) (aa (dh (aa qI (aa pS (aa pS (aa pA (aa pA (aa (pN 1) (aa pB (aa (j4 3) (aa (j4 2) (aa pA (aa pA (aa qI (aa qI an)))))))))))))) (aa (ei 93 9) (aa (ei 107 11) (aa (dh pc_x8) an)))))
def HL_z16_0 (X : YL_z16_0) (p : PL_z16_0.T) (K : Ex → St → Prop) : Prop := X p.1.2.1 p.1.2.2.2.1 p.1.2.2.2.2.1 p.1.2.2.2.2.2.1 p.2.1 p.2.2.1.1 p.2.2.1.2.1 p.2.2.1.2.2.1 p.2.2.1.2.2.2.1 p.2.2.1.2.2.2.2.1 p.2.2.1.2.2.2.2.2.2.1 p.2.2.1.2.2.2.2.2.2.2.2.2.1 p.2.2.1.2.2.2.2.2.2.2.2.2.2.1 p.2.2.1.2.2.2.2.2.2.2.2.2.2.2.1 p.2.2.1.2.2.2.2.2.2.2.2.2.2.2.2.1 p.2.2.2.1 p.2.2.2.2.1 p.2.2.2.2.2.1 (fun _x1 _n1 _s1 _s2 _a1 _a2 _b1 _a3 _a4 _n2 _n3 _r1 _r2 => K .ret ⟨[(6, ab false)], [.box [ar _x1.c_Tables, ar _x1.c_Procs, ar _x1.params, ai _x1.t_Kind, ar _x1.t_Tables, ar _x1.t_On, ar _x1.t_Where, ar _x1.t_Items, ar _x1.t_Columns, ab _x1.t_Grouped, ar _x1.t_Groups, ar _x1.t_Sorts, ar _x1.t_Limit, ar _x1.t_Types], .box [ai _n1, aw _s1, aw _s2, ar _a1, ar _a2, .p .nils, ab _b1, .row 3, .row 2, ar _a3, ar _a4, ai _n2, ai _n3], .row 93 9 _r1, .row 107 11 _r2]⟩) (fun _x2 _n4 _s3 _s4 _a5 _a6 _b2 _a7 _a8 _n5 _n6 _r3 _r4 => K (.exit 0) ⟨[], [.box [ar _x2.c_Tables, ar _x2.c_Procs, ar _x2.params, ai _x2.t_Kind, ar _x2.t_Tables, ar _x2.t_On, ar _x2.t_Where, ar _x2.t_Items, ar _x2.t_Columns, ab _x2.t_Grouped, ar _x2.t_Groups, ar _x2.t_Sorts, ar _x2.t_Limit, ar _x2.t_Types], .box [ai _n4, aw _s3, aw _s4, ar _a5, ar _a6, .p .nils, ab _b2, .row 3, .row 2, ar _a7, ar _a8, ai _n5, ai _n6], .row 93 9 _r3, .row 107 11 _r4]⟩)
def Q_z16_0 (R0 : YL_z16_0) : ck := cu [⟨_, PL_z16_0, HL_z16_0 R0⟩]
def env_z16 (T : Tab) : Env := mk (CT T) 74 3 [(0, Q_z16_0 (L_z16_0 T T.fuel))] [(0, [1, 2, 7, 37, 38, 39])] [(0, [(0, [])])] [6] [(0, [(107, (1, some 7))])] [(1, [0, 1, 3, 7, 15, 0, 32, 96, 224, 480, 992, 2016, 4095, 8191, 0, 32767]), (9, [0, 0, 2, 6, 14, 0, 32, 0, 224, 480, 992, 0, 0, 6144, 14336, 32736, 65504, 131070, 262143, 524287, 1048575])]
def PL_z17_0 := cc (pSl 0 (di 0 0) (pSl 18 pA (pSl 19 qI (pSl 20 qI an)))) (aa (dh pc_x0) an)
def HL_z17_0 (X : YL_z17_0) (p : PL_z17_0.T) (K : Ex → St → Prop) : Prop := X p.1.2.1 p.1.2.2.1 p.1.2.2.2.1 p.2.1 (fun _x1 => K .ret ⟨[(2, ab false)], [.box [ar _x1.c_Tables, ar _x1.c_Procs, ar _x1.params, ai _x1.t_Kind, ar _x1.t_Tables, ar _x1.t_On, ar _x1.t_Where, ar _x1.t_Items, ar _x1.t_Columns, ab _x1.t_Grouped, ar _x1.t_Groups, ar _x1.t_Sorts, ar _x1.t_Limit, ar _x1.t_Types]]⟩) (fun _x2 => K (.exit 0) ⟨[(0, .ptr 0 0)], [.box [ar _x2.c_Tables, ar _x2.c_Procs, ar _x2.params, ai _x2.t_Kind, ar _x2.t_Tables, ar _x2.t_On, ar _x2.t_Where, ar _x2.t_Items, ar _x2.t_Columns, ab _x2.t_Grouped, ar _x2.t_Groups, ar _x2.t_Sorts, ar _x2.t_Limit, ar _x2.t_Types]]⟩)
def Q_z17_0 (R0 : YL_z17_0) : ck := cu [⟨_, PL_z17_0, HL_z17_0 R0⟩]
def env_z17 (T : Tab) : Env := mk (CT T) 48 1 [(0, Q_z17_0 (L_z17_0 T T.fuel))] [(0, [0, 18, 19, 20])] [(0, [(0, [0])])] [2] [] []
def env_za (T : Tab) : Env := mk (CT T) 41 0 [] [] [] [6, 7] [] [(8, [0, 0, 2, 6, 14, 1, 63])]
def env_z2w (T : Tab) : Env := mk (CT T) 112 0 [] [] [] [2] [] [(7, [0, 1, 3, 0, 8, 24, 7, 127])]
def env_z35 (T : Tab) : Env := mk (CT T) 6 0 [] [] [] [2] [] []
def env_z2b (T : Tab) : Env := mk (CT T) 9 0 [] [] [] [4] [] []
def PL_z2l_0 := cc (pSl 0 pA (pSl 1 (ia 137 an an) (pSl 7 qI (pSl 8 qI an)))) (an (Y := AO))
def HL_z2l_0 (X : YL_z2l_0) (p : PL_z2l_0.T) (K : Ex → St → Prop) : Prop := X p.1.1 p.1.2.2.1 p.1.2.2.2.1 (fun _n1 => K .ret ⟨[(4, ai _n1)], []⟩) (K (.exit 0) ⟨[], []⟩)
def Q_z2l_0 (R0 : YL_z2l_0) : ck := cu [⟨_, PL_z2l_0, HL_z2l_0 R0⟩]
def env_z2l (T : Tab) : Env := mk (CT T) 19 0 [(0, Q_z2l_0 (L_z2l_0 T T.fuel))] [(0, [0, 1, 7, 8])] [(0, [(0, [])])] [4] [] []
def env_z36 (T : Tab) : Env := mk (CT T) 6 0 [] [] [] [2] [] []
def env_z2y (T : Tab) : Env := mk (CT T) 55 0 [] [] [] [4] [] []
def env_z37 (T : Tab) : Env := mk (CT T) 23 0 [] [] [] [2, 3, 4, 5] [] []
def env_z2x (T : Tab) : Env := mk (CT T) 83 0 [] [] [] [2] [] []
def env_z39 (T : Tab) : Env := mk (CT T) 47 0 [] [] [] [2] [] []
def env_z2c (T : Tab) : Env := mk (CT T) 9 1 [] [] [] [4] [] []
def PL_z2m_0 := cc (pSl 0 pA (pSl 1 (ia 174 an (aa (di 0 0) an)) (pSl 7 qI (pSl 8 qI an)))) (aa (dh (aa qI an)) an)
def HL_z2m_0 (X : YL_z2m_0) (p : PL_z2m_0.T) (K : Ex → St → Prop) : Prop := X p.1.1 p.1.2.2.1 p.1.2.2.2.1 p.2.1.1 (fun _n1 _n2 => K .ret ⟨[(4, ai _n1)], [.box [ai _n2]]⟩) (fun _n3 => K (.exit 0) ⟨[], [.box [ai _n3]]⟩)
def Q_z2m_0 (R0 : YL_z2m_0) : ck := cu [⟨_, PL_z2m_0, HL_z2m_0 R0⟩]
def env_z2m (T : Tab) : Env := mk (CT T) 19 1 [(0, Q_z2m_0 (L_z2m_0 T T.fuel))] [(0, [0, 1, 7, 8])] [(0, [(0, [])])] [4] [] []
def env_z2z (T : Tab) : Env := mk (CT T) 9 1 [] [] [] [3] [] []
def PL_z31_0 := cc (pSl 1 (di 0 0) (pSl 11 pA (pSl 12 qI (pSl 13 qI an)))) (aa (dh pc_xe) an)
def HL_z31_0 (X : YL_z31_0) (p : PL_z31_0.T) (K : Ex → St → Prop) : Prop := X p.1.2.1 p.1.2.2.1 p.1.2.2.2.1 p.2.1 (K .ret ⟨[(2, ab false)], []⟩) (fun _x1 => K (.exit 0) ⟨[(1, .ptr 0 0)], [.box [ai _x1.Kind, aw _x1.Table, aw _x1.Join, ar _x1.On, ar _x1.Where, ar _x1.Items, ab _x1.Star, ar _x1.Sets, ar _x1.Groups, ar _x1.Sorts, ar _x1.Limit, ai _x1.At, ai _x1.JoinAt]]⟩)
def Q_z31_0 (R0 : YL_z31_0) : ck := cu [⟨_, PL_z31_0, HL_z31_0 R0⟩]
def PL_z31_2 := cc (pSl 1 (di 0 0) (pSl 22 pA (pSl 23 qI (pSl 24 qI an)))) (aa (dh pc_xe) an)
def HL_z31_2 (X : YL_z31_2) (p : PL_z31_2.T) (K : Ex → St → Prop) : Prop := X p.1.2.1 p.1.2.2.1 p.1.2.2.2.1 p.2.1 (K .ret ⟨[(2, ab false)], []⟩) (fun _x1 => K (.exit 2) ⟨[(1, .ptr 0 0)], [.box [ai _x1.Kind, aw _x1.Table, aw _x1.Join, ar _x1.On, ar _x1.Where, ar _x1.Items, ab _x1.Star, ar _x1.Sets, ar _x1.Groups, ar _x1.Sorts, ar _x1.Limit, ai _x1.At, ai _x1.JoinAt]]⟩)
def Q_z31_2 (R0 : YL_z31_2) : ck := cu [⟨_, PL_z31_2, HL_z31_2 R0⟩]
def PL_z31_4 := cc (pSl 1 (di 0 0) (pSl 33 pA (pSl 34 qI (pSl 35 qI an)))) (aa (dh pc_xe) an)
def HL_z31_4 (X : YL_z31_4) (p : PL_z31_4.T) (K : Ex → St → Prop) : Prop := X p.1.2.1 p.1.2.2.1 p.1.2.2.2.1 p.2.1 (K .ret ⟨[(2, ab false)], []⟩) (fun _x1 => K (.exit 4) ⟨[(1, .ptr 0 0)], [.box [ai _x1.Kind, aw _x1.Table, aw _x1.Join, ar _x1.On, ar _x1.Where, ar _x1.Items, ab _x1.Star, ar _x1.Sets, ar _x1.Groups, ar _x1.Sorts, ar _x1.Limit, ai _x1.At, ai _x1.JoinAt]]⟩)
def Q_z31_4 (R0 : YL_z31_4) : ck := cu [⟨_, PL_z31_4, HL_z31_4 R0⟩]
def env_z31 (T : Tab) : Env := mk (CT T) 120 0 [(0, Q_z31_0 (L_z31_0 T T.fuel)), (2, Q_z31_2 (L_z31_2 T T.fuel)), (4, Q_z31_4 (L_z31_4 T T.fuel))] [(0, [1, 11, 12, 13]), (2, [1, 22, 23, 24]), (4, [1, 33, 34, 35])] [(0, [(0, [1])]), (2, [(2, [1])]), (4, [(4, [1])])] [2] [] []
def env_z30 (T : Tab) : Env := mk (CT T) 46 0 [] [] [] [2] [] []
def env_z38 (T : Tab) : Env := mk (CT T) 9 0 [] [] [] [2] [] []
def env_z2e (T : Tab) : Env := mk (CT T) 9 0 [] [] [] [4] [] []
def PL_z2o_0 := cc (pSl 0 pA (pSl 1 (ia 141 an an) (pSl 7 qI (pSl 8 qI an)))) (an (Y := AO))
def HL_z2o_0 (X : YL_z2o_0) (p : PL_z2o_0.T) (K : Ex → St → Prop) : Prop := X p.1.1 p.1.2.2.1 p.1.2.2.2.1 (fun _n1 => K .ret ⟨[(4, ai _n1)], []⟩) (K (.exit 0) ⟨[], []⟩)
def Q_z2o_0 (R0 : YL_z2o_0) : ck := cu [⟨_, PL_z2o_0, HL_z2o_0 R0⟩]
def env_z2o (T : Tab) : Env := mk (CT T) 19 0 [(0, Q_z2o_0 (L_z2o_0 T T.fuel))] [(0, [0, 1, 7, 8])] [(0, [(0, [])])] [4] [] []
def env_z32 (T : Tab) : Env := mk (CT T) 6 0 [] [] [] [2] [] []
def env_z33 (T : Tab) : Env := mk (CT T) 6 0 [] [] [] [2] [] []
def env_z2d (T : Tab) : Env := mk (CT T) 9 0 [] [] [] [4] [] []
def PL_z2n_0 := cc (pSl 0 pA (pSl 1 (ia 143 an an) (pSl 7 qI (pSl 8 qI an)))) (an (Y := AO))
def HL_z2n_0 (X : YL_z2n_0) (p : PL_z2n_0.T) (K : Ex → St → Prop) : Prop := X p.1.1 p.1.2.2.1 p.1.2.2.2.1 (fun _n1 => K .ret ⟨[(4, ai _n1)], []⟩) (K (.exit 0) ⟨[], []⟩)
def Q_z2n_0 (R0 : YL_z2n_0) : ck := cu [⟨_, PL_z2n_0, HL_z2n_0 R0⟩]
def env_z2n (T : Tab) : Env := mk (CT T) 19 0 [(0, Q_z2n_0 (L_z2n_0 T T.fuel))] [(0, [0, 1, 7, 8])] [(0, [(0, [])])] [4] [] []
def env_z34 (T : Tab) : Env := mk (CT T) 13 0 [] [] [] [2] [] []
def env_zo (T : Tab) : Env := mk (CT T) 81 3 [] [] [] [4, 5] [] [(13, [0, 1, 3, 7, 15, 0, 32, 96, 224, 511, 1023, 0, 4095])]
def env_zj (T : Tab) : Env := mk (CT T) 51 3 [] [] [] [4, 5] [] [(1, [0, 1, 3, 7, 0, 16, 63, 127]), (6, [0, 1, 3, 7, 0, 16, 63, 127])]
def PL_zw_0 := cc (pSl 1 pS (pSl 8 pA (pSl 9 qI (pSl 10 qI an)))) (an (Y := AO))
def HL_zw_0 (X : YL_zw_0) (p : PL_zw_0.T) (K : Ex → St → Prop) : Prop := X p.1.1 p.1.2.1 p.1.2.2.1 p.1.2.2.2.1 (fun _n1 => K .ret ⟨[(4, ai _n1)], []⟩) (K (.exit 0) ⟨[], []⟩)
def Q_zw_0 (R0 : YL_zw_0) : ck := cu [⟨_, PL_zw_0, HL_zw_0 R0⟩]
def env_zw (T : Tab) : Env := mk (CT T) 21 0 [(0, Q_zw_0 (L_zw_0 T T.fuel))] [(0, [1, 8, 9, 10])] [(0, [(0, [])])] [4] [] []
def env_zf (T : Tab) : Env := mk (CT T) 19 3 [] [] [] [6] [] []
def PL_zm_0 := cc (pSl 0 (di 0 0) (pSl 4 qI (pSl 13 pA (pSl 14 qI (pSl 15 qI an))))) (aa (dh (aa pA (aa pA (aa (fx 1) (aa (fx 2) (aa qI (aa qI an))))))) (aa (cw .str) (aa (cw .str2) an)))
def HL_zm_0 (X : YL_zm_0) (p : PL_zm_0.T) (K : Ex → St → Prop) : Prop := X p.1.2.1 p.1.2.2.1 p.1.2.2.2.1 p.1.2.2.2.2.1 p.2.1.1 p.2.1.2.1 p.2.1.2.2.2.2.1 p.2.1.2.2.2.2.2.1 p.2.2.1 p.2.2.2.1 (fun _a1 _a2 _n1 _n2 _m1 _m2 => K (.exit 0) ⟨[], [.box [ar _a1, ar _a2, .map 1, .map 2, ai _n1, ai _n2], .map .str _m1, .map .str2 _m2]⟩)
def Q_zm_0 (R0 : YL_zm_0) : ck := cu [⟨_, PL_zm_0, HL_zm_0 R0⟩]
def PL_zm_2 := cc (pSl 0 (di 0 0) (pSl 4 qI (pSl 7 (di 3 0) (pSl 13 pA (pSl 14 qI (pSl 15 qI (pSl 28 pA (pSl 29 qI (pSl 30 qI an))))))))) (aa (dh (aa pA (aa pA (aa (fx 1) (aa (fx 2) (aa qI (aa qI an))))))) (aa (cw .str) (aa (cw .str2) (aa (dh pc_x8) an))))
def HL_zm_2 (X : YL_zm_2) (p : PL_zm_2.T) (K : Ex → St → Prop) : Prop := X p.1.2.1 p.1.2.2.2.1 p.1.2.2.2.2.1 p.1.2.2.2.2.2.1 p.1.2.2.2.2.2.2.1 p.1.2.2.2.2.2.2.2.1 p.1.2.2.2.2.2.2.2.2.1 p.2.1.1 p.2.1.2.1 p.2.1.2.2.2.2.1 p.2.1.2.2.2.2.2.1 p.2.2.1 p.2.2.2.1 p.2.2.2.2.1 (fun _n1 _a1 _n2 _n3 _a2 _a3 _n4 _n5 _m1 _m2 => K (.exit 2) ⟨[(0, .ptr 0 0), (4, ai _n1), (13, ar _a1), (14, ai _n2), (15, ai _n3)], [.box [ar _a2, ar _a3, .map 1, .map 2, ai _n4, ai _n5], .map .str _m1, .map .str2 _m2]⟩)
def Q_zm_2 (R0 : YL_zm_2) : ck := cu [⟨_, PL_zm_2, HL_zm_2 R0⟩]
def PL_zm_4 := cc (pSl 0 (di 0 0) (pSl 4 qI (pSl 7 (di 3 0) (pSl 9 (di 4 0) (pSl 13 pA (pSl 14 qI (pSl 15 qI (pSl 28 pA (pSl 29 qI (pSl 30 qI (pSl 42 (j4 5) (pSl 43 qI (pSl 44 qI an))))))))))))) (aa (dh (aa pA (aa pA (aa (fx 1) (aa (fx 2) (aa qI (aa qI an))))))) (aa (cw .str) (aa (cw .str2) (aa (dh pc_x8) (aa (dh pc_x4) (aa (ei 120 2) an))))))
def HL_zm_4 (X : YL_zm_4) (p : PL_zm_4.T) (K : Ex → St → Prop) : Prop := X p.1.2.1 p.1.2.2.2.2.1 p.1.2.2.2.2.2.1 p.1.2.2.2.2.2.2.1 p.1.2.2.2.2.2.2.2.1 p.1.2.2.2.2.2.2.2.2.1 p.1.2.2.2.2.2.2.2.2.2.1 p.1.2.2.2.2.2.2.2.2.2.2.2.1 p.1.2.2.2.2.2.2.2.2.2.2.2.2.1 p.2.1.1 p.2.1.2.1 p.2.1.2.2.2.2.1 p.2.1.2.2.2.2.2.1 p.2.2.1 p.2.2.2.1 p.2.2.2.2.1 p.2.2.2.2.2.1 p.2.2.2.2.2.2.1 (fun _n1 _a1 _n2 _n3 _a2 _n4 _n5 _a3 _a4 _n6 _n7 _m1 _m2 _x1 => K (.exit 4) ⟨[(0, .ptr 0 0), (4, ai _n1), (7, .ptr 3 0), (13, ar _a1), (14, ai _n2), (15, ai _n3), (28, ar _a2), (29, ai _n4), (30, ai _n5)], [.box [ar _a3, ar _a4, .map 1, .map 2, ai _n6, ai _n7], .map .str _m1, .map .str2 _m2, .box [aw _x1.Name, ar _x1.Columns, ar _x1.Key, ai _x1.Part, ar _x1.Indexes]]⟩)
def Q_zm_4 (R0 : YL_zm_4) : ck := cu [⟨_, PL_zm_4, HL_zm_4 R0⟩]
def env_zm (T : Tab) : Env := mk (CT T) 71 3 [(0, Q_zm_0 (L_zm_0 T T.fuel)), (2, Q_zm_2 (L_zm_2 T T.fuel)), (4, Q_zm_4 (L_zm_4 T T.fuel))] [(0, [0, 4, 13, 14, 15]), (2, [0, 4, 7, 13, 14, 15, 28, 29, 30]), (4, [0, 4, 7, 9, 13, 14, 15, 28, 29, 30, 42, 43, 44])] [(0, [(0, [])]), (2, [(0, []), (1, [0, 4, 13, 14, 15]), (2, [0, 4, 13, 14, 15])]), (4, [(0, []), (1, [0, 4, 13, 14, 15]), (2, [0, 4, 13, 14, 15]), (3, [0, 4, 7, 13, 14, 15, 28, 29, 30]), (4, [0, 4, 7, 13, 14, 15, 28, 29, 30])])] [] [] [(11, [0, 1, 3, 7, 0, 31, 0, 127]), (12, [0, 1, 3, 7, 0, 0, 0, 64, 0, 256, 768, 2016, 4095])]
def PL_zq_0 := cc (pSl 0 (di 0 0) (pSl 4 (j4 3) (pSl 10 pA (pSl 11 qI (pSl 12 qI an))))) (aa (dh (aa pA (aa pA (aa (fx 1) (aa (fx 2) (aa qI (aa qI an))))))) (aa (cw .str) (aa (cw .str2) (aa (ei 64 7) an))))
def HL_zq_0 (X : YL_zq_0) (p : PL_zq_0.T) (K : Ex → St → Prop) : Prop := X p.1.2.2.1 p.1.2.2.2.1 p.1.2.2.2.2.1 p.2.1.1 p.2.1.2.1 p.2.1.2.2.2.2.1 p.2.1.2.2.2.2.2.1 p.2.2.1 p.2.2.2.1 p.2.2.2.2.1 (fun _a1 _a2 _n1 _n2 _m1 _m2 => K .ret ⟨[(4, .p .nils), (5, ab false)], [.box [ar _a1, ar _a2, .map 1, .map 2, ai _n1, ai _n2], .map .str _m1, .map .str2 _m2]⟩) (fun _a3 _a4 _n3 _n4 _m3 _m4 _r1 => K (.exit 0) ⟨[(4, .row 3)], [.box [ar _a3, ar _a4, .map 1, .map 2, ai _n3, ai _n4], .map .str _m3, .map .str2 _m4, .row 64 7 _r1]⟩)
def Q_zq_0 (R0 : YL_zq_0) : ck := cu [⟨_, PL_zq_0, HL_zq_0 R0⟩]
def env_zq (T : Tab) : Env := mk (CT T) 31 3 [(0, Q_zq_0 (L_zq_0 T T.fuel))] [(0, [0, 4, 10, 11, 12])] [(0, [(0, [4])])] [4, 5] [(0, [(64, (4, none))])] [(4, [0, 1, 0, 7, 15, 31, 31, 0, 191, 511])]
def env_zk (T : Tab) : Env := mk (CT T) 6 3 [] [] [] [4] [] []
def env_zl (T : Tab) : Env := mk (CT T) 33 5 [] [] [] [4, 5] [] []
def PL_zp_2 := cc (pSl 0 (di 0 0) (pSl 3 (di 3 0) (pSl 4 (di 4 0) (pSl 9 (di 5 0) (pSl 98 pA (pSl 99 qI (pSl 100 qI an))))))) (aa (dh (aa pA (aa pA (aa (fx 1) (aa (fx 2) (aa qI (aa qI an))))))) (aa (cw .str) (aa (cw .str2) (aa (dh pc_xb) (aa (dh (aa qI (aa qI (aa qI (aa qI (aa qI (aa pS (aa (pN 1) an)))))))) (aa (dh (aa qI (aa qI (aa qI (aa qI (aa qI (aa pS (aa (j4 6) an)))))))) (aa (ei 64 7) an)))))))
def HL_zp_2 (X : YL_zp_2) (p : PL_zp_2.T) (K : Ex → St → Prop) : Prop := X p.1.2.2.2.2.1 p.1.2.2.2.2.2.1 p.1.2.2.2.2.2.2.1 p.2.1.1 p.2.1.2.1 p.2.1.2.2.2.2.1 p.2.1.2.2.2.2.2.1 p.2.2.1 p.2.2.2.1 p.2.2.2.2.1 p.2.2.2.2.2.1.1 p.2.2.2.2.2.1.2.1 p.2.2.2.2.2.1.2.2.1 p.2.2.2.2.2.1.2.2.2.1 p.2.2.2.2.2.1.2.2.2.2.1 p.2.2.2.2.2.1.2.2.2.2.2.1 p.2.2.2.2.2.2.1.1 p.2.2.2.2.2.2.1.2.1 p.2.2.2.2.2.2.1.2.2.1 p.2.2.2.2.2.2.1.2.2.2.1 p.2.2.2.2.2.2.1.2.2.2.2.1 p.2.2.2.2.2.2.1.2.2.2.2.2.1 p.2.2.2.2.2.2.2.1 (fun _a1 _a2 _n1 _n2 _m1 _m2 _n3 _n4 _n5 _n6 _n7 _s1 => K .ret ⟨[(4, .ptr 3 0), (5, ab false)], [.box [ar _a1, ar _a2, .map 1, .map 2, ai _n1, ai _n2], .map .str _m1, .map .str2 _m2, .box [ai _n3, ai _n4, ai _n5, ai _n6, ai _n7, aw _s1, .p .nils]]⟩) (fun _a3 _a4 _n8 _n9 _m3 _m4 _x1 _n10 _n11 _n12 _n13 _n14 _s2 _n15 _n16 _n17 _n18 _n19 _s3 _r1 => K (.exit 2) ⟨[(0, .ptr 0 0), (3, .ptr 3 0), (4, .ptr 4 0), (9, .ptr 5 0)], [.box [ar _a3, ar _a4, .map 1, .map 2, ai _n8, ai _n9], .map .str _m3, .map .str2 _m4, .box [ai _x1.Kind, ai _x1.Op, ai _x1.Value_Kind, ai _x1.Value_Int, aw _x1.Value_Text, aw _x1.Table, aw _x1.Name, ar _x1.Kids, ai _x1.At], .box [ai _n10, ai _n11, ai _n12, ai _n13, ai _n14, aw _s2, .p .nils], .box [ai _n15, ai _n16, ai _n17, ai _n18, ai _n19, aw _s3, .row 6], .row 64 7 _r1]⟩)
def Q_zp_2 (R0 : YL_zp_2) : ck := cu [⟨_, PL_zp_2, HL_zp_2 R0⟩]
def PL_zp_4 := cc (pSl 0 (di 0 0) (pSl 3 (di 3 0) (pSl 4 (di 4 0) (pSl 9 (di 5 0) (pSl 14 (ia 217 an (aa (di 7 0) an)) (pSl 124 (j4 6) (pSl 125 qI (pSl 126 qI an)))))))) (aa (dh (aa pA (aa pA (aa (fx 1) (aa (fx 2) (aa qI (aa qI an))))))) (aa (cw .str) (aa (cw .str2) (aa (dh pc_xb) (aa (dh (aa qI (aa qI (aa qI (aa qI (aa qI (aa pS (aa (pN 1) an)))))))) (aa (dh (aa qI (aa qI (aa qI (aa qI (aa qI (aa pS (aa (j4 6) an)))))))) (aa (ei 64 7) (aa (dh (aa qI an)) an))))))))
def HL_zp_4 (X : YL_zp_4) (p : PL_zp_4.T) (K : Ex → St → Prop) : Prop := X p.1.2.2.2.2.2.2.1 p.1.2.2.2.2.2.2.2.1 p.2.1.1 p.2.1.2.1 p.2.1.2.2.2.2.1 p.2.1.2.2.2.2.2.1 p.2.2.1 p.2.2.2.1 p.2.2.2.2.1 p.2.2.2.2.2.1.1 p.2.2.2.2.2.1.2.1 p.2.2.2.2.2.1.2.2.1 p.2.2.2.2.2.1.2.2.2.1 p.2.2.2.2.2.1.2.2.2.2.1 p.2.2.2.2.2.1.2.2.2.2.2.1 p.2.2.2.2.2.2.1.1 p.2.2.2.2.2.2.1.2.1 p.2.2.2.2.2.2.1.2.2.1 p.2.2.2.2.2.2.1.2.2.2.1 p.2.2.2.2.2.2.1.2.2.2.2.1 p.2.2.2.2.2.2.1.2.2.2.2.2.1 p.2.2.2.2.2.2.2.1 p.2.2.2.2.2.2.2.2.1.1 (fun _a1 _a2 _n1 _n2 _m1 _m2 _n3 _n4 _n5 _n6 _n7 _s1 => K .ret ⟨[(4, .ptr 3 0), (5, ab false)], [.box [ar _a1, ar _a2, .map 1, .map 2, ai _n1, ai _n2], .map .str _m1, .map .str2 _m2, .box [ai _n3, ai _n4, ai _n5, ai _n6, ai _n7, aw _s1, .p .nils]]⟩) (fun _a3 _a4 _n8 _n9 _m3 _m4 _x1 _n10 _n11 _n12 _n13 _n14 _s2 _n15 _n16 _n17 _n18 _n19 _s3 _r1 => K (.exit 4) ⟨[(0, .ptr 0 0), (3, .ptr 3 0), (4, .ptr 4 0), (9, .ptr 5 0)], [.box [ar _a3, ar _a4, .map 1, .map 2, ai _n8, ai _n9], .map .str _m3, .map .str2 _m4, .box [ai _x1.Kind, ai _x1.Op, ai _x1.Value_Kind, ai _x1.Value_Int, aw _x1.Value_Text, aw _x1.Table, aw _x1.Name, ar _x1.Kids, ai _x1.At], .box [ai _n10, ai _n11, ai _n12, ai _n13, ai _n14, aw _s2, .p .nils], .box [ai _n15, ai _n16, ai _n17, ai _n18, ai _n19, aw _s3, .row 6], .row 64 7 _r1]⟩)
def dm := cc (pSl 0 (di 0 0) (pSl 3 (di 3 0) (pSl 4 (di 4 0) (pSl 9 (di 5 0) (pSl 14 (ia 218 an an) (pSl 124 (j4 6) (pSl 125 qI (pSl 126 qI an)))))))) (aa (dh (aa pA (aa pA (aa (fx 1) (aa (fx 2) (aa qI (aa qI an))))))) (aa (cw .str) (aa (cw .str2) (aa (dh pc_xb) (aa (dh (aa qI (aa qI (aa qI (aa qI (aa qI (aa pS (aa (pN 1) an)))))))) (aa (dh (aa qI (aa qI (aa qI (aa qI (aa qI (aa pS (aa (j4 6) an)))))))) (aa (ei 64 7) an)))))))
def fm (X : ed) (p : dm.T) (K : Ex → St → Prop) : Prop := X p.1.2.2.2.2.2.2.1 p.1.2.2.2.2.2.2.2.1 p.2.1.1 p.2.1.2.1 p.2.1.2.2.2.2.1 p.2.1.2.2.2.2.2.1 p.2.2.1 p.2.2.2.1 p.2.2.2.2.1 p.2.2.2.2.2.1.1 p.2.2.2.2.2.1.2.1 p.2.2.2.2.2.1.2.2.1 p.2.2.2.2.2.1.2.2.2.1 p.2.2.2.2.2.1.2.2.2.2.1 p.2.2.2.2.2.1.2.2.2.2.2.1 p.2.2.2.2.2.2.1.1 p.2.2.2.2.2.2.1.2.1 p.2.2.2.2.2.2.1.2.2.1 p.2.2.2.2.2.2.1.2.2.2.1 p.2.2.2.2.2.2.1.2.2.2.2.1 p.2.2.2.2.2.2.1.2.2.2.2.2.1 p.2.2.2.2.2.2.2.1 (fun _a1 _a2 _n1 _n2 _m1 _m2 _x1 _n3 _n4 _n5 _n6 _n7 _s1 _n8 _n9 _n10 _n11 _n12 _s2 _r1 => K (.exit 4) ⟨[(0, .ptr 0 0), (3, .ptr 3 0), (4, .ptr 4 0), (9, .ptr 5 0)], [.box [ar _a1, ar _a2, .map 1, .map 2, ai _n1, ai _n2], .map .str _m1, .map .str2 _m2, .box [ai _x1.Kind, ai _x1.Op, ai _x1.Value_Kind, ai _x1.Value_Int, aw _x1.Value_Text, aw _x1.Table, aw _x1.Name, ar _x1.Kids, ai _x1.At], .box [ai _n3, ai _n4, ai _n5, ai _n6, ai _n7, aw _s1, .p .nils], .box [ai _n8, ai _n9, ai _n10, ai _n11, ai _n12, aw _s2, .row 6], .row 64 7 _r1]⟩)
def Q_zp_4 (R0 : YL_zp_4) (R1 : ed) : ck := cu [⟨_, PL_zp_4, HL_zp_4 R0⟩, ⟨_, dm, fm R1⟩]
def env_zp (T : Tab) : Env := mk (CT T) 166 3 [(2, Q_zp_2 (L_zp_2 T T.fuel)), (4, Q_zp_4 (L_zp_4 T T.fuel) (b9 T T.fuel))] [(2, [0, 3, 4, 9, 98, 99, 100]), (4, [0, 3, 4, 9, 14, 124, 125, 126])] [(2, [(2, [0, 3, 4, 9])]), (4, [(4, [0, 3, 4, 9])])] [4, 5] [(2, [(64, (9, some 6))])] [(5, [0, 1, 3, 7, 0, 16, 63, 127, 255, 255, 0, 1535, 4095]), (10, [0, 1, 3, 7, 0, 16, 0, 64, 240, 511, 0, 2047])]
def env_zz (T : Tab) : Env := mk (CT T) 17 0 [] [] [] [2] [] []
def env_z10 (T : Tab) : Env := mk (CT T) 4 0 [] [] [] [2] [] []
def env_z11 (T : Tab) : Env := mk (CT T) 11 1 [] [] [] [3] [] []
def env_zy (T : Tab) : Env := mk (CT T) 26 1 [] [] [] [2] [] [(1, [0, 1, 3, 7, 0, 16, 48, 112, 255, 511, 1023, 2047, 4095, 8191, 16383, 32767, 65535, 131071, 262143, 524287, 1048575, 2097151, 4194303, 8388607])]
def env_zx (T : Tab) : Env := mk (CT T) 18 1 [] [] [] [4] [] []
def env_z12 (T : Tab) : Env := mk (CT T) 3 0 [] [] [] [2] [] []
def PL_zh_0 := cc (pSl 0 (di 0 0) (pSl 2 (di 3 0) (pSl 7 (di 5 0) (pSl 25 pA (pSl 26 qI (pSl 27 qI an)))))) (aa (dh (aa pA (aa pA (aa (fx 1) (aa (fx 2) (aa qI (aa qI an))))))) (aa (cw .str) (aa (cw .str2) (aa (dh (aa qI (aa pA (aa pA (aa pA (aa (j4 4) (aa (pN 1) (aa pB (aa (pN 1) (aa (pN 1) (aa (pN 1) (aa (pN 1) an)))))))))))) (aa (ei 64 7) (aa (dh pc_x8) an))))))
def HL_zh_0 (X : YL_zh_0) (p : PL_zh_0.T) (K : Ex → St → Prop) : Prop := X p.1.2.2.2.1 p.1.2.2.2.2.1 p.1.2.2.2.2.2.1 p.2.1.1 p.2.1.2.1 p.2.1.2.2.2.2.1 p.2.1.2.2.2.2.2.1 p.2.2.1 p.2.2.2.1 p.2.2.2.2.1.1 p.2.2.2.2.1.2.1 p.2.2.2.2.1.2.2.1 p.2.2.2.2.1.2.2.2.1 p.2.2.2.2.1.2.2.2.2.2.2.1 p.2.2.2.2.2.1 p.2.2.2.2.2.2.1 (fun _a1 _a2 _n1 _n2 _m1 _m2 _n3 _a3 _a4 _a5 _b1 _r1 => K .ret ⟨[(8, ab false)], [.box [ar _a1, ar _a2, .map 1, .map 2, ai _n1, ai _n2], .map .str _m1, .map .str2 _m2, .box [ai _n3, ar _a3, ar _a4, ar _a5, .row 4, .p .nils, ab _b1, .p .nils, .p .nils, .p .nils, .p .nils], .row 64 7 _r1]⟩) (fun _a6 _a7 _n4 _n5 _m3 _m4 _n6 _a8 _a9 _a10 _b2 _r2 => K (.exit 0) ⟨[], [.box [ar _a6, ar _a7, .map 1, .map 2, ai _n4, ai _n5], .map .str _m3, .map .str2 _m4, .box [ai _n6, ar _a8, ar _a9, ar _a10, .row 4, .p .nils, ab _b2, .p .nils, .p .nils, .p .nils, .p .nils], .row 64 7 _r2]⟩)
def Q_zh_0 (R0 : YL_zh_0) : ck := cu [⟨_, PL_zh_0, HL_zh_0 R0⟩]
def env_zh (T : Tab) : Env := mk (CT T) 59 4 [(0, Q_zh_0 (L_zh_0 T T.fuel))] [(0, [0, 2, 7, 25, 26, 27])] [(0, [(0, [])])] [8] [(0, [(64, (2, some 4))])] [(6, [0, 0, 2, 0, 14, 30, 62, 127, 0, 511, 1023, 2047, 2047, 0, 12287, 32767]), (9, [0, 1, 3, 7, 0, 15, 0, 127, 255, 511, 255, 1279, 3327])]
def PL_zr_0 := cc (pSl 0 (di 0 0) (pSl 2 (di 3 0) (pSl 7 (di 6 0) (pSl 9 (fx 7) (pSl 17 pA (pSl 18 qI (pSl 19 qI an))))))) (aa (dh (aa pA (aa pA (aa (fx 1) (aa (fx 2) (aa qI (aa qI an))))))) (aa (cw .str) (aa (cw .str2) (aa (dh (aa qI (aa pA (aa pA (aa pA (aa (j4 4) (aa (j4 5) (aa pB (aa (pN 1) (aa (pN 1) (aa (pN 1) (aa (pN 1) an)))))))))))) (aa (ei 64 7) (aa (ei 3 1) (aa (dh pc_x8) (aa (cw (.int .i64)) an))))))))
def HL_zr_0 (X : YL_zr_0) (p : PL_zr_0.T) (K : Ex → St → Prop) : Prop := X p.1.2.2.2.2.1 p.1.2.2.2.2.2.1 p.1.2.2.2.2.2.2.1 p.2.1.1 p.2.1.2.1 p.2.1.2.2.2.2.1 p.2.1.2.2.2.2.2.1 p.2.2.1 p.2.2.2.1 p.2.2.2.2.1.1 p.2.2.2.2.1.2.1 p.2.2.2.2.1.2.2.1 p.2.2.2.2.1.2.2.2.1 p.2.2.2.2.1.2.2.2.2.2.2.1 p.2.2.2.2.2.1 p.2.2.2.2.2.2.1 p.2.2.2.2.2.2.2.1 p.2.2.2.2.2.2.2.2.1 (fun _a1 _a2 _n1 _n2 _m1 _m2 _n3 _a3 _a4 _a5 _b1 _r1 _r2 => K .ret ⟨[(8, ab false)], [.box [ar _a1, ar _a2, .map 1, .map 2, ai _n1, ai _n2], .map .str _m1, .map .str2 _m2, .box [ai _n3, ar _a3, ar _a4, ar _a5, .row 4, .row 5, ab _b1, .p .nils, .p .nils, .p .nils, .p .nils], .row 64 7 _r1, .row 3 1 _r2]⟩) (fun _a6 _a7 _n4 _n5 _m3 _m4 _n6 _a8 _a9 _a10 _b2 _r3 _r4 => K (.exit 0) ⟨[], [.box [ar _a6, ar _a7, .map 1, .map 2, ai _n4, ai _n5], .map .str _m3, .map .str2 _m4, .box [ai _n6, ar _a8, ar _a9, ar _a10, .row 4, .row 5, ab _b2, .p .nils, .p .nils, .p .nils, .p .nils], .row 64 7 _r3, .row 3 1 _r4]⟩)
def Q_zr_0 (R0 : YL_zr_0) : ck := cu [⟨_, PL_zr_0, HL_zr_0 R0⟩]
def env_zr (T : Tab) : Env := mk (CT T) 82 4 [(0, Q_zr_0 (L_zr_0 T T.fuel))] [(0, [0, 2, 7, 9, 17, 18, 19])] [(0, [(0, [])])] [8] [(0, [(64, (2, some 4)), (3, (2, some 5))])] [(11, [0, 0, 2, 0, 14, 30, 62, 127, 0, 256, 1023, 2047, 4095, 4095, 0, 24575, 65535]), (14, [0, 0, 0, 4, 12, 28, 0, 64, 252, 0, 512, 1536, 3584, 0, 8192, 32764, 65533, 131069, 262141, 524287, 1048575, 2097151])]
def PL_zs_0 := cc (pSl 1 pS (pSl 8 pA (pSl 9 qI (pSl 10 qI an)))) (an (Y := AO))
def HL_zs_0 (X : YL_zs_0) (p : PL_zs_0.T) (K : Ex → St → Prop) : Prop := X p.1.1 p.1.2.1 p.1.2.2.1 p.1.2.2.2.1 (fun _n1 => K .ret ⟨[(4, ai _n1)], []⟩) (K (.exit 0) ⟨[], []⟩)
def Q_zs_0 (R0 : YL_zs_0) : ck := cu [⟨_, PL_zs_0, HL_zs_0 R0⟩]
def env_zs (T : Tab) : Env := mk (CT T) 21 0 [(0, Q_zs_0 (L_zs_0 T T.fuel))] [(0, [1, 8, 9, 10])] [(0, [(0, [])])] [4] [] []
def PL_ze_0 := cc (pSl 0 (di 0 0) (pSl 2 (di 3 0) (pSl 4 (di 7 0) (pSl 38 pA (pSl 39 qI (pSl 40 qI an)))))) (aa (dh (aa pA (aa pA (aa (fx 1) (aa (fx 2) (aa qI (aa qI an))))))) (aa (cw .str) (aa (cw .str2) (aa (dh (aa qI (aa pA (aa pA (aa pA (aa (j4 4) (aa (pN 1) (aa pB (aa (j4 5) (aa (j4 6) (aa (pN 1) (aa (pN 1) an)))))))))))) (aa (ei 64 7) (aa (ei 3 1) (aa (ei 110 3) (aa (dh pc_xe) an))))))))
def HL_ze_0 (X : YL_ze_0) (p : PL_ze_0.T) (K : Ex → St → Prop) : Prop := X p.1.2.2.2.1 p.1.2.2.2.2.1 p.1.2.2.2.2.2.1 p.2.1.1 p.2.1.2.1 p.2.1.2.2.2.2.1 p.2.1.2.2.2.2.2.1 p.2.2.1 p.2.2.2.1 p.2.2.2.2.1.1 p.2.2.2.2.1.2.1 p.2.2.2.2.1.2.2.1 p.2.2.2.2.1.2.2.2.1 p.2.2.2.2.1.2.2.2.2.2.2.1 p.2.2.2.2.2.1 p.2.2.2.2.2.2.1 p.2.2.2.2.2.2.2.1 p.2.2.2.2.2.2.2.2.1 (fun _a1 _a2 _n1 _n2 _m1 _m2 _n3 _a3 _a4 _a5 _b1 _r1 _r2 _r3 => K .ret ⟨[(6, ab false)], [.box [ar _a1, ar _a2, .map 1, .map 2, ai _n1, ai _n2], .map .str _m1, .map .str2 _m2, .box [ai _n3, ar _a3, ar _a4, ar _a5, .row 4, .p .nils, ab _b1, .row 5, .row 6, .p .nils, .p .nils], .row 64 7 _r1, .row 3 1 _r2, .row 110 3 _r3]⟩) (fun _a6 _a7 _n4 _n5 _m3 _m4 _n6 _a8 _a9 _a10 _b2 _r4 _r5 _r6 _x1 => K (.exit 0) ⟨[(2, .ptr 3 0), (4, .ptr 7 0)], [.box [ar _a6, ar _a7, .map 1, .map 2, ai _n4, ai _n5], .map .str _m3, .map .str2 _m4, .box [ai _n6, ar _a8, ar _a9, ar _a10, .row 4, .p .nils, ab _b2, .row 5, .row 6, .p .nils, .p .nils], .row 64 7 _r4, .row 3 1 _r5, .row 110 3 _r6, .box [ai _x1.Kind, aw _x1.Table, aw _x1.Join, ar _x1.On, ar _x1.Where, ar _x1.Items, ab _x1.Star, ar _x1.Sets, ar _x1.Groups, ar _x1.Sorts, ar _x1.Limit, ai _x1.At, ai _x1.JoinAt]]⟩)
def Q_ze_0 (R0 : YL_ze_0) : ck := cu [⟨_, PL_ze_0, HL_ze_0 R0⟩]
def PL_ze_2 := cc (pSl 2 (di 3 0) (pSl 89 (j4 4) (pSl 90 qI (pSl 91 qI an)))) (aa (dh (aa pA (aa pA (aa (fx 1) (aa (fx 2) (aa qI (aa qI an))))))) (aa (cw .str) (aa (cw .str2) (aa (dh (aa qI (aa pA (aa pA (aa pA (aa (j4 4) (aa (pN 1) (aa pB (aa (j4 5) (aa (j4 6) (aa (j4 7) (aa (j4 8) an)))))))))))) (aa (ei 64 7) (aa (ei 3 1) (aa (ei 110 3) (aa (ei 3 1) (aa (ei 3 1) an)))))))))
def HL_ze_2 (X : YL_ze_2) (p : PL_ze_2.T) (K : Ex → St → Prop) : Prop := X p.1.2.2.1 p.1.2.2.2.1 p.2.1.1 p.2.1.2.1 p.2.1.2.2.2.2.1 p.2.1.2.2.2.2.2.1 p.2.2.1 p.2.2.2.1 p.2.2.2.2.1.1 p.2.2.2.2.1.2.1 p.2.2.2.2.1.2.2.1 p.2.2.2.2.1.2.2.2.1 p.2.2.2.2.1.2.2.2.2.2.2.1 p.2.2.2.2.2.1 p.2.2.2.2.2.2.1 p.2.2.2.2.2.2.2.1 p.2.2.2.2.2.2.2.2.1 p.2.2.2.2.2.2.2.2.2.1 (fun _a1 _a2 _n1 _n2 _m1 _m2 _n3 _a3 _a4 _a5 _b1 _r1 _r2 _r3 _r4 _r5 => K (.exit 2) ⟨[], [.box [ar _a1, ar _a2, .map 1, .map 2, ai _n1, ai _n2], .map .str _m1, .map .str2 _m2, .box [ai _n3, ar _a3, ar _a4, ar _a5, .row 4, .p .nils, ab _b1, .row 5, .row 6, .row 7, .row 8], .row 64 7 _r1, .row 3 1 _r2, .row 110 3 _r3, .row 3 1 _r4, .row 3 1 _r5]⟩)
def Q_ze_2 (R0 : YL_ze_2) : ck := cu [⟨_, PL_ze_2, HL_ze_2 R0⟩]
def env_ze (T : Tab) : Env := mk (CT T) 107 4 [(0, Q_ze_0 (L_ze_0 T T.fuel)), (2, Q_ze_2 (L_ze_2 T T.fuel))] [(0, [0, 2, 4, 38, 39, 40]), (2, [2, 89, 90, 91])] [(0, [(0, [2, 4])]), (2, [(2, [])])] [6] [(0, [(110, (2, some 8))]), (2, [(3, (2, some 10))])] [(11, [0, 1, 3, 7, 15, 31, 15, 79, 207, 463, 975, 2047, 4095]), (13, [0, 0, 2, 6, 14, 0, 32, 0, 128, 480, 992, 2046, 4095, 8191, 16383]), (15, [0, 0, 2, 6, 14, 0, 32, 126, 255, 511, 1023]), (19, [0, 0, 2, 6, 14, 0, 32, 96, 254, 511, 1023, 2047])]
def PL_zg_0 := cc (pSl 0 (di 0 0) (pSl 2 (di 3 0) (pSl 8 (fx 5) (pSl 15 pA (pSl 16 qI (pSl 17 qI an)))))) (aa (dh (aa pA (aa pA (aa (fx 1) (aa (fx 2) (aa qI (aa qI an))))))) (aa (cw .str) (aa (cw .str2) (aa (dh (aa qI (aa pA (aa pA (aa pA (aa (pN 1) (aa (pN 1) (aa pB (aa (j4 4) (aa (pN 1) (aa (pN 1) (aa (pN 1) an)))))))))))) (aa (ei 3 1) (aa (cw (.int .i64)) an))))))
def HL_zg_0 (X : YL_zg_0) (p : PL_zg_0.T) (K : Ex → St → Prop) : Prop := X p.1.2.2.2.1 p.1.2.2.2.2.1 p.1.2.2.2.2.2.1 p.2.1.1 p.2.1.2.1 p.2.1.2.2.2.2.1 p.2.1.2.2.2.2.2.1 p.2.2.1 p.2.2.2.1 p.2.2.2.2.1.1 p.2.2.2.2.1.2.1 p.2.2.2.2.1.2.2.1 p.2.2.2.2.1.2.2.2.1 p.2.2.2.2.1.2.2.2.2.2.2.1 p.2.2.2.2.2.1 p.2.2.2.2.2.2.1 (fun _a1 _a2 _n1 _n2 _m1 _m2 _n3 _a3 _a4 _a5 _b1 _r1 => K .ret ⟨[(6, .p .nilm), (7, ab false)], [.box [ar _a1, ar _a2, .map 1, .map 2, ai _n1, ai _n2], .map .str _m1, .map .str2 _m2, .box [ai _n3, ar _a3, ar _a4, ar _a5, .p .nils, .p .nils, ab _b1, .row 4, .p .nils, .p .nils, .p .nils], .row 3 1 _r1]⟩) (fun _a6 _a7 _n4 _n5 _m3 _m4 _n6 _a8 _a9 _a10 _b2 _r2 _m5 => K (.exit 0) ⟨[(8, .map 5)], [.box [ar _a6, ar _a7, .map 1, .map 2, ai _n4, ai _n5], .map .str _m3, .map .str2 _m4, .box [ai _n6, ar _a8, ar _a9, ar _a10, .p .nils, .p .nils, ab _b2, .row 4, .p .nils, .p .nils, .p .nils], .row 3 1 _r2, .map (.int .i64) _m5]⟩)
def Q_zg_0 (R0 : YL_zg_0) : ck := cu [⟨_, PL_zg_0, HL_zg_0 R0⟩]
def env_zg (T : Tab) : Env := mk (CT T) 56 4 [(0, Q_zg_0 (L_zg_0 T T.fuel))] [(0, [0, 2, 8, 15, 16, 17])] [(0, [(0, [8])])] [6, 7] [(0, [(3, (2, some 7))])] [(11, [0, 0, 2, 6, 14, 0, 32, 96, 254, 511, 1023, 2047])]
def PL_zn_0 := cc (pSl 0 (di 0 0) (pSl 2 (di 3 0) (pSl 4 (di 6 0) (pSl 25 pA (pSl 26 qI (pSl 27 qI an)))))) (aa (dh (aa pA (aa pA (aa (fx 1) (aa (fx 2) (aa qI (aa qI an))))))) (aa (cw .str) (aa (cw .str2) (aa (dh (aa qI (aa pA (aa pA (aa pA (aa (j4 5) (aa (pN 1) (aa pB (aa (j4 4) (aa (pN 1) (aa (pN 1) (aa (pN 1) an)))))))))))) (aa (ei 3 1) (aa (ei 64 7) (aa (dh pc_xe) an)))))))
def HL_zn_0 (X : YL_zn_0) (p : PL_zn_0.T) (K : Ex → St → Prop) : Prop := X p.1.2.2.2.1 p.1.2.2.2.2.1 p.1.2.2.2.2.2.1 p.2.1.1 p.2.1.2.1 p.2.1.2.2.2.2.1 p.2.1.2.2.2.2.2.1 p.2.2.1 p.2.2.2.1 p.2.2.2.2.1.1 p.2.2.2.2.1.2.1 p.2.2.2.2.1.2.2.1 p.2.2.2.2.1.2.2.2.1 p.2.2.2.2.1.2.2.2.2.2.2.1 p.2.2.2.2.2.1 p.2.2.2.2.2.2.1 p.2.2.2.2.2.2.2.1 (fun _a1 _a2 _n1 _n2 _m1 _m2 _n3 _a3 _a4 _a5 _b1 _r1 _r2 _x1 => K (.exit 0) ⟨[(0, .ptr 0 0), (2, .ptr 3 0), (4, .ptr 6 0)], [.box [ar _a1, ar _a2, .map 1, .map 2, ai _n1, ai _n2], .map .str _m1, .map .str2 _m2, .box [ai _n3, ar _a3, ar _a4, ar _a5, .row 5, .p .nils, ab _b1, .row 4, .p .nils, .p .nils, .p .nils], .row 3 1 _r1, .row 64 7 _r2, .box [ai _x1.Kind, aw _x1.Table, aw _x1.Join, ar _x1.On, ar _x1.Where, ar _x1.Items, ab _x1.Star, ar _x1.Sets, ar _x1.Groups, ar _x1.Sorts, ar _x1.Limit, ai _x1.At, ai _x1.JoinAt]]⟩)
def Q_zn_0 (R0 : YL_zn_0) : ck := cu [⟨_, PL_zn_0, HL_zn_0 R0⟩]
def PL_zn_2 := cc (pSl 0 (di 0 0) (pSl 2 (di 3 0) (pSl 4 (di 6 0) (pSl 25 pA (pSl 26 qI (pSl 27 qI (pSl 39 pA (pSl 40 qI (pSl 41 qI an))))))))) (aa (dh (aa pA (aa pA (aa (fx 1) (aa (fx 2) (aa qI (aa qI an))))))) (aa (cw .str) (aa (cw .str2) (aa (dh (aa qI (aa pA (aa pA (aa pA (aa (j4 5) (aa (pN 1) (aa pB (aa (j4 4) (aa (pN 1) (aa (pN 1) (aa (pN 1) an)))))))))))) (aa (ei 3 1) (aa (ei 64 7) (aa (dh pc_xe) an)))))))
def HL_zn_2 (X : YL_zn_2) (p : PL_zn_2.T) (K : Ex → St → Prop) : Prop := X p.1.2.2.2.1 p.1.2.2.2.2.1 p.1.2.2.2.2.2.1 p.1.2.2.2.2.2.2.1 p.1.2.2.2.2.2.2.2.1 p.1.2.2.2.2.2.2.2.2.1 p.2.1.1 p.2.1.2.1 p.2.1.2.2.2.2.1 p.2.1.2.2.2.2.2.1 p.2.2.1 p.2.2.2.1 p.2.2.2.2.1.1 p.2.2.2.2.1.2.1 p.2.2.2.2.1.2.2.1 p.2.2.2.2.1.2.2.2.1 p.2.2.2.2.1.2.2.2.2.2.2.1 p.2.2.2.2.2.1 p.2.2.2.2.2.2.1 p.2.2.2.2.2.2.2.1 (fun _a1 _n1 _n2 _a2 _a3 _n3 _n4 _m1 _m2 _n5 _a4 _a5 _a6 _b1 _r1 _r2 _x1 => K (.exit 2) ⟨[(0, .ptr 0 0), (2, .ptr 3 0), (4, .ptr 6 0), (25, ar _a1), (26, ai _n1), (27, ai _n2)], [.box [ar _a2, ar _a3, .map 1, .map 2, ai _n3, ai _n4], .map .str _m1, .map .str2 _m2, .box [ai _n5, ar _a4, ar _a5, ar _a6, .row 5, .p .nils, ab _b1, .row 4, .p .nils, .p .nils, .p .nils], .row 3 1 _r1, .row 64 7 _r2, .box [ai _x1.Kind, aw _x1.Table, aw _x1.Join, ar _x1.On, ar _x1.Where, ar _x1.Items, ab _x1.Star, ar _x1.Sets, ar _x1.Groups, ar _x1.Sorts, ar _x1.Limit, ai _x1.At, ai _x1.JoinAt]]⟩)
def Q_zn_2 (R0 : YL_zn_2) : ck := cu [⟨_, PL_zn_2, HL_zn_2 R0⟩]
def env_zn (T : Tab) : Env := mk (CT T) 77 5 [(0, Q_zn_0 (L_zn_0 T T.fuel)), (2, Q_zn_2 (L_zn_2 T T.fuel))] [(0, [0, 2, 4, 25, 26, 27]), (2, [0, 2, 4, 25, 26, 27, 39, 40, 41])] [(0, [(0, [0, 2, 4])]), (2, [(0, [0, 2, 4]), (1, [0, 2, 4, 25, 26, 27]), (2, [0, 2, 4, 25, 26, 27])])] [6] [(0, [(64, (2, some 4))]), (2, [(64, (2, some 4))])] [(9, [0, 1, 3, 7, 0, 16, 48, 112, 240, 0, 512, 2032, 15, 0, 16383, 32767, 65535, 32767, 163839, 425983])]
def PL_zi_0 := cc (pSl 0 (di 0 0) (pSl 2 (di 3 0) (pSl 3 (fx 5) (pSl 5 (di 6 0) (pSl 23 pA (pSl 24 qI (pSl 25 qI an))))))) (aa (dh (aa pA (aa pA (aa (fx 1) (aa (fx 2) (aa qI (aa qI an))))))) (aa (cw .str) (aa (cw .str2) (aa (dh (aa qI (aa pA (aa pA (aa pA (aa (pN 1) (aa (pN 1) (aa pB (aa (j4 4) (aa (pN 1) (aa (pN 1) (aa (pN 1) an)))))))))))) (aa (ei 3 1) (aa (cw (.int .i64)) (aa (dh pc_xe) an)))))))
def HL_zi_0 (X : YL_zi_0) (p : PL_zi_0.T) (K : Ex → St → Prop) : Prop := X p.1.2.2.2.2.1 p.1.2.2.2.2.2.1 p.1.2.2.2.2.2.2.1 p.2.1.1 p.2.1.2.1 p.2.1.2.2.2.2.1 p.2.1.2.2.2.2.2.1 p.2.2.1 p.2.2.2.1 p.2.2.2.2.1.1 p.2.2.2.2.1.2.1 p.2.2.2.2.1.2.2.1 p.2.2.2.2.1.2.2.2.1 p.2.2.2.2.1.2.2.2.2.2.2.1 p.2.2.2.2.2.1 p.2.2.2.2.2.2.1 p.2.2.2.2.2.2.2.1 (fun _a1 _a2 _n1 _n2 _m1 _m2 _n3 _a3 _a4 _a5 _b1 _r1 _m3 _x1 => K (.exit 0) ⟨[(0, .ptr 0 0), (2, .ptr 3 0), (3, .map 5), (5, .ptr 6 0)], [.box [ar _a1, ar _a2, .map 1, .map 2, ai _n1, ai _n2], .map .str _m1, .map .str2 _m2, .box [ai _n3, ar _a3, ar _a4, ar _a5, .p .nils, .p .nils, ab _b1, .row 4, .p .nils, .p .nils, .p .nils], .row 3 1 _r1, .map (.int .i64) _m3, .box [ai _x1.Kind, aw _x1.Table, aw _x1.Join, ar _x1.On, ar _x1.Where, ar _x1.Items, ab _x1.Star, ar _x1.Sets, ar _x1.Groups, ar _x1.Sorts, ar _x1.Limit, ai _x1.At, ai _x1.JoinAt]]⟩)
def Q_zi_0 (R0 : YL_zi_0) : ck := cu [⟨_, PL_zi_0, HL_zi_0 R0⟩]
def PL_zi_2 := cc (pSl 0 (di 0 0) (pSl 2 (di 3 0) (pSl 3 (fx 5) (pSl 43 pA (pSl 44 qI (pSl 45 qI an)))))) (aa (dh (aa pA (aa pA (aa (fx 1) (aa (fx 2) (aa qI (aa qI an))))))) (aa (cw .str) (aa (cw .str2) (aa (dh (aa qI (aa pA (aa pA (aa pA (aa (j4 6) (aa (pN 1) (aa pB (aa (j4 4) (aa (pN 1) (aa (pN 1) (aa (pN 1) an)))))))))))) (aa (ei 3 1) (aa (cw (.int .i64)) (aa (ei 64 7) an)))))))
def HL_zi_2 (X : YL_zi_2) (p : PL_zi_2.T) (K : Ex → St → Prop) : Prop := X p.1.2.2.2.1 p.1.2.2.2.2.1 p.1.2.2.2.2.2.1 p.2.1.1 p.2.1.2.1 p.2.1.2.2.2.2.1 p.2.1.2.2.2.2.2.1 p.2.2.1 p.2.2.2.1 p.2.2.2.2.1.1 p.2.2.2.2.1.2.1 p.2.2.2.2.1.2.2.1 p.2.2.2.2.1.2.2.2.1 p.2.2.2.2.1.2.2.2.2.2.2.1 p.2.2.2.2.2.1 p.2.2.2.2.2.2.1 p.2.2.2.2.2.2.2.1 (fun _a1 _a2 _n1 _n2 _m1 _m2 _n3 _a3 _a4 _a5 _b1 _r1 _m3 _r2 => K .ret ⟨[(8, ab false)], [.box [ar _a1, ar _a2, .map 1, .map 2, ai _n1, ai _n2], .map .str _m1, .map .str2 _m2, .box [ai _n3, ar _a3, ar _a4, ar _a5, .row 6, .p .nils, ab _b1, .row 4, .p .nils, .p .nils, .p .nils], .row 3 1 _r1, .map (.int .i64) _m3, .row 64 7 _r2]⟩) (fun _a6 _a7 _n4 _n5 _m4 _m5 _n6 _a8 _a9 _a10 _b2 _r3 _m6 _r4 => K (.exit 2) ⟨[], [.box [ar _a6, ar _a7, .map 1, .map 2, ai _n4, ai _n5], .map .str _m4, .map .str2 _m5, .box [ai _n6, ar _a8, ar _a9, ar _a10, .row 6, .p .nils, ab _b2, .row 4, .p .nils, .p .nils, .p .nils], .row 3 1 _r3, .map (.int .i64) _m6, .row 64 7 _r4]⟩)
def Q_zi_2 (R0 : YL_zi_2) : ck := cu [⟨_, PL_zi_2, HL_zi_2 R0⟩]
def env_zi (T : Tab) : Env := mk (CT T) 95 6 [(0, Q_zi_0 (L_zi_0 T T.fuel)), (2, Q_zi_2 (L_zi_2 T T.fuel))] [(0, [0, 2, 3, 5, 23, 24, 25]), (2, [0, 2, 3, 43, 44, 45])] [(0, [(0, [0, 2, 3, 5])]), (2, [(2, [])])] [8] [(2, [(64, (2, some 4))])] [(15, [0, 1, 3, 7, 0, 15, 0, 127, 255, 511, 255, 1279, 3327])]
def env_zc (T : Tab) : Env := mk (CT T) 9 0 [] [] [] [2] [] []
def env_zv (T : Tab) : Env := mk (CT T) 80 0 [] [] [] [4] [] []
def PL_z2k_0 := cc (pSl 0 pA (pSl 1 pA (pSl 12 qI (pSl 13 qI an)))) (an (Y := AO))
def HL_z2k_0 (X : YL_z2k_0) (p : PL_z2k_0.T) (K : Ex → St → Prop) : Prop := X p.1.1 p.1.2.1 p.1.2.2.1 p.1.2.2.2.1 (K .ret ⟨[(4, ab false)], []⟩) (K (.exit 0) ⟨[], []⟩)
def Q_z2k_0 (R0 : YL_z2k_0) : ck := cu [⟨_, PL_z2k_0, HL_z2k_0 R0⟩]
def env_z2k (T : Tab) : Env := mk (CT T) 26 0 [(0, Q_z2k_0 (L_z2k_0 T T.fuel))] [(0, [0, 1, 12, 13])] [(0, [(0, [])])] [4] [] [(6, [0, 0, 3, 7, 0, 0, 48, 112, 255])]
def PL_z2j_0 := cc (pSl 0 pA (pSl 1 pA (pSl 12 qI (pSl 13 qI an)))) (an (Y := AO))
def HL_z2j_0 (X : YL_z2j_0) (p : PL_z2j_0.T) (K : Ex → St → Prop) : Prop := X p.1.1 p.1.2.1 p.1.2.2.1 p.1.2.2.2.1 (K .ret ⟨[(4, ab false)], []⟩) (K (.exit 0) ⟨[], []⟩)
def Q_z2j_0 (R0 : YL_z2j_0) : ck := cu [⟨_, PL_z2j_0, HL_z2j_0 R0⟩]
def env_z2j (T : Tab) : Env := mk (CT T) 26 0 [(0, Q_z2j_0 (L_z2j_0 T T.fuel))] [(0, [0, 1, 12, 13])] [(0, [(0, [])])] [4] [] [(6, [0, 0, 3, 7, 0, 0, 48, 112, 255])]
def PL_z2i_0 := cc (pSl 1 pA (pSl 2 (ia 58 an an) (pSl 15 pA (pSl 16 qI (pSl 17 qI an))))) (an (Y := AO))
def HL_z2i_0 (X : YL_z2i_0) (p : PL_z2i_0.T) (K : Ex → St → Prop) : Prop := X p.1.1 p.1.2.2.1 p.1.2.2.2.1 p.1.2.2.2.2.1 (K .ret ⟨[(6, ab false)], []⟩) (K (.exit 0) ⟨[], []⟩)
def Q_z2i_0 (R0 : YL_z2i_0) : ck := cu [⟨_, PL_z2i_0, HL_z2i_0 R0⟩]
def env_z2i (T : Tab) : Env := mk (CT T) 32 0 [(0, Q_z2i_0 (L_z2i_0 T T.fuel))] [(0, [1, 2, 15, 16, 17])] [(0, [(0, [])])] [6] [] []
def env_zu (T : Tab) : Env := mk (CT T) 38 0 [] [] [] [4] [] []
def PL_z1v_1 := cc (pSl 1 pA (pSl 5 (di 0 0) (pSl 10 pA (pSl 13 (j4 1) (pSl 14 qI an))))) (aa (dh pc_x9) (aa (ei 3 1) an))
def HL_z1v_1 (X : YL_z1v_1) (p : PL_z1v_1.T) (K : Ex → St → Prop) : Prop := X p.1.1 p.1.2.2.1 p.1.2.2.2.2.1 p.2.1 p.2.2.1 (fun _a1 _x1 _r1 => K (.exit 1) ⟨[(1, ar _a1), (5, .ptr 0 0), (13, .row 1)], [.box [ai _x1.Kind, ar _x1.Tables, ar _x1.On, ar _x1.Where, ar _x1.Items, ar _x1.Columns, ab _x1.Grouped, ar _x1.Groups, ar _x1.Sorts, ar _x1.Limit, ar _x1.Types], .row 3 1 _r1]⟩)
def Q_z1v_1 (R0 : YL_z1v_1) : ck := cu [⟨_, PL_z1v_1, HL_z1v_1 R0⟩]
def PL_z1v_3 := cc (pSl 1 pA (pSl 5 (di 0 0) (pSl 10 pA (pSl 13 (j4 1) (pSl 15 qI an))))) (aa (dh pc_x9) (aa (ei 3 1) an))
def HL_z1v_3 (X : YL_z1v_3) (p : PL_z1v_3.T) (K : Ex → St → Prop) : Prop := X p.1.1 p.1.2.2.1 p.1.2.2.2.2.1 p.2.1 p.2.2.1 (K .ret ⟨[(6, ab false)], []⟩) (fun _a1 _a2 _x1 _r1 => K (.exit 3) ⟨[(1, ar _a1), (5, .ptr 0 0), (10, ar _a2), (13, .row 1)], [.box [ai _x1.Kind, ar _x1.Tables, ar _x1.On, ar _x1.Where, ar _x1.Items, ar _x1.Columns, ab _x1.Grouped, ar _x1.Groups, ar _x1.Sorts, ar _x1.Limit, ar _x1.Types], .row 3 1 _r1]⟩)
def Q_z1v_3 (R0 : YL_z1v_3) : ck := cu [⟨_, PL_z1v_3, HL_z1v_3 R0⟩]
def env_z1v (T : Tab) : Env := mk (CT T) 213 0 [(1, Q_z1v_1 (L_z1v_1 T T.fuel)), (3, Q_z1v_3 (L_z1v_3 T T.fuel))] [(1, [1, 5, 10, 13, 14]), (3, [1, 5, 10, 13, 15])] [(1, [(0, [1, 5, 10, 13]), (1, [1, 5, 13])]), (3, [(3, [1, 5, 10, 13])])] [6] [(1, [(3, (13, none))]), (3, [(3, (13, none))])] [(32, [0, 1, 0, 7, 0, 16, 0, 112, 240, 511, 1023])]
def PL_z1l_0 := cc (pSl 1 (di 0 0) (pSl 3 (j4 1) (pSl 4 (pN 1) (pSl 5 qI an)))) (aa (dh pc_x1) (aa (ei 9 1) an))
def HL_z1l_0 (X : YL_z1l_0) (p : PL_z1l_0.T) (K : Ex → St → Prop) : Prop := X p.1.2.2.2.1 p.2.1 p.2.2.1 (K .ret ⟨[(2, ab false)], []⟩) (fun _x1 _r1 => K (.exit 0) ⟨[(1, .ptr 0 0), (3, .row 1), (4, .p .nils)], [.box [ar _x1.Tables, ar _x1.Procs], .row 9 1 _r1]⟩)
def Q_z1l_0 (R0 : YL_z1l_0) : ck := cu [⟨_, PL_z1l_0, HL_z1l_0 R0⟩]
def PL_z1l_2 := cc (pSl 1 (di 0 0) (pSl 3 (j4 1) (pSl 4 (j4 2) (pSl 7 qI an)))) (aa (dh pc_x1) (aa (ei 9 1) (aa (ei 9 1) an)))
def HL_z1l_2 (X : YL_z1l_2) (p : PL_z1l_2.T) (K : Ex → St → Prop) : Prop := X p.1.2.2.2.1 p.2.1 p.2.2.1 p.2.2.2.1 (K .ret ⟨[(2, ab false)], []⟩) (fun _r1 _r2 => K (.exit 2) ⟨[(3, .row 0), (4, .row 1)], [.row 9 1 _r1, .row 9 1 _r2]⟩)
def Q_z1l_2 (R0 : YL_z1l_2) : ck := cu [⟨_, PL_z1l_2, HL_z1l_2 R0⟩]
def env_z1l (T : Tab) : Env := mk (CT T) 77 0 [(0, Q_z1l_0 (L_z1l_0 T T.fuel)), (2, Q_z1l_2 (L_z1l_2 T T.fuel))] [(0, [1, 3, 4, 5]), (2, [1, 3, 4, 7])] [(0, [(0, [1, 3, 4])]), (2, [(2, [3, 4])])] [2] [(0, [(9, (3, none))]), (2, [(9, (4, none))])] []
def PL_z1j_0 := cc (pSl 1 (di 0 0) (pSl 4 (j4 1) (pSl 5 qI an))) (aa (dh pc_x8) (aa (ei 9 1) an))
def HL_z1j_0 (X : YL_z1j_0) (p : PL_z1j_0.T) (K : Ex → St → Prop) : Prop := X p.1.2.2.1 p.2.1 p.2.2.1 (K .ret ⟨[(2, ab false)], []⟩) (fun _x1 _r1 => K (.exit 0) ⟨[(1, .ptr 0 0), (4, .row 1)], [.box [aw _x1.Name, ar _x1.Columns, ar _x1.Key, ai _x1.Part, ar _x1.Indexes], .row 9 1 _r1]⟩)
def Q_z1j_0 (R0 : YL_z1j_0) : ck := cu [⟨_, PL_z1j_0, HL_z1j_0 R0⟩]
def PL_z1j_2 := cc (pSl 1 (di 0 0) (pSl 8 pB (pSl 9 qI an))) (aa (dh pc_x8) an)
def HL_z1j_2 (X : YL_z1j_2) (p : PL_z1j_2.T) (K : Ex → St → Prop) : Prop := X p.1.2.1 p.1.2.2.1 p.2.1 (K .ret ⟨[(2, ab false)], []⟩) (fun _b1 _x1 => K (.exit 2) ⟨[(1, .ptr 0 0), (8, ab _b1)], [.box [aw _x1.Name, ar _x1.Columns, ar _x1.Key, ai _x1.Part, ar _x1.Indexes]]⟩)
def Q_z1j_2 (R0 : YL_z1j_2) : ck := cu [⟨_, PL_z1j_2, HL_z1j_2 R0⟩]
def PL_z1j_4 := cc (pSl 1 (di 0 0) (pSl 8 pB (pSl 10 (j4 1) (pSl 11 qI an)))) (aa (dh pc_x8) (aa (ei 9 1) an))
def HL_z1j_4 (X : YL_z1j_4) (p : PL_z1j_4.T) (K : Ex → St → Prop) : Prop := X p.1.2.1 p.1.2.2.2.1 p.2.1 p.2.2.1 (K .ret ⟨[(2, ab false)], []⟩) (fun _b1 _r1 => K (.exit 4) ⟨[(8, ab _b1), (10, .row 0)], [.row 9 1 _r1]⟩)
def Q_z1j_4 (R0 : YL_z1j_4) : ck := cu [⟨_, PL_z1j_4, HL_z1j_4 R0⟩]
def env_z1j (T : Tab) : Env := mk (CT T) 143 0 [(0, Q_z1j_0 (L_z1j_0 T T.fuel)), (2, Q_z1j_2 (L_z1j_2 T T.fuel)), (4, Q_z1j_4 (L_z1j_4 T T.fuel))] [(0, [1, 4, 5]), (2, [1, 8, 9]), (4, [1, 8, 10, 11])] [(0, [(0, [1, 4])]), (2, [(2, [1, 8])]), (4, [(4, [8, 10])])] [2] [(0, [(9, (4, none))]), (4, [(9, (10, none))])] [(19, [0, 1, 0, 4, 0, 28, 60, 127, 255, 511, 1023]), (21, [0, 1, 0, 7, 15, 0, 32, 127]), (27, [0, 1, 0, 7, 15, 31, 0, 64, 192, 511, 1023])]
def PL_z1k_0 := cc (pSl 0 pS (pSl 3 qI an)) (an (Y := AO))
def HL_z1k_0 (X : YL_z1k_0) (p : PL_z1k_0.T) (K : Ex → St → Prop) : Prop := X p.1.1 p.1.2.1 (K .ret ⟨[(2, ab false)], []⟩) (K (.exit 0) ⟨[], []⟩)
def Q_z1k_0 (R0 : YL_z1k_0) : ck := cu [⟨_, PL_z1k_0, HL_z1k_0 R0⟩]
def env_z1k (T : Tab) : Env := mk (CT T) 56 0 [(0, Q_z1k_0 (L_z1k_0 T T.fuel))] [(0, [0, 3])] [(0, [(0, [])])] [2] [] []
def PL_z1n_0 := cc (pSl 0 (j4 0) (pSl 3 qI an)) (aa (ei 9 1) an)
def HL_z1n_0 (X : YL_z1n_0) (p : PL_z1n_0.T) (K : Ex → St → Prop) : Prop := X p.1.2.1 p.2.1 (fun _r1 => K .ret ⟨[(2, ab false)], [.row 9 1 _r1]⟩) (fun _r2 => K (.exit 0) ⟨[], [.row 9 1 _r2]⟩)
def Q_z1n_0 (R0 : YL_z1n_0) : ck := cu [⟨_, PL_z1n_0, HL_z1n_0 R0⟩]
def PL_z1n_2 := cc (pSl 0 (j4 0) (pSl 3 qI (pSl 5 qI an))) (aa (ei 9 1) an)
def HL_z1n_2 (X : YL_z1n_2) (p : PL_z1n_2.T) (K : Ex → St → Prop) : Prop := X p.1.2.1 p.1.2.2.1 p.2.1 (fun _r1 => K .ret ⟨[(2, ab false)], [.row 9 1 _r1]⟩) (fun _n1 _r2 => K (.exit 2) ⟨[(0, .row 0), (3, ai _n1)], [.row 9 1 _r2]⟩)
def Q_z1n_2 (R0 : YL_z1n_2) : ck := cu [⟨_, PL_z1n_2, HL_z1n_2 R0⟩]
def env_z1n (T : Tab) : Env := mk (CT T) 33 1 [(0, Q_z1n_0 (L_z1n_0 T T.fuel)), (2, Q_z1n_2 (L_z1n_2 T T.fuel))] [(0, [0, 3]), (2, [0, 3, 5])] [(0, [(0, [])]), (2, [(0, []), (1, [0, 3]), (2, [0, 3])])] [2] [] [(10, [0, 0, 3, 7, 0, 0, 48, 112, 255])]
def PL_z1o_0 := cc (pSl 0 pA (pSl 1 qI (pSl 5 qI an))) (an (Y := AO))
def HL_z1o_0 (X : YL_z1o_0) (p : PL_z1o_0.T) (K : Ex → St → Prop) : Prop := X p.1.1 p.1.2.1 p.1.2.2.1 (K .ret ⟨[(4, ab false)], []⟩) (K (.exit 0) ⟨[], []⟩)
def Q_z1o_0 (R0 : YL_z1o_0) : ck := cu [⟨_, PL_z1o_0, HL_z1o_0 R0⟩]
def PL_z1o_2 := cc (pSl 0 pA (pSl 1 qI (pSl 5 qI (pSl 6 qI an)))) (an (Y := AO))
def HL_z1o_2 (X : YL_z1o_2) (p : PL_z1o_2.T) (K : Ex → St → Prop) : Prop := X p.1.1 p.1.2.1 p.1.2.2.1 p.1.2.2.2.1 (K .ret ⟨[(4, ab false)], []⟩) (fun _a1 _n1 _n2 => K (.exit 2) ⟨[(0, ar _a1), (1, ai _n1), (5, ai _n2)], []⟩)
def Q_z1o_2 (R0 : YL_z1o_2) : ck := cu [⟨_, PL_z1o_2, HL_z1o_2 R0⟩]
def env_z1o (T : Tab) : Env := mk (CT T) 48 0 [(0, Q_z1o_0 (L_z1o_0 T T.fuel)), (2, Q_z1o_2 (L_z1o_2 T T.fuel))] [(0, [0, 1, 5]), (2, [0, 1, 5, 6])] [(0, [(0, [])]), (2, [(0, []), (1, [0, 1, 5]), (2, [0, 1, 5])])] [4] [] [(11, [0, 0, 3, 7, 0, 0, 48, 112, 255])]
def PL_z1i_0 := cc (pSl 1 (di 0 0) (pSl 6 (j4 1) (pSl 7 qI an))) (aa (dh pc_xc) (aa (ei 9 1) an))
def HL_z1i_0 (X : YL_z1i_0) (p : PL_z1i_0.T) (K : Ex → St → Prop) : Prop := X p.1.2.2.1 p.2.1 p.2.2.1 (K .ret ⟨[(2, ab false)], []⟩) (fun _x1 _r1 => K (.exit 0) ⟨[(1, .ptr 0 0), (6, .row 1)], [.box [aw _x1.Name, ar _x1.Params, ar _x1.Body, ai _x1.Rows, ai _x1.Bytes], .row 9 1 _r1]⟩)
def Q_z1i_0 (R0 : YL_z1i_0) : ck := cu [⟨_, PL_z1i_0, HL_z1i_0 R0⟩]
def PL_z1i_2 := cc (pSl 1 (di 0 0) (pSl 6 (j4 1) (pSl 8 qI an))) (aa (dh pc_xc) (aa (ei 9 1) an))
def HL_z1i_2 (X : YL_z1i_2) (p : PL_z1i_2.T) (K : Ex → St → Prop) : Prop := X p.1.2.2.1 p.2.1 p.2.2.1 (K .ret ⟨[(2, ab false)], []⟩) (fun _r1 => K (.exit 2) ⟨[(6, .row 0)], [.row 9 1 _r1]⟩)
def Q_z1i_2 (R0 : YL_z1i_2) : ck := cu [⟨_, PL_z1i_2, HL_z1i_2 R0⟩]
def env_z1i (T : Tab) : Env := mk (CT T) 103 0 [(0, Q_z1i_0 (L_z1i_0 T T.fuel)), (2, Q_z1i_2 (L_z1i_2 T T.fuel))] [(0, [1, 6, 7]), (2, [1, 6, 8])] [(0, [(0, [1, 6])]), (2, [(2, [6])])] [2] [(0, [(9, (6, none))])] []
def env_z1m (T : Tab) : Env := mk (CT T) 15 0 [] [] [] [6] [] []
def PL_z1u_0 := cc (pSl 0 pA (pSl 3 qI an)) (an (Y := AO))
def HL_z1u_0 (X : YL_z1u_0) (p : PL_z1u_0.T) (K : Ex → St → Prop) : Prop := X p.1.1 p.1.2.1 (K .ret ⟨[(2, ab false)], []⟩) (fun _a1 => K (.exit 0) ⟨[(0, ar _a1)], []⟩)
def Q_z1u_0 (R0 : YL_z1u_0) : ck := cu [⟨_, PL_z1u_0, HL_z1u_0 R0⟩]
def PL_z1u_2 := cc (pSl 0 pA (pSl 3 qI (pSl 5 qI an))) (an (Y := AO))
def HL_z1u_2 (X : YL_z1u_2) (p : PL_z1u_2.T) (K : Ex → St → Prop) : Prop := X p.1.1 p.1.2.1 p.1.2.2.1 (K .ret ⟨[(2, ab false)], []⟩) (fun _a1 _n1 => K (.exit 2) ⟨[(0, ar _a1), (3, ai _n1)], []⟩)
def Q_z1u_2 (R0 : YL_z1u_2) : ck := cu [⟨_, PL_z1u_2, HL_z1u_2 R0⟩]
def env_z1u (T : Tab) : Env := mk (CT T) 55 0 [(0, Q_z1u_0 (L_z1u_0 T T.fuel)), (2, Q_z1u_2 (L_z1u_2 T T.fuel))] [(0, [0, 3]), (2, [0, 3, 5])] [(0, [(0, [0])]), (2, [(0, [0]), (1, [0, 3]), (2, [0, 3])])] [2] [] [(10, [0, 0, 3, 7, 15, 0, 0, 96, 224, 480, 1023])]
def PL_z1p_0 := cc (pSl 0 pS (pSl 3 qI an)) (an (Y := AO))
def HL_z1p_0 (X : YL_z1p_0) (p : PL_z1p_0.T) (K : Ex → St → Prop) : Prop := X p.1.1 p.1.2.1 (K .ret ⟨[(2, ab false)], []⟩) (K (.exit 0) ⟨[], []⟩)
def Q_z1p_0 (R0 : YL_z1p_0) : ck := cu [⟨_, PL_z1p_0, HL_z1p_0 R0⟩]
def env_z1p (T : Tab) : Env := mk (CT T) 44 0 [(0, Q_z1p_0 (L_z1p_0 T T.fuel))] [(0, [0, 3])] [(0, [(0, [])])] [2] [] []
def env_z1r (T : Tab) : Env := mk (CT T) 9 0 [] [] [] [2] [] []
def env_z1q (T : Tab) : Env := mk (CT T) 9 0 [] [] [] [2] [] []
def PL_z25_0 := cc (pSl 2 (di 0 0) (pSl 3 (di 1 0) (pSl 5 qI an))) (aa (dh pc_x1) (aa (dh pc_x9) an))
def HL_z25_0 (X : YL_z25_0) (p : PL_z25_0.T) (K : Ex → St → Prop) : Prop := X p.1.2.2.1 p.2.1 p.2.2.1 (K .ret ⟨[(4, ab false)], []⟩) (fun _x1 => K (.exit 0) ⟨[(3, .ptr 0 0)], [.box [ai _x1.Kind, ar _x1.Tables, ar _x1.On, ar _x1.Where, ar _x1.Items, ar _x1.Columns, ab _x1.Grouped, ar _x1.Groups, ar _x1.Sorts, ar _x1.Limit, ar _x1.Types]]⟩)
def Q_z25_0 (R0 : YL_z25_0) : ck := cu [⟨_, PL_z25_0, HL_z25_0 R0⟩]
def env_z25 (T : Tab) : Env := mk (CT T) 64 0 [(0, Q_z25_0 (L_z25_0 T T.fuel))] [(0, [2, 3, 5])] [(0, [(0, [3])])] [4] [] [(4, [0, 1, 0, 7, 15, 31, 63, 127, 255, 127, 1023, 2047, 127, 4223, 12415, 32767, 65535]), (7, [0, 1, 3, 7, 15, 31, 63, 127, 15, 271, 783, 1807, 4095, 8191, 16383, 32767, 65535, 131071, 262143, 524287, 1048575])]
def PL_z1t_0 := cc (pSl 1 pA (pSl 2 (di 0 0) (pSl 5 (j4 1) (pSl 6 qI an)))) (aa (dh pc_x1) (aa (ei 51 3) an))
def HL_z1t_0 (X : YL_z1t_0) (p : PL_z1t_0.T) (K : Ex → St → Prop) : Prop := X p.1.1 p.1.2.2.2.1 p.2.1 p.2.2.1 (fun _r1 => K (.exit 0) ⟨[(5, .row 0)], [.row 51 3 _r1]⟩)
def Q_z1t_0 (R0 : YL_z1t_0) : ck := cu [⟨_, PL_z1t_0, HL_z1t_0 R0⟩]
def env_z1t (T : Tab) : Env := mk (CT T) 25 0 [(0, Q_z1t_0 (L_z1t_0 T T.fuel))] [(0, [1, 2, 5, 6])] [(0, [(0, [5])])] [4] [(0, [(51, (5, none))])] [(5, [0, 0, 2, 0, 0, 24, 56, 126, 254, 510, 1023, 2047])]
def PL_z26_0 := cc (pSl 0 pA (pSl 1 pA (pSl 2 pA (pSl 7 qI an)))) (an (Y := AO))
def HL_z26_0 (X : YL_z26_0) (p : PL_z26_0.T) (K : Ex → St → Prop) : Prop := X p.1.1 p.1.2.1 p.1.2.2.1 p.1.2.2.2.1 (K .ret ⟨[(6, ab false)], []⟩) (fun _a1 => K (.exit 0) ⟨[(0, ar _a1)], []⟩)
def Q_z26_0 (R0 : YL_z26_0) : ck := cu [⟨_, PL_z26_0, HL_z26_0 R0⟩]
def env_z26 (T : Tab) : Env := mk (CT T) 43 0 [(0, Q_z26_0 (L_z26_0 T T.fuel))] [(0, [0, 1, 2, 7])] [(0, [(0, [0])])] [6] [] []
def PL_z1w_0 := cc (pSl 1 pA (pSl 2 pA (pSl 3 qI (pSl 5 (di 0 0) (pSl 15 qI (pSl 16 qI an)))))) (aa (dh pc_xf) an)
def HL_z1w_0 (X : YL_z1w_0) (p : PL_z1w_0.T) (K : Ex → St → Prop) : Prop := X p.1.1 p.1.2.1 p.1.2.2.1 p.1.2.2.2.2.1 p.1.2.2.2.2.2.1 p.2.1 (K .ret ⟨[(10, ab false)], []⟩) (fun _x1 => K (.exit 0) ⟨[(5, .ptr 0 0)], [.box [ai _x1.Op, ai _x1.Num, ai _x1.Type_, ai _x1.Value_Kind, ai _x1.Value_Int, aw _x1.Value_Text, ar _x1.Kids]]⟩)
def Q_z1w_0 (R0 : YL_z1w_0) : ck := cu [⟨_, PL_z1w_0, HL_z1w_0 R0⟩]
def env_z1w (T : Tab) : Env := mk (CT T) 159 0 [(0, Q_z1w_0 (L_z1w_0 T T.fuel))] [(0, [1, 2, 3, 5, 15, 16])] [(0, [(0, [5])])] [10] [] [(18, [0, 1, 3, 7, 15, 31, 63, 127, 255, 15, 527, 1551, 3599, 7695, 16383, 32767, 65535, 131071, 262143, 524287, 1048575, 2097151, 4194303, 8388607, 16777215, 33554431, 67108863, 134217727, 268435455, 536870911, 1073741823, 2147483647])]
def env_z23 (T : Tab) : Env := mk (CT T) 87 0 [] [] [] [6] [] [(6, [0, 1, 3, 7, 15, 31, 15, 79, 255, 511, 1023, 2047, 4095, 2047, 16383, 32767, 65535, 131071, 262143, 131071, 131071, 1179647, 3801087, 7995391, 16383999, 33554431, 67108863, 134217727]), (8, [0, 1, 3, 7, 15, 31, 15, 79, 255, 511, 1023, 2047, 4095, 2047, 16383, 32767, 65535, 131071, 262143, 131071, 131071, 1179647, 3801087, 7995391, 16383999, 33554431, 67108863, 134217727])]
def env_z1s (T : Tab) : Env := mk (CT T) 17 0 [] [] [] [2] [] []
def env_z1h (T : Tab) : Env := mk (CT T) 56 0 [] [] [] [2] [] []
def env_z1x (T : Tab) : Env := mk (CT T) 9 0 [] [] [] [2] [] []
def env_z22 (T : Tab) : Env := mk (CT T) 32 0 [] [] [] [4] [] []
def env_z21 (T : Tab) : Env := mk (CT T) 35 0 [] [] [] [4] [] []
def env_z28 (T : Tab) : Env := mk (CT T) 12 0 [] [] [] [2] [] []
def env_z27 (T : Tab) : Env := mk (CT T) 18 0 [] [] [] [4] [] []
def PL_z24_0 := cc (pSl 1 pA (pSl 2 pA (pSl 3 (di 0 0) (pSl 7 pB (pSl 8 qI an))))) (aa (dh pc_x9) an)
def HL_z24_0 (X : YL_z24_0) (p : PL_z24_0.T) (K : Ex → St → Prop) : Prop := X p.1.1 p.1.2.1 p.1.2.2.2.1 p.1.2.2.2.2.1 p.2.1 (fun _a1 _a2 _b1 _x1 => K (.exit 0) ⟨[(1, ar _a1), (2, ar _a2), (3, .ptr 0 0), (7, ab _b1)], [.box [ai _x1.Kind, ar _x1.Tables, ar _x1.On, ar _x1.Where, ar _x1.Items, ar _x1.Columns, ab _x1.Grouped, ar _x1.Groups, ar _x1.Sorts, ar _x1.Limit, ar _x1.Types]]⟩)
def Q_z24_0 (R0 : YL_z24_0) : ck := cu [⟨_, PL_z24_0, HL_z24_0 R0⟩]
def PL_z24_2 := cc (pSl 1 pA (pSl 2 pA (pSl 3 (di 0 0) (pSl 7 pB (pSl 11 qI an))))) (aa (dh pc_x9) an)
def HL_z24_2 (X : YL_z24_2) (p : PL_z24_2.T) (K : Ex → St → Prop) : Prop := X p.1.1 p.1.2.1 p.1.2.2.2.1 p.1.2.2.2.2.1 p.2.1 (K .ret ⟨[(6, ab false)], []⟩) (fun _a1 _a2 _b1 _x1 => K (.exit 2) ⟨[(1, ar _a1), (2, ar _a2), (3, .ptr 0 0), (7, ab _b1)], [.box [ai _x1.Kind, ar _x1.Tables, ar _x1.On, ar _x1.Where, ar _x1.Items, ar _x1.Columns, ab _x1.Grouped, ar _x1.Groups, ar _x1.Sorts, ar _x1.Limit, ar _x1.Types]]⟩)
def Q_z24_2 (R0 : YL_z24_2) : ck := cu [⟨_, PL_z24_2, HL_z24_2 R0⟩]
def PL_z24_4 := cc (pSl 1 pA (pSl 2 pA (pSl 3 (di 0 0) (pSl 7 pB (pSl 13 qI an))))) (aa (dh pc_x9) an)
def HL_z24_4 (X : YL_z24_4) (p : PL_z24_4.T) (K : Ex → St → Prop) : Prop := X p.1.1 p.1.2.1 p.1.2.2.2.1 p.1.2.2.2.2.1 p.2.1 (K .ret ⟨[(6, ab false)], []⟩) (fun _x1 => K (.exit 4) ⟨[(3, .ptr 0 0)], [.box [ai _x1.Kind, ar _x1.Tables, ar _x1.On, ar _x1.Where, ar _x1.Items, ar _x1.Columns, ab _x1.Grouped, ar _x1.Groups, ar _x1.Sorts, ar _x1.Limit, ar _x1.Types]]⟩)
def Q_z24_4 (R0 : YL_z24_4) : ck := cu [⟨_, PL_z24_4, HL_z24_4 R0⟩]
def PL_z24_6 := cc (pSl 3 (di 0 0) (pSl 17 qI an)) (aa (dh pc_x9) an)
def HL_z24_6 (X : YL_z24_6) (p : PL_z24_6.T) (K : Ex → St → Prop) : Prop := X p.1.2.1 p.2.1 (K .ret ⟨[(6, ab false)], []⟩) (fun _x1 => K (.exit 6) ⟨[(3, .ptr 0 0)], [.box [ai _x1.Kind, ar _x1.Tables, ar _x1.On, ar _x1.Where, ar _x1.Items, ar _x1.Columns, ab _x1.Grouped, ar _x1.Groups, ar _x1.Sorts, ar _x1.Limit, ar _x1.Types]]⟩)
def Q_z24_6 (R0 : YL_z24_6) : ck := cu [⟨_, PL_z24_6, HL_z24_6 R0⟩]
def env_z24 (T : Tab) : Env := mk (CT T) 260 0 [(0, Q_z24_0 (L_z24_0 T T.fuel)), (2, Q_z24_2 (L_z24_2 T T.fuel)), (4, Q_z24_4 (L_z24_4 T T.fuel)), (6, Q_z24_6 (L_z24_6 T T.fuel))] [(0, [1, 2, 3, 7, 8]), (2, [1, 2, 3, 7, 11]), (4, [1, 2, 3, 7, 13]), (6, [3, 17])] [(0, [(0, [1, 2, 3, 7])]), (2, [(2, [1, 2, 3, 7])]), (4, [(4, [3])]), (6, [(6, [3])])] [6] [] [(15, [0, 1, 0, 7, 0, 16, 0, 112, 240, 511, 1023]), (23, [0, 1, 0, 7, 15, 31, 63, 127, 255, 511, 255, 1279, 255, 7423, 15615, 31999, 65535, 131071, 262143]), (24, [0, 1, 3, 7, 15, 7, 63, 127, 7, 263, 7, 1799, 3847, 7943, 16383, 32767, 65535, 131071, 262143, 524287, 1048575, 2097151, 4194303, 8388607, 16777215, 33554431, 67108863]), (29, [0, 1, 0, 7, 15, 31, 63, 127, 255, 511, 255, 2047, 4095, 8191, 255, 16639, 49407, 131071, 262143, 524287, 1048575, 2097151, 1048575, 8388607, 16777215, 33554431, 67108863, 134217727])]
def PL_z20_0 := cc (pSl 0 pA (pSl 1 pA (pSl 5 qI an))) (an (Y := AO))
def HL_z20_0 (X : YL_z20_0) (p : PL_z20_0.T) (K : Ex → St → Prop) : Prop := X p.1.1 p.1.2.1 p.1.2.2.1 (K .ret ⟨[(4, ab false)], []⟩) (fun _a1 _a2 => K (.exit 0) ⟨[(0, ar _a1), (1, ar _a2)], []⟩)
def Q_z20_0 (R0 : YL_z20_0) : ck := cu [⟨_, PL_z20_0, HL_z20_0 R0⟩]
def env_z20 (T : Tab) : Env := mk (CT T) 32 0 [(0, Q_z20_0 (L_z20_0 T T.fuel))] [(0, [0, 1, 5])] [(0, [(0, [0, 1])])] [4] [] []
def PL_z1y_0 := cc (pSl 0 pA (pSl 1 qI (pSl 5 qI an))) (an (Y := AO))
def HL_z1y_0 (X : YL_z1y_0) (p : PL_z1y_0.T) (K : Ex → St → Prop) : Prop := X p.1.1 p.1.2.1 p.1.2.2.1 (K .ret ⟨[(4, ab true)], []⟩) (K (.exit 0) ⟨[], []⟩)
def Q_z1y_0 (R0 : YL_z1y_0) : ck := cu [⟨_, PL_z1y_0, HL_z1y_0 R0⟩]
def env_z1y (T : Tab) : Env := mk (CT T) 18 0 [(0, Q_z1y_0 (L_z1y_0 T T.fuel))] [(0, [0, 1, 5])] [(0, [(0, [])])] [4] [] []
def PL_z1z_0 := cc (pSl 0 pA (pSl 1 pA (pSl 2 pA (pSl 3 (j4 0) (pSl 9 qI an))))) (aa (ei 3 1) an)
def HL_z1z_0 (X : YL_z1z_0) (p : PL_z1z_0.T) (K : Ex → St → Prop) : Prop := X p.1.1 p.1.2.1 p.1.2.2.1 p.1.2.2.2.2.1 p.2.1 (fun _r1 => K .ret ⟨[(8, ab false)], [.row 3 1 _r1]⟩) (fun _r2 => K (.exit 0) ⟨[], [.row 3 1 _r2]⟩)
def Q_z1z_0 (R0 : YL_z1z_0) : ck := cu [⟨_, PL_z1z_0, HL_z1z_0 R0⟩]
def env_z1z (T : Tab) : Env := mk (CT T) 46 1 [(0, Q_z1z_0 (L_z1z_0 T T.fuel))] [(0, [0, 1, 2, 3, 9])] [(0, [(0, [])])] [8] [] [(5, [0, 1, 3, 7, 7, 31, 63, 127, 7, 7, 775, 1799, 4095, 8191, 16383, 16383, 65535, 131071, 262143, 524287, 1048575, 2097151])]
end
end
end Go.RX
