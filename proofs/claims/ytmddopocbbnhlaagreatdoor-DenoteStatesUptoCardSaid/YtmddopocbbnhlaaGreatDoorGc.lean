/- Printed by a program of the prover: the functions that the law reaches, as functions in Lean, and that the model does what they say. No condition. -/
import Derived.Test.YtmddopocbbnhlaaGreatDoorGb
set_option linter.all false
set_option maxRecDepth 100000
namespace Go.RX
noncomputable section
abbrev qI : Pat AV Int := pI .i64
abbrev ar (a : Arr) : AV := .p (.arr a.m a.n a.g)
abbrev ai (n : Int) : AV := .p (.int .i64 n)
abbrev ab (b : Bool) : AV := .p (.bool b)
abbrev aw (s : ByteArray) : AV := .p (.str s)
noncomputable section
open Go.Proofs
abbrev Pat.T {X α : Type} (_ : Pat X α) : Type := α
def P_zq := b8 (ag (mb pc_x0) (ag (mb pc_x4) au)) (au (Y := AO))
def H_zq (X : Y_zq) (p : P_zq.T) (K : AV → List AO → Prop) : Prop := X p.1.1 p.1.2.1 (fun _b1 => K (ab _b1) [])
def P_zr := b8 (au (Y := AV)) (au (Y := AO))
def H_zr (X : Y_zr) (p : P_zr.T) (K : AV → List AO → Prop) : Prop := X  (fun _b1 => K (ab _b1) [])
def P_ze := b8 (ag (mb pc_x0) (ag (mb pc_x4) au)) (au (Y := AO))
def H_ze (X : Y_ze) (p : P_ze.T) (K : AV → List AO → Prop) : Prop := X p.1.1 p.1.2.1 (fun _b1 => K (ab _b1) [])
def P_z0 := b8 (ag (mb pc_x0) au) (au (Y := AO))
def H_z0 (X : Y_z0) (p : P_z0.T) (K : AV → List AO → Prop) : Prop := X p.1.1 (fun _b1 => K (ab _b1) [])
def P_z4 := b8 (au (Y := AV)) (au (Y := AO))
def H_z4 (X : Y_z4) (p : P_z4.T) (K : AV → List AO → Prop) : Prop := X  (fun _m1 => K (.func (.func 57) [] [.ptr 0 0]) [.box [.map 1], .map .str _m1])
def P_z3 := b8 (ag (mb pc_x5) au) (au (Y := AO))
def H_z3 (X : Y_z3) (p : P_z3.T) (K : AV → List AO → Prop) : Prop := X p.1.1 (fun _b1 => K (ab _b1) [])
def P_z6 := b8 (ag pS au) (au (Y := AO))
def H_z6 (X : Y_z6) (p : P_z6.T) (K : AV → List AO → Prop) : Prop := X p.1.1 (fun _b1 => K (ab _b1) [])
def P_z1m := b8 (ag pS (ag (fy 114 au au) au)) (au (Y := AO))
def H_z1m (X : Y_z1m) (p : P_z1m.T) (K : AV → List AO → Prop) : Prop := X p.1.1 (fun _b1 => K (ab _b1) [])
def P_z1n := b8 (ag pS (ag (fy 114 au au) au)) (au (Y := AO))
def H_z1n (X : Y_z1n) (p : P_z1n.T) (K : AV → List AO → Prop) : Prop := X p.1.1 (fun _n1 => K (ai _n1) [])
def P_z1o := b8 (ag pS (ag (fy 114 au au) (ag pB au))) (au (Y := AO))
def H_z1o (X : Y_z1o) (p : P_z1o.T) (K : AV → List AO → Prop) : Prop := X p.1.1 p.1.2.2.1 (fun _n1 => K (ai _n1) [])
def P_z7 := b8 (ag (pI .i32) au) (au (Y := AO))
def H_z7 (X : Y_z7) (p : P_z7.T) (K : AV → List AO → Prop) : Prop := X p.1.1 (fun _b1 => K (ab _b1) [])
def P_z5 := b8 (ag pS (ag (ed 0 0) au)) (ag (eb (ag (qe5 1) au)) (ag (r5 .str) au))
def H_z5 (X : Y_z5) (p : P_z5.T) (K : AV → List AO → Prop) : Prop := X p.1.1 p.2.2.1 (fun _b1 _m1 => K (ab _b1) [.box [.map 1], .map .str _m1])
def P_z9 := b8 (ag qI au) (au (Y := AO))
def H_z9 (X : Y_z9) (p : P_z9.T) (K : AV → List AO → Prop) : Prop := X p.1.1 (fun _b1 => K (ab _b1) [])
def P_z8 := b8 (ag pA (ag qI au)) (au (Y := AO))
def H_z8 (X : Y_z8) (p : P_z8.T) (K : AV → List AO → Prop) : Prop := X p.1.1 p.1.2.1 (fun _b1 => K (ab _b1) [])
def P_z1f := b8 (ag pA (ag qI au)) (au (Y := AO))
def H_z1f (X : Y_z1f) (p : P_z1f.T) (K : AV → List AO → Prop) : Prop := X p.1.1 p.1.2.1 (fun _b1 => K (ab _b1) [])
def P_z1k := b8 (ag pA (ag qI au)) (au (Y := AO))
def H_z1k (X : Y_z1k) (p : P_z1k.T) (K : AV → List AO → Prop) : Prop := X p.1.1 p.1.2.1 (fun _n1 => K (ai _n1) [])
def P_z1 := b8 (ag (mb pc_x7) au) (au (Y := AO))
def H_z1 (X : Y_z1) (p : P_z1.T) (K : AV → List AO → Prop) : Prop := X p.1.1 (fun _b1 => K (ab _b1) [])
def P_z1e := b8 (ag pA (ag (fy 63 au au) au)) (au (Y := AO))
def H_z1e (X : Y_z1e) (p : P_z1e.T) (K : AV → List AO → Prop) : Prop := X p.1.1 (fun _b1 => K (ab _b1) [])
def P_z1j := b8 (ag pA (ag (fy 63 au au) au)) (au (Y := AO))
def H_z1j (X : Y_z1j) (p : P_z1j.T) (K : AV → List AO → Prop) : Prop := X p.1.1 (fun _n1 => K (ai _n1) [])
def P_z2 := b8 (ag pS au) (au (Y := AO))
def H_z2 (X : Y_z2) (p : P_z2.T) (K : AV → List AO → Prop) : Prop := X p.1.1 (fun _b1 => K (ab _b1) [])
def P_z1b := b8 (ag pA (ag (fy 14 au (ag (ed 0 0) au)) au)) (ag (eb pc_x5) au)
def H_z1b (X : Y_z1b) (p : P_z1b.T) (K : AV → List AO → Prop) : Prop := X p.1.1 p.2.1 (fun _b1 _x1 => K (ab _b1) [.box [aw _x1.Name, ar _x1.Columns, ar _x1.Key, ai _x1.Part, ar _x1.Indexes]])
def P_z1g := b8 (ag pA (ag (fy 14 au (ag (ed 0 0) au)) au)) (ag (eb pc_x5) au)
def H_z1g (X : Y_z1g) (p : P_z1g.T) (K : AV → List AO → Prop) : Prop := X p.1.1 p.2.1 (fun _n1 _x1 => K (ai _n1) [.box [aw _x1.Name, ar _x1.Columns, ar _x1.Key, ai _x1.Part, ar _x1.Indexes]])
def P_zf := b8 (ag pA (ag (ed 0 0) au)) (ag (eb pc_x5) au)
def H_zf (X : Y_zf) (p : P_zf.T) (K : AV → List AO → Prop) : Prop := X p.1.1 p.2.1 (fun _b1 _x1 => K (ab _b1) [.box [aw _x1.Name, ar _x1.Columns, ar _x1.Key, ai _x1.Part, ar _x1.Indexes]])
def P_zm := b8 (ag (mb pc_x5) (ag pA au)) (au (Y := AO))
def H_zm (X : Y_zm) (p : P_zm.T) (K : AV → List AO → Prop) : Prop := X p.1.1 p.1.2.1 (fun _b1 => K (ab _b1) [])
def P_z1q := b8 (ag (mb pc_x6) au) (au (Y := AO))
def H_z1q (X : Y_z1q) (p : P_z1q.T) (K : AV → List AO → Prop) : Prop := X p.1.1 (fun _b1 => K (ab _b1) [])
def P_zi := b8 (ag (mb pc_x6) au) (au (Y := AO))
def H_zi (X : Y_zi) (p : P_zi.T) (K : AV → List AO → Prop) : Prop := X p.1.1 (fun _b1 => K (ab _b1) [])
def P_zj := b8 (ag (mb pc_x5) (ag pA au)) (au (Y := AO))
def H_zj (X : Y_zj) (p : P_zj.T) (K : AV → List AO → Prop) : Prop := X p.1.1 p.1.2.1 (fun _b1 => K (ab _b1) [])
def P_z1c := b8 (ag pA (ag (fy 65 au (ag (ed 0 0) au)) au)) (ag (eb (ag pA au)) au)
def H_z1c (X : Y_z1c) (p : P_z1c.T) (K : AV → List AO → Prop) : Prop := X p.1.1 p.2.1.1 (fun _b1 _a1 => K (ab _b1) [.box [ar _a1]])
def P_z1h := b8 (ag pA (ag (fy 65 au (ag (ed 0 0) au)) au)) (ag (eb (ag pA au)) au)
def H_z1h (X : Y_z1h) (p : P_z1h.T) (K : AV → List AO → Prop) : Prop := X p.1.1 p.2.1.1 (fun _n1 _a1 => K (ai _n1) [.box [ar _a1]])
def P_zk := b8 (ag qI (ag (ed 0 0) au)) (ag (eb (ag pA au)) au)
def H_zk (X : Y_zk) (p : P_zk.T) (K : AV → List AO → Prop) : Prop := X p.1.1 p.2.1.1 (fun _b1 _a1 => K (ab _b1) [.box [ar _a1]])
def P_zl := b8 (ag pA (ag pA (ag pA au))) (au (Y := AO))
def H_zl (X : Y_zl) (p : P_zl.T) (K : AV → List AO → Prop) : Prop := X p.1.1 p.1.2.1 p.1.2.2.1 (fun _n1 => K (ai _n1) [])
def P_z1p := b8 (ag (mb pc_x6) (ag (mb pc_x6) au)) (au (Y := AO))
def H_z1p (X : Y_z1p) (p : P_z1p.T) (K : AV → List AO → Prop) : Prop := X p.1.1 p.1.2.1 (fun _n1 => K (ai _n1) [])
def P_za := b8 (ag qI (ag qI au)) (au (Y := AO))
def H_za (X : Y_za) (p : P_za.T) (K : AV → List AO → Prop) : Prop := X p.1.1 p.1.2.1 (fun _n1 => K (ai _n1) [])
def P_zc := b8 (ag qI au) (au (Y := AO))
def H_zc (X : Y_zc) (p : P_zc.T) (K : AV → List AO → Prop) : Prop := X p.1.1 (fun _b1 => K (ab _b1) [])
def P_z1l := b8 (ag pS (ag pS au)) (au (Y := AO))
def H_z1l (X : Y_z1l) (p : P_z1l.T) (K : AV → List AO → Prop) : Prop := X p.1.1 p.1.2.1 (fun _n1 => K (ai _n1) [])
def P_zo := b8 (ag pS (ag pS au)) (au (Y := AO))
def H_zo (X : Y_zo) (p : P_zo.T) (K : AV → List AO → Prop) : Prop := X p.1.1 p.1.2.1 (fun _n1 => K (ai _n1) [])
def P_zp := b8 (ag pS (ag pS au)) (au (Y := AO))
def H_zp (X : Y_zp) (p : P_zp.T) (K : AV → List AO → Prop) : Prop := X p.1.1 p.1.2.1 (fun _n1 => K (ai _n1) [])
def P_zb := b8 (ag (qby 0) au) (ag (n5 3 1) au)
def H_zb (X : Y_zb) (p : P_zb.T) (K : AV → List AO → Prop) : Prop := X p.2.1 (fun _n1 _r1 => K (ai _n1) [.row 3 1 _r1])
def P_zn := b8 (ag (mb pc_x5) (ag pA au)) (au (Y := AO))
def H_zn (X : Y_zn) (p : P_zn.T) (K : AV → List AO → Prop) : Prop := X p.1.1 p.1.2.1 (fun _b1 => K (ab _b1) [])
def P_zg := b8 (ag (mb pc_x5) (ag pA (ag pA au))) (au (Y := AO))
def H_zg (X : Y_zg) (p : P_zg.T) (K : AV → List AO → Prop) : Prop := X p.1.1 p.1.2.1 p.1.2.2.1 (fun _b1 => K (ab _b1) [])
def P_z1d := b8 (ag pA (ag (fy 69 au (ag (ed 0 0) au)) au)) (ag (eb (ag pA au)) au)
def H_z1d (X : Y_z1d) (p : P_z1d.T) (K : AV → List AO → Prop) : Prop := X p.1.1 p.2.1.1 (fun _b1 _a1 => K (ab _b1) [.box [ar _a1]])
def P_z1i := b8 (ag pA (ag (fy 69 au (ag (ed 0 0) au)) au)) (ag (eb (ag pA au)) au)
def H_z1i (X : Y_z1i) (p : P_z1i.T) (K : AV → List AO → Prop) : Prop := X p.1.1 p.2.1.1 (fun _n1 _a1 => K (ai _n1) [.box [ar _a1]])
def P_zh := b8 (ag qI (ag (ed 0 0) au)) (ag (eb (ag pA au)) au)
def H_zh (X : Y_zh) (p : P_zh.T) (K : AV → List AO → Prop) : Prop := X p.1.1 p.2.1.1 (fun _b1 _a1 => K (ab _b1) [.box [ar _a1]])
def P_z16 := b8 (ag (mb pc_x0) (ag (mb pc_x4) au)) (au (Y := AO))
def H_z16 (X : Y_z16) (p : P_z16.T) (K : AV → List AO → Prop) : Prop := X p.1.1 p.1.2.1 (fun _b1 => K (ab _b1) [])
def P_zz := b8 (ag (mb pc_x0) au) (au (Y := AO))
def H_zz (X : Y_zz) (p : P_zz.T) (K : AV → List AO → Prop) : Prop := X p.1.1 (fun _b1 => K (ab _b1) [])
def P_zx := b8 (ag (mb pc_x5) au) (au (Y := AO))
def H_zx (X : Y_zx) (p : P_zx.T) (K : AV → List AO → Prop) : Prop := X p.1.1 (fun _b1 => K (ab _b1) [])
def P_zy := b8 (ag pS au) (au (Y := AO))
def H_zy (X : Y_zy) (p : P_zy.T) (K : AV → List AO → Prop) : Prop := X p.1.1 (fun _b1 => K (ab _b1) [])
def P_z11 := b8 (ag (qby 0) au) (ag (n5 9 1) au)
def H_z11 (X : Y_z11) (p : P_z11.T) (K : AV → List AO → Prop) : Prop := X p.2.1 (fun _b1 _r1 => K (ab _b1) [.row 9 1 _r1])
def P_z12 := b8 (ag pA (ag qI au)) (au (Y := AO))
def H_z12 (X : Y_z12) (p : P_z12.T) (K : AV → List AO → Prop) : Prop := X p.1.1 p.1.2.1 (fun _b1 => K (ab _b1) [])
def P_zw := b8 (ag (mb pc_x7) au) (au (Y := AO))
def H_zw (X : Y_zw) (p : P_zw.T) (K : AV → List AO → Prop) : Prop := X p.1.1 (fun _b1 => K (ab _b1) [])
def P_z10 := b8 (ag qI (ag qI (ag qI au))) (au (Y := AO))
def H_z10 (X : Y_z10) (p : P_z10.T) (K : AV → List AO → Prop) : Prop := X p.1.1 p.1.2.1 p.1.2.2.1 (fun _b1 => K (ab _b1) [])
def P_z17 := b8 (ag (mb pc_x5) (ag pA au)) (au (Y := AO))
def H_z17 (X : Y_z17) (p : P_z17.T) (K : AV → List AO → Prop) : Prop := X p.1.1 p.1.2.1 (fun _b1 => K (ab _b1) [])
def P_zv := b8 (ag (mb pc_x6) au) (au (Y := AO))
def H_zv (X : Y_zv) (p : P_zv.T) (K : AV → List AO → Prop) : Prop := X p.1.1 (fun _b1 => K (ab _b1) [])
def P_z14 := b8 (ag (mb pc_x5) (ag pA au)) (au (Y := AO))
def H_z14 (X : Y_z14) (p : P_z14.T) (K : AV → List AO → Prop) : Prop := X p.1.1 p.1.2.1 (fun _b1 => K (ab _b1) [])
def P_z15 := b8 (ag pA (ag pA (ag pA au))) (au (Y := AO))
def H_z15 (X : Y_z15) (p : P_z15.T) (K : AV → List AO → Prop) : Prop := X p.1.1 p.1.2.1 p.1.2.2.1 (fun _n1 => K (ai _n1) [])
def P_zu := b8 (ag (mb pc_x6) (ag (mb pc_x6) au)) (au (Y := AO))
def H_zu (X : Y_zu) (p : P_zu.T) (K : AV → List AO → Prop) : Prop := X p.1.1 p.1.2.1 (fun _n1 => K (ai _n1) [])
def P_z18 := b8 (ag (mb pc_x5) (ag pA au)) (au (Y := AO))
def H_z18 (X : Y_z18) (p : P_z18.T) (K : AV → List AO → Prop) : Prop := X p.1.1 p.1.2.1 (fun _b1 => K (ab _b1) [])
def P_z19 := b8 (ag (mb pc_x5) (ag pA (ag pA au))) (au (Y := AO))
def H_z19 (X : Y_z19) (p : P_z19.T) (K : AV → List AO → Prop) : Prop := X p.1.1 p.1.2.1 p.1.2.2.1 (fun _b1 => K (ab _b1) [])
def P_z1a := b8 (ag pA (ag pA au)) (au (Y := AO))
def H_z1a (X : Y_z1a) (p : P_z1a.T) (K : AV → List AO → Prop) : Prop := X p.1.1 p.1.2.1 (fun _b1 => K (ab _b1) [])
def P_zd := b8 (ag (mb pc_x0) au) (au (Y := AO))
def H_zd (X : Y_zd) (p : P_zd.T) (K : AV → List AO → Prop) : Prop := X p.1.1 (fun _x1 => K (.agg [ar _x1.Tables]) [])
def P_z13 := b8 (ag (mb pc_x0) au) (au (Y := AO))
def H_z13 (X : Y_z13) (p : P_z13.T) (K : AV → List AO → Prop) : Prop := X p.1.1 (fun _x1 => K (.agg [ar _x1.Tables]) [])
def P_zt := b8 (ag (mb pc_x4) (ag (mb pc_x4) au)) (au (Y := AO))
def H_zt (X : Y_zt) (p : P_zt.T) (K : AV → List AO → Prop) : Prop := X p.1.1 p.1.2.1 (fun _b1 => K (ab _b1) [])
def P_zs := b8 (ag pA (ag pA au)) (au (Y := AO))
def H_zs (X : Y_zs) (p : P_zs.T) (K : AV → List AO → Prop) : Prop := X p.1.1 p.1.2.1 (fun _b1 => K (ab _b1) [])
def E3 (T : Tab) : bb := dk [⟨_, P_zq, H_zq T.f_zq⟩]
def E4 (T : Tab) : bb := dk [⟨_, P_zr, H_zr T.f_zr⟩]
def E5 (T : Tab) : bb := dk [⟨_, P_ze, H_ze T.f_ze⟩]
def E12 (T : Tab) : bb := dk [⟨_, P_z0, H_z0 T.f_z0⟩]
def E26 (T : Tab) : bb := dk [⟨_, P_z4, H_z4 T.f_z4⟩]
def E27 (T : Tab) : bb := dk [⟨_, P_z3, H_z3 T.f_z3⟩]
def E58 (T : Tab) : bb := dk [⟨_, P_z6, H_z6 T.f_z6⟩]
def qm5 (T : Tab) : bb := dk [⟨_, P_z1m, H_z1m T.f_z1m⟩]
def qnc (T : Tab) : bb := dk [⟨_, P_z1n, H_z1n T.f_z1n⟩]
def qne (T : Tab) : bb := dk [⟨_, P_z1o, H_z1o T.f_z1o⟩]
def qm6 (T : Tab) : bb := dk [⟨_, P_z7, H_z7 T.f_z7⟩]
def E57 (T : Tab) : bb := dk [⟨_, P_z5, H_z5 T.f_z5⟩]
def E59 (T : Tab) : bb := dk [⟨_, P_z9, H_z9 T.f_z9⟩]
def E60 (T : Tab) : bb := dk [⟨_, P_z8, H_z8 T.f_z8⟩]
def E61 (T : Tab) : bb := dk [⟨_, P_z1f, H_z1f T.f_z1f⟩]
def qm7 (T : Tab) : bb := dk [⟨_, P_z1k, H_z1k T.f_z1k⟩]
def E28 (T : Tab) : bb := dk [⟨_, P_z1, H_z1 T.f_z1⟩]
def E62 (T : Tab) : bb := dk [⟨_, P_z1e, H_z1e T.f_z1e⟩]
def qm8 (T : Tab) : bb := dk [⟨_, P_z1j, H_z1j T.f_z1j⟩]
def E63 (T : Tab) : bb := dk [⟨_, P_z2, H_z2 T.f_z2⟩]
def E13 (T : Tab) : bb := dk [⟨_, P_z1b, H_z1b T.f_z1b⟩]
def E29 (T : Tab) : bb := dk [⟨_, P_z1g, H_z1g T.f_z1g⟩]
def E14 (T : Tab) : bb := dk [⟨_, P_zf, H_zf T.f_zf⟩]
def E15 (T : Tab) : bb := dk [⟨_, P_zm, H_zm T.f_zm⟩]
def E30 (T : Tab) : bb := dk [⟨_, P_z1q, H_z1q T.f_z1q⟩]
def E31 (T : Tab) : bb := dk [⟨_, P_zi, H_zi T.f_zi⟩]
def E32 (T : Tab) : bb := dk [⟨_, P_zj, H_zj T.f_zj⟩]
def E64 (T : Tab) : bb := dk [⟨_, P_z1c, H_z1c T.f_z1c⟩, ⟨_, P_z1d, H_z1d T.f_z1d⟩]
def qm9 (T : Tab) : bb := dk [⟨_, P_z1h, H_z1h T.f_z1h⟩, ⟨_, P_z1i, H_z1i T.f_z1i⟩]
def E65 (T : Tab) : bb := dk [⟨_, P_zk, H_zk T.f_zk⟩]
def E16 (T : Tab) : bb := dk [⟨_, P_zl, H_zl T.f_zl⟩]
def E33 (T : Tab) : bb := dk [⟨_, P_z1p, H_z1p T.f_z1p⟩]
def E67 (T : Tab) : bb := dk [⟨_, P_za, H_za T.f_za⟩]
def qna (T : Tab) : bb := dk [⟨_, P_zc, H_zc T.f_zc⟩]
def E68 (T : Tab) : bb := dk [⟨_, P_z1l, H_z1l T.f_z1l⟩]
def qnb (T : Tab) : bb := dk [⟨_, P_zo, H_zo T.f_zo⟩]
def qnd (T : Tab) : bb := dk [⟨_, P_zp, H_zp T.f_zp⟩]
def E66 (T : Tab) : bb := dk [⟨_, P_zb, H_zb T.f_zb⟩]
def E17 (T : Tab) : bb := dk [⟨_, P_zn, H_zn T.f_zn⟩]
def E34 (T : Tab) : bb := dk [⟨_, P_zg, H_zg T.f_zg⟩]
def E69 (T : Tab) : bb := dk [⟨_, P_zh, H_zh T.f_zh⟩]
def E6 (T : Tab) : bb := dk [⟨_, P_z16, H_z16 T.f_z16⟩]
def E18 (T : Tab) : bb := dk [⟨_, P_zz, H_zz T.f_zz⟩]
def E35 (T : Tab) : bb := dk [⟨_, P_zx, H_zx T.f_zx⟩]
def E70 (T : Tab) : bb := dk [⟨_, P_zy, H_zy T.f_zy⟩]
def E37 (T : Tab) : bb := dk [⟨_, P_z11, H_z11 T.f_z11⟩]
def E71 (T : Tab) : bb := dk [⟨_, P_z12, H_z12 T.f_z12⟩]
def E36 (T : Tab) : bb := dk [⟨_, P_zw, H_zw T.f_zw⟩]
def E72 (T : Tab) : bb := dk [⟨_, P_z10, H_z10 T.f_z10⟩]
def E19 (T : Tab) : bb := dk [⟨_, P_z17, H_z17 T.f_z17⟩]
def E38 (T : Tab) : bb := dk [⟨_, P_zv, H_zv T.f_zv⟩]
def E39 (T : Tab) : bb := dk [⟨_, P_z14, H_z14 T.f_z14⟩]
def E20 (T : Tab) : bb := dk [⟨_, P_z15, H_z15 T.f_z15⟩]
def E40 (T : Tab) : bb := dk [⟨_, P_zu, H_zu T.f_zu⟩]
def E21 (T : Tab) : bb := dk [⟨_, P_z18, H_z18 T.f_z18⟩]
def E41 (T : Tab) : bb := dk [⟨_, P_z19, H_z19 T.f_z19⟩]
def E73 (T : Tab) : bb := dk [⟨_, P_z1a, H_z1a T.f_z1a⟩]
def E7 (T : Tab) : bb := dk [⟨_, P_zd, H_zd T.f_zd⟩]
def E8 (T : Tab) : bb := dk [⟨_, P_z13, H_z13 T.f_z13⟩]
def E9 (T : Tab) : bb := dk [⟨_, P_zt, H_zt T.f_zt⟩]
def E22 (T : Tab) : bb := dk [⟨_, P_zs, H_zs T.f_zs⟩]
def CT (T : Tab) : FuncId → bb := tab m4 [(3, E3 T), (4, E4 T), (5, E5 T), (6, E6 T), (7, E7 T), (8, E8 T), (9, E9 T), (12, E12 T), (13, E13 T), (14, E14 T), (15, E15 T), (16, E16 T), (17, E17 T), (18, E18 T), (19, E19 T), (20, E20 T), (21, E21 T), (22, E22 T), (26, E26 T), (27, E27 T), (28, E28 T), (29, E29 T), (30, E30 T), (31, E31 T), (32, E32 T), (33, E33 T), (34, E34 T), (35, E35 T), (36, E36 T), (37, E37 T), (38, E38 T), (39, E39 T), (40, E40 T), (41, E41 T), (57, E57 T), (58, E58 T), (59, E59 T), (60, E60 T), (61, E61 T), (62, E62 T), (63, E63 T), (64, E64 T), (65, E65 T), (66, E66 T), (67, E67 T), (68, E68 T), (69, E69 T), (70, E70 T), (71, E71 T), (72, E72 T), (73, E73 T), (113, qm5 T), (114, qm6 T), (115, qm7 T), (116, qm8 T), (117, qm9 T), (118, qna T), (119, qnb T), (178, qnc T), (179, qnd T), (203, qne T)]
def wk (f : FuncId) : Bool := true
def wkB (f : FuncId) : Bool := false
def fzc (f : FuncId) : Bool := false
def pl : bf := fun t => tab (fun _ _ => none) [(43, gz [.i .i64, .i .i64, .s])] t
def mk := qib Tryz.prog vw wk wkB fzc pl
def env_zq (T : Tab) : Env := mk (CT T) 34 0 [] [] [] [4] [] []
def PL_ze_0 := b8 (pSl 3 (ed 0 0) (pSl 22 pA (pSl 23 qI (pSl 24 qI au)))) (ag (eb pc_x4) au)
def HL_ze_0 (X : YL_ze_0) (p : PL_ze_0.T) (K : Ex → St → Prop) : Prop := X p.1.2.1 p.1.2.2.1 p.1.2.2.2.1 p.2.1 (K .ret ⟨[(4, ab false)], []⟩) (K (.exit 0) ⟨[], []⟩)
def Q_ze_0 (R0 : YL_ze_0) : bp := cc [⟨_, PL_ze_0, HL_ze_0 R0⟩]
def PL_ze_2 := b8 (pSl 3 (ed 0 0) (pSl 6 (ed 1 0) (pSl 7 pA (pSl 22 pA (pSl 23 qI (pSl 24 qI (pSl 39 qI (pSl 40 qI au)))))))) (ag (eb pc_x4) (ag (eb pc_x5) au))
def HL_ze_2 (X : YL_ze_2) (p : PL_ze_2.T) (K : Ex → St → Prop) : Prop := X p.1.2.2.1 p.1.2.2.2.1 p.1.2.2.2.2.1 p.1.2.2.2.2.2.1 p.1.2.2.2.2.2.2.1 p.1.2.2.2.2.2.2.2.1 p.2.1 p.2.2.1 (K .ret ⟨[(4, ab false)], []⟩) (fun _a1 _a2 _n1 _n2 _x1 _x2 => K (.exit 2) ⟨[(3, .ptr 0 0), (6, .ptr 1 0), (7, ar _a1), (22, ar _a2), (23, ai _n1), (24, ai _n2)], [.box [ar _x1.Tables], .box [aw _x2.Name, ar _x2.Columns, ar _x2.Key, ai _x2.Part, ar _x2.Indexes]]⟩)
def Q_ze_2 (R0 : YL_ze_2) : bp := cc [⟨_, PL_ze_2, HL_ze_2 R0⟩]
def env_ze (T : Tab) : Env := mk (CT T) 62 0 [(0, Q_ze_0 (L_ze_0 T T.fuel)), (2, Q_ze_2 (L_ze_2 T T.fuel))] [(0, [3, 22, 23, 24]), (2, [3, 6, 7, 22, 23, 24, 39, 40])] [(0, [(0, [])]), (2, [(0, []), (1, [3, 22, 23, 24]), (2, [3, 6, 7, 22, 23, 24])])] [4] [] [(12, [0, 0, 3, 7, 0, 0, 32, 112, 240, 0, 512, 2047, 4095])]
def PL_z0_0 := b8 (pSl 1 (ed 0 0) (pSl 3 (fy 57 au (ag (ed 1 0) au)) (pSl 4 (fy 57 au (ag (ed 3 0) au)) (pSl 22 pA (pSl 23 qI (pSl 24 qI au)))))) (ag (eb pc_x0) (ag (eb (ag (qe5 2) au)) (ag (r5 .str) (ag (eb (ag (qe5 4) au)) (ag (r5 .str) au)))))
def HL_z0_0 (X : YL_z0_0) (p : PL_z0_0.T) (K : Ex → St → Prop) : Prop := X p.1.2.2.2.1 p.1.2.2.2.2.1 p.1.2.2.2.2.2.1 p.2.1 p.2.2.2.1 p.2.2.2.2.2.1 (K .ret ⟨[(2, ab false)], []⟩) (fun _x1 _m1 => K (.exit 0) ⟨[(1, .ptr 0 0), (4, .func (.func 57) [] [.ptr 1 0])], [.box [ar _x1.Tables, ar _x1.Procs], .box [.map 2], .map .str _m1]⟩)
def Q_z0_0 (R0 : YL_z0_0) : bp := cc [⟨_, PL_z0_0, HL_z0_0 R0⟩]
def PL_z0_2 := b8 (pSl 4 (fy 57 au (ag (ed 0 0) au)) (pSl 40 pA (pSl 41 qI (pSl 42 qI au)))) (ag (eb (ag (qe5 1) au)) (ag (r5 .str) au))
def HL_z0_2 (X : YL_z0_2) (p : PL_z0_2.T) (K : Ex → St → Prop) : Prop := X p.1.2.1 p.1.2.2.1 p.1.2.2.2.1 p.2.2.1 (K .ret ⟨[(2, ab false)], []⟩) (K (.exit 2) ⟨[], []⟩)
def Q_z0_2 (R0 : YL_z0_2) : bp := cc [⟨_, PL_z0_2, HL_z0_2 R0⟩]
def env_z0 (T : Tab) : Env := mk (CT T) 57 0 [(0, Q_z0_0 (L_z0_0 T T.fuel)), (2, Q_z0_2 (L_z0_2 T T.fuel))] [(0, [1, 3, 4, 22, 23, 24]), (2, [4, 40, 41, 42])] [(0, [(0, [1, 4])]), (2, [(2, [])])] [2] [] []
def env_z4 (T : Tab) : Env := mk (CT T) 4 0 [] [] [] [0] [] []
def PL_z3_0 := b8 (pSl 1 (ed 0 0) (pSl 3 (fy 57 au (ag (ed 1 0) au)) (pSl 4 (fy 57 au (ag (ed 3 0) au)) (pSl 36 pA (pSl 37 qI (pSl 38 qI au)))))) (ag (eb pc_x5) (ag (eb (ag (qe5 2) au)) (ag (r5 .str) (ag (eb (ag (qe5 4) au)) (ag (r5 .str) au)))))
def HL_z3_0 (X : YL_z3_0) (p : PL_z3_0.T) (K : Ex → St → Prop) : Prop := X p.1.2.2.2.1 p.1.2.2.2.2.1 p.1.2.2.2.2.2.1 p.2.1 p.2.2.2.1 p.2.2.2.2.2.1 (K .ret ⟨[(2, ab false)], []⟩) (fun _x1 _m1 => K (.exit 0) ⟨[(1, .ptr 0 0), (4, .func (.func 57) [] [.ptr 1 0])], [.box [aw _x1.Name, ar _x1.Columns, ar _x1.Key, ai _x1.Part, ar _x1.Indexes], .box [.map 2], .map .str _m1]⟩)
def Q_z3_0 (R0 : YL_z3_0) : bp := cc [⟨_, PL_z3_0, HL_z3_0 R0⟩]
def PL_z3_2 := b8 (pSl 1 (ed 0 0) (pSl 4 (fy 57 au (ag (ed 1 0) au)) (pSl 70 pA (pSl 71 qI (pSl 72 qI au))))) (ag (eb pc_x5) (ag (eb (ag (qe5 2) au)) (ag (r5 .str) au)))
def HL_z3_2 (X : YL_z3_2) (p : PL_z3_2.T) (K : Ex → St → Prop) : Prop := X p.1.2.2.1 p.1.2.2.2.1 p.1.2.2.2.2.1 p.2.1 p.2.2.2.1 (K .ret ⟨[(2, ab false)], []⟩) (fun _x1 _m1 => K (.exit 2) ⟨[(1, .ptr 0 0), (4, .func (.func 57) [] [.ptr 1 0])], [.box [aw _x1.Name, ar _x1.Columns, ar _x1.Key, ai _x1.Part, ar _x1.Indexes], .box [.map 2], .map .str _m1]⟩)
def Q_z3_2 (R0 : YL_z3_2) : bp := cc [⟨_, PL_z3_2, HL_z3_2 R0⟩]
def PL_z3_4 := b8 (pSl 1 (ed 0 0) (pSl 4 (fy 57 au (ag (ed 1 0) au)) (pSl 85 pA (pSl 86 qI (pSl 87 qI au))))) (ag (eb pc_x5) (ag (eb (ag (qe5 2) au)) (ag (r5 .str) au)))
def HL_z3_4 (X : YL_z3_4) (p : PL_z3_4.T) (K : Ex → St → Prop) : Prop := X p.1.2.2.1 p.1.2.2.2.1 p.1.2.2.2.2.1 p.2.1 p.2.2.2.1 (K .ret ⟨[(2, ab false)], []⟩) (K (.exit 4) ⟨[], []⟩)
def Q_z3_4 (R0 : YL_z3_4) : bp := cc [⟨_, PL_z3_4, HL_z3_4 R0⟩]
def env_z3 (T : Tab) : Env := mk (CT T) 106 0 [(0, Q_z3_0 (L_z3_0 T T.fuel)), (2, Q_z3_2 (L_z3_2 T T.fuel)), (4, Q_z3_4 (L_z3_4 T T.fuel))] [(0, [1, 3, 4, 36, 37, 38]), (2, [1, 4, 70, 71, 72]), (4, [1, 4, 85, 86, 87])] [(0, [(0, [1, 4])]), (2, [(2, [1, 4])]), (4, [(4, [])])] [2] [] []
def env_z6 (T : Tab) : Env := mk (CT T) 23 0 [] [] [] [2] [] []
def env_z1m (T : Tab) : Env := mk (CT T) 9 0 [] [] [] [4] [] []
def env_z1n (T : Tab) : Env := mk (CT T) 8 0 [] [] [] [4] [] []
def PL_z1o_0 := b8 (pSl 1 (fy 114 au au) (pSl 2 pB (pSl 10 (qq5 0) au))) (ag qmh au)
def HL_z1o_0 (X : YL_z1o_0) (p : PL_z1o_0.T) (K : Ex → St → Prop) : Prop := X p.1.2.1 p.2.1.1 p.2.1.2 (fun _n1 => K .ret ⟨[(6, ai _n1)], []⟩) (K (.exit 0) ⟨[], []⟩)
def Q_z1o_0 (R0 : YL_z1o_0) : bp := cc [⟨_, PL_z1o_0, HL_z1o_0 R0⟩]
def env_z1o (T : Tab) : Env := mk (CT T) 21 0 [(0, Q_z1o_0 (L_z1o_0 T T.fuel))] [(0, [1, 2, 10])] [(0, [(0, [])])] [6] [] []
def env_z7 (T : Tab) : Env := mk (CT T) 21 0 [] [] [] [2] [] []
def env_z5 (T : Tab) : Env := mk (CT T) 16 2 [] [] [] [3] [] []
def env_z9 (T : Tab) : Env := mk (CT T) 9 0 [] [] [] [2] [] []
def PL_z8_0 := b8 (pSl 0 pA (pSl 1 qI (pSl 5 (qe5 0) (pSl 9 pA (pSl 10 qI (pSl 11 qI au)))))) (ag (r5 (.int .i64)) au)
def HL_z8_0 (X : YL_z8_0) (p : PL_z8_0.T) (K : Ex → St → Prop) : Prop := X p.1.1 p.1.2.1 p.1.2.2.2.1 p.1.2.2.2.2.1 p.1.2.2.2.2.2.1 p.2.1 (K .ret ⟨[(4, ab false)], []⟩) (fun _a1 => K (.exit 0) ⟨[(0, ar _a1)], []⟩)
def Q_z8_0 (R0 : YL_z8_0) : bp := cc [⟨_, PL_z8_0, HL_z8_0 R0⟩]
def env_z8 (T : Tab) : Env := mk (CT T) 38 0 [(0, Q_z8_0 (L_z8_0 T T.fuel))] [(0, [0, 1, 5, 9, 10, 11])] [(0, [(0, [0])])] [4] [] []
def env_z1f (T : Tab) : Env := mk (CT T) 9 0 [] [] [] [4] [] []
def PL_z1k_0 := b8 (pSl 0 pA (pSl 1 qI (pSl 7 qI (pSl 8 qI au)))) (au (Y := AO))
def HL_z1k_0 (X : YL_z1k_0) (p : PL_z1k_0.T) (K : Ex → St → Prop) : Prop := X p.1.1 p.1.2.1 p.1.2.2.1 p.1.2.2.2.1 (fun _n1 => K .ret ⟨[(4, ai _n1)], []⟩) (K (.exit 0) ⟨[], []⟩)
def Q_z1k_0 (R0 : YL_z1k_0) : bp := cc [⟨_, PL_z1k_0, HL_z1k_0 R0⟩]
def env_z1k (T : Tab) : Env := mk (CT T) 19 0 [(0, Q_z1k_0 (L_z1k_0 T T.fuel))] [(0, [0, 1, 7, 8])] [(0, [(0, [])])] [4] [] []
def PL_z1_0 := b8 (pSl 1 (ed 0 0) (pSl 3 (fy 57 au (ag (ed 1 0) au)) (pSl 50 pA (pSl 51 qI (pSl 52 qI au))))) (ag (eb pc_x7) (ag (eb (ag (qe5 2) au)) (ag (r5 .str) au)))
def HL_z1_0 (X : YL_z1_0) (p : PL_z1_0.T) (K : Ex → St → Prop) : Prop := X p.1.2.2.1 p.1.2.2.2.1 p.1.2.2.2.2.1 p.2.1 p.2.2.2.1 (K .ret ⟨[(2, ab false)], []⟩) (fun _x1 => K (.exit 0) ⟨[(1, .ptr 0 0)], [.box [aw _x1.Name, ar _x1.Params, ar _x1.Body, ai _x1.Rows, ai _x1.Bytes]]⟩)
def Q_z1_0 (R0 : YL_z1_0) : bp := cc [⟨_, PL_z1_0, HL_z1_0 R0⟩]
def env_z1 (T : Tab) : Env := mk (CT T) 72 0 [(0, Q_z1_0 (L_z1_0 T T.fuel))] [(0, [1, 3, 50, 51, 52])] [(0, [(0, [1])])] [2] [] []
def env_z1e (T : Tab) : Env := mk (CT T) 9 0 [] [] [] [4] [] []
def PL_z1j_0 := b8 (pSl 0 pA (pSl 1 (fy 63 au au) (pSl 7 qI (pSl 8 qI au)))) (au (Y := AO))
def HL_z1j_0 (X : YL_z1j_0) (p : PL_z1j_0.T) (K : Ex → St → Prop) : Prop := X p.1.1 p.1.2.2.1 p.1.2.2.2.1 (fun _n1 => K .ret ⟨[(4, ai _n1)], []⟩) (K (.exit 0) ⟨[], []⟩)
def Q_z1j_0 (R0 : YL_z1j_0) : bp := cc [⟨_, PL_z1j_0, HL_z1j_0 R0⟩]
def env_z1j (T : Tab) : Env := mk (CT T) 19 0 [(0, Q_z1j_0 (L_z1j_0 T T.fuel))] [(0, [0, 1, 7, 8])] [(0, [(0, [])])] [4] [] []
def env_z2 (T : Tab) : Env := mk (CT T) 10 0 [] [] [] [2] [] []
def env_z1b (T : Tab) : Env := mk (CT T) 9 1 [] [] [] [4] [] []
def PL_z1g_0 := b8 (pSl 0 pA (pSl 1 (fy 14 au (ag (ed 0 0) au)) (pSl 7 qI (pSl 8 qI au)))) (ag (eb pc_x5) au)
def HL_z1g_0 (X : YL_z1g_0) (p : PL_z1g_0.T) (K : Ex → St → Prop) : Prop := X p.1.1 p.1.2.2.1 p.1.2.2.2.1 p.2.1 (fun _n1 _x1 => K .ret ⟨[(4, ai _n1)], [.box [aw _x1.Name, ar _x1.Columns, ar _x1.Key, ai _x1.Part, ar _x1.Indexes]]⟩) (fun _x2 => K (.exit 0) ⟨[], [.box [aw _x2.Name, ar _x2.Columns, ar _x2.Key, ai _x2.Part, ar _x2.Indexes]]⟩)
def Q_z1g_0 (R0 : YL_z1g_0) : bp := cc [⟨_, PL_z1g_0, HL_z1g_0 R0⟩]
def env_z1g (T : Tab) : Env := mk (CT T) 19 1 [(0, Q_z1g_0 (L_z1g_0 T T.fuel))] [(0, [0, 1, 7, 8])] [(0, [(0, [])])] [4] [] []
def env_zf (T : Tab) : Env := mk (CT T) 8 1 [] [] [] [3] [] []
def PL_zm_0 := b8 (pSl 1 pA (pSl 2 (ed 0 0) (pSl 13 pA (pSl 14 qI (pSl 15 qI au))))) (ag (eb pc_x5) au)
def HL_zm_0 (X : YL_zm_0) (p : PL_zm_0.T) (K : Ex → St → Prop) : Prop := X p.1.1 p.1.2.2.1 p.1.2.2.2.1 p.1.2.2.2.2.1 p.2.1 (K .ret ⟨[(4, ab false)], []⟩) (fun _a1 _x1 => K (.exit 0) ⟨[(1, ar _a1), (2, .ptr 0 0)], [.box [aw _x1.Name, ar _x1.Columns, ar _x1.Key, ai _x1.Part, ar _x1.Indexes]]⟩)
def Q_zm_0 (R0 : YL_zm_0) : bp := cc [⟨_, PL_zm_0, HL_zm_0 R0⟩]
def env_zm (T : Tab) : Env := mk (CT T) 44 0 [(0, Q_zm_0 (L_zm_0 T T.fuel))] [(0, [1, 2, 13, 14, 15])] [(0, [(0, [1, 2])])] [4] [] [(6, [0, 1, 3, 7, 15, 31, 63, 127, 255, 511, 255, 1279, 255, 7423, 15615, 31999, 65535, 131071, 262143])]
def env_z1q (T : Tab) : Env := mk (CT T) 47 0 [] [] [] [2] [] []
def env_zi (T : Tab) : Env := mk (CT T) 6 0 [] [] [] [2] [] []
def PL_zj_0 := b8 (pSl 2 (ed 0 0) (pSl 3 (ed 1 0) (pSl 8 pA (pSl 9 qI (pSl 10 qI au))))) (ag (eb pc_x5) (ag (eb (ag pA au)) au))
def HL_zj_0 (X : YL_zj_0) (p : PL_zj_0.T) (K : Ex → St → Prop) : Prop := X p.1.2.2.1 p.1.2.2.2.1 p.1.2.2.2.2.1 p.2.1 p.2.2.1.1 (K .ret ⟨[(4, ab true)], []⟩) (fun _x1 _a1 => K (.exit 0) ⟨[(2, .ptr 0 0), (3, .ptr 1 0)], [.box [aw _x1.Name, ar _x1.Columns, ar _x1.Key, ai _x1.Part, ar _x1.Indexes], .box [ar _a1]]⟩)
def Q_zj_0 (R0 : YL_zj_0) : bp := cc [⟨_, PL_zj_0, HL_zj_0 R0⟩]
def env_zj (T : Tab) : Env := mk (CT T) 29 0 [(0, Q_zj_0 (L_zj_0 T T.fuel))] [(0, [2, 3, 8, 9, 10])] [(0, [(0, [2, 3])])] [4] [] []
def env_z1c (T : Tab) : Env := mk (CT T) 9 1 [] [] [] [4] [] []
def PL_z1h_0 := b8 (pSl 0 pA (pSl 1 (fy 65 au (ag (ed 0 0) au)) (pSl 7 qI (pSl 8 qI au)))) (ag (eb (ag pA au)) au)
def HL_z1h_0 (X : YL_z1h_0) (p : PL_z1h_0.T) (K : Ex → St → Prop) : Prop := X p.1.1 p.1.2.2.1 p.1.2.2.2.1 p.2.1.1 (fun _n1 _a1 => K .ret ⟨[(4, ai _n1)], [.box [ar _a1]]⟩) (fun _a2 => K (.exit 0) ⟨[], [.box [ar _a2]]⟩)
def Q_z1h_0 (R0 : YL_z1h_0) : bp := cc [⟨_, PL_z1h_0, HL_z1h_0 R0⟩]
def env_z1h (T : Tab) : Env := mk (CT T) 19 1 [(0, Q_z1h_0 (L_z1h_0 T T.fuel))] [(0, [0, 1, 7, 8])] [(0, [(0, [])])] [4] [] []
def env_zk (T : Tab) : Env := mk (CT T) 9 1 [] [] [] [3] [] []
def PL_zl_0 := b8 (pSl 0 pA (pSl 1 pA (pSl 10 pA (pSl 11 qI (pSl 12 qI au))))) (au (Y := AO))
def HL_zl_0 (X : YL_zl_0) (p : PL_zl_0.T) (K : Ex → St → Prop) : Prop := X p.1.1 p.1.2.1 p.1.2.2.1 p.1.2.2.2.1 p.1.2.2.2.2.1 (fun _n1 => K .ret ⟨[(6, ai _n1)], []⟩) (K (.exit 0) ⟨[], []⟩)
def Q_zl_0 (R0 : YL_zl_0) : bp := cc [⟨_, PL_zl_0, HL_zl_0 R0⟩]
def env_zl (T : Tab) : Env := mk (CT T) 29 0 [(0, Q_zl_0 (L_zl_0 T T.fuel))] [(0, [0, 1, 10, 11, 12])] [(0, [(0, [])])] [6] [] [(4, [0, 0, 3, 7, 0, 0, 48, 112, 255, 511])]
def env_z1p (T : Tab) : Env := mk (CT T) 22 0 [] [] [] [4] [] [(1, [0, 1, 0, 4, 15, 0, 32, 0, 128, 511, 0, 1024, 0, 4096, 16383, 32767, 65535, 131071])]
def env_za (T : Tab) : Env := mk (CT T) 20 0 [] [] [] [4] [] []
def env_zc (T : Tab) : Env := mk (CT T) 6 0 [] [] [] [2] [] []
def env_z1l (T : Tab) : Env := mk (CT T) 8 0 [] [] [] [4] [] []
def env_zo (T : Tab) : Env := mk (CT T) 8 0 [] [] [] [4] [] []
def PL_zb_0 := b8 (pSl 3 qI (pSl 6 (qby 0) (pSl 7 qI (pSl 8 qI au)))) (ag (n5 3 1) au)
def HL_zb_0 (X : YL_zb_0) (p : PL_zb_0.T) (K : Ex → St → Prop) : Prop := X p.1.1 p.1.2.2.1 p.1.2.2.2.1 p.2.1 (fun _n1 _r1 => K .ret ⟨[(2, ai _n1)], [.row 3 1 _r1]⟩) (fun _n2 _r2 => K (.exit 0) ⟨[(3, ai _n2)], [.row 3 1 _r2]⟩)
def Q_zb_0 (R0 : YL_zb_0) : bp := cc [⟨_, PL_zb_0, HL_zb_0 R0⟩]
def env_zb (T : Tab) : Env := mk (CT T) 18 1 [(0, Q_zb_0 (L_zb_0 T T.fuel))] [(0, [3, 6, 7, 8])] [(0, [(0, [3])])] [2] [] []
def PL_zn_0 := b8 (pSl 1 pA (pSl 2 (ed 0 0) (pSl 9 pA (pSl 10 qI (pSl 11 qI au))))) (ag (eb pc_x5) au)
def HL_zn_0 (X : YL_zn_0) (p : PL_zn_0.T) (K : Ex → St → Prop) : Prop := X p.1.1 p.1.2.2.1 p.1.2.2.2.1 p.1.2.2.2.2.1 p.2.1 (K .ret ⟨[(4, ab false)], []⟩) (K (.exit 0) ⟨[], []⟩)
def Q_zn_0 (R0 : YL_zn_0) : bp := cc [⟨_, PL_zn_0, HL_zn_0 R0⟩]
def PL_zn_2 := b8 (pSl 1 pA (pSl 2 (ed 0 0) (pSl 6 pA (pSl 9 pA (pSl 10 qI (pSl 11 qI (pSl 18 pA (pSl 19 qI (pSl 20 qI au))))))))) (ag (eb pc_x5) au)
def HL_zn_2 (X : YL_zn_2) (p : PL_zn_2.T) (K : Ex → St → Prop) : Prop := X p.1.1 p.1.2.2.1 p.1.2.2.2.1 p.1.2.2.2.2.1 p.1.2.2.2.2.2.1 p.1.2.2.2.2.2.2.1 p.1.2.2.2.2.2.2.2.1 p.1.2.2.2.2.2.2.2.2.1 p.2.1 (K .ret ⟨[(4, ab false)], []⟩) (fun _a1 _a2 _n1 _n2 _x1 => K (.exit 2) ⟨[(1, ar _a1), (2, .ptr 0 0), (9, ar _a2), (10, ai _n1), (11, ai _n2)], [.box [aw _x1.Name, ar _x1.Columns, ar _x1.Key, ai _x1.Part, ar _x1.Indexes]]⟩)
def Q_zn_2 (R0 : YL_zn_2) : bp := cc [⟨_, PL_zn_2, HL_zn_2 R0⟩]
def env_zn (T : Tab) : Env := mk (CT T) 30 0 [(0, Q_zn_0 (L_zn_0 T T.fuel)), (2, Q_zn_2 (L_zn_2 T T.fuel))] [(0, [1, 2, 9, 10, 11]), (2, [1, 2, 6, 9, 10, 11, 18, 19, 20])] [(0, [(0, [])]), (2, [(0, []), (1, [1, 2, 9, 10, 11]), (2, [1, 2, 9, 10, 11])])] [4] [] []
def PL_zg_0 := b8 (pSl 2 pA (pSl 4 (ed 0 0) (pSl 16 pA (pSl 17 qI (pSl 18 qI au))))) (ag (eb (ag pA au)) au)
def HL_zg_0 (X : YL_zg_0) (p : PL_zg_0.T) (K : Ex → St → Prop) : Prop := X p.1.1 p.1.2.2.1 p.1.2.2.2.1 p.1.2.2.2.2.1 p.2.1.1 (K .ret ⟨[(6, ab true)], []⟩) (K (.exit 0) ⟨[], []⟩)
def Q_zg_0 (R0 : YL_zg_0) : bp := cc [⟨_, PL_zg_0, HL_zg_0 R0⟩]
def env_zg (T : Tab) : Env := mk (CT T) 40 0 [(0, Q_zg_0 (L_zg_0 T T.fuel))] [(0, [2, 4, 16, 17, 18])] [(0, [(0, [])])] [6] [] []
def env_z1d (T : Tab) : Env := mk (CT T) 9 1 [] [] [] [4] [] []
def PL_z1i_0 := b8 (pSl 0 pA (pSl 1 (fy 69 au (ag (ed 0 0) au)) (pSl 7 qI (pSl 8 qI au)))) (ag (eb (ag pA au)) au)
def HL_z1i_0 (X : YL_z1i_0) (p : PL_z1i_0.T) (K : Ex → St → Prop) : Prop := X p.1.1 p.1.2.2.1 p.1.2.2.2.1 p.2.1.1 (fun _n1 _a1 => K .ret ⟨[(4, ai _n1)], [.box [ar _a1]]⟩) (fun _a2 => K (.exit 0) ⟨[], [.box [ar _a2]]⟩)
def Q_z1i_0 (R0 : YL_z1i_0) : bp := cc [⟨_, PL_z1i_0, HL_z1i_0 R0⟩]
def env_z1i (T : Tab) : Env := mk (CT T) 19 1 [(0, Q_z1i_0 (L_z1i_0 T T.fuel))] [(0, [0, 1, 7, 8])] [(0, [(0, [])])] [4] [] []
def env_zh (T : Tab) : Env := mk (CT T) 9 1 [] [] [] [3] [] []
def PL_z16_0 := b8 (pSl 2 (ed 0 0) (pSl 3 (ed 1 0) (pSl 6 qI au))) (ag (eb pc_x0) (ag (eb pc_x4) au))
def HL_z16_0 (X : YL_z16_0) (p : PL_z16_0.T) (K : Ex → St → Prop) : Prop := X p.1.2.2.1 p.2.1 p.2.2.1 (K .ret ⟨[(4, ab false)], []⟩) (K (.exit 0) ⟨[], []⟩)
def Q_z16_0 (R0 : YL_z16_0) : bp := cc [⟨_, PL_z16_0, HL_z16_0 R0⟩]
def PL_z16_2 := b8 (pSl 2 (ed 0 0) (pSl 3 (ed 1 0) (pSl 6 qI (pSl 7 pA (pSl 8 qI au))))) (ag (eb pc_x0) (ag (eb pc_x4) au))
def HL_z16_2 (X : YL_z16_2) (p : PL_z16_2.T) (K : Ex → St → Prop) : Prop := X p.1.2.2.1 p.1.2.2.2.1 p.1.2.2.2.2.1 p.2.1 p.2.2.1 (K .ret ⟨[(4, ab false)], []⟩) (fun _n1 _a1 _x1 _x2 => K (.exit 2) ⟨[(2, .ptr 0 0), (3, .ptr 1 0), (6, ai _n1), (7, ar _a1)], [.box [ar _x1.Tables, ar _x1.Procs], .box [ar _x2.Tables]]⟩)
def Q_z16_2 (R0 : YL_z16_2) : bp := cc [⟨_, PL_z16_2, HL_z16_2 R0⟩]
def env_z16 (T : Tab) : Env := mk (CT T) 84 0 [(0, Q_z16_0 (L_z16_0 T T.fuel)), (2, Q_z16_2 (L_z16_2 T T.fuel))] [(0, [2, 3, 6]), (2, [2, 3, 6, 7, 8])] [(0, [(0, [])]), (2, [(0, []), (1, [2, 3, 6]), (2, [2, 3, 6, 7])])] [4] [] [(11, [0, 1, 0, 7, 15, 0, 0, 96, 224, 511, 1023]), (15, [0, 0, 2, 7, 15, 0, 0, 96, 224, 0, 512, 0, 3584, 7680, 15872, 32767, 65535])]
def PL_zz_0 := b8 (pSl 1 (ed 0 0) (pSl 3 (qby 1) (pSl 4 (pN 1) (pSl 5 qI au)))) (ag (eb pc_x0) (ag (n5 9 1) au))
def HL_zz_0 (X : YL_zz_0) (p : PL_zz_0.T) (K : Ex → St → Prop) : Prop := X p.1.2.2.2.1 p.2.1 p.2.2.1 (K .ret ⟨[(2, ab false)], []⟩) (fun _x1 _r1 => K (.exit 0) ⟨[(1, .ptr 0 0), (3, .row 1), (4, .p .nils)], [.box [ar _x1.Tables, ar _x1.Procs], .row 9 1 _r1]⟩)
def Q_zz_0 (R0 : YL_zz_0) : bp := cc [⟨_, PL_zz_0, HL_zz_0 R0⟩]
def PL_zz_2 := b8 (pSl 1 (ed 0 0) (pSl 3 (qby 1) (pSl 4 (qby 2) (pSl 7 qI au)))) (ag (eb pc_x0) (ag (n5 9 1) (ag (n5 9 1) au)))
def HL_zz_2 (X : YL_zz_2) (p : PL_zz_2.T) (K : Ex → St → Prop) : Prop := X p.1.2.2.2.1 p.2.1 p.2.2.1 p.2.2.2.1 (K .ret ⟨[(2, ab false)], []⟩) (fun _r1 _r2 => K (.exit 2) ⟨[(3, .row 0), (4, .row 1)], [.row 9 1 _r1, .row 9 1 _r2]⟩)
def Q_zz_2 (R0 : YL_zz_2) : bp := cc [⟨_, PL_zz_2, HL_zz_2 R0⟩]
def env_zz (T : Tab) : Env := mk (CT T) 77 0 [(0, Q_zz_0 (L_zz_0 T T.fuel)), (2, Q_zz_2 (L_zz_2 T T.fuel))] [(0, [1, 3, 4, 5]), (2, [1, 3, 4, 7])] [(0, [(0, [1, 3, 4])]), (2, [(2, [3, 4])])] [2] [(0, [(9, (3, none))]), (2, [(9, (4, none))])] []
def PL_zx_0 := b8 (pSl 1 (ed 0 0) (pSl 4 (qby 1) (pSl 5 qI au))) (ag (eb pc_x5) (ag (n5 9 1) au))
def HL_zx_0 (X : YL_zx_0) (p : PL_zx_0.T) (K : Ex → St → Prop) : Prop := X p.1.2.2.1 p.2.1 p.2.2.1 (K .ret ⟨[(2, ab false)], []⟩) (fun _x1 _r1 => K (.exit 0) ⟨[(1, .ptr 0 0), (4, .row 1)], [.box [aw _x1.Name, ar _x1.Columns, ar _x1.Key, ai _x1.Part, ar _x1.Indexes], .row 9 1 _r1]⟩)
def Q_zx_0 (R0 : YL_zx_0) : bp := cc [⟨_, PL_zx_0, HL_zx_0 R0⟩]
def PL_zx_2 := b8 (pSl 1 (ed 0 0) (pSl 8 pB (pSl 9 qI au))) (ag (eb pc_x5) au)
def HL_zx_2 (X : YL_zx_2) (p : PL_zx_2.T) (K : Ex → St → Prop) : Prop := X p.1.2.1 p.1.2.2.1 p.2.1 (K .ret ⟨[(2, ab false)], []⟩) (fun _b1 _x1 => K (.exit 2) ⟨[(1, .ptr 0 0), (8, ab _b1)], [.box [aw _x1.Name, ar _x1.Columns, ar _x1.Key, ai _x1.Part, ar _x1.Indexes]]⟩)
def Q_zx_2 (R0 : YL_zx_2) : bp := cc [⟨_, PL_zx_2, HL_zx_2 R0⟩]
def PL_zx_4 := b8 (pSl 1 (ed 0 0) (pSl 8 pB (pSl 10 (qby 1) (pSl 11 qI au)))) (ag (eb pc_x5) (ag (n5 9 1) au))
def HL_zx_4 (X : YL_zx_4) (p : PL_zx_4.T) (K : Ex → St → Prop) : Prop := X p.1.2.1 p.1.2.2.2.1 p.2.1 p.2.2.1 (K .ret ⟨[(2, ab false)], []⟩) (fun _b1 _r1 => K (.exit 4) ⟨[(8, ab _b1), (10, .row 0)], [.row 9 1 _r1]⟩)
def Q_zx_4 (R0 : YL_zx_4) : bp := cc [⟨_, PL_zx_4, HL_zx_4 R0⟩]
def env_zx (T : Tab) : Env := mk (CT T) 143 0 [(0, Q_zx_0 (L_zx_0 T T.fuel)), (2, Q_zx_2 (L_zx_2 T T.fuel)), (4, Q_zx_4 (L_zx_4 T T.fuel))] [(0, [1, 4, 5]), (2, [1, 8, 9]), (4, [1, 8, 10, 11])] [(0, [(0, [1, 4])]), (2, [(2, [1, 8])]), (4, [(4, [8, 10])])] [2] [(0, [(9, (4, none))]), (4, [(9, (10, none))])] [(19, [0, 1, 0, 4, 0, 28, 60, 127, 255, 511, 1023]), (21, [0, 1, 0, 7, 15, 0, 32, 127]), (27, [0, 1, 0, 7, 15, 31, 0, 64, 192, 511, 1023])]
def PL_zy_0 := b8 (pSl 0 pS (pSl 3 qI au)) (au (Y := AO))
def HL_zy_0 (X : YL_zy_0) (p : PL_zy_0.T) (K : Ex → St → Prop) : Prop := X p.1.1 p.1.2.1 (K .ret ⟨[(2, ab false)], []⟩) (K (.exit 0) ⟨[], []⟩)
def Q_zy_0 (R0 : YL_zy_0) : bp := cc [⟨_, PL_zy_0, HL_zy_0 R0⟩]
def env_zy (T : Tab) : Env := mk (CT T) 56 0 [(0, Q_zy_0 (L_zy_0 T T.fuel))] [(0, [0, 3])] [(0, [(0, [])])] [2] [] []
def PL_z11_0 := b8 (pSl 0 (qby 0) (pSl 3 qI au)) (ag (n5 9 1) au)
def HL_z11_0 (X : YL_z11_0) (p : PL_z11_0.T) (K : Ex → St → Prop) : Prop := X p.1.2.1 p.2.1 (fun _r1 => K .ret ⟨[(2, ab false)], [.row 9 1 _r1]⟩) (fun _r2 => K (.exit 0) ⟨[], [.row 9 1 _r2]⟩)
def Q_z11_0 (R0 : YL_z11_0) : bp := cc [⟨_, PL_z11_0, HL_z11_0 R0⟩]
def PL_z11_2 := b8 (pSl 0 (qby 0) (pSl 3 qI (pSl 5 qI au))) (ag (n5 9 1) au)
def HL_z11_2 (X : YL_z11_2) (p : PL_z11_2.T) (K : Ex → St → Prop) : Prop := X p.1.2.1 p.1.2.2.1 p.2.1 (fun _r1 => K .ret ⟨[(2, ab false)], [.row 9 1 _r1]⟩) (fun _n1 _r2 => K (.exit 2) ⟨[(0, .row 0), (3, ai _n1)], [.row 9 1 _r2]⟩)
def Q_z11_2 (R0 : YL_z11_2) : bp := cc [⟨_, PL_z11_2, HL_z11_2 R0⟩]
def env_z11 (T : Tab) : Env := mk (CT T) 33 1 [(0, Q_z11_0 (L_z11_0 T T.fuel)), (2, Q_z11_2 (L_z11_2 T T.fuel))] [(0, [0, 3]), (2, [0, 3, 5])] [(0, [(0, [])]), (2, [(0, []), (1, [0, 3]), (2, [0, 3])])] [2] [] [(10, [0, 0, 3, 7, 0, 0, 48, 112, 255])]
def PL_z12_0 := b8 (pSl 0 pA (pSl 1 qI (pSl 5 qI au))) (au (Y := AO))
def HL_z12_0 (X : YL_z12_0) (p : PL_z12_0.T) (K : Ex → St → Prop) : Prop := X p.1.1 p.1.2.1 p.1.2.2.1 (K .ret ⟨[(4, ab false)], []⟩) (K (.exit 0) ⟨[], []⟩)
def Q_z12_0 (R0 : YL_z12_0) : bp := cc [⟨_, PL_z12_0, HL_z12_0 R0⟩]
def PL_z12_2 := b8 (pSl 0 pA (pSl 1 qI (pSl 5 qI (pSl 6 qI au)))) (au (Y := AO))
def HL_z12_2 (X : YL_z12_2) (p : PL_z12_2.T) (K : Ex → St → Prop) : Prop := X p.1.1 p.1.2.1 p.1.2.2.1 p.1.2.2.2.1 (K .ret ⟨[(4, ab false)], []⟩) (fun _a1 _n1 _n2 => K (.exit 2) ⟨[(0, ar _a1), (1, ai _n1), (5, ai _n2)], []⟩)
def Q_z12_2 (R0 : YL_z12_2) : bp := cc [⟨_, PL_z12_2, HL_z12_2 R0⟩]
def env_z12 (T : Tab) : Env := mk (CT T) 48 0 [(0, Q_z12_0 (L_z12_0 T T.fuel)), (2, Q_z12_2 (L_z12_2 T T.fuel))] [(0, [0, 1, 5]), (2, [0, 1, 5, 6])] [(0, [(0, [])]), (2, [(0, []), (1, [0, 1, 5]), (2, [0, 1, 5])])] [4] [] [(11, [0, 0, 3, 7, 0, 0, 48, 112, 255])]
def PL_zw_0 := b8 (pSl 1 (ed 0 0) (pSl 6 (qby 1) (pSl 7 qI au))) (ag (eb pc_x7) (ag (n5 9 1) au))
def HL_zw_0 (X : YL_zw_0) (p : PL_zw_0.T) (K : Ex → St → Prop) : Prop := X p.1.2.2.1 p.2.1 p.2.2.1 (K .ret ⟨[(2, ab false)], []⟩) (fun _x1 _r1 => K (.exit 0) ⟨[(1, .ptr 0 0), (6, .row 1)], [.box [aw _x1.Name, ar _x1.Params, ar _x1.Body, ai _x1.Rows, ai _x1.Bytes], .row 9 1 _r1]⟩)
def Q_zw_0 (R0 : YL_zw_0) : bp := cc [⟨_, PL_zw_0, HL_zw_0 R0⟩]
def PL_zw_2 := b8 (pSl 1 (ed 0 0) (pSl 6 (qby 1) (pSl 8 qI au))) (ag (eb pc_x7) (ag (n5 9 1) au))
def HL_zw_2 (X : YL_zw_2) (p : PL_zw_2.T) (K : Ex → St → Prop) : Prop := X p.1.2.2.1 p.2.1 p.2.2.1 (K .ret ⟨[(2, ab false)], []⟩) (fun _r1 => K (.exit 2) ⟨[(6, .row 0)], [.row 9 1 _r1]⟩)
def Q_zw_2 (R0 : YL_zw_2) : bp := cc [⟨_, PL_zw_2, HL_zw_2 R0⟩]
def env_zw (T : Tab) : Env := mk (CT T) 103 0 [(0, Q_zw_0 (L_zw_0 T T.fuel)), (2, Q_zw_2 (L_zw_2 T T.fuel))] [(0, [1, 6, 7]), (2, [1, 6, 8])] [(0, [(0, [1, 6])]), (2, [(2, [6])])] [2] [(0, [(9, (6, none))])] []
def env_z10 (T : Tab) : Env := mk (CT T) 15 0 [] [] [] [6] [] []
def PL_z17_0 := b8 (pSl 1 pA (pSl 2 (ed 0 0) (pSl 5 qI au))) (ag (eb pc_x5) au)
def HL_z17_0 (X : YL_z17_0) (p : PL_z17_0.T) (K : Ex → St → Prop) : Prop := X p.1.1 p.1.2.2.1 p.2.1 (K .ret ⟨[(4, ab false)], []⟩) (fun _a1 _x1 => K (.exit 0) ⟨[(1, ar _a1), (2, .ptr 0 0)], [.box [aw _x1.Name, ar _x1.Columns, ar _x1.Key, ai _x1.Part, ar _x1.Indexes]]⟩)
def Q_z17_0 (R0 : YL_z17_0) : bp := cc [⟨_, PL_z17_0, HL_z17_0 R0⟩]
def env_z17 (T : Tab) : Env := mk (CT T) 52 0 [(0, Q_z17_0 (L_z17_0 T T.fuel))] [(0, [1, 2, 5])] [(0, [(0, [1, 2])])] [4] [] [(7, [0, 1, 3, 7, 7, 31, 63, 127, 255, 511, 1023, 1023, 4095, 8191, 16383, 1023, 33791, 1023, 230399, 492543, 1016831, 2097151, 4194303, 8388607])]
def env_zv (T : Tab) : Env := mk (CT T) 56 0 [] [] [] [2] [] []
def PL_z14_0 := b8 (pSl 1 pA (pSl 2 (ed 0 0) (pSl 5 qI au))) (ag (eb pc_x5) au)
def HL_z14_0 (X : YL_z14_0) (p : PL_z14_0.T) (K : Ex → St → Prop) : Prop := X p.1.1 p.1.2.2.1 p.2.1 (K .ret ⟨[(4, ab true)], []⟩) (fun _a1 _x1 => K (.exit 0) ⟨[(1, ar _a1), (2, .ptr 0 0)], [.box [aw _x1.Name, ar _x1.Columns, ar _x1.Key, ai _x1.Part, ar _x1.Indexes]]⟩)
def Q_z14_0 (R0 : YL_z14_0) : bp := cc [⟨_, PL_z14_0, HL_z14_0 R0⟩]
def PL_z14_2 := b8 (pSl 1 pA (pSl 2 (ed 0 0) (pSl 6 qI au))) (ag (eb pc_x5) au)
def HL_z14_2 (X : YL_z14_2) (p : PL_z14_2.T) (K : Ex → St → Prop) : Prop := X p.1.1 p.1.2.2.1 p.2.1 (K .ret ⟨[(4, ab true)], []⟩) (K (.exit 2) ⟨[], []⟩)
def Q_z14_2 (R0 : YL_z14_2) : bp := cc [⟨_, PL_z14_2, HL_z14_2 R0⟩]
def env_z14 (T : Tab) : Env := mk (CT T) 44 0 [(0, Q_z14_0 (L_z14_0 T T.fuel)), (2, Q_z14_2 (L_z14_2 T T.fuel))] [(0, [1, 2, 5]), (2, [1, 2, 6])] [(0, [(0, [1, 2])]), (2, [(2, [])])] [4] [] []
def PL_z15_0 := b8 (pSl 0 pA (pSl 1 pA (pSl 2 pA (pSl 7 qI au)))) (au (Y := AO))
def HL_z15_0 (X : YL_z15_0) (p : PL_z15_0.T) (K : Ex → St → Prop) : Prop := X p.1.1 p.1.2.1 p.1.2.2.1 p.1.2.2.2.1 (fun _n1 => K .ret ⟨[(6, ai _n1)], []⟩) (K (.exit 0) ⟨[], []⟩)
def Q_z15_0 (R0 : YL_z15_0) : bp := cc [⟨_, PL_z15_0, HL_z15_0 R0⟩]
def env_z15 (T : Tab) : Env := mk (CT T) 33 0 [(0, Q_z15_0 (L_z15_0 T T.fuel))] [(0, [0, 1, 2, 7])] [(0, [(0, [])])] [6] [] [(4, [0, 0, 0, 6, 14, 31, 63, 0, 0, 0, 768, 1792, 3968, 8064, 16383, 32767])]
def env_zu (T : Tab) : Env := mk (CT T) 48 0 [] [] [] [4] [] []
def PL_z18_0 := b8 (pSl 1 pA (pSl 2 (ed 0 0) (pSl 5 qI au))) (ag (eb pc_x5) au)
def HL_z18_0 (X : YL_z18_0) (p : PL_z18_0.T) (K : Ex → St → Prop) : Prop := X p.1.1 p.1.2.2.1 p.2.1 (K .ret ⟨[(4, ab false)], []⟩) (K (.exit 0) ⟨[], []⟩)
def Q_z18_0 (R0 : YL_z18_0) : bp := cc [⟨_, PL_z18_0, HL_z18_0 R0⟩]
def PL_z18_2 := b8 (pSl 1 pA (pSl 2 (ed 0 0) (pSl 5 qI (pSl 6 qI au)))) (ag (eb pc_x5) au)
def HL_z18_2 (X : YL_z18_2) (p : PL_z18_2.T) (K : Ex → St → Prop) : Prop := X p.1.1 p.1.2.2.1 p.1.2.2.2.1 p.2.1 (K .ret ⟨[(4, ab false)], []⟩) (fun _a1 _n1 _x1 => K (.exit 2) ⟨[(1, ar _a1), (2, .ptr 0 0), (5, ai _n1)], [.box [aw _x1.Name, ar _x1.Columns, ar _x1.Key, ai _x1.Part, ar _x1.Indexes]]⟩)
def Q_z18_2 (R0 : YL_z18_2) : bp := cc [⟨_, PL_z18_2, HL_z18_2 R0⟩]
def env_z18 (T : Tab) : Env := mk (CT T) 30 0 [(0, Q_z18_0 (L_z18_0 T T.fuel)), (2, Q_z18_2 (L_z18_2 T T.fuel))] [(0, [1, 2, 5]), (2, [1, 2, 5, 6])] [(0, [(0, [])]), (2, [(0, []), (1, [1, 2, 5]), (2, [1, 2, 5])])] [4] [] [(7, [0, 0, 0, 6, 14, 0, 0, 96, 224, 511, 1023])]
def PL_z19_0 := b8 (pSl 1 pA (pSl 2 pA (pSl 3 (ed 0 0) (pSl 8 qI au)))) (ag (eb pc_x5) au)
def HL_z19_0 (X : YL_z19_0) (p : PL_z19_0.T) (K : Ex → St → Prop) : Prop := X p.1.1 p.1.2.1 p.1.2.2.2.1 p.2.1 (K .ret ⟨[(6, ab true)], []⟩) (K (.exit 0) ⟨[], []⟩)
def Q_z19_0 (R0 : YL_z19_0) : bp := cc [⟨_, PL_z19_0, HL_z19_0 R0⟩]
def env_z19 (T : Tab) : Env := mk (CT T) 48 0 [(0, Q_z19_0 (L_z19_0 T T.fuel))] [(0, [1, 2, 3, 8])] [(0, [(0, [])])] [6] [] []
def PL_z1a_0 := b8 (pSl 0 pA (pSl 1 pA (pSl 5 qI au))) (au (Y := AO))
def HL_z1a_0 (X : YL_z1a_0) (p : PL_z1a_0.T) (K : Ex → St → Prop) : Prop := X p.1.1 p.1.2.1 p.1.2.2.1 (K .ret ⟨[(4, ab false)], []⟩) (K (.exit 0) ⟨[], []⟩)
def Q_z1a_0 (R0 : YL_z1a_0) : bp := cc [⟨_, PL_z1a_0, HL_z1a_0 R0⟩]
def env_z1a (T : Tab) : Env := mk (CT T) 21 0 [(0, Q_z1a_0 (L_z1a_0 T T.fuel))] [(0, [0, 1, 5])] [(0, [(0, [])])] [4] [] []
def env_zd (T : Tab) : Env := mk (CT T) 12 0 [] [] [] [2] [] []
def PL_z13_0 := b8 (pSl 1 (ed 0 0) (pSl 2 (ed 1 0) (pSl 3 (ed 2 0) (pSl 4 pB (pSl 5 qI au))))) (ag (eb pc_x0) (ag (eb (ag (pN 1) au)) (ag (eb (ag (qby 3) au)) (ag (n5 35 1) au))))
def HL_z13_0 (X : YL_z13_0) (p : PL_z13_0.T) (K : Ex → St → Prop) : Prop := X p.1.2.2.2.1 p.1.2.2.2.2.1 p.2.1 p.2.2.2.2.1 (fun _r1 => K (.exit 0) ⟨[(2, .ptr 0 0), (3, .ptr 1 0)], [.box [.p .nils], .box [.row 2], .row 35 1 _r1]⟩)
def Q_z13_0 (R0 : YL_z13_0) : bp := cc [⟨_, PL_z13_0, HL_z13_0 R0⟩]
def env_z13 (T : Tab) : Env := mk (CT T) 24 0 [(0, Q_z13_0 (L_z13_0 T T.fuel))] [(0, [1, 2, 3, 4, 5])] [(0, [(0, [2, 3])])] [2] [(0, [(35, (3, some 0))])] []
def PL_zt_0 := b8 (pSl 2 (ed 0 0) (pSl 3 (ed 1 0) (pSl 5 qI au))) (ag (eb pc_x4) (ag (eb pc_x4) au))
def HL_zt_0 (X : YL_zt_0) (p : PL_zt_0.T) (K : Ex → St → Prop) : Prop := X p.1.2.2.1 p.2.1 p.2.2.1 (K .ret ⟨[(4, ab false)], []⟩) (K (.exit 0) ⟨[], []⟩)
def Q_zt_0 (R0 : YL_zt_0) : bp := cc [⟨_, PL_zt_0, HL_zt_0 R0⟩]
def env_zt (T : Tab) : Env := mk (CT T) 34 0 [(0, Q_zt_0 (L_zt_0 T T.fuel))] [(0, [2, 3, 5])] [(0, [(0, [])])] [4] [] [(6, [0, 1, 0, 7, 15, 0, 32, 0, 224, 480, 1023, 2047])]
def PL_zs_0 := b8 (pSl 0 pA (pSl 1 pA (pSl 5 qI au))) (au (Y := AO))
def HL_zs_0 (X : YL_zs_0) (p : PL_zs_0.T) (K : Ex → St → Prop) : Prop := X p.1.1 p.1.2.1 p.1.2.2.1 (K .ret ⟨[(4, ab false)], []⟩) (K (.exit 0) ⟨[], []⟩)
def Q_zs_0 (R0 : YL_zs_0) : bp := cc [⟨_, PL_zs_0, HL_zs_0 R0⟩]
def PL_zs_2 := b8 (pSl 0 pA (pSl 1 pA (pSl 5 qI (pSl 6 qI au)))) (au (Y := AO))
def HL_zs_2 (X : YL_zs_2) (p : PL_zs_2.T) (K : Ex → St → Prop) : Prop := X p.1.1 p.1.2.1 p.1.2.2.1 p.1.2.2.2.1 (K .ret ⟨[(4, ab false)], []⟩) (fun _a1 _a2 _n1 => K (.exit 2) ⟨[(0, ar _a1), (1, ar _a2), (5, ai _n1)], []⟩)
def Q_zs_2 (R0 : YL_zs_2) : bp := cc [⟨_, PL_zs_2, HL_zs_2 R0⟩]
def env_zs (T : Tab) : Env := mk (CT T) 53 0 [(0, Q_zs_0 (L_zs_0 T T.fuel)), (2, Q_zs_2 (L_zs_2 T T.fuel))] [(0, [0, 1, 5]), (2, [0, 1, 5, 6])] [(0, [(0, [])]), (2, [(0, []), (1, [0, 1, 5]), (2, [0, 1, 5])])] [4] [] [(6, [0, 0, 3, 7, 15, 0, 0, 96, 224, 480, 1023]), (11, [0, 0, 3, 7, 0, 31, 63, 0, 0, 384, 896, 0, 3968, 8064, 16383])]
end
end
end Go.RX
