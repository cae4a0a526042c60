/- Printed by a program of the prover: the functions that the law reaches, as functions in Lean, and that the model does what they say. No condition. -/
import Derived.Test.YtmddopocbbnhlaaGreatDoorGfa
import Derived.Test.YtmddopocbbnhlaaGreatDoorGfb
import Derived.Test.YtmddopocbbnhlaaGreatDoorGfc
import Derived.Test.YtmddopocbbnhlaaGreatDoorAh
set_option linter.all false
set_option maxRecDepth 100000
set_option maxHeartbeats 8000000
namespace Go.RX
open Go.Proofs
theorem qs3 : ah Tryz.prog 3 (E3 (TT 0)) := aa (fun _ _ => False.elim) ae
theorem qs4 (k : Nat) (hC : HC (TT k)) : ah Tryz.prog 3 (E3 (TT (k + 1))) := aa (c_zq (TT k) hC) ae
theorem c_zr (T : Tab) (hC : HC T) : bq Tryz.prog 4 ⟨_, P_zr, H_zr (F_zr T)⟩ := fun p K h => qft (P_zr.put p).1 (P_zr.put p).2 K h
theorem qs5 : ah Tryz.prog 4 (E4 (TT 0)) := aa (fun _ _ => False.elim) ae
theorem qs6 (k : Nat) (hC : HC (TT k)) : ah Tryz.prog 4 (E4 (TT (k + 1))) := aa (c_zr (TT k) hC) ae
theorem qs7 : ah Tryz.prog 5 (E5 (TT 0)) := aa (fun _ _ => False.elim) ae
theorem qs8 (k : Nat) (hC : HC (TT k)) : ah Tryz.prog 5 (E5 (TT (k + 1))) := aa (c_ze (TT k) hC) ae
theorem qnv : ah Tryz.prog 12 (E12 (TT 0)) := aa (fun _ _ => False.elim) ae
theorem qnw (k : Nat) (hC : HC (TT k)) : ah Tryz.prog 12 (E12 (TT (k + 1))) := aa (c_z0 (TT k) hC) ae
theorem qoh : ah Tryz.prog 26 (E26 (TT 0)) := aa (fun _ _ => False.elim) ae
theorem qoi (k : Nat) (hC : HC (TT k)) : ah Tryz.prog 26 (E26 (TT (k + 1))) := aa (c_z4 (TT k) hC) ae
theorem qoj : ah Tryz.prog 27 (E27 (TT 0)) := aa (fun _ _ => False.elim) ae
theorem qok (k : Nat) (hC : HC (TT k)) : ah Tryz.prog 27 (E27 (TT (k + 1))) := aa (c_z3 (TT k) hC) ae
theorem qpf : ah Tryz.prog 58 (E58 (TT 0)) := aa (fun _ _ => False.elim) ae
theorem qpg (k : Nat) (hC : HC (TT k)) : ah Tryz.prog 58 (E58 (TT (k + 1))) := aa (c_z6 (TT k) hC) ae
theorem qk7 : ah Tryz.prog 113 (qm5 (TT 0)) := aa (fun _ _ => False.elim) ae
theorem qk8 (k : Nat) (hC : HC (TT k)) : ah Tryz.prog 113 (qm5 (TT (k + 1))) := aa (c_z1m (TT k) hC) ae
theorem qll : ah Tryz.prog 178 (qnc (TT 0)) := aa (fun _ _ => False.elim) ae
theorem qlm (k : Nat) (hC : HC (TT k)) : ah Tryz.prog 178 (qnc (TT (k + 1))) := aa (c_z1n (TT k) hC) ae
theorem qlp : ah Tryz.prog 203 (qne (TT 0)) := aa (fun _ _ => False.elim) ae
theorem qlq (k : Nat) (hC : HC (TT k)) : ah Tryz.prog 203 (qne (TT (k + 1))) := aa (c_z1o (TT k) hC) ae
theorem qk9 : ah Tryz.prog 114 (qm6 (TT 0)) := aa (fun _ _ => False.elim) ae
theorem qla (k : Nat) (hC : HC (TT k)) : ah Tryz.prog 114 (qm6 (TT (k + 1))) := aa (c_z7 (TT k) hC) ae
theorem qpd : ah Tryz.prog 57 (E57 (TT 0)) := aa (fun _ _ => False.elim) ae
theorem qpe (k : Nat) (hC : HC (TT k)) : ah Tryz.prog 57 (E57 (TT (k + 1))) := aa (c_z5 (TT k) hC) ae
theorem qph : ah Tryz.prog 59 (E59 (TT 0)) := aa (fun _ _ => False.elim) ae
theorem qpi (k : Nat) (hC : HC (TT k)) : ah Tryz.prog 59 (E59 (TT (k + 1))) := aa (c_z9 (TT k) hC) ae
theorem qpj : ah Tryz.prog 60 (E60 (TT 0)) := aa (fun _ _ => False.elim) ae
theorem qpk (k : Nat) (hC : HC (TT k)) : ah Tryz.prog 60 (E60 (TT (k + 1))) := aa (c_z8 (TT k) hC) ae
theorem qpl : ah Tryz.prog 61 (E61 (TT 0)) := aa (fun _ _ => False.elim) ae
theorem qpm (k : Nat) (hC : HC (TT k)) : ah Tryz.prog 61 (E61 (TT (k + 1))) := aa (c_z1f (TT k) hC) ae
theorem qlb : ah Tryz.prog 115 (qm7 (TT 0)) := aa (fun _ _ => False.elim) ae
theorem qlc (k : Nat) (hC : HC (TT k)) : ah Tryz.prog 115 (qm7 (TT (k + 1))) := aa (c_z1k (TT k) hC) ae
theorem qol : ah Tryz.prog 28 (E28 (TT 0)) := aa (fun _ _ => False.elim) ae
theorem qom (k : Nat) (hC : HC (TT k)) : ah Tryz.prog 28 (E28 (TT (k + 1))) := aa (c_z1 (TT k) hC) ae
theorem qpn : ah Tryz.prog 62 (E62 (TT 0)) := aa (fun _ _ => False.elim) ae
theorem qpo (k : Nat) (hC : HC (TT k)) : ah Tryz.prog 62 (E62 (TT (k + 1))) := aa (c_z1e (TT k) hC) ae
theorem qld : ah Tryz.prog 116 (qm8 (TT 0)) := aa (fun _ _ => False.elim) ae
theorem qle (k : Nat) (hC : HC (TT k)) : ah Tryz.prog 116 (qm8 (TT (k + 1))) := aa (c_z1j (TT k) hC) ae
theorem qpp : ah Tryz.prog 63 (E63 (TT 0)) := aa (fun _ _ => False.elim) ae
theorem qpq (k : Nat) (hC : HC (TT k)) : ah Tryz.prog 63 (E63 (TT (k + 1))) := aa (c_z2 (TT k) hC) ae
theorem qnx : ah Tryz.prog 13 (E13 (TT 0)) := aa (fun _ _ => False.elim) ae
theorem qny (k : Nat) (hC : HC (TT k)) : ah Tryz.prog 13 (E13 (TT (k + 1))) := aa (c_z1b (TT k) hC) ae
theorem qon : ah Tryz.prog 29 (E29 (TT 0)) := aa (fun _ _ => False.elim) ae
theorem qoo (k : Nat) (hC : HC (TT k)) : ah Tryz.prog 29 (E29 (TT (k + 1))) := aa (c_z1g (TT k) hC) ae
theorem qnz : ah Tryz.prog 14 (E14 (TT 0)) := aa (fun _ _ => False.elim) ae
theorem qn0 (k : Nat) (hC : HC (TT k)) : ah Tryz.prog 14 (E14 (TT (k + 1))) := aa (c_zf (TT k) hC) ae
theorem qn1 : ah Tryz.prog 15 (E15 (TT 0)) := aa (fun _ _ => False.elim) ae
theorem qn2 (k : Nat) (hC : HC (TT k)) : ah Tryz.prog 15 (E15 (TT (k + 1))) := aa (c_zm (TT k) hC) ae
theorem qop : ah Tryz.prog 30 (E30 (TT 0)) := aa (fun _ _ => False.elim) ae
theorem qoq (k : Nat) (hC : HC (TT k)) : ah Tryz.prog 30 (E30 (TT (k + 1))) := aa (c_z1q (TT k) hC) ae
theorem qor : ah Tryz.prog 31 (E31 (TT 0)) := aa (fun _ _ => False.elim) ae
theorem qos (k : Nat) (hC : HC (TT k)) : ah Tryz.prog 31 (E31 (TT (k + 1))) := aa (c_zi (TT k) hC) ae
theorem qot : ah Tryz.prog 32 (E32 (TT 0)) := aa (fun _ _ => False.elim) ae
theorem qou (k : Nat) (hC : HC (TT k)) : ah Tryz.prog 32 (E32 (TT (k + 1))) := aa (c_zj (TT k) hC) ae
theorem qpr : ah Tryz.prog 64 (E64 (TT 0)) := aa (fun _ _ => False.elim) (aa (fun _ _ => False.elim) ae)
theorem qps (k : Nat) (hC : HC (TT k)) : ah Tryz.prog 64 (E64 (TT (k + 1))) := aa (c_z1c (TT k) hC) (aa (c_z1d (TT k) hC) ae)
theorem qlf : ah Tryz.prog 117 (qm9 (TT 0)) := aa (fun _ _ => False.elim) (aa (fun _ _ => False.elim) ae)
theorem qlg (k : Nat) (hC : HC (TT k)) : ah Tryz.prog 117 (qm9 (TT (k + 1))) := aa (c_z1h (TT k) hC) (aa (c_z1i (TT k) hC) ae)
theorem qpt : ah Tryz.prog 65 (E65 (TT 0)) := aa (fun _ _ => False.elim) ae
theorem qpu (k : Nat) (hC : HC (TT k)) : ah Tryz.prog 65 (E65 (TT (k + 1))) := aa (c_zk (TT k) hC) ae
theorem qn3 : ah Tryz.prog 16 (E16 (TT 0)) := aa (fun _ _ => False.elim) ae
theorem qn4 (k : Nat) (hC : HC (TT k)) : ah Tryz.prog 16 (E16 (TT (k + 1))) := aa (c_zl (TT k) hC) ae
theorem qov : ah Tryz.prog 33 (E33 (TT 0)) := aa (fun _ _ => False.elim) ae
theorem qow (k : Nat) (hC : HC (TT k)) : ah Tryz.prog 33 (E33 (TT (k + 1))) := aa (c_z1p (TT k) hC) ae
theorem qpx : ah Tryz.prog 67 (E67 (TT 0)) := aa (fun _ _ => False.elim) ae
theorem qpy (k : Nat) (hC : HC (TT k)) : ah Tryz.prog 67 (E67 (TT (k + 1))) := aa (c_za (TT k) hC) ae
theorem qlh : ah Tryz.prog 118 (qna (TT 0)) := aa (fun _ _ => False.elim) ae
theorem qli (k : Nat) (hC : HC (TT k)) : ah Tryz.prog 118 (qna (TT (k + 1))) := aa (c_zc (TT k) hC) ae
theorem qpz : ah Tryz.prog 68 (E68 (TT 0)) := aa (fun _ _ => False.elim) ae
theorem qp0 (k : Nat) (hC : HC (TT k)) : ah Tryz.prog 68 (E68 (TT (k + 1))) := aa (c_z1l (TT k) hC) ae
theorem qlj : ah Tryz.prog 119 (qnb (TT 0)) := aa (fun _ _ => False.elim) ae
theorem qlk (k : Nat) (hC : HC (TT k)) : ah Tryz.prog 119 (qnb (TT (k + 1))) := aa (c_zo (TT k) hC) ae
theorem c_zp (T : Tab) (hC : HC T) : bq Tryz.prog 179 ⟨_, P_zp, H_zp (F_zp T)⟩ := fun p K h => (qc1 qqp (by kernel_rfl) (by kernel_rfl) (by kernel_rfl)) (P_zp.put p).1 (P_zp.put p).2 K h
theorem qln : ah Tryz.prog 179 (qnd (TT 0)) := aa (fun _ _ => False.elim) ae
theorem qlo (k : Nat) (hC : HC (TT k)) : ah Tryz.prog 179 (qnd (TT (k + 1))) := aa (c_zp (TT k) hC) ae
theorem qpv : ah Tryz.prog 66 (E66 (TT 0)) := aa (fun _ _ => False.elim) ae
theorem qpw (k : Nat) (hC : HC (TT k)) : ah Tryz.prog 66 (E66 (TT (k + 1))) := aa (c_zb (TT k) hC) ae
theorem qn5 : ah Tryz.prog 17 (E17 (TT 0)) := aa (fun _ _ => False.elim) ae
theorem qn6 (k : Nat) (hC : HC (TT k)) : ah Tryz.prog 17 (E17 (TT (k + 1))) := aa (c_zn (TT k) hC) ae
theorem qox : ah Tryz.prog 34 (E34 (TT 0)) := aa (fun _ _ => False.elim) ae
theorem qoy (k : Nat) (hC : HC (TT k)) : ah Tryz.prog 34 (E34 (TT (k + 1))) := aa (c_zg (TT k) hC) ae
theorem qp1 : ah Tryz.prog 69 (E69 (TT 0)) := aa (fun _ _ => False.elim) ae
theorem qp2 (k : Nat) (hC : HC (TT k)) : ah Tryz.prog 69 (E69 (TT (k + 1))) := aa (c_zh (TT k) hC) ae
theorem qs9 : ah Tryz.prog 6 (E6 (TT 0)) := aa (fun _ _ => False.elim) ae
theorem qta (k : Nat) (hC : HC (TT k)) : ah Tryz.prog 6 (E6 (TT (k + 1))) := aa (c_z16 (TT k) hC) ae
theorem qn7 : ah Tryz.prog 18 (E18 (TT 0)) := aa (fun _ _ => False.elim) ae
theorem qn8 (k : Nat) (hC : HC (TT k)) : ah Tryz.prog 18 (E18 (TT (k + 1))) := aa (c_zz (TT k) hC) ae
theorem qoz : ah Tryz.prog 35 (E35 (TT 0)) := aa (fun _ _ => False.elim) ae
theorem qo0 (k : Nat) (hC : HC (TT k)) : ah Tryz.prog 35 (E35 (TT (k + 1))) := aa (c_zx (TT k) hC) ae
theorem qp3 : ah Tryz.prog 70 (E70 (TT 0)) := aa (fun _ _ => False.elim) ae
theorem qp4 (k : Nat) (hC : HC (TT k)) : ah Tryz.prog 70 (E70 (TT (k + 1))) := aa (c_zy (TT k) hC) ae
theorem qo3 : ah Tryz.prog 37 (E37 (TT 0)) := aa (fun _ _ => False.elim) ae
theorem qo4 (k : Nat) (hC : HC (TT k)) : ah Tryz.prog 37 (E37 (TT (k + 1))) := aa (c_z11 (TT k) hC) ae
theorem qp5 : ah Tryz.prog 71 (E71 (TT 0)) := aa (fun _ _ => False.elim) ae
theorem qp6 (k : Nat) (hC : HC (TT k)) : ah Tryz.prog 71 (E71 (TT (k + 1))) := aa (c_z12 (TT k) hC) ae
theorem qo1 : ah Tryz.prog 36 (E36 (TT 0)) := aa (fun _ _ => False.elim) ae
theorem qo2 (k : Nat) (hC : HC (TT k)) : ah Tryz.prog 36 (E36 (TT (k + 1))) := aa (c_zw (TT k) hC) ae
theorem qp7 : ah Tryz.prog 72 (E72 (TT 0)) := aa (fun _ _ => False.elim) ae
theorem qp8 (k : Nat) (hC : HC (TT k)) : ah Tryz.prog 72 (E72 (TT (k + 1))) := aa (c_z10 (TT k) hC) ae
theorem qn9 : ah Tryz.prog 19 (E19 (TT 0)) := aa (fun _ _ => False.elim) ae
theorem qoa (k : Nat) (hC : HC (TT k)) : ah Tryz.prog 19 (E19 (TT (k + 1))) := aa (c_z17 (TT k) hC) ae
theorem qo5 : ah Tryz.prog 38 (E38 (TT 0)) := aa (fun _ _ => False.elim) ae
theorem qo6 (k : Nat) (hC : HC (TT k)) : ah Tryz.prog 38 (E38 (TT (k + 1))) := aa (c_zv (TT k) hC) ae
theorem qo7 : ah Tryz.prog 39 (E39 (TT 0)) := aa (fun _ _ => False.elim) ae
theorem qo8 (k : Nat) (hC : HC (TT k)) : ah Tryz.prog 39 (E39 (TT (k + 1))) := aa (c_z14 (TT k) hC) ae
theorem qob : ah Tryz.prog 20 (E20 (TT 0)) := aa (fun _ _ => False.elim) ae
theorem qoc (k : Nat) (hC : HC (TT k)) : ah Tryz.prog 20 (E20 (TT (k + 1))) := aa (c_z15 (TT k) hC) ae
theorem qo9 : ah Tryz.prog 40 (E40 (TT 0)) := aa (fun _ _ => False.elim) ae
theorem qpa (k : Nat) (hC : HC (TT k)) : ah Tryz.prog 40 (E40 (TT (k + 1))) := aa (c_zu (TT k) hC) ae
theorem qod : ah Tryz.prog 21 (E21 (TT 0)) := aa (fun _ _ => False.elim) ae
theorem qoe (k : Nat) (hC : HC (TT k)) : ah Tryz.prog 21 (E21 (TT (k + 1))) := aa (c_z18 (TT k) hC) ae
theorem qpb : ah Tryz.prog 41 (E41 (TT 0)) := aa (fun _ _ => False.elim) ae
theorem qpc (k : Nat) (hC : HC (TT k)) : ah Tryz.prog 41 (E41 (TT (k + 1))) := aa (c_z19 (TT k) hC) ae
theorem qp9 : ah Tryz.prog 73 (E73 (TT 0)) := aa (fun _ _ => False.elim) ae
theorem qqa (k : Nat) (hC : HC (TT k)) : ah Tryz.prog 73 (E73 (TT (k + 1))) := aa (c_z1a (TT k) hC) ae
theorem qtb : ah Tryz.prog 7 (E7 (TT 0)) := aa (fun _ _ => False.elim) ae
theorem qtc (k : Nat) (hC : HC (TT k)) : ah Tryz.prog 7 (E7 (TT (k + 1))) := aa (c_zd (TT k) hC) ae
theorem qtd : ah Tryz.prog 8 (E8 (TT 0)) := aa (fun _ _ => False.elim) ae
theorem qte (k : Nat) (hC : HC (TT k)) : ah Tryz.prog 8 (E8 (TT (k + 1))) := aa (c_z13 (TT k) hC) ae
theorem qtf : ah Tryz.prog 9 (E9 (TT 0)) := aa (fun _ _ => False.elim) ae
theorem qtg (k : Nat) (hC : HC (TT k)) : ah Tryz.prog 9 (E9 (TT (k + 1))) := aa (c_zt (TT k) hC) ae
theorem qof : ah Tryz.prog 22 (E22 (TT 0)) := aa (fun _ _ => False.elim) ae
theorem qog (k : Nat) (hC : HC (TT k)) : ah Tryz.prog 22 (E22 (TT (k + 1))) := aa (c_zs (TT k) hC) ae
theorem bu : ∀ k, HC (TT k)
  | 0 => af qs3 (af qs5 (af qs7 (af qs9 (af qtb (af qtd (af qtf (af qnv (af qnx (af qnz (af qn1 (af qn3 (af qn5 (af qn7 (af qn9 (af qob (af qod (af qof (af qoh (af qoj (af qol (af qon (af qop (af qor (af qot (af qov (af qox (af qoz (af qo1 (af qo3 (af qo5 (af qo7 (af qo9 (af qpb (af qpd (af qpf (af qph (af qpj (af qpl (af qpn (af qpp (af qpr (af qpt (af qpv (af qpx (af qpz (af qp1 (af qp3 (af qp5 (af qp7 (af qp9 (af qk7 (af qk9 (af qlb (af qld (af qlf (af qlh (af qlj (af qll (af qln (af qlp (m5 _)))))))))))))))))))))))))))))))))))))))))))))))))))))))))))))
  | k + 1 => af (qs4 k (bu k)) (af (qs6 k (bu k)) (af (qs8 k (bu k)) (af (qta k (bu k)) (af (qtc k (bu k)) (af (qte k (bu k)) (af (qtg k (bu k)) (af (qnw k (bu k)) (af (qny k (bu k)) (af (qn0 k (bu k)) (af (qn2 k (bu k)) (af (qn4 k (bu k)) (af (qn6 k (bu k)) (af (qn8 k (bu k)) (af (qoa k (bu k)) (af (qoc k (bu k)) (af (qoe k (bu k)) (af (qog k (bu k)) (af (qoi k (bu k)) (af (qok k (bu k)) (af (qom k (bu k)) (af (qoo k (bu k)) (af (qoq k (bu k)) (af (qos k (bu k)) (af (qou k (bu k)) (af (qow k (bu k)) (af (qoy k (bu k)) (af (qo0 k (bu k)) (af (qo2 k (bu k)) (af (qo4 k (bu k)) (af (qo6 k (bu k)) (af (qo8 k (bu k)) (af (qpa k (bu k)) (af (qpc k (bu k)) (af (qpe k (bu k)) (af (qpg k (bu k)) (af (qpi k (bu k)) (af (qpk k (bu k)) (af (qpm k (bu k)) (af (qpo k (bu k)) (af (qpq k (bu k)) (af (qps k (bu k)) (af (qpu k (bu k)) (af (qpw k (bu k)) (af (qpy k (bu k)) (af (qp0 k (bu k)) (af (qp2 k (bu k)) (af (qp4 k (bu k)) (af (qp6 k (bu k)) (af (qp8 k (bu k)) (af (qqa k (bu k)) (af (qk8 k (bu k)) (af (qla k (bu k)) (af (qlc k (bu k)) (af (qle k (bu k)) (af (qlg k (bu k)) (af (qli k (bu k)) (af (qlk k (bu k)) (af (qlm k (bu k)) (af (qlo k (bu k)) (af (qlq k (bu k)) (m5 _)))))))))))))))))))))))))))))))))))))))))))))))))))))))))))))
end Go.RX
