/- Printed by a program of the prover: the functions that the law reaches, as functions in Lean, and that the model does what they say. No condition. -/
import Derived.Test.YtmddopocbbnhlaaGreatDoorGc
set_option linter.all false
namespace Go.RX
open Go.Proofs
theorem b_z1p (T : Tab) p K : body (env_z1p T) pl true Tryz.f33 (P_z1p.put p).1 (P_z1p.put p).2 K = H_z1p (F_z1p T) p K := by kernel_rfl
theorem b_za (T : Tab) p K : body (env_za T) pl true Tryz.f67 (P_za.put p).1 (P_za.put p).2 K = H_za (F_za T) p K := by kernel_rfl
theorem b_zc (T : Tab) p K : body (env_zc T) pl true Tryz.f118 (P_zc.put p).1 (P_zc.put p).2 K = H_zc (F_zc T) p K := by kernel_rfl
theorem b_z1l (T : Tab) p K : body (env_z1l T) pl true Tryz.f68 (P_z1l.put p).1 (P_z1l.put p).2 K = H_z1l (F_z1l T) p K := by kernel_rfl
theorem b_zo (T : Tab) p K : body (env_zo T) pl true Tryz.f119 (P_zo.put p).1 (P_zo.put p).2 K = H_zo (F_zo T) p K := by kernel_rfl
theorem r_zb_0 (T : Tab) R0 p K {c : Code} (hc : codeOf 0 Tryz.f66 = some c) : bm (env_zb T) pl 0 c (Q_zb_0 R0) ⟨(PL_zb_0.put p).1, (PL_zb_0.put p).2⟩ K = HL_zb_0 (B_zb_0 T R0) p K := by
  injection hc with hc
  subst hc
  kernel_rfl
theorem b_zb (T : Tab) p K : body (env_zb T) pl true Tryz.f66 (P_zb.put p).1 (P_zb.put p).2 K = H_zb (F_zb T) p K := by kernel_rfl
theorem r_zn_0 (T : Tab) R0 p K {c : Code} (hc : codeOf 0 Tryz.f17 = some c) : bm (env_zn T) pl 0 c (Q_zn_0 R0) ⟨(PL_zn_0.put p).1, (PL_zn_0.put p).2⟩ K = HL_zn_0 (B_zn_0 T R0) p K := by
  injection hc with hc
  subst hc
  kernel_rfl
theorem r_zn_2 (T : Tab) R0 p K {c : Code} (hc : codeOf 2 Tryz.f17 = some c) : bm (env_zn T) pl 2 c (Q_zn_2 R0) ⟨(PL_zn_2.put p).1, (PL_zn_2.put p).2⟩ K = HL_zn_2 (B_zn_2 T R0) p K := by
  injection hc with hc
  subst hc
  kernel_rfl
theorem b_zn (T : Tab) p K : body (env_zn T) pl true Tryz.f17 (P_zn.put p).1 (P_zn.put p).2 K = H_zn (F_zn T) p K := by kernel_rfl
theorem r_zg_0 (T : Tab) R0 p K {c : Code} (hc : codeOf 0 Tryz.f34 = some c) : bm (env_zg T) pl 0 c (Q_zg_0 R0) ⟨(PL_zg_0.put p).1, (PL_zg_0.put p).2⟩ K = HL_zg_0 (B_zg_0 T R0) p K := by
  injection hc with hc
  subst hc
  kernel_rfl
theorem b_zg (T : Tab) p K : body (env_zg T) pl true Tryz.f34 (P_zg.put p).1 (P_zg.put p).2 K = H_zg (F_zg T) p K := by kernel_rfl
theorem b_z1d (T : Tab) p K : body (env_z1d T) pl true Tryz.f64 (P_z1d.put p).1 (P_z1d.put p).2 K = H_z1d (F_z1d T) p K := by kernel_rfl
theorem r_z1i_0 (T : Tab) R0 p K {c : Code} (hc : codeOf 0 Tryz.f117 = some c) : bm (env_z1i T) pl 0 c (Q_z1i_0 R0) ⟨(PL_z1i_0.put p).1, (PL_z1i_0.put p).2⟩ K = HL_z1i_0 (B_z1i_0 T R0) p K := by
  injection hc with hc
  subst hc
  kernel_rfl
theorem b_z1i (T : Tab) p K : body (env_z1i T) pl true Tryz.f117 (P_z1i.put p).1 (P_z1i.put p).2 K = H_z1i (F_z1i T) p K := by kernel_rfl
theorem b_zh (T : Tab) p K : body (env_zh T) pl true Tryz.f69 (P_zh.put p).1 (P_zh.put p).2 K = H_zh (F_zh T) p K := by kernel_rfl
theorem r_z16_0 (T : Tab) R0 p K {c : Code} (hc : codeOf 0 Tryz.f6 = some c) : bm (env_z16 T) pl 0 c (Q_z16_0 R0) ⟨(PL_z16_0.put p).1, (PL_z16_0.put p).2⟩ K = HL_z16_0 (B_z16_0 T R0) p K := by
  injection hc with hc
  subst hc
  kernel_rfl
theorem r_z16_2 (T : Tab) R0 p K {c : Code} (hc : codeOf 2 Tryz.f6 = some c) : bm (env_z16 T) pl 2 c (Q_z16_2 R0) ⟨(PL_z16_2.put p).1, (PL_z16_2.put p).2⟩ K = HL_z16_2 (B_z16_2 T R0) p K := by
  injection hc with hc
  subst hc
  kernel_rfl
theorem b_z16 (T : Tab) p K : body (env_z16 T) pl true Tryz.f6 (P_z16.put p).1 (P_z16.put p).2 K = H_z16 (F_z16 T) p K := by kernel_rfl
theorem r_zz_0 (T : Tab) R0 p K {c : Code} (hc : codeOf 0 Tryz.f18 = some c) : bm (env_zz T) pl 0 c (Q_zz_0 R0) ⟨(PL_zz_0.put p).1, (PL_zz_0.put p).2⟩ K = HL_zz_0 (B_zz_0 T R0) p K := by
  injection hc with hc
  subst hc
  kernel_rfl
theorem r_zz_2 (T : Tab) R0 p K {c : Code} (hc : codeOf 2 Tryz.f18 = some c) : bm (env_zz T) pl 2 c (Q_zz_2 R0) ⟨(PL_zz_2.put p).1, (PL_zz_2.put p).2⟩ K = HL_zz_2 (B_zz_2 T R0) p K := by
  injection hc with hc
  subst hc
  kernel_rfl
theorem b_zz (T : Tab) p K : body (env_zz T) pl true Tryz.f18 (P_zz.put p).1 (P_zz.put p).2 K = H_zz (F_zz T) p K := by kernel_rfl
theorem r_zx_0 (T : Tab) R0 p K {c : Code} (hc : codeOf 0 Tryz.f35 = some c) : bm (env_zx T) pl 0 c (Q_zx_0 R0) ⟨(PL_zx_0.put p).1, (PL_zx_0.put p).2⟩ K = HL_zx_0 (B_zx_0 T R0) p K := by
  injection hc with hc
  subst hc
  kernel_rfl
theorem r_zx_2 (T : Tab) R0 p K {c : Code} (hc : codeOf 2 Tryz.f35 = some c) : bm (env_zx T) pl 2 c (Q_zx_2 R0) ⟨(PL_zx_2.put p).1, (PL_zx_2.put p).2⟩ K = HL_zx_2 (B_zx_2 T R0) p K := by
  injection hc with hc
  subst hc
  kernel_rfl
theorem r_zx_4 (T : Tab) R0 p K {c : Code} (hc : codeOf 4 Tryz.f35 = some c) : bm (env_zx T) pl 4 c (Q_zx_4 R0) ⟨(PL_zx_4.put p).1, (PL_zx_4.put p).2⟩ K = HL_zx_4 (B_zx_4 T R0) p K := by
  injection hc with hc
  subst hc
  kernel_rfl
theorem b_zx (T : Tab) p K : body (env_zx T) pl true Tryz.f35 (P_zx.put p).1 (P_zx.put p).2 K = H_zx (F_zx T) p K := by kernel_rfl
theorem r_zy_0 (T : Tab) R0 p K {c : Code} (hc : codeOf 0 Tryz.f70 = some c) : bm (env_zy T) pl 0 c (Q_zy_0 R0) ⟨(PL_zy_0.put p).1, (PL_zy_0.put p).2⟩ K = HL_zy_0 (B_zy_0 T R0) p K := by
  injection hc with hc
  subst hc
  kernel_rfl
theorem b_zy (T : Tab) p K : body (env_zy T) pl true Tryz.f70 (P_zy.put p).1 (P_zy.put p).2 K = H_zy (F_zy T) p K := by kernel_rfl
theorem r_z11_0 (T : Tab) R0 p K {c : Code} (hc : codeOf 0 Tryz.f37 = some c) : bm (env_z11 T) pl 0 c (Q_z11_0 R0) ⟨(PL_z11_0.put p).1, (PL_z11_0.put p).2⟩ K = HL_z11_0 (B_z11_0 T R0) p K := by
  injection hc with hc
  subst hc
  kernel_rfl
theorem r_z11_2 (T : Tab) R0 p K {c : Code} (hc : codeOf 2 Tryz.f37 = some c) : bm (env_z11 T) pl 2 c (Q_z11_2 R0) ⟨(PL_z11_2.put p).1, (PL_z11_2.put p).2⟩ K = HL_z11_2 (B_z11_2 T R0) p K := by
  injection hc with hc
  subst hc
  kernel_rfl
theorem b_z11 (T : Tab) p K : body (env_z11 T) pl true Tryz.f37 (P_z11.put p).1 (P_z11.put p).2 K = H_z11 (F_z11 T) p K := by kernel_rfl
theorem r_z12_0 (T : Tab) R0 p K {c : Code} (hc : codeOf 0 Tryz.f71 = some c) : bm (env_z12 T) pl 0 c (Q_z12_0 R0) ⟨(PL_z12_0.put p).1, (PL_z12_0.put p).2⟩ K = HL_z12_0 (B_z12_0 T R0) p K := by
  injection hc with hc
  subst hc
  kernel_rfl
theorem r_z12_2 (T : Tab) R0 p K {c : Code} (hc : codeOf 2 Tryz.f71 = some c) : bm (env_z12 T) pl 2 c (Q_z12_2 R0) ⟨(PL_z12_2.put p).1, (PL_z12_2.put p).2⟩ K = HL_z12_2 (B_z12_2 T R0) p K := by
  injection hc with hc
  subst hc
  kernel_rfl
theorem b_z12 (T : Tab) p K : body (env_z12 T) pl true Tryz.f71 (P_z12.put p).1 (P_z12.put p).2 K = H_z12 (F_z12 T) p K := by kernel_rfl
theorem r_zw_0 (T : Tab) R0 p K {c : Code} (hc : codeOf 0 Tryz.f36 = some c) : bm (env_zw T) pl 0 c (Q_zw_0 R0) ⟨(PL_zw_0.put p).1, (PL_zw_0.put p).2⟩ K = HL_zw_0 (B_zw_0 T R0) p K := by
  injection hc with hc
  subst hc
  kernel_rfl
theorem r_zw_2 (T : Tab) R0 p K {c : Code} (hc : codeOf 2 Tryz.f36 = some c) : bm (env_zw T) pl 2 c (Q_zw_2 R0) ⟨(PL_zw_2.put p).1, (PL_zw_2.put p).2⟩ K = HL_zw_2 (B_zw_2 T R0) p K := by
  injection hc with hc
  subst hc
  kernel_rfl
theorem b_zw (T : Tab) p K : body (env_zw T) pl true Tryz.f36 (P_zw.put p).1 (P_zw.put p).2 K = H_zw (F_zw T) p K := by kernel_rfl
theorem b_z10 (T : Tab) p K : body (env_z10 T) pl true Tryz.f72 (P_z10.put p).1 (P_z10.put p).2 K = H_z10 (F_z10 T) p K := by kernel_rfl
theorem r_z17_0 (T : Tab) R0 p K {c : Code} (hc : codeOf 0 Tryz.f19 = some c) : bm (env_z17 T) pl 0 c (Q_z17_0 R0) ⟨(PL_z17_0.put p).1, (PL_z17_0.put p).2⟩ K = HL_z17_0 (B_z17_0 T R0) p K := by
  injection hc with hc
  subst hc
  kernel_rfl
theorem b_z17 (T : Tab) p K : body (env_z17 T) pl true Tryz.f19 (P_z17.put p).1 (P_z17.put p).2 K = H_z17 (F_z17 T) p K := by kernel_rfl
theorem b_zv (T : Tab) p K : body (env_zv T) pl true Tryz.f38 (P_zv.put p).1 (P_zv.put p).2 K = H_zv (F_zv T) p K := by kernel_rfl
theorem r_z14_0 (T : Tab) R0 p K {c : Code} (hc : codeOf 0 Tryz.f39 = some c) : bm (env_z14 T) pl 0 c (Q_z14_0 R0) ⟨(PL_z14_0.put p).1, (PL_z14_0.put p).2⟩ K = HL_z14_0 (B_z14_0 T R0) p K := by
  injection hc with hc
  subst hc
  kernel_rfl
theorem r_z14_2 (T : Tab) R0 p K {c : Code} (hc : codeOf 2 Tryz.f39 = some c) : bm (env_z14 T) pl 2 c (Q_z14_2 R0) ⟨(PL_z14_2.put p).1, (PL_z14_2.put p).2⟩ K = HL_z14_2 (B_z14_2 T R0) p K := by
  injection hc with hc
  subst hc
  kernel_rfl
theorem b_z14 (T : Tab) p K : body (env_z14 T) pl true Tryz.f39 (P_z14.put p).1 (P_z14.put p).2 K = H_z14 (F_z14 T) p K := by kernel_rfl
theorem r_z15_0 (T : Tab) R0 p K {c : Code} (hc : codeOf 0 Tryz.f20 = some c) : bm (env_z15 T) pl 0 c (Q_z15_0 R0) ⟨(PL_z15_0.put p).1, (PL_z15_0.put p).2⟩ K = HL_z15_0 (B_z15_0 T R0) p K := by
  injection hc with hc
  subst hc
  kernel_rfl
theorem b_z15 (T : Tab) p K : body (env_z15 T) pl true Tryz.f20 (P_z15.put p).1 (P_z15.put p).2 K = H_z15 (F_z15 T) p K := by kernel_rfl
theorem b_zu (T : Tab) p K : body (env_zu T) pl true Tryz.f40 (P_zu.put p).1 (P_zu.put p).2 K = H_zu (F_zu T) p K := by kernel_rfl
theorem r_z18_0 (T : Tab) R0 p K {c : Code} (hc : codeOf 0 Tryz.f21 = some c) : bm (env_z18 T) pl 0 c (Q_z18_0 R0) ⟨(PL_z18_0.put p).1, (PL_z18_0.put p).2⟩ K = HL_z18_0 (B_z18_0 T R0) p K := by
  injection hc with hc
  subst hc
  kernel_rfl
theorem r_z18_2 (T : Tab) R0 p K {c : Code} (hc : codeOf 2 Tryz.f21 = some c) : bm (env_z18 T) pl 2 c (Q_z18_2 R0) ⟨(PL_z18_2.put p).1, (PL_z18_2.put p).2⟩ K = HL_z18_2 (B_z18_2 T R0) p K := by
  injection hc with hc
  subst hc
  kernel_rfl
theorem b_z18 (T : Tab) p K : body (env_z18 T) pl true Tryz.f21 (P_z18.put p).1 (P_z18.put p).2 K = H_z18 (F_z18 T) p K := by kernel_rfl
theorem r_z19_0 (T : Tab) R0 p K {c : Code} (hc : codeOf 0 Tryz.f41 = some c) : bm (env_z19 T) pl 0 c (Q_z19_0 R0) ⟨(PL_z19_0.put p).1, (PL_z19_0.put p).2⟩ K = HL_z19_0 (B_z19_0 T R0) p K := by
  injection hc with hc
  subst hc
  kernel_rfl
theorem b_z19 (T : Tab) p K : body (env_z19 T) pl true Tryz.f41 (P_z19.put p).1 (P_z19.put p).2 K = H_z19 (F_z19 T) p K := by kernel_rfl
theorem r_z1a_0 (T : Tab) R0 p K {c : Code} (hc : codeOf 0 Tryz.f73 = some c) : bm (env_z1a T) pl 0 c (Q_z1a_0 R0) ⟨(PL_z1a_0.put p).1, (PL_z1a_0.put p).2⟩ K = HL_z1a_0 (B_z1a_0 T R0) p K := by
  injection hc with hc
  subst hc
  kernel_rfl
theorem b_z1a (T : Tab) p K : body (env_z1a T) pl true Tryz.f73 (P_z1a.put p).1 (P_z1a.put p).2 K = H_z1a (F_z1a T) p K := by kernel_rfl
theorem b_zd (T : Tab) p K : body (env_zd T) pl true Tryz.f7 (P_zd.put p).1 (P_zd.put p).2 K = H_zd (F_zd T) p K := by kernel_rfl
theorem r_z13_0 (T : Tab) R0 p K {c : Code} (hc : codeOf 0 Tryz.f8 = some c) : bm (env_z13 T) pl 0 c (Q_z13_0 R0) ⟨(PL_z13_0.put p).1, (PL_z13_0.put p).2⟩ K = HL_z13_0 (B_z13_0 T R0) p K := by
  injection hc with hc
  subst hc
  kernel_rfl
theorem b_z13 (T : Tab) p K : body (env_z13 T) pl true Tryz.f8 (P_z13.put p).1 (P_z13.put p).2 K = H_z13 (F_z13 T) p K := by kernel_rfl
theorem r_zt_0 (T : Tab) R0 p K {c : Code} (hc : codeOf 0 Tryz.f9 = some c) : bm (env_zt T) pl 0 c (Q_zt_0 R0) ⟨(PL_zt_0.put p).1, (PL_zt_0.put p).2⟩ K = HL_zt_0 (B_zt_0 T R0) p K := by
  injection hc with hc
  subst hc
  kernel_rfl
theorem b_zt (T : Tab) p K : body (env_zt T) pl true Tryz.f9 (P_zt.put p).1 (P_zt.put p).2 K = H_zt (F_zt T) p K := by kernel_rfl
end Go.RX
