/- Printed by a program of the prover: the functions that the law reaches, as functions in Lean, and that the model does what they say. No condition. -/
import Derived.Test.YtacceochippkaaaGreatDoorGfa
import Derived.Test.YtacceochippkaaaGreatDoorGfb
import Derived.Test.YtacceochippkaaaGreatDoorGfc
import Derived.Test.YtacceochippkaaaGreatDoorGfd
import Derived.Test.YtacceochippkaaaGreatDoorAg
import Derived.Test.YtacceochippkaaaGreatDoorAa
set_option linter.all false
set_option maxRecDepth 100000
set_option maxHeartbeats 8000000
namespace Go.RX
open Go.Proofs
theorem q9c : ah Tryz.prog 3 (E3 (TT 0)) := ae (fun _ _ => False.elim) af
theorem q9d (k : Nat) (hC : HC (TT k)) : ah Tryz.prog 3 (E3 (TT (k + 1))) := ae (c_z1d (TT k) hC) af
theorem c_z1e (T : Tab) (hC : HC T) : bt Tryz.prog 7 ⟨_, P_z1e, H_z1e (F_z1e T)⟩ := fun p K h => qn3 (P_z1e.put p).1 (P_z1e.put p).2 K h
theorem q9e : ah Tryz.prog 7 (E7 (TT 0)) := ae (fun _ _ => False.elim) af
theorem q9f (k : Nat) (hC : HC (TT k)) : ah Tryz.prog 7 (E7 (TT (k + 1))) := ae (c_z1e (TT k) hC) af
theorem q9g : ah Tryz.prog 8 (E8 (TT 0)) := ae (fun _ _ => False.elim) af
theorem q9h (k : Nat) (hC : HC (TT k)) : ah Tryz.prog 8 (E8 (TT (k + 1))) := ae (c_zb (TT k) hC) af
theorem q2e : ah Tryz.prog 17 (E17 (TT 0)) := ae (fun _ _ => False.elim) af
theorem q2f (k : Nat) (hC : HC (TT k)) : ah Tryz.prog 17 (E17 (TT (k + 1))) := ae (c_zd (TT k) hC) af
theorem q26 : ah Tryz.prog 46 (E46 (TT 0)) := ae (fun _ _ => False.elim) af
theorem q28 (k : Nat) (hC : HC (TT k)) : ah Tryz.prog 46 (E46 (TT (k + 1))) := ae (c_z0 (TT k) hC) af
theorem qtu : ah Tryz.prog 101 (qz7 (TT 0)) := ae (fun _ _ => False.elim) af
theorem qtv (k : Nat) (hC : HC (TT k)) : ah Tryz.prog 101 (qz7 (TT (k + 1))) := ae (c_z4 (TT k) hC) af
theorem qtw : ah Tryz.prog 102 (qz8 (TT 0)) := ae (fun _ _ => False.elim) af
theorem qtx (k : Nat) (hC : HC (TT k)) : ah Tryz.prog 102 (qz8 (TT (k + 1))) := ae (c_z3 (TT k) hC) af
theorem qvr : ah Tryz.prog 158 (q05 (TT 0)) := ae (fun _ _ => False.elim) af
theorem qvs (k : Nat) (hC : HC (TT k)) : ah Tryz.prog 158 (q05 (TT (k + 1))) := ae (c_z6 (TT k) hC) af
theorem qwn : ah Tryz.prog 185 (q1l (TT 0)) := ae (fun _ _ => False.elim) af
theorem qwo (k : Nat) (hC : HC (TT k)) : ah Tryz.prog 185 (q1l (TT (k + 1))) := ae (c_z2s (TT k) hC) af
theorem qw1 : ah Tryz.prog 208 (q1s (TT 0)) := ae (fun _ _ => False.elim) af
theorem qw2 (k : Nat) (hC : HC (TT k)) : ah Tryz.prog 208 (q1s (TT (k + 1))) := ae (c_z2u (TT k) hC) af
theorem qw9 : ah Tryz.prog 228 (q1w (TT 0)) := ae (fun _ _ => False.elim) af
theorem qxa (k : Nat) (hC : HC (TT k)) : ah Tryz.prog 228 (q1w (TT (k + 1))) := ae (c_z2v (TT k) hC) af
theorem qwp : ah Tryz.prog 186 (q1m (TT 0)) := ae (fun _ _ => False.elim) af
theorem qwq (k : Nat) (hC : HC (TT k)) : ah Tryz.prog 186 (q1m (TT (k + 1))) := ae (c_z7 (TT k) hC) af
theorem qvp : ah Tryz.prog 157 (q04 (TT 0)) := ae (fun _ _ => False.elim) af
theorem qvq (k : Nat) (hC : HC (TT k)) : ah Tryz.prog 157 (q04 (TT (k + 1))) := ae (c_z5 (TT k) hC) af
theorem qvt : ah Tryz.prog 159 (q06 (TT 0)) := ae (fun _ _ => False.elim) af
theorem qvu (k : Nat) (hC : HC (TT k)) : ah Tryz.prog 159 (q06 (TT (k + 1))) := ae (c_z9 (TT k) hC) af
theorem qvv : ah Tryz.prog 160 (q07 (TT 0)) := ae (fun _ _ => False.elim) af
theorem qvw (k : Nat) (hC : HC (TT k)) : ah Tryz.prog 160 (q07 (TT (k + 1))) := ae (c_z8 (TT k) hC) af
theorem qvx : ah Tryz.prog 161 (q08 (TT 0)) := ae (fun _ _ => False.elim) af
theorem qvy (k : Nat) (hC : HC (TT k)) : ah Tryz.prog 161 (q08 (TT (k + 1))) := ae (c_z2h (TT k) hC) af
theorem qwr : ah Tryz.prog 187 (q1n (TT 0)) := ae (fun _ _ => False.elim) af
theorem qws (k : Nat) (hC : HC (TT k)) : ah Tryz.prog 187 (q1n (TT (k + 1))) := ae (c_z2r (TT k) hC) af
theorem qty : ah Tryz.prog 103 (qz9 (TT 0)) := ae (fun _ _ => False.elim) af
theorem qtz (k : Nat) (hC : HC (TT k)) : ah Tryz.prog 103 (qz9 (TT (k + 1))) := ae (c_z1 (TT k) hC) af
theorem qvz : ah Tryz.prog 162 (q09 (TT 0)) := ae (fun _ _ => False.elim) af
theorem qv0 (k : Nat) (hC : HC (TT k)) : ah Tryz.prog 162 (q09 (TT (k + 1))) := ae (c_z2g (TT k) hC) af
theorem qut : ah Tryz.prog 125 (q0o (TT 0)) := ae (fun _ _ => False.elim) af
theorem quu (k : Nat) (hC : HC (TT k)) : ah Tryz.prog 125 (q0o (TT (k + 1))) := ae (c_z2q (TT k) hC) af
theorem qv1 : ah Tryz.prog 163 (q1a (TT 0)) := ae (fun _ _ => False.elim) af
theorem qv2 (k : Nat) (hC : HC (TT k)) : ah Tryz.prog 163 (q1a (TT (k + 1))) := ae (c_z2 (TT k) hC) af
theorem q3a : ah Tryz.prog 47 (E47 (TT 0)) := ae (fun _ _ => False.elim) af
theorem q3b (k : Nat) (hC : HC (TT k)) : ah Tryz.prog 47 (E47 (TT (k + 1))) := ae (c_zt (TT k) hC) af
theorem q4i : ah Tryz.prog 84 (E84 (TT 0)) := ae (fun _ _ => False.elim) af
theorem q4j (k : Nat) (hC : HC (TT k)) : ah Tryz.prog 84 (E84 (TT (k + 1))) := ae (c_z1f (TT k) hC) af
theorem q4c : ah Tryz.prog 66 (E66 (TT 0)) := ae (fun _ _ => False.elim) af
theorem q4d (k : Nat) (hC : HC (TT k)) : ah Tryz.prog 66 (E66 (TT (k + 1))) := ae (c_z1g (TT k) hC) af
theorem q4e : ah Tryz.prog 68 (E68 (TT 0)) := ae (fun _ _ => False.elim) af
theorem q4f (k : Nat) (hC : HC (TT k)) : ah Tryz.prog 68 (E68 (TT (k + 1))) := ae (c_z2t (TT k) hC) af
theorem qur : ah Tryz.prog 118 (q0n (TT 0)) := ae (fun _ _ => False.elim) af
theorem qus (k : Nat) (hC : HC (TT k)) : ah Tryz.prog 118 (q0n (TT (k + 1))) := ae (c_z1c (TT k) hC) af
theorem c_z1b (T : Tab) (hC : HC T) : bt Tryz.prog 166 ⟨_, P_z1b, H_z1b (F_z1b T)⟩ := fun p K h => (qqi q6d (by kernel_rfl) (by kernel_rfl) (by kernel_rfl)) (P_z1b.put p).1 (P_z1b.put p).2 K h
theorem qv7 : ah Tryz.prog 166 (q1d (TT 0)) := ae (fun _ _ => False.elim) af
theorem qv8 (k : Nat) (hC : HC (TT k)) : ah Tryz.prog 166 (q1d (TT (k + 1))) := ae (c_z1b (TT k) hC) af
theorem q2g : ah Tryz.prog 18 (E18 (TT 0)) := ae (fun _ _ => False.elim) af
theorem q2h (k : Nat) (hC : HC (TT k)) : ah Tryz.prog 18 (E18 (TT (k + 1))) := ae (c_z18 (TT k) hC) af
theorem q3c : ah Tryz.prog 48 (E48 (TT 0)) := ae (fun _ _ => False.elim) af
theorem q3d (k : Nat) (hC : HC (TT k)) : ah Tryz.prog 48 (E48 (TT (k + 1))) := ae (c_z19 (TT k) hC) af
theorem qt0 : ah Tryz.prog 104 (q0a (TT 0)) := ae (fun _ _ => False.elim) (ae (fun _ _ => False.elim) af)
theorem qt1 (k : Nat) (hC : HC (TT k)) : ah Tryz.prog 104 (q0a (TT (k + 1))) := ae (c_z2f (TT k) hC) (ae (c_z2e (TT k) hC) af)
theorem qv3 : ah Tryz.prog 164 (q1b (TT 0)) := ae (fun _ _ => False.elim) (ae (fun _ _ => False.elim) af)
theorem qv4 (k : Nat) (hC : HC (TT k)) : ah Tryz.prog 164 (q1b (TT (k + 1))) := ae (c_z2p (TT k) hC) (ae (c_z2o (TT k) hC) af)
theorem qt2 : ah Tryz.prog 105 (q0b (TT 0)) := ae (fun _ _ => False.elim) af
theorem qt3 (k : Nat) (hC : HC (TT k)) : ah Tryz.prog 105 (q0b (TT (k + 1))) := ae (c_z1a (TT k) hC) af
theorem q3e : ah Tryz.prog 49 (E49 (TT 0)) := ae (fun _ _ => False.elim) af
theorem q3f (k : Nat) (hC : HC (TT k)) : ah Tryz.prog 49 (E49 (TT (k + 1))) := ae (c_z15 (TT k) hC) af
theorem qt4 : ah Tryz.prog 106 (q0c (TT 0)) := ae (fun _ _ => False.elim) af
theorem qt5 (k : Nat) (hC : HC (TT k)) : ah Tryz.prog 106 (q0c (TT (k + 1))) := ae (c_z14 (TT k) hC) af
theorem q3g : ah Tryz.prog 50 (E50 (TT 0)) := ae (fun _ _ => False.elim) af
theorem q3h (k : Nat) (hC : HC (TT k)) : ah Tryz.prog 50 (E50 (TT (k + 1))) := ae (c_z13 (TT k) hC) af
theorem c_z29 (T : Tab) (hC : HC T) : bt Tryz.prog 51 ⟨_, P_z29, H_z29 (F_z29 T)⟩ := fun p K h => (qdn qky) (P_z29.put p).1 (P_z29.put p).2 K h
theorem q3i : ah Tryz.prog 51 (E51 (TT 0)) := ae (fun _ _ => False.elim) af
theorem q3j (k : Nat) (hC : HC (TT k)) : ah Tryz.prog 51 (E51 (TT (k + 1))) := ae (c_z29 (TT k) hC) af
theorem c_z2a (T : Tab) (hC : HC T) : bt Tryz.prog 52 ⟨_, P_z2a, H_z2a (F_z2a T)⟩ := fun p K h => (qdn qk0) (P_z2a.put p).1 (P_z2a.put p).2 K h
theorem q3k : ah Tryz.prog 52 (E52 (TT 0)) := ae (fun _ _ => False.elim) af
theorem q3l (k : Nat) (hC : HC (TT k)) : ah Tryz.prog 52 (E52 (TT (k + 1))) := ae (c_z2a (TT k) hC) af
theorem q3m : ah Tryz.prog 53 (E53 (TT 0)) := ae (fun _ _ => False.elim) af
theorem q3n (k : Nat) (hC : HC (TT k)) : ah Tryz.prog 53 (E53 (TT (k + 1))) := ae (c_z16 (TT k) hC) af
theorem q3o : ah Tryz.prog 54 (E54 (TT 0)) := ae (fun _ _ => False.elim) af
theorem q3p (k : Nat) (hC : HC (TT k)) : ah Tryz.prog 54 (E54 (TT (k + 1))) := ae (c_z17 (TT k) hC) af
theorem q2c : ah Tryz.prog 11 (E11 (TT 0)) := ae (fun _ _ => False.elim) af
theorem q2d (k : Nat) (hC : HC (TT k)) : ah Tryz.prog 11 (E11 (TT (k + 1))) := ae (c_za (TT k) hC) af
theorem q22 : ah Tryz.prog 35 (E35 (TT 0)) := ae (fun _ _ => False.elim) af
theorem q23 (k : Nat) (hC : HC (TT k)) : ah Tryz.prog 35 (E35 (TT (k + 1))) := ae (c_z2w (TT k) hC) af
theorem q4k : ah Tryz.prog 85 (E85 (TT 0)) := ae (fun _ _ => False.elim) af
theorem q4l (k : Nat) (hC : HC (TT k)) : ah Tryz.prog 85 (E85 (TT (k + 1))) := ae (c_z35 (TT k) hC) af
theorem q20 : ah Tryz.prog 31 (E31 (TT 0)) := ae (fun _ _ => False.elim) (ae (fun _ _ => False.elim) af)
theorem q21 (k : Nat) (hC : HC (TT k)) : ah Tryz.prog 31 (E31 (TT (k + 1))) := ae (c_z2b (TT k) hC) (ae (c_z2c (TT k) hC) af)
theorem q4g : ah Tryz.prog 82 (E82 (TT 0)) := ae (fun _ _ => False.elim) (ae (fun _ _ => False.elim) af)
theorem q4h (k : Nat) (hC : HC (TT k)) : ah Tryz.prog 82 (E82 (TT (k + 1))) := ae (c_z2l (TT k) hC) (ae (c_z2m (TT k) hC) af)
theorem quv : ah Tryz.prog 137 (q0p (TT 0)) := ae (fun _ _ => False.elim) af
theorem quw (k : Nat) (hC : HC (TT k)) : ah Tryz.prog 137 (q0p (TT (k + 1))) := ae (c_z36 (TT k) hC) af
theorem qux : ah Tryz.prog 138 (q0q (TT 0)) := ae (fun _ _ => False.elim) af
theorem quy (k : Nat) (hC : HC (TT k)) : ah Tryz.prog 138 (q0q (TT (k + 1))) := ae (c_z2y (TT k) hC) af
theorem qv9 : ah Tryz.prog 172 (q1e (TT 0)) := ae (fun _ _ => False.elim) af
theorem qwa (k : Nat) (hC : HC (TT k)) : ah Tryz.prog 172 (q1e (TT (k + 1))) := ae (c_z37 (TT k) hC) af
theorem qwb : ah Tryz.prog 173 (q1f (TT 0)) := ae (fun _ _ => False.elim) af
theorem qwc (k : Nat) (hC : HC (TT k)) : ah Tryz.prog 173 (q1f (TT (k + 1))) := ae (c_z2x (TT k) hC) af
theorem qvn : ah Tryz.prog 152 (q03 (TT 0)) := ae (fun _ _ => False.elim) af
theorem qvo (k : Nat) (hC : HC (TT k)) : ah Tryz.prog 152 (q03 (TT (k + 1))) := ae (c_z39 (TT k) hC) af
theorem qwd : ah Tryz.prog 174 (q1g (TT 0)) := ae (fun _ _ => False.elim) af
theorem qwe (k : Nat) (hC : HC (TT k)) : ah Tryz.prog 174 (q1g (TT (k + 1))) := ae (c_z2z (TT k) hC) af
theorem q4m : ah Tryz.prog 86 (E86 (TT 0)) := ae (fun _ _ => False.elim) af
theorem q4n (k : Nat) (hC : HC (TT k)) : ah Tryz.prog 86 (E86 (TT (k + 1))) := ae (c_z31 (TT k) hC) af
theorem quz : ah Tryz.prog 139 (q0r (TT 0)) := ae (fun _ _ => False.elim) af
theorem qu0 (k : Nat) (hC : HC (TT k)) : ah Tryz.prog 139 (q0r (TT (k + 1))) := ae (c_z30 (TT k) hC) af
theorem qu1 : ah Tryz.prog 140 (q0s (TT 0)) := ae (fun _ _ => False.elim) af
theorem qu2 (k : Nat) (hC : HC (TT k)) : ah Tryz.prog 140 (q0s (TT (k + 1))) := ae (c_z38 (TT k) hC) af
theorem qu3 : ah Tryz.prog 141 (q0t (TT 0)) := ae (fun _ _ => False.elim) af
theorem qu4 (k : Nat) (hC : HC (TT k)) : ah Tryz.prog 141 (q0t (TT (k + 1))) := ae (c_z32 (TT k) hC) af
theorem q4o : ah Tryz.prog 87 (E87 (TT 0)) := ae (fun _ _ => False.elim) af
theorem q4p (k : Nat) (hC : HC (TT k)) : ah Tryz.prog 87 (E87 (TT (k + 1))) := ae (c_z33 (TT k) hC) af
theorem qu5 : ah Tryz.prog 142 (q0u (TT 0)) := ae (fun _ _ => False.elim) af
theorem qu6 (k : Nat) (hC : HC (TT k)) : ah Tryz.prog 142 (q0u (TT (k + 1))) := ae (c_z2d (TT k) hC) af
theorem qwf : ah Tryz.prog 175 (q1h (TT 0)) := ae (fun _ _ => False.elim) af
theorem qwg (k : Nat) (hC : HC (TT k)) : ah Tryz.prog 175 (q1h (TT (k + 1))) := ae (c_z2n (TT k) hC) af
theorem qu7 : ah Tryz.prog 143 (q0v (TT 0)) := ae (fun _ _ => False.elim) af
theorem qu8 (k : Nat) (hC : HC (TT k)) : ah Tryz.prog 143 (q0v (TT (k + 1))) := ae (c_z34 (TT k) hC) af
theorem q24 : ah Tryz.prog 36 (E36 (TT 0)) := ae (fun _ _ => False.elim) af
theorem q25 (k : Nat) (hC : HC (TT k)) : ah Tryz.prog 36 (E36 (TT (k + 1))) := ae (c_zo (TT k) hC) af
theorem q4q : ah Tryz.prog 88 (E88 (TT 0)) := ae (fun _ _ => False.elim) af
theorem q4r (k : Nat) (hC : HC (TT k)) : ah Tryz.prog 88 (E88 (TT (k + 1))) := ae (c_zj (TT k) hC) af
theorem qu9 : ah Tryz.prog 144 (q0w (TT 0)) := ae (fun _ _ => False.elim) af
theorem qva (k : Nat) (hC : HC (TT k)) : ah Tryz.prog 144 (q0w (TT (k + 1))) := ae (c_zw (TT k) hC) af
theorem qvb : ah Tryz.prog 145 (q0x (TT 0)) := ae (fun _ _ => False.elim) af
theorem qvc (k : Nat) (hC : HC (TT k)) : ah Tryz.prog 145 (q0x (TT (k + 1))) := ae (c_zf (TT k) hC) af
theorem q4s : ah Tryz.prog 89 (E89 (TT 0)) := ae (fun _ _ => False.elim) af
theorem q4t (k : Nat) (hC : HC (TT k)) : ah Tryz.prog 89 (E89 (TT (k + 1))) := ae (c_zm (TT k) hC) af
theorem q4u : ah Tryz.prog 90 (E90 (TT 0)) := ae (fun _ _ => False.elim) af
theorem q4v (k : Nat) (hC : HC (TT k)) : ah Tryz.prog 90 (E90 (TT (k + 1))) := ae (c_zq (TT k) hC) af
theorem qvd : ah Tryz.prog 146 (q0y (TT 0)) := ae (fun _ _ => False.elim) af
theorem qve (k : Nat) (hC : HC (TT k)) : ah Tryz.prog 146 (q0y (TT (k + 1))) := ae (c_zk (TT k) hC) af
theorem qwh : ah Tryz.prog 176 (q1i (TT 0)) := ae (fun _ _ => False.elim) af
theorem qwi (k : Nat) (hC : HC (TT k)) : ah Tryz.prog 176 (q1i (TT (k + 1))) := ae (c_zl (TT k) hC) af
theorem qwj : ah Tryz.prog 177 (q1j (TT 0)) := ae (fun _ _ => False.elim) af
theorem qwk (k : Nat) (hC : HC (TT k)) : ah Tryz.prog 177 (q1j (TT (k + 1))) := ae (c_zp (TT k) hC) af
theorem qwv : ah Tryz.prog 195 (q1p (TT 0)) := ae (fun _ _ => False.elim) af
theorem qww (k : Nat) (hC : HC (TT k)) : ah Tryz.prog 195 (q1p (TT (k + 1))) := ae (c_zz (TT k) hC) af
theorem qw3 : ah Tryz.prog 216 (q1t (TT 0)) := ae (fun _ _ => False.elim) af
theorem qw4 (k : Nat) (hC : HC (TT k)) : ah Tryz.prog 216 (q1t (TT (k + 1))) := ae (c_z10 (TT k) hC) af
theorem qw5 : ah Tryz.prog 217 (q1u (TT 0)) := ae (fun _ _ => False.elim) af
theorem qw6 (k : Nat) (hC : HC (TT k)) : ah Tryz.prog 217 (q1u (TT (k + 1))) := ae (c_z11 (TT k) hC) af
theorem qwx : ah Tryz.prog 196 (q1q (TT 0)) := ae (fun _ _ => False.elim) af
theorem qwy (k : Nat) (hC : HC (TT k)) : ah Tryz.prog 196 (q1q (TT (k + 1))) := ae (c_zy (TT k) hC) af
theorem qwz : ah Tryz.prog 197 (q1r (TT 0)) := ae (fun _ _ => False.elim) af
theorem qw0 (k : Nat) (hC : HC (TT k)) : ah Tryz.prog 197 (q1r (TT (k + 1))) := ae (c_zx (TT k) hC) af
theorem qw7 : ah Tryz.prog 218 (q1v (TT 0)) := ae (fun _ _ => False.elim) af
theorem qw8 (k : Nat) (hC : HC (TT k)) : ah Tryz.prog 218 (q1v (TT (k + 1))) := ae (c_z12 (TT k) hC) af
theorem q4w : ah Tryz.prog 91 (E91 (TT 0)) := ae (fun _ _ => False.elim) af
theorem q4x (k : Nat) (hC : HC (TT k)) : ah Tryz.prog 91 (E91 (TT (k + 1))) := ae (c_zh (TT k) hC) af
theorem q4y : ah Tryz.prog 92 (E92 (TT 0)) := ae (fun _ _ => False.elim) af
theorem q4z (k : Nat) (hC : HC (TT k)) : ah Tryz.prog 92 (E92 (TT (k + 1))) := ae (c_zr (TT k) hC) af
theorem qvf : ah Tryz.prog 147 (q0z (TT 0)) := ae (fun _ _ => False.elim) af
theorem qvg (k : Nat) (hC : HC (TT k)) : ah Tryz.prog 147 (q0z (TT (k + 1))) := ae (c_zs (TT k) hC) af
theorem q40 : ah Tryz.prog 93 (E93 (TT 0)) := ae (fun _ _ => False.elim) af
theorem q41 (k : Nat) (hC : HC (TT k)) : ah Tryz.prog 93 (E93 (TT (k + 1))) := ae (c_ze (TT k) hC) af
theorem qvh : ah Tryz.prog 148 (q00 (TT 0)) := ae (fun _ _ => False.elim) af
theorem qvi (k : Nat) (hC : HC (TT k)) : ah Tryz.prog 148 (q00 (TT (k + 1))) := ae (c_zg (TT k) hC) af
theorem qvj : ah Tryz.prog 149 (q01 (TT 0)) := ae (fun _ _ => False.elim) af
theorem qvk (k : Nat) (hC : HC (TT k)) : ah Tryz.prog 149 (q01 (TT (k + 1))) := ae (c_zn (TT k) hC) af
theorem qvl : ah Tryz.prog 150 (q02 (TT 0)) := ae (fun _ _ => False.elim) af
theorem qvm (k : Nat) (hC : HC (TT k)) : ah Tryz.prog 150 (q02 (TT (k + 1))) := ae (c_zi (TT k) hC) af
theorem qwl : ah Tryz.prog 178 (q1k (TT 0)) := ae (fun _ _ => False.elim) af
theorem qwm (k : Nat) (hC : HC (TT k)) : ah Tryz.prog 178 (q1k (TT (k + 1))) := ae (c_zc (TT k) hC) af
theorem q2i : ah Tryz.prog 19 (E19 (TT 0)) := ae (fun _ _ => False.elim) af
theorem q2j (k : Nat) (hC : HC (TT k)) : ah Tryz.prog 19 (E19 (TT (k + 1))) := ae (c_zv (TT k) hC) af
theorem q3q : ah Tryz.prog 55 (E55 (TT 0)) := ae (fun _ _ => False.elim) af
theorem q3r (k : Nat) (hC : HC (TT k)) : ah Tryz.prog 55 (E55 (TT (k + 1))) := ae (c_z2k (TT k) hC) af
theorem q3s : ah Tryz.prog 56 (E56 (TT 0)) := ae (fun _ _ => False.elim) af
theorem q3t (k : Nat) (hC : HC (TT k)) : ah Tryz.prog 56 (E56 (TT (k + 1))) := ae (c_z2j (TT k) hC) af
theorem q3u : ah Tryz.prog 57 (E57 (TT 0)) := ae (fun _ _ => False.elim) af
theorem q3v (k : Nat) (hC : HC (TT k)) : ah Tryz.prog 57 (E57 (TT (k + 1))) := ae (c_z2i (TT k) hC) af
theorem q3w : ah Tryz.prog 58 (E58 (TT 0)) := ae (fun _ _ => False.elim) af
theorem q3x (k : Nat) (hC : HC (TT k)) : ah Tryz.prog 58 (E58 (TT (k + 1))) := ae (c_zu (TT k) hC) af
theorem q9i : ah Tryz.prog 9 (E9 (TT 0)) := ae (fun _ _ => False.elim) af
theorem q9j (k : Nat) (hC : HC (TT k)) : ah Tryz.prog 9 (E9 (TT (k + 1))) := ae (c_z1v (TT k) hC) af
theorem q2k : ah Tryz.prog 20 (E20 (TT 0)) := ae (fun _ _ => False.elim) af
theorem q2l (k : Nat) (hC : HC (TT k)) : ah Tryz.prog 20 (E20 (TT (k + 1))) := ae (c_z1l (TT k) hC) af
theorem q3y : ah Tryz.prog 59 (E59 (TT 0)) := ae (fun _ _ => False.elim) af
theorem q3z (k : Nat) (hC : HC (TT k)) : ah Tryz.prog 59 (E59 (TT (k + 1))) := ae (c_z1j (TT k) hC) af
theorem qt6 : ah Tryz.prog 107 (q0d (TT 0)) := ae (fun _ _ => False.elim) af
theorem qt7 (k : Nat) (hC : HC (TT k)) : ah Tryz.prog 107 (q0d (TT (k + 1))) := ae (c_z1k (TT k) hC) af
theorem q32 : ah Tryz.prog 61 (E61 (TT 0)) := ae (fun _ _ => False.elim) af
theorem q33 (k : Nat) (hC : HC (TT k)) : ah Tryz.prog 61 (E61 (TT (k + 1))) := ae (c_z1n (TT k) hC) af
theorem qt8 : ah Tryz.prog 108 (q0e (TT 0)) := ae (fun _ _ => False.elim) af
theorem qt9 (k : Nat) (hC : HC (TT k)) : ah Tryz.prog 108 (q0e (TT (k + 1))) := ae (c_z1o (TT k) hC) af
theorem q30 : ah Tryz.prog 60 (E60 (TT 0)) := ae (fun _ _ => False.elim) af
theorem q31 (k : Nat) (hC : HC (TT k)) : ah Tryz.prog 60 (E60 (TT (k + 1))) := ae (c_z1i (TT k) hC) af
theorem qua : ah Tryz.prog 109 (q0f (TT 0)) := ae (fun _ _ => False.elim) af
theorem qub (k : Nat) (hC : HC (TT k)) : ah Tryz.prog 109 (q0f (TT (k + 1))) := ae (c_z1m (TT k) hC) af
theorem q2m : ah Tryz.prog 21 (E21 (TT 0)) := ae (fun _ _ => False.elim) af
theorem q2n (k : Nat) (hC : HC (TT k)) : ah Tryz.prog 21 (E21 (TT (k + 1))) := ae (c_z1u (TT k) hC) af
theorem q34 : ah Tryz.prog 62 (E62 (TT 0)) := ae (fun _ _ => False.elim) af
theorem q35 (k : Nat) (hC : HC (TT k)) : ah Tryz.prog 62 (E62 (TT (k + 1))) := ae (c_z1p (TT k) hC) af
theorem quc : ah Tryz.prog 110 (q0g (TT 0)) := ae (fun _ _ => False.elim) af
theorem qud (k : Nat) (hC : HC (TT k)) : ah Tryz.prog 110 (q0g (TT (k + 1))) := ae (c_z1r (TT k) hC) af
theorem que : ah Tryz.prog 111 (q0h (TT 0)) := ae (fun _ _ => False.elim) af
theorem quf (k : Nat) (hC : HC (TT k)) : ah Tryz.prog 111 (q0h (TT (k + 1))) := ae (c_z1q (TT k) hC) af
theorem q2o : ah Tryz.prog 22 (E22 (TT 0)) := ae (fun _ _ => False.elim) af
theorem q2p (k : Nat) (hC : HC (TT k)) : ah Tryz.prog 22 (E22 (TT (k + 1))) := ae (c_z25 (TT k) hC) af
theorem q2q : ah Tryz.prog 23 (E23 (TT 0)) := ae (fun _ _ => False.elim) af
theorem q2r (k : Nat) (hC : HC (TT k)) : ah Tryz.prog 23 (E23 (TT (k + 1))) := ae (c_z1t (TT k) hC) af
theorem q2s : ah Tryz.prog 24 (E24 (TT 0)) := ae (fun _ _ => False.elim) af
theorem q2t (k : Nat) (hC : HC (TT k)) : ah Tryz.prog 24 (E24 (TT (k + 1))) := ae (c_z26 (TT k) hC) af
theorem q36 : ah Tryz.prog 63 (E63 (TT 0)) := ae (fun _ _ => False.elim) af
theorem q37 (k : Nat) (hC : HC (TT k)) : ah Tryz.prog 63 (E63 (TT (k + 1))) := ae (c_z1w (TT k) hC) af
theorem qug : ah Tryz.prog 112 (q0i (TT 0)) := ae (fun _ _ => False.elim) af
theorem quh (k : Nat) (hC : HC (TT k)) : ah Tryz.prog 112 (q0i (TT (k + 1))) := ae (c_z23 (TT k) hC) af
theorem qv5 : ah Tryz.prog 165 (q1c (TT 0)) := ae (fun _ _ => False.elim) af
theorem qv6 (k : Nat) (hC : HC (TT k)) : ah Tryz.prog 165 (q1c (TT (k + 1))) := ae (c_z1s (TT k) hC) af
theorem qwt : ah Tryz.prog 188 (q1o (TT 0)) := ae (fun _ _ => False.elim) af
theorem qwu (k : Nat) (hC : HC (TT k)) : ah Tryz.prog 188 (q1o (TT (k + 1))) := ae (c_z1h (TT k) hC) af
theorem q38 : ah Tryz.prog 64 (E64 (TT 0)) := ae (fun _ _ => False.elim) af
theorem q39 (k : Nat) (hC : HC (TT k)) : ah Tryz.prog 64 (E64 (TT (k + 1))) := ae (c_z1x (TT k) hC) af
theorem qui : ah Tryz.prog 113 (q0j (TT 0)) := ae (fun _ _ => False.elim) af
theorem quj (k : Nat) (hC : HC (TT k)) : ah Tryz.prog 113 (q0j (TT (k + 1))) := ae (c_z22 (TT k) hC) af
theorem quk : ah Tryz.prog 114 (q0k (TT 0)) := ae (fun _ _ => False.elim) af
theorem qul (k : Nat) (hC : HC (TT k)) : ah Tryz.prog 114 (q0k (TT (k + 1))) := ae (c_z21 (TT k) hC) af
theorem qum : ah Tryz.prog 115 (q0l (TT 0)) := ae (fun _ _ => False.elim) af
theorem qun (k : Nat) (hC : HC (TT k)) : ah Tryz.prog 115 (q0l (TT (k + 1))) := ae (c_z28 (TT k) hC) af
theorem qup : ah Tryz.prog 116 (q0m (TT 0)) := ae (fun _ _ => False.elim) af
theorem quq (k : Nat) (hC : HC (TT k)) : ah Tryz.prog 116 (q0m (TT (k + 1))) := ae (c_z27 (TT k) hC) af
theorem q2u : ah Tryz.prog 25 (E25 (TT 0)) := ae (fun _ _ => False.elim) af
theorem q2v (k : Nat) (hC : HC (TT k)) : ah Tryz.prog 25 (E25 (TT (k + 1))) := ae (c_z24 (TT k) hC) af
theorem q4a : ah Tryz.prog 65 (E65 (TT 0)) := ae (fun _ _ => False.elim) af
theorem q4b (k : Nat) (hC : HC (TT k)) : ah Tryz.prog 65 (E65 (TT (k + 1))) := ae (c_z20 (TT k) hC) af
theorem q2y : ah Tryz.prog 27 (E27 (TT 0)) := ae (fun _ _ => False.elim) af
theorem q2z (k : Nat) (hC : HC (TT k)) : ah Tryz.prog 27 (E27 (TT (k + 1))) := ae (c_z1y (TT k) hC) af
theorem q2w : ah Tryz.prog 26 (E26 (TT 0)) := ae (fun _ _ => False.elim) af
theorem q2x (k : Nat) (hC : HC (TT k)) : ah Tryz.prog 26 (E26 (TT (k + 1))) := ae (c_z1z (TT k) hC) af
theorem bu : ∀ k, HC (TT k)
  | 0 => ag q9c (ag q9e (ag q9g (ag q9i (ag q2c (ag q2e (ag q2g (ag q2i (ag q2k (ag q2m (ag q2o (ag q2q (ag q2s (ag q2u (ag q2w (ag q2y (ag q20 (ag q22 (ag q24 (ag q26 (ag q3a (ag q3c (ag q3e (ag q3g (ag q3i (ag q3k (ag q3m (ag q3o (ag q3q (ag q3s (ag q3u (ag q3w (ag q3y (ag q30 (ag q32 (ag q34 (ag q36 (ag q38 (ag q4a (ag q4c (ag q4e (ag q4g (ag q4i (ag q4k (ag q4m (ag q4o (ag q4q (ag q4s (ag q4u (ag q4w (ag q4y (ag q40 (ag qtu (ag qtw (ag qty (ag qt0 (ag qt2 (ag qt4 (ag qt6 (ag qt8 (ag qua (ag quc (ag que (ag qug (ag qui (ag quk (ag qum (ag qup (ag qur (ag qut (ag quv (ag qux (ag quz (ag qu1 (ag qu3 (ag qu5 (ag qu7 (ag qu9 (ag qvb (ag qvd (ag qvf (ag qvh (ag qvj (ag qvl (ag qvn (ag qvp (ag qvr (ag qvt (ag qvv (ag qvx (ag qvz (ag qv1 (ag qv3 (ag qv5 (ag qv7 (ag qv9 (ag qwb (ag qwd (ag qwf (ag qwh (ag qwj (ag qwl (ag qwn (ag qwp (ag qwr (ag qwt (ag qwv (ag qwx (ag qwz (ag qw1 (ag qw3 (ag qw5 (ag qw7 (ag qw9 (tg _))))))))))))))))))))))))))))))))))))))))))))))))))))))))))))))))))))))))))))))))))))))))))))))))))))))))))))))))))
  | k + 1 => ag (q9d k (bu k)) (ag (q9f k (bu k)) (ag (q9h k (bu k)) (ag (q9j k (bu k)) (ag (q2d k (bu k)) (ag (q2f k (bu k)) (ag (q2h k (bu k)) (ag (q2j k (bu k)) (ag (q2l k (bu k)) (ag (q2n k (bu k)) (ag (q2p k (bu k)) (ag (q2r k (bu k)) (ag (q2t k (bu k)) (ag (q2v k (bu k)) (ag (q2x k (bu k)) (ag (q2z k (bu k)) (ag (q21 k (bu k)) (ag (q23 k (bu k)) (ag (q25 k (bu k)) (ag (q28 k (bu k)) (ag (q3b k (bu k)) (ag (q3d k (bu k)) (ag (q3f k (bu k)) (ag (q3h k (bu k)) (ag (q3j k (bu k)) (ag (q3l k (bu k)) (ag (q3n k (bu k)) (ag (q3p k (bu k)) (ag (q3r k (bu k)) (ag (q3t k (bu k)) (ag (q3v k (bu k)) (ag (q3x k (bu k)) (ag (q3z k (bu k)) (ag (q31 k (bu k)) (ag (q33 k (bu k)) (ag (q35 k (bu k)) (ag (q37 k (bu k)) (ag (q39 k (bu k)) (ag (q4b k (bu k)) (ag (q4d k (bu k)) (ag (q4f k (bu k)) (ag (q4h k (bu k)) (ag (q4j k (bu k)) (ag (q4l k (bu k)) (ag (q4n k (bu k)) (ag (q4p k (bu k)) (ag (q4r k (bu k)) (ag (q4t k (bu k)) (ag (q4v k (bu k)) (ag (q4x k (bu k)) (ag (q4z k (bu k)) (ag (q41 k (bu k)) (ag (qtv k (bu k)) (ag (qtx k (bu k)) (ag (qtz k (bu k)) (ag (qt1 k (bu k)) (ag (qt3 k (bu k)) (ag (qt5 k (bu k)) (ag (qt7 k (bu k)) (ag (qt9 k (bu k)) (ag (qub k (bu k)) (ag (qud k (bu k)) (ag (quf k (bu k)) (ag (quh k (bu k)) (ag (quj k (bu k)) (ag (qul k (bu k)) (ag (qun k (bu k)) (ag (quq k (bu k)) (ag (qus k (bu k)) (ag (quu k (bu k)) (ag (quw k (bu k)) (ag (quy k (bu k)) (ag (qu0 k (bu k)) (ag (qu2 k (bu k)) (ag (qu4 k (bu k)) (ag (qu6 k (bu k)) (ag (qu8 k (bu k)) (ag (qva k (bu k)) (ag (qvc k (bu k)) (ag (qve k (bu k)) (ag (qvg k (bu k)) (ag (qvi k (bu k)) (ag (qvk k (bu k)) (ag (qvm k (bu k)) (ag (qvo k (bu k)) (ag (qvq k (bu k)) (ag (qvs k (bu k)) (ag (qvu k (bu k)) (ag (qvw k (bu k)) (ag (qvy k (bu k)) (ag (qv0 k (bu k)) (ag (qv2 k (bu k)) (ag (qv4 k (bu k)) (ag (qv6 k (bu k)) (ag (qv8 k (bu k)) (ag (qwa k (bu k)) (ag (qwc k (bu k)) (ag (qwe k (bu k)) (ag (qwg k (bu k)) (ag (qwi k (bu k)) (ag (qwk k (bu k)) (ag (qwm k (bu k)) (ag (qwo k (bu k)) (ag (qwq k (bu k)) (ag (qws k (bu k)) (ag (qwu k (bu k)) (ag (qww k (bu k)) (ag (qwy k (bu k)) (ag (qw0 k (bu k)) (ag (qw2 k (bu k)) (ag (qw4 k (bu k)) (ag (qw6 k (bu k)) (ag (qw8 k (bu k)) (ag (qxa k (bu k)) (tg _))))))))))))))))))))))))))))))))))))))))))))))))))))))))))))))))))))))))))))))))))))))))))))))))))))))))))))))))))
end Go.RX
