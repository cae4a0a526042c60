/- The law in plain Lean: what a typed statement says, and what it is written back as. No condition. -/
import Derived.Test.YtmddopocbbnhlaaGreatDoorPa
set_option linter.all false
namespace Go.RX
def qi6 (v : S_x6) : PV := .agg (p_x6 v)
def qht (a : Arr) : PV := .arr a.m a.n a.g
@[simp] theorem eu (v : S_x6) (K : S_x6 → Prop) : as_x6 (qi6 v) K = K v := rfl
@[simp] theorem qfi (a : Arr) (K : Arr → Prop) : asA (qht a) K = K a := rfl
abbrev Row := List S_x6
def c9 (m : Bool) (r : Row) : Arr := lst m (r.map qi6)
def qlr (m : Bool) (r : Row) : PV := qht (c9 m r)
def cu (m : Bool) (l : List Row) : Arr := lst m (l.map (qlr m))
def xq (m : Bool) (l : List Row) : PV := qht (cu m l)
def de (m : Bool) (s : List (List Row)) : S_x4 := ⟨lst m (s.map (xq m))⟩
def qns (a b : Int) : Int := if a < b then -1 else if b < a then 1 else 0
def less (a b : ByteArray) : Bool := Op.bytesLess (bs a) (bs b)
def qgy (a b : S_x6) : Int :=
 if a.Kind < b.Kind then -1 else if b.Kind < a.Kind then 1 else if a.Int < b.Int then -1 else if b.Int < a.Int then 1 else if a.Text = b.Text then 0 else bif less a.Text b.Text then -1 else 1
theorem vf : ∀ a b : List UInt8, qf6 a b = if a = b then 0 else bif Op.bytesLess a b then -1 else 1
 | [], [] => rfl
 | [], _ :: _ => rfl
 | _ :: _, [] => rfl
 | a :: x, b :: y => by
  have e (p q : UInt8) : Nat.blt p.toNat q.toNat = decide (p < q) := by
   rw [Bool.eq_iff_iff]
   simp [Nat.blt, UInt8.lt_iff_toNat_lt, Nat.succ_le_iff]
  simp only [qf6, e, vf x y, Op.bytesLess]
  by_cases h : a < b
  ·have hne : a ≠ b := fun e => by subst e; exact absurd h (UInt8.lt_irrefl a)
   simp [h, hne]
  ·by_cases h2 : b < a
   ·have hne : a ≠ b := fun e => by subst e; exact absurd h2 (UInt8.lt_irrefl a)
    have hb : (a == b) = false := by simp [hne]
    simp [h, h2, hne, hb]
   ·have heq : a = b := UInt8.le_antisymm (UInt8.not_lt.1 h2) (UInt8.not_lt.1 h)
    subst heq
    simp [UInt8.lt_irrefl]
theorem qiq (k : Nat) (hk : 1 ≤ k) (n : Int) (K : Bool → Prop) : (TT k).f_zc n K = K false := by
 obtain ⟨k, rfl⟩ : ∃ k', k = k' + 1 := ⟨k - 1, by omega⟩
 show F_zc (TT k) n K = _
 simp [F_zc]
theorem qkr (k : Nat) (hk : 2 ≤ k) (a b : Int) (K : Int → Prop) : (TT k).f_za a b K = K (qns a b) := by
 obtain ⟨k, rfl⟩ : ∃ k', k = k' + 1 := ⟨k - 1, by omega⟩
 show F_za (TT k) a b K = _
 simp only [F_za, qiq k (by omega), j9, qns]
 by_cases h : a < b
 ·simp [h]
 ·by_cases h2 : b < a <;> simp [h, h2]
theorem qfd (k : Nat) (hk : 3 ≤ k) (a b : ByteArray) (K : Int → Prop) : (TT k).f_z1l a b K = K (qf6 (bs a) (bs b)) := by
 obtain ⟨k, rfl⟩ : ∃ k', k = k' + 3 := ⟨k - 3, by omega⟩
 rfl
theorem qnj (k : Nat) (hk : 8 ≤ k) (a b c : Int) (K : Int → List PV → Prop) (G : Int → Prop) (hG : ∀ n l, K n l = G n) : (TT k).f_zb [PV.int .i64 a, PV.int .i64 b, PV.int .i64 c] K = G (if a ≠ 0 then a else if b ≠ 0 then b else c) := by
 obtain ⟨k, rfl⟩ : ∃ k', k = k' + 6 := ⟨k - 6, by omega⟩
 show L_zb_0 (TT (k + 5)) (k + 5) 0 3 0 [PV.int .i64 a, PV.int .i64 b, PV.int .i64 c] (fun n r => K n r) (fun n r => K n r) = _
 have w0 : W ((0 : Int) + 1) = 1 := by decide
 have w1 : W ((1 : Int) + 1) = 2 := by decide
 have w2 : W ((2 : Int) + 1) = 3 := by decide
 simp only [L_zb_0, B_zb_0, w0, w1, w2, List.length_cons, List.length_nil]
 simp [cm, hG, iv]
 by_cases ha : a = 0
 ·by_cases hb : b = 0
  ·by_cases hc : c = 0 <;> simp [ha, hb, hc]
  ·simp [ha, hb]
 ·simp [ha]
theorem S_z1p (k : Nat) (hk : 10 ≤ k) (a b : S_x6) (K : Int → Prop) : (TT k).f_z1p a b K = K (qgy a b) := by
 obtain ⟨k, rfl⟩ : ∃ k', k = k' + 1 := ⟨k - 1, by omega⟩
 show F_z1p (TT k) a b K = _
 simp only [F_z1p, qkr k (by omega), qfd k (by omega)]
 rw [qnj k (by omega) _ _ _ _ K fun _ _ => rfl]
 congr 1
 simp only [qns, qgy, vf, less]
 have e : (bs a.Text = bs b.Text) = (a.Text = b.Text) := propext ⟨zp, fun h => by rw [h]⟩
 simp only [e]
 by_cases h1 : a.Kind < b.Kind
 ·simp [h1]
 ·by_cases h2 : b.Kind < a.Kind
  ·simp [h1, h2]
  ·by_cases h3 : a.Int < b.Int
   ·simp [h1, h2, h3]
   ·by_cases h4 : b.Int < a.Int <;> simp [h1, h2, h3, h4]
theorem S_zu (k : Nat) (hk : 1 ≤ k) (a b : S_x6) (K : Int → Prop) : (TT k).f_zu a b K = K (qgy a b) := by
 obtain ⟨k, rfl⟩ : ∃ k', k = k' + 1 := ⟨k - 1, by omega⟩
 show F_zu (TT k) a b K = _
 simp only [F_zu, qca, fo]
 simp only [rk]
 show _ = K (qgy a b)
 have hl : Op.bytesLess (bs a.Text) (bs b.Text) = less a.Text b.Text := rfl
 rw [hl]
 simp only [qgy]
 by_cases h1 : a.Kind < b.Kind
 ·have : ¬ a.Kind = b.Kind := by omega
  simp [h1, this]
 ·by_cases h2 : b.Kind < a.Kind
  ·have : ¬ a.Kind = b.Kind := by omega
   simp [h1, h2, this]
  ·have e1 : a.Kind = b.Kind := by omega
   by_cases h3 : a.Int < b.Int
   ·have : ¬ a.Int = b.Int := by omega
    simp [h3, e1, this]
   ·by_cases h4 : b.Int < a.Int
    ·have : ¬ a.Int = b.Int := by omega
     simp [h3, h4, e1, this]
    ·have e2 : a.Int = b.Int := by omega
     by_cases h5 : a.Text = b.Text
     ·simp [e1, e2, h5]
     ·cases hh : less a.Text b.Text <;> simp [e1, e2, h5]
end Go.RX
namespace Go.RX
def pg (r : Row) (k : Int) : S_x6 := r.getD k.toNat ⟨0, 0, noB⟩
def InR (n : Nat) (l : List Int) : Prop := ∀ k ∈ l, 0 ≤ k ∧ k < (n : Int)
theorem InR.tail {n : Nat} {x : Int} {l : List Int} (h : InR n (x :: l)) : InR n l := fun k hk => h k (.tail _ hk)
@[simp] theorem gx (m : Bool) (r : Row) : (c9 m r).n = r.length := by simp [c9]
@[simp] theorem qrd (m : Bool) (r : Row) : (c9 m r).m = m := rfl
theorem qho {m : Bool} {r : Row} {i : Nat} (h : i < r.length) : (c9 m r).g i = qi6 (r.getD i ⟨0, 0, noB⟩) := by
 unfold c9
 rw [bt h]
 simp [List.getD, h]
theorem oh {m : Bool} {r : Row} {x : Int} (h0 : 0 ≤ x) (h1 : x < r.length) : (c9 m r).g x.toNat = qi6 (pg r x) := qho (by omega)
@[simp] theorem eh (m : Bool) (l : List Row) : (cu m l).n = l.length := by simp [cu]
@[simp] theorem qnl (m : Bool) (l : List Row) : (cu m l).m = m := rfl
theorem iu {m : Bool} {l : List Row} {i : Nat} (h : i < l.length) : (cu m l).g i = qlr m (l.getD i []) := by
 unfold cu
 rw [bt h]
 simp [List.getD, h]
@[simp] theorem jd (m : Bool) (r : Row) (K : Arr → Prop) : asA (qlr m r) K = K (c9 m r) := rfl
@[simp] theorem vb (m : Bool) (l : List Row) (K : Arr → Prop) : asA (xq m l) K = K (cu m l) := rfl
def pj (a b : Row) : List Int → Int
 | [] => 0
 | k :: l => if qgy (pg a k) (pg b k) ≠ 0 then qgy (pg a k) (pg b k) else pj a b l
theorem qgz {k : Nat} (hk : 11 ≤ k) (m1 m2 : Bool) (a b : Row) (K : Int → Prop) (l : List Int) : ∀ (pre : List PV) (n : Nat), l.length < n → pre.length + l.length < 4611686018427387904 → InR a.length l → InR b.length l →
  L_zl_0 (TT k) n (c9 m1 a) (c9 m1 b) (lst m2 (pre ++ l.map eI)) ((pre ++ l.map eI).length : Nat) (pre.length : Nat) (fun n => K n) (K 0) = K (pj a b l) := by
 induction l with
 | nil =>
  intro pre n hn _ _ _
  obtain ⟨n, rfl⟩ : ∃ n', n = n' + 1 := ⟨n - 1, by simp at hn; omega⟩
  simp [L_zl_0, B_zl_0, pj]
 | cons x l ih =>
  intro pre n hn hp ha hb
  simp only [List.length_cons] at hn hp
  obtain ⟨n, rfl⟩ : ∃ n', n = n' + 1 := ⟨n - 1, by omega⟩
  simp only [L_zl_0, B_zl_0]
  rw [bo (by omega)]
  have e := ih (pre ++ [eI x]) n (by omega) (by simp; omega) ha.tail hb.tail
  simp only [gd, gg] at e
  obtain ⟨a0, a1⟩ := ha x (.head _)
  obtain ⟨b0, b1⟩ := hb x (.head _)
  simp only [List.map_cons, ot, decide_true, db, cy, Int.natCast_nonneg, true_and, Int.toNat_natCast, m3, ia, ju, a0, a1, b0, b1, gx, oh a0 a1, oh b0 b1, eu, S_z1p k (by omega), iv]
  rw [e]
  by_cases h : qgy (pg a x) (pg b x) = 0 <;> simp [pj, h]
theorem S_zl (k : Nat) (hk : 30 ≤ k) (m1 m2 : Bool) (a b : Row) (l : List Int) (hl : l.length ≤ 8) (ha : InR a.length l) (hb : InR b.length l) (K : Int → Prop) :
  (TT k).f_zl (c9 m1 a) (c9 m1 b) (lst m2 (l.map eI)) K = K (pj a b l) := by
 obtain ⟨k, rfl⟩ : ∃ k', k = k' + 2 := ⟨k - 2, by omega⟩
 have := qgz (k := k + 1) (by omega) m1 m2 a b K l [] (k + 1) (by omega) (by simp; omega) ha hb
 exact this
theorem qd6 {k : Nat} (hk : 11 ≤ k) (m1 m2 : Bool) (a b : Row) (K : Int → Prop) (l : List Int) : ∀ (pre : List PV) (n : Nat), l.length < n → pre.length + l.length < 4611686018427387904 → InR a.length l → InR b.length l →
  L_z15_0 (TT k) n (c9 m1 a) (c9 m1 b) (lst m2 (pre ++ l.map eI)) (pre.length : Nat) (fun n => K n) (K 0) = K (pj a b l) := by
 induction l with
 | nil =>
  intro pre n hn _ _ _
  obtain ⟨n, rfl⟩ : ∃ n', n = n' + 1 := ⟨n - 1, by simp at hn; omega⟩
  simp [L_z15_0, B_z15_0, pj]
 | cons x l ih =>
  intro pre n hn hp ha hb
  simp only [List.length_cons] at hn hp
  obtain ⟨n, rfl⟩ : ∃ n', n = n' + 1 := ⟨n - 1, by omega⟩
  simp only [L_z15_0, B_z15_0]
  rw [bo (by omega)]
  have e := ih (pre ++ [eI x]) n (by omega) (by simp; omega) ha.tail hb.tail
  simp only [gd, gg] at e
  obtain ⟨a0, a1⟩ := ha x (.head _)
  obtain ⟨b0, b1⟩ := hb x (.head _)
  simp only [List.map_cons, ot, decide_true, db, cy, Int.natCast_nonneg, true_and, Int.toNat_natCast, m3, ia, ju, a0, a1, b0, b1, gx, oh a0 a1, oh b0 b1, eu, S_zu k (by omega), iv]
  rw [e]
  by_cases h : qgy (pg a x) (pg b x) = 0 <;> simp [pj, h]
theorem S_z15 (k : Nat) (hk : 30 ≤ k) (m1 m2 : Bool) (a b : Row) (l : List Int) (hl : l.length ≤ 8) (ha : InR a.length l) (hb : InR b.length l) (K : Int → Prop) :
  (TT k).f_z15 (c9 m1 a) (c9 m1 b) (lst m2 (l.map eI)) K = K (pj a b l) := by
 obtain ⟨k, rfl⟩ : ∃ k', k = k' + 2 := ⟨k - 2, by omega⟩
 have := qd6 (k := k + 1) (by omega) m1 m2 a b K l [] (k + 1) (by omega) (by simp; omega) ha hb
 exact this
def dx (v : S_x6) : Bool := decide (v.Kind = 0)
theorem pa (k : Nat) (hk : 1 ≤ k) (v : S_x6) (K : Bool → Prop) : (TT k).f_zi v K = K (dx v) := by
 obtain ⟨k, rfl⟩ : ∃ k', k = k' + 1 := ⟨k - 1, by omega⟩
 show F_zi (TT k) v K = _
 simp only [F_zi, fo, dx]
def eg (r : Row) (l : List Int) : Bool := l.any fun k => dx (pg r k)
theorem tm (l : List Int) (q : Int → Bool) : l.any q = !l.all fun x => !q x := by
 rw [Bool.eq_iff_iff]
 simp
theorem qe8 (k : Nat) (hk : 40 ≤ k) (m1 m2 : Bool) (r : Row) (l : List Int) (hl : l.length ≤ 8) (hr : InR r.length l) (K : Bool → Arr → Prop) :
  (TT k).f_z1c (lst m2 (l.map eI)) (c9 m1 r) K = K (eg r l) (c9 m1 r) := by
 obtain ⟨k, rfl⟩ : ∃ k', k = k' + 3 := ⟨k - 3, by omega⟩
 have : (TT (k + 3)).f_z1c (lst m2 (l.map eI)) (c9 m1 r) K = L_z1h_0 (TT (k + 1)) (k + 1) (lst m2 (l.map eI)) (((lst m2 (l.map eI)).n : Nat) : Int) 0 (c9 m1 r) (fun n x => K (decide (n ≥ 0)) x) (fun x => K (decide ((-1 : Int) ≥ 0)) x) := rfl
 rw [this, ke (L := fun n i => L_z1h_0 (TT (k + 1)) n (lst m2 (l.map eI)) (((lst m2 (l.map eI)).n : Nat) : Int) i (c9 m1 r) (fun n x => K (decide (n ≥ 0)) x) (fun x => K (decide ((-1 : Int) ≥ 0)) x)) (m := l.length) (F := fun n => K (decide (n ≥ 0)) (c9 m1 r)) (p := fun j => dx (pg r (l.getD j 0))) (fun n => ?_) (fun n i hi => ?_) (by omega)]
 ·rw [fi, fg]
  congr 1
  rw [da (q := fun y => !dx (pg r y)) fun j hj => by simp [List.getD, hj], eg, tm]
 ·simp [L_z1h_0, B_z1h_0]
 ·simp only [L_z1h_0, B_z1h_0]
  rw [bo (by omega)]
  have e : l.getD i 0 = l[i] := by simp [List.getD, hi]
  obtain ⟨r0, r1⟩ := hr l[i] (List.getElem_mem hi)
  simp only [Int.toNat_natCast, bt hi, ju, cy, List.length_map, Int.ofNat_lt, hi, Int.natCast_nonneg, true_and, decide_true, db, e]
  have : ∀ Z : Bool → Arr → Prop, (TT (k + 1)).f_zk l[i] (c9 m1 r) Z = Z (dx (pg r l[i])) (c9 m1 r) := fun Z => by
   show F_zk (TT k) l[i] (c9 m1 r) Z = _
   simp only [F_zk, gx, r0, r1, true_and, oh r0 r1, eu, pa k (by omega)]
  rw [this]
theorem qe9 (k : Nat) (hk : 40 ≤ k) (m1 m2 : Bool) (r : Row) (l : List Int) (hl : l.length ≤ 8) (hr : InR r.length l) (K : Bool → Arr → Prop) :
  (TT k).f_z1d (lst m2 (l.map eI)) (c9 m1 r) K = K (eg r l) (c9 m1 r) := by
 obtain ⟨k, rfl⟩ : ∃ k', k = k' + 3 := ⟨k - 3, by omega⟩
 have : (TT (k + 3)).f_z1d (lst m2 (l.map eI)) (c9 m1 r) K = L_z1i_0 (TT (k + 1)) (k + 1) (lst m2 (l.map eI)) (((lst m2 (l.map eI)).n : Nat) : Int) 0 (c9 m1 r) (fun n x => K (decide (n ≥ 0)) x) (fun x => K (decide ((-1 : Int) ≥ 0)) x) := rfl
 rw [this, ke (L := fun n i => L_z1i_0 (TT (k + 1)) n (lst m2 (l.map eI)) (((lst m2 (l.map eI)).n : Nat) : Int) i (c9 m1 r) (fun n x => K (decide (n ≥ 0)) x) (fun x => K (decide ((-1 : Int) ≥ 0)) x)) (m := l.length) (F := fun n => K (decide (n ≥ 0)) (c9 m1 r)) (p := fun j => dx (pg r (l.getD j 0))) (fun n => ?_) (fun n i hi => ?_) (by omega)]
 ·rw [fi, fg]
  congr 1
  rw [da (q := fun y => !dx (pg r y)) fun j hj => by simp [List.getD, hj], eg, tm]
 ·simp [L_z1i_0, B_z1i_0]
 ·simp only [L_z1i_0, B_z1i_0]
  rw [bo (by omega)]
  have e : l.getD i 0 = l[i] := by simp [List.getD, hi]
  obtain ⟨r0, r1⟩ := hr l[i] (List.getElem_mem hi)
  simp only [Int.toNat_natCast, bt hi, ju, cy, List.length_map, Int.ofNat_lt, hi, Int.natCast_nonneg, true_and, decide_true, db, e]
  have : ∀ Z : Bool → Arr → Prop, (TT (k + 1)).f_zh l[i] (c9 m1 r) Z = Z (dx (pg r l[i])) (c9 m1 r) := fun Z => by
   show F_zh (TT k) l[i] (c9 m1 r) Z = _
   simp only [F_zh, gx, r0, r1, true_and, oh r0 r1, eu, pa k (by omega)]
  rw [this]
theorem qks (k : Nat) (hk : 20 ≤ k) (m1 m2 : Bool) (r : Row) (l : List Int) (hl : l.length ≤ 8) (hr : InR r.length l) (K : Bool → Prop) :
  (TT k).f_z1a (c9 m1 r) (lst m2 (l.map eI)) K = K (!eg r l) := by
 obtain ⟨k, rfl⟩ : ∃ k', k = k' + 2 := ⟨k - 2, by omega⟩
 have : (TT (k + 2)).f_z1a (c9 m1 r) (lst m2 (l.map eI)) K = L_z1a_0 (TT (k + 1)) (k + 1) (c9 m1 r) (lst m2 (l.map eI)) 0 (K false) (K true) := rfl
 rw [this, cj (L := fun n i => L_z1a_0 (TT (k + 1)) n (c9 m1 r) (lst m2 (l.map eI)) i (K false) (K true)) (m := l.length) (p := fun j => !dx (pg r (l.getD j 0))) (fun n => ?_) (fun n i hi => ?_) (by omega), p2]
 ·rw [da (q := fun y => !dx (pg r y)) fun j hj => by simp [List.getD, hj], eg, tm]
  cases l.all fun y => !dx (pg r y) <;> rfl
 ·simp [L_z1a_0, B_z1a_0]
 ·simp only [L_z1a_0, B_z1a_0]
  rw [bo (by omega)]
  have e : l.getD i 0 = l[i] := by simp [List.getD, hi]
  obtain ⟨r0, r1⟩ := hr l[i] (List.getElem_mem hi)
  simp only [Int.toNat_natCast, bt hi, ju, cy, List.length_map, Int.ofNat_lt, hi, Int.natCast_nonneg, true_and, decide_true, db, e, gx, r0, r1, oh r0 r1, eu, fo]
  show _ = br (!dx (pg r l[i])) _ _
  rw [dj]
  rfl
end Go.RX
namespace Go.RX
theorem qae {L : Nat → Int → Prop} {m : Nat} {E X : Prop} {p : Nat → Bool} (h0 : ∀ n, L (n + 1) (m : Nat) = E)
  (h1 : ∀ n i : Nat, i < m → (∀ j, j < i → p j = true) → L (n + 1) i = br (p i) (L n ((i + 1 : Nat) : Int)) X) : ∀ d n i : Nat, i + d = m → d < n → (∀ j, j < i → p j = true) → L n i = br (di p i d) E X
 | 0, n + 1, i, e, _, _ => by
  have : i = m := by omega
  subst this
  rw [h0]
  rfl
 | d + 1, n + 1, i, e, hn, hp => by
  rw [h1 n i (by omega) hp]
  simp only [di]
  cases hpi : p i
  ·rfl
  ·rw [db, qae h0 h1 d n (i + 1) (by omega) (by omega) fun j hj => ?_]
   ·rfl
   ·by_cases e : j = i
    ·rw [e]; exact hpi
    ·exact hp j (by omega)
abbrev dV : S_x6 := ⟨0, 0, noB⟩
abbrev dC : S_x1 := ⟨noB, 0, false⟩
def xc (cols : List S_x1) (j : Nat) : S_x1 := cols.getD j dC
def o5 (r : Row) (j : Nat) : S_x6 := r.getD j dV
def tu (cols : List S_x1) (r : Row) : Bool := di (fun j => !((xc cols j).NotNull && dx (o5 r j))) 0 cols.length
def missing (t : Table) (r : Row) : Bool := !tu t.columns r || eg r t.key
def ym (c : S_x1) (v : S_x6) : Bool := u2 v.Kind v.Int v.Text && (dx v || decide (v.Kind = c.Type_))
def qe1 (cols : List S_x1) (r : Row) : Bool := di (fun j => ym (xc cols j) (o5 r j)) 0 r.length
def lz (t : Table) (r : Row) : Bool := decide (r.length = t.columns.length) && qe1 t.columns r && !missing t r
structure pv (t : Table) : Prop where
 cols : t.columns.length ≤ 16
 idxs : t.indexes.length ≤ 4
 key : InR t.columns.length t.key
 keyn : t.key.length ≤ 8
 idx : ∀ x ∈ t.indexes, InR t.columns.length x.columns ∧ x.columns.length ≤ 8
theorem zw {m : Bool} {t : Table} {i : Nat} (h : i < t.columns.length) : (ak m t).Columns.g i = xb (xc t.columns i) := by
 unfold xc
 simp [ak, m3, List.getD, h]
@[simp] theorem qa (m : Bool) (t : Table) : (ak m t).Columns.n = t.columns.length := by simp [ak]
@[simp] theorem sn (m : Bool) (t : Table) : (ak m t).Key = lst m (t.key.map eI) := rfl
theorem qh3 {m : Bool} {t : Table} {i : Nat} (h : i < t.indexes.length) : (ak m t).Indexes.g i = i3 m (t.indexes.getD i ⟨noB, [], false⟩) := by
 simp [ak, m3, List.getD, h]
@[simp] theorem qh4 (m : Bool) (t : Table) : (ak m t).Indexes.n = t.indexes.length := by simp [ak]
theorem ze {m : Bool} {r : Row} {i : Nat} (h : i < r.length) : (c9 m r).g i = qi6 (o5 r i) := qho h
theorem qci (k : Nat) (hk : 60 ≤ k) (m1 m2 : Bool) (t : Table) (ht : pv t) (r : Row) (hr : r.length = t.columns.length) (K : Bool → Prop) :
  (TT k).f_zj (ak m2 t) (c9 m1 r) K = K (missing t r) := by
 obtain ⟨k, rfl⟩ : ∃ k', k = k' + 2 := ⟨k - 2, by omega⟩
 have hc := ht.cols
 have : (TT (k + 2)).f_zj (ak m2 t) (c9 m1 r) K = L_zj_0 (TT (k + 1)) (k + 1) (ak m2 t).Columns (((ak m2 t).Columns.n : Nat) : Int) 0 (ak m2 t) (c9 m1 r) (K true) (fun x a => (TT (k + 1)).f_z1c x.Key a (fun b _ => K b)) := rfl
 rw [this, cj (L := fun n i => L_zj_0 (TT (k + 1)) n (ak m2 t).Columns (((ak m2 t).Columns.n : Nat) : Int) i (ak m2 t) (c9 m1 r) (K true) (fun x a => (TT (k + 1)).f_z1c x.Key a (fun b _ => K b))) (m := t.columns.length) (E := K (eg r t.key)) (X := K true) (p := fun j => !((xc t.columns j).NotNull && dx (o5 r j))) (fun n => ?_) (fun n i hi => ?_) (by omega)]
 ·rw [p2]
  unfold missing tu
  cases di (fun j => !((xc t.columns j).NotNull && dx (o5 r j))) 0 t.columns.length <;> rfl
 ·simp only [L_zj_0, B_zj_0, qa, Int.lt_irrefl, decide_false, j9, sn]
  rw [qe8 (k + 1) (by omega) m1 m2 r t.key ht.keyn (by rw [hr]; exact ht.key)]
 ·simp only [L_zj_0, B_zj_0]
  rw [bo (by omega)]
  have hi' : i < r.length := by omega
  simp only [Int.toNat_natCast, qa, Int.ofNat_lt, hi, hi', Int.natCast_nonneg, true_and, decide_true, db, zw hi, fc, gx, ze hi', eu, pa (k + 1) (by omega)]
  cases (xc t.columns i).NotNull <;> cases dx (o5 r i) <;> rfl
theorem qin (k : Nat) (hk : 60 ≤ k) (m1 m2 : Bool) (t : Table) (ht : pv t) (r : Row) (hr : r.length = t.columns.length) (K : Bool → Prop) :
  (TT k).f_z14 (ak m2 t) (c9 m1 r) K = K (missing t r) := by
 obtain ⟨k, rfl⟩ : ∃ k', k = k' + 2 := ⟨k - 2, by omega⟩
 have hc := ht.cols
 have hkn := ht.keyn
 have : (TT (k + 2)).f_z14 (ak m2 t) (c9 m1 r) K = L_z14_0 (TT (k + 1)) (k + 1) (c9 m1 r) 0 (ak m2 t) (K true) (fun a x => L_z14_2 (TT (k + 1)) (k + 1) a 0 x (K true) (K false)) := rfl
 have key : L_z14_2 (TT (k + 1)) (k + 1) (c9 m1 r) 0 (ak m2 t) (K true) (K false) = K (eg r t.key) := by
  rw [cj (L := fun n i => L_z14_2 (TT (k + 1)) n (c9 m1 r) i (ak m2 t) (K true) (K false)) (m := t.key.length) (E := K false) (X := K true) (p := fun j => !dx (pg r (t.key.getD j 0))) (fun n => ?_) (fun n i hi => ?_) (by omega), p2]
  ·rw [da (q := fun y => !dx (pg r y)) fun j hj => by simp [List.getD, hj], eg, tm]
   cases t.key.all fun y => !dx (pg r y) <;> rfl
  ·simp [L_z14_2, B_z14_2]
  ·simp only [L_z14_2, B_z14_2]
   rw [bo (by omega)]
   have e : t.key.getD i 0 = t.key[i] := by simp [List.getD, hi]
   obtain ⟨r0, r1⟩ := ht.key t.key[i] (List.getElem_mem hi)
   have r1' : t.key[i] < (r.length : Int) := by rw [hr]; exact r1
   simp only [sn, Int.toNat_natCast, bt hi, ju, cy, List.length_map, Int.ofNat_lt, hi, Int.natCast_nonneg, true_and, decide_true, db, e, gx, r0, r1', oh r0 r1', eu, fo]
   show _ = br (!dx (pg r t.key[i])) _ _
   rw [dj]
   rfl
 rw [this, cj (L := fun n i => L_z14_0 (TT (k + 1)) n (c9 m1 r) i (ak m2 t) (K true) (fun a x => L_z14_2 (TT (k + 1)) (k + 1) a 0 x (K true) (K false))) (m := t.columns.length) (E := K (eg r t.key)) (X := K true) (p := fun j => !((xc t.columns j).NotNull && dx (o5 r j))) (fun n => ?_) (fun n i hi => ?_) (by omega)]
 ·rw [p2]
  unfold missing tu
  cases di (fun j => !((xc t.columns j).NotNull && dx (o5 r j))) 0 t.columns.length <;> rfl
 ·simp only [L_z14_0, B_z14_0, gx, hr, Int.lt_irrefl, decide_false, j9]
  exact key
 ·simp only [L_z14_0, B_z14_0]
  rw [bo (by omega)]
  have hi' : i < r.length := by omega
  simp only [Int.toNat_natCast, qa, Int.ofNat_lt, hi, hi', Int.natCast_nonneg, true_and, decide_true, db, zw hi, fc, gx, ze hi', eu, fo]
  show br (dx (o5 r i)) _ _ = _
  cases (xc t.columns i).NotNull <;> cases dx (o5 r i) <;> rfl
theorem qbc (k : Nat) (hk : 70 ≤ k) (m1 m2 : Bool) (t : Table) (ht : pv t) (r : Row) (K : Bool → Prop) :
  (TT k).f_zm (ak m2 t) (c9 m1 r) K = K (lz t r) := by
 obtain ⟨k, rfl⟩ : ∃ k', k = k' + 2 := ⟨k - 2, by omega⟩
 have hc := ht.cols
 show F_zm (TT (k + 1)) (ak m2 t) (c9 m1 r) K = _
 simp only [F_zm, gx, qa, iv]
 by_cases hr : r.length = t.columns.length
 ·have hd : decide (((r.length : Nat) : Int) = ((t.columns.length : Nat) : Int)) = true := by simp [hr]
  rw [hd, Bool.not_true, j9]
  have : (TT (k + 1)).fuel = k + 1 := rfl
  rw [this, cj (L := fun n i => L_zm_0 (TT (k + 1)) n (c9 m1 r) (c9 m1 r) ((r.length : Nat) : Int) i (ak m2 t) (K false) (fun a x => (TT (k + 1)).f_zj x a (fun b => K (!b)))) (m := r.length) (E := K (!missing t r)) (X := K false) (p := fun j => ym (xc t.columns j) (o5 r j)) (fun n => ?_) (fun n i hi => ?_) (by omega), p2]
  ·simp only [lz, hr, decide_true, Bool.true_and, qe1]
   cases di (fun j => ym (xc t.columns j) (o5 r j)) 0 t.columns.length <;> rfl
  ·simp only [L_zm_0, B_zm_0, Int.lt_irrefl, decide_false, j9]
   rw [qci (k + 1) (by omega) m1 m2 t ht r hr]
  ·simp only [L_zm_0, B_zm_0]
   rw [bo (by omega)]
   have hi' : i < t.columns.length := by omega
   have hv : ∀ v Z, (TT (k + 1)).f_z1q v Z = Z (u2 v.Kind v.Int v.Text) := fun v Z => S_z1q (k + 1) (by omega) v.Kind v.Int v.Text Z
   simp only [Int.toNat_natCast, qa, Int.ofNat_lt, hi, hi', Int.natCast_nonneg, true_and, decide_true, db, zw hi', fc, gx, ze hi, eu, pa (k + 1) (by omega), hv, iv, ym]
   cases u2 (o5 r i).Kind (o5 r i).Int (o5 r i).Text <;> cases dx (o5 r i) <;> cases decide ((o5 r i).Kind = (xc t.columns i).Type_) <;> rfl
 ·have hd : decide (((r.length : Nat) : Int) = ((t.columns.length : Nat) : Int)) = false := by rw [decide_eq_false]; omega
  rw [hd, Bool.not_false, db]
  simp [lz, hr]
theorem S_z17 (k : Nat) (hk : 70 ≤ k) (m1 m2 : Bool) (t : Table) (ht : pv t) (r : Row) (K : Bool → Prop) :
  (TT k).f_z17 (ak m2 t) (c9 m1 r) K = K (lz t r) := by
 obtain ⟨k, rfl⟩ : ∃ k', k = k' + 2 := ⟨k - 2, by omega⟩
 have hc := ht.cols
 show F_z17 (TT (k + 1)) (ak m2 t) (c9 m1 r) K = _
 simp only [F_z17, gx, qa, iv]
 by_cases hr : r.length = t.columns.length
 ·have hd : decide (((r.length : Nat) : Int) = ((t.columns.length : Nat) : Int)) = true := by simp [hr]
  rw [hd, Bool.not_true, j9]
  have : (TT (k + 1)).fuel = k + 1 := rfl
  rw [this, cj (L := fun n i => L_z17_0 (TT (k + 1)) n (c9 m1 r) i (ak m2 t) (K false) (fun a x => (TT (k + 1)).f_z14 x a (fun b => K (!b)))) (m := r.length) (E := K (!missing t r)) (X := K false) (p := fun j => ym (xc t.columns j) (o5 r j)) (fun n => ?_) (fun n i hi => ?_) (by omega), p2]
  ·simp only [lz, hr, decide_true, Bool.true_and, qe1]
   cases di (fun j => ym (xc t.columns j) (o5 r j)) 0 t.columns.length <;> rfl
  ·simp only [L_z17_0, B_z17_0, gx, Int.lt_irrefl, decide_false, j9]
   rw [qin (k + 1) (by omega) m1 m2 t ht r hr]
  ·simp only [L_z17_0, B_z17_0]
   rw [bo (by omega)]
   have hi' : i < t.columns.length := by omega
   have hv : ∀ v Z, (TT (k + 1)).f_zv v Z = Z (u2 v.Kind v.Int v.Text) := fun v Z => S_zv (k + 1) (by omega) v.Kind v.Int v.Text Z
   simp only [Int.toNat_natCast, qa, Int.ofNat_lt, hi, hi', Int.natCast_nonneg, true_and, decide_true, db, zw hi', fc, gx, ze hi, eu, hv, iv, ym]
   show br _ _ (br (!dx (o5 r i)) _ _) = _
   cases u2 (o5 r i).Kind (o5 r i).Int (o5 r i).Text <;> cases dx (o5 r i) <;> cases decide ((o5 r i).Kind = (xc t.columns i).Type_) <;> rfl
 ·have hd : decide (((r.length : Nat) : Int) = ((t.columns.length : Nat) : Int)) = false := by rw [decide_eq_false]; omega
  rw [hd, Bool.not_false, db]
  simp [lz, hr]
end Go.RX
