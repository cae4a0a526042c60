/- The law in plain Lean: what a typed statement says, and what it is written back as. No condition. -/
import Derived.Test.YtmddopocbbnhlaaGreatDoorTa
set_option linter.all false
namespace Go.RX
def p7 (t : Table) (a b : Row) : Bool := decide (pj a b t.key = 0) || t.indexes.any fun x => x.unique && decide (pj a b x.columns = 0) && !eg a x.columns
def oo (l : List Row) (i : Nat) : Row := l.getD i []
def dX : Index := ⟨noB, [], false⟩
theorem zg (l : List Index) (q : Index → Bool) : di (fun j => !q (l.getD j dX)) 0 l.length = !l.any q := by
 rw [da (q := fun y => !q y) fun j hj => by simp [List.getD, hj]]
 rw [Bool.eq_iff_iff]
 simp
theorem qip (k : Nat) (hk : 80 ≤ k) (m1 m2 : Bool) (t : Table) (ht : pv t) (a b : Row) (ha : a.length = t.columns.length) (hb : b.length = t.columns.length) (K : Bool → Prop) :
  (TT k).f_zg (ak m2 t) (c9 m1 a) (c9 m1 b) K = K (p7 t a b) := by
 obtain ⟨k, rfl⟩ : ∃ k', k = k' + 2 := ⟨k - 2, by omega⟩
 have hx := ht.idxs
 show F_zg (TT (k + 1)) (ak m2 t) (c9 m1 a) (c9 m1 b) K = _
 simp only [F_zg, sn, S_zl (k + 1) (by omega) m1 m2 a b t.key ht.keyn (by rw [ha]; exact ht.key) (by rw [hb]; exact ht.key), fo]
 have : (TT (k + 1)).fuel = k + 1 := rfl
 rw [this, cj (L := fun n i => L_zg_0 (TT (k + 1)) n (c9 m1 b) (ak m2 t).Indexes (((ak m2 t).Indexes.n : Nat) : Int) i (c9 m1 a) (K true) (K false)) (m := t.indexes.length) (E := K false) (X := K true) (p := fun j => !((t.indexes.getD j dX).unique && decide (pj a b (t.indexes.getD j dX).columns = 0) && !eg a (t.indexes.getD j dX).columns)) (fun n => ?_) (fun n i hi => ?_) (by omega), p2, p2]
 ·rw [zg t.indexes fun x => x.unique && decide (pj a b x.columns = 0) && !eg a x.columns]
  unfold p7
  cases decide (pj a b t.key = 0) <;> cases t.indexes.any _ <;> rfl
 ·simp [L_zg_0, B_zg_0]
 ·simp only [L_zg_0, B_zg_0]
  rw [bo (by omega)]
  have e : t.indexes.getD i dX = t.indexes[i] := by simp [List.getD, hi]
  have hx2 := ht.idx t.indexes[i] (List.getElem_mem hi)
  simp only [Int.toNat_natCast, qh4, Int.ofNat_lt, hi, Int.natCast_nonneg, true_and, decide_true, db, qh3 hi, pc]
  have e' : t.indexes.getD i ⟨noB, [], false⟩ = t.indexes[i] := e
  rw [e, e']
  have hc : (dd m2 t.indexes[i]).Columns = lst m2 (t.indexes[i].columns.map eI) := rfl
  have hu : (dd m2 t.indexes[i]).Unique = t.indexes[i].unique := rfl
  simp only [hc, hu, S_zl (k + 1) (by omega) m1 m2 a b t.indexes[i].columns hx2.2 (by rw [ha]; exact hx2.1) (by rw [hb]; exact hx2.1), fo, qe9 (k + 1) (by omega) m1 m2 a t.indexes[i].columns hx2.2 (by rw [ha]; exact hx2.1)]
  cases t.indexes[i].unique <;> cases decide (pj a b t.indexes[i].columns = 0) <;> cases eg a t.indexes[i].columns <;> rfl
theorem qfb (k : Nat) (hk : 80 ≤ k) (m1 m2 : Bool) (t : Table) (ht : pv t) (a b : Row) (ha : a.length = t.columns.length) (hb : b.length = t.columns.length) (K : Bool → Prop) :
  (TT k).f_z19 (ak m2 t) (c9 m1 a) (c9 m1 b) K = K (p7 t a b) := by
 obtain ⟨k, rfl⟩ : ∃ k', k = k' + 2 := ⟨k - 2, by omega⟩
 have hx := ht.idxs
 show F_z19 (TT (k + 1)) (ak m2 t) (c9 m1 a) (c9 m1 b) K = _
 simp only [F_z19, sn, S_z15 (k + 1) (by omega) m1 m2 a b t.key ht.keyn (by rw [ha]; exact ht.key) (by rw [hb]; exact ht.key), fo]
 have : (TT (k + 1)).fuel = k + 1 := rfl
 rw [this, cj (L := fun n i => L_z19_0 (TT (k + 1)) n (c9 m1 a) (c9 m1 b) i (ak m2 t) (K true) (K false)) (m := t.indexes.length) (E := K false) (X := K true) (p := fun j => !((t.indexes.getD j dX).unique && decide (pj a b (t.indexes.getD j dX).columns = 0) && !eg a (t.indexes.getD j dX).columns)) (fun n => ?_) (fun n i hi => ?_) (by omega), p2, p2]
 ·rw [zg t.indexes fun x => x.unique && decide (pj a b x.columns = 0) && !eg a x.columns]
  unfold p7
  cases decide (pj a b t.key = 0) <;> cases t.indexes.any _ <;> rfl
 ·simp [L_z19_0, B_z19_0]
 ·simp only [L_z19_0, B_z19_0]
  rw [bo (by omega)]
  have e : t.indexes.getD i dX = t.indexes[i] := by simp [List.getD, hi]
  have hx2 := ht.idx t.indexes[i] (List.getElem_mem hi)
  simp only [Int.toNat_natCast, qh4, Int.ofNat_lt, hi, Int.natCast_nonneg, true_and, decide_true, db, qh3 hi, pc]
  have e' : t.indexes.getD i ⟨noB, [], false⟩ = t.indexes[i] := e
  rw [e, e']
  have hc : (dd m2 t.indexes[i]).Columns = lst m2 (t.indexes[i].columns.map eI) := rfl
  have hu : (dd m2 t.indexes[i]).Unique = t.indexes[i].unique := rfl
  simp only [hc, hu, S_z15 (k + 1) (by omega) m1 m2 a b t.indexes[i].columns hx2.2 (by rw [ha]; exact hx2.1) (by rw [hb]; exact hx2.1), fo, qks (k + 1) (by omega) m1 m2 a t.indexes[i].columns hx2.2 (by rw [ha]; exact hx2.1)]
  cases t.indexes[i].unique <;> cases decide (pj a b t.indexes[i].columns = 0) <;> cases eg a t.indexes[i].columns <;> rfl
def apart (t : Table) (l : List Row) (i j : Nat) : Bool := !p7 t (oo l i) (oo l j)
def fk (t : Table) (l : List Row) : Bool := di (fun i => di (apart t l i) 0 i) 0 l.length
theorem la {l : List Row} {i : Nat} (h : i < l.length) : oo l i ∈ l := by
 unfold oo
 simp [List.getD, h]
theorem sb (k M : Nat) (hM : M < 4611686018427387904) (hk : M + 90 ≤ k) (m1 m2 : Bool) (t : Table) (ht : pv t) (l : List Row) (hl : l.length ≤ M) (hr : ∀ r ∈ l, r.length = t.columns.length) (K : Bool → Prop) :
  (TT k).f_zn (ak m2 t) (cu m1 l) K = K (fk t l) := by
 obtain ⟨k, rfl⟩ : ∃ k', k = k' + 2 := ⟨k - 2, by omega⟩
 have hfu : (TT (k + 1)).fuel = k + 1 := rfl
 have : (TT (k + 2)).f_zn (ak m2 t) (cu m1 l) K = L_zn_0 (TT (k + 1)) (k + 1) (cu m1 l) (cu m1 l) ((l.length : Nat) : Int) 0 (ak m2 t) (K false) (K true) := by
  show F_zn (TT (k + 1)) (ak m2 t) (cu m1 l) K = _
  simp only [F_zn, eh, hfu]
 rw [this, cj (L := fun n i => L_zn_0 (TT (k + 1)) n (cu m1 l) (cu m1 l) ((l.length : Nat) : Int) i (ak m2 t) (K false) (K true)) (m := l.length) (E := K true) (X := K false) (p := fun i => di (apart t l i) 0 i) (fun n => ?_) (fun n i hi => ?_) (by omega), p2]
 ·unfold fk
  cases di (fun i => di (apart t l i) 0 i) 0 l.length <;> rfl
 ·simp [L_zn_0, B_zn_0]
 ·simp only [L_zn_0, B_zn_0]
  have hsz : (∀ j, j < (cu m1 l).n → cf ((cu m1 l).g j) = 1) := fun j hj => by
   rw [eh] at hj
   rw [iu hj]; rfl
  have hle : ((i : Nat) : Int) ≤ ((l.length : Nat) : Int) := by omega
  simp only [Int.toNat_natCast, eh, Int.ofNat_lt, hi, Int.natCast_nonneg, true_and, decide_true, db, iu hi, jd, qbh (show (∀ j, j < l.length → cf ((cu m1 l).g j) = 1) from fun j hj => hsz j (by rw [eh]; exact hj)), Int.le_refl, hle, hfu, Int.toNat_zero, Nat.sub_zero, Nat.zero_add]
  rw [cj (L := fun q j => L_zn_2 (TT (k + 1)) q (cu m1 l) (c9 m1 (l.getD i [])) (cu m1 l) ((l.length : Nat) : Int) ((i : Nat) : Int) ⟨(cu m1 l).m, i, fun j => (cu m1 l).g j⟩ ((i : Nat) : Int) j (ak m2 t) (K false) (fun a35 a36 n37 n38 x39 => L_zn_0 (TT (k + 1)) n a35 a36 n37 (W (n38 + 1)) x39 (K false) (K true))) (m := i) (E := L_zn_0 (TT (k + 1)) n (cu m1 l) (cu m1 l) ((l.length : Nat) : Int) ((i + 1 : Nat) : Int) (ak m2 t) (K false) (K true)) (X := K false) (p := apart t l i) (fun n' => ?_) (fun n' j hj => ?_) (by omega)]
  ·simp only [L_zn_2, B_zn_2, Int.lt_irrefl, decide_false, j9]
   rw [bo (by omega)]
  ·have hj' : j < l.length := by omega
   simp only [L_zn_2, B_zn_2]
   rw [bo (by omega)]
   simp only [Int.toNat_natCast, Int.ofNat_lt, hj, Int.natCast_nonneg, true_and, decide_true, db, iu hj', jd]
   rw [qip (k + 1) (by omega) m1 m2 t ht (l.getD i []) (l.getD j []) (hr _ (la hi)) (hr _ (la hj'))]
   show _ = br (!p7 t (oo l i) (oo l j)) _ _
   rw [dj]
   rfl
theorem xe (k M : Nat) (hM : M < 4611686018427387904) (hk : M + 90 ≤ k) (m1 m2 : Bool) (t : Table) (ht : pv t) (l : List Row) (hl : l.length ≤ M) (hr : ∀ r ∈ l, r.length = t.columns.length) (K : Bool → Prop) :
  (TT k).f_z18 (ak m2 t) (cu m1 l) K = K (fk t l) := by
 obtain ⟨k, rfl⟩ : ∃ k', k = k' + 2 := ⟨k - 2, by omega⟩
 have hfu : (TT (k + 1)).fuel = k + 1 := rfl
 have : (TT (k + 2)).f_z18 (ak m2 t) (cu m1 l) K = L_z18_0 (TT (k + 1)) (k + 1) (cu m1 l) 0 (ak m2 t) (K false) (K true) := rfl
 rw [this, cj (L := fun n i => L_z18_0 (TT (k + 1)) n (cu m1 l) i (ak m2 t) (K false) (K true)) (m := l.length) (E := K true) (X := K false) (p := fun i => di (apart t l i) 0 i) (fun n => ?_) (fun n i hi => ?_) (by omega), p2]
 ·unfold fk
  cases di (fun i => di (apart t l i) 0 i) 0 l.length <;> rfl
 ·simp [L_z18_0, B_z18_0]
 ·simp only [L_z18_0, B_z18_0, eh, Int.ofNat_lt, hi, decide_true, db, hfu]
  rw [cj (L := fun q j => L_z18_2 (TT (k + 1)) q (cu m1 l) ((i : Nat) : Int) j (ak m2 t) (K false) (fun a21 n22 x23 => L_z18_0 (TT (k + 1)) n a21 (W (n22 + 1)) x23 (K false) (K true))) (m := i) (E := L_z18_0 (TT (k + 1)) n (cu m1 l) ((i + 1 : Nat) : Int) (ak m2 t) (K false) (K true)) (X := K false) (p := apart t l i) (fun n' => ?_) (fun n' j hj => ?_) (by omega)]
  ·simp only [L_z18_2, B_z18_2, Int.lt_irrefl, decide_false, j9]
   rw [bo (by omega)]
  ·have hj' : j < l.length := by omega
   simp only [L_z18_2, B_z18_2]
   rw [bo (by omega)]
   simp only [Int.toNat_natCast, Int.ofNat_lt, hi, hj, hj', eh, Int.natCast_nonneg, true_and, decide_true, db, iu hj', iu hi, jd]
   rw [qfb (k + 1) (by omega) m1 m2 t ht (l.getD i []) (l.getD j []) (hr _ (la hi)) (hr _ (la hj'))]
   show _ = br (!p7 t (oo l i) (oo l j)) _ _
   rw [dj]
   rfl
end Go.RX
namespace Go.RX
theorem qmt {t : Table} (h : dp t = true) : pv t := by
 simp only [dp, Bool.and_eq_true, decide_eq_true_eq] at h
 obtain ⟨⟨⟨⟨⟨⟨⟨⟨_, _⟩, h1⟩, h2⟩, _⟩, h3⟩, _⟩, _⟩, h4⟩ := h
 refine ⟨h1, h2, m9 h3, s5 h3, fun x hx => ?_⟩
 rw [nz] at h4
 have := h4.1 x hx
 simp only [qbt, Bool.and_eq_true] at this
 exact ⟨m9 this.2, s5 this.2⟩
theorem qcy {c : cg} (h : cn c = true) : ∀ t ∈ c.tables, pv t := by
 simp only [cn, Bool.and_eq_true] at h
 intro t ht
 have := (nz.1 h.1.2).1 t ht
 simp only [qcb, Bool.and_eq_true] at this
 exact qmt this.2
theorem jf {c : cg} (h : cn c = true) : c.tables.length ≤ 8 := by
 simp only [cn, Bool.and_eq_true, decide_eq_true_eq] at h
 exact h.1.1.1
def qy (t : Table) (l : List Row) (j : Nat) : Bool := decide (pj (oo l j) (oo l (j + 1)) t.key < 0)
def kx (t : Table) (l : List Row) : Bool := di (qy t l) 0 (l.length - 1)
def l6 (t : Table) (l : List Row) : Bool := di (fun i => lz t (oo l i)) 0 l.length
def mg (t : Table) (l : List Row) : Bool := l6 t l && kx t l && fk t l
def dT : Table := ⟨noB, [], [], 0, []⟩
def j2 (c : cg) (i : Nat) : Table := c.tables.getD i dT
def fh (s : List (List Row)) (i : Nat) : List Row := s.getD i []
def jr (c : cg) (s : List (List Row)) : Bool := cn c && decide (s.length = c.tables.length) && di (fun i => mg (j2 c i) (fh s i)) 0 c.tables.length
theorem qaw {t : Table} {l : List Row} (h : l6 t l = true) : ∀ r ∈ l, r.length = t.columns.length := by
 intro r hr
 obtain ⟨i, hi, rfl⟩ := List.getElem_of_mem hr
 have := kz.1 h i (Nat.zero_le _) (by omega)
 simp only [oo, List.getD, List.getElem?_eq_getElem hi, Option.getD_some, lz, Bool.and_eq_true, decide_eq_true_eq] at this
 exact this.1.1
theorem qe6 (k M : Nat) (hM : M < 4611686018427387904) (hk : M + 100 ≤ k) (m1 m2 : Bool) (t : Table) (ht : pv t) (l : List Row) (hl : l.length ≤ M) (K : Bool → S_x5 → Prop) :
  (TT k).f_z1b (cu m1 l) (ak m2 t) K = K (!l6 t l) (ak m2 t) := by
 obtain ⟨k, rfl⟩ : ∃ k', k = k' + 3 := ⟨k - 3, by omega⟩
 have : (TT (k + 3)).f_z1b (cu m1 l) (ak m2 t) K = L_z1g_0 (TT (k + 1)) (k + 1) (cu m1 l) (((cu m1 l).n : Nat) : Int) 0 (ak m2 t) (fun n x => K (decide (n ≥ 0)) x) (fun x => K (decide ((-1 : Int) ≥ 0)) x) := rfl
 rw [this, ke (L := fun n i => L_z1g_0 (TT (k + 1)) n (cu m1 l) (((cu m1 l).n : Nat) : Int) i (ak m2 t) (fun n x => K (decide (n ≥ 0)) x) (fun x => K (decide ((-1 : Int) ≥ 0)) x)) (m := l.length) (F := fun n => K (decide (n ≥ 0)) (ak m2 t)) (p := fun j => !lz t (oo l j)) (fun n => ?_) (fun n i hi => ?_) (by omega)]
 ·rw [fi, fg]
  congr 1
  unfold l6
  congr 1
  exact sc fun j _ _ => by simp
 ·simp [L_z1g_0, B_z1g_0]
 ·simp only [L_z1g_0, B_z1g_0]
  rw [bo (by omega)]
  have h1 : ∀ Z : Bool → S_x5 → Prop, (TT (k + 1)).f_zf (c9 m1 (l.getD i [])) (ak m2 t) Z = Z (!lz t (oo l i)) (ak m2 t) := fun Z => by
   show F_zf (TT k) (c9 m1 (l.getD i [])) (ak m2 t) Z = _
   simp only [F_zf, qbc k (by omega) m1 m2 t ht]
   rfl
  simp only [Int.toNat_natCast, eh, Int.ofNat_lt, hi, Int.natCast_nonneg, true_and, decide_true, db, iu hi, jd, h1]
theorem u1 {m : Bool} {c : cg} {i : Nat} (h : i < c.tables.length) : (az m c).Tables.g i = i4 m (j2 c i) := by
 simp [az, m3, List.getD, h, j2]
@[simp] theorem ir (m : Bool) (c : cg) : (az m c).Tables.n = c.tables.length := by simp [az]
theorem qeu {m : Bool} {s : List (List Row)} {i : Nat} (h : i < s.length) : (de m s).Tables.g i = xq m (fh s i) := by
 simp [de, m3, List.getD, h, fh]
@[simp] theorem uz (m : Bool) (s : List (List Row)) : (de m s).Tables.n = s.length := by simp [de]
theorem qac {c : cg} {i : Nat} (h : i < c.tables.length) : j2 c i ∈ c.tables := by
 unfold j2
 simp [List.getD, h]
theorem qab {s : List (List Row)} {i : Nat} (h : i < s.length) : fh s i ∈ s := by
 unfold fh
 simp [List.getD, h]
theorem S_ze (k M : Nat) (hM : M < 4611686018427387904) (hk : M + 120 ≤ k) (m1 m2 : Bool) (c : cg) (hc : c.Fits M) (s : List (List Row)) (hs : ∀ l ∈ s, l.length ≤ M) (hs2 : s.length ≤ M) (K : Bool → Prop) :
  (TT k).f_ze (az m2 c) (de m1 s) K = K (jr c s) := by
 obtain ⟨k, rfl⟩ : ∃ k', k = k' + 2 := ⟨k - 2, by omega⟩
 have hfu : (TT (k + 1)).fuel = k + 1 := rfl
 show F_ze (TT (k + 1)) (az m2 c) (de m1 s) K = _
 simp only [F_ze, S_z0 (k + 1) M hM (by omega) m2 c hc, ir, uz, iv, hfu]
 cases hr : cn c with
 | false => simp [jr, hr]
 | true =>
  rw [Bool.not_true, j9]
  by_cases hsc : s.length = c.tables.length
  ·have hd : decide (((s.length : Nat) : Int) = ((c.tables.length : Nat) : Int)) = true := by simp [hsc]
   rw [hd, Bool.not_true, j9]
   rw [cj (L := fun n i => L_ze_0 (TT (k + 1)) n (az m2 c).Tables ((c.tables.length : Nat) : Int) i (de m1 s) (K false) (K true)) (m := c.tables.length) (E := K true) (X := K false) (p := fun i => mg (j2 c i) (fh s i)) (fun n => ?_) (fun n i hi => ?_) (by have := jf hr; omega), p2]
   ·simp only [jr, hr, hsc, decide_true, Bool.true_and]
    cases di (fun i => mg (j2 c i) (fh s i)) 0 c.tables.length <;> rfl
   ·simp [L_ze_0, B_ze_0]
   ·have hi' : i < s.length := by omega
    have ht := qcy hr _ (qac hi)
    have hl := hs _ (qab hi')
    simp only [L_ze_0, B_ze_0, Int.toNat_natCast, ir, uz, Int.ofNat_lt, hi, hi', Int.natCast_nonneg, true_and, decide_true, db, u1 hi, mm, qeu hi', vb, qe6 (k + 1) M hM (by omega) m1 m2 _ ht _ hl, dj, hfu]
    unfold mg
    cases hro : l6 (j2 c i) (fh s i) with
    | false => rfl
    | true =>
     rw [db, Bool.true_and]
     have hrl := qaw hro
     by_cases h0 : (fh s i).length = 0
     ·have hw : W ((((cu m1 (fh s i)).n : Nat) : Int) - 1) = -1 := by
       rw [eh, h0]; decide
      rw [hw]
      have hex : ∀ (Z : Arr → Arr → Int → Int → S_x4 → S_x5 → Prop), L_ze_2 (TT (k + 1)) (k + 1) (cu m1 (fh s i)) (az m2 c).Tables ((c.tables.length : Nat) : Int) ((i : Nat) : Int) (-1) 0 (de m1 s) (ak m2 (j2 c i)) (K false) Z = Z (cu m1 (fh s i)) (az m2 c).Tables ((c.tables.length : Nat) : Int) ((i : Nat) : Int) (de m1 s) (ak m2 (j2 c i)) := fun Z => by
       simp [L_ze_2, B_ze_2]
      rw [hex]
      rw [sb (k + 1) M hM (by omega) m1 m2 _ ht _ hl hrl, bo (by have := jf hr; omega)]
      have : kx (j2 c i) (fh s i) = true := by simp [kx, h0, di]
      rw [this, Bool.true_and]
     ·have hw : W ((((cu m1 (fh s i)).n : Nat) : Int) - 1) = (((fh s i).length - 1 : Nat) : Int) := by
       rw [eh, qnk] <;> omega
      rw [hw]
      rw [cj (L := fun q j => L_ze_2 (TT (k + 1)) q (cu m1 (fh s i)) (az m2 c).Tables ((c.tables.length : Nat) : Int) ((i : Nat) : Int) (((fh s i).length - 1 : Nat) : Int) j (de m1 s) (ak m2 (j2 c i)) (K false) (fun a43 a44 n45 n46 x47 x48 => (TT (k + 1)).f_zn x48 a43 (fun _b2 => br _b2 (L_ze_0 (TT (k + 1)) n a44 n45 (W (n46 + (1 : Int))) x47 (K false) (K true)) (K false)))) (m := (fh s i).length - 1) (E := br (fk (j2 c i) (fh s i)) (L_ze_0 (TT (k + 1)) n (az m2 c).Tables ((c.tables.length : Nat) : Int) ((i + 1 : Nat) : Int) (de m1 s) (K false) (K true)) (K false)) (X := K false) (p := qy (j2 c i) (fh s i)) (fun q => ?_) (fun q j hj => ?_) (by omega)]
      ·show br (kx _ _) _ _ = _
       cases kx (j2 c i) (fh s i) <;> rfl
      ·simp only [L_ze_2, B_ze_2, Int.lt_irrefl, decide_false, j9]
       rw [sb (k + 1) M hM (by omega) m1 m2 _ ht _ hl hrl, bo (by have := jf hr; omega)]
      ·have hj1 : j < (fh s i).length := by omega
       have hj2 : j + 1 < (fh s i).length := by omega
       simp only [L_ze_2, B_ze_2]
       rw [bo (by omega)]
       simp only [Int.toNat_natCast, Int.ofNat_lt, hj, hj1, hj2, eh, Int.natCast_nonneg, true_and, decide_true, db, iu hj1, iu hj2, jd, sn]
       have l1 : ((fh s i).getD j []).length = (j2 c i).columns.length := hrl _ (la hj1)
       have l2 : ((fh s i).getD (j + 1) []).length = (j2 c i).columns.length := hrl _ (la hj2)
       rw [S_zl (k + 1) (by omega) m1 m2 _ _ _ ht.keyn (by rw [l1]; exact ht.key) (by rw [l2]; exact ht.key)]
       have e : decide (pj ((fh s i).getD j []) ((fh s i).getD (j + 1) []) (j2 c i).key ≥ 0) = !qy (j2 c i) (fh s i) j := by
        unfold qy oo
        rw [← decide_not]
        exact decide_eq_decide.2 (by omega)
       rw [e, dj]
  ·have hd : decide (((s.length : Nat) : Int) = ((c.tables.length : Nat) : Int)) = false := by rw [decide_eq_false]; omega
   rw [hd, Bool.not_false, db]
   simp [jr, hsc]
theorem qdf {L : Nat → Int → Prop} {m : Nat} {E X : Prop} {p : Nat → Bool} (h0 : ∀ n, L (n + 1) (m : Nat) = E)
  (h1 : ∀ n i : Nat, i < m → (∀ j, j < i → p j = true) → L (n + 1) i = br (p i) (L n ((i + 1 : Nat) : Int)) X) {n : Nat} (hn : m < n) : L n 0 = br (di p 0 m) E X :=
 qae h0 h1 m n 0 (by omega) hn fun j hj => by omega
def rowAt (t : Table) (l : List Row) (i : Nat) : Bool := lz t (oo l i) && (decide (i = 0) || decide (pj (oo l (i - 1)) (oo l i) t.key < 0))
theorem qd7 (t : Table) (l : List Row) : di (rowAt t l) 0 l.length = (l6 t l && kx t l) := by
 rw [Bool.eq_iff_iff, Bool.and_eq_true]
 unfold l6 kx
 simp only [kz, rowAt, qy, Bool.and_eq_true, Bool.or_eq_true, decide_eq_true_eq]
 constructor
 ·intro h
  refine ⟨fun j _ hj => (h j (Nat.zero_le _) hj).1, fun j _ hj => ?_⟩
  rcases (h (j + 1) (Nat.zero_le _) (by omega)).2 with e | e
  ·omega
  ·simpa using e
 ·rintro ⟨h1, h2⟩ j _ hj
  refine ⟨h1 j (Nat.zero_le _) hj, ?_⟩
  by_cases e : j = 0
  ·exact .inl e
  ·refine .inr ?_
   have := h2 (j - 1) (Nat.zero_le _) (by omega)
   rwa [show j - 1 + 1 = j by omega] at this
theorem S_z16 (k M : Nat) (hM : M < 4611686018427387904) (hk : M + 120 ≤ k) (m1 m2 : Bool) (c : cg) (hc : c.Fits M) (s : List (List Row)) (hs : ∀ l ∈ s, l.length ≤ M) (hs2 : s.length ≤ M) (K : Bool → Prop) :
  (TT k).f_z16 (az m2 c) (de m1 s) K = K (jr c s) := by
 obtain ⟨k, rfl⟩ : ∃ k', k = k' + 2 := ⟨k - 2, by omega⟩
 have hfu : (TT (k + 1)).fuel = k + 1 := rfl
 show F_z16 (TT (k + 1)) (az m2 c) (de m1 s) K = _
 simp only [F_z16, S_zz (k + 1) M hM (by omega) m2 c hc, ir, uz, iv, hfu]
 cases hr : cn c with
 | false => simp [jr, hr]
 | true =>
  rw [Bool.not_true, j9]
  by_cases hsc : s.length = c.tables.length
  ·have hd : decide (((s.length : Nat) : Int) = ((c.tables.length : Nat) : Int)) = true := by simp [hsc]
   rw [hd, Bool.not_true, j9]
   rw [cj (L := fun n i => L_z16_0 (TT (k + 1)) n i (az m2 c) (de m1 s) (K false) (K true)) (m := c.tables.length) (E := K true) (X := K false) (p := fun i => mg (j2 c i) (fh s i)) (fun n => ?_) (fun n i hi => ?_) (by have := jf hr; omega), p2]
   ·simp only [jr, hr, hsc, decide_true, Bool.true_and]
    cases di (fun i => mg (j2 c i) (fh s i)) 0 c.tables.length <;> rfl
   ·simp [L_z16_0, B_z16_0]
   ·have hi' : i < s.length := by omega
    have ht := qcy hr _ (qac hi)
    have hl := hs _ (qab hi')
    simp only [L_z16_0, B_z16_0, Int.toNat_natCast, ir, uz, Int.ofNat_lt, hi, hi', Int.natCast_nonneg, true_and, decide_true, db, qeu hi', vb, hfu]
    rw [qdf (L := fun q j => L_z16_2 (TT (k + 1)) q ((i : Nat) : Int) (cu m1 (fh s i)) j (az m2 c) (de m1 s) (K false) (fun n47 a48 x49 x50 => 0 ≤ n47 ∧ n47 < ((x49.Tables.n : Nat) : Int) ∧ as_x5 (x49.Tables.g (n47.toNat)) fun x51 => (TT (k + 1)).f_z18 x51 a48 (fun _b1 => br (!_b1) (K false) (L_z16_0 (TT (k + 1)) n (W (n47 + (1 : Int))) x49 x50 (K false) (K true))))) (m := (fh s i).length) (E := br (l6 (j2 c i) (fh s i)) (br (fk (j2 c i) (fh s i)) (L_z16_0 (TT (k + 1)) n ((i + 1 : Nat) : Int) (az m2 c) (de m1 s) (K false) (K true)) (K false)) (L_z16_2 (TT (k + 1)) 1 ((i : Nat) : Int) (cu m1 (fh s i)) (((fh s i).length : Nat) : Int) (az m2 c) (de m1 s) (K false) (fun n47 a48 x49 x50 => 0 ≤ n47 ∧ n47 < ((x49.Tables.n : Nat) : Int) ∧ as_x5 (x49.Tables.g (n47.toNat)) fun x51 => (TT (k + 1)).f_z18 x51 a48 (fun _b1 => br (!_b1) (K false) (L_z16_0 (TT (k + 1)) n (W (n47 + (1 : Int))) x49 x50 (K false) (K true)))))) (X := K false) (p := rowAt (j2 c i) (fh s i)) (fun q => ?_) (fun q j hj hp => ?_) (by omega)]
    ·rw [qd7]
     unfold mg
     cases l6 (j2 c i) (fh s i) <;> cases kx (j2 c i) (fh s i) <;> cases fk (j2 c i) (fh s i) <;> rfl
    ·cases hro : l6 (j2 c i) (fh s i) with
     | false =>
      rw [j9]
      simp only [L_z16_2, B_z16_2, eh, Int.lt_irrefl, decide_false, j9]
     | true =>
      rw [db]
      simp only [L_z16_2, B_z16_2, eh, Int.lt_irrefl, decide_false, j9, Int.toNat_natCast, ir, Int.ofNat_lt, hi, Int.natCast_nonneg, true_and, u1 hi, mm]
      rw [xe (k + 1) M hM (by omega) m1 m2 _ ht _ hl (qaw hro), bo (by have := jf hr; omega), dj]
    ·simp only [L_z16_2, B_z16_2]
     rw [bo (by omega)]
     simp only [Int.toNat_natCast, Int.ofNat_lt, hi, hj, eh, ir, Int.natCast_nonneg, true_and, decide_true, db, iu hj, u1 hi, mm, jd, sn]
     rw [S_z17 (k + 1) (by omega) m1 m2 _ ht]
     show br (!lz (j2 c i) (oo (fh s i) j)) _ _ = _
     rw [dj]
     unfold rowAt
     cases hro : lz (j2 c i) (oo (fh s i) j) with
     | false => rfl
     | true =>
      rw [db, Bool.true_and]
      by_cases h0 : j = 0
      ·subst h0
       simp
      ·have hd : decide (((j : Nat) : Int) > 0) = true := by rw [decide_eq_true_eq]; omega
       have hw : W (((j : Nat) : Int) - 1) = ((j - 1 : Nat) : Int) := by rw [qnk] <;> omega
       have hj1 : j - 1 < (fh s i).length := by omega
       have hb : lz (j2 c i) (oo (fh s i) (j - 1)) = true := by
        have := hp (j - 1) (by omega)
        simp only [rowAt, Bool.and_eq_true] at this
        exact this.1
       have l1 : (oo (fh s i) (j - 1)).length = (j2 c i).columns.length := by
        simp only [lz, Bool.and_eq_true, decide_eq_true_eq] at hb
        exact hb.1.1
       have l2 : (oo (fh s i) j).length = (j2 c i).columns.length := by
        simp only [lz, Bool.and_eq_true, decide_eq_true_eq] at hro
        exact hro.1.1
       rw [hd, db, hw]
       simp only [Int.toNat_natCast, Int.ofNat_lt, hj1, Int.natCast_nonneg, true_and, iu hj1, jd]
       have l1' : ((fh s i).getD (j - 1) []).length = (j2 c i).columns.length := l1
       have l2' : ((fh s i).getD j []).length = (j2 c i).columns.length := l2
       rw [S_z15 (k + 1) (by omega) m1 m2 _ _ _ ht.keyn (by rw [l1']; exact ht.key) (by rw [l2']; exact ht.key)]
       have hz : decide (j = 0) = false := decide_eq_false h0
       rw [hz, Bool.false_or]
       have e : decide (pj ((fh s i).getD (j - 1) []) ((fh s i).getD j []) (j2 c i).key ≥ 0) = !decide (pj (oo (fh s i) (j - 1)) (oo (fh s i) j) (j2 c i).key < 0) := by
        unfold oo
        rw [← decide_not]
        exact decide_eq_decide.2 (by omega)
       rw [e, dj]
  ·have hd : decide (((s.length : Nat) : Int) = ((c.tables.length : Nat) : Int)) = false := by rw [decide_eq_false]; omega
   rw [hd, Bool.not_false, db]
   simp [jr, hsc]
end Go.RX
namespace Go.RX
theorem qbd (k : Nat) (hk : 3 ≤ k) (K : Bool → Prop) : (TT k).f_zs (lst true []) (lst true []) K = K true := by
 obtain ⟨k, rfl⟩ : ∃ k', k = k' + 2 := ⟨k - 2, by omega⟩
 show F_zs (TT (k + 1)) (lst true []) (lst true []) K = _
 have hfu : (TT (k + 1)).fuel = k + 1 := rfl
 simp [F_zs, hfu, L_zs_0, B_zs_0]
def blank (n : Nat) : S_x4 := ⟨lst true (List.replicate n (qht (lst true [])))⟩
theorem qiv {n i : Nat} (h : i < n) : (blank n).Tables.g i = qht (lst true []) := by
 simp [blank, m3, List.getD, h]
@[simp] theorem qiw (n : Nat) : (blank n).Tables.n = n := by simp [blank]
theorem qfc (k n : Nat) (hn : n ≤ 8) (hk : 20 ≤ k) (K : Bool → Prop) : (TT k).f_zt (blank n) (blank n) K = K true := by
 obtain ⟨k, rfl⟩ : ∃ k', k = k' + 2 := ⟨k - 2, by omega⟩
 show F_zt (TT (k + 1)) (blank n) (blank n) K = _
 have hfu : (TT (k + 1)).fuel = k + 1 := rfl
 simp only [F_zt, hfu, iv, decide_true, Bool.not_true, j9]
 rw [cj (L := fun q i => L_zt_0 (TT (k + 1)) q i (blank n) (blank n) (K false) (K true)) (m := n) (E := K true) (X := K false) (p := fun _ => true) (fun q => ?_) (fun q i hi => ?_) (by omega)]
 ·rw [kz.2 fun _ _ _ => rfl, db]
 ·simp [L_zt_0, B_zt_0]
 ·simp only [L_zt_0, B_zt_0]
  rw [bo (by omega)]
  simp only [Int.toNat_natCast, qiw, Int.ofNat_lt, hi, Int.natCast_nonneg, true_and, decide_true, db, qiv hi, qfi, qbd (k + 1) (by omega), Bool.not_true, j9]
theorem qim (k M : Nat) (hM : M < 4611686018427387904) (hk : M + 100 ≤ k) (m : Bool) (c : cg) (hc : c.Fits M) (K : S_x4 → Prop) :
  (TT k).f_zd (az m c) K = K (blank (bif cn c then c.tables.length else 0)) := by
 obtain ⟨k, rfl⟩ : ∃ k', k = k' + 1 := ⟨k - 1, by omega⟩
 show F_zd (TT k) (az m c) K = _
 simp only [F_zd, S_z0 k M hM (by omega) m c hc, ir]
 cases hr : cn c with
 | false => rfl
 | true =>
  have := jf hr
  rw [Bool.not_true, j9, qbh trivial, qbh (Int.natCast_nonneg _), qbh (by omega), qbh (by omega)]
  rfl
theorem zy {k : Nat} (c : cg) (m : Bool) (K : List PV → Prop) (hl : c.tables.length ≤ 8) : ∀ (d n i : Nat), i + d = c.tables.length → d < n →
  L_z13_0 (TT k) n true (i : Nat) (az m c) (List.replicate i (qht (lst true []))) K = K (List.replicate c.tables.length (qht (lst true [])))
 | 0, n + 1, i, e, _ => by
  have : i = c.tables.length := by omega
  subst this
  simp [L_z13_0, B_z13_0]
 | d + 1, n + 1, i, e, hn => by
  have hi : i < c.tables.length := by omega
  simp only [L_z13_0, B_z13_0]
  rw [bo (by omega)]
  have h1 : ((List.replicate i (qht (lst true []))).length + 1) * 24 ≤ 140737488355328 := by simp; omega
  simp only [ir, Int.ofNat_lt, hi, decide_true, db]
  rw [qbh h1]
  have := zy (k := k) c m K hl d n (i + 1) (by omega) (by omega)
  rw [List.replicate_succ'] at this
  exact this
theorem qfa (k M : Nat) (hM : M < 4611686018427387904) (hk : M + 120 ≤ k) (m : Bool) (c : cg) (hc : c.Fits M) (K : S_x4 → Prop) :
  (TT k).f_z13 (az m c) K = K (blank (bif cn c then c.tables.length else 0)) := by
 obtain ⟨k, rfl⟩ : ∃ k', k = k' + 2 := ⟨k - 2, by omega⟩
 show F_z13 (TT (k + 1)) (az m c) K = _
 have hfu : (TT (k + 1)).fuel = k + 1 := rfl
 simp only [F_z13, S_zz (k + 1) M hM (by omega) m c hc, hfu]
 cases hr : cn c with
 | false =>
  simp only [L_z13_0, B_z13_0, j9]
  rw [qiy]
  rfl
 | true =>
  have := zy (k := k + 1) c m (fun r => K ⟨lst true r⟩) (jf hr) c.tables.length (k + 1) 0 (by omega) (by have := jf hr; omega)
  exact this
theorem qio (k : Nat) (hk : 1 ≤ k) (K : Bool → Prop) : (TT k).f_zr K = K true := by
 obtain ⟨k, rfl⟩ : ∃ k', k = k' + 1 := ⟨k - 1, by omega⟩
 rfl
theorem rq (k M : Nat) (hM : M < 4611686018427387904) (hk : M + 200 ≤ k) (m1 m2 : Bool) (c : cg) (hc : c.Fits M) (s : List (List Row)) (hs : ∀ l ∈ s, l.length ≤ M) (hs2 : s.length ≤ M) (K : Bool → Prop) :
  (TT k).f_zq (az m2 c) (de m1 s) K = K true := by
 obtain ⟨k, rfl⟩ : ∃ k', k = k' + 1 := ⟨k - 1, by omega⟩
 show F_zq (TT k) (az m2 c) (de m1 s) K = _
 have hn : (bif cn c then c.tables.length else 0) ≤ 8 := by
  cases hr : cn c
  ·exact Nat.zero_le _
  ·exact jf hr
 simp only [F_zq, qio k (by omega), S_ze k M hM (by omega) m1 m2 c hc s hs hs2, S_z16 k M hM (by omega) m1 m2 c hc s hs hs2, qim k M hM (by omega) m2 c hc, qfa k M hM (by omega) m2 c hc, qfc k _ hn (by omega), db]
 cases jr c s <;> rfl
end Go.RX
