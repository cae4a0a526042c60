/- The law in plain Lean, with no program in sight. No condition. -/
import Derived.Test.YtmddopocbbnhlaaGreatDoorGa
import Derived.Laws.RangeString
import Derived.Lib.DecodeN
import Derived.Test.YtmddopocbbnhlaaGreatDoorGe
set_option linter.all false
namespace Go.RX
@[simp] theorem db (x y : Prop) : br true x y = x := rfl
@[simp] theorem j9 (x y : Prop) : br false x y = y := rfl
theorem dj (b : Bool) (x y : Prop) : br (!b) x y = br b y x := by cases b <;> rfl
theorem qiy (b : Bool) (x : Prop) : br b x x = x := by cases b <;> rfl
theorem p2 {α : Type} (K : α → Prop) (b : Bool) (x y : α) : br b (K x) (K y) = K (bif b then x else y) := by cases b <;> rfl
theorem qnr (b : Bool) (x y : Prop) : br b x y = if b = true then x else y := by cases b <;> rfl
theorem qnk {n : Int} (h1 : -9223372036854775808 ≤ n) (h2 : n < 9223372036854775808) : W n = n := by
 simp only [W, IntKind.wrap, IntKind.signed, IntKind.bits]
 simp
 split <;> omega
theorem bo {n : Nat} (h : n < 4611686018427387904) : W ((n : Int) + 1) = ((n + 1 : Nat) : Int) := by
 rw [qnk] <;> omega
theorem qbh {p q : Prop} (h : p) : (p ∧ q) = q := by simp [h]
def bs (s : ByteArray) : List UInt8 := s.data.toList
@[simp] theorem qk3 (s : ByteArray) : (bs s).length = s.size := by
 simp only [bs]
 rfl
theorem zp {a b : ByteArray} (h : bs a = bs b) : a = b := by
 cases a
 cases b
 simp only [bs] at h
 congr 1
 exact Array.toList_inj.1 h
theorem rk (s : ByteArray) : s.toList = bs s := ByteArray.toList_eq s
instance : DecidableEq ByteArray := fun a b => decidable_of_iff (bs a = bs b) ⟨zp, fun h => by rw [h]⟩
theorem qca (a b : ByteArray) : (a.toList == b.toList) = decide (a = b) := by
 rw [rk, rk]
 by_cases h : a = b
 ·subst h
  simp
 ·rw [decide_eq_false h, beq_eq_false_iff_ne]
  exact fun e => h (zp e)
abbrev noB : ByteArray := ByteArray.mk #[]
theorem qhv {s : ByteArray} : s = noB ↔ s.size = 0 := by
 constructor
 ·rintro rfl
  rfl
 ·intro h
  apply zp
  have : (bs s).length = 0 := by simpa using h
  rw [List.length_eq_zero_iff.1 this]
  rfl
@[simp] theorem cy (m : Bool) (l : List PV) : (lst m l).n = l.length := rfl
@[simp] theorem quv (m : Bool) (l : List PV) : (lst m l).m = m := rfl
theorem m3 (m : Bool) (l : List PV) (i : Nat) : (lst m l).g i = l.getD i .nilp := rfl
theorem ia {α : Type} (p : List α) (x : α) (r : List α) (d : α) : (p ++ x :: r).getD p.length d = x := by
 simp [List.getD]
theorem vh (s : ByteArray) (i : Nat) (h : i < s.size) (hb : bh s i < 128) : ((Utf8.decode s i).1 : Int) = bh s i ∧ (Utf8.decode s i).2 = 1 := by
 have e : bh s i = ((s[i]'h).toNat : Int) := by
  unfold bh
  have : s.data.toList[i]? = some (s[i]'h) := by
   rw [List.getElem?_eq_getElem (by simpa using h)]
   rfl
  rw [this]
  rfl
 have hb' : (s[i]'h).toNat < 128 := by omega
 rw [decode_ascii s i h hb', e]
 exact ⟨rfl, rfl⟩
theorem qbo (s : ByteArray) (i : Nat) (h : i < s.size) (hb : 128 ≤ bh s i) : 128 ≤ (Utf8.decode s i).1 := by
 have e : bh s i = ((s.get! i).toNat : Int) := by
  unfold bh
  have : s.data.toList[i]? = some (s[i]'h) := by
   rw [List.getElem?_eq_getElem (by simpa using h)]
   rfl
  rw [this]
  have : s.get! i = s[i]'h := by
   cases s
   simp only [ByteArray.get!]
   exact getElem!_pos _ i h
  rw [this]
  rfl
 rw [Lib.decode_at]
 have hb' : ¬ (s.get! i).toNat < 128 := by omega
 simp only [Lib.decodeN, if_neg hb']
 repeat' split
 all_goals first | omega | simp_all <;> omega
end Go.RX
namespace Go.RX
def di (p : Nat → Bool) : Nat → Nat → Bool
 | _, 0 => true
 | i, d + 1 => p i && di p (i + 1) d
theorem kz {p : Nat → Bool} : ∀ {d i : Nat}, di p i d = true ↔ ∀ j, i ≤ j → j < i + d → p j = true
 | 0, i => ⟨fun _ j h1 h2 => by omega, fun _ => rfl⟩
 | d + 1, i => by
  simp only [di, Bool.and_eq_true, kz (d := d)]
  constructor
  ·rintro ⟨h1, h2⟩ j h3 h4
   by_cases e : j = i
   ·exact e ▸ h1
   ·exact h2 j (by omega) (by omega)
  ·intro h
   exact ⟨h i (Nat.le_refl _) (by omega), fun j h1 h2 => h j (by omega) (by omega)⟩
theorem sc {p q : Nat → Bool} {i d : Nat} (h : ∀ j, i ≤ j → j < i + d → p j = q j) : di p i d = di q i d := by
 induction d generalizing i with
 | zero => rfl
 | succ d ih =>
  simp only [di]
  rw [h i (Nat.le_refl _) (by omega), ih fun j h1 h2 => h j (by omega) (by omega)]
theorem nu {L : Nat → Int → Prop} {m : Nat} {E X : Prop} {p : Nat → Bool} (h0 : ∀ n, L (n + 1) (m : Nat) = E)
  (h1 : ∀ n i : Nat, i < m → L (n + 1) i = br (p i) (L n ((i + 1 : Nat) : Int)) X) : ∀ d n i : Nat, i + d = m → d < n → L n i = br (di p i d) E X
 | 0, n + 1, i, e, _ => by
  have : i = m := by omega
  subst this
  rw [h0]
  rfl
 | d + 1, n + 1, i, e, hn => by
  rw [h1 n i (by omega), nu h0 h1 d n (i + 1) (by omega) (by omega)]
  simp only [di]
  cases p i <;> rfl
def qf (p : Nat → Bool) : Nat → Nat → Option Nat
 | _, 0 => none
 | i, d + 1 => bif p i then some i else qf p (i + 1) d
theorem nr {p : Nat → Bool} : ∀ {d i : Nat}, qf p i d = none ↔ di (fun j => !p j) i d = true
 | 0, i => by simp [qf, di]
 | d + 1, i => by
  simp only [qf, di]
  cases p i
  ·simpa using nr
  ·simp
theorem qaf {L : Nat → Int → Prop} {m : Nat} {E : Prop} {F : Int → Prop} {p : Nat → Bool} (h0 : ∀ n, L (n + 1) (m : Nat) = E)
  (h1 : ∀ n i : Nat, i < m → L (n + 1) i = br (p i) (F i) (L n ((i + 1 : Nat) : Int))) : ∀ d n i : Nat, i + d = m → d < n → L n i = match qf p i d with | some j => F (j : Nat) | none => E
 | 0, n + 1, i, e, _ => by
  have : i = m := by omega
  subst this
  rw [h0]
  rfl
 | d + 1, n + 1, i, e, hn => by
  rw [h1 n i (by omega), qaf h0 h1 d n (i + 1) (by omega) (by omega)]
  simp only [qf]
  cases p i <;> rfl
def idxOf : Option Nat → Int
 | some j => (j : Nat)
 | none => -1
theorem qdg {L : Nat → Int → Prop} {m : Nat} {F : Int → Prop} {p : Nat → Bool} (h0 : ∀ n, L (n + 1) (m : Nat) = F (-1))
  (h1 : ∀ n i : Nat, i < m → L (n + 1) i = br (p i) (F i) (L n ((i + 1 : Nat) : Int))) (d n i : Nat) (e : i + d = m) (hn : d < n) : L n i = F (idxOf (qf p i d)) := by
 rw [qaf h0 h1 d n i e hn]
 cases qf p i d <;> rfl
theorem fi (o : Option Nat) : decide (idxOf o ≥ 0) = o.isSome := by
 cases o with
 | none => rfl
 | some j => simp [idxOf]
theorem fg {p : Nat → Bool} {d i : Nat} : (qf p i d).isSome = !di (fun j => !p j) i d := by
 cases h : qf p i d with
 | none => rw [nr.1 h]; rfl
 | some j =>
  cases h' : di (fun j => !p j) i d
  ·rfl
  ·rw [nr.2 h'] at h
   cases h
theorem da {α : Type} {p : Nat → Bool} {q : α → Bool} : ∀ {l : List α} {i : Nat}, (∀ j (h : j < l.length), p (i + j) = q l[j]) → di p i l.length = l.all q
 | [], _, _ => rfl
 | x :: l, i, h => by
  have h0 := h 0 (Nat.succ_pos _)
  simp only [Nat.add_zero, List.getElem_cons_zero] at h0
  simp only [List.length_cons, di, List.all_cons, h0]
  rw [da (l := l) (i := i + 1) fun j hj => ?_]
  have := h (j + 1) (by simpa using hj)
  simp only [List.getElem_cons_succ] at this
  rw [← this]
  congr 1
  omega
theorem cj {L : Nat → Int → Prop} {m : Nat} {E X : Prop} {p : Nat → Bool} (h0 : ∀ n, L (n + 1) (m : Nat) = E)
  (h1 : ∀ n i : Nat, i < m → L (n + 1) i = br (p i) (L n ((i + 1 : Nat) : Int)) X) {n : Nat} (hn : m < n) : L n 0 = br (di p 0 m) E X :=
 nu h0 h1 m n 0 (by omega) hn
theorem ke {L : Nat → Int → Prop} {m : Nat} {F : Int → Prop} {p : Nat → Bool} (h0 : ∀ n, L (n + 1) (m : Nat) = F (-1))
  (h1 : ∀ n i : Nat, i < m → L (n + 1) i = br (p i) (F i) (L n ((i + 1 : Nat) : Int))) {n : Nat} (hn : m < n) : L n 0 = F (idxOf (qf p 0 m)) :=
 qdg h0 h1 m n 0 (by omega) hn
theorem ot {α : Type} (p : List α) (x : α) (r : List α) : ((p.length : Nat) : Int) < (((p ++ x :: r).length : Nat) : Int) := by simp; omega
theorem gd {α : Type} (p : List α) (x : α) (r : List α) : (p ++ [x]) ++ r = p ++ x :: r := by simp
theorem gg {α : Type} (p : List α) (x : α) : (p ++ [x]).length = p.length + 1 := by simp
def qkm (g : Nat → PV) : Nat → Nat → List PV
 | _, 0 => []
 | i, d + 1 => g i :: qkm g (i + 1) d
theorem vo {α : Type} {g : Nat → PV} {f : α → PV} : ∀ {l : List α} {i : Nat}, (∀ j (h : j < l.length), g (i + j) = f l[j]) → qkm g i l.length = l.map f
 | [], _, _ => rfl
 | x :: l, i, h => by
  have h0 := h 0 (Nat.succ_pos _)
  simp only [Nat.add_zero, List.getElem_cons_zero] at h0
  simp only [List.length_cons, qkm, List.map_cons, h0]
  rw [vo (l := l) (i := i + 1) fun j hj => ?_]
  have := h (j + 1) (by simpa using hj)
  simp only [List.getElem_cons_succ] at this
  rw [← this]
  congr 1
  omega
theorem qde {L : Nat → Int → List PV → Prop} {m : Nat} {E : List PV → Prop} {X : Prop} {p : Nat → Bool} {g : Nat → PV}
  (h0 : ∀ n r, L (n + 1) (m : Nat) r = E r) (h1 : ∀ (n i : Nat) (r : List PV), i < m → r.length = i → L (n + 1) i r = br (p i) (L n ((i + 1 : Nat) : Int) (r ++ [g i])) X) :
  ∀ (d n i : Nat) (r : List PV), i + d = m → r.length = i → d < n → L n i r = br (di p i d) (E (r ++ qkm g i d)) X
 | 0, n + 1, i, r, e, _, _ => by
  have : i = m := by omega
  subst this
  rw [h0]
  simp [di, qkm]
 | d + 1, n + 1, i, r, e, hr, hn => by
  rw [h1 n i r (by omega) hr, qde h0 h1 d n (i + 1) (r ++ [g i]) (by omega) (by simp [hr]) (by omega)]
  simp only [di, qkm, gd]
  cases p i <;> rfl
theorem mw {α : Type} {L : Nat → Int → List PV → Prop} {l : List α} {E : List PV → Prop} {X : Prop} {q : α → Bool} {f : α → PV}
  (h0 : ∀ n r, L (n + 1) (l.length : Nat) r = E r) (h1 : ∀ (n i : Nat) (r : List PV) (hi : i < l.length), r.length = i → L (n + 1) i r = br (q l[i]) (L n ((i + 1 : Nat) : Int) (r ++ [f l[i]])) X) {n : Nat} (hn : l.length < n) :
  L n 0 [] = br (l.all q) (E (l.map f)) X := by
 have key := qde (L := L) (m := l.length) (E := E) (X := X) (p := fun i => match l[i]? with | some x => q x | none => false) (g := fun i => match l[i]? with | some x => f x | none => .nilp) h0 (fun n i r hi hr => by
  rw [h1 n i r hi hr]
  simp only [List.getElem?_eq_getElem hi]) l.length n 0 [] (by omega) rfl hn
 have z : ((0 : Nat) : Int) = 0 := rfl
 rw [z] at key
 rw [key, vo (f := f) (l := l) fun j hj => ?_, da (q := q) fun j hj => ?_]
 ·rfl
 ·simp [hj]
 ·simp [hj]
theorem qdm {α : Type} {L : Nat → Int → Prop} {l : List α} {E X : Prop} {q : α → Bool} (h0 : ∀ n, L (n + 1) (l.length : Nat) = E)
  (h1 : ∀ (n i : Nat) (hi : i < l.length), L (n + 1) i = br (q l[i]) (L n ((i + 1 : Nat) : Int)) X) {n : Nat} (hn : l.length < n) : L n 0 = br (l.all q) E X := by
 rw [cj (L := L) (m := l.length) (E := E) (X := X) (p := fun i => match l[i]? with | some x => q x | none => false) h0 (fun n i hi => by
  rw [h1 n i hi]
  simp only [List.getElem?_eq_getElem hi]) hn, da (q := q) fun j hj => by simp [hj]]
end Go.RX
namespace Go.RX
def lower (n : Int) : Bool := decide (97 ≤ n) && decide (n ≤ 122)
def digit (n : Int) : Bool := decide (48 ≤ n) && decide (n ≤ 57)
def qm1 (s : ByteArray) (i : Nat) : Bool := lower (bh s i) || (i != 0 && (digit (bh s i) || bh s i == 95))
def isName (s : ByteArray) : Bool := decide (1 ≤ s.size) && decide (s.size ≤ 16) && di (qm1 s) 0 s.size
theorem fm (k : Nat) : (TT (k + 1)).fuel = k + 1 := rfl
def jx (s : ByteArray) (i : Nat) : Bool := bh s i == 95 || digit (bh s i) || lower (bh s i)
theorem sm (s : ByteArray) : isName s = (decide (1 ≤ s.size) && decide (s.size ≤ 16) && lower (bh s 0) && di (jx s) 0 s.size) := by
 unfold isName
 by_cases h1 : 1 ≤ s.size
 ·rw [decide_eq_true h1]
  simp only [Bool.true_and]
  cases decide (s.size ≤ 16)
  ·rfl
  ·simp only [Bool.true_and]
   obtain ⟨d, hd⟩ : ∃ d, s.size = d + 1 := ⟨s.size - 1, by omega⟩
   rw [hd]
   simp only [di]
   rw [sc (p := qm1 s) (q := jx s) fun j h2 h3 => ?_]
   ·simp only [qm1, jx, bne_self_eq_false, Bool.false_and, Bool.or_false]
    cases lower (bh s 0) <;> simp
   ·simp only [qm1, jx]
    have : (j != 0) = true := by simp; omega
    rw [this]
    cases lower (bh s j) <;> cases digit (bh s j) <;> simp
 ·simp [h1]
theorem S_zy (k : Nat) (hk : 20 ≤ k) (s : ByteArray) (K : Bool → Prop) : (TT k).f_zy s K = K (isName s) := by
 obtain ⟨k, rfl⟩ : ∃ k', k = k' + 2 := ⟨k - 2, by omega⟩
 show F_zy (TT (k + 1)) s K = _
 have hl : s.size ≤ 16 → L_zy_0 (TT (k + 1)) (TT (k + 1)).fuel s 0 (K false) (K true) = br (di (jx s) 0 s.size) (K true) (K false) := by
  intro hs
  refine nu (L := fun n i => L_zy_0 (TT (k + 1)) n s i (K false) (K true)) (m := s.size) (p := jx s) (fun n => ?_) (fun n i hi => ?_) s.size _ 0 (by omega) (by rw [fm]; omega)
  ·simp [L_zy_0, B_zy_0]
  ·simp only [L_zy_0, B_zy_0]
   rw [bo (by omega)]
   simp only [Int.ofNat_lt, hi, Int.natCast_nonneg, true_and, decide_true, db, Int.toNat_natCast, jx, lower, digit, qnr, bne_iff_ne, decide_eq_true_eq, Bool.or_eq_true, Bool.and_eq_true, beq_iff_eq]
   generalize bh s i = b
   by_cases h1 : b = 95
   ·simp [h1]
   ·by_cases h2 : b < 48
    ·simp [h1, h2]
     by_cases h3 : b < 97
     ·simp [h3]; omega
     ·exfalso; omega
    ·by_cases h3 : 57 < b
     ·by_cases h4 : b < 97
      ·simp [h1, h2, h3, h4]; try omega
      ·by_cases h5 : 122 < b
       ·simp [h1, h2, h3, h4, h5]; try omega
       ·simp [h1, h2, h3, h4, h5]; try omega
     ·simp [h1, h2, h3]; try omega
 simp only [F_zy, sm]
 by_cases h1 : (s.size : Int) < 1
 ·rw [decide_eq_true h1, db, decide_eq_false (by omega)]
  rfl
 ·rw [decide_eq_false h1, j9, decide_eq_true (p := 1 ≤ s.size) (by omega)]
  by_cases h2 : (s.size : Int) > 16
  ·rw [decide_eq_true h2, db, decide_eq_false (p := s.size ≤ 16) (by omega)]
   simp
  ·rw [decide_eq_false h2, j9, hl (by omega), decide_eq_true (p := s.size ≤ 16) (by omega), p2]
   have h3 : (0 : Int) < ((s.size : Nat) : Int) := by omega
   simp only [h3, Int.le_refl, true_and, p2, lower, Int.toNat_zero, Bool.true_and]
   have e1 : decide (bh s 0 < 97) = !decide (97 ≤ bh s 0) := by rw [← decide_not]; exact decide_eq_decide.2 (by omega)
   have e2 : decide (bh s 0 > 122) = !decide (bh s 0 ≤ 122) := by rw [← decide_not]; exact decide_eq_decide.2 (by omega)
   rw [e1, e2]
   cases decide (97 ≤ bh s 0) <;> cases decide (bh s 0 ≤ 122) <;> cases di (jx s) 0 s.size <;> rfl
def vz (n : Int) : Bool := n == 95 || digit n || lower n
theorem S_z7 (k : Nat) (hk : 1 ≤ k) (n : Int) (K : Bool → Prop) : (TT k).f_z7 n K = K (!vz n) := by
 obtain ⟨k, rfl⟩ : ∃ k', k = k' + 1 := ⟨k - 1, by omega⟩
 show F_z7 (TT k) n K = _
 simp only [F_z7, vz, digit, lower]
 have a1 : decide (n < 97) = !decide (97 ≤ n) := by rw [← decide_not]; exact decide_eq_decide.2 (by omega)
 have a2 : decide (n > 122) = !decide (n ≤ 122) := by rw [← decide_not]; exact decide_eq_decide.2 (by omega)
 have a3 : decide (n < 48) = !decide (48 ≤ n) := by rw [← decide_not]; exact decide_eq_decide.2 (by omega)
 have a4 : decide (n > 57) = !decide (n ≤ 57) := by rw [← decide_not]; exact decide_eq_decide.2 (by omega)
 have a5 : (n != 95) = !(n == 95) := rfl
 rw [a1, a2, a3, a4, a5]
 cases n == 95 <;> cases decide (97 ≤ n) <;> cases decide (n ≤ 122) <;> cases decide (48 ≤ n) <;> cases decide (n ≤ 57) <;> rfl
theorem v7 (s : ByteArray) (i : Nat) : vz (bh s i) = jx s i := rfl
theorem sw {n : Int} (h : 128 ≤ n) : vz n = false := by
 simp only [vz, digit, lower, Bool.or_eq_false_iff, Bool.and_eq_false_iff, decide_eq_false_iff_not, beq_eq_false_iff_ne]
 omega
theorem l3 {k : Nat} (hk : 1 ≤ k) (s : ByteArray) {K0 : Int → Prop} {X K1 : Prop} (hX : ∀ j : Nat, K0 (j : Int) = X) : ∀ d n i : Nat, i + d = s.size → d < n →
  L_z1o_0 (TT k) n true s i K0 K1 = br (di (jx s) i d) K1 X
 | 0, n + 1, i, e, _ => by
  have : ¬ i < s.size := by omega
  simp [L_z1o_0, B_z1o_0, this, di]
 | d + 1, n + 1, i, e, hn => by
  have hi : i < s.size := by omega
  simp only [L_z1o_0, B_z1o_0, decide_eq_true hi, db, S_z7 k hk, hX, di]
  by_cases hb : bh s i < 128
  ·obtain ⟨e1, e2⟩ := vh s i hi hb
   rw [e1, e2, v7, l3 hk s hX d n (i + 1) (by omega) (by omega)]
   cases jx s i <;> rfl
  ·have hb' : 128 ≤ bh s i := by omega
   have e1 := qbo s i hi hb'
   rw [sw (by omega), ← v7, sw hb']
   rfl
theorem S_z6 (k : Nat) (hk : 25 ≤ k) (s : ByteArray) (K : Bool → Prop) : (TT k).f_z6 s K = K (isName s) := by
 obtain ⟨k, rfl⟩ : ∃ k', k = k' + 5 := ⟨k - 5, by omega⟩
 show F_z6 (TT (k + 4)) s K = _
 simp only [F_z6, qca, sm]
 have e1 : decide (s = noB) = decide (s.size = 0) := decide_eq_decide.2 qhv
 rw [e1]
 by_cases h1 : s.size = 0
 ·simp [h1]
 ·rw [decide_eq_false h1, j9, decide_eq_true (p := 1 ≤ s.size) (by omega)]
  by_cases h2 : (s.size : Int) > 16
  ·rw [decide_eq_true h2, db, decide_eq_false (p := s.size ≤ 16) (by omega)]
   simp
  ·rw [decide_eq_false h2, j9, decide_eq_true (p := s.size ≤ 16) (by omega)]
   have e : ∀ K, (TT (k + 4)).f_z1m s K = L_z1o_0 (TT (k + 1)) (k + 1) true s 0 (fun n => K (decide (n ≥ 0))) (K (decide ((-1 : Int) ≥ 0))) := fun K => rfl
   simp only [e]
   rw [l3 (X := K (!true)) (by omega) s (fun j => by rw [decide_eq_true (by omega)]) s.size _ 0 (by omega) (by omega)]
   have h3 : (0 : Int) < ((s.size : Nat) : Int) := by omega
   have e1 : decide (bh s 0 < 97) = !decide (97 ≤ bh s 0) := by rw [← decide_not]; exact decide_eq_decide.2 (by omega)
   have e2 : decide (bh s 0 > 122) = !decide (bh s 0 ≤ 122) := by rw [← decide_not]; exact decide_eq_decide.2 (by omega)
   simp only [h3, Int.le_refl, true_and, lower, Int.toNat_zero, Bool.true_and, e1, e2]
   have e3 : decide ((-1 : Int) ≥ 0) = false := by decide
   rw [e3]
   cases decide (97 ≤ bh s 0) <;> cases decide (bh s 0 ≤ 122) <;> cases di (jx s) 0 s.size <;> rfl
end Go.RX
namespace Go.RX
def eI (n : Int) : PV := .int .i64 n
def eS (s : ByteArray) : PV := .str s
def xb (c : S_x1) : PV := .agg (p_x1 c)
def jv (c : S_x3) : PV := .agg (p_x3 c)
structure Index where
 name : ByteArray
 columns : List Int
 unique : Bool
def dd (m : Bool) (x : Index) : S_x2 := ⟨x.name, lst m (x.columns.map eI), x.unique⟩
def i3 (m : Bool) (x : Index) : PV := .agg (p_x2 (dd m x))
structure Table where
 name : ByteArray
 columns : List S_x1
 key : List Int
 part : Int
 indexes : List Index
def ak (m : Bool) (x : Table) : S_x5 := ⟨x.name, lst m (x.columns.map xb), lst m (x.key.map eI), x.part, lst m (x.indexes.map (i3 m))⟩
def i4 (m : Bool) (x : Table) : PV := .agg (p_x5 (ak m x))
structure zb where
 name : ByteArray
 params : List S_x3
 body : List ByteArray
 rows : Int
 bytes : Int
def cr (m : Bool) (x : zb) : S_x7 := ⟨x.name, lst m (x.params.map jv), lst m (x.body.map eS), x.rows, x.bytes⟩
def o4 (m : Bool) (x : zb) : PV := .agg (p_x7 (cr m x))
structure cg where
 tables : List Table
 procs : List zb
def az (m : Bool) (x : cg) : S_x0 := ⟨lst m (x.tables.map (i4 m)), lst m (x.procs.map (o4 m))⟩
inductive Expr where
 | mk (kind op qki qra : Int) (qkj table name : ByteArray) (kids : List Expr) (at_ : Int)
namespace Expr
def kind : Expr → Int | mk k _ _ _ _ _ _ _ _ => k
def op : Expr → Int | mk _ k _ _ _ _ _ _ _ => k
def qki : Expr → Int | mk _ _ k _ _ _ _ _ _ => k
def qra : Expr → Int | mk _ _ _ k _ _ _ _ _ => k
def qkj : Expr → ByteArray | mk _ _ _ _ k _ _ _ _ => k
def table : Expr → ByteArray | mk _ _ _ _ _ k _ _ _ => k
def name : Expr → ByteArray | mk _ _ _ _ _ _ k _ _ => k
def kids : Expr → List Expr | mk _ _ _ _ _ _ _ k _ => k
def at_ : Expr → Int | mk _ _ _ _ _ _ _ _ k => k
end Expr
structure qvc where
 name : ByteArray
 expr : Expr
 at_ : Int
inductive Term where
 | mk (op num qq8 qki qra : Int) (qkj : ByteArray) (kids : List Term)
namespace Term
def op : Term → Int | mk k _ _ _ _ _ _ => k
def num : Term → Int | mk _ k _ _ _ _ _ => k
def qq8 : Term → Int | mk _ _ k _ _ _ _ => k
def qki : Term → Int | mk _ _ _ k _ _ _ => k
def qra : Term → Int | mk _ _ _ _ k _ _ => k
def qkj : Term → ByteArray | mk _ _ _ _ _ k _ => k
def kids : Term → List Term | mk _ _ _ _ _ _ k => k
end Term
@[simp] theorem fc (s : S_x1) (K : S_x1 → Prop) : as_x1 (xb s) K = K s := rfl
@[simp] theorem zh (s : S_x3) (K : S_x3 → Prop) : as_x3 (jv s) K = K s := rfl
@[simp] theorem pc (m : Bool) (x : Index) (K : S_x2 → Prop) : as_x2 (i3 m x) K = K (dd m x) := rfl
@[simp] theorem mm (m : Bool) (x : Table) (K : S_x5 → Prop) : as_x5 (i4 m x) K = K (ak m x) := rfl
@[simp] theorem qct (m : Bool) (x : zb) (K : S_x7 → Prop) : as_x7 (o4 m x) K = K (cr m x) := rfl
@[simp] theorem ju (n : Int) (K : Int → Prop) : cm (eI n) K = K n := rfl
@[simp] theorem qcs (n : ByteArray) (K : ByteArray → Prop) : asS (eS n) K = K n := rfl
theorem qi5 (n : Int) : PV.int .i64 n = eI n := rfl
theorem nm (s : ByteArray) : PV.str s = eS s := rfl
theorem bt {α : Type} {m : Bool} {l : List α} {f : α → PV} {i : Nat} (h : i < l.length) : (lst m (l.map f)).g i = f l[i] := by
 simp [m3, List.getD, h]
theorem qgs {α : Type} {l : List α} {f : α → PV} {i : Nat} {d : PV} (h : i < l.length) : (l.map f).getD i d = f l[i] := by
 simp [List.getD, h]
theorem qd (a b : ByteArray) : eqK (.str a) (.str b) = decide (a = b) := by simp only [eqK, qca]
theorem qjb (k : IntKind) (a b : Int) : eqK (.int k a) (.int k b) = decide (a = b) := by
 simp only [eqK]
 by_cases h : a = b <;> simp [h]
theorem qo {α : Type} [DecidableEq α] {key : α → PV} (hk : ∀ a b, eqK (key a) (key b) = decide (a = b)) (a b : α) (v : PV) : ∀ m : List (PV × PV), (∀ p ∈ m, ∃ c, p.1 = key c) → look (key b) (nj (key a) v m) = if b = a then some v else look (key b) m
 | [], _ => by
  simp only [nj, look, hk]
  by_cases h : b = a <;> simp [h]
 | (x, u) :: r, h => by
  obtain ⟨c, hc⟩ := h (x, u) (.head _)
  simp only at hc
  subst hc
  simp only [nj, hk]
  by_cases e : a = c
  ·subst e
   simp only [decide_true, look, hk]
   by_cases e' : b = a <;> simp [e']
  ·rw [decide_eq_false e]
   simp only [look, hk]
   by_cases e' : b = c
   ·subst e'
    have : ¬ b = a := fun h => e h.symm
    simp [this]
   ·rw [decide_eq_false e']
    exact qo hk a b v r fun p hp => h p (.tail _ hp)
theorem qk {α : Type} {key : α → PV} (a : α) (v : PV) : ∀ m : List (PV × PV), (∀ p ∈ m, ∃ c, p.1 = key c) → ∀ p ∈ nj (key a) v m, ∃ c, p.1 = key c
 | [], _, p, hp => by
  simp only [nj, List.mem_singleton] at hp
  exact ⟨a, by rw [hp]⟩
 | (x, u) :: r, h, p, hp => by
  simp only [nj] at hp
  split at hp
  ·cases hp with
   | head => exact h (x, u) (.head _)
   | tail _ hp => exact h p (.tail _ hp)
  ·cases hp with
   | head => exact h (x, u) (.head _)
   | tail _ hp => exact qk a v r (fun p hp => h p (.tail _ hp)) p hp
structure j5 {α : Type} (key : α → PV) (m : List (PV × PV)) (f : α → Option PV) : Prop where
 keys : ∀ p ∈ m, ∃ c, p.1 = key c
 look : ∀ a, look (key a) m = f a
theorem j5.nil {α : Type} {key : α → PV} : j5 key [] fun _ => none := ⟨fun _ h => (by cases h), fun _ => rfl⟩
theorem j5.set {α : Type} [DecidableEq α] {key : α → PV} (hk : ∀ a b, eqK (key a) (key b) = decide (a = b)) {m : List (PV × PV)} {f : α → Option PV} (h : j5 key m f) (a : α) (v : PV) :
  j5 key (nj (key a) v m) fun b => if b = a then some v else f b :=
 ⟨qk a v m h.keys, fun b => by rw [qo hk a b v m h.keys, h.look]⟩
end Go.RX
namespace Go.RX
def yj {α : Type} [DecidableEq α] (x : α) (ns : List α) : Bool := ns.any fun y => decide (y = x)
theorem qgt {α : Type} [DecidableEq α] {x : α} {ns : List α} : yj x ns = true ↔ x ∈ ns := by simp [yj]
def okF {α β : Type} [DecidableEq α] (p : β → Bool) (key : β → α) : List α → List β → Bool
 | _, [] => true
 | ns, x :: l => p x && !yj (key x) ns && okF p key (key x :: ns) l
theorem nz {α β : Type} [DecidableEq α] {p : β → Bool} {key : β → α} : ∀ {l : List β} {ns : List α}, okF p key ns l = true ↔ (∀ x ∈ l, p x = true) ∧ (l.map key).Nodup ∧ ∀ x ∈ l, key x ∉ ns
 | [], ns => by simp [okF]
 | x :: l, ns => by
  have e : (yj (key x) ns = false) ↔ key x ∉ ns := by rw [← qgt]; simp
  simp only [okF, Bool.and_eq_true, nz (l := l), Bool.not_eq_true', e, List.mem_cons, List.map_cons, List.nodup_cons, List.mem_map]
  constructor
  ·rintro ⟨⟨h1, h2⟩, h3, h4, h5⟩
   refine ⟨?_, ⟨?_, h4⟩, ?_⟩
   ·rintro y (rfl | hy)
    ·exact h1
    ·exact h3 y hy
   ·rintro ⟨y, hy, h⟩; exact h5 y hy (.inl h)
   ·rintro y (rfl | hy)
    ·exact h2
    ·exact fun h => h5 y hy (.inr h)
  ·rintro ⟨h1, ⟨h2, h3⟩, h4⟩
   refine ⟨⟨h1 x (.inl rfl), h4 x (.inl rfl)⟩, fun y hy => h1 y (.inr hy), h3, fun y hy h => ?_⟩
   rcases h with h | h
   ·exact h2 ⟨y, hy, h⟩
   ·exact h4 y (.inr hy) h
theorem qdw {α β : Type} [DecidableEq α] {p : β → Bool} {key : β → α} (d : β) (l : List β) : okF p key [] l = di (fun i => p (l.getD i d) && di (fun k => !decide (key (l.getD k d) = key (l.getD i d))) 0 i) 0 l.length := by
 rw [Bool.eq_iff_iff]
 rw [nz, kz]
 simp only [Bool.and_eq_true, kz, Bool.not_eq_true', decide_eq_false_iff_not]
 constructor
 ·rintro ⟨h1, h2, -⟩ j - hj
  have hj' : j < l.length := by omega
  refine ⟨h1 _ ?_, fun k _ hk => ?_⟩
  ·simp [List.getD, hj']
  ·have hk' : k < l.length := by omega
   simp only [List.getD, List.getElem?_eq_getElem hj', List.getElem?_eq_getElem hk', Option.getD_some]
   have := List.pairwise_iff_getElem.1 h2 k j (by simpa using hk') (by simpa using hj') (by omega)
   simpa using this
 ·intro h
  refine ⟨fun x hx => ?_, List.pairwise_iff_getElem.2 fun i j hi hj hij => ?_, fun _ _ h => by cases h⟩
  ·obtain ⟨i, hi, rfl⟩ := List.mem_iff_getElem.1 hx
   have := (h i (by omega) (by omega)).1
   simpa [List.getD, hi] using this
  ·simp only [List.length_map] at hi hj
   have := (h j (by omega) (by omega)).2 i (by omega) (by omega)
   simpa [List.getD, hi, hj] using this
theorem kl {α β : Type} [DecidableEq α] {p : α → Bool} {q : β → Bool} {key : β → α} (l : List β) : okF (fun x => p (key x) && q x) key [] l = (l.all q && okF p id [] (l.map key)) := by
 rw [Bool.eq_iff_iff]
 simp only [Bool.and_eq_true, nz, List.all_eq_true, List.mem_map, List.map_id_fun, id]
 constructor
 ·rintro ⟨h1, h2, -⟩
  refine ⟨fun x hx => (h1 x hx).2, ?_, h2, fun _ _ h => by cases h⟩
  rintro _ ⟨x, hx, rfl⟩
  exact (h1 x hx).1
 ·rintro ⟨h1, h2, h3, -⟩
  exact ⟨fun x hx => ⟨h2 _ ⟨x, hx, rfl⟩, h1 x hx⟩, h3, fun _ _ h => by cases h⟩
def iz (l : List ByteArray) : Bool := okF isName id [] l
theorem yl (l : List ByteArray) : iz l = di (fun i => isName (l.getD i noB) && di (fun k => !decide (l.getD k noB = l.getD i noB)) 0 i) 0 l.length := qdw noB l
theorem S_z11 (k : Nat) (l : List ByteArray) (hl : l.length ≤ 16) (hk : 40 ≤ k) (K : Bool → List PV → Prop) : (TT k).f_z11 (l.map eS) K = K (iz l) (l.map eS) := by
 obtain ⟨k, rfl⟩ : ∃ k', k = k' + 2 := ⟨k - 2, by omega⟩
 show F_z11 (TT (k + 1)) (l.map eS) K = _
 have hin : ∀ (i : Nat), i < l.length → ∀ (X : List PV → Prop) (Y : Int → List PV → Prop), L_z11_2 (TT (k + 1)) (TT (k + 1)).fuel i 0 (l.map eS) X Y = br (di (fun k => !decide (l.getD k noB = l.getD i noB)) 0 i) (Y i (l.map eS)) (X (l.map eS)) := by
  intro i hi X Y
  refine nu (L := fun n j => L_z11_2 (TT (k + 1)) n i j (l.map eS) X Y) (m := i) (p := fun k => !decide (l.getD k noB = l.getD i noB)) (fun n => ?_) (fun n j hj => ?_) i _ 0 (by omega) (by rw [fm]; omega)
  ·simp [L_z11_2, B_z11_2]
  ·have hj' : j < l.length := by omega
   simp only [L_z11_2, B_z11_2]
   rw [bo (by omega)]
   simp [hi, hj, hj', List.getD, qca, dj]
 simp only [F_z11, yl]
 have : L_z11_0 (TT (k + 1)) (TT (k + 1)).fuel 0 (l.map eS) (fun r25 => K false r25) (fun r26 => K true r26) = br (di (fun i => isName (l.getD i noB) && di (fun k => !decide (l.getD k noB = l.getD i noB)) 0 i) 0 l.length) (K true (l.map eS)) (K false (l.map eS)) := by
  refine nu (L := fun n j => L_z11_0 (TT (k + 1)) n j (l.map eS) (fun r25 => K false r25) (fun r26 => K true r26)) (m := l.length) (fun n => ?_) (fun n j hj => ?_) l.length _ 0 (by omega) (by rw [fm]; omega)
  ·simp [L_z11_0, B_z11_0]
  ·simp only [L_z11_0, B_z11_0]
   simp only [qgs hj, qcs, List.length_map, Int.ofNat_lt, hj, Int.natCast_nonneg, true_and, decide_true, db, Int.toNat_natCast, S_zy (k + 1) (by omega), hin j hj, dj]
   rw [bo (by omega)]
   have e : l.getD j noB = l[j] := by simp [List.getD, hj]
   rw [e]
   cases isName l[j] <;> simp
 rw [this]
 cases di (fun i => isName (l.getD i noB) && di (fun k => !decide (l.getD k noB = l.getD i noB)) 0 i) 0 l.length <;> rfl
def km (many : Int) (n : Int) : Bool := decide (0 ≤ n) && decide (n < many)
def places (l : List Int) (many : Int) : Bool := decide (1 ≤ l.length) && decide (l.length ≤ 8) && okF (km many) id [] l
theorem S_z12 (k : Nat) (m : Bool) (l : List Int) (many : Int) (hk : 40 ≤ k) (K : Bool → Prop) : (TT k).f_z12 (lst m (l.map eI)) many K = K (places l many) := by
 obtain ⟨k, rfl⟩ : ∃ k', k = k' + 2 := ⟨k - 2, by omega⟩
 show F_z12 (TT (k + 1)) _ many K = _
 simp only [F_z12, places, cy, List.length_map]
 by_cases h1 : (l.length : Int) < 1
 ·rw [decide_eq_true h1, db, decide_eq_false (by omega)]
  rfl
 ·rw [decide_eq_false h1, j9, decide_eq_true (p := 1 ≤ l.length) (by omega)]
  by_cases h2 : (l.length : Int) > 8
  ·rw [decide_eq_true h2, db, decide_eq_false (p := l.length ≤ 8) (by omega)]
   simp
  ·rw [decide_eq_false h2, j9, decide_eq_true (p := l.length ≤ 8) (by omega), qdw (0 : Int)]
   have hin : ∀ (i : Nat), i < l.length → ∀ (X : Prop) (Y : Arr → Int → Int → Prop), L_z12_2 (TT (k + 1)) (TT (k + 1)).fuel (lst m (l.map eI)) many i 0 X Y = br (di (fun k => !decide (id (l.getD k 0) = id (l.getD i 0))) 0 i) (Y (lst m (l.map eI)) many i) X := by
    intro i hi X Y
    refine nu (L := fun n j => L_z12_2 (TT (k + 1)) n (lst m (l.map eI)) many i j X Y) (m := i) (p := fun k => !decide (id (l.getD k 0) = id (l.getD i 0))) (fun n => ?_) (fun n j hj => ?_) i _ 0 (by omega) (by rw [fm]; omega)
    ·simp [L_z12_2, B_z12_2]
    ·have hj' : j < l.length := by omega
     simp only [L_z12_2, B_z12_2]
     rw [bo (by omega)]
     simp only [Int.toNat_natCast, bt hi, bt hj', ju, cy, List.length_map, Int.ofNat_lt, hi, hj, hj', Int.natCast_nonneg, true_and, decide_true, db, dj, List.getD, List.getElem?_eq_getElem hi, List.getElem?_eq_getElem hj', Option.getD_some, id]
     rfl
   rw [fm, cj (L := fun n j => L_z12_0 (TT (k + 1)) n (lst m (l.map eI)) many j (K false) (K true)) (m := l.length) (n := k + 1) (p := fun i => km many (l.getD i 0) && di (fun k => !decide (id (l.getD k 0) = id (l.getD i 0))) 0 i) (fun n => ?_) (fun n j hj => ?_) (by omega)]
   ·cases di (fun i => km many (l.getD i 0) && di (fun k => !decide (id (l.getD k 0) = id (l.getD i 0))) 0 i) 0 l.length <;> rfl
   ·simp [L_z12_0, B_z12_0]
   ·simp only [L_z12_0, B_z12_0]
    simp only [Int.toNat_natCast, bt hj, ju, cy, List.length_map, Int.ofNat_lt, hj, Int.natCast_nonneg, true_and, decide_true, db, hin j hj]
    rw [bo (by omega)]
    have e : l.getD j 0 = l[j] := by simp [List.getD, hj]
    have e1 : decide (l[j] < 0) = !decide (0 ≤ l[j]) := by rw [← decide_not]; exact decide_eq_decide.2 (by omega)
    have e2 : decide (l[j] ≥ many) = !decide (l[j] < many) := by rw [← decide_not]; exact decide_eq_decide.2 (by omega)
    rw [e, e1, e2, km]
    cases decide (0 ≤ l[j]) <;> cases decide (l[j] < many) <;> simp
def oa {α : Type} [DecidableEq α] (ns : List α) (x : α) : Option PV := if yj x ns = true then some (.bool true) else none
theorem lp {α : Type} [DecidableEq α] {key : α → PV} : j5 key [] (oa ([] : List α)) := j5.nil
theorem lq {α : Type} [DecidableEq α] {key : α → PV} (hk : ∀ a b, eqK (key a) (key b) = decide (a = b)) {m : List (PV × PV)} {ns : List α} (h : j5 key m (oa ns)) (x : α) : j5 key (nj (key x) (.bool true) m) (oa (x :: ns)) := by
 refine ⟨qk x _ m h.keys, fun b => ?_⟩
 rw [qo hk x b _ m h.keys, h.look]
 simp only [oa, yj, List.any_cons]
 by_cases e : b = x
 ·simp [e]
 ·have : ¬ x = b := fun h => e h.symm
  simp [e, this]
theorem qay {α : Type} [DecidableEq α] {key : α → PV} {m : List (PV × PV)} {ns : List α} (h : j5 key m (oa ns)) (x : α) (K : Bool → Prop) : asB ((look (key x) m).getD (.bool false)) K = K (yj x ns) := by
 rw [h.look, oa]
 cases yj x ns <;> rfl
theorem S_z8 (k : Nat) (m : Bool) (l : List Int) (many : Int) (hl : l.length < 4611686018427387904) (hk : l.length + 40 ≤ k) (K : Bool → Prop) : (TT k).f_z8 (lst m (l.map eI)) many K = K (places l many) := by
 obtain ⟨k, rfl⟩ : ∃ k', k = k' + 2 := ⟨k - 2, by omega⟩
 show F_z8 (TT (k + 1)) _ many K = _
 have key : ∀ (X : Prop) (Y : Arr → Prop) (a : Arr) (l : List Int) (pre : List PV) (n : Nat) (mp : List (PV × PV)) (ns : List Int), l.length < n → pre.length + l.length < 4611686018427387904 → j5 eI mp (oa ns) →
   L_z8_0 (TT (k + 1)) n a many (lst m (pre ++ l.map eI)) ((pre ++ l.map eI).length : Nat) (pre.length : Nat) mp X Y = br (okF (km many) id ns l) (Y a) X := by
  intro X Y a l
  induction l with
  | nil =>
   intro pre n mp ns hn _ _
   obtain ⟨n, rfl⟩ : ∃ n', n = n' + 1 := ⟨n - 1, by simp at hn; omega⟩
   simp [L_z8_0, B_z8_0, okF]
  | cons x l ih =>
   intro pre n mp ns hn hp hm
   simp only [List.length_cons] at hn hp
   obtain ⟨n, rfl⟩ : ∃ n', n = n' + 1 := ⟨n - 1, by omega⟩
   simp only [L_z8_0, B_z8_0]
   rw [bo (by omega)]
   have e := ih (pre ++ [eI x]) n (nj (eI x) (.bool true) mp) (x :: ns) (by omega) (by simp; omega) (lq (qjb .i64) hm x)
   simp only [gd, gg] at e
   simp only [List.map_cons, ot, decide_true, db, cy, Int.natCast_nonneg, true_and, Int.toNat_natCast, m3, ia, ju, qi5, qay hm]
   rw [e]
   have e1 : decide (x < 0) = !decide (0 ≤ x) := by rw [← decide_not]; exact decide_eq_decide.2 (by omega)
   have e2 : decide (x ≥ many) = !decide (x < many) := by rw [← decide_not]; exact decide_eq_decide.2 (by omega)
   simp only [okF, km, e1, e2, id]
   cases decide (0 ≤ x) <;> cases decide (x < many) <;> cases yj x ns <;> simp
 simp only [F_z8, places, cy, List.length_map, fm]
 have := key (K false) (fun a17 => br (decide (((a17.n : Nat) : Int) ≥ (1 : Int))) (K (decide (((a17.n : Nat) : Int) ≤ (8 : Int)))) (K false)) (lst m (l.map eI)) l [] (k + 1) [] [] (by omega) (by simpa using hl) lp
 simp only [List.nil_append, List.length_map, List.length_nil, cy] at this
 have e0 : ((0 : Nat) : Int) = 0 := rfl
 rw [e0] at this
 rw [this]
 have e1 : decide ((l.length : Int) ≥ 1) = decide (1 ≤ l.length) := decide_eq_decide.2 (by omega)
 have e2 : decide ((l.length : Int) ≤ 8) = decide (l.length ≤ 8) := decide_eq_decide.2 (by omega)
 rw [e1, e2]
 cases okF (km many) id [] l <;> cases decide (1 ≤ l.length) <;> cases decide (l.length ≤ 8) <;> rfl
end Go.RX
namespace Go.RX
theorem qch (k : Nat) (hk : 30 ≤ k) (s : ByteArray) {m : List (PV × PV)} {ns : List ByteArray} (hm : j5 eS m (oa ns)) (K : Bool → List (PV × PV) → Prop) :
  (TT k).f_z5 s m K = K (isName s && !yj s ns) (nj (eS s) (.bool true) m) := by
 obtain ⟨k, rfl⟩ : ∃ k', k = k' + 1 := ⟨k - 1, by omega⟩
 show F_z5 (TT k) s m K = _
 simp only [F_z5, S_z6 k (by omega), nm, qay hm]
 cases isName s <;> rfl
def fu (n : Int) : Bool := decide (1 ≤ n) && decide (n ≤ 3)
theorem qcj (k : Nat) (hk : 1 ≤ k) (n : Int) (K : Bool → Prop) : (TT k).f_z9 n K = K (fu n) := by
 obtain ⟨k, rfl⟩ : ∃ k', k = k' + 1 := ⟨k - 1, by omega⟩
 show F_z9 (TT k) n K = _
 simp only [F_z9, fu, p2]
 have : decide (n ≥ 1) = decide (1 ≤ n) := rfl
 rw [this]
 cases decide (1 ≤ n) <;> rfl
theorem wc (n : Int) (X Y : Prop) : br (decide (n < 1)) X (br (decide (n > 3)) X Y) = br (fu n) Y X := by
 have e1 : decide (n < 1) = !decide (1 ≤ n) := by rw [← decide_not]; exact decide_eq_decide.2 (by omega)
 have e2 : decide (n > 3) = !decide (n ≤ 3) := by rw [← decide_not]; exact decide_eq_decide.2 (by omega)
 rw [e1, e2, fu]
 cases decide (1 ≤ n) <;> cases decide (n ≤ 3) <;> rfl
theorem qbb (k : Nat) (m : Bool) (l : List Int) (x : Int) (hl : l.length < 4611686018427387904) (hk : l.length + 10 ≤ k) (K : Bool → Prop) : (TT k).f_z1f (lst m (l.map eI)) x K = K (l.any fun y => decide (x = y)) := by
 obtain ⟨k, rfl⟩ : ∃ k', k = k' + 3 := ⟨k - 3, by omega⟩
 have : (TT (k + 3)).f_z1f (lst m (l.map eI)) x K = L_z1k_0 (TT (k + 1)) (k + 1) (lst m (l.map eI)) x (((lst m (l.map eI)).n : Nat) : Int) 0 (fun n => K (decide (n ≥ 0))) (K (decide ((-1 : Int) ≥ 0))) := rfl
 rw [this, ke (L := fun n i => L_z1k_0 (TT (k + 1)) n (lst m (l.map eI)) x (((lst m (l.map eI)).n : Nat) : Int) i (fun n => K (decide (n ≥ 0))) (K (decide ((-1 : Int) ≥ 0)))) (m := l.length) (F := fun n => K (decide (n ≥ 0))) (p := fun i => decide (x = l.getD i 0)) (fun n => ?_) (fun n i hi => ?_) (by omega)]
 ·rw [fi, fg]
  congr 1
  rw [da (q := fun y => !decide (x = y)) fun j hj => by simp [List.getD, hj]]
  rw [Bool.eq_iff_iff]
  simp
 ·simp [L_z1k_0, B_z1k_0]
 ·simp only [L_z1k_0, B_z1k_0]
  rw [bo (by omega)]
  have e : l.getD i 0 = l[i] := by simp [List.getD, hi]
  have e2 : (x == l[i]) = decide (x = l[i]) := by
   by_cases h : x = l[i] <;> simp [h]
  simp only [Int.toNat_natCast, bt hi, ju, cy, List.length_map, Int.ofNat_lt, hi, Int.natCast_nonneg, true_and, decide_true, db, e, e2]
def iy (cols : List S_x1) (n : Int) : Bool := match cols[n.toNat]? with
 | some c => c.NotNull
 | none => false
def qc2 (c : S_x1) : Bool := isName c.Name && fu c.Type_
def qbt (many : Int) (x : Index) : Bool := isName x.name && places x.columns many
def dp (t : Table) : Bool := isName t.name && decide (1 ≤ t.columns.length) && decide (t.columns.length ≤ 16) && decide (t.indexes.length ≤ 4) && okF qc2 (·.Name) [] t.columns &&
 places t.key t.columns.length && (t.key.any fun y => decide (t.part = y)) && t.key.all (iy t.columns) && okF (qbt t.columns.length) (·.name) [] t.indexes
structure Table.Fits (M : Nat) (t : Table) : Prop where
 key : t.key.length ≤ M
 idx : ∀ x ∈ t.indexes, x.columns.length ≤ M
theorem m9 {l : List Int} {many : Int} (h : places l many = true) : ∀ n ∈ l, 0 ≤ n ∧ n < many := by
 simp only [places, Bool.and_eq_true, nz, km, decide_eq_true_eq] at h
 exact h.2.1
theorem s5 {l : List Int} {many : Int} (h : places l many = true) : l.length ≤ 8 := by
 simp only [places, Bool.and_eq_true, decide_eq_true_eq] at h
 exact h.1.2
theorem qfw {k : Nat} (hk : 31 ≤ k) (m : Bool) (x1 : S_x5) (m2 : List (PV × PV)) (X : Prop) (Y : S_x5 → List (PV × PV) → Prop) (l : List S_x1) : ∀ (pre : List PV) (n : Nat) (mp : List (PV × PV)) (ns : List ByteArray), l.length < n → pre.length + l.length < 4611686018427387904 → j5 eS mp (oa ns) →
  L_z3_0 (TT k) n (lst m (pre ++ l.map xb)) ((pre ++ l.map xb).length : Nat) (pre.length : Nat) x1 mp m2 X Y = br (okF qc2 (·.Name) ns l) (Y x1 m2) X := by
 induction l with
 | nil =>
  intro pre n mp ns hn _ _
  obtain ⟨n, rfl⟩ : ∃ n', n = n' + 1 := ⟨n - 1, by simp at hn; omega⟩
  simp [L_z3_0, B_z3_0, okF]
 | cons x l ih =>
  intro pre n mp ns hn hp hm
  simp only [List.length_cons] at hn hp
  obtain ⟨n, rfl⟩ : ∃ n', n = n' + 1 := ⟨n - 1, by omega⟩
  simp only [L_z3_0, B_z3_0]
  rw [bo (by omega)]
  have e := ih (pre ++ [xb x]) n (nj (eS x.Name) (.bool true) mp) (x.Name :: ns) (by omega) (by simp; omega) (lq qd hm x.Name)
  simp only [gd, gg] at e
  simp only [List.map_cons, ot, decide_true, db, cy, Int.natCast_nonneg, true_and, Int.toNat_natCast, m3, ia, fc, qch k (by omega) x.Name hm, qcj k (by omega)]
  rw [e]
  simp only [okF, qc2]
  cases isName x.Name <;> cases yj x.Name ns <;> cases fu x.Type_ <;> simp
theorem qi0 {k : Nat} {M : Nat} (hM : M < 4611686018427387904) (hk : M + 50 ≤ k) (m : Bool) (x1 : S_x5) (X Y : Prop) (l : List Index) (hl : ∀ x ∈ l, x.columns.length ≤ M) : ∀ (pre : List PV) (n : Nat) (mp : List (PV × PV)) (ns : List ByteArray), l.length < n → pre.length + l.length < 4611686018427387904 → j5 eS mp (oa ns) →
  L_z3_4 (TT k) n (lst m (pre ++ l.map (i3 m))) ((pre ++ l.map (i3 m)).length : Nat) (pre.length : Nat) x1 mp X Y = br (okF (qbt x1.Columns.n) (·.name) ns l) Y X := by
 induction l with
 | nil =>
  intro pre n mp ns hn _ _
  obtain ⟨n, rfl⟩ : ∃ n', n = n' + 1 := ⟨n - 1, by simp at hn; omega⟩
  simp [L_z3_4, B_z3_4, okF]
 | cons x l ih =>
  intro pre n mp ns hn hp hm
  simp only [List.length_cons] at hn hp
  obtain ⟨n, rfl⟩ : ∃ n', n = n' + 1 := ⟨n - 1, by omega⟩
  simp only [L_z3_4, B_z3_4]
  rw [bo (by omega)]
  have e := ih (fun y hy => hl y (.tail _ hy)) (pre ++ [i3 m x]) n (nj (eS x.name) (.bool true) mp) (x.name :: ns) (by omega) (by simp; omega) (lq qd hm x.name)
  simp only [gd, gg] at e
  have hx := hl x (.head _)
  have hs : dd m x = ⟨x.name, lst m (x.columns.map eI), x.unique⟩ := rfl
  simp only [List.map_cons, ot, decide_true, db, cy, Int.natCast_nonneg, true_and, Int.toNat_natCast, m3, ia, pc, hs, qch k (by omega) x.name hm, S_z8 k m x.columns _ (by omega) (by omega)]
  rw [e]
  simp only [okF, qbt]
  cases isName x.name <;> cases yj x.name ns <;> cases places x.columns x1.Columns.n <;> simp
theorem qfx {k : Nat} (m : Bool) (t : Table) (mp : List (PV × PV)) (X : Prop) (Y : S_x5 → List (PV × PV) → Prop) (hl : t.key.length < k) (hl' : t.key.length < 4611686018427387904) (hin : ∀ n ∈ t.key, 0 ≤ n ∧ n < (t.columns.length : Int)) :
  L_z3_2 (TT k) k (lst m (t.key.map eI)) ((lst m (t.key.map eI)).n : Nat) 0 (ak m t) mp X Y = br (t.key.all (iy t.columns)) (Y (ak m t) mp) X := by
 rw [cj (L := fun n i => L_z3_2 (TT k) n (lst m (t.key.map eI)) ((lst m (t.key.map eI)).n : Nat) i (ak m t) mp X Y) (m := t.key.length) (p := fun i => iy t.columns (t.key.getD i 0)) (fun n => ?_) (fun n i hi => ?_) hl]
 ·rw [da (q := iy t.columns) fun j hj => by simp [List.getD, hj]]
 ·simp [L_z3_2, B_z3_2]
 ·simp only [L_z3_2, B_z3_2]
  rw [bo (by omega)]
  have e : t.key.getD i 0 = t.key[i] := by simp [List.getD, hi]
  obtain ⟨h1, h2⟩ := hin t.key[i] (List.getElem_mem hi)
  have h3 : t.key[i].toNat < t.columns.length := by omega
  have hc : (ak m t).Columns = lst m (t.columns.map xb) := rfl
  simp only [Int.toNat_natCast, bt hi, ju, cy, List.length_map, Int.ofNat_lt, hi, Int.natCast_nonneg, true_and, decide_true, db, e, hc, h1, h2, bt h3, fc, dj]
  simp only [iy, List.getElem?_eq_getElem h3]
theorem S_z3 (k M : Nat) (hM : M < 4611686018427387904) (hk : M + 60 ≤ k) (m : Bool) (t : Table) (ht : t.Fits M) (K : Bool → Prop) : (TT k).f_z3 (ak m t) K = K (dp t) := by
 obtain ⟨k, rfl⟩ : ∃ k', k = k' + 2 := ⟨k - 2, by omega⟩
 show F_z3 (TT (k + 1)) (ak m t) K = _
 have hT := ht.key
 have e0 : ∀ K, (TT (k + 1)).f_z4 K = K [] := fun K => rfl
 have hn : (ak m t).Name = t.name := rfl
 have hc : (ak m t).Columns = lst m (t.columns.map xb) := rfl
 have hy : (ak m t).Key = lst m (t.key.map eI) := rfl
 have hi : (ak m t).Indexes = lst m (t.indexes.map (i3 m)) := rfl
 have hp : (ak m t).Part = t.part := rfl
 simp only [F_z3, S_z6 (k + 1) (by omega), e0, hn, fm, dp, hc, cy, List.length_map, hi]
 cases isName t.name
 ·rfl
 simp only [Bool.not_true, j9, Bool.true_and]
 by_cases h1 : 1 ≤ t.columns.length
 case neg =>
  have : t.columns.length = 0 := by omega
  simp [this]
 by_cases h2 : t.columns.length ≤ 16
 case neg =>
  have a : ((t.columns.length : Int) == 0) = false := beq_eq_false_iff_ne.2 (by omega)
  have b : decide ((t.columns.length : Int) > 16) = true := decide_eq_true (by omega)
  simp [a, b, h2]
 by_cases h3 : t.indexes.length ≤ 4
 case neg =>
  have a : ((t.columns.length : Int) == 0) = false := beq_eq_false_iff_ne.2 (by omega)
  have b : decide ((t.columns.length : Int) > 16) = false := decide_eq_false (by omega)
  have c : decide ((t.indexes.length : Int) > 4) = true := decide_eq_true (by omega)
  simp [a, b, c, h3]
 have a : ((t.columns.length : Int) == 0) = false := beq_eq_false_iff_ne.2 (by omega)
 have b : decide ((t.columns.length : Int) > 16) = false := decide_eq_false (by omega)
 have c : decide ((t.indexes.length : Int) > 4) = false := decide_eq_false (by omega)
 rw [a, b, c, decide_eq_true h1, decide_eq_true h2, decide_eq_true h3]
 simp only [j9, Bool.true_and]
 have f1 := fun X Y => qfw (k := k + 1) (by omega) m (ak m t) [] X Y t.columns [] (k + 1) [] [] (by omega) (by simp; omega) lp
 simp only [List.nil_append, List.length_nil, List.length_map] at f1
 have z : ((0 : Nat) : Int) = 0 := rfl
 rw [z] at f1
 rw [f1]
 cases okF qc2 (·.Name) [] t.columns
 ·rfl
 simp only [db, Bool.true_and, hy, hc, cy, List.length_map, hp, S_z8 (k + 1) m t.key _ (by omega) (by omega), qbb (k + 1) m t.key t.part (by omega) (by omega)]
 cases hpl : places t.key (t.columns.length : Int)
 ·rfl
 simp only [Bool.not_true, j9, Bool.true_and]
 cases t.key.any fun y => decide (t.part = y)
 ·rfl
 simp only [Bool.not_true, j9, Bool.true_and]
 have f2 := fun X Y => qfx (k := k + 1) m t [] X Y (by omega) (by omega) (m9 hpl)
 simp only [cy, List.length_map] at f2
 rw [f2]
 cases t.key.all (iy t.columns)
 ·rfl
 simp only [db, Bool.true_and, hi, cy, List.length_map]
 have f3 := fun X Y => qi0 (k := k + 1) hM (by omega) m (ak m t) X Y t.indexes ht.idx [] (k + 1) [] [] (by omega) (by simp; omega) lp
 simp only [List.nil_append, List.length_nil, List.length_map, hc, cy] at f3
 rw [z] at f3
 rw [f3, p2]
 cases okF (qbt (t.columns.length : Int)) (·.name) [] t.indexes <;> rfl
theorem qjz {k : Nat} (m : Bool) (t : Table) (X : Prop) (Y : S_x5 → List PV → Prop) (h16 : t.columns.length ≤ 16) (hk : 16 < k) :
  L_zx_0 (TT k) k 0 (ak m t) [] X Y = br (t.columns.all fun c => fu c.Type_) (Y (ak m t) (t.columns.map fun c => eS c.Name)) X := by
 refine mw (L := fun n i r => L_zx_0 (TT k) n i (ak m t) r X Y) (l := t.columns) (f := fun c => eS c.Name) (fun n r => ?_) (fun n i r hi hr => ?_) (by omega)
 ·simp [L_zx_0, B_zx_0, ak]
 ·simp only [L_zx_0, B_zx_0]
  rw [bo (by omega)]
  have hc : (ak m t).Columns = lst m (t.columns.map xb) := rfl
  have hb : (r.length + 1) * 16 ≤ 140737488355328 := by omega
  simp only [Int.toNat_natCast, hc, bt hi, fc, cy, List.length_map, Int.ofNat_lt, hi, Int.natCast_nonneg, true_and, decide_true, db, hb, nm, wc]
theorem qmj {k M : Nat} (m : Bool) (t : Table) (b : Bool) (X : Prop) (Y : Bool → List PV → Prop) (h4 : t.indexes.length ≤ 4) (hk : 60 ≤ k) :
  L_zx_4 (TT k) k b 0 (ak m t) [] X Y = br (t.indexes.all fun x => places x.columns t.columns.length) (Y b (t.indexes.map fun c => eS c.name)) X := by
 refine mw (L := fun n i r => L_zx_4 (TT k) n b i (ak m t) r X Y) (l := t.indexes) (f := fun c => eS c.name) (fun n r => ?_) (fun n i r hi hr => ?_) (by omega)
 ·simp [L_zx_4, B_zx_4, ak]
 ·simp only [L_zx_4, B_zx_4]
  rw [bo (by omega)]
  have hc : (ak m t).Columns = lst m (t.columns.map xb) := rfl
  have hx : (ak m t).Indexes = lst m (t.indexes.map (i3 m)) := rfl
  have hs : dd m t.indexes[i] = ⟨t.indexes[i].name, lst m (t.indexes[i].columns.map eI), t.indexes[i].unique⟩ := rfl
  have hb : (r.length + 1) * 16 ≤ 140737488355328 := by omega
  simp only [Int.toNat_natCast, hc, hx, bt hi, pc, hs, cy, List.length_map, Int.ofNat_lt, hi, Int.natCast_nonneg, true_and, decide_true, db, hb, nm, S_z12 k m _ _ (by omega), dj]
theorem qj0 {k : Nat} (m : Bool) (t : Table) (X : Prop) (Y : Bool → S_x5 → Prop) (hl' : t.key.length < 4611686018427387904) (hin : ∀ n ∈ t.key, 0 ≤ n ∧ n < (t.columns.length : Int)) :
  ∀ (l pre : List Int), t.key = pre ++ l → ∀ (b : Bool) (n : Nat), l.length < n → L_zx_2 (TT k) n b (pre.length : Nat) (ak m t) X Y = br (l.all (iy t.columns)) (Y (b || l.any fun y => decide (t.part = y)) (ak m t)) X := by
 intro l
 have hc : (ak m t).Columns = lst m (t.columns.map xb) := rfl
 have hy : (ak m t).Key = lst m (t.key.map eI) := rfl
 have hp : (ak m t).Part = t.part := rfl
 induction l with
 | nil =>
  intro pre e b n hn
  obtain ⟨n, rfl⟩ : ∃ n', n = n' + 1 := ⟨n - 1, by simp at hn; omega⟩
  simp [L_zx_2, B_zx_2, hy, e]
 | cons x l ih =>
  intro pre e b n hn
  simp only [List.length_cons] at hn
  obtain ⟨n, rfl⟩ : ∃ n', n = n' + 1 := ⟨n - 1, by omega⟩
  have hlen : t.key.length = pre.length + (l.length + 1) := by rw [e]; simp
  have hi : pre.length < t.key.length := by omega
  have hx : t.key[pre.length] = x := by simp [e]
  obtain ⟨h1, h2⟩ := hin x (by rw [e]; simp)
  have h3 : x.toNat < t.columns.length := by omega
  simp only [L_zx_2, B_zx_2]
  rw [bo (by omega)]
  have f := fun b => ih (pre ++ [x]) (by rw [e]; simp) b n (by omega)
  simp only [gg] at f
  simp only [Int.toNat_natCast, hy, bt hi, hx, ju, cy, List.length_map, Int.ofNat_lt, hi, Int.natCast_nonneg, true_and, decide_true, db, hc, h1, h2, bt h3, fc, hp, f]
  have e2 : (x == t.part) = decide (t.part = x) := by
   by_cases h : t.part = x
   ·simp [h]
   ·have : ¬ x = t.part := fun e => h e.symm
    simp [h, this]
  have e3 : iy t.columns x = t.columns[x.toNat].NotNull := by simp only [iy, List.getElem?_eq_getElem h3]
  rw [e2, List.all_cons, List.any_cons, e3]
  cases t.columns[x.toNat].NotNull <;> cases decide (t.part = x) <;> simp
theorem v8 (l : List S_x1) : okF qc2 (·.Name) [] l = (l.all (fun c => fu c.Type_) && iz (l.map (·.Name))) := kl (p := isName) (q := fun c : S_x1 => fu c.Type_) l
theorem yk (many : Int) (l : List Index) : okF (qbt many) (·.name) [] l = (l.all (fun x => places x.columns many) && iz (l.map (·.name))) := kl (p := isName) (q := fun x : Index => places x.columns many) l
theorem S_zx (k M : Nat) (hM : M < 4611686018427387904) (hk : M + 70 ≤ k) (m : Bool) (t : Table) (ht : t.Fits M) (K : Bool → Prop) : (TT k).f_zx (ak m t) K = K (dp t) := by
 obtain ⟨k, rfl⟩ : ∃ k', k = k' + 2 := ⟨k - 2, by omega⟩
 show F_zx (TT (k + 1)) (ak m t) K = _
 have hT := ht.key
 have hn : (ak m t).Name = t.name := rfl
 have hc : (ak m t).Columns = lst m (t.columns.map xb) := rfl
 have hy : (ak m t).Key = lst m (t.key.map eI) := rfl
 have hi : (ak m t).Indexes = lst m (t.indexes.map (i3 m)) := rfl
 simp only [F_zx, S_zy (k + 1) (by omega), hn, fm, dp, hc, cy, List.length_map, hi, v8, yk]
 cases isName t.name
 ·rfl
 simp only [Bool.not_true, j9, Bool.true_and]
 by_cases h1 : 1 ≤ t.columns.length
 case neg =>
  have : t.columns.length = 0 := by omega
  simp [this]
 by_cases h2 : t.columns.length ≤ 16
 case neg =>
  have a : decide ((t.columns.length : Int) < 1) = false := decide_eq_false (by omega)
  have b : decide ((t.columns.length : Int) > 16) = true := decide_eq_true (by omega)
  simp [a, b, h2]
 by_cases h3 : t.indexes.length ≤ 4
 case neg =>
  have a : decide ((t.columns.length : Int) < 1) = false := decide_eq_false (by omega)
  have b : decide ((t.columns.length : Int) > 16) = false := decide_eq_false (by omega)
  have c : decide ((t.indexes.length : Int) > 4) = true := decide_eq_true (by omega)
  simp [a, b, c, h3]
 have a : decide ((t.columns.length : Int) < 1) = false := decide_eq_false (by omega)
 have b : decide ((t.columns.length : Int) > 16) = false := decide_eq_false (by omega)
 have c : decide ((t.indexes.length : Int) > 4) = false := decide_eq_false (by omega)
 rw [a, b, c, decide_eq_true h1, decide_eq_true h2, decide_eq_true h3]
 simp only [j9, Bool.true_and, qjz m t _ _ h2 (show 16 < k + 1 by omega)]
 cases t.columns.all fun c => fu c.Type_
 ·rfl
 have g1 : t.columns.map (fun c => eS c.Name) = (t.columns.map (·.Name)).map eS := by simp [List.map_map, Function.comp_def]
 simp only [db, Bool.true_and, g1, S_z11 (k + 1) (t.columns.map (·.Name)) (by simpa using h2) (by omega), hy, hc, cy, List.length_map, S_z12 (k + 1) m t.key _ (by omega)]
 cases iz (t.columns.map (·.Name))
 ·rfl
 simp only [Bool.not_true, j9, Bool.true_and]
 cases hpl : places t.key (t.columns.length : Int)
 ·rfl
 simp only [Bool.not_true, j9, Bool.true_and]
 have f2 := fun X Y => qj0 (k := k + 1) m t X Y (by omega) (m9 hpl) t.key [] rfl false (k + 1) (by omega)
 simp only [List.length_nil, Bool.false_or] at f2
 have z : ((0 : Nat) : Int) = 0 := rfl
 rw [z] at f2
 rw [f2]
 cases t.key.all (iy t.columns)
 ·simp
 simp only [db, Bool.and_true]
 have g2 : t.indexes.map (fun c => eS c.name) = (t.indexes.map (·.name)).map eS := by simp [List.map_map, Function.comp_def]
 rw [qmj (M := M) m t _ _ _ h3 (by omega), g2]
 cases t.indexes.all fun x => places x.columns (t.columns.length : Int)
 ·simp
 simp only [db, Bool.true_and, S_z11 (k + 1) (t.indexes.map (·.name)) (by simp; omega) (by omega)]
 cases t.key.any fun y => decide (t.part = y) <;> cases iz (t.indexes.map (·.name)) <;> rfl
end Go.RX
namespace Go.RX
def qd1 (c : S_x3) : Bool := isName c.Name && fu c.Type_
def mo (s : ByteArray) : Bool := decide (1 ≤ s.size) && decide (s.size ≤ 1000)
def within (n most : Int) : Bool := decide (0 ≤ n) && decide (n ≤ most)
def ix (p : zb) : Bool := isName p.name && decide (p.params.length ≤ 8) && decide (1 ≤ p.body.length) && decide (p.body.length ≤ 8) && within p.rows 1048576 && within p.bytes 1048576 && okF qd1 (·.Name) [] p.params && p.body.all mo
theorem qfy {k : Nat} (hk : 31 ≤ k) (x1 : S_x7) (m : Bool) (X : Prop) (Y : S_x7 → Prop) (l : List S_x3) : ∀ (pre : List PV) (n : Nat) (mp : List (PV × PV)) (ns : List ByteArray), l.length < n → pre.length + l.length < 4611686018427387904 → j5 eS mp (oa ns) →
  L_z1_0 (TT k) n (lst m (pre ++ l.map jv)) ((pre ++ l.map jv).length : Nat) (pre.length : Nat) x1 mp X Y = br (okF qd1 (·.Name) ns l) (Y x1) X := by
 induction l with
 | nil =>
  intro pre n mp ns hn _ _
  obtain ⟨n, rfl⟩ : ∃ n', n = n' + 1 := ⟨n - 1, by simp at hn; omega⟩
  simp [L_z1_0, B_z1_0, okF]
 | cons x l ih =>
  intro pre n mp ns hn hp hm
  simp only [List.length_cons] at hn hp
  obtain ⟨n, rfl⟩ : ∃ n', n = n' + 1 := ⟨n - 1, by omega⟩
  simp only [L_z1_0, B_z1_0]
  rw [bo (by omega)]
  have e := ih (pre ++ [jv x]) n (nj (eS x.Name) (.bool true) mp) (x.Name :: ns) (by omega) (by simp; omega) (lq qd hm x.Name)
  simp only [gd, gg] at e
  simp only [List.map_cons, ot, decide_true, db, cy, Int.natCast_nonneg, true_and, Int.toNat_natCast, m3, ia, zh, qch k (by omega) x.Name hm, qcj k (by omega)]
  rw [e]
  simp only [okF, qd1]
  cases isName x.Name <;> cases yj x.Name ns <;> cases fu x.Type_ <;> simp
theorem xd (k : Nat) (hk : 1 ≤ k) (s : ByteArray) (K : Bool → Prop) : (TT k).f_z2 s K = K (!mo s) := by
 obtain ⟨k, rfl⟩ : ∃ k', k = k' + 1 := ⟨k - 1, by omega⟩
 show F_z2 (TT k) s K = _
 simp only [F_z2, qca, p2]
 have e1 : decide (s = noB) = !decide (1 ≤ s.size) := by rw [← decide_not]; exact decide_eq_decide.2 (by rw [qhv]; omega)
 have e2 : decide ((s.size : Int) > 1000) = !decide (s.size ≤ 1000) := by rw [← decide_not]; exact decide_eq_decide.2 (by omega)
 rw [e1, e2, mo]
 cases decide (1 ≤ s.size) <;> cases decide (s.size ≤ 1000) <;> rfl
theorem qe7 (k : Nat) (m : Bool) (l : List ByteArray) (hl : l.length < 4611686018427387904) (hk : l.length + 10 ≤ k) (K : Bool → Prop) : (TT k).f_z1e (lst m (l.map eS)) K = K (!l.all mo) := by
 obtain ⟨k, rfl⟩ : ∃ k', k = k' + 3 := ⟨k - 3, by omega⟩
 have : (TT (k + 3)).f_z1e (lst m (l.map eS)) K = L_z1j_0 (TT (k + 1)) (k + 1) (lst m (l.map eS)) (((lst m (l.map eS)).n : Nat) : Int) 0 (fun n => K (decide (n ≥ 0))) (K (decide ((-1 : Int) ≥ 0))) := rfl
 rw [this, ke (L := fun n i => L_z1j_0 (TT (k + 1)) n (lst m (l.map eS)) (((lst m (l.map eS)).n : Nat) : Int) i (fun n => K (decide (n ≥ 0))) (K (decide ((-1 : Int) ≥ 0)))) (m := l.length) (F := fun n => K (decide (n ≥ 0))) (p := fun i => !mo (l.getD i noB)) (fun n => ?_) (fun n i hi => ?_) (by omega)]
 ·rw [fi, fg]
  congr 2
  rw [da (q := mo) fun j hj => by simp [List.getD, hj]]
 ·simp [L_z1j_0, B_z1j_0]
 ·simp only [L_z1j_0, B_z1j_0]
  rw [bo (by omega)]
  have e : l.getD i noB = l[i] := by simp [List.getD, hi]
  simp only [Int.toNat_natCast, bt hi, qcs, cy, List.length_map, Int.ofNat_lt, hi, Int.natCast_nonneg, true_and, decide_true, db, e, xd (k + 1) (by omega)]
theorem S_z1 (k : Nat) (hk : 70 ≤ k) (m : Bool) (p : zb) (K : Bool → Prop) : (TT k).f_z1 (cr m p) K = K (ix p) := by
 obtain ⟨k, rfl⟩ : ∃ k', k = k' + 2 := ⟨k - 2, by omega⟩
 show F_z1 (TT (k + 1)) (cr m p) K = _
 have e0 : ∀ K, (TT (k + 1)).f_z4 K = K [] := fun K => rfl
 have hn : (cr m p).Name = p.name := rfl
 have hc : (cr m p).Params = lst m (p.params.map jv) := rfl
 have hy : (cr m p).Body = lst m (p.body.map eS) := rfl
 have hr : (cr m p).Rows = p.rows := rfl
 have hb : (cr m p).Bytes = p.bytes := rfl
 simp only [F_z1, S_z6 (k + 1) (by omega), e0, hn, fm, ix, hc, cy, List.length_map, hy, hr, hb]
 have a1 : decide ((p.params.length : Int) > 8) = !decide (p.params.length ≤ 8) := by rw [← decide_not]; exact decide_eq_decide.2 (by omega)
 have a2 : ((p.body.length : Int) == 0) = !decide (1 ≤ p.body.length) := by
  rw [← decide_not, Bool.eq_iff_iff]; simp only [beq_iff_eq, decide_eq_true_eq]; omega
 have a3 : decide ((p.body.length : Int) > 8) = !decide (p.body.length ≤ 8) := by rw [← decide_not]; exact decide_eq_decide.2 (by omega)
 have a4 : decide (p.rows < 0) = !decide (0 ≤ p.rows) := by rw [← decide_not]; exact decide_eq_decide.2 (by omega)
 have a5 : decide (p.rows > 1048576) = !decide (p.rows ≤ 1048576) := by rw [← decide_not]; exact decide_eq_decide.2 (by omega)
 have a6 : decide (p.bytes < 0) = !decide (0 ≤ p.bytes) := by rw [← decide_not]; exact decide_eq_decide.2 (by omega)
 have a7 : decide (p.bytes > 1048576) = !decide (p.bytes ≤ 1048576) := by rw [← decide_not]; exact decide_eq_decide.2 (by omega)
 rw [a1, a2, a3, a4, a5, a6, a7]
 simp only [dj, within]
 cases isName p.name
 ·rfl
 cases h1 : decide (p.params.length ≤ 8)
 ·rfl
 cases decide (1 ≤ p.body.length)
 ·rfl
 cases h2 : decide (p.body.length ≤ 8)
 ·rfl
 cases decide (0 ≤ p.rows)
 ·rfl
 cases decide (p.rows ≤ 1048576)
 ·rfl
 cases decide (0 ≤ p.bytes)
 ·rfl
 cases decide (p.bytes ≤ 1048576)
 ·rfl
 have h1' := of_decide_eq_true h1
 have h2' := of_decide_eq_true h2
 simp only [db, Bool.true_and]
 have f1 := fun X Y => qfy (k := k + 1) (by omega) (cr m p) m X Y p.params [] (k + 1) [] [] (by omega) (by simp; omega) lp
 simp only [List.nil_append, List.length_nil, List.length_map] at f1
 have z : ((0 : Nat) : Int) = 0 := rfl
 rw [z] at f1
 rw [f1]
 cases okF qd1 (·.Name) [] p.params
 ·rfl
 simp only [db, hy, qe7 (k + 1) m p.body (by omega) (by omega), Bool.not_not, Bool.true_and]
theorem S_z10 (k : Nat) (hk : 1 ≤ k) (n most : Int) (K : Bool → Prop) : (TT k).f_z10 n 0 most K = K (within n most) := by
 obtain ⟨k, rfl⟩ : ∃ k', k = k' + 1 := ⟨k - 1, by omega⟩
 show F_z10 (TT k) n 0 most K = _
 simp only [F_z10, within, p2]
 have : decide (n ≥ 0) = decide (0 ≤ n) := rfl
 rw [this]
 cases decide (0 ≤ n) <;> rfl
theorem qj1 {k : Nat} (m : Bool) (p : zb) (X : Prop) (Y : S_x7 → List PV → Prop) (h8 : p.params.length ≤ 8) (hk : 16 < k) :
  L_zw_0 (TT k) k 0 (cr m p) [] X Y = br (p.params.all fun c => fu c.Type_) (Y (cr m p) (p.params.map fun c => eS c.Name)) X := by
 refine mw (L := fun n i r => L_zw_0 (TT k) n i (cr m p) r X Y) (l := p.params) (f := fun c => eS c.Name) (fun n r => ?_) (fun n i r hi hr => ?_) (by omega)
 ·simp [L_zw_0, B_zw_0, cr]
 ·simp only [L_zw_0, B_zw_0]
  rw [bo (by omega)]
  have hc : (cr m p).Params = lst m (p.params.map jv) := rfl
  have hb : (r.length + 1) * 16 ≤ 140737488355328 := by omega
  simp only [Int.toNat_natCast, hc, bt hi, zh, cy, List.length_map, Int.ofNat_lt, hi, Int.natCast_nonneg, true_and, decide_true, db, hb, nm, wc]
theorem qd3 {k : Nat} (m : Bool) (p : zb) (r : List PV) (X : Prop) (Y : List PV → Prop) (h8 : p.body.length ≤ 8) (hk : 16 < k) :
  L_zw_2 (TT k) k 0 (cr m p) r X Y = br (p.body.all mo) (Y r) X := by
 refine qdm (L := fun n i => L_zw_2 (TT k) n i (cr m p) r X Y) (l := p.body) (fun n => ?_) (fun n i hi => ?_) (by omega)
 ·simp [L_zw_2, B_zw_2, cr]
 ·simp only [L_zw_2, B_zw_2]
  rw [bo (by omega)]
  have hc : (cr m p).Body = lst m (p.body.map eS) := rfl
  have e1 : decide ((p.body[i].size : Int) < 1) = !decide (1 ≤ p.body[i].size) := by rw [← decide_not]; exact decide_eq_decide.2 (by omega)
  have e2 : decide ((p.body[i].size : Int) > 1000) = !decide (p.body[i].size ≤ 1000) := by rw [← decide_not]; exact decide_eq_decide.2 (by omega)
  simp only [Int.toNat_natCast, hc, bt hi, qcs, cy, List.length_map, Int.ofNat_lt, hi, Int.natCast_nonneg, true_and, decide_true, db, e1, e2, dj, mo]
  cases decide (1 ≤ p.body[i].size) <;> cases decide (p.body[i].size ≤ 1000) <;> rfl
theorem wa (l : List S_x3) : okF qd1 (·.Name) [] l = (l.all (fun c => fu c.Type_) && iz (l.map (·.Name))) := kl (p := isName) (q := fun c : S_x3 => fu c.Type_) l
theorem S_zw (k : Nat) (hk : 70 ≤ k) (m : Bool) (p : zb) (K : Bool → Prop) : (TT k).f_zw (cr m p) K = K (ix p) := by
 obtain ⟨k, rfl⟩ : ∃ k', k = k' + 2 := ⟨k - 2, by omega⟩
 show F_zw (TT (k + 1)) (cr m p) K = _
 have hn : (cr m p).Name = p.name := rfl
 have hc : (cr m p).Params = lst m (p.params.map jv) := rfl
 have hy : (cr m p).Body = lst m (p.body.map eS) := rfl
 have hr : (cr m p).Rows = p.rows := rfl
 have hb : (cr m p).Bytes = p.bytes := rfl
 simp only [F_zw, S_zy (k + 1) (by omega), S_z10 (k + 1) (by omega), hn, fm, ix, hc, cy, List.length_map, hy, hr, hb, wa]
 have a1 : decide ((p.params.length : Int) > 8) = !decide (p.params.length ≤ 8) := by rw [← decide_not]; exact decide_eq_decide.2 (by omega)
 have a2 : decide ((p.body.length : Int) < 1) = !decide (1 ≤ p.body.length) := by rw [← decide_not]; exact decide_eq_decide.2 (by omega)
 have a3 : decide ((p.body.length : Int) > 8) = !decide (p.body.length ≤ 8) := by rw [← decide_not]; exact decide_eq_decide.2 (by omega)
 rw [a1, a2, a3]
 simp only [dj]
 cases isName p.name
 ·rfl
 cases within p.rows 1048576
 ·simp
 cases within p.bytes 1048576
 ·simp
 cases h1 : decide (p.params.length ≤ 8)
 ·rfl
 cases decide (1 ≤ p.body.length)
 ·rfl
 cases h2 : decide (p.body.length ≤ 8)
 ·rfl
 have h1' := of_decide_eq_true h1
 have h2' := of_decide_eq_true h2
 have g1 : p.params.map (fun c => eS c.Name) = (p.params.map (·.Name)).map eS := by simp [List.map_map, Function.comp_def]
 simp only [db, Bool.true_and, qj1 m p _ _ h1' (show 16 < k + 1 by omega), qd3 m p _ _ _ h2' (show 16 < k + 1 by omega), g1, S_z11 (k + 1) (p.params.map (·.Name)) (by simp; omega) (by omega)]
 cases p.params.all fun c => fu c.Type_
 ·rfl
 cases p.body.all mo
 ·simp
 simp
end Go.RX
namespace Go.RX
def qcb (t : Table) : Bool := isName t.name && dp t
def wg (t : zb) : Bool := isName t.name && ix t
def cn (c : cg) : Bool := decide (c.tables.length ≤ 8) && decide (c.procs.length ≤ 16) && okF qcb (·.name) [] c.tables && okF wg (·.name) [] c.procs
def cg.Fits (M : Nat) (c : cg) : Prop := ∀ t ∈ c.tables, t.Fits M
theorem qfz {k M : Nat} (hM : M < 4611686018427387904) (hk : M + 70 ≤ k) (x1 : S_x0) (m2 : List (PV × PV)) (m : Bool) (X : Prop) (Y : S_x0 → List (PV × PV) → Prop) (l : List Table) (hl : ∀ t ∈ l, t.Fits M) : ∀ (pre : List PV) (n : Nat) (mp : List (PV × PV)) (ns : List ByteArray), l.length < n → pre.length + l.length < 4611686018427387904 → j5 eS mp (oa ns) →
  L_z0_0 (TT k) n (lst m (pre ++ l.map (i4 m))) ((pre ++ l.map (i4 m)).length : Nat) (pre.length : Nat) x1 mp m2 X Y = br (okF qcb (·.name) ns l) (Y x1 m2) X := by
 induction l with
 | nil =>
  intro pre n mp ns hn _ _
  obtain ⟨n, rfl⟩ : ∃ n', n = n' + 1 := ⟨n - 1, by simp at hn; omega⟩
  simp [L_z0_0, B_z0_0, okF]
 | cons x l ih =>
  intro pre n mp ns hn hp hm
  simp only [List.length_cons] at hn hp
  obtain ⟨n, rfl⟩ : ∃ n', n = n' + 1 := ⟨n - 1, by omega⟩
  simp only [L_z0_0, B_z0_0]
  rw [bo (by omega)]
  have e := ih (fun y hy => hl y (.tail _ hy)) (pre ++ [i4 m x]) n (nj (eS x.name) (.bool true) mp) (x.name :: ns) (by omega) (by simp; omega) (lq qd hm x.name)
  simp only [gd, gg] at e
  have hn : (ak m x).Name = x.name := rfl
  simp only [List.map_cons, ot, decide_true, db, cy, Int.natCast_nonneg, true_and, Int.toNat_natCast, m3, ia, mm, hn, qch k (by omega) x.name hm, S_z3 k M hM (by omega) m x (hl x (.head _))]
  rw [e]
  simp only [okF, qcb]
  cases isName x.name <;> cases yj x.name ns <;> cases dp x <;> simp
theorem qcx {k : Nat} (hk : 70 ≤ k) (m : Bool) (X Y : Prop) (l : List zb) : ∀ (pre : List PV) (n : Nat) (mp : List (PV × PV)) (ns : List ByteArray), l.length < n → pre.length + l.length < 4611686018427387904 → j5 eS mp (oa ns) →
  L_z0_2 (TT k) n (lst m (pre ++ l.map (o4 m))) ((pre ++ l.map (o4 m)).length : Nat) (pre.length : Nat) mp X Y = br (okF wg (·.name) ns l) Y X := by
 induction l with
 | nil =>
  intro pre n mp ns hn _ _
  obtain ⟨n, rfl⟩ : ∃ n', n = n' + 1 := ⟨n - 1, by simp at hn; omega⟩
  simp [L_z0_2, B_z0_2, okF]
 | cons x l ih =>
  intro pre n mp ns hn hp hm
  simp only [List.length_cons] at hn hp
  obtain ⟨n, rfl⟩ : ∃ n', n = n' + 1 := ⟨n - 1, by omega⟩
  simp only [L_z0_2, B_z0_2]
  rw [bo (by omega)]
  have e := ih (pre ++ [o4 m x]) n (nj (eS x.name) (.bool true) mp) (x.name :: ns) (by omega) (by simp; omega) (lq qd hm x.name)
  simp only [gd, gg] at e
  have hn : (cr m x).Name = x.name := rfl
  simp only [List.map_cons, ot, decide_true, db, cy, Int.natCast_nonneg, true_and, Int.toNat_natCast, m3, ia, qct, hn, qch k (by omega) x.name hm, S_z1 k (by omega) m x]
  rw [e]
  simp only [okF, wg]
  cases isName x.name <;> cases yj x.name ns <;> cases ix x <;> simp
theorem S_z0 (k M : Nat) (hM : M < 4611686018427387904) (hk : M + 80 ≤ k) (m : Bool) (c : cg) (hc : c.Fits M) (K : Bool → Prop) : (TT k).f_z0 (az m c) K = K (cn c) := by
 obtain ⟨k, rfl⟩ : ∃ k', k = k' + 2 := ⟨k - 2, by omega⟩
 show F_z0 (TT (k + 1)) (az m c) K = _
 have e0 : ∀ K, (TT (k + 1)).f_z4 K = K [] := fun K => rfl
 have ht : (az m c).Tables = lst m (c.tables.map (i4 m)) := rfl
 have hp : (az m c).Procs = lst m (c.procs.map (o4 m)) := rfl
 simp only [F_z0, e0, fm, cn, ht, hp, cy, List.length_map]
 have a1 : decide ((c.tables.length : Int) > 8) = !decide (c.tables.length ≤ 8) := by rw [← decide_not]; exact decide_eq_decide.2 (by omega)
 have a2 : decide ((c.procs.length : Int) > 16) = !decide (c.procs.length ≤ 16) := by rw [← decide_not]; exact decide_eq_decide.2 (by omega)
 rw [a1, a2]
 simp only [dj]
 cases h1 : decide (c.tables.length ≤ 8)
 ·rfl
 cases h2 : decide (c.procs.length ≤ 16)
 ·rfl
 have h1' := of_decide_eq_true h1
 have h2' := of_decide_eq_true h2
 simp only [db, Bool.true_and]
 have z : ((0 : Nat) : Int) = 0 := rfl
 have f1 := fun X Y => qfz (k := k + 1) hM (by omega) (az m c) [] m X Y c.tables hc [] (k + 1) [] [] (by omega) (by simp; omega) lp
 simp only [List.nil_append, List.length_nil, List.length_map] at f1
 rw [z] at f1
 rw [f1]
 cases okF qcb (·.name) [] c.tables
 ·rfl
 have f2 := fun X Y => qcx (k := k + 1) (by omega) m X Y c.procs [] (k + 1) [] [] (by omega) (by simp; omega) lp
 simp only [List.nil_append, List.length_nil, List.length_map] at f2
 rw [z] at f2
 simp only [db, hp, cy, List.length_map, f2, p2, Bool.true_and]
 cases okF wg (·.name) [] c.procs <;> rfl
theorem qj2 {k M : Nat} (hM : M < 4611686018427387904) (hk : M + 80 ≤ k) (m : Bool) (c : cg) (hc : c.Fits M) (X : Prop) (Y : S_x0 → List PV → Prop) (h8 : c.tables.length ≤ 8) :
  L_zz_0 (TT k) k 0 (az m c) [] X Y = br (c.tables.all dp) (Y (az m c) (c.tables.map fun t => eS t.name)) X := by
 refine mw (L := fun n i r => L_zz_0 (TT k) n i (az m c) r X Y) (l := c.tables) (f := fun c => eS c.name) (fun n r => ?_) (fun n i r hi hr => ?_) (by omega)
 ·simp [L_zz_0, B_zz_0, az]
 ·simp only [L_zz_0, B_zz_0]
  rw [bo (by omega)]
  have ht : (az m c).Tables = lst m (c.tables.map (i4 m)) := rfl
  have hn : ∀ t, (ak m t).Name = t.name := fun _ => rfl
  have hb : (r.length + 1) * 16 ≤ 140737488355328 := by omega
  simp only [Int.toNat_natCast, ht, bt hi, mm, cy, List.length_map, Int.ofNat_lt, hi, Int.natCast_nonneg, true_and, decide_true, db, hb, nm, hn, dj, S_zx k M hM (by omega) m c.tables[i] (hc _ (List.getElem_mem hi))]
theorem qg3 {k : Nat} (hk : 80 ≤ k) (m : Bool) (c : cg) (r0 : List PV) (X : Prop) (Y : List PV → List PV → Prop) (h8 : c.procs.length ≤ 16) :
  L_zz_2 (TT k) k 0 (az m c) r0 [] X Y = br (c.procs.all ix) (Y r0 (c.procs.map fun t => eS t.name)) X := by
 refine mw (L := fun n i r => L_zz_2 (TT k) n i (az m c) r0 r X Y) (l := c.procs) (E := Y r0) (f := fun c => eS c.name) (fun n r => ?_) (fun n i r hi hr => ?_) (by omega)
 ·simp [L_zz_2, B_zz_2, az]
 ·simp only [L_zz_2, B_zz_2]
  rw [bo (by omega)]
  have ht : (az m c).Procs = lst m (c.procs.map (o4 m)) := rfl
  have hn : ∀ t, (cr m t).Name = t.name := fun _ => rfl
  have hb : (r.length + 1) * 16 ≤ 140737488355328 := by omega
  simp only [Int.toNat_natCast, ht, bt hi, qct, cy, List.length_map, Int.ofNat_lt, hi, Int.natCast_nonneg, true_and, decide_true, db, hb, nm, hn, dj, S_zw k (by omega) m c.procs[i]]
theorem wb (l : List Table) : okF qcb (·.name) [] l = (l.all dp && iz (l.map (·.name))) := kl (p := isName) (q := dp) l
theorem ue (l : List zb) : okF wg (·.name) [] l = (l.all ix && iz (l.map (·.name))) := kl (p := isName) (q := ix) l
theorem S_zz (k M : Nat) (hM : M < 4611686018427387904) (hk : M + 90 ≤ k) (m : Bool) (c : cg) (hc : c.Fits M) (K : Bool → Prop) : (TT k).f_zz (az m c) K = K (cn c) := by
 obtain ⟨k, rfl⟩ : ∃ k', k = k' + 2 := ⟨k - 2, by omega⟩
 show F_zz (TT (k + 1)) (az m c) K = _
 have ht : (az m c).Tables = lst m (c.tables.map (i4 m)) := rfl
 have hp : (az m c).Procs = lst m (c.procs.map (o4 m)) := rfl
 simp only [F_zz, fm, cn, ht, hp, cy, List.length_map, wb, ue]
 have a1 : decide ((c.tables.length : Int) > 8) = !decide (c.tables.length ≤ 8) := by rw [← decide_not]; exact decide_eq_decide.2 (by omega)
 have a2 : decide ((c.procs.length : Int) > 16) = !decide (c.procs.length ≤ 16) := by rw [← decide_not]; exact decide_eq_decide.2 (by omega)
 rw [a1, a2]
 simp only [dj]
 cases h1 : decide (c.tables.length ≤ 8)
 ·rfl
 cases h2 : decide (c.procs.length ≤ 16)
 ·rfl
 have h1' := of_decide_eq_true h1
 have h2' := of_decide_eq_true h2
 have g1 : c.tables.map (fun c => eS c.name) = (c.tables.map (·.name)).map eS := by simp [List.map_map, Function.comp_def]
 have g2 : c.procs.map (fun c => eS c.name) = (c.procs.map (·.name)).map eS := by simp [List.map_map, Function.comp_def]
 simp only [db, Bool.true_and, qj2 hM (show M + 80 ≤ k + 1 by omega) m c hc _ _ h1', qg3 (show 80 ≤ k + 1 by omega) m c _ _ _ h2', g1, g2, S_z11 (k + 1) (c.tables.map (·.name)) (by simp; omega) (by omega), S_z11 (k + 1) (c.procs.map (·.name)) (by simp; omega) (by omega)]
 cases c.tables.all dp <;> cases c.procs.all ix <;> cases iz (c.tables.map (·.name)) <;> simp
structure qni (M : Nat) (l : List S_x3) : Prop where
 len : l.length ≤ M
 name : ∀ x ∈ l, x.Name.size ≤ M
end Go.RX
namespace Go.RX
theorem qdv (s : ByteArray) : (s.toList == (ByteArray.mk #[]).toList) = decide (s = noB) := qca s noB
def u2 (vk vi : Int) (vt : ByteArray) : Bool :=
 (decide (vk = 0) && decide (vi = 0) && decide (vt = noB)) || (decide (vk = 1) && decide (-4611686018427387904 ≤ vi) && decide (vi ≤ 4611686018427387904) && decide (vt = noB)) ||
 (decide (vk = 2) && decide (0 ≤ vi) && decide (vi ≤ 1) && decide (vt = noB)) || (decide (vk = 3) && decide (vi = 0) && decide (vt.size ≤ 64))
theorem fo (a b : Int) : (a == b) = decide (a = b) := by
 by_cases h : a = b <;> simp [h]
theorem iv (a b : Int) : (a != b) = !decide (a = b) := by
 rw [bne, fo]
theorem qqd (n : Int) : Int.fdiv n (2 ^ (min (1 : Int).toNat (IntKind.bits .i64))) = n / 2 := by
 have : (2 : Int) ^ (min (1 : Int).toNat (IntKind.bits .i64)) = 2 := by decide
 rw [this, Int.fdiv_eq_ediv_of_nonneg n (by decide : (0 : Int) ≤ 2)]
theorem S_z1q (k : Nat) (hk : 1 ≤ k) (vk vi : Int) (vt : ByteArray) (K : Bool → Prop) : (TT k).f_z1q ⟨vk, vi, vt⟩ K = K (u2 vk vi vt) := by
 obtain ⟨k, rfl⟩ : ∃ k', k = k' + 1 := ⟨k - 1, by omega⟩
 show F_z1q (TT k) ⟨vk, vi, vt⟩ K = _
 have a1 : decide (vi ≥ -4611686018427387904) = decide (-4611686018427387904 ≤ vi) := rfl
 have a2 : decide (vi / 2 = 0) = (decide (0 ≤ vi) && decide (vi ≤ 1)) := by
  rw [Bool.eq_iff_iff]; simp only [decide_eq_true_eq, Bool.and_eq_true]; omega
 have a3 : decide ((vt.size : Int) ≤ 64) = decide (vt.size ≤ 64) := decide_eq_decide.2 (by omega)
 have a0 : (0 : Int) ≤ 1 := by decide
 simp only [F_z1q, qdv, fo, qqd, a0, true_and, a2, a3, a1, p2, u2]
 by_cases h0 : vk = 0
 ·subst h0; simp
 by_cases h1 : vk = 1
 ·subst h1; cases decide (-4611686018427387904 ≤ vi) <;> cases decide (vi ≤ 4611686018427387904) <;> simp
 by_cases h2 : vk = 2
 ·subst h2; cases decide (0 ≤ vi) <;> cases decide (vi ≤ 1) <;> simp
 by_cases h3 : vk = 3
 ·subst h3; cases decide (vi = 0) <;> simp
 simp [h0, h1, h2, h3]
theorem S_zv (k : Nat) (hk : 1 ≤ k) (vk vi : Int) (vt : ByteArray) (K : Bool → Prop) : (TT k).f_zv ⟨vk, vi, vt⟩ K = K (u2 vk vi vt) := by
 obtain ⟨k, rfl⟩ : ∃ k', k = k' + 1 := ⟨k - 1, by omega⟩
 show F_zv (TT k) ⟨vk, vi, vt⟩ K = _
 have a1 : decide (vi ≥ -4611686018427387904) = decide (-4611686018427387904 ≤ vi) := rfl
 have a3 : decide ((vt.size : Int) ≤ 64) = decide (vt.size ≤ 64) := decide_eq_decide.2 (by omega)
 simp only [F_zv, qdv, fo, a3, a1, p2, u2]
 by_cases h0 : vk = 0
 ·subst h0; cases decide (vi = 0) <;> simp
 by_cases h1 : vk = 1
 ·subst h1; cases decide (-4611686018427387904 ≤ vi) <;> cases decide (vi ≤ 4611686018427387904) <;> simp
 by_cases h2 : vk = 2
 ·subst h2; simp
  by_cases h : vi = 0
  ·simp [h]
  ·by_cases h' : vi = 1
   ·simp [h']
   ·have : (decide (0 ≤ vi) && decide (vi ≤ 1)) = false := by
     rw [Bool.eq_false_iff]; simp only [ne_eq, Bool.and_eq_true, decide_eq_true_eq]; omega
    rw [this]
    simp [h, h']
 by_cases h3 : vk = 3
 ·subst h3; cases decide (vi = 0) <;> simp
 simp [h0, h1, h2, h3]
def Expr.Fits (M : Nat) : Nat → Expr → Prop
 | 0, _ => True
 | d + 1, e => e.name.size ≤ M ∧ e.table.size ≤ M ∧ ∀ x ∈ e.kids, Expr.Fits M d x
end Go.RX
