/- The law in plain Lean, with no program in sight. No condition. -/
import Derived.Test.YtacceochippkaaaGreatDoorGa
import Derived.Laws.RangeString
import Derived.Lib.DecodeN
import Derived.Test.YtacceochippkaaaGreatDoorGe
set_option linter.all false
namespace Go.RX
@[simp] theorem db (x y : Prop) : br true x y = x := rfl
@[simp] theorem ef (x y : Prop) : br false x y = y := rfl
theorem gb (b : Bool) (x y : Prop) : br (!b) x y = br b y x := by cases b <;> rfl
theorem ug {α : Type} (K : α → Prop) (b : Bool) (x y : α) : br b (K x) (K y) = K (bif b then x else y) := by cases b <;> rfl
theorem qdj (b : Bool) (x y : Prop) : br b x y = if b = true then x else y := by cases b <;> rfl
theorem qkk {n : Int} (h1 : -9223372036854775808 ≤ n) (h2 : n < 9223372036854775808) : W n = n := by
 simp only [W, IntKind.wrap, IntKind.signed, IntKind.bits]
 simp
 split <;> omega
theorem bw {n : Nat} (h : n < 4611686018427387904) : W ((n : Int) + 1) = ((n + 1 : Nat) : Int) := by
 rw [qkk] <;> omega
theorem xh {p q : Prop} (h : p) : (p ∧ q) = q := by simp [h]
def bs (s : ByteArray) : List UInt8 := s.data.toList
@[simp] theorem qtm (s : ByteArray) : (bs s).length = s.size := by
 simp only [bs]
 rfl
theorem qkt {a b : ByteArray} (h : bs a = bs b) : a = b := by
 cases a
 cases b
 simp only [bs] at h
 congr 1
 exact Array.toList_inj.1 h
theorem qey (s : ByteArray) : s.toList = bs s := ByteArray.toList_eq s
instance : DecidableEq ByteArray := fun a b => decidable_of_iff (bs a = bs b) ⟨qkt, fun h => by rw [h]⟩
theorem zy (a b : ByteArray) : (a.toList == b.toList) = decide (a = b) := by
 rw [qey, qey]
 by_cases h : a = b
 ·subst h
  simp
 ·rw [decide_eq_false h, beq_eq_false_iff_ne]
  exact fun e => h (qkt e)
abbrev noB : ByteArray := ByteArray.mk #[]
theorem qld {s : ByteArray} : s = noB ↔ s.size = 0 := by
 constructor
 ·rintro rfl
  rfl
 ·intro h
  apply qkt
  have : (bs s).length = 0 := by simpa using h
  rw [List.length_eq_zero_iff.1 this]
  rfl
@[simp] theorem bo (m : Bool) (l : List PV) : (lst m l).n = l.length := rfl
@[simp] theorem ja0 (m : Bool) (l : List PV) : (lst m l).m = m := rfl
theorem ow (m : Bool) (l : List PV) (i : Nat) : (lst m l).g i = l.getD i .nilp := rfl
theorem fl {α : Type} (p : List α) (x : α) (r : List α) (d : α) : (p ++ x :: r).getD p.length d = x := by
 simp [List.getD]
theorem qdp (s : ByteArray) (i : Nat) (h : i < s.size) (hb : cb s i < 128) : ((Utf8.decode s i).1 : Int) = cb s i ∧ (Utf8.decode s i).2 = 1 := by
 have e : cb s i = ((s[i]'h).toNat : Int) := by
  unfold cb
  have : s.data.toList[i]? = some (s[i]'h) := by
   rw [List.getElem?_eq_getElem (by simpa using h)]
   rfl
  rw [this]
  rfl
 have hb' : (s[i]'h).toNat < 128 := by omega
 rw [decode_ascii s i h hb', e]
 exact ⟨rfl, rfl⟩
theorem qjb (s : ByteArray) (i : Nat) (h : i < s.size) (hb : 128 ≤ cb s i) : 128 ≤ (Utf8.decode s i).1 := by
 have e : cb s i = ((s.get! i).toNat : Int) := by
  unfold cb
  have : s.data.toList[i]? = some (s[i]'h) := by
   rw [List.getElem?_eq_getElem (by simpa using h)]
   rfl
  rw [this]
  have : s.get! i = s[i]'h := by
   cases s
   simp only [ByteArray.get!]
   exact getElem!_pos _ i h
  rw [this]
  rfl
 rw [Lib.decode_at]
 have hb' : ¬ (s.get! i).toNat < 128 := by omega
 simp only [Lib.decodeN, if_neg hb']
 repeat' split
 all_goals first | omega | simp_all <;> omega
end Go.RX
namespace Go.RX
def ko (p : Nat → Bool) : Nat → Nat → Bool
 | _, 0 => true
 | i, d + 1 => p i && ko p (i + 1) d
theorem qb2 {p : Nat → Bool} : ∀ {d i : Nat}, ko p i d = true ↔ ∀ j, i ≤ j → j < i + d → p j = true
 | 0, i => ⟨fun _ j h1 h2 => by omega, fun _ => rfl⟩
 | d + 1, i => by
  simp only [ko, Bool.and_eq_true, qb2 (d := d)]
  constructor
  ·rintro ⟨h1, h2⟩ j h3 h4
   by_cases e : j = i
   ·exact e ▸ h1
   ·exact h2 j (by omega) (by omega)
  ·intro h
   exact ⟨h i (Nat.le_refl _) (by omega), fun j h1 h2 => h j (by omega) (by omega)⟩
theorem qi0 {p q : Nat → Bool} {i d : Nat} (h : ∀ j, i ≤ j → j < i + d → p j = q j) : ko p i d = ko q i d := by
 induction d generalizing i with
 | zero => rfl
 | succ d ih =>
  simp only [ko]
  rw [h i (Nat.le_refl _) (by omega), ih fun j h1 h2 => h j (by omega) (by omega)]
theorem ph {L : Nat → Int → Prop} {m : Nat} {E X : Prop} {p : Nat → Bool} (h0 : ∀ n, L (n + 1) (m : Nat) = E)
  (h1 : ∀ n i : Nat, i < m → L (n + 1) i = br (p i) (L n ((i + 1 : Nat) : Int)) X) : ∀ d n i : Nat, i + d = m → d < n → L n i = br (ko p i d) E X
 | 0, n + 1, i, e, _ => by
  have : i = m := by omega
  subst this
  rw [h0]
  rfl
 | d + 1, n + 1, i, e, hn => by
  rw [h1 n i (by omega), ph h0 h1 d n (i + 1) (by omega) (by omega)]
  simp only [ko]
  cases p i <;> rfl
def ur (p : Nat → Bool) : Nat → Nat → Option Nat
 | _, 0 => none
 | i, d + 1 => bif p i then some i else ur p (i + 1) d
theorem uu {p : Nat → Bool} : ∀ {d i : Nat}, ur p i d = none ↔ ko (fun j => !p j) i d = true
 | 0, i => by simp [ur, ko]
 | d + 1, i => by
  simp only [ur, ko]
  cases p i
  ·simpa using uu
  ·simp
theorem qhy {L : Nat → Int → Prop} {m : Nat} {E : Prop} {F : Int → Prop} {p : Nat → Bool} (h0 : ∀ n, L (n + 1) (m : Nat) = E)
  (h1 : ∀ n i : Nat, i < m → L (n + 1) i = br (p i) (F i) (L n ((i + 1 : Nat) : Int))) : ∀ d n i : Nat, i + d = m → d < n → L n i = match ur p i d with | some j => F (j : Nat) | none => E
 | 0, n + 1, i, e, _ => by
  have : i = m := by omega
  subst this
  rw [h0]
  rfl
 | d + 1, n + 1, i, e, hn => by
  rw [h1 n i (by omega), qhy h0 h1 d n (i + 1) (by omega) (by omega)]
  simp only [ur]
  cases p i <;> rfl
def idxOf : Option Nat → Int
 | some j => (j : Nat)
 | none => -1
theorem qlp {L : Nat → Int → Prop} {m : Nat} {F : Int → Prop} {p : Nat → Bool} (h0 : ∀ n, L (n + 1) (m : Nat) = F (-1))
  (h1 : ∀ n i : Nat, i < m → L (n + 1) i = br (p i) (F i) (L n ((i + 1 : Nat) : Int))) (d n i : Nat) (e : i + d = m) (hn : d < n) : L n i = F (idxOf (ur p i d)) := by
 rw [qhy h0 h1 d n i e hn]
 cases ur p i d <;> rfl
theorem gq (o : Option Nat) : decide (idxOf o ≥ 0) = o.isSome := by
 cases o with
 | none => rfl
 | some j => simp [idxOf]
theorem gp {p : Nat → Bool} {d i : Nat} : (ur p i d).isSome = !ko (fun j => !p j) i d := by
 cases h : ur p i d with
 | none => rw [uu.1 h]; rfl
 | some j =>
  cases h' : ko (fun j => !p j) i d
  ·rfl
  ·rw [uu.2 h'] at h
   cases h
theorem gk {α : Type} {p : Nat → Bool} {q : α → Bool} : ∀ {l : List α} {i : Nat}, (∀ j (h : j < l.length), p (i + j) = q l[j]) → ko p i l.length = l.all q
 | [], _, _ => rfl
 | x :: l, i, h => by
  have h0 := h 0 (Nat.succ_pos _)
  simp only [Nat.add_zero, List.getElem_cons_zero] at h0
  simp only [List.length_cons, ko, List.all_cons, h0]
  rw [gk (l := l) (i := i + 1) fun j hj => ?_]
  have := h (j + 1) (by simpa using hj)
  simp only [List.getElem_cons_succ] at this
  rw [← this]
  congr 1
  omega
theorem sq {L : Nat → Int → Prop} {m : Nat} {E X : Prop} {p : Nat → Bool} (h0 : ∀ n, L (n + 1) (m : Nat) = E)
  (h1 : ∀ n i : Nat, i < m → L (n + 1) i = br (p i) (L n ((i + 1 : Nat) : Int)) X) {n : Nat} (hn : m < n) : L n 0 = br (ko p 0 m) E X :=
 ph h0 h1 m n 0 (by omega) hn
theorem jz {L : Nat → Int → Prop} {m : Nat} {F : Int → Prop} {p : Nat → Bool} (h0 : ∀ n, L (n + 1) (m : Nat) = F (-1))
  (h1 : ∀ n i : Nat, i < m → L (n + 1) i = br (p i) (F i) (L n ((i + 1 : Nat) : Int))) {n : Nat} (hn : m < n) : L n 0 = F (idxOf (ur p 0 m)) :=
 qlp h0 h1 m n 0 (by omega) hn
theorem ke {α : Type} (p : List α) (x : α) (r : List α) : ((p.length : Nat) : Int) < (((p ++ x :: r).length : Nat) : Int) := by simp; omega
theorem fi {α : Type} (p : List α) (x : α) (r : List α) : (p ++ [x]) ++ r = p ++ x :: r := by simp
theorem bz {α : Type} (p : List α) (x : α) : (p ++ [x]).length = p.length + 1 := by simp
def qs2 (g : Nat → PV) : Nat → Nat → List PV
 | _, 0 => []
 | i, d + 1 => g i :: qs2 g (i + 1) d
theorem qdt {α : Type} {g : Nat → PV} {f : α → PV} : ∀ {l : List α} {i : Nat}, (∀ j (h : j < l.length), g (i + j) = f l[j]) → qs2 g i l.length = l.map f
 | [], _, _ => rfl
 | x :: l, i, h => by
  have h0 := h 0 (Nat.succ_pos _)
  simp only [Nat.add_zero, List.getElem_cons_zero] at h0
  simp only [List.length_cons, qs2, List.map_cons, h0]
  rw [qdt (l := l) (i := i + 1) fun j hj => ?_]
  have := h (j + 1) (by simpa using hj)
  simp only [List.getElem_cons_succ] at this
  rw [← this]
  congr 1
  omega
theorem qlo {L : Nat → Int → List PV → Prop} {m : Nat} {E : List PV → Prop} {X : Prop} {p : Nat → Bool} {g : Nat → PV}
  (h0 : ∀ n r, L (n + 1) (m : Nat) r = E r) (h1 : ∀ (n i : Nat) (r : List PV), i < m → r.length = i → L (n + 1) i r = br (p i) (L n ((i + 1 : Nat) : Int) (r ++ [g i])) X) :
  ∀ (d n i : Nat) (r : List PV), i + d = m → r.length = i → d < n → L n i r = br (ko p i d) (E (r ++ qs2 g i d)) X
 | 0, n + 1, i, r, e, _, _ => by
  have : i = m := by omega
  subst this
  rw [h0]
  simp [ko, qs2]
 | d + 1, n + 1, i, r, e, hr, hn => by
  rw [h1 n i r (by omega) hr, qlo h0 h1 d n (i + 1) (r ++ [g i]) (by omega) (by simp [hr]) (by omega)]
  simp only [ko, qs2, fi]
  cases p i <;> rfl
theorem sn {α : Type} {L : Nat → Int → List PV → Prop} {l : List α} {E : List PV → Prop} {X : Prop} {q : α → Bool} {f : α → PV}
  (h0 : ∀ n r, L (n + 1) (l.length : Nat) r = E r) (h1 : ∀ (n i : Nat) (r : List PV) (hi : i < l.length), r.length = i → L (n + 1) i r = br (q l[i]) (L n ((i + 1 : Nat) : Int) (r ++ [f l[i]])) X) {n : Nat} (hn : l.length < n) :
  L n 0 [] = br (l.all q) (E (l.map f)) X := by
 have key := qlo (L := L) (m := l.length) (E := E) (X := X) (p := fun i => match l[i]? with | some x => q x | none => false) (g := fun i => match l[i]? with | some x => f x | none => .nilp) h0 (fun n i r hi hr => by
  rw [h1 n i r hi hr]
  simp only [List.getElem?_eq_getElem hi]) l.length n 0 [] (by omega) rfl hn
 have z : ((0 : Nat) : Int) = 0 := rfl
 rw [z] at key
 rw [key, qdt (f := f) (l := l) fun j hj => ?_, gk (q := q) fun j hj => ?_]
 ·rfl
 ·simp [hj]
 ·simp [hj]
theorem j0 {α : Type} {L : Nat → Int → Prop} {l : List α} {E X : Prop} {q : α → Bool} (h0 : ∀ n, L (n + 1) (l.length : Nat) = E)
  (h1 : ∀ (n i : Nat) (hi : i < l.length), L (n + 1) i = br (q l[i]) (L n ((i + 1 : Nat) : Int)) X) {n : Nat} (hn : l.length < n) : L n 0 = br (l.all q) E X := by
 rw [sq (L := L) (m := l.length) (E := E) (X := X) (p := fun i => match l[i]? with | some x => q x | none => false) h0 (fun n i hi => by
  rw [h1 n i hi]
  simp only [List.getElem?_eq_getElem hi]) hn, gk (q := q) fun j hj => by simp [hj]]
end Go.RX
namespace Go.RX
def lower (n : Int) : Bool := decide (97 ≤ n) && decide (n ≤ 122)
def digit (n : Int) : Bool := decide (48 ≤ n) && decide (n ≤ 57)
def ql5 (s : ByteArray) (i : Nat) : Bool := lower (cb s i) || (i != 0 && (digit (cb s i) || cb s i == 95))
def isName (s : ByteArray) : Bool := decide (1 ≤ s.size) && decide (s.size ≤ 16) && ko (ql5 s) 0 s.size
theorem ca (k : Nat) : (TT (k + 1)).fuel = k + 1 := rfl
theorem q18 {α : Type} {K : α → Prop} {Φ : α → Prop} {b : Bool} {X Y : Prop} (h1 : b = true → ∃ c, X = K c ∧ Φ c) (h2 : b = false → ∃ c, Y = K c ∧ Φ c) : ∃ c, br b X Y = K c ∧ Φ c := by
 cases b
 ·exact h2 rfl
 ·exact h1 rfl
theorem qj8 (k : Nat) (hk : 5 ≤ k) (n : Int) (K : Int → Prop) : ∃ c, (TT k).f_z1g n K = K c ∧ ((c = 3 ↔ lower n = true) ∧ (c = 2 ↔ digit n = true)) := by
 obtain ⟨k, rfl⟩ : ∃ k', k = k' + 5 := ⟨k - 5, by omega⟩
 show ∃ c, F_z1g (TT (k + 4)) n K = K c ∧ _
 have e : ∀ s c K, (TT (k + 4)).f_z2t s c K = K (yh s c) := fun s c K => rfl
 simp only [F_z1g, e, digit, lower, Bool.and_eq_true, decide_eq_true_eq]
 repeat' (refine q18 ?_ ?_ <;> intro)
 all_goals refine ⟨_, rfl, ?_⟩
 all_goals simp only [beq_iff_eq, decide_eq_true_eq, beq_eq_false_iff_ne, decide_eq_false_iff_not] at *
 all_goals first | omega | (simp only [true_iff]; omega)
theorem qq2 (k : Nat) (hk : 1 ≤ k) (n : Int) (K : Bool → Prop) : (TT k).f_z1r n K = K (lower n) := by
 obtain ⟨k, rfl⟩ : ∃ k', k = k' + 1 := ⟨k - 1, by omega⟩
 show F_z1r (TT k) n K = _
 simp only [F_z1r, ug, lower, ge_iff_le]
 cases decide (97 ≤ n) <;> simp
theorem qqz (k : Nat) (hk : 1 ≤ k) (n : Int) (K : Bool → Prop) : (TT k).f_z1q n K = K (digit n) := by
 obtain ⟨k, rfl⟩ : ∃ k', k = k' + 1 := ⟨k - 1, by omega⟩
 show F_z1q (TT k) n K = _
 simp only [F_z1q, ug, digit, ge_iff_le]
 cases decide (48 ≤ n) <;> simp
theorem S_z1p (k : Nat) (hk : 20 ≤ k) (s : ByteArray) (K : Bool → Prop) : (TT k).f_z1p s K = K (isName s) := by
 obtain ⟨k, rfl⟩ : ∃ k', k = k' + 1 := ⟨k - 1, by omega⟩
 show F_z1p (TT k) s K = _
 have hl : s.size ≤ 16 → L_z1p_0 (TT k) (TT k).fuel s 0 (K false) (K true) = br (ko (ql5 s) 0 s.size) (K true) (K false) := by
  intro hs
  obtain ⟨k, rfl⟩ : ∃ k', k = k' + 1 := ⟨k - 1, by omega⟩
  refine ph (L := fun n i => L_z1p_0 (TT (k + 1)) n s i (K false) (K true)) (m := s.size) (p := ql5 s) (fun n => ?_) (fun n i hi => ?_) s.size _ 0 (by omega) (by rw [ca]; omega)
  ·simp [L_z1p_0, B_z1p_0]
  ·simp only [L_z1p_0, B_z1p_0]
   rw [bw (by omega)]
   simp only [qq2 (k + 1) (by omega), qqz (k + 1) (by omega), Int.ofNat_lt, hi, Int.natCast_nonneg, true_and, decide_true, db, Int.toNat_natCast, ql5]
   cases lower (cb s i) <;> cases digit (cb s i) <;> cases i <;> simp [qdj] <;> omega
 simp only [F_z1p, isName]
 by_cases h1 : (s.size : Int) < 1
 ·rw [decide_eq_true h1, db, decide_eq_false (by omega)]
  rfl
 ·rw [decide_eq_false h1, ef]
  by_cases h2 : (s.size : Int) > 16
  ·rw [decide_eq_true h2, db, decide_eq_false (p := s.size ≤ 16) (by omega)]
   simp
  ·rw [decide_eq_false h2, ef, hl (by omega), decide_eq_true (by omega), decide_eq_true (by omega), ug]
   simp
theorem S_z1f (k : Nat) (s : ByteArray) (hk : s.size + 20 ≤ k) (hs : s.size < 4611686018427387904) (K : Bool → Prop) : (TT k).f_z1f s K = K (isName s) := by
 obtain ⟨k, rfl⟩ : ∃ k', k = k' + 2 := ⟨k - 2, by omega⟩
 show F_z1f (TT (k + 1)) s K = _
 have hl : ∀ (X : Prop) (Y : ByteArray → Prop), L_z1f_0 (TT (k + 1)) (TT (k + 1)).fuel s (s.size : Nat) 0 X Y = br (ko (ql5 s) 0 s.size) (Y s) X := by
  intro X Y
  refine ph (L := fun n i => L_z1f_0 (TT (k + 1)) n s (s.size : Nat) i X Y) (m := s.size) (p := ql5 s) (fun n => ?_) (fun n i hi => ?_) s.size _ 0 (by omega) (by rw [ca]; omega)
  ·simp [L_z1f_0, B_z1f_0]
  ·simp only [L_z1f_0, B_z1f_0]
   rw [bw (by omega)]
   simp only [Int.ofNat_lt, hi, Int.natCast_nonneg, true_and, decide_true, db, Int.toNat_natCast]
   obtain ⟨c, hc, h1, h2⟩ := qj8 (k + 1) (by omega) (cb s i) (fun _n3 => br (_n3 != (3 : Int)) (br (((i : Nat) : Int) == (0 : Int)) X (br (_n3 != (2 : Int)) (br ((cb s i) != (95 : Int)) X (L_z1f_0 (TT (k + 1)) n s (s.size : Nat) ((i + 1 : Nat) : Int) X Y)) (L_z1f_0 (TT (k + 1)) n s (s.size : Nat) ((i + 1 : Nat) : Int) X Y))) (L_z1f_0 (TT (k + 1)) n s (s.size : Nat) ((i + 1 : Nat) : Int) X Y))
   rw [hc]
   have e3 : (c != 3) = !lower (cb s i) := by
    cases h : lower (cb s i)
    ·simp [h] at h1; simpa using h1
    ·simp [h] at h1; simpa using h1
   have e2 : (c != 2) = !digit (cb s i) := by
    cases h : digit (cb s i)
    ·simp [h] at h2; simpa using h2
    ·simp [h] at h2; simpa using h2
   rw [e3, e2]
   simp only [ql5]
   cases lower (cb s i) <;> cases digit (cb s i) <;> cases i <;> simp [qdj] <;> omega
 simp only [F_z1f, hl, zy, gb]
 have e1 : decide (s = noB) = decide (s.size = 0) := decide_eq_decide.2 qld
 rw [e1, ug, ug]
 simp only [isName]
 by_cases h0 : s.size = 0
 ·simp [h0]
 ·rw [decide_eq_false h0, decide_eq_true (p := 1 ≤ s.size) (by omega)]
  simp only [cond_false, Bool.true_and]
  have : decide ((s.size : Int) ≤ 16) = decide (s.size ≤ 16) := decide_eq_decide.2 (by omega)
  rw [this]
  cases ko (ql5 s) 0 s.size <;> simp
def oj (s : ByteArray) (i : Nat) : Bool := cb s i == 95 || digit (cb s i) || lower (cb s i)
theorem qa1 (s : ByteArray) : isName s = (decide (1 ≤ s.size) && decide (s.size ≤ 16) && lower (cb s 0) && ko (oj s) 0 s.size) := by
 unfold isName
 by_cases h1 : 1 ≤ s.size
 ·rw [decide_eq_true h1]
  simp only [Bool.true_and]
  cases decide (s.size ≤ 16)
  ·rfl
  ·simp only [Bool.true_and]
   obtain ⟨d, hd⟩ : ∃ d, s.size = d + 1 := ⟨s.size - 1, by omega⟩
   rw [hd]
   simp only [ko]
   rw [qi0 (p := ql5 s) (q := oj s) fun j h2 h3 => ?_]
   ·simp only [ql5, oj, bne_self_eq_false, Bool.false_and, Bool.or_false]
    cases lower (cb s 0) <;> simp
   ·simp only [ql5, oj]
    have : (j != 0) = true := by simp; omega
    rw [this]
    cases lower (cb s j) <;> cases digit (cb s j) <;> simp
 ·simp [h1]
theorem S_z1k (k : Nat) (hk : 20 ≤ k) (s : ByteArray) (K : Bool → Prop) : (TT k).f_z1k s K = K (isName s) := by
 obtain ⟨k, rfl⟩ : ∃ k', k = k' + 2 := ⟨k - 2, by omega⟩
 show F_z1k (TT (k + 1)) s K = _
 have hl : s.size ≤ 16 → L_z1k_0 (TT (k + 1)) (TT (k + 1)).fuel s 0 (K false) (K true) = br (ko (oj s) 0 s.size) (K true) (K false) := by
  intro hs
  refine ph (L := fun n i => L_z1k_0 (TT (k + 1)) n s i (K false) (K true)) (m := s.size) (p := oj s) (fun n => ?_) (fun n i hi => ?_) s.size _ 0 (by omega) (by rw [ca]; omega)
  ·simp [L_z1k_0, B_z1k_0]
  ·simp only [L_z1k_0, B_z1k_0]
   rw [bw (by omega)]
   simp only [Int.ofNat_lt, hi, Int.natCast_nonneg, true_and, decide_true, db, Int.toNat_natCast, oj, lower, digit, qdj, bne_iff_ne, decide_eq_true_eq, Bool.or_eq_true, Bool.and_eq_true, beq_iff_eq]
   generalize cb s i = b
   by_cases h1 : b = 95
   ·simp [h1]
   ·by_cases h2 : b < 48
    ·simp [h1, h2]
     by_cases h3 : b < 97
     ·simp [h3]; omega
     ·exfalso; omega
    ·by_cases h3 : 57 < b
     ·by_cases h4 : b < 97
      ·simp [h1, h2, h3, h4]; try omega
      ·by_cases h5 : 122 < b
       ·simp [h1, h2, h3, h4, h5]; try omega
       ·simp [h1, h2, h3, h4, h5]; try omega
     ·simp [h1, h2, h3]; try omega
 simp only [F_z1k, qa1]
 by_cases h1 : (s.size : Int) < 1
 ·rw [decide_eq_true h1, db, decide_eq_false (by omega)]
  rfl
 ·rw [decide_eq_false h1, ef, decide_eq_true (p := 1 ≤ s.size) (by omega)]
  by_cases h2 : (s.size : Int) > 16
  ·rw [decide_eq_true h2, db, decide_eq_false (p := s.size ≤ 16) (by omega)]
   simp
  ·rw [decide_eq_false h2, ef, hl (by omega), decide_eq_true (p := s.size ≤ 16) (by omega), ug]
   have h3 : (0 : Int) < ((s.size : Nat) : Int) := by omega
   simp only [h3, Int.le_refl, true_and, ug, lower, Int.toNat_zero, Bool.true_and]
   have e1 : decide (cb s 0 < 97) = !decide (97 ≤ cb s 0) := by rw [← decide_not]; exact decide_eq_decide.2 (by omega)
   have e2 : decide (cb s 0 > 122) = !decide (cb s 0 ≤ 122) := by rw [← decide_not]; exact decide_eq_decide.2 (by omega)
   rw [e1, e2]
   cases decide (97 ≤ cb s 0) <;> cases decide (cb s 0 ≤ 122) <;> cases ko (oj s) 0 s.size <;> rfl
def qd5 (n : Int) : Bool := n == 95 || digit n || lower n
theorem S_z7 (k : Nat) (hk : 1 ≤ k) (n : Int) (K : Bool → Prop) : (TT k).f_z7 n K = K (!qd5 n) := by
 obtain ⟨k, rfl⟩ : ∃ k', k = k' + 1 := ⟨k - 1, by omega⟩
 show F_z7 (TT k) n K = _
 simp only [F_z7, qd5, digit, lower]
 have a1 : decide (n < 97) = !decide (97 ≤ n) := by rw [← decide_not]; exact decide_eq_decide.2 (by omega)
 have a2 : decide (n > 122) = !decide (n ≤ 122) := by rw [← decide_not]; exact decide_eq_decide.2 (by omega)
 have a3 : decide (n < 48) = !decide (48 ≤ n) := by rw [← decide_not]; exact decide_eq_decide.2 (by omega)
 have a4 : decide (n > 57) = !decide (n ≤ 57) := by rw [← decide_not]; exact decide_eq_decide.2 (by omega)
 have a5 : (n != 95) = !(n == 95) := rfl
 rw [a1, a2, a3, a4, a5]
 cases n == 95 <;> cases decide (97 ≤ n) <;> cases decide (n ≤ 122) <;> cases decide (48 ≤ n) <;> cases decide (n ≤ 57) <;> rfl
theorem qd6 (s : ByteArray) (i : Nat) : qd5 (cb s i) = oj s i := rfl
theorem qa9 {n : Int} (h : 128 ≤ n) : qd5 n = false := by
 simp only [qd5, digit, lower, Bool.or_eq_false_iff, Bool.and_eq_false_iff, decide_eq_false_iff_not, beq_eq_false_iff_ne]
 omega
theorem ra {k : Nat} (hk : 1 ≤ k) (s : ByteArray) {K0 : Int → Prop} {X K1 : Prop} (hX : ∀ j : Nat, K0 (j : Int) = X) : ∀ d n i : Nat, i + d = s.size → d < n →
  L_z2v_0 (TT k) n true s i K0 K1 = br (ko (oj s) i d) K1 X
 | 0, n + 1, i, e, _ => by
  have : ¬ i < s.size := by omega
  simp [L_z2v_0, B_z2v_0, this, ko]
 | d + 1, n + 1, i, e, hn => by
  have hi : i < s.size := by omega
  simp only [L_z2v_0, B_z2v_0, decide_eq_true hi, db, S_z7 k hk, hX, ko]
  by_cases hb : cb s i < 128
  ·obtain ⟨e1, e2⟩ := qdp s i hi hb
   rw [e1, e2, qd6, ra hk s hX d n (i + 1) (by omega) (by omega)]
   cases oj s i <;> rfl
  ·have hb' : 128 ≤ cb s i := by omega
   have e1 := qjb s i hi hb'
   rw [qa9 (by omega), ← qd6, qa9 hb']
   rfl
theorem S_z6 (k : Nat) (hk : 25 ≤ k) (s : ByteArray) (K : Bool → Prop) : (TT k).f_z6 s K = K (isName s) := by
 obtain ⟨k, rfl⟩ : ∃ k', k = k' + 5 := ⟨k - 5, by omega⟩
 show F_z6 (TT (k + 4)) s K = _
 simp only [F_z6, zy, qa1]
 have e1 : decide (s = noB) = decide (s.size = 0) := decide_eq_decide.2 qld
 rw [e1]
 by_cases h1 : s.size = 0
 ·simp [h1]
 ·rw [decide_eq_false h1, ef, decide_eq_true (p := 1 ≤ s.size) (by omega)]
  by_cases h2 : (s.size : Int) > 16
  ·rw [decide_eq_true h2, db, decide_eq_false (p := s.size ≤ 16) (by omega)]
   simp
  ·rw [decide_eq_false h2, ef, decide_eq_true (p := s.size ≤ 16) (by omega)]
   have e : ∀ K, (TT (k + 4)).f_z2s s K = L_z2v_0 (TT (k + 1)) (k + 1) true s 0 (fun n => K (decide (n ≥ 0))) (K (decide ((-1 : Int) ≥ 0))) := fun K => rfl
   simp only [e]
   rw [ra (X := K (!true)) (by omega) s (fun j => by rw [decide_eq_true (by omega)]) s.size _ 0 (by omega) (by omega)]
   have h3 : (0 : Int) < ((s.size : Nat) : Int) := by omega
   have e1 : decide (cb s 0 < 97) = !decide (97 ≤ cb s 0) := by rw [← decide_not]; exact decide_eq_decide.2 (by omega)
   have e2 : decide (cb s 0 > 122) = !decide (cb s 0 ≤ 122) := by rw [← decide_not]; exact decide_eq_decide.2 (by omega)
   simp only [h3, Int.le_refl, true_and, lower, Int.toNat_zero, Bool.true_and, e1, e2]
   have e3 : decide ((-1 : Int) ≥ 0) = false := by decide
   rw [e3]
   cases decide (97 ≤ cb s 0) <;> cases decide (cb s 0 ≤ 122) <;> cases ko (oj s) 0 s.size <;> rfl
end Go.RX
namespace Go.RX
def eI (n : Int) : PV := .int .i64 n
def eS (s : ByteArray) : PV := .str s
def gj (c : S_x4) : PV := .agg (p_x4 c)
def b8 (c : S_x7) : PV := .agg (p_x7 c)
def eu (c : S_xd) : PV := .agg (p_xd c)
structure Index where
 name : ByteArray
 columns : List Int
 unique : Bool
def ij (m : Bool) (x : Index) : S_x6 := ⟨x.name, lst m (x.columns.map eI), x.unique⟩
def jy (m : Bool) (x : Index) : PV := .agg (p_x6 (ij m x))
structure Table where
 name : ByteArray
 columns : List S_x4
 key : List Int
 part : Int
 indexes : List Index
def bm (m : Bool) (x : Table) : S_x8 := ⟨x.name, lst m (x.columns.map gj), lst m (x.key.map eI), x.part, lst m (x.indexes.map (jy m))⟩
def bp (m : Bool) (x : Table) : PV := .agg (p_x8 (bm m x))
structure qfb where
 name : ByteArray
 params : List S_x7
 body : List ByteArray
 rows : Int
 bytes : Int
def ev (m : Bool) (x : qfb) : S_xc := ⟨x.name, lst m (x.params.map b8), lst m (x.body.map eS), x.rows, x.bytes⟩
def gz (m : Bool) (x : qfb) : PV := .agg (p_xc (ev m x))
structure bg where
 tables : List Table
 procs : List qfb
def bh (m : Bool) (x : bg) : S_x1 := ⟨lst m (x.tables.map (bp m)), lst m (x.procs.map (gz m))⟩
inductive Expr where
 | mk (kind op fa mi : Int) (fq table name : ByteArray) (kids : List Expr) (at_ : Int)
namespace Expr
def kind : Expr → Int | mk k _ _ _ _ _ _ _ _ => k
def op : Expr → Int | mk _ k _ _ _ _ _ _ _ => k
def fa : Expr → Int | mk _ _ k _ _ _ _ _ _ => k
def mi : Expr → Int | mk _ _ _ k _ _ _ _ _ => k
def fq : Expr → ByteArray | mk _ _ _ _ k _ _ _ _ => k
def table : Expr → ByteArray | mk _ _ _ _ _ k _ _ _ => k
def name : Expr → ByteArray | mk _ _ _ _ _ _ k _ _ => k
def kids : Expr → List Expr | mk _ _ _ _ _ _ _ k _ => k
def at_ : Expr → Int | mk _ _ _ _ _ _ _ _ k => k
end Expr
mutual
def b7 (m : Bool) : Expr → PV
 | .mk k o vk vi vt t n kids a => .agg (p_xb ⟨k, o, vk, vi, vt, t, n, lst m (qhm m kids), a⟩)
def qhm (m : Bool) : List Expr → List PV
 | [] => []
 | x :: r => b7 m x :: qhm m r
end
theorem ui (m : Bool) : ∀ l : List Expr, qhm m l = l.map (b7 m)
 | [] => rfl
 | x :: r => by rw [qhm, ui m r]; rfl
def eb (m : Bool) (e : Expr) : S_xb := ⟨e.kind, e.op, e.fa, e.mi, e.fq, e.table, e.name, lst m (e.kids.map (b7 m)), e.at_⟩
theorem qla (m : Bool) (e : Expr) : b7 m e = .agg (p_xb (eb m e)) := by
 cases e
 rw [b7, ui]
 rfl
structure qaf where
 name : ByteArray
 expr : Expr
 at_ : Int
def vr (m : Bool) (x : qaf) : S_xg := ⟨x.name, x.expr.kind, x.expr.op, x.expr.fa, x.expr.mi, x.expr.fq, x.expr.table, x.expr.name, lst m (x.expr.kids.map (b7 m)), x.expr.at_, x.at_⟩
def v7 (m : Bool) (x : qaf) : PV := .agg (p_xg (vr m x))
structure Stmt where
 kind : Int
 table : ByteArray
 join : ByteArray
 on : List Expr
 where_ : List Expr
 items : List Expr
 star : Bool
 sets : List qaf
 groups : List Expr
 sorts : List S_xd
 limit : List Int
 at_ : Int
 joinAt : Int
def bx (m : Bool) (x : Stmt) : S_xe := ⟨x.kind, x.table, x.join, lst m (x.on.map (b7 m)), lst m (x.where_.map (b7 m)), lst m (x.items.map (b7 m)), x.star, lst m (x.sets.map (v7 m)), lst m (x.groups.map (b7 m)), lst m (x.sorts.map eu), lst m (x.limit.map eI), x.at_, x.joinAt⟩
inductive Term where
 | mk (op num cr fa mi : Int) (fq : ByteArray) (kids : List Term)
namespace Term
def op : Term → Int | mk k _ _ _ _ _ _ => k
def num : Term → Int | mk _ k _ _ _ _ _ => k
def cr : Term → Int | mk _ _ k _ _ _ _ => k
def fa : Term → Int | mk _ _ _ k _ _ _ => k
def mi : Term → Int | mk _ _ _ _ k _ _ => k
def fq : Term → ByteArray | mk _ _ _ _ _ k _ => k
def kids : Term → List Term | mk _ _ _ _ _ _ k => k
end Term
mutual
def bb (m : Bool) : Term → PV
 | .mk k o t vk vi vt kids => .agg (p_xf ⟨k, o, t, vk, vi, vt, lst m (qhn m kids)⟩)
def qhn (m : Bool) : List Term → List PV
 | [] => []
 | x :: r => bb m x :: qhn m r
end
theorem qat (m : Bool) : ∀ l : List Term, qhn m l = l.map (bb m)
 | [] => rfl
 | x :: r => by rw [qhn, qat m r]; rfl
def dd (m : Bool) (e : Term) : S_xf := ⟨e.op, e.num, e.cr, e.fa, e.mi, e.fq, lst m (e.kids.map (bb m))⟩
theorem qcf (m : Bool) (e : Term) : bb m e = .agg (p_xf (dd m e)) := by
 cases e
 rw [bb, qat]
 rfl
structure Typed where
 kind : Int
 tables : List Int
 on : List Term
 where_ : List Term
 items : List Term
 columns : List Int
 grouped : Bool
 groups : List Int
 sorts : List S_xd
 limit : List Int
 types : List Int
def bj (m : Bool) (x : Typed) : S_x9 := ⟨x.kind, lst m (x.tables.map eI), lst m (x.on.map (bb m)), lst m (x.where_.map (bb m)), lst m (x.items.map (bb m)), lst m (x.columns.map eI), x.grouped, lst m (x.groups.map eI), lst m (x.sorts.map eu), lst m (x.limit.map eI), lst m (x.types.map eI)⟩
@[simp] theorem fc (s : S_x4) (K : S_x4 → Prop) : as_x4 (gj s) K = K s := rfl
@[simp] theorem lv (s : S_x7) (K : S_x7 → Prop) : as_x7 (b8 s) K = K s := rfl
@[simp] theorem qb6 (s : S_xd) (K : S_xd → Prop) : as_xd (eu s) K = K s := rfl
@[simp] theorem qg7 (m : Bool) (x : Index) (K : S_x6 → Prop) : as_x6 (jy m x) K = K (ij m x) := rfl
@[simp] theorem i7 (m : Bool) (x : Table) (K : S_x8 → Prop) : as_x8 (bp m x) K = K (bm m x) := rfl
@[simp] theorem qkp (m : Bool) (x : qfb) (K : S_xc → Prop) : as_xc (gz m x) K = K (ev m x) := rfl
@[simp] theorem i6 (m : Bool) (x : Expr) (K : S_xb → Prop) : as_xb (b7 m x) K = K (eb m x) := by rw [qla]; rfl
@[simp] theorem qp5 (m : Bool) (x : qaf) (K : S_xg → Prop) : as_xg (v7 m x) K = K (vr m x) := rfl
@[simp] theorem gm (m : Bool) (x : Term) (K : S_xf → Prop) : as_xf (bb m x) K = K (dd m x) := by rw [qcf]; rfl
@[simp] theorem ig (n : Int) (K : Int → Prop) : bf (eI n) K = K n := rfl
@[simp] theorem qko (n : ByteArray) (K : ByteArray → Prop) : asS (eS n) K = K n := rfl
theorem qre (n : Int) : PV.int .i64 n = eI n := rfl
theorem rm (s : ByteArray) : PV.str s = eS s := rfl
theorem au {α : Type} {m : Bool} {l : List α} {f : α → PV} {i : Nat} (h : i < l.length) : (lst m (l.map f)).g i = f l[i] := by
 simp [ow, List.getD, h]
theorem td {α : Type} {l : List α} {f : α → PV} {i : Nat} {d : PV} (h : i < l.length) : (l.map f).getD i d = f l[i] := by
 simp [List.getD, h]
theorem o9 (a b : ByteArray) : eqK (.str a) (.str b) = decide (a = b) := by simp only [eqK, zy]
theorem qfv (k : IntKind) (a b : Int) : eqK (.int k a) (.int k b) = decide (a = b) := by
 simp only [eqK]
 by_cases h : a = b <;> simp [h]
theorem jd {α : Type} [DecidableEq α] {key : α → PV} (hk : ∀ a b, eqK (key a) (key b) = decide (a = b)) (a b : α) (v : PV) : ∀ m : List (PV × PV), (∀ p ∈ m, ∃ c, p.1 = key c) → look (key b) (m5 (key a) v m) = if b = a then some v else look (key b) m
 | [], _ => by
  simp only [m5, look, hk]
  by_cases h : b = a <;> simp [h]
 | (x, u) :: r, h => by
  obtain ⟨c, hc⟩ := h (x, u) (.head _)
  simp only at hc
  subst hc
  simp only [m5, hk]
  by_cases e : a = c
  ·subst e
   simp only [decide_true, look, hk]
   by_cases e' : b = a <;> simp [e']
  ·rw [decide_eq_false e]
   simp only [look, hk]
   by_cases e' : b = c
   ·subst e'
    have : ¬ b = a := fun h => e h.symm
    simp [this]
   ·rw [decide_eq_false e']
    exact jd hk a b v r fun p hp => h p (.tail _ hp)
theorem lh {α : Type} {key : α → PV} (a : α) (v : PV) : ∀ m : List (PV × PV), (∀ p ∈ m, ∃ c, p.1 = key c) → ∀ p ∈ m5 (key a) v m, ∃ c, p.1 = key c
 | [], _, p, hp => by
  simp only [m5, List.mem_singleton] at hp
  exact ⟨a, by rw [hp]⟩
 | (x, u) :: r, h, p, hp => by
  simp only [m5] at hp
  split at hp
  ·cases hp with
   | head => exact h (x, u) (.head _)
   | tail _ hp => exact h p (.tail _ hp)
  ·cases hp with
   | head => exact h (x, u) (.head _)
   | tail _ hp => exact lh a v r (fun p hp => h p (.tail _ hp)) p hp
structure fy {α : Type} (key : α → PV) (m : List (PV × PV)) (f : α → Option PV) : Prop where
 keys : ∀ p ∈ m, ∃ c, p.1 = key c
 look : ∀ a, look (key a) m = f a
theorem fy.nil {α : Type} {key : α → PV} : fy key [] fun _ => none := ⟨fun _ h => (by cases h), fun _ => rfl⟩
theorem fy.set {α : Type} [DecidableEq α] {key : α → PV} (hk : ∀ a b, eqK (key a) (key b) = decide (a = b)) {m : List (PV × PV)} {f : α → Option PV} (h : fy key m f) (a : α) (v : PV) :
  fy key (m5 (key a) v m) fun b => if b = a then some v else f b :=
 ⟨lh a v m h.keys, fun b => by rw [jd hk a b v m h.keys, h.look]⟩
end Go.RX
namespace Go.RX
def i5 {α : Type} [DecidableEq α] (x : α) (ns : List α) : Bool := ns.any fun y => decide (y = x)
theorem jv {α : Type} [DecidableEq α] {x : α} {ns : List α} : i5 x ns = true ↔ x ∈ ns := by simp [i5]
def okF {α β : Type} [DecidableEq α] (p : β → Bool) (key : β → α) : List α → List β → Bool
 | _, [] => true
 | ns, x :: l => p x && !i5 (key x) ns && okF p key (key x :: ns) l
theorem lj {α β : Type} [DecidableEq α] {p : β → Bool} {key : β → α} : ∀ {l : List β} {ns : List α}, okF p key ns l = true ↔ (∀ x ∈ l, p x = true) ∧ (l.map key).Nodup ∧ ∀ x ∈ l, key x ∉ ns
 | [], ns => by simp [okF]
 | x :: l, ns => by
  have e : (i5 (key x) ns = false) ↔ key x ∉ ns := by rw [← jv]; simp
  simp only [okF, Bool.and_eq_true, lj (l := l), Bool.not_eq_true', e, List.mem_cons, List.map_cons, List.nodup_cons, List.mem_map]
  constructor
  ·rintro ⟨⟨h1, h2⟩, h3, h4, h5⟩
   refine ⟨?_, ⟨?_, h4⟩, ?_⟩
   ·rintro y (rfl | hy)
    ·exact h1
    ·exact h3 y hy
   ·rintro ⟨y, hy, h⟩; exact h5 y hy (.inl h)
   ·rintro y (rfl | hy)
    ·exact h2
    ·exact fun h => h5 y hy (.inr h)
  ·rintro ⟨h1, ⟨h2, h3⟩, h4⟩
   refine ⟨⟨h1 x (.inl rfl), h4 x (.inl rfl)⟩, fun y hy => h1 y (.inr hy), h3, fun y hy h => ?_⟩
   rcases h with h | h
   ·exact h2 ⟨y, hy, h⟩
   ·exact h4 y (.inr hy) h
theorem qgf {α β : Type} [DecidableEq α] {p : β → Bool} {key : β → α} (d : β) (l : List β) : okF p key [] l = ko (fun i => p (l.getD i d) && ko (fun k => !decide (key (l.getD k d) = key (l.getD i d))) 0 i) 0 l.length := by
 rw [Bool.eq_iff_iff]
 rw [lj, qb2]
 simp only [Bool.and_eq_true, qb2, Bool.not_eq_true', decide_eq_false_iff_not]
 constructor
 ·rintro ⟨h1, h2, -⟩ j - hj
  have hj' : j < l.length := by omega
  refine ⟨h1 _ ?_, fun k _ hk => ?_⟩
  ·simp [List.getD, hj']
  ·have hk' : k < l.length := by omega
   simp only [List.getD, List.getElem?_eq_getElem hj', List.getElem?_eq_getElem hk', Option.getD_some]
   have := List.pairwise_iff_getElem.1 h2 k j (by simpa using hk') (by simpa using hj') (by omega)
   simpa using this
 ·intro h
  refine ⟨fun x hx => ?_, List.pairwise_iff_getElem.2 fun i j hi hj hij => ?_, fun _ _ h => by cases h⟩
  ·obtain ⟨i, hi, rfl⟩ := List.mem_iff_getElem.1 hx
   have := (h i (by omega) (by omega)).1
   simpa [List.getD, hi] using this
  ·simp only [List.length_map] at hi hj
   have := (h j (by omega) (by omega)).2 i (by omega) (by omega)
   simpa [List.getD, hi, hj] using this
theorem pz {α β : Type} [DecidableEq α] {p : α → Bool} {q : β → Bool} {key : β → α} (l : List β) : okF (fun x => p (key x) && q x) key [] l = (l.all q && okF p id [] (l.map key)) := by
 rw [Bool.eq_iff_iff]
 simp only [Bool.and_eq_true, lj, List.all_eq_true, List.mem_map, List.map_id_fun, id]
 constructor
 ·rintro ⟨h1, h2, -⟩
  refine ⟨fun x hx => (h1 x hx).2, ?_, h2, fun _ _ h => by cases h⟩
  rintro _ ⟨x, hx, rfl⟩
  exact (h1 x hx).1
 ·rintro ⟨h1, h2, h3, -⟩
  exact ⟨fun x hx => ⟨h2 _ ⟨x, hx, rfl⟩, h1 x hx⟩, h3, fun _ _ h => by cases h⟩
def mr (l : List ByteArray) : Bool := okF isName id [] l
theorem qgh (l : List ByteArray) : mr l = ko (fun i => isName (l.getD i noB) && ko (fun k => !decide (l.getD k noB = l.getD i noB)) 0 i) 0 l.length := qgf noB l
theorem S_z1n (k : Nat) (l : List ByteArray) (hl : l.length ≤ 16) (hk : 40 ≤ k) (K : Bool → List PV → Prop) : (TT k).f_z1n (l.map eS) K = K (mr l) (l.map eS) := by
 obtain ⟨k, rfl⟩ : ∃ k', k = k' + 2 := ⟨k - 2, by omega⟩
 show F_z1n (TT (k + 1)) (l.map eS) K = _
 have hin : ∀ (i : Nat), i < l.length → ∀ (X : List PV → Prop) (Y : Int → List PV → Prop), L_z1n_2 (TT (k + 1)) (TT (k + 1)).fuel i 0 (l.map eS) X Y = br (ko (fun k => !decide (l.getD k noB = l.getD i noB)) 0 i) (Y i (l.map eS)) (X (l.map eS)) := by
  intro i hi X Y
  refine ph (L := fun n j => L_z1n_2 (TT (k + 1)) n i j (l.map eS) X Y) (m := i) (p := fun k => !decide (l.getD k noB = l.getD i noB)) (fun n => ?_) (fun n j hj => ?_) i _ 0 (by omega) (by rw [ca]; omega)
  ·simp [L_z1n_2, B_z1n_2]
  ·have hj' : j < l.length := by omega
   simp only [L_z1n_2, B_z1n_2]
   rw [bw (by omega)]
   simp [hi, hj, hj', List.getD, zy, gb]
 simp only [F_z1n, qgh]
 have : L_z1n_0 (TT (k + 1)) (TT (k + 1)).fuel 0 (l.map eS) (fun r25 => K false r25) (fun r26 => K true r26) = br (ko (fun i => isName (l.getD i noB) && ko (fun k => !decide (l.getD k noB = l.getD i noB)) 0 i) 0 l.length) (K true (l.map eS)) (K false (l.map eS)) := by
  refine ph (L := fun n j => L_z1n_0 (TT (k + 1)) n j (l.map eS) (fun r25 => K false r25) (fun r26 => K true r26)) (m := l.length) (fun n => ?_) (fun n j hj => ?_) l.length _ 0 (by omega) (by rw [ca]; omega)
  ·simp [L_z1n_0, B_z1n_0]
  ·simp only [L_z1n_0, B_z1n_0]
   simp only [td hj, qko, List.length_map, Int.ofNat_lt, hj, Int.natCast_nonneg, true_and, decide_true, db, Int.toNat_natCast, S_z1k (k + 1) (by omega), hin j hj, gb]
   rw [bw (by omega)]
   have e : l.getD j noB = l[j] := by simp [List.getD, hj]
   rw [e]
   cases isName l[j] <;> simp
 rw [this]
 cases ko (fun i => isName (l.getD i noB) && ko (fun k => !decide (l.getD k noB = l.getD i noB)) 0 i) 0 l.length <;> rfl
def qa (many : Int) (n : Int) : Bool := decide (0 ≤ n) && decide (n < many)
def places (l : List Int) (many : Int) : Bool := decide (1 ≤ l.length) && decide (l.length ≤ 8) && okF (qa many) id [] l
theorem S_z1o (k : Nat) (m : Bool) (l : List Int) (many : Int) (hk : 40 ≤ k) (K : Bool → Prop) : (TT k).f_z1o (lst m (l.map eI)) many K = K (places l many) := by
 obtain ⟨k, rfl⟩ : ∃ k', k = k' + 2 := ⟨k - 2, by omega⟩
 show F_z1o (TT (k + 1)) _ many K = _
 simp only [F_z1o, places, bo, List.length_map]
 by_cases h1 : (l.length : Int) < 1
 ·rw [decide_eq_true h1, db, decide_eq_false (by omega)]
  rfl
 ·rw [decide_eq_false h1, ef, decide_eq_true (p := 1 ≤ l.length) (by omega)]
  by_cases h2 : (l.length : Int) > 8
  ·rw [decide_eq_true h2, db, decide_eq_false (p := l.length ≤ 8) (by omega)]
   simp
  ·rw [decide_eq_false h2, ef, decide_eq_true (p := l.length ≤ 8) (by omega), qgf (0 : Int)]
   have hin : ∀ (i : Nat), i < l.length → ∀ (X : Prop) (Y : Arr → Int → Int → Prop), L_z1o_2 (TT (k + 1)) (TT (k + 1)).fuel (lst m (l.map eI)) many i 0 X Y = br (ko (fun k => !decide (id (l.getD k 0) = id (l.getD i 0))) 0 i) (Y (lst m (l.map eI)) many i) X := by
    intro i hi X Y
    refine ph (L := fun n j => L_z1o_2 (TT (k + 1)) n (lst m (l.map eI)) many i j X Y) (m := i) (p := fun k => !decide (id (l.getD k 0) = id (l.getD i 0))) (fun n => ?_) (fun n j hj => ?_) i _ 0 (by omega) (by rw [ca]; omega)
    ·simp [L_z1o_2, B_z1o_2]
    ·have hj' : j < l.length := by omega
     simp only [L_z1o_2, B_z1o_2]
     rw [bw (by omega)]
     simp only [Int.toNat_natCast, au hi, au hj', ig, bo, List.length_map, Int.ofNat_lt, hi, hj, hj', Int.natCast_nonneg, true_and, decide_true, db, gb, List.getD, List.getElem?_eq_getElem hi, List.getElem?_eq_getElem hj', Option.getD_some, id]
     rfl
   rw [ca, sq (L := fun n j => L_z1o_0 (TT (k + 1)) n (lst m (l.map eI)) many j (K false) (K true)) (m := l.length) (n := k + 1) (p := fun i => qa many (l.getD i 0) && ko (fun k => !decide (id (l.getD k 0) = id (l.getD i 0))) 0 i) (fun n => ?_) (fun n j hj => ?_) (by omega)]
   ·cases ko (fun i => qa many (l.getD i 0) && ko (fun k => !decide (id (l.getD k 0) = id (l.getD i 0))) 0 i) 0 l.length <;> rfl
   ·simp [L_z1o_0, B_z1o_0]
   ·simp only [L_z1o_0, B_z1o_0]
    simp only [Int.toNat_natCast, au hj, ig, bo, List.length_map, Int.ofNat_lt, hj, Int.natCast_nonneg, true_and, decide_true, db, hin j hj]
    rw [bw (by omega)]
    have e : l.getD j 0 = l[j] := by simp [List.getD, hj]
    have e1 : decide (l[j] < 0) = !decide (0 ≤ l[j]) := by rw [← decide_not]; exact decide_eq_decide.2 (by omega)
    have e2 : decide (l[j] ≥ many) = !decide (l[j] < many) := by rw [← decide_not]; exact decide_eq_decide.2 (by omega)
    rw [e, e1, e2, qa]
    cases decide (0 ≤ l[j]) <;> cases decide (l[j] < many) <;> simp
def u5 {α : Type} [DecidableEq α] (ns : List α) (x : α) : Option PV := if i5 x ns = true then some (.bool true) else none
theorem qw {α : Type} [DecidableEq α] {key : α → PV} : fy key [] (u5 ([] : List α)) := fy.nil
theorem qx {α : Type} [DecidableEq α] {key : α → PV} (hk : ∀ a b, eqK (key a) (key b) = decide (a = b)) {m : List (PV × PV)} {ns : List α} (h : fy key m (u5 ns)) (x : α) : fy key (m5 (key x) (.bool true) m) (u5 (x :: ns)) := by
 refine ⟨lh x _ m h.keys, fun b => ?_⟩
 rw [jd hk x b _ m h.keys, h.look]
 simp only [u5, i5, List.any_cons]
 by_cases e : b = x
 ·simp [e]
 ·have : ¬ x = b := fun h => e h.symm
  simp [e, this]
theorem qih {α : Type} [DecidableEq α] {key : α → PV} {m : List (PV × PV)} {ns : List α} (h : fy key m (u5 ns)) (x : α) (K : Bool → Prop) : asB ((look (key x) m).getD (.bool false)) K = K (i5 x ns) := by
 rw [h.look, u5]
 cases i5 x ns <;> rfl
theorem S_z8 (k : Nat) (m : Bool) (l : List Int) (many : Int) (hl : l.length < 4611686018427387904) (hk : l.length + 40 ≤ k) (K : Bool → Prop) : (TT k).f_z8 (lst m (l.map eI)) many K = K (places l many) := by
 obtain ⟨k, rfl⟩ : ∃ k', k = k' + 2 := ⟨k - 2, by omega⟩
 show F_z8 (TT (k + 1)) _ many K = _
 have key : ∀ (X : Prop) (Y : Arr → Prop) (a : Arr) (l : List Int) (pre : List PV) (n : Nat) (mp : List (PV × PV)) (ns : List Int), l.length < n → pre.length + l.length < 4611686018427387904 → fy eI mp (u5 ns) →
   L_z8_0 (TT (k + 1)) n a many (lst m (pre ++ l.map eI)) ((pre ++ l.map eI).length : Nat) (pre.length : Nat) mp X Y = br (okF (qa many) id ns l) (Y a) X := by
  intro X Y a l
  induction l with
  | nil =>
   intro pre n mp ns hn _ _
   obtain ⟨n, rfl⟩ : ∃ n', n = n' + 1 := ⟨n - 1, by simp at hn; omega⟩
   simp [L_z8_0, B_z8_0, okF]
  | cons x l ih =>
   intro pre n mp ns hn hp hm
   simp only [List.length_cons] at hn hp
   obtain ⟨n, rfl⟩ : ∃ n', n = n' + 1 := ⟨n - 1, by omega⟩
   simp only [L_z8_0, B_z8_0]
   rw [bw (by omega)]
   have e := ih (pre ++ [eI x]) n (m5 (eI x) (.bool true) mp) (x :: ns) (by omega) (by simp; omega) (qx (qfv .i64) hm x)
   simp only [fi, bz] at e
   simp only [List.map_cons, ke, decide_true, db, bo, Int.natCast_nonneg, true_and, Int.toNat_natCast, ow, fl, ig, qre, qih hm]
   rw [e]
   have e1 : decide (x < 0) = !decide (0 ≤ x) := by rw [← decide_not]; exact decide_eq_decide.2 (by omega)
   have e2 : decide (x ≥ many) = !decide (x < many) := by rw [← decide_not]; exact decide_eq_decide.2 (by omega)
   simp only [okF, qa, e1, e2, id]
   cases decide (0 ≤ x) <;> cases decide (x < many) <;> cases i5 x ns <;> simp
 simp only [F_z8, places, bo, List.length_map, ca]
 have := key (K false) (fun a17 => br (decide (((a17.n : Nat) : Int) ≥ (1 : Int))) (K (decide (((a17.n : Nat) : Int) ≤ (8 : Int)))) (K false)) (lst m (l.map eI)) l [] (k + 1) [] [] (by omega) (by simpa using hl) qw
 simp only [List.nil_append, List.length_map, List.length_nil, bo] at this
 have e0 : ((0 : Nat) : Int) = 0 := rfl
 rw [e0] at this
 rw [this]
 have e1 : decide ((l.length : Int) ≥ 1) = decide (1 ≤ l.length) := decide_eq_decide.2 (by omega)
 have e2 : decide ((l.length : Int) ≤ 8) = decide (l.length ≤ 8) := decide_eq_decide.2 (by omega)
 rw [e1, e2]
 cases okF (qa many) id [] l <;> cases decide (1 ≤ l.length) <;> cases decide (l.length ≤ 8) <;> rfl
end Go.RX
namespace Go.RX
theorem qka (k : Nat) (hk : 30 ≤ k) (s : ByteArray) {m : List (PV × PV)} {ns : List ByteArray} (hm : fy eS m (u5 ns)) (K : Bool → List (PV × PV) → Prop) :
  (TT k).f_z5 s m K = K (isName s && !i5 s ns) (m5 (eS s) (.bool true) m) := by
 obtain ⟨k, rfl⟩ : ∃ k', k = k' + 1 := ⟨k - 1, by omega⟩
 show F_z5 (TT k) s m K = _
 simp only [F_z5, S_z6 k (by omega), rm, qih hm]
 cases isName s <;> rfl
def jj (n : Int) : Bool := decide (1 ≤ n) && decide (n ≤ 3)
theorem qkb (k : Nat) (hk : 1 ≤ k) (n : Int) (K : Bool → Prop) : (TT k).f_z9 n K = K (jj n) := by
 obtain ⟨k, rfl⟩ : ∃ k', k = k' + 1 := ⟨k - 1, by omega⟩
 show F_z9 (TT k) n K = _
 simp only [F_z9, jj, ug]
 have : decide (n ≥ 1) = decide (1 ≤ n) := rfl
 rw [this]
 cases decide (1 ≤ n) <;> rfl
theorem tk (n : Int) (X Y : Prop) : br (decide (n < 1)) X (br (decide (n > 3)) X Y) = br (jj n) Y X := by
 have e1 : decide (n < 1) = !decide (1 ≤ n) := by rw [← decide_not]; exact decide_eq_decide.2 (by omega)
 have e2 : decide (n > 3) = !decide (n ≤ 3) := by rw [← decide_not]; exact decide_eq_decide.2 (by omega)
 rw [e1, e2, jj]
 cases decide (1 ≤ n) <;> cases decide (n ≤ 3) <;> rfl
theorem qiy (k : Nat) (m : Bool) (l : List Int) (x : Int) (hl : l.length < 4611686018427387904) (hk : l.length + 10 ≤ k) (K : Bool → Prop) : (TT k).f_z2h (lst m (l.map eI)) x K = K (l.any fun y => decide (x = y)) := by
 obtain ⟨k, rfl⟩ : ∃ k', k = k' + 3 := ⟨k - 3, by omega⟩
 have : (TT (k + 3)).f_z2h (lst m (l.map eI)) x K = L_z2r_0 (TT (k + 1)) (k + 1) (lst m (l.map eI)) x (((lst m (l.map eI)).n : Nat) : Int) 0 (fun n => K (decide (n ≥ 0))) (K (decide ((-1 : Int) ≥ 0))) := rfl
 rw [this, jz (L := fun n i => L_z2r_0 (TT (k + 1)) n (lst m (l.map eI)) x (((lst m (l.map eI)).n : Nat) : Int) i (fun n => K (decide (n ≥ 0))) (K (decide ((-1 : Int) ≥ 0)))) (m := l.length) (F := fun n => K (decide (n ≥ 0))) (p := fun i => decide (x = l.getD i 0)) (fun n => ?_) (fun n i hi => ?_) (by omega)]
 ·rw [gq, gp]
  congr 1
  rw [gk (q := fun y => !decide (x = y)) fun j hj => by simp [List.getD, hj]]
  rw [Bool.eq_iff_iff]
  simp
 ·simp [L_z2r_0, B_z2r_0]
 ·simp only [L_z2r_0, B_z2r_0]
  rw [bw (by omega)]
  have e : l.getD i 0 = l[i] := by simp [List.getD, hi]
  have e2 : (x == l[i]) = decide (x = l[i]) := by
   by_cases h : x = l[i] <;> simp [h]
  simp only [Int.toNat_natCast, au hi, ig, bo, List.length_map, Int.ofNat_lt, hi, Int.natCast_nonneg, true_and, decide_true, db, e, e2]
def mo (cols : List S_x4) (n : Int) : Bool := match cols[n.toNat]? with
 | some c => c.NotNull
 | none => false
def qja (c : S_x4) : Bool := isName c.Name && jj c.Type_
def qln (many : Int) (x : Index) : Bool := isName x.name && places x.columns many
def iw (t : Table) : Bool := isName t.name && decide (1 ≤ t.columns.length) && decide (t.columns.length ≤ 16) && decide (t.indexes.length ≤ 4) && okF qja (·.Name) [] t.columns &&
 places t.key t.columns.length && (t.key.any fun y => decide (t.part = y)) && t.key.all (mo t.columns) && okF (qln t.columns.length) (·.name) [] t.indexes
structure Table.Fits (M : Nat) (t : Table) : Prop where
 key : t.key.length ≤ M
 idx : ∀ x ∈ t.indexes, x.columns.length ≤ M
theorem qee {l : List Int} {many : Int} (h : places l many = true) : ∀ n ∈ l, 0 ≤ n ∧ n < many := by
 simp only [places, Bool.and_eq_true, lj, qa, decide_eq_true_eq] at h
 exact h.2.1
theorem qn7 {k : Nat} (hk : 31 ≤ k) (m : Bool) (x1 : S_x8) (m2 : List (PV × PV)) (X : Prop) (Y : S_x8 → List (PV × PV) → Prop) (l : List S_x4) : ∀ (pre : List PV) (n : Nat) (mp : List (PV × PV)) (ns : List ByteArray), l.length < n → pre.length + l.length < 4611686018427387904 → fy eS mp (u5 ns) →
  L_z3_0 (TT k) n (lst m (pre ++ l.map gj)) ((pre ++ l.map gj).length : Nat) (pre.length : Nat) x1 mp m2 X Y = br (okF qja (·.Name) ns l) (Y x1 m2) X := by
 induction l with
 | nil =>
  intro pre n mp ns hn _ _
  obtain ⟨n, rfl⟩ : ∃ n', n = n' + 1 := ⟨n - 1, by simp at hn; omega⟩
  simp [L_z3_0, B_z3_0, okF]
 | cons x l ih =>
  intro pre n mp ns hn hp hm
  simp only [List.length_cons] at hn hp
  obtain ⟨n, rfl⟩ : ∃ n', n = n' + 1 := ⟨n - 1, by omega⟩
  simp only [L_z3_0, B_z3_0]
  rw [bw (by omega)]
  have e := ih (pre ++ [gj x]) n (m5 (eS x.Name) (.bool true) mp) (x.Name :: ns) (by omega) (by simp; omega) (qx o9 hm x.Name)
  simp only [fi, bz] at e
  simp only [List.map_cons, ke, decide_true, db, bo, Int.natCast_nonneg, true_and, Int.toNat_natCast, ow, fl, fc, qka k (by omega) x.Name hm, qkb k (by omega)]
  rw [e]
  simp only [okF, qja]
  cases isName x.Name <;> cases i5 x.Name ns <;> cases jj x.Type_ <;> simp
theorem qq9 {k : Nat} {M : Nat} (hM : M < 4611686018427387904) (hk : M + 50 ≤ k) (m : Bool) (x1 : S_x8) (X Y : Prop) (l : List Index) (hl : ∀ x ∈ l, x.columns.length ≤ M) : ∀ (pre : List PV) (n : Nat) (mp : List (PV × PV)) (ns : List ByteArray), l.length < n → pre.length + l.length < 4611686018427387904 → fy eS mp (u5 ns) →
  L_z3_4 (TT k) n (lst m (pre ++ l.map (jy m))) ((pre ++ l.map (jy m)).length : Nat) (pre.length : Nat) x1 mp X Y = br (okF (qln x1.Columns.n) (·.name) ns l) Y X := by
 induction l with
 | nil =>
  intro pre n mp ns hn _ _
  obtain ⟨n, rfl⟩ : ∃ n', n = n' + 1 := ⟨n - 1, by simp at hn; omega⟩
  simp [L_z3_4, B_z3_4, okF]
 | cons x l ih =>
  intro pre n mp ns hn hp hm
  simp only [List.length_cons] at hn hp
  obtain ⟨n, rfl⟩ : ∃ n', n = n' + 1 := ⟨n - 1, by omega⟩
  simp only [L_z3_4, B_z3_4]
  rw [bw (by omega)]
  have e := ih (fun y hy => hl y (.tail _ hy)) (pre ++ [jy m x]) n (m5 (eS x.name) (.bool true) mp) (x.name :: ns) (by omega) (by simp; omega) (qx o9 hm x.name)
  simp only [fi, bz] at e
  have hx := hl x (.head _)
  have hs : ij m x = ⟨x.name, lst m (x.columns.map eI), x.unique⟩ := rfl
  simp only [List.map_cons, ke, decide_true, db, bo, Int.natCast_nonneg, true_and, Int.toNat_natCast, ow, fl, qg7, hs, qka k (by omega) x.name hm, S_z8 k m x.columns _ (by omega) (by omega)]
  rw [e]
  simp only [okF, qln]
  cases isName x.name <;> cases i5 x.name ns <;> cases places x.columns x1.Columns.n <;> simp
theorem qn8 {k : Nat} (m : Bool) (t : Table) (mp : List (PV × PV)) (X : Prop) (Y : S_x8 → List (PV × PV) → Prop) (hl : t.key.length < k) (hl' : t.key.length < 4611686018427387904) (hin : ∀ n ∈ t.key, 0 ≤ n ∧ n < (t.columns.length : Int)) :
  L_z3_2 (TT k) k (lst m (t.key.map eI)) ((lst m (t.key.map eI)).n : Nat) 0 (bm m t) mp X Y = br (t.key.all (mo t.columns)) (Y (bm m t) mp) X := by
 rw [sq (L := fun n i => L_z3_2 (TT k) n (lst m (t.key.map eI)) ((lst m (t.key.map eI)).n : Nat) i (bm m t) mp X Y) (m := t.key.length) (p := fun i => mo t.columns (t.key.getD i 0)) (fun n => ?_) (fun n i hi => ?_) hl]
 ·rw [gk (q := mo t.columns) fun j hj => by simp [List.getD, hj]]
 ·simp [L_z3_2, B_z3_2]
 ·simp only [L_z3_2, B_z3_2]
  rw [bw (by omega)]
  have e : t.key.getD i 0 = t.key[i] := by simp [List.getD, hi]
  obtain ⟨h1, h2⟩ := hin t.key[i] (List.getElem_mem hi)
  have h3 : t.key[i].toNat < t.columns.length := by omega
  have hc : (bm m t).Columns = lst m (t.columns.map gj) := rfl
  simp only [Int.toNat_natCast, au hi, ig, bo, List.length_map, Int.ofNat_lt, hi, Int.natCast_nonneg, true_and, decide_true, db, e, hc, h1, h2, au h3, fc, gb]
  simp only [mo, List.getElem?_eq_getElem h3]
theorem S_z3 (k M : Nat) (hM : M < 4611686018427387904) (hk : M + 60 ≤ k) (m : Bool) (t : Table) (ht : t.Fits M) (K : Bool → Prop) : (TT k).f_z3 (bm m t) K = K (iw t) := by
 obtain ⟨k, rfl⟩ : ∃ k', k = k' + 2 := ⟨k - 2, by omega⟩
 show F_z3 (TT (k + 1)) (bm m t) K = _
 have hT := ht.key
 have e0 : ∀ K, (TT (k + 1)).f_z4 K = K [] := fun K => rfl
 have hn : (bm m t).Name = t.name := rfl
 have hc : (bm m t).Columns = lst m (t.columns.map gj) := rfl
 have hy : (bm m t).Key = lst m (t.key.map eI) := rfl
 have hi : (bm m t).Indexes = lst m (t.indexes.map (jy m)) := rfl
 have hp : (bm m t).Part = t.part := rfl
 simp only [F_z3, S_z6 (k + 1) (by omega), e0, hn, ca, iw, hc, bo, List.length_map, hi]
 cases isName t.name
 ·rfl
 simp only [Bool.not_true, ef, Bool.true_and]
 by_cases h1 : 1 ≤ t.columns.length
 case neg =>
  have : t.columns.length = 0 := by omega
  simp [this]
 by_cases h2 : t.columns.length ≤ 16
 case neg =>
  have a : ((t.columns.length : Int) == 0) = false := beq_eq_false_iff_ne.2 (by omega)
  have b : decide ((t.columns.length : Int) > 16) = true := decide_eq_true (by omega)
  simp [a, b, h2]
 by_cases h3 : t.indexes.length ≤ 4
 case neg =>
  have a : ((t.columns.length : Int) == 0) = false := beq_eq_false_iff_ne.2 (by omega)
  have b : decide ((t.columns.length : Int) > 16) = false := decide_eq_false (by omega)
  have c : decide ((t.indexes.length : Int) > 4) = true := decide_eq_true (by omega)
  simp [a, b, c, h3]
 have a : ((t.columns.length : Int) == 0) = false := beq_eq_false_iff_ne.2 (by omega)
 have b : decide ((t.columns.length : Int) > 16) = false := decide_eq_false (by omega)
 have c : decide ((t.indexes.length : Int) > 4) = false := decide_eq_false (by omega)
 rw [a, b, c, decide_eq_true h1, decide_eq_true h2, decide_eq_true h3]
 simp only [ef, Bool.true_and]
 have f1 := fun X Y => qn7 (k := k + 1) (by omega) m (bm m t) [] X Y t.columns [] (k + 1) [] [] (by omega) (by simp; omega) qw
 simp only [List.nil_append, List.length_nil, List.length_map] at f1
 have z : ((0 : Nat) : Int) = 0 := rfl
 rw [z] at f1
 rw [f1]
 cases okF qja (·.Name) [] t.columns
 ·rfl
 simp only [db, Bool.true_and, hy, hc, bo, List.length_map, hp, S_z8 (k + 1) m t.key _ (by omega) (by omega), qiy (k + 1) m t.key t.part (by omega) (by omega)]
 cases hpl : places t.key (t.columns.length : Int)
 ·rfl
 simp only [Bool.not_true, ef, Bool.true_and]
 cases t.key.any fun y => decide (t.part = y)
 ·rfl
 simp only [Bool.not_true, ef, Bool.true_and]
 have f2 := fun X Y => qn8 (k := k + 1) m t [] X Y (by omega) (by omega) (qee hpl)
 simp only [bo, List.length_map] at f2
 rw [f2]
 cases t.key.all (mo t.columns)
 ·rfl
 simp only [db, Bool.true_and, hi, bo, List.length_map]
 have f3 := fun X Y => qq9 (k := k + 1) hM (by omega) m (bm m t) X Y t.indexes ht.idx [] (k + 1) [] [] (by omega) (by simp; omega) qw
 simp only [List.nil_append, List.length_nil, List.length_map, hc, bo] at f3
 rw [z] at f3
 rw [f3, ug]
 cases okF (qln (t.columns.length : Int)) (·.name) [] t.indexes <;> rfl
theorem qsa {k : Nat} (m : Bool) (t : Table) (X : Prop) (Y : S_x8 → List PV → Prop) (h16 : t.columns.length ≤ 16) (hk : 16 < k) :
  L_z1j_0 (TT k) k 0 (bm m t) [] X Y = br (t.columns.all fun c => jj c.Type_) (Y (bm m t) (t.columns.map fun c => eS c.Name)) X := by
 refine sn (L := fun n i r => L_z1j_0 (TT k) n i (bm m t) r X Y) (l := t.columns) (f := fun c => eS c.Name) (fun n r => ?_) (fun n i r hi hr => ?_) (by omega)
 ·simp [L_z1j_0, B_z1j_0, bm]
 ·simp only [L_z1j_0, B_z1j_0]
  rw [bw (by omega)]
  have hc : (bm m t).Columns = lst m (t.columns.map gj) := rfl
  have hb : (r.length + 1) * 16 ≤ 140737488355328 := by omega
  simp only [Int.toNat_natCast, hc, au hi, fc, bo, List.length_map, Int.ofNat_lt, hi, Int.natCast_nonneg, true_and, decide_true, db, hb, rm, tk]
theorem qzk {k M : Nat} (m : Bool) (t : Table) (b : Bool) (X : Prop) (Y : Bool → List PV → Prop) (h4 : t.indexes.length ≤ 4) (hk : 60 ≤ k) :
  L_z1j_4 (TT k) k b 0 (bm m t) [] X Y = br (t.indexes.all fun x => places x.columns t.columns.length) (Y b (t.indexes.map fun c => eS c.name)) X := by
 refine sn (L := fun n i r => L_z1j_4 (TT k) n b i (bm m t) r X Y) (l := t.indexes) (f := fun c => eS c.name) (fun n r => ?_) (fun n i r hi hr => ?_) (by omega)
 ·simp [L_z1j_4, B_z1j_4, bm]
 ·simp only [L_z1j_4, B_z1j_4]
  rw [bw (by omega)]
  have hc : (bm m t).Columns = lst m (t.columns.map gj) := rfl
  have hx : (bm m t).Indexes = lst m (t.indexes.map (jy m)) := rfl
  have hs : ij m t.indexes[i] = ⟨t.indexes[i].name, lst m (t.indexes[i].columns.map eI), t.indexes[i].unique⟩ := rfl
  have hb : (r.length + 1) * 16 ≤ 140737488355328 := by omega
  simp only [Int.toNat_natCast, hc, hx, au hi, qg7, hs, bo, List.length_map, Int.ofNat_lt, hi, Int.natCast_nonneg, true_and, decide_true, db, hb, rm, S_z1o k m _ _ (by omega), gb]
theorem qsb {k : Nat} (m : Bool) (t : Table) (X : Prop) (Y : Bool → S_x8 → Prop) (hl' : t.key.length < 4611686018427387904) (hin : ∀ n ∈ t.key, 0 ≤ n ∧ n < (t.columns.length : Int)) :
  ∀ (l pre : List Int), t.key = pre ++ l → ∀ (b : Bool) (n : Nat), l.length < n → L_z1j_2 (TT k) n b (pre.length : Nat) (bm m t) X Y = br (l.all (mo t.columns)) (Y (b || l.any fun y => decide (t.part = y)) (bm m t)) X := by
 intro l
 have hc : (bm m t).Columns = lst m (t.columns.map gj) := rfl
 have hy : (bm m t).Key = lst m (t.key.map eI) := rfl
 have hp : (bm m t).Part = t.part := rfl
 induction l with
 | nil =>
  intro pre e b n hn
  obtain ⟨n, rfl⟩ : ∃ n', n = n' + 1 := ⟨n - 1, by simp at hn; omega⟩
  simp [L_z1j_2, B_z1j_2, hy, e]
 | cons x l ih =>
  intro pre e b n hn
  simp only [List.length_cons] at hn
  obtain ⟨n, rfl⟩ : ∃ n', n = n' + 1 := ⟨n - 1, by omega⟩
  have hlen : t.key.length = pre.length + (l.length + 1) := by rw [e]; simp
  have hi : pre.length < t.key.length := by omega
  have hx : t.key[pre.length] = x := by simp [e]
  obtain ⟨h1, h2⟩ := hin x (by rw [e]; simp)
  have h3 : x.toNat < t.columns.length := by omega
  simp only [L_z1j_2, B_z1j_2]
  rw [bw (by omega)]
  have f := fun b => ih (pre ++ [x]) (by rw [e]; simp) b n (by omega)
  simp only [bz] at f
  simp only [Int.toNat_natCast, hy, au hi, hx, ig, bo, List.length_map, Int.ofNat_lt, hi, Int.natCast_nonneg, true_and, decide_true, db, hc, h1, h2, au h3, fc, hp, f]
  have e2 : (x == t.part) = decide (t.part = x) := by
   by_cases h : t.part = x
   ·simp [h]
   ·have : ¬ x = t.part := fun e => h e.symm
    simp [h, this]
  have e3 : mo t.columns x = t.columns[x.toNat].NotNull := by simp only [mo, List.getElem?_eq_getElem h3]
  rw [e2, List.all_cons, List.any_cons, e3]
  cases t.columns[x.toNat].NotNull <;> cases decide (t.part = x) <;> simp
theorem qd9 (l : List S_x4) : okF qja (·.Name) [] l = (l.all (fun c => jj c.Type_) && mr (l.map (·.Name))) := pz (p := isName) (q := fun c : S_x4 => jj c.Type_) l
theorem qgg (many : Int) (l : List Index) : okF (qln many) (·.name) [] l = (l.all (fun x => places x.columns many) && mr (l.map (·.name))) := pz (p := isName) (q := fun x : Index => places x.columns many) l
theorem S_z1j (k M : Nat) (hM : M < 4611686018427387904) (hk : M + 70 ≤ k) (m : Bool) (t : Table) (ht : t.Fits M) (K : Bool → Prop) : (TT k).f_z1j (bm m t) K = K (iw t) := by
 obtain ⟨k, rfl⟩ : ∃ k', k = k' + 2 := ⟨k - 2, by omega⟩
 show F_z1j (TT (k + 1)) (bm m t) K = _
 have hT := ht.key
 have hn : (bm m t).Name = t.name := rfl
 have hc : (bm m t).Columns = lst m (t.columns.map gj) := rfl
 have hy : (bm m t).Key = lst m (t.key.map eI) := rfl
 have hi : (bm m t).Indexes = lst m (t.indexes.map (jy m)) := rfl
 simp only [F_z1j, S_z1k (k + 1) (by omega), hn, ca, iw, hc, bo, List.length_map, hi, qd9, qgg]
 cases isName t.name
 ·rfl
 simp only [Bool.not_true, ef, Bool.true_and]
 by_cases h1 : 1 ≤ t.columns.length
 case neg =>
  have : t.columns.length = 0 := by omega
  simp [this]
 by_cases h2 : t.columns.length ≤ 16
 case neg =>
  have a : decide ((t.columns.length : Int) < 1) = false := decide_eq_false (by omega)
  have b : decide ((t.columns.length : Int) > 16) = true := decide_eq_true (by omega)
  simp [a, b, h2]
 by_cases h3 : t.indexes.length ≤ 4
 case neg =>
  have a : decide ((t.columns.length : Int) < 1) = false := decide_eq_false (by omega)
  have b : decide ((t.columns.length : Int) > 16) = false := decide_eq_false (by omega)
  have c : decide ((t.indexes.length : Int) > 4) = true := decide_eq_true (by omega)
  simp [a, b, c, h3]
 have a : decide ((t.columns.length : Int) < 1) = false := decide_eq_false (by omega)
 have b : decide ((t.columns.length : Int) > 16) = false := decide_eq_false (by omega)
 have c : decide ((t.indexes.length : Int) > 4) = false := decide_eq_false (by omega)
 rw [a, b, c, decide_eq_true h1, decide_eq_true h2, decide_eq_true h3]
 simp only [ef, Bool.true_and, qsa m t _ _ h2 (show 16 < k + 1 by omega)]
 cases t.columns.all fun c => jj c.Type_
 ·rfl
 have g1 : t.columns.map (fun c => eS c.Name) = (t.columns.map (·.Name)).map eS := by simp [List.map_map, Function.comp_def]
 simp only [db, Bool.true_and, g1, S_z1n (k + 1) (t.columns.map (·.Name)) (by simpa using h2) (by omega), hy, hc, bo, List.length_map, S_z1o (k + 1) m t.key _ (by omega)]
 cases mr (t.columns.map (·.Name))
 ·rfl
 simp only [Bool.not_true, ef, Bool.true_and]
 cases hpl : places t.key (t.columns.length : Int)
 ·rfl
 simp only [Bool.not_true, ef, Bool.true_and]
 have f2 := fun X Y => qsb (k := k + 1) m t X Y (by omega) (qee hpl) t.key [] rfl false (k + 1) (by omega)
 simp only [List.length_nil, Bool.false_or] at f2
 have z : ((0 : Nat) : Int) = 0 := rfl
 rw [z] at f2
 rw [f2]
 cases t.key.all (mo t.columns)
 ·simp
 simp only [db, Bool.and_true]
 have g2 : t.indexes.map (fun c => eS c.name) = (t.indexes.map (·.name)).map eS := by simp [List.map_map, Function.comp_def]
 rw [qzk (M := M) m t _ _ _ h3 (by omega), g2]
 cases t.indexes.all fun x => places x.columns (t.columns.length : Int)
 ·simp
 simp only [db, Bool.true_and, S_z1n (k + 1) (t.indexes.map (·.name)) (by simp; omega) (by omega)]
 cases t.key.any fun y => decide (t.part = y) <;> cases mr (t.indexes.map (·.name)) <;> rfl
end Go.RX
namespace Go.RX
def u2 (c : S_x7) : Bool := isName c.Name && jj c.Type_
def sf (s : ByteArray) : Bool := decide (1 ≤ s.size) && decide (s.size ≤ 1000)
def within (n most : Int) : Bool := decide (0 ≤ n) && decide (n ≤ most)
def mn (p : qfb) : Bool := isName p.name && decide (p.params.length ≤ 8) && decide (1 ≤ p.body.length) && decide (p.body.length ≤ 8) && within p.rows 1048576 && within p.bytes 1048576 && okF u2 (·.Name) [] p.params && p.body.all sf
theorem qn9 {k : Nat} (hk : 31 ≤ k) (x1 : S_xc) (m : Bool) (X : Prop) (Y : S_xc → Prop) (l : List S_x7) : ∀ (pre : List PV) (n : Nat) (mp : List (PV × PV)) (ns : List ByteArray), l.length < n → pre.length + l.length < 4611686018427387904 → fy eS mp (u5 ns) →
  L_z1_0 (TT k) n (lst m (pre ++ l.map b8)) ((pre ++ l.map b8).length : Nat) (pre.length : Nat) x1 mp X Y = br (okF u2 (·.Name) ns l) (Y x1) X := by
 induction l with
 | nil =>
  intro pre n mp ns hn _ _
  obtain ⟨n, rfl⟩ : ∃ n', n = n' + 1 := ⟨n - 1, by simp at hn; omega⟩
  simp [L_z1_0, B_z1_0, okF]
 | cons x l ih =>
  intro pre n mp ns hn hp hm
  simp only [List.length_cons] at hn hp
  obtain ⟨n, rfl⟩ : ∃ n', n = n' + 1 := ⟨n - 1, by omega⟩
  simp only [L_z1_0, B_z1_0]
  rw [bw (by omega)]
  have e := ih (pre ++ [b8 x]) n (m5 (eS x.Name) (.bool true) mp) (x.Name :: ns) (by omega) (by simp; omega) (qx o9 hm x.Name)
  simp only [fi, bz] at e
  simp only [List.map_cons, ke, decide_true, db, bo, Int.natCast_nonneg, true_and, Int.toNat_natCast, ow, fl, lv, qka k (by omega) x.Name hm, qkb k (by omega)]
  rw [e]
  simp only [okF, u2]
  cases isName x.Name <;> cases i5 x.Name ns <;> cases jj x.Type_ <;> simp
theorem qfe (k : Nat) (hk : 1 ≤ k) (s : ByteArray) (K : Bool → Prop) : (TT k).f_z2 s K = K (!sf s) := by
 obtain ⟨k, rfl⟩ : ∃ k', k = k' + 1 := ⟨k - 1, by omega⟩
 show F_z2 (TT k) s K = _
 simp only [F_z2, zy, ug]
 have e1 : decide (s = noB) = !decide (1 ≤ s.size) := by rw [← decide_not]; exact decide_eq_decide.2 (by rw [qld]; omega)
 have e2 : decide ((s.size : Int) > 1000) = !decide (s.size ≤ 1000) := by rw [← decide_not]; exact decide_eq_decide.2 (by omega)
 rw [e1, e2, sf]
 cases decide (1 ≤ s.size) <;> cases decide (s.size ≤ 1000) <;> rfl
theorem qng (k : Nat) (m : Bool) (l : List ByteArray) (hl : l.length < 4611686018427387904) (hk : l.length + 10 ≤ k) (K : Bool → Prop) : (TT k).f_z2g (lst m (l.map eS)) K = K (!l.all sf) := by
 obtain ⟨k, rfl⟩ : ∃ k', k = k' + 3 := ⟨k - 3, by omega⟩
 have : (TT (k + 3)).f_z2g (lst m (l.map eS)) K = L_z2q_0 (TT (k + 1)) (k + 1) (lst m (l.map eS)) (((lst m (l.map eS)).n : Nat) : Int) 0 (fun n => K (decide (n ≥ 0))) (K (decide ((-1 : Int) ≥ 0))) := rfl
 rw [this, jz (L := fun n i => L_z2q_0 (TT (k + 1)) n (lst m (l.map eS)) (((lst m (l.map eS)).n : Nat) : Int) i (fun n => K (decide (n ≥ 0))) (K (decide ((-1 : Int) ≥ 0)))) (m := l.length) (F := fun n => K (decide (n ≥ 0))) (p := fun i => !sf (l.getD i noB)) (fun n => ?_) (fun n i hi => ?_) (by omega)]
 ·rw [gq, gp]
  congr 2
  rw [gk (q := sf) fun j hj => by simp [List.getD, hj]]
 ·simp [L_z2q_0, B_z2q_0]
 ·simp only [L_z2q_0, B_z2q_0]
  rw [bw (by omega)]
  have e : l.getD i noB = l[i] := by simp [List.getD, hi]
  simp only [Int.toNat_natCast, au hi, qko, bo, List.length_map, Int.ofNat_lt, hi, Int.natCast_nonneg, true_and, decide_true, db, e, qfe (k + 1) (by omega)]
theorem S_z1 (k : Nat) (hk : 70 ≤ k) (m : Bool) (p : qfb) (K : Bool → Prop) : (TT k).f_z1 (ev m p) K = K (mn p) := by
 obtain ⟨k, rfl⟩ : ∃ k', k = k' + 2 := ⟨k - 2, by omega⟩
 show F_z1 (TT (k + 1)) (ev m p) K = _
 have e0 : ∀ K, (TT (k + 1)).f_z4 K = K [] := fun K => rfl
 have hn : (ev m p).Name = p.name := rfl
 have hc : (ev m p).Params = lst m (p.params.map b8) := rfl
 have hy : (ev m p).Body = lst m (p.body.map eS) := rfl
 have hr : (ev m p).Rows = p.rows := rfl
 have hb : (ev m p).Bytes = p.bytes := rfl
 simp only [F_z1, S_z6 (k + 1) (by omega), e0, hn, ca, mn, hc, bo, List.length_map, hy, hr, hb]
 have a1 : decide ((p.params.length : Int) > 8) = !decide (p.params.length ≤ 8) := by rw [← decide_not]; exact decide_eq_decide.2 (by omega)
 have a2 : ((p.body.length : Int) == 0) = !decide (1 ≤ p.body.length) := by
  rw [← decide_not, Bool.eq_iff_iff]; simp only [beq_iff_eq, decide_eq_true_eq]; omega
 have a3 : decide ((p.body.length : Int) > 8) = !decide (p.body.length ≤ 8) := by rw [← decide_not]; exact decide_eq_decide.2 (by omega)
 have a4 : decide (p.rows < 0) = !decide (0 ≤ p.rows) := by rw [← decide_not]; exact decide_eq_decide.2 (by omega)
 have a5 : decide (p.rows > 1048576) = !decide (p.rows ≤ 1048576) := by rw [← decide_not]; exact decide_eq_decide.2 (by omega)
 have a6 : decide (p.bytes < 0) = !decide (0 ≤ p.bytes) := by rw [← decide_not]; exact decide_eq_decide.2 (by omega)
 have a7 : decide (p.bytes > 1048576) = !decide (p.bytes ≤ 1048576) := by rw [← decide_not]; exact decide_eq_decide.2 (by omega)
 rw [a1, a2, a3, a4, a5, a6, a7]
 simp only [gb, within]
 cases isName p.name
 ·rfl
 cases h1 : decide (p.params.length ≤ 8)
 ·rfl
 cases decide (1 ≤ p.body.length)
 ·rfl
 cases h2 : decide (p.body.length ≤ 8)
 ·rfl
 cases decide (0 ≤ p.rows)
 ·rfl
 cases decide (p.rows ≤ 1048576)
 ·rfl
 cases decide (0 ≤ p.bytes)
 ·rfl
 cases decide (p.bytes ≤ 1048576)
 ·rfl
 have h1' := of_decide_eq_true h1
 have h2' := of_decide_eq_true h2
 simp only [db, Bool.true_and]
 have f1 := fun X Y => qn9 (k := k + 1) (by omega) (ev m p) m X Y p.params [] (k + 1) [] [] (by omega) (by simp; omega) qw
 simp only [List.nil_append, List.length_nil, List.length_map] at f1
 have z : ((0 : Nat) : Int) = 0 := rfl
 rw [z] at f1
 rw [f1]
 cases okF u2 (·.Name) [] p.params
 ·rfl
 simp only [db, hy, qng (k + 1) m p.body (by omega) (by omega), Bool.not_not, Bool.true_and]
theorem S_z1m (k : Nat) (hk : 1 ≤ k) (n most : Int) (K : Bool → Prop) : (TT k).f_z1m n 0 most K = K (within n most) := by
 obtain ⟨k, rfl⟩ : ∃ k', k = k' + 1 := ⟨k - 1, by omega⟩
 show F_z1m (TT k) n 0 most K = _
 simp only [F_z1m, within, ug]
 have : decide (n ≥ 0) = decide (0 ≤ n) := rfl
 rw [this]
 cases decide (0 ≤ n) <;> rfl
theorem qsc {k : Nat} (m : Bool) (p : qfb) (X : Prop) (Y : S_xc → List PV → Prop) (h8 : p.params.length ≤ 8) (hk : 16 < k) :
  L_z1i_0 (TT k) k 0 (ev m p) [] X Y = br (p.params.all fun c => jj c.Type_) (Y (ev m p) (p.params.map fun c => eS c.Name)) X := by
 refine sn (L := fun n i r => L_z1i_0 (TT k) n i (ev m p) r X Y) (l := p.params) (f := fun c => eS c.Name) (fun n r => ?_) (fun n i r hi hr => ?_) (by omega)
 ·simp [L_z1i_0, B_z1i_0, ev]
 ·simp only [L_z1i_0, B_z1i_0]
  rw [bw (by omega)]
  have hc : (ev m p).Params = lst m (p.params.map b8) := rfl
  have hb : (r.length + 1) * 16 ≤ 140737488355328 := by omega
  simp only [Int.toNat_natCast, hc, au hi, lv, bo, List.length_map, Int.ofNat_lt, hi, Int.natCast_nonneg, true_and, decide_true, db, hb, rm, tk]
theorem qma {k : Nat} (m : Bool) (p : qfb) (r : List PV) (X : Prop) (Y : List PV → Prop) (h8 : p.body.length ≤ 8) (hk : 16 < k) :
  L_z1i_2 (TT k) k 0 (ev m p) r X Y = br (p.body.all sf) (Y r) X := by
 refine j0 (L := fun n i => L_z1i_2 (TT k) n i (ev m p) r X Y) (l := p.body) (fun n => ?_) (fun n i hi => ?_) (by omega)
 ·simp [L_z1i_2, B_z1i_2, ev]
 ·simp only [L_z1i_2, B_z1i_2]
  rw [bw (by omega)]
  have hc : (ev m p).Body = lst m (p.body.map eS) := rfl
  have e1 : decide ((p.body[i].size : Int) < 1) = !decide (1 ≤ p.body[i].size) := by rw [← decide_not]; exact decide_eq_decide.2 (by omega)
  have e2 : decide ((p.body[i].size : Int) > 1000) = !decide (p.body[i].size ≤ 1000) := by rw [← decide_not]; exact decide_eq_decide.2 (by omega)
  simp only [Int.toNat_natCast, hc, au hi, qko, bo, List.length_map, Int.ofNat_lt, hi, Int.natCast_nonneg, true_and, decide_true, db, e1, e2, gb, sf]
  cases decide (1 ≤ p.body[i].size) <;> cases decide (p.body[i].size ≤ 1000) <;> rfl
theorem qea (l : List S_x7) : okF u2 (·.Name) [] l = (l.all (fun c => jj c.Type_) && mr (l.map (·.Name))) := pz (p := isName) (q := fun c : S_x7 => jj c.Type_) l
theorem S_z1i (k : Nat) (hk : 70 ≤ k) (m : Bool) (p : qfb) (K : Bool → Prop) : (TT k).f_z1i (ev m p) K = K (mn p) := by
 obtain ⟨k, rfl⟩ : ∃ k', k = k' + 2 := ⟨k - 2, by omega⟩
 show F_z1i (TT (k + 1)) (ev m p) K = _
 have hn : (ev m p).Name = p.name := rfl
 have hc : (ev m p).Params = lst m (p.params.map b8) := rfl
 have hy : (ev m p).Body = lst m (p.body.map eS) := rfl
 have hr : (ev m p).Rows = p.rows := rfl
 have hb : (ev m p).Bytes = p.bytes := rfl
 simp only [F_z1i, S_z1k (k + 1) (by omega), S_z1m (k + 1) (by omega), hn, ca, mn, hc, bo, List.length_map, hy, hr, hb, qea]
 have a1 : decide ((p.params.length : Int) > 8) = !decide (p.params.length ≤ 8) := by rw [← decide_not]; exact decide_eq_decide.2 (by omega)
 have a2 : decide ((p.body.length : Int) < 1) = !decide (1 ≤ p.body.length) := by rw [← decide_not]; exact decide_eq_decide.2 (by omega)
 have a3 : decide ((p.body.length : Int) > 8) = !decide (p.body.length ≤ 8) := by rw [← decide_not]; exact decide_eq_decide.2 (by omega)
 rw [a1, a2, a3]
 simp only [gb]
 cases isName p.name
 ·rfl
 cases within p.rows 1048576
 ·simp
 cases within p.bytes 1048576
 ·simp
 cases h1 : decide (p.params.length ≤ 8)
 ·rfl
 cases decide (1 ≤ p.body.length)
 ·rfl
 cases h2 : decide (p.body.length ≤ 8)
 ·rfl
 have h1' := of_decide_eq_true h1
 have h2' := of_decide_eq_true h2
 have g1 : p.params.map (fun c => eS c.Name) = (p.params.map (·.Name)).map eS := by simp [List.map_map, Function.comp_def]
 simp only [db, Bool.true_and, qsc m p _ _ h1' (show 16 < k + 1 by omega), qma m p _ _ _ h2' (show 16 < k + 1 by omega), g1, S_z1n (k + 1) (p.params.map (·.Name)) (by simp; omega) (by omega)]
 cases p.params.all fun c => jj c.Type_
 ·rfl
 cases p.body.all sf
 ·simp
 simp
end Go.RX
namespace Go.RX
def qgy (t : Table) : Bool := isName t.name && iw t
def qef (t : qfb) : Bool := isName t.name && mn t
def dv (c : bg) : Bool := decide (c.tables.length ≤ 8) && decide (c.procs.length ≤ 16) && okF qgy (·.name) [] c.tables && okF qef (·.name) [] c.procs
def bg.Fits (M : Nat) (c : bg) : Prop := ∀ t ∈ c.tables, t.Fits M
theorem qoa {k M : Nat} (hM : M < 4611686018427387904) (hk : M + 70 ≤ k) (x1 : S_x1) (m2 : List (PV × PV)) (m : Bool) (X : Prop) (Y : S_x1 → List (PV × PV) → Prop) (l : List Table) (hl : ∀ t ∈ l, t.Fits M) : ∀ (pre : List PV) (n : Nat) (mp : List (PV × PV)) (ns : List ByteArray), l.length < n → pre.length + l.length < 4611686018427387904 → fy eS mp (u5 ns) →
  L_z0_0 (TT k) n (lst m (pre ++ l.map (bp m))) ((pre ++ l.map (bp m)).length : Nat) (pre.length : Nat) x1 mp m2 X Y = br (okF qgy (·.name) ns l) (Y x1 m2) X := by
 induction l with
 | nil =>
  intro pre n mp ns hn _ _
  obtain ⟨n, rfl⟩ : ∃ n', n = n' + 1 := ⟨n - 1, by simp at hn; omega⟩
  simp [L_z0_0, B_z0_0, okF]
 | cons x l ih =>
  intro pre n mp ns hn hp hm
  simp only [List.length_cons] at hn hp
  obtain ⟨n, rfl⟩ : ∃ n', n = n' + 1 := ⟨n - 1, by omega⟩
  simp only [L_z0_0, B_z0_0]
  rw [bw (by omega)]
  have e := ih (fun y hy => hl y (.tail _ hy)) (pre ++ [bp m x]) n (m5 (eS x.name) (.bool true) mp) (x.name :: ns) (by omega) (by simp; omega) (qx o9 hm x.name)
  simp only [fi, bz] at e
  have hn : (bm m x).Name = x.name := rfl
  simp only [List.map_cons, ke, decide_true, db, bo, Int.natCast_nonneg, true_and, Int.toNat_natCast, ow, fl, i7, hn, qka k (by omega) x.name hm, S_z3 k M hM (by omega) m x (hl x (.head _))]
  rw [e]
  simp only [okF, qgy]
  cases isName x.name <;> cases i5 x.name ns <;> cases iw x <;> simp
theorem qkw {k : Nat} (hk : 70 ≤ k) (m : Bool) (X Y : Prop) (l : List qfb) : ∀ (pre : List PV) (n : Nat) (mp : List (PV × PV)) (ns : List ByteArray), l.length < n → pre.length + l.length < 4611686018427387904 → fy eS mp (u5 ns) →
  L_z0_2 (TT k) n (lst m (pre ++ l.map (gz m))) ((pre ++ l.map (gz m)).length : Nat) (pre.length : Nat) mp X Y = br (okF qef (·.name) ns l) Y X := by
 induction l with
 | nil =>
  intro pre n mp ns hn _ _
  obtain ⟨n, rfl⟩ : ∃ n', n = n' + 1 := ⟨n - 1, by simp at hn; omega⟩
  simp [L_z0_2, B_z0_2, okF]
 | cons x l ih =>
  intro pre n mp ns hn hp hm
  simp only [List.length_cons] at hn hp
  obtain ⟨n, rfl⟩ : ∃ n', n = n' + 1 := ⟨n - 1, by omega⟩
  simp only [L_z0_2, B_z0_2]
  rw [bw (by omega)]
  have e := ih (pre ++ [gz m x]) n (m5 (eS x.name) (.bool true) mp) (x.name :: ns) (by omega) (by simp; omega) (qx o9 hm x.name)
  simp only [fi, bz] at e
  have hn : (ev m x).Name = x.name := rfl
  simp only [List.map_cons, ke, decide_true, db, bo, Int.natCast_nonneg, true_and, Int.toNat_natCast, ow, fl, qkp, hn, qka k (by omega) x.name hm, S_z1 k (by omega) m x]
  rw [e]
  simp only [okF, qef]
  cases isName x.name <;> cases i5 x.name ns <;> cases mn x <;> simp
theorem S_z0 (k M : Nat) (hM : M < 4611686018427387904) (hk : M + 80 ≤ k) (m : Bool) (c : bg) (hc : c.Fits M) (K : Bool → Prop) : (TT k).f_z0 (bh m c) K = K (dv c) := by
 obtain ⟨k, rfl⟩ : ∃ k', k = k' + 2 := ⟨k - 2, by omega⟩
 show F_z0 (TT (k + 1)) (bh m c) K = _
 have e0 : ∀ K, (TT (k + 1)).f_z4 K = K [] := fun K => rfl
 have ht : (bh m c).Tables = lst m (c.tables.map (bp m)) := rfl
 have hp : (bh m c).Procs = lst m (c.procs.map (gz m)) := rfl
 simp only [F_z0, e0, ca, dv, ht, hp, bo, List.length_map]
 have a1 : decide ((c.tables.length : Int) > 8) = !decide (c.tables.length ≤ 8) := by rw [← decide_not]; exact decide_eq_decide.2 (by omega)
 have a2 : decide ((c.procs.length : Int) > 16) = !decide (c.procs.length ≤ 16) := by rw [← decide_not]; exact decide_eq_decide.2 (by omega)
 rw [a1, a2]
 simp only [gb]
 cases h1 : decide (c.tables.length ≤ 8)
 ·rfl
 cases h2 : decide (c.procs.length ≤ 16)
 ·rfl
 have h1' := of_decide_eq_true h1
 have h2' := of_decide_eq_true h2
 simp only [db, Bool.true_and]
 have z : ((0 : Nat) : Int) = 0 := rfl
 have f1 := fun X Y => qoa (k := k + 1) hM (by omega) (bh m c) [] m X Y c.tables hc [] (k + 1) [] [] (by omega) (by simp; omega) qw
 simp only [List.nil_append, List.length_nil, List.length_map] at f1
 rw [z] at f1
 rw [f1]
 cases okF qgy (·.name) [] c.tables
 ·rfl
 have f2 := fun X Y => qkw (k := k + 1) (by omega) m X Y c.procs [] (k + 1) [] [] (by omega) (by simp; omega) qw
 simp only [List.nil_append, List.length_nil, List.length_map] at f2
 rw [z] at f2
 simp only [db, hp, bo, List.length_map, f2, ug, Bool.true_and]
 cases okF qef (·.name) [] c.procs <;> rfl
theorem qsd {k M : Nat} (hM : M < 4611686018427387904) (hk : M + 80 ≤ k) (m : Bool) (c : bg) (hc : c.Fits M) (X : Prop) (Y : S_x1 → List PV → Prop) (h8 : c.tables.length ≤ 8) :
  L_z1l_0 (TT k) k 0 (bh m c) [] X Y = br (c.tables.all iw) (Y (bh m c) (c.tables.map fun t => eS t.name)) X := by
 refine sn (L := fun n i r => L_z1l_0 (TT k) n i (bh m c) r X Y) (l := c.tables) (f := fun c => eS c.name) (fun n r => ?_) (fun n i r hi hr => ?_) (by omega)
 ·simp [L_z1l_0, B_z1l_0, bh]
 ·simp only [L_z1l_0, B_z1l_0]
  rw [bw (by omega)]
  have ht : (bh m c).Tables = lst m (c.tables.map (bp m)) := rfl
  have hn : ∀ t, (bm m t).Name = t.name := fun _ => rfl
  have hb : (r.length + 1) * 16 ≤ 140737488355328 := by omega
  simp only [Int.toNat_natCast, ht, au hi, i7, bo, List.length_map, Int.ofNat_lt, hi, Int.natCast_nonneg, true_and, decide_true, db, hb, rm, hn, gb, S_z1j k M hM (by omega) m c.tables[i] (hc _ (List.getElem_mem hi))]
theorem qpc {k : Nat} (hk : 80 ≤ k) (m : Bool) (c : bg) (r0 : List PV) (X : Prop) (Y : List PV → List PV → Prop) (h8 : c.procs.length ≤ 16) :
  L_z1l_2 (TT k) k 0 (bh m c) r0 [] X Y = br (c.procs.all mn) (Y r0 (c.procs.map fun t => eS t.name)) X := by
 refine sn (L := fun n i r => L_z1l_2 (TT k) n i (bh m c) r0 r X Y) (l := c.procs) (E := Y r0) (f := fun c => eS c.name) (fun n r => ?_) (fun n i r hi hr => ?_) (by omega)
 ·simp [L_z1l_2, B_z1l_2, bh]
 ·simp only [L_z1l_2, B_z1l_2]
  rw [bw (by omega)]
  have ht : (bh m c).Procs = lst m (c.procs.map (gz m)) := rfl
  have hn : ∀ t, (ev m t).Name = t.name := fun _ => rfl
  have hb : (r.length + 1) * 16 ≤ 140737488355328 := by omega
  simp only [Int.toNat_natCast, ht, au hi, qkp, bo, List.length_map, Int.ofNat_lt, hi, Int.natCast_nonneg, true_and, decide_true, db, hb, rm, hn, gb, S_z1i k (by omega) m c.procs[i]]
theorem qeb (l : List Table) : okF qgy (·.name) [] l = (l.all iw && mr (l.map (·.name))) := pz (p := isName) (q := iw) l
theorem qco (l : List qfb) : okF qef (·.name) [] l = (l.all mn && mr (l.map (·.name))) := pz (p := isName) (q := mn) l
theorem S_z1l (k M : Nat) (hM : M < 4611686018427387904) (hk : M + 90 ≤ k) (m : Bool) (c : bg) (hc : c.Fits M) (K : Bool → Prop) : (TT k).f_z1l (bh m c) K = K (dv c) := by
 obtain ⟨k, rfl⟩ : ∃ k', k = k' + 2 := ⟨k - 2, by omega⟩
 show F_z1l (TT (k + 1)) (bh m c) K = _
 have ht : (bh m c).Tables = lst m (c.tables.map (bp m)) := rfl
 have hp : (bh m c).Procs = lst m (c.procs.map (gz m)) := rfl
 simp only [F_z1l, ca, dv, ht, hp, bo, List.length_map, qeb, qco]
 have a1 : decide ((c.tables.length : Int) > 8) = !decide (c.tables.length ≤ 8) := by rw [← decide_not]; exact decide_eq_decide.2 (by omega)
 have a2 : decide ((c.procs.length : Int) > 16) = !decide (c.procs.length ≤ 16) := by rw [← decide_not]; exact decide_eq_decide.2 (by omega)
 rw [a1, a2]
 simp only [gb]
 cases h1 : decide (c.tables.length ≤ 8)
 ·rfl
 cases h2 : decide (c.procs.length ≤ 16)
 ·rfl
 have h1' := of_decide_eq_true h1
 have h2' := of_decide_eq_true h2
 have g1 : c.tables.map (fun c => eS c.name) = (c.tables.map (·.name)).map eS := by simp [List.map_map, Function.comp_def]
 have g2 : c.procs.map (fun c => eS c.name) = (c.procs.map (·.name)).map eS := by simp [List.map_map, Function.comp_def]
 simp only [db, Bool.true_and, qsd hM (show M + 80 ≤ k + 1 by omega) m c hc _ _ h1', qpc (show 80 ≤ k + 1 by omega) m c _ _ _ h2', g1, g2, S_z1n (k + 1) (c.tables.map (·.name)) (by simp; omega) (by omega), S_z1n (k + 1) (c.procs.map (·.name)) (by simp; omega) (by omega)]
 cases c.tables.all iw <;> cases c.procs.all mn <;> cases mr (c.tables.map (·.name)) <;> simp
def dr (l : List S_x7) : Bool := okF u2 (·.Name) [] l && decide (l.length ≤ 8)
def qra (ns : List ByteArray) (x : ByteArray) : Option PV := if i5 x ns = true then some (.int .i64 1) else none
theorem qrb {m : List (PV × PV)} {ns : List ByteArray} (h : fy eS m (qra ns)) (x : ByteArray) (K : Int → Prop) : bf ((look (eS x) m).getD (.int .i64 0)) K = K (bif i5 x ns then 1 else 0) := by
 rw [h.look, qra]
 cases i5 x ns <;> rfl
theorem qkn (n : Int) (K : Int → Prop) : bf (.int .i64 n) K = K n := rfl
theorem qod {k M : Nat} (hM : M < 4611686018427387904) (hk : M + 31 ≤ k) (a1 : Arr) (m : Bool) (X : Prop) (Y : Arr → Prop) (l : List S_x7) (hl : ∀ x ∈ l, x.Name.size ≤ M) : ∀ (pre : List PV) (n : Nat) (mp : List (PV × PV)) (ns : List ByteArray), l.length < n → pre.length + l.length < 4611686018427387904 → fy eS mp (qra ns) →
  L_zt_0 (TT k) n a1 (lst m (pre ++ l.map b8)) ((pre ++ l.map b8).length : Nat) (pre.length : Nat) mp X Y = br (okF u2 (·.Name) ns l) (Y a1) X := by
 induction l with
 | nil =>
  intro pre n mp ns hn _ _
  obtain ⟨n, rfl⟩ : ∃ n', n = n' + 1 := ⟨n - 1, by simp at hn; omega⟩
  simp [L_zt_0, B_zt_0, okF]
 | cons x l ih =>
  intro pre n mp ns hn hp hm
  simp only [List.length_cons] at hn hp
  obtain ⟨n, rfl⟩ : ∃ n', n = n' + 1 := ⟨n - 1, by omega⟩
  simp only [L_zt_0, B_zt_0]
  rw [bw (by omega)]
  simp only [List.map_cons, ke, decide_true, db, bo, Int.natCast_nonneg, true_and, Int.toNat_natCast, ow, fl, lv, rm, qrb hm]
  have hs := jd (key := eS) o9 x.Name x.Name (.int .i64 (W ((bif i5 x.Name ns then 1 else 0) + 1))) mp hm.keys
  rw [if_pos rfl] at hs
  rw [hs]
  simp only [Option.getD_some]
  have hx := hl x (.head _)
  cases hmem : i5 x.Name ns
  ·have w1 : W ((0 : Int) + 1) = 1 := by decide
   have hm' : fy eS (m5 (eS x.Name) (.int .i64 1) mp) (qra (x.Name :: ns)) := by
    refine ⟨lh x.Name _ mp hm.keys, fun b => ?_⟩
    rw [jd (key := eS) o9 x.Name b _ mp hm.keys, hm.look]
    by_cases e : b = x.Name
    ·have hmg : i5 b (x.Name :: ns) = true := jv.2 (by simp [e])
     rw [if_pos e, qra, if_pos hmg]
    ·have hmg : i5 b (x.Name :: ns) = i5 b ns := by
      rw [Bool.eq_iff_iff, jv, jv]
      simp [e]
     rw [if_neg e, qra, qra, hmg]
   have e := ih (fun y hy => hl y (.tail _ hy)) (pre ++ [b8 x]) n _ (x.Name :: ns) (by omega) (by simp; omega) hm'
   simp only [fi, bz] at e
   simp only [cond_false, w1, S_z1f k x.Name (by omega) (by omega), tk]
   rw [e]
   have : decide ((1 : Int) > 1) = false := by decide
   rw [qkn, this]
   simp only [okF, u2, hmem, ef]
   cases isName x.Name <;> cases jj x.Type_ <;> simp
  ·have w1 : W ((1 : Int) + 1) = 2 := by decide
   simp only [cond_true, w1]
   have : decide ((2 : Int) > 1) = true := by decide
   rw [qkn, this]
   simp [okF, hmem]
structure oz (M : Nat) (l : List S_x7) : Prop where
 len : l.length ≤ M
 name : ∀ x ∈ l, x.Name.size ≤ M
theorem S_zt (k M : Nat) (hM : M < 4611686018427387904) (hk : M + 40 ≤ k) (m : Bool) (l : List S_x7) (hl : oz M l) (K : Bool → Prop) : (TT k).f_zt (lst m (l.map b8)) K = K (dr l) := by
 obtain ⟨k, rfl⟩ : ∃ k', k = k' + 2 := ⟨k - 2, by omega⟩
 show F_zt (TT (k + 1)) _ K = _
 have h1 := hl.len
 have f1 := fun X Y => qod (k := k + 1) hM (by omega) (lst m (l.map b8)) m X Y l hl.name [] (k + 1) [] [] (by omega) (by simp; omega) fy.nil
 simp only [List.nil_append, List.length_nil, List.length_map] at f1
 have z : ((0 : Nat) : Int) = 0 := rfl
 rw [z] at f1
 simp only [F_zt, ca, bo, List.length_map, f1, ug, dr]
 have : decide ((l.length : Int) ≤ 8) = decide (l.length ≤ 8) := decide_eq_decide.2 (by omega)
 rw [this]
 cases okF u2 (·.Name) [] l <;> rfl
theorem S_z1u (k M : Nat) (hM : M < 4611686018427387904) (hk : M + 40 ≤ k) (m : Bool) (l : List S_x7) (hl : oz M l) (K : Bool → Prop) : (TT k).f_z1u (lst m (l.map b8)) K = K (dr l) := by
 obtain ⟨k, rfl⟩ : ∃ k', k = k' + 2 := ⟨k - 2, by omega⟩
 show F_z1u (TT (k + 1)) _ K = _
 have h1 := hl.len
 let d : S_x7 := ⟨noB, 0⟩
 have hin : ∀ (i : Nat), i < l.length → ∀ (X : Prop) (Y : Arr → Int → Prop), L_z1u_2 (TT (k + 1)) (k + 1) (lst m (l.map b8)) i 0 X Y = br (ko (fun k => !decide ((l.getD k d).Name = (l.getD i d).Name)) 0 i) (Y (lst m (l.map b8)) i) X := by
  intro i hi X Y
  refine sq (L := fun n j => L_z1u_2 (TT (k + 1)) n (lst m (l.map b8)) i j X Y) (m := i) (p := fun k => !decide ((l.getD k d).Name = (l.getD i d).Name)) (fun n => ?_) (fun n j hj => ?_) (by omega)
  ·simp [L_z1u_2, B_z1u_2]
  ·have hj' : j < l.length := by omega
   simp only [L_z1u_2, B_z1u_2]
   rw [bw (by omega)]
   simp only [Int.toNat_natCast, au hi, au hj', lv, bo, List.length_map, Int.ofNat_lt, hi, hj, hj', Int.natCast_nonneg, true_and, decide_true, db, gb, zy, List.getD, List.getElem?_eq_getElem hi, List.getElem?_eq_getElem hj', Option.getD_some]
 have hout := fun (X : Prop) (Y : Arr → Prop) => sq (L := fun n j => L_z1u_0 (TT (k + 1)) n (lst m (l.map b8)) j X Y) (m := l.length) (E := Y (lst m (l.map b8))) (X := X) (p := fun i => u2 (l.getD i d) && ko (fun k => !decide ((l.getD k d).Name = (l.getD i d).Name)) 0 i) (fun n => by simp [L_z1u_0, B_z1u_0]) (fun n j hj => by
  simp only [L_z1u_0, B_z1u_0]
  simp only [Int.toNat_natCast, au hj, lv, bo, List.length_map, Int.ofNat_lt, hj, Int.natCast_nonneg, true_and, decide_true, db, gb, S_z1p (k + 1) (by omega), tk, ca, hin j hj]
  rw [bw (by omega)]
  have e : l.getD j d = l[j] := by simp [List.getD, hj]
  rw [e, u2]
  cases isName l[j].Name <;> cases jj l[j].Type_ <;> simp) (n := k + 1) (by omega)
 simp only [F_z1u, ca, hout, ug, dr, qgf d, bo, List.length_map]
 have : decide ((l.length : Int) ≤ 8) = decide (l.length ≤ 8) := decide_eq_decide.2 (by omega)
 rw [this]
 cases ko (fun i => u2 (l.getD i d) && ko (fun k => !decide ((l.getD k d).Name = (l.getD i d).Name)) 0 i) 0 l.length <;> rfl
end Go.RX
