/- The law in plain Lean, with no program in sight. No condition. -/
import Derived.Test.YtacceochippkaaaGreatDoorGa
import Derived.Laws.RangeString
import Derived.Lib.DecodeN
import Derived.Test.YtacceochippkaaaGreatDoorGe
set_option linter.all false
namespace Go.RX
@[simp] theorem br_t (x y : Prop) : br true x y = x := rfl
@[simp] theorem br_f (x y : Prop) : br false x y = y := rfl
theorem br_not (b : Bool) (x y : Prop) : br (!b) x y = br b y x := by cases b <;> rfl
theorem br_same (b : Bool) (x : Prop) : br b x x = x := by cases b <;> rfl
theorem br_K {α : Type} (K : α → Prop) (b : Bool) (x y : α) : br b (K x) (K y) = K (bif b then x else y) := by cases b <;> rfl
theorem br_K2 {α β : Type} (K : α → β → Prop) (b : Bool) (x y : α) (x' y' : β) : br b (K x x') (K y y') = K (bif b then x else y) (bif b then x' else y') := by cases b <;> rfl
theorem br_if (b : Bool) (x y : Prop) : br b x y = if b = true then x else y := by cases b <;> rfl
theorem W_id {n : Int} (h1 : -9223372036854775808 ≤ n) (h2 : n < 9223372036854775808) : W n = n := by
  simp only [W, IntKind.wrap, IntKind.signed, IntKind.bits]
  simp
  split <;> omega
theorem W_succ {n : Nat} (h : n < 4611686018427387904) : W ((n : Int) + 1) = ((n + 1 : Nat) : Int) := by
  rw [W_id] <;> omega
theorem and_l {p q : Prop} (h : p) : (p ∧ q) = q := by simp [h]
def bs (s : ByteArray) : List UInt8 := s.data.toList
@[simp] theorem bs_length (s : ByteArray) : (bs s).length = s.size := by
  simp only [bs]
  rfl
theorem bs_inj {a b : ByteArray} (h : bs a = bs b) : a = b := by
  cases a
  cases b
  simp only [bs] at h
  congr 1
  exact Array.toList_inj.1 h
theorem toList_bs (s : ByteArray) : s.toList = bs s := ByteArray.toList_eq s
instance : DecidableEq ByteArray := fun a b => decidable_of_iff (bs a = bs b) ⟨bs_inj, fun h => by rw [h]⟩
theorem strEq (a b : ByteArray) : (a.toList == b.toList) = decide (a = b) := by
  rw [toList_bs, toList_bs]
  by_cases h : a = b
  · subst h
    simp
  · rw [decide_eq_false h, beq_eq_false_iff_ne]
    exact fun e => h (bs_inj e)
abbrev noB : ByteArray := ByteArray.mk #[]
theorem eq_noB {s : ByteArray} : s = noB ↔ s.size = 0 := by
  constructor
  · rintro rfl
    rfl
  · intro h
    apply bs_inj
    have : (bs s).length = 0 := by simpa using h
    rw [List.length_eq_zero_iff.1 this]
    rfl
theorem byteAt_lt (s : ByteArray) (i : Nat) : byteAt s i < 256 := by
  unfold byteAt
  have := UInt8.toNat_lt ((s.data.toList[i]?).getD 0)
  omega
theorem byteAt_nonneg (s : ByteArray) (i : Nat) : 0 ≤ byteAt s i := by
  unfold byteAt
  omega
@[simp] theorem lst_n (m : Bool) (l : List PV) : (lst m l).n = l.length := rfl
@[simp] theorem lst_m (m : Bool) (l : List PV) : (lst m l).m = m := rfl
theorem lst_g (m : Bool) (l : List PV) (i : Nat) : (lst m l).g i = l.getD i .nilp := rfl
theorem lst_eta (m : Bool) (l : List PV) : Arr.mk m (lst m l).n (lst m l).g = lst m l := rfl
theorem getD_mid {α : Type} (p : List α) (x : α) (r : List α) (d : α) : (p ++ x :: r).getD p.length d = x := by
  simp [List.getD]
theorem mid_step {α : Type} (p : List α) (x : α) (r : List α) : p ++ x :: r = (p ++ [x]) ++ r := by simp
theorem decode_small (s : ByteArray) (i : Nat) (h : i < s.size) (hb : byteAt s i < 128) : ((Utf8.decode s i).1 : Int) = byteAt s i ∧ (Utf8.decode s i).2 = 1 := by
  have e : byteAt s i = ((s[i]'h).toNat : Int) := by
    unfold byteAt
    have : s.data.toList[i]? = some (s[i]'h) := by
      rw [List.getElem?_eq_getElem (by simpa using h)]
      rfl
    rw [this]
    rfl
  have hb' : (s[i]'h).toNat < 128 := by omega
  rw [decode_ascii s i h hb', e]
  exact ⟨rfl, rfl⟩
theorem decode_big (s : ByteArray) (i : Nat) (h : i < s.size) (hb : 128 ≤ byteAt s i) : 128 ≤ (Utf8.decode s i).1 := by
  have e : byteAt s i = ((s.get! i).toNat : Int) := by
    unfold byteAt
    have : s.data.toList[i]? = some (s[i]'h) := by
      rw [List.getElem?_eq_getElem (by simpa using h)]
      rfl
    rw [this]
    have : s.get! i = s[i]'h := by
      cases s
      simp only [ByteArray.get!]
      exact getElem!_pos _ i h
    rw [this]
    rfl
  rw [Lib.decode_at]
  have hb' : ¬ (s.get! i).toNat < 128 := by omega
  simp only [Lib.decodeN, if_neg hb']
  repeat' split
  all_goals first | omega | simp_all <;> omega
end Go.RX
namespace Go.RX
def allN (p : Nat → Bool) : Nat → Nat → Bool
  | _, 0 => true
  | i, d + 1 => p i && allN p (i + 1) d
theorem allN_iff {p : Nat → Bool} : ∀ {d i : Nat}, allN p i d = true ↔ ∀ j, i ≤ j → j < i + d → p j = true
  | 0, i => ⟨fun _ j h1 h2 => by omega, fun _ => rfl⟩
  | d + 1, i => by
    simp only [allN, Bool.and_eq_true, allN_iff (d := d)]
    constructor
    · rintro ⟨h1, h2⟩ j h3 h4
      by_cases e : j = i
      · exact e ▸ h1
      · exact h2 j (by omega) (by omega)
    · intro h
      exact ⟨h i (Nat.le_refl _) (by omega), fun j h1 h2 => h j (by omega) (by omega)⟩
theorem allN_congr {p q : Nat → Bool} {i d : Nat} (h : ∀ j, i ≤ j → j < i + d → p j = q j) : allN p i d = allN q i d := by
  induction d generalizing i with
  | zero => rfl
  | succ d ih =>
    simp only [allN]
    rw [h i (Nat.le_refl _) (by omega), ih fun j h1 h2 => h j (by omega) (by omega)]
theorem idx_all {L : Nat → Int → Prop} {m : Nat} {E X : Prop} {p : Nat → Bool} (h0 : ∀ n, L (n + 1) (m : Nat) = E)
    (h1 : ∀ n i : Nat, i < m → L (n + 1) i = br (p i) (L n ((i + 1 : Nat) : Int)) X) : ∀ d n i : Nat, i + d = m → d < n → L n i = br (allN p i d) E X
  | 0, n + 1, i, e, _ => by
    have : i = m := by omega
    subst this
    rw [h0]
    rfl
  | d + 1, n + 1, i, e, hn => by
    rw [h1 n i (by omega), idx_all h0 h1 d n (i + 1) (by omega) (by omega)]
    simp only [allN]
    cases p i <;> rfl
def findN (p : Nat → Bool) : Nat → Nat → Option Nat
  | _, 0 => none
  | i, d + 1 => bif p i then some i else findN p (i + 1) d
theorem findN_none {p : Nat → Bool} : ∀ {d i : Nat}, findN p i d = none ↔ allN (fun j => !p j) i d = true
  | 0, i => by simp [findN, allN]
  | d + 1, i => by
    simp only [findN, allN]
    cases p i
    · simpa using findN_none
    · simp
theorem idx_find {L : Nat → Int → Prop} {m : Nat} {E : Prop} {F : Int → Prop} {p : Nat → Bool} (h0 : ∀ n, L (n + 1) (m : Nat) = E)
    (h1 : ∀ n i : Nat, i < m → L (n + 1) i = br (p i) (F i) (L n ((i + 1 : Nat) : Int))) : ∀ d n i : Nat, i + d = m → d < n → L n i = match findN p i d with | some j => F (j : Nat) | none => E
  | 0, n + 1, i, e, _ => by
    have : i = m := by omega
    subst this
    rw [h0]
    rfl
  | d + 1, n + 1, i, e, hn => by
    rw [h1 n i (by omega), idx_find h0 h1 d n (i + 1) (by omega) (by omega)]
    simp only [findN]
    cases p i <;> rfl
def idxOf : Option Nat → Int
  | some j => (j : Nat)
  | none => -1
theorem idx_find' {L : Nat → Int → Prop} {m : Nat} {F : Int → Prop} {p : Nat → Bool} (h0 : ∀ n, L (n + 1) (m : Nat) = F (-1))
    (h1 : ∀ n i : Nat, i < m → L (n + 1) i = br (p i) (F i) (L n ((i + 1 : Nat) : Int))) (d n i : Nat) (e : i + d = m) (hn : d < n) : L n i = F (idxOf (findN p i d)) := by
  rw [idx_find h0 h1 d n i e hn]
  cases findN p i d <;> rfl
theorem idxOf_nonneg (o : Option Nat) : decide (idxOf o ≥ 0) = o.isSome := by
  cases o with
  | none => rfl
  | some j => simp [idxOf]
theorem findN_isSome {p : Nat → Bool} {d i : Nat} : (findN p i d).isSome = !allN (fun j => !p j) i d := by
  cases h : findN p i d with
  | none => rw [findN_none.1 h]; rfl
  | some j =>
    cases h' : allN (fun j => !p j) i d
    · rfl
    · rw [findN_none.2 h'] at h
      cases h
theorem allN_list {α : Type} {p : Nat → Bool} {q : α → Bool} : ∀ {l : List α} {i : Nat}, (∀ j (h : j < l.length), p (i + j) = q l[j]) → allN p i l.length = l.all q
  | [], _, _ => rfl
  | x :: l, i, h => by
    have h0 := h 0 (Nat.succ_pos _)
    simp only [Nat.add_zero, List.getElem_cons_zero] at h0
    simp only [List.length_cons, allN, List.all_cons, h0]
    rw [allN_list (l := l) (i := i + 1) fun j hj => ?_]
    have := h (j + 1) (by simpa using hj)
    simp only [List.getElem_cons_succ] at this
    rw [← this]
    congr 1
    omega
theorem idx_all0 {L : Nat → Int → Prop} {m : Nat} {E X : Prop} {p : Nat → Bool} (h0 : ∀ n, L (n + 1) (m : Nat) = E)
    (h1 : ∀ n i : Nat, i < m → L (n + 1) i = br (p i) (L n ((i + 1 : Nat) : Int)) X) {n : Nat} (hn : m < n) : L n 0 = br (allN p 0 m) E X :=
  idx_all h0 h1 m n 0 (by omega) hn
theorem idx_find0 {L : Nat → Int → Prop} {m : Nat} {F : Int → Prop} {p : Nat → Bool} (h0 : ∀ n, L (n + 1) (m : Nat) = F (-1))
    (h1 : ∀ n i : Nat, i < m → L (n + 1) i = br (p i) (F i) (L n ((i + 1 : Nat) : Int))) {n : Nat} (hn : m < n) : L n 0 = F (idxOf (findN p 0 m)) :=
  idx_find' h0 h1 m n 0 (by omega) hn
theorem mid_lt {α : Type} (p : List α) (x : α) (r : List α) : ((p.length : Nat) : Int) < (((p ++ x :: r).length : Nat) : Int) := by simp; omega
theorem snoc_app {α : Type} (p : List α) (x : α) (r : List α) : (p ++ [x]) ++ r = p ++ x :: r := by simp
theorem snoc_len {α : Type} (p : List α) (x : α) : (p ++ [x]).length = p.length + 1 := by simp
def gath (g : Nat → PV) : Nat → Nat → List PV
  | _, 0 => []
  | i, d + 1 => g i :: gath g (i + 1) d
theorem gath_list {α : Type} {g : Nat → PV} {f : α → PV} : ∀ {l : List α} {i : Nat}, (∀ j (h : j < l.length), g (i + j) = f l[j]) → gath g i l.length = l.map f
  | [], _, _ => rfl
  | x :: l, i, h => by
    have h0 := h 0 (Nat.succ_pos _)
    simp only [Nat.add_zero, List.getElem_cons_zero] at h0
    simp only [List.length_cons, gath, List.map_cons, h0]
    rw [gath_list (l := l) (i := i + 1) fun j hj => ?_]
    have := h (j + 1) (by simpa using hj)
    simp only [List.getElem_cons_succ] at this
    rw [← this]
    congr 1
    omega
theorem idx_acc {L : Nat → Int → List PV → Prop} {m : Nat} {E : List PV → Prop} {X : Prop} {p : Nat → Bool} {g : Nat → PV}
    (h0 : ∀ n r, L (n + 1) (m : Nat) r = E r) (h1 : ∀ (n i : Nat) (r : List PV), i < m → r.length = i → L (n + 1) i r = br (p i) (L n ((i + 1 : Nat) : Int) (r ++ [g i])) X) :
    ∀ (d n i : Nat) (r : List PV), i + d = m → r.length = i → d < n → L n i r = br (allN p i d) (E (r ++ gath g i d)) X
  | 0, n + 1, i, r, e, _, _ => by
    have : i = m := by omega
    subst this
    rw [h0]
    simp [allN, gath]
  | d + 1, n + 1, i, r, e, hr, hn => by
    rw [h1 n i r (by omega) hr, idx_acc h0 h1 d n (i + 1) (r ++ [g i]) (by omega) (by simp [hr]) (by omega)]
    simp only [allN, gath, snoc_app]
    cases p i <;> rfl
theorem idx_acc0 {α : Type} {L : Nat → Int → List PV → Prop} {l : List α} {E : List PV → Prop} {X : Prop} {q : α → Bool} {f : α → PV}
    (h0 : ∀ n r, L (n + 1) (l.length : Nat) r = E r) (h1 : ∀ (n i : Nat) (r : List PV) (hi : i < l.length), r.length = i → L (n + 1) i r = br (q l[i]) (L n ((i + 1 : Nat) : Int) (r ++ [f l[i]])) X) {n : Nat} (hn : l.length < n) :
    L n 0 [] = br (l.all q) (E (l.map f)) X := by
  have key := idx_acc (L := L) (m := l.length) (E := E) (X := X) (p := fun i => match l[i]? with | some x => q x | none => false) (g := fun i => match l[i]? with | some x => f x | none => .nilp) h0 (fun n i r hi hr => by
    rw [h1 n i r hi hr]
    simp only [List.getElem?_eq_getElem hi]) l.length n 0 [] (by omega) rfl hn
  have z : ((0 : Nat) : Int) = 0 := rfl
  rw [z] at key
  rw [key, gath_list (f := f) (l := l) fun j hj => ?_, allN_list (q := q) fun j hj => ?_]
  · rfl
  · simp [hj]
  · simp [hj]
theorem list_all0 {α : Type} {L : Nat → Int → Prop} {l : List α} {E X : Prop} {q : α → Bool} (h0 : ∀ n, L (n + 1) (l.length : Nat) = E)
    (h1 : ∀ (n i : Nat) (hi : i < l.length), L (n + 1) i = br (q l[i]) (L n ((i + 1 : Nat) : Int)) X) {n : Nat} (hn : l.length < n) : L n 0 = br (l.all q) E X := by
  rw [idx_all0 (L := L) (m := l.length) (E := E) (X := X) (p := fun i => match l[i]? with | some x => q x | none => false) h0 (fun n i hi => by
    rw [h1 n i hi]
    simp only [List.getElem?_eq_getElem hi]) hn, allN_list (q := q) fun j hj => by simp [hj]]
end Go.RX
namespace Go.RX
def lower (n : Int) : Bool := decide (97 ≤ n) && decide (n ≤ 122)
def digit (n : Int) : Bool := decide (48 ≤ n) && decide (n ≤ 57)
def okAt (s : ByteArray) (i : Nat) : Bool := lower (byteAt s i) || (i != 0 && (digit (byteAt s i) || byteAt s i == 95))
def isName (s : ByteArray) : Bool := decide (1 ≤ s.size) && decide (s.size ≤ 16) && allN (okAt s) 0 s.size
theorem TT_fuel (k : Nat) : (TT (k + 1)).fuel = k + 1 := rfl
theorem br_ex {α : Type} {K : α → Prop} {Φ : α → Prop} {b : Bool} {X Y : Prop} (h1 : b = true → ∃ c, X = K c ∧ Φ c) (h2 : b = false → ∃ c, Y = K c ∧ Φ c) : ∃ c, br b X Y = K c ∧ Φ c := by
  cases b
  · exact h2 rfl
  · exact h1 rfl
theorem S_classOf (k : Nat) (hk : 5 ≤ k) (n : Int) (K : Int → Prop) : ∃ c, (TT k).f_lex_classOf n K = K c ∧ ((c = 3 ↔ lower n = true) ∧ (c = 2 ↔ digit n = true)) := by
  obtain ⟨k, rfl⟩ : ∃ k', k = k' + 5 := ⟨k - 5, by omega⟩
  show ∃ c, F_lex_classOf (TT (k + 4)) n K = K c ∧ _
  have e : ∀ s c K, (TT (k + 4)).f_strings_IndexByte s c K = K (idxByte s c) := fun s c K => rfl
  simp only [F_lex_classOf, e, digit, lower, Bool.and_eq_true, decide_eq_true_eq]
  repeat' (refine br_ex ?_ ?_ <;> intro)
  all_goals refine ⟨_, rfl, ?_⟩
  all_goals simp only [beq_iff_eq, decide_eq_true_eq, beq_eq_false_iff_ne, decide_eq_false_iff_not] at *
  all_goals first | omega | (simp only [true_iff]; omega)
theorem isName_big {s : ByteArray} (h : ¬ s.size ≤ 16) : isName s = false := by
  simp [isName, h]
theorem S_lex_IsName (k : Nat) (s : ByteArray) (hk : s.size + 20 ≤ k) (hs : s.size < 4611686018427387904) (K : Bool → Prop) : (TT k).f_lex_IsName s K = K (isName s) := by
  obtain ⟨k, rfl⟩ : ∃ k', k = k' + 2 := ⟨k - 2, by omega⟩
  show F_lex_IsName (TT (k + 1)) s K = _
  have hl : ∀ (X : Prop) (Y : ByteArray → Prop), L_lex_IsName_0 (TT (k + 1)) (TT (k + 1)).fuel s (s.size : Nat) 0 X Y = br (allN (okAt s) 0 s.size) (Y s) X := by
    intro X Y
    refine idx_all (L := fun n i => L_lex_IsName_0 (TT (k + 1)) n s (s.size : Nat) i X Y) (m := s.size) (p := okAt s) (fun n => ?_) (fun n i hi => ?_) s.size _ 0 (by omega) (by rw [TT_fuel]; omega)
    · simp [L_lex_IsName_0, B_lex_IsName_0]
    · simp only [L_lex_IsName_0, B_lex_IsName_0]
      rw [W_succ (by omega)]
      simp only [Int.ofNat_lt, hi, Int.natCast_nonneg, true_and, decide_true, br_t, Int.toNat_natCast]
      obtain ⟨c, hc, h1, h2⟩ := S_classOf (k + 1) (by omega) (byteAt s i) (fun _n3 => br (_n3 != (3 : Int)) (br (((i : Nat) : Int) == (0 : Int)) X (br (_n3 != (2 : Int)) (br ((byteAt s i) != (95 : Int)) X (L_lex_IsName_0 (TT (k + 1)) n s (s.size : Nat) ((i + 1 : Nat) : Int) X Y)) (L_lex_IsName_0 (TT (k + 1)) n s (s.size : Nat) ((i + 1 : Nat) : Int) X Y))) (L_lex_IsName_0 (TT (k + 1)) n s (s.size : Nat) ((i + 1 : Nat) : Int) X Y))
      rw [hc]
      have e3 : (c != 3) = !lower (byteAt s i) := by
        cases h : lower (byteAt s i)
        · simp [h] at h1; simpa using h1
        · simp [h] at h1; simpa using h1
      have e2 : (c != 2) = !digit (byteAt s i) := by
        cases h : digit (byteAt s i)
        · simp [h] at h2; simpa using h2
        · simp [h] at h2; simpa using h2
      rw [e3, e2]
      simp only [okAt]
      cases lower (byteAt s i) <;> cases digit (byteAt s i) <;> cases i <;> simp [br_if] <;> omega
  simp only [F_lex_IsName, hl, strEq, br_not]
  have e1 : decide (s = noB) = decide (s.size = 0) := decide_eq_decide.2 eq_noB
  rw [e1, br_K, br_K]
  simp only [isName]
  by_cases h0 : s.size = 0
  · simp [h0]
  · rw [decide_eq_false h0, decide_eq_true (p := 1 ≤ s.size) (by omega)]
    simp only [cond_false, Bool.true_and]
    have : decide ((s.size : Int) ≤ 16) = decide (s.size ≤ 16) := decide_eq_decide.2 (by omega)
    rw [this]
    cases allN (okAt s) 0 s.size <;> simp
def nameAt (s : ByteArray) (i : Nat) : Bool := byteAt s i == 95 || digit (byteAt s i) || lower (byteAt s i)
theorem isName_alt (s : ByteArray) : isName s = (decide (1 ≤ s.size) && decide (s.size ≤ 16) && lower (byteAt s 0) && allN (nameAt s) 0 s.size) := by
  unfold isName
  by_cases h1 : 1 ≤ s.size
  · rw [decide_eq_true h1]
    simp only [Bool.true_and]
    cases decide (s.size ≤ 16)
    · rfl
    · simp only [Bool.true_and]
      obtain ⟨d, hd⟩ : ∃ d, s.size = d + 1 := ⟨s.size - 1, by omega⟩
      rw [hd]
      simp only [allN]
      rw [allN_congr (p := okAt s) (q := nameAt s) fun j h2 h3 => ?_]
      · simp only [okAt, nameAt, bne_self_eq_false, Bool.false_and, Bool.or_false]
        cases lower (byteAt s 0) <;> simp
      · simp only [okAt, nameAt]
        have : (j != 0) = true := by simp; omega
        rw [this]
        cases lower (byteAt s j) <;> cases digit (byteAt s j) <;> simp
  · simp [h1]
def nameCh (n : Int) : Bool := n == 95 || digit n || lower n
theorem S_catalog_named_1 (k : Nat) (hk : 1 ≤ k) (n : Int) (K : Bool → Prop) : (TT k).f_catalog_named_1 n K = K (!nameCh n) := by
  obtain ⟨k, rfl⟩ : ∃ k', k = k' + 1 := ⟨k - 1, by omega⟩
  show F_catalog_named_1 (TT k) n K = _
  simp only [F_catalog_named_1, nameCh, digit, lower]
  have a1 : decide (n < 97) = !decide (97 ≤ n) := by rw [← decide_not]; exact decide_eq_decide.2 (by omega)
  have a2 : decide (n > 122) = !decide (n ≤ 122) := by rw [← decide_not]; exact decide_eq_decide.2 (by omega)
  have a3 : decide (n < 48) = !decide (48 ≤ n) := by rw [← decide_not]; exact decide_eq_decide.2 (by omega)
  have a4 : decide (n > 57) = !decide (n ≤ 57) := by rw [← decide_not]; exact decide_eq_decide.2 (by omega)
  have a5 : (n != 95) = !(n == 95) := rfl
  rw [a1, a2, a3, a4, a5]
  cases n == 95 <;> cases decide (97 ≤ n) <;> cases decide (n ≤ 122) <;> cases decide (48 ≤ n) <;> cases decide (n ≤ 57) <;> rfl
theorem nameCh_at (s : ByteArray) (i : Nat) : nameCh (byteAt s i) = nameAt s i := rfl
theorem nameCh_big {n : Int} (h : 128 ≤ n) : nameCh n = false := by
  simp only [nameCh, digit, lower, Bool.or_eq_false_iff, Bool.and_eq_false_iff, decide_eq_false_iff_not, beq_eq_false_iff_ne]
  omega
theorem indexFunc_loop {k : Nat} (hk : 1 ≤ k) (s : ByteArray) {K0 : Int → Prop} {X K1 : Prop} (hX : ∀ j : Nat, K0 (j : Int) = X) : ∀ d n i : Nat, i + d = s.size → d < n →
    L_strings_indexFunc_0 (TT k) n true s i K0 K1 = br (allN (nameAt s) i d) K1 X
  | 0, n + 1, i, e, _ => by
    have : ¬ i < s.size := by omega
    simp [L_strings_indexFunc_0, B_strings_indexFunc_0, this, allN]
  | d + 1, n + 1, i, e, hn => by
    have hi : i < s.size := by omega
    simp only [L_strings_indexFunc_0, B_strings_indexFunc_0, decide_eq_true hi, br_t, S_catalog_named_1 k hk, hX, allN]
    by_cases hb : byteAt s i < 128
    · obtain ⟨e1, e2⟩ := decode_small s i hi hb
      rw [e1, e2, nameCh_at, indexFunc_loop hk s hX d n (i + 1) (by omega) (by omega)]
      cases nameAt s i <;> rfl
    · have hb' : 128 ≤ byteAt s i := by omega
      have e1 := decode_big s i hi hb'
      rw [nameCh_big (by omega), ← nameCh_at, nameCh_big hb']
      rfl
theorem S_catalog_named (k : Nat) (hk : 25 ≤ k) (s : ByteArray) (K : Bool → Prop) : (TT k).f_catalog_named s K = K (isName s) := by
  obtain ⟨k, rfl⟩ : ∃ k', k = k' + 5 := ⟨k - 5, by omega⟩
  show F_catalog_named (TT (k + 4)) s K = _
  simp only [F_catalog_named, strEq, isName_alt]
  have e1 : decide (s = noB) = decide (s.size = 0) := decide_eq_decide.2 eq_noB
  rw [e1]
  by_cases h1 : s.size = 0
  · simp [h1]
  · rw [decide_eq_false h1, br_f, decide_eq_true (p := 1 ≤ s.size) (by omega)]
    by_cases h2 : (s.size : Int) > 16
    · rw [decide_eq_true h2, br_t, decide_eq_false (p := s.size ≤ 16) (by omega)]
      simp
    · rw [decide_eq_false h2, br_f, decide_eq_true (p := s.size ≤ 16) (by omega)]
      have e : ∀ K, (TT (k + 4)).f_strings_ContainsFunc s K = L_strings_indexFunc_0 (TT (k + 1)) (k + 1) true s 0 (fun n => K (decide (n ≥ 0))) (K (decide ((-1 : Int) ≥ 0))) := fun K => rfl
      simp only [e]
      rw [indexFunc_loop (X := K (!true)) (by omega) s (fun j => by rw [decide_eq_true (by omega)]) s.size _ 0 (by omega) (by omega)]
      have h3 : (0 : Int) < ((s.size : Nat) : Int) := by omega
      have e1 : decide (byteAt s 0 < 97) = !decide (97 ≤ byteAt s 0) := by rw [← decide_not]; exact decide_eq_decide.2 (by omega)
      have e2 : decide (byteAt s 0 > 122) = !decide (byteAt s 0 ≤ 122) := by rw [← decide_not]; exact decide_eq_decide.2 (by omega)
      simp only [h3, Int.le_refl, true_and, lower, Int.toNat_zero, Bool.true_and, e1, e2]
      have e3 : decide ((-1 : Int) ≥ 0) = false := by decide
      rw [e3]
      cases decide (97 ≤ byteAt s 0) <;> cases decide (byteAt s 0 ≤ 122) <;> cases allN (nameAt s) 0 s.size <;> rfl
end Go.RX
namespace Go.RX
def eI (n : Int) : PV := .int .i64 n
def eS (s : ByteArray) : PV := .str s
def eCol (c : S_api_Column) : PV := .agg (p_api_Column c)
def eParam (c : S_api_Param) : PV := .agg (p_api_Param c)
def eSort (c : S_api_Sort) : PV := .agg (p_api_Sort c)
structure Index where
  name : ByteArray
  columns : List Int
  unique : Bool
def sIndex (m : Bool) (x : Index) : S_api_Index := ⟨x.name, lst m (x.columns.map eI), x.unique⟩
def eIndex (m : Bool) (x : Index) : PV := .agg (p_api_Index (sIndex m x))
structure Table where
  name : ByteArray
  columns : List S_api_Column
  key : List Int
  part : Int
  indexes : List Index
def sTable (m : Bool) (x : Table) : S_api_Table := ⟨x.name, lst m (x.columns.map eCol), lst m (x.key.map eI), x.part, lst m (x.indexes.map (eIndex m))⟩
def eTable (m : Bool) (x : Table) : PV := .agg (p_api_Table (sTable m x))
structure Proc where
  name : ByteArray
  params : List S_api_Param
  body : List ByteArray
  rows : Int
  bytes : Int
def sProc (m : Bool) (x : Proc) : S_api_Proc := ⟨x.name, lst m (x.params.map eParam), lst m (x.body.map eS), x.rows, x.bytes⟩
def eProc (m : Bool) (x : Proc) : PV := .agg (p_api_Proc (sProc m x))
structure Catalog where
  tables : List Table
  procs : List Proc
def sCatalog (m : Bool) (x : Catalog) : S_api_Catalog := ⟨lst m (x.tables.map (eTable m)), lst m (x.procs.map (eProc m))⟩
inductive Expr where
  | mk (kind op vkind vint : Int) (vtext table name : ByteArray) (kids : List Expr) (at_ : Int)
namespace Expr
def kind : Expr → Int | mk k _ _ _ _ _ _ _ _ => k
def op : Expr → Int | mk _ k _ _ _ _ _ _ _ => k
def vkind : Expr → Int | mk _ _ k _ _ _ _ _ _ => k
def vint : Expr → Int | mk _ _ _ k _ _ _ _ _ => k
def vtext : Expr → ByteArray | mk _ _ _ _ k _ _ _ _ => k
def table : Expr → ByteArray | mk _ _ _ _ _ k _ _ _ => k
def name : Expr → ByteArray | mk _ _ _ _ _ _ k _ _ => k
def kids : Expr → List Expr | mk _ _ _ _ _ _ _ k _ => k
def at_ : Expr → Int | mk _ _ _ _ _ _ _ _ k => k
end Expr
mutual
def eExpr (m : Bool) : Expr → PV
  | .mk k o vk vi vt t n kids a => .agg (p_api_Expr ⟨k, o, vk, vi, vt, t, n, lst m (eExprs m kids), a⟩)
def eExprs (m : Bool) : List Expr → List PV
  | [] => []
  | x :: r => eExpr m x :: eExprs m r
end
theorem eExprs_map (m : Bool) : ∀ l : List Expr, eExprs m l = l.map (eExpr m)
  | [] => rfl
  | x :: r => by rw [eExprs, eExprs_map m r]; rfl
def sExpr (m : Bool) (e : Expr) : S_api_Expr := ⟨e.kind, e.op, e.vkind, e.vint, e.vtext, e.table, e.name, lst m (e.kids.map (eExpr m)), e.at_⟩
theorem eExpr_s (m : Bool) (e : Expr) : eExpr m e = .agg (p_api_Expr (sExpr m e)) := by
  cases e
  rw [eExpr, eExprs_map]
  rfl
structure Set_ where
  name : ByteArray
  expr : Expr
  at_ : Int
def sSet (m : Bool) (x : Set_) : S_api_Set := ⟨x.name, x.expr.kind, x.expr.op, x.expr.vkind, x.expr.vint, x.expr.vtext, x.expr.table, x.expr.name, lst m (x.expr.kids.map (eExpr m)), x.expr.at_, x.at_⟩
def eSet (m : Bool) (x : Set_) : PV := .agg (p_api_Set (sSet m x))
structure Stmt where
  kind : Int
  table : ByteArray
  join : ByteArray
  on : List Expr
  where_ : List Expr
  items : List Expr
  star : Bool
  sets : List Set_
  groups : List Expr
  sorts : List S_api_Sort
  limit : List Int
  at_ : Int
  joinAt : Int
def sStmt (m : Bool) (x : Stmt) : S_api_Stmt := ⟨x.kind, x.table, x.join, lst m (x.on.map (eExpr m)), lst m (x.where_.map (eExpr m)), lst m (x.items.map (eExpr m)), x.star, lst m (x.sets.map (eSet m)), lst m (x.groups.map (eExpr m)), lst m (x.sorts.map eSort), lst m (x.limit.map eI), x.at_, x.joinAt⟩
inductive Term where
  | mk (op num type_ vkind vint : Int) (vtext : ByteArray) (kids : List Term)
namespace Term
def op : Term → Int | mk k _ _ _ _ _ _ => k
def num : Term → Int | mk _ k _ _ _ _ _ => k
def type_ : Term → Int | mk _ _ k _ _ _ _ => k
def vkind : Term → Int | mk _ _ _ k _ _ _ => k
def vint : Term → Int | mk _ _ _ _ k _ _ => k
def vtext : Term → ByteArray | mk _ _ _ _ _ k _ => k
def kids : Term → List Term | mk _ _ _ _ _ _ k => k
end Term
mutual
def eTerm (m : Bool) : Term → PV
  | .mk k o t vk vi vt kids => .agg (p_api_Term ⟨k, o, t, vk, vi, vt, lst m (eTerms m kids)⟩)
def eTerms (m : Bool) : List Term → List PV
  | [] => []
  | x :: r => eTerm m x :: eTerms m r
end
theorem eTerms_map (m : Bool) : ∀ l : List Term, eTerms m l = l.map (eTerm m)
  | [] => rfl
  | x :: r => by rw [eTerms, eTerms_map m r]; rfl
def sTerm (m : Bool) (e : Term) : S_api_Term := ⟨e.op, e.num, e.type_, e.vkind, e.vint, e.vtext, lst m (e.kids.map (eTerm m))⟩
theorem eTerm_s (m : Bool) (e : Term) : eTerm m e = .agg (p_api_Term (sTerm m e)) := by
  cases e
  rw [eTerm, eTerms_map]
  rfl
structure Typed where
  kind : Int
  tables : List Int
  on : List Term
  where_ : List Term
  items : List Term
  columns : List Int
  grouped : Bool
  groups : List Int
  sorts : List S_api_Sort
  limit : List Int
  types : List Int
def sTyped (m : Bool) (x : Typed) : S_api_Typed := ⟨x.kind, lst m (x.tables.map eI), lst m (x.on.map (eTerm m)), lst m (x.where_.map (eTerm m)), lst m (x.items.map (eTerm m)), lst m (x.columns.map eI), x.grouped, lst m (x.groups.map eI), lst m (x.sorts.map eSort), lst m (x.limit.map eI), lst m (x.types.map eI)⟩
@[simp] theorem as_Column (s : S_api_Column) (K : S_api_Column → Prop) : as_api_Column (eCol s) K = K s := rfl
@[simp] theorem as_Param (s : S_api_Param) (K : S_api_Param → Prop) : as_api_Param (eParam s) K = K s := rfl
@[simp] theorem as_Sort (s : S_api_Sort) (K : S_api_Sort → Prop) : as_api_Sort (eSort s) K = K s := rfl
@[simp] theorem as_Index (m : Bool) (x : Index) (K : S_api_Index → Prop) : as_api_Index (eIndex m x) K = K (sIndex m x) := rfl
@[simp] theorem as_Table (m : Bool) (x : Table) (K : S_api_Table → Prop) : as_api_Table (eTable m x) K = K (sTable m x) := rfl
@[simp] theorem as_Proc (m : Bool) (x : Proc) (K : S_api_Proc → Prop) : as_api_Proc (eProc m x) K = K (sProc m x) := rfl
@[simp] theorem as_Expr (m : Bool) (x : Expr) (K : S_api_Expr → Prop) : as_api_Expr (eExpr m x) K = K (sExpr m x) := by rw [eExpr_s]; rfl
@[simp] theorem as_Set (m : Bool) (x : Set_) (K : S_api_Set → Prop) : as_api_Set (eSet m x) K = K (sSet m x) := rfl
@[simp] theorem as_Term (m : Bool) (x : Term) (K : S_api_Term → Prop) : as_api_Term (eTerm m x) K = K (sTerm m x) := by rw [eTerm_s]; rfl
@[simp] theorem asI_eI (n : Int) (K : Int → Prop) : asI_i64 (eI n) K = K n := rfl
@[simp] theorem asS_eS (n : ByteArray) (K : ByteArray → Prop) : asS (eS n) K = K n := rfl
theorem eI_fold (n : Int) : PV.int .i64 n = eI n := rfl
theorem eS_fold (s : ByteArray) : PV.str s = eS s := rfl
theorem lst_map_g {α : Type} {m : Bool} {l : List α} {f : α → PV} {i : Nat} (h : i < l.length) : (lst m (l.map f)).g i = f l[i] := by
  simp [lst_g, List.getD, h]
theorem map_getD {α : Type} {l : List α} {f : α → PV} {i : Nat} {d : PV} (h : i < l.length) : (l.map f).getD i d = f l[i] := by
  simp [List.getD, h]
theorem eqK_str (a b : ByteArray) : eqK (.str a) (.str b) = decide (a = b) := by simp only [eqK, strEq]
theorem eqK_int (k : IntKind) (a b : Int) : eqK (.int k a) (.int k b) = decide (a = b) := by
  simp only [eqK]
  by_cases h : a = b <;> simp [h]
def Looks {α : Type} (key : α → PV) (m : List (PV × PV)) (f : α → Option PV) : Prop := ∀ a, look (key a) m = f a
theorem look_setK {α : Type} [DecidableEq α] {key : α → PV} (hk : ∀ a b, eqK (key a) (key b) = decide (a = b)) (a b : α) (v : PV) : ∀ m : List (PV × PV), (∀ p ∈ m, ∃ c, p.1 = key c) → look (key b) (setK (key a) v m) = if b = a then some v else look (key b) m
  | [], _ => by
    simp only [setK, look, hk]
    by_cases h : b = a <;> simp [h]
  | (x, u) :: r, h => by
    obtain ⟨c, hc⟩ := h (x, u) (.head _)
    simp only at hc
    subst hc
    simp only [setK, hk]
    by_cases e : a = c
    · subst e
      simp only [decide_true, look, hk]
      by_cases e' : b = a <;> simp [e']
    · rw [decide_eq_false e]
      simp only [look, hk]
      by_cases e' : b = c
      · subst e'
        have : ¬ b = a := fun h => e h.symm
        simp [this]
      · rw [decide_eq_false e']
        exact look_setK hk a b v r fun p hp => h p (.tail _ hp)
theorem keys_setK {α : Type} {key : α → PV} (a : α) (v : PV) : ∀ m : List (PV × PV), (∀ p ∈ m, ∃ c, p.1 = key c) → ∀ p ∈ setK (key a) v m, ∃ c, p.1 = key c
  | [], _, p, hp => by
    simp only [setK, List.mem_singleton] at hp
    exact ⟨a, by rw [hp]⟩
  | (x, u) :: r, h, p, hp => by
    simp only [setK] at hp
    split at hp
    · cases hp with
      | head => exact h (x, u) (.head _)
      | tail _ hp => exact h p (.tail _ hp)
    · cases hp with
      | head => exact h (x, u) (.head _)
      | tail _ hp => exact keys_setK a v r (fun p hp => h p (.tail _ hp)) p hp
structure IsMap {α : Type} (key : α → PV) (m : List (PV × PV)) (f : α → Option PV) : Prop where
  keys : ∀ p ∈ m, ∃ c, p.1 = key c
  look : ∀ a, look (key a) m = f a
theorem IsMap.nil {α : Type} {key : α → PV} : IsMap key [] fun _ => none := ⟨fun _ h => (by cases h), fun _ => rfl⟩
theorem IsMap.set {α : Type} [DecidableEq α] {key : α → PV} (hk : ∀ a b, eqK (key a) (key b) = decide (a = b)) {m : List (PV × PV)} {f : α → Option PV} (h : IsMap key m f) (a : α) (v : PV) :
    IsMap key (setK (key a) v m) fun b => if b = a then some v else f b :=
  ⟨keys_setK a v m h.keys, fun b => by rw [look_setK hk a b v m h.keys, h.look]⟩
end Go.RX
namespace Go.RX
def memG {α : Type} [DecidableEq α] (x : α) (ns : List α) : Bool := ns.any fun y => decide (y = x)
theorem memG_iff {α : Type} [DecidableEq α] {x : α} {ns : List α} : memG x ns = true ↔ x ∈ ns := by simp [memG]
def okF {α β : Type} [DecidableEq α] (p : β → Bool) (key : β → α) : List α → List β → Bool
  | _, [] => true
  | ns, x :: l => p x && !memG (key x) ns && okF p key (key x :: ns) l
theorem okF_iff {α β : Type} [DecidableEq α] {p : β → Bool} {key : β → α} : ∀ {l : List β} {ns : List α}, okF p key ns l = true ↔ (∀ x ∈ l, p x = true) ∧ (l.map key).Nodup ∧ ∀ x ∈ l, key x ∉ ns
  | [], ns => by simp [okF]
  | x :: l, ns => by
    have e : (memG (key x) ns = false) ↔ key x ∉ ns := by rw [← memG_iff]; simp
    simp only [okF, Bool.and_eq_true, okF_iff (l := l), Bool.not_eq_true', e, List.mem_cons, List.map_cons, List.nodup_cons, List.mem_map]
    constructor
    · rintro ⟨⟨h1, h2⟩, h3, h4, h5⟩
      refine ⟨?_, ⟨?_, h4⟩, ?_⟩
      · rintro y (rfl | hy)
        · exact h1
        · exact h3 y hy
      · rintro ⟨y, hy, h⟩; exact h5 y hy (.inl h)
      · rintro y (rfl | hy)
        · exact h2
        · exact fun h => h5 y hy (.inr h)
    · rintro ⟨h1, ⟨h2, h3⟩, h4⟩
      refine ⟨⟨h1 x (.inl rfl), h4 x (.inl rfl)⟩, fun y hy => h1 y (.inr hy), h3, fun y hy h => ?_⟩
      rcases h with h | h
      · exact h2 ⟨y, hy, h⟩
      · exact h4 y (.inr hy) h
theorem okF_alt {α β : Type} [DecidableEq α] {p : β → Bool} {key : β → α} (d : β) (l : List β) : okF p key [] l = allN (fun i => p (l.getD i d) && allN (fun k => !decide (key (l.getD k d) = key (l.getD i d))) 0 i) 0 l.length := by
  rw [Bool.eq_iff_iff]
  rw [okF_iff, allN_iff]
  simp only [Bool.and_eq_true, allN_iff, Bool.not_eq_true', decide_eq_false_iff_not]
  constructor
  · rintro ⟨h1, h2, -⟩ j - hj
    have hj' : j < l.length := by omega
    refine ⟨h1 _ ?_, fun k _ hk => ?_⟩
    · simp [List.getD, hj']
    · have hk' : k < l.length := by omega
      simp only [List.getD, List.getElem?_eq_getElem hj', List.getElem?_eq_getElem hk', Option.getD_some]
      have := List.pairwise_iff_getElem.1 h2 k j (by simpa using hk') (by simpa using hj') (by omega)
      simpa using this
  · intro h
    refine ⟨fun x hx => ?_, List.pairwise_iff_getElem.2 fun i j hi hj hij => ?_, fun _ _ h => by cases h⟩
    · obtain ⟨i, hi, rfl⟩ := List.mem_iff_getElem.1 hx
      have := (h i (by omega) (by omega)).1
      simpa [List.getD, hi] using this
    · simp only [List.length_map] at hi hj
      have := (h j (by omega) (by omega)).2 i (by omega) (by omega)
      simpa [List.getD, hi, hj] using this
theorem okF_split {α β : Type} [DecidableEq α] {p : α → Bool} {q : β → Bool} {key : β → α} (l : List β) : okF (fun x => p (key x) && q x) key [] l = (l.all q && okF p id [] (l.map key)) := by
  rw [Bool.eq_iff_iff]
  simp only [Bool.and_eq_true, okF_iff, List.all_eq_true, List.mem_map, List.map_id_fun, id]
  constructor
  · rintro ⟨h1, h2, -⟩
    refine ⟨fun x hx => (h1 x hx).2, ?_, h2, fun _ _ h => by cases h⟩
    rintro _ ⟨x, hx, rfl⟩
    exact (h1 x hx).1
  · rintro ⟨h1, h2, h3, -⟩
    exact ⟨fun x hx => ⟨h2 _ ⟨x, hx, rfl⟩, h1 x hx⟩, h3, fun _ _ h => by cases h⟩
def okNames (l : List ByteArray) : Bool := okF isName id [] l
theorem okNames_alt (l : List ByteArray) : okNames l = allN (fun i => isName (l.getD i noB) && allN (fun k => !decide (l.getD k noB = l.getD i noB)) 0 i) 0 l.length := okF_alt noB l
def okPlace (many : Int) (n : Int) : Bool := decide (0 ≤ n) && decide (n < many)
def places (l : List Int) (many : Int) : Bool := decide (1 ≤ l.length) && decide (l.length ≤ 8) && okF (okPlace many) id [] l
def seenF {α : Type} [DecidableEq α] (ns : List α) (x : α) : Option PV := if memG x ns = true then some (.bool true) else none
theorem seen_nil {α : Type} [DecidableEq α] {key : α → PV} : IsMap key [] (seenF ([] : List α)) := IsMap.nil
theorem seen_set {α : Type} [DecidableEq α] {key : α → PV} (hk : ∀ a b, eqK (key a) (key b) = decide (a = b)) {m : List (PV × PV)} {ns : List α} (h : IsMap key m (seenF ns)) (x : α) : IsMap key (setK (key x) (.bool true) m) (seenF (x :: ns)) := by
  refine ⟨keys_setK x _ m h.keys, fun b => ?_⟩
  rw [look_setK hk x b _ m h.keys, h.look]
  simp only [seenF, memG, List.any_cons]
  by_cases e : b = x
  · simp [e]
  · have : ¬ x = b := fun h => e h.symm
    simp [e, this]
theorem seen_get {α : Type} [DecidableEq α] {key : α → PV} {m : List (PV × PV)} {ns : List α} (h : IsMap key m (seenF ns)) (x : α) (K : Bool → Prop) : asB ((look (key x) m).getD (.bool false)) K = K (memG x ns) := by
  rw [h.look, seenF]
  cases memG x ns <;> rfl
theorem S_catalog_places (k : Nat) (m : Bool) (l : List Int) (many : Int) (hl : l.length < 4611686018427387904) (hk : l.length + 40 ≤ k) (K : Bool → Prop) : (TT k).f_catalog_places (lst m (l.map eI)) many K = K (places l many) := by
  obtain ⟨k, rfl⟩ : ∃ k', k = k' + 2 := ⟨k - 2, by omega⟩
  show F_catalog_places (TT (k + 1)) _ many K = _
  have key : ∀ (X : Prop) (Y : Arr → Prop) (a : Arr) (l : List Int) (pre : List PV) (n : Nat) (mp : List (PV × PV)) (ns : List Int), l.length < n → pre.length + l.length < 4611686018427387904 → IsMap eI mp (seenF ns) →
      L_catalog_places_0 (TT (k + 1)) n a many (lst m (pre ++ l.map eI)) ((pre ++ l.map eI).length : Nat) (pre.length : Nat) mp X Y = br (okF (okPlace many) id ns l) (Y a) X := by
    intro X Y a l
    induction l with
    | nil =>
      intro pre n mp ns hn _ _
      obtain ⟨n, rfl⟩ : ∃ n', n = n' + 1 := ⟨n - 1, by simp at hn; omega⟩
      simp [L_catalog_places_0, B_catalog_places_0, okF]
    | cons x l ih =>
      intro pre n mp ns hn hp hm
      simp only [List.length_cons] at hn hp
      obtain ⟨n, rfl⟩ : ∃ n', n = n' + 1 := ⟨n - 1, by omega⟩
      simp only [L_catalog_places_0, B_catalog_places_0]
      rw [W_succ (by omega)]
      have e := ih (pre ++ [eI x]) n (setK (eI x) (.bool true) mp) (x :: ns) (by omega) (by simp; omega) (seen_set (eqK_int .i64) hm x)
      simp only [snoc_app, snoc_len] at e
      simp only [List.map_cons, mid_lt, decide_true, br_t, lst_n, Int.natCast_nonneg, true_and, Int.toNat_natCast, lst_g, getD_mid, asI_eI, eI_fold, seen_get hm]
      rw [e]
      have e1 : decide (x < 0) = !decide (0 ≤ x) := by rw [← decide_not]; exact decide_eq_decide.2 (by omega)
      have e2 : decide (x ≥ many) = !decide (x < many) := by rw [← decide_not]; exact decide_eq_decide.2 (by omega)
      simp only [okF, okPlace, e1, e2, id]
      cases decide (0 ≤ x) <;> cases decide (x < many) <;> cases memG x ns <;> simp
  simp only [F_catalog_places, places, lst_n, List.length_map, TT_fuel]
  have := key (K false) (fun a17 => br (decide (((a17.n : Nat) : Int) ≥ (1 : Int))) (K (decide (((a17.n : Nat) : Int) ≤ (8 : Int)))) (K false)) (lst m (l.map eI)) l [] (k + 1) [] [] (by omega) (by simpa using hl) seen_nil
  simp only [List.nil_append, List.length_map, List.length_nil, lst_n] at this
  have e0 : ((0 : Nat) : Int) = 0 := rfl
  rw [e0] at this
  rw [this]
  have e1 : decide ((l.length : Int) ≥ 1) = decide (1 ≤ l.length) := decide_eq_decide.2 (by omega)
  have e2 : decide ((l.length : Int) ≤ 8) = decide (l.length ≤ 8) := decide_eq_decide.2 (by omega)
  rw [e1, e2]
  cases okF (okPlace many) id [] l <;> cases decide (1 ≤ l.length) <;> cases decide (l.length ≤ 8) <;> rfl
end Go.RX
namespace Go.RX
theorem S_met (k : Nat) (hk : 30 ≤ k) (s : ByteArray) {m : List (PV × PV)} {ns : List ByteArray} (hm : IsMap eS m (seenF ns)) (K : Bool → List (PV × PV) → Prop) :
    (TT k).f_catalog_met_1 s m K = K (isName s && !memG s ns) (setK (eS s) (.bool true) m) := by
  obtain ⟨k, rfl⟩ : ∃ k', k = k' + 1 := ⟨k - 1, by omega⟩
  show F_catalog_met_1 (TT k) s m K = _
  simp only [F_catalog_met_1, S_catalog_named k (by omega), eS_fold, seen_get hm]
  cases isName s <;> rfl
def okType (n : Int) : Bool := decide (1 ≤ n) && decide (n ≤ 3)
theorem S_typed (k : Nat) (hk : 1 ≤ k) (n : Int) (K : Bool → Prop) : (TT k).f_catalog_typed n K = K (okType n) := by
  obtain ⟨k, rfl⟩ : ∃ k', k = k' + 1 := ⟨k - 1, by omega⟩
  show F_catalog_typed (TT k) n K = _
  simp only [F_catalog_typed, okType, br_K]
  have : decide (n ≥ 1) = decide (1 ≤ n) := rfl
  rw [this]
  cases decide (1 ≤ n) <;> rfl
theorem okType_lt (n : Int) (X Y : Prop) : br (decide (n < 1)) X (br (decide (n > 3)) X Y) = br (okType n) Y X := by
  have e1 : decide (n < 1) = !decide (1 ≤ n) := by rw [← decide_not]; exact decide_eq_decide.2 (by omega)
  have e2 : decide (n > 3) = !decide (n ≤ 3) := by rw [← decide_not]; exact decide_eq_decide.2 (by omega)
  rw [e1, e2, okType]
  cases decide (1 ≤ n) <;> cases decide (n ≤ 3) <;> rfl
theorem S_contains (k : Nat) (m : Bool) (l : List Int) (x : Int) (hl : l.length < 4611686018427387904) (hk : l.length + 10 ≤ k) (K : Bool → Prop) : (TT k).f_slices_Contains_int_int (lst m (l.map eI)) x K = K (l.any fun y => decide (x = y)) := by
  obtain ⟨k, rfl⟩ : ∃ k', k = k' + 3 := ⟨k - 3, by omega⟩
  have : (TT (k + 3)).f_slices_Contains_int_int (lst m (l.map eI)) x K = L_slices_Index_int_int_0 (TT (k + 1)) (k + 1) (lst m (l.map eI)) x (((lst m (l.map eI)).n : Nat) : Int) 0 (fun n => K (decide (n ≥ 0))) (K (decide ((-1 : Int) ≥ 0))) := rfl
  rw [this, idx_find0 (L := fun n i => L_slices_Index_int_int_0 (TT (k + 1)) n (lst m (l.map eI)) x (((lst m (l.map eI)).n : Nat) : Int) i (fun n => K (decide (n ≥ 0))) (K (decide ((-1 : Int) ≥ 0)))) (m := l.length) (F := fun n => K (decide (n ≥ 0))) (p := fun i => decide (x = l.getD i 0)) (fun n => ?_) (fun n i hi => ?_) (by omega)]
  · rw [idxOf_nonneg, findN_isSome]
    congr 1
    rw [allN_list (q := fun y => !decide (x = y)) fun j hj => by simp [List.getD, hj]]
    rw [Bool.eq_iff_iff]
    simp
  · simp [L_slices_Index_int_int_0, B_slices_Index_int_int_0]
  · simp only [L_slices_Index_int_int_0, B_slices_Index_int_int_0]
    rw [W_succ (by omega)]
    have e : l.getD i 0 = l[i] := by simp [List.getD, hi]
    have e2 : (x == l[i]) = decide (x = l[i]) := by
      by_cases h : x = l[i] <;> simp [h]
    simp only [Int.toNat_natCast, lst_map_g hi, asI_eI, lst_n, List.length_map, Int.ofNat_lt, hi, Int.natCast_nonneg, true_and, decide_true, br_t, e, e2]
def notNull (cols : List S_api_Column) (n : Int) : Bool := match cols[n.toNat]? with
  | some c => c.NotNull
  | none => false
def colOK (c : S_api_Column) : Bool := isName c.Name && okType c.Type_
def idxOK (many : Int) (x : Index) : Bool := isName x.name && places x.columns many
def mayTable (t : Table) : Bool := isName t.name && decide (1 ≤ t.columns.length) && decide (t.columns.length ≤ 16) && decide (t.indexes.length ≤ 4) && okF colOK (·.Name) [] t.columns &&
  places t.key t.columns.length && (t.key.any fun y => decide (t.part = y)) && t.key.all (notNull t.columns) && okF (idxOK t.columns.length) (·.name) [] t.indexes
structure Table.Fits (M : Nat) (t : Table) : Prop where
  key : t.key.length ≤ M
  idx : ∀ x ∈ t.indexes, x.columns.length ≤ M
theorem places_in {l : List Int} {many : Int} (h : places l many = true) : ∀ n ∈ l, 0 ≤ n ∧ n < many := by
  simp only [places, Bool.and_eq_true, okF_iff, okPlace, decide_eq_true_eq] at h
  exact h.2.1
theorem places_len {l : List Int} {many : Int} (h : places l many = true) : l.length ≤ 8 := by
  simp only [places, Bool.and_eq_true, decide_eq_true_eq] at h
  exact h.1.2
theorem cat_cols {k : Nat} (hk : 31 ≤ k) (m : Bool) (x1 : S_api_Table) (m2 : List (PV × PV)) (X : Prop) (Y : S_api_Table → List (PV × PV) → Prop) (l : List S_api_Column) : ∀ (pre : List PV) (n : Nat) (mp : List (PV × PV)) (ns : List ByteArray), l.length < n → pre.length + l.length < 4611686018427387904 → IsMap eS mp (seenF ns) →
    L_catalog_mayTable_0 (TT k) n (lst m (pre ++ l.map eCol)) ((pre ++ l.map eCol).length : Nat) (pre.length : Nat) x1 mp m2 X Y = br (okF colOK (·.Name) ns l) (Y x1 m2) X := by
  induction l with
  | nil =>
    intro pre n mp ns hn _ _
    obtain ⟨n, rfl⟩ : ∃ n', n = n' + 1 := ⟨n - 1, by simp at hn; omega⟩
    simp [L_catalog_mayTable_0, B_catalog_mayTable_0, okF]
  | cons x l ih =>
    intro pre n mp ns hn hp hm
    simp only [List.length_cons] at hn hp
    obtain ⟨n, rfl⟩ : ∃ n', n = n' + 1 := ⟨n - 1, by omega⟩
    simp only [L_catalog_mayTable_0, B_catalog_mayTable_0]
    rw [W_succ (by omega)]
    have e := ih (pre ++ [eCol x]) n (setK (eS x.Name) (.bool true) mp) (x.Name :: ns) (by omega) (by simp; omega) (seen_set eqK_str hm x.Name)
    simp only [snoc_app, snoc_len] at e
    simp only [List.map_cons, mid_lt, decide_true, br_t, lst_n, Int.natCast_nonneg, true_and, Int.toNat_natCast, lst_g, getD_mid, as_Column, S_met k (by omega) x.Name hm, S_typed k (by omega)]
    rw [e]
    simp only [okF, colOK]
    cases isName x.Name <;> cases memG x.Name ns <;> cases okType x.Type_ <;> simp
theorem cat_idx {k : Nat} {M : Nat} (hM : M < 4611686018427387904) (hk : M + 50 ≤ k) (m : Bool) (x1 : S_api_Table) (X Y : Prop) (l : List Index) (hl : ∀ x ∈ l, x.columns.length ≤ M) : ∀ (pre : List PV) (n : Nat) (mp : List (PV × PV)) (ns : List ByteArray), l.length < n → pre.length + l.length < 4611686018427387904 → IsMap eS mp (seenF ns) →
    L_catalog_mayTable_4 (TT k) n (lst m (pre ++ l.map (eIndex m))) ((pre ++ l.map (eIndex m)).length : Nat) (pre.length : Nat) x1 mp X Y = br (okF (idxOK x1.Columns.n) (·.name) ns l) Y X := by
  induction l with
  | nil =>
    intro pre n mp ns hn _ _
    obtain ⟨n, rfl⟩ : ∃ n', n = n' + 1 := ⟨n - 1, by simp at hn; omega⟩
    simp [L_catalog_mayTable_4, B_catalog_mayTable_4, okF]
  | cons x l ih =>
    intro pre n mp ns hn hp hm
    simp only [List.length_cons] at hn hp
    obtain ⟨n, rfl⟩ : ∃ n', n = n' + 1 := ⟨n - 1, by omega⟩
    simp only [L_catalog_mayTable_4, B_catalog_mayTable_4]
    rw [W_succ (by omega)]
    have e := ih (fun y hy => hl y (.tail _ hy)) (pre ++ [eIndex m x]) n (setK (eS x.name) (.bool true) mp) (x.name :: ns) (by omega) (by simp; omega) (seen_set eqK_str hm x.name)
    simp only [snoc_app, snoc_len] at e
    have hx := hl x (.head _)
    have hs : sIndex m x = ⟨x.name, lst m (x.columns.map eI), x.unique⟩ := rfl
    simp only [List.map_cons, mid_lt, decide_true, br_t, lst_n, Int.natCast_nonneg, true_and, Int.toNat_natCast, lst_g, getD_mid, as_Index, hs, S_met k (by omega) x.name hm, S_catalog_places k m x.columns _ (by omega) (by omega)]
    rw [e]
    simp only [okF, idxOK]
    cases isName x.name <;> cases memG x.name ns <;> cases places x.columns x1.Columns.n <;> simp
theorem cat_keys {k : Nat} (m : Bool) (t : Table) (mp : List (PV × PV)) (X : Prop) (Y : S_api_Table → List (PV × PV) → Prop) (hl : t.key.length < k) (hl' : t.key.length < 4611686018427387904) (hin : ∀ n ∈ t.key, 0 ≤ n ∧ n < (t.columns.length : Int)) :
    L_catalog_mayTable_2 (TT k) k (lst m (t.key.map eI)) ((lst m (t.key.map eI)).n : Nat) 0 (sTable m t) mp X Y = br (t.key.all (notNull t.columns)) (Y (sTable m t) mp) X := by
  rw [idx_all0 (L := fun n i => L_catalog_mayTable_2 (TT k) n (lst m (t.key.map eI)) ((lst m (t.key.map eI)).n : Nat) i (sTable m t) mp X Y) (m := t.key.length) (p := fun i => notNull t.columns (t.key.getD i 0)) (fun n => ?_) (fun n i hi => ?_) hl]
  · rw [allN_list (q := notNull t.columns) fun j hj => by simp [List.getD, hj]]
  · simp [L_catalog_mayTable_2, B_catalog_mayTable_2]
  · simp only [L_catalog_mayTable_2, B_catalog_mayTable_2]
    rw [W_succ (by omega)]
    have e : t.key.getD i 0 = t.key[i] := by simp [List.getD, hi]
    obtain ⟨h1, h2⟩ := hin t.key[i] (List.getElem_mem hi)
    have h3 : t.key[i].toNat < t.columns.length := by omega
    have hc : (sTable m t).Columns = lst m (t.columns.map eCol) := rfl
    simp only [Int.toNat_natCast, lst_map_g hi, asI_eI, lst_n, List.length_map, Int.ofNat_lt, hi, Int.natCast_nonneg, true_and, decide_true, br_t, e, hc, h1, h2, lst_map_g h3, as_Column, br_not]
    simp only [notNull, List.getElem?_eq_getElem h3]
theorem S_catalog_mayTable (k M : Nat) (hM : M < 4611686018427387904) (hk : M + 60 ≤ k) (m : Bool) (t : Table) (ht : t.Fits M) (K : Bool → Prop) : (TT k).f_catalog_mayTable (sTable m t) K = K (mayTable t) := by
  obtain ⟨k, rfl⟩ : ∃ k', k = k' + 2 := ⟨k - 2, by omega⟩
  show F_catalog_mayTable (TT (k + 1)) (sTable m t) K = _
  have hT := ht.key
  have e0 : ∀ K, (TT (k + 1)).f_catalog_met K = K [] := fun K => rfl
  have hn : (sTable m t).Name = t.name := rfl
  have hc : (sTable m t).Columns = lst m (t.columns.map eCol) := rfl
  have hy : (sTable m t).Key = lst m (t.key.map eI) := rfl
  have hi : (sTable m t).Indexes = lst m (t.indexes.map (eIndex m)) := rfl
  have hp : (sTable m t).Part = t.part := rfl
  simp only [F_catalog_mayTable, S_catalog_named (k + 1) (by omega), e0, hn, TT_fuel, mayTable, hc, lst_n, List.length_map, hi]
  cases isName t.name
  · rfl
  simp only [Bool.not_true, br_f, Bool.true_and]
  by_cases h1 : 1 ≤ t.columns.length
  case neg =>
    have : t.columns.length = 0 := by omega
    simp [this]
  by_cases h2 : t.columns.length ≤ 16
  case neg =>
    have a : ((t.columns.length : Int) == 0) = false := beq_eq_false_iff_ne.2 (by omega)
    have b : decide ((t.columns.length : Int) > 16) = true := decide_eq_true (by omega)
    simp [a, b, h2]
  by_cases h3 : t.indexes.length ≤ 4
  case neg =>
    have a : ((t.columns.length : Int) == 0) = false := beq_eq_false_iff_ne.2 (by omega)
    have b : decide ((t.columns.length : Int) > 16) = false := decide_eq_false (by omega)
    have c : decide ((t.indexes.length : Int) > 4) = true := decide_eq_true (by omega)
    simp [a, b, c, h3]
  have a : ((t.columns.length : Int) == 0) = false := beq_eq_false_iff_ne.2 (by omega)
  have b : decide ((t.columns.length : Int) > 16) = false := decide_eq_false (by omega)
  have c : decide ((t.indexes.length : Int) > 4) = false := decide_eq_false (by omega)
  rw [a, b, c, decide_eq_true h1, decide_eq_true h2, decide_eq_true h3]
  simp only [br_f, Bool.true_and]
  have f1 := fun X Y => cat_cols (k := k + 1) (by omega) m (sTable m t) [] X Y t.columns [] (k + 1) [] [] (by omega) (by simp; omega) seen_nil
  simp only [List.nil_append, List.length_nil, List.length_map] at f1
  have z : ((0 : Nat) : Int) = 0 := rfl
  rw [z] at f1
  rw [f1]
  cases okF colOK (·.Name) [] t.columns
  · rfl
  simp only [br_t, Bool.true_and, hy, hc, lst_n, List.length_map, hp, S_catalog_places (k + 1) m t.key _ (by omega) (by omega), S_contains (k + 1) m t.key t.part (by omega) (by omega)]
  cases hpl : places t.key (t.columns.length : Int)
  · rfl
  simp only [Bool.not_true, br_f, Bool.true_and]
  cases t.key.any fun y => decide (t.part = y)
  · rfl
  simp only [Bool.not_true, br_f, Bool.true_and]
  have f2 := fun X Y => cat_keys (k := k + 1) m t [] X Y (by omega) (by omega) (places_in hpl)
  simp only [lst_n, List.length_map] at f2
  rw [f2]
  cases t.key.all (notNull t.columns)
  · rfl
  simp only [br_t, Bool.true_and, hi, lst_n, List.length_map]
  have f3 := fun X Y => cat_idx (k := k + 1) hM (by omega) m (sTable m t) X Y t.indexes ht.idx [] (k + 1) [] [] (by omega) (by simp; omega) seen_nil
  simp only [List.nil_append, List.length_nil, List.length_map, hc, lst_n] at f3
  rw [z] at f3
  rw [f3, br_K]
  cases okF (idxOK (t.columns.length : Int)) (·.name) [] t.indexes <;> rfl
theorem okCols_split (l : List S_api_Column) : okF colOK (·.Name) [] l = (l.all (fun c => okType c.Type_) && okNames (l.map (·.Name))) := okF_split (p := isName) (q := fun c : S_api_Column => okType c.Type_) l
theorem okIdx_split (many : Int) (l : List Index) : okF (idxOK many) (·.name) [] l = (l.all (fun x => places x.columns many) && okNames (l.map (·.name))) := okF_split (p := isName) (q := fun x : Index => places x.columns many) l
end Go.RX
namespace Go.RX
def parOK (c : S_api_Param) : Bool := isName c.Name && okType c.Type_
def bodyOK (s : ByteArray) : Bool := decide (1 ≤ s.size) && decide (s.size ≤ 1000)
def within (n most : Int) : Bool := decide (0 ≤ n) && decide (n ≤ most)
def mayProc (p : Proc) : Bool := isName p.name && decide (p.params.length ≤ 8) && decide (1 ≤ p.body.length) && decide (p.body.length ≤ 8) && within p.rows 1048576 && within p.bytes 1048576 && okF parOK (·.Name) [] p.params && p.body.all bodyOK
theorem cat_pars {k : Nat} (hk : 31 ≤ k) (x1 : S_api_Proc) (m : Bool) (X : Prop) (Y : S_api_Proc → Prop) (l : List S_api_Param) : ∀ (pre : List PV) (n : Nat) (mp : List (PV × PV)) (ns : List ByteArray), l.length < n → pre.length + l.length < 4611686018427387904 → IsMap eS mp (seenF ns) →
    L_catalog_mayProc_0 (TT k) n (lst m (pre ++ l.map eParam)) ((pre ++ l.map eParam).length : Nat) (pre.length : Nat) x1 mp X Y = br (okF parOK (·.Name) ns l) (Y x1) X := by
  induction l with
  | nil =>
    intro pre n mp ns hn _ _
    obtain ⟨n, rfl⟩ : ∃ n', n = n' + 1 := ⟨n - 1, by simp at hn; omega⟩
    simp [L_catalog_mayProc_0, B_catalog_mayProc_0, okF]
  | cons x l ih =>
    intro pre n mp ns hn hp hm
    simp only [List.length_cons] at hn hp
    obtain ⟨n, rfl⟩ : ∃ n', n = n' + 1 := ⟨n - 1, by omega⟩
    simp only [L_catalog_mayProc_0, B_catalog_mayProc_0]
    rw [W_succ (by omega)]
    have e := ih (pre ++ [eParam x]) n (setK (eS x.Name) (.bool true) mp) (x.Name :: ns) (by omega) (by simp; omega) (seen_set eqK_str hm x.Name)
    simp only [snoc_app, snoc_len] at e
    simp only [List.map_cons, mid_lt, decide_true, br_t, lst_n, Int.natCast_nonneg, true_and, Int.toNat_natCast, lst_g, getD_mid, as_Param, S_met k (by omega) x.Name hm, S_typed k (by omega)]
    rw [e]
    simp only [okF, parOK]
    cases isName x.Name <;> cases memG x.Name ns <;> cases okType x.Type_ <;> simp
theorem S_mayProc_1 (k : Nat) (hk : 1 ≤ k) (s : ByteArray) (K : Bool → Prop) : (TT k).f_catalog_mayProc_1 s K = K (!bodyOK s) := by
  obtain ⟨k, rfl⟩ : ∃ k', k = k' + 1 := ⟨k - 1, by omega⟩
  show F_catalog_mayProc_1 (TT k) s K = _
  simp only [F_catalog_mayProc_1, strEq, br_K]
  have e1 : decide (s = noB) = !decide (1 ≤ s.size) := by rw [← decide_not]; exact decide_eq_decide.2 (by rw [eq_noB]; omega)
  have e2 : decide ((s.size : Int) > 1000) = !decide (s.size ≤ 1000) := by rw [← decide_not]; exact decide_eq_decide.2 (by omega)
  rw [e1, e2, bodyOK]
  cases decide (1 ≤ s.size) <;> cases decide (s.size ≤ 1000) <;> rfl
theorem S_bodies (k : Nat) (m : Bool) (l : List ByteArray) (hl : l.length < 4611686018427387904) (hk : l.length + 10 ≤ k) (K : Bool → Prop) : (TT k).f_slices_ContainsFunc_string_string (lst m (l.map eS)) K = K (!l.all bodyOK) := by
  obtain ⟨k, rfl⟩ : ∃ k', k = k' + 3 := ⟨k - 3, by omega⟩
  have : (TT (k + 3)).f_slices_ContainsFunc_string_string (lst m (l.map eS)) K = L_slices_IndexFunc_string_string_0 (TT (k + 1)) (k + 1) (lst m (l.map eS)) (((lst m (l.map eS)).n : Nat) : Int) 0 (fun n => K (decide (n ≥ 0))) (K (decide ((-1 : Int) ≥ 0))) := rfl
  rw [this, idx_find0 (L := fun n i => L_slices_IndexFunc_string_string_0 (TT (k + 1)) n (lst m (l.map eS)) (((lst m (l.map eS)).n : Nat) : Int) i (fun n => K (decide (n ≥ 0))) (K (decide ((-1 : Int) ≥ 0)))) (m := l.length) (F := fun n => K (decide (n ≥ 0))) (p := fun i => !bodyOK (l.getD i noB)) (fun n => ?_) (fun n i hi => ?_) (by omega)]
  · rw [idxOf_nonneg, findN_isSome]
    congr 2
    rw [allN_list (q := bodyOK) fun j hj => by simp [List.getD, hj]]
  · simp [L_slices_IndexFunc_string_string_0, B_slices_IndexFunc_string_string_0]
  · simp only [L_slices_IndexFunc_string_string_0, B_slices_IndexFunc_string_string_0]
    rw [W_succ (by omega)]
    have e : l.getD i noB = l[i] := by simp [List.getD, hi]
    simp only [Int.toNat_natCast, lst_map_g hi, asS_eS, lst_n, List.length_map, Int.ofNat_lt, hi, Int.natCast_nonneg, true_and, decide_true, br_t, e, S_mayProc_1 (k + 1) (by omega)]
theorem S_catalog_mayProc (k : Nat) (hk : 70 ≤ k) (m : Bool) (p : Proc) (K : Bool → Prop) : (TT k).f_catalog_mayProc (sProc m p) K = K (mayProc p) := by
  obtain ⟨k, rfl⟩ : ∃ k', k = k' + 2 := ⟨k - 2, by omega⟩
  show F_catalog_mayProc (TT (k + 1)) (sProc m p) K = _
  have e0 : ∀ K, (TT (k + 1)).f_catalog_met K = K [] := fun K => rfl
  have hn : (sProc m p).Name = p.name := rfl
  have hc : (sProc m p).Params = lst m (p.params.map eParam) := rfl
  have hy : (sProc m p).Body = lst m (p.body.map eS) := rfl
  have hr : (sProc m p).Rows = p.rows := rfl
  have hb : (sProc m p).Bytes = p.bytes := rfl
  simp only [F_catalog_mayProc, S_catalog_named (k + 1) (by omega), e0, hn, TT_fuel, mayProc, hc, lst_n, List.length_map, hy, hr, hb]
  have a1 : decide ((p.params.length : Int) > 8) = !decide (p.params.length ≤ 8) := by rw [← decide_not]; exact decide_eq_decide.2 (by omega)
  have a2 : ((p.body.length : Int) == 0) = !decide (1 ≤ p.body.length) := by
    rw [← decide_not, Bool.eq_iff_iff]; simp only [beq_iff_eq, decide_eq_true_eq]; omega
  have a3 : decide ((p.body.length : Int) > 8) = !decide (p.body.length ≤ 8) := by rw [← decide_not]; exact decide_eq_decide.2 (by omega)
  have a4 : decide (p.rows < 0) = !decide (0 ≤ p.rows) := by rw [← decide_not]; exact decide_eq_decide.2 (by omega)
  have a5 : decide (p.rows > 1048576) = !decide (p.rows ≤ 1048576) := by rw [← decide_not]; exact decide_eq_decide.2 (by omega)
  have a6 : decide (p.bytes < 0) = !decide (0 ≤ p.bytes) := by rw [← decide_not]; exact decide_eq_decide.2 (by omega)
  have a7 : decide (p.bytes > 1048576) = !decide (p.bytes ≤ 1048576) := by rw [← decide_not]; exact decide_eq_decide.2 (by omega)
  rw [a1, a2, a3, a4, a5, a6, a7]
  simp only [br_not, within]
  cases isName p.name
  · rfl
  cases h1 : decide (p.params.length ≤ 8)
  · rfl
  cases decide (1 ≤ p.body.length)
  · rfl
  cases h2 : decide (p.body.length ≤ 8)
  · rfl
  cases decide (0 ≤ p.rows)
  · rfl
  cases decide (p.rows ≤ 1048576)
  · rfl
  cases decide (0 ≤ p.bytes)
  · rfl
  cases decide (p.bytes ≤ 1048576)
  · rfl
  have h1' := of_decide_eq_true h1
  have h2' := of_decide_eq_true h2
  simp only [br_t, Bool.true_and]
  have f1 := fun X Y => cat_pars (k := k + 1) (by omega) (sProc m p) m X Y p.params [] (k + 1) [] [] (by omega) (by simp; omega) seen_nil
  simp only [List.nil_append, List.length_nil, List.length_map] at f1
  have z : ((0 : Nat) : Int) = 0 := rfl
  rw [z] at f1
  rw [f1]
  cases okF parOK (·.Name) [] p.params
  · rfl
  simp only [br_t, hy, S_bodies (k + 1) m p.body (by omega) (by omega), Bool.not_not, Bool.true_and]
theorem okPars_split (l : List S_api_Param) : okF parOK (·.Name) [] l = (l.all (fun c => okType c.Type_) && okNames (l.map (·.Name))) := okF_split (p := isName) (q := fun c : S_api_Param => okType c.Type_) l
end Go.RX
namespace Go.RX
def tabOK (t : Table) : Bool := isName t.name && mayTable t
def procOK (t : Proc) : Bool := isName t.name && mayProc t
def rightCat (c : Catalog) : Bool := decide (c.tables.length ≤ 8) && decide (c.procs.length ≤ 16) && okF tabOK (·.name) [] c.tables && okF procOK (·.name) [] c.procs
def Catalog.Fits (M : Nat) (c : Catalog) : Prop := ∀ t ∈ c.tables, t.Fits M
theorem cat_tabs {k M : Nat} (hM : M < 4611686018427387904) (hk : M + 70 ≤ k) (x1 : S_api_Catalog) (m2 : List (PV × PV)) (m : Bool) (X : Prop) (Y : S_api_Catalog → List (PV × PV) → Prop) (l : List Table) (hl : ∀ t ∈ l, t.Fits M) : ∀ (pre : List PV) (n : Nat) (mp : List (PV × PV)) (ns : List ByteArray), l.length < n → pre.length + l.length < 4611686018427387904 → IsMap eS mp (seenF ns) →
    L_catalog_Right_0 (TT k) n (lst m (pre ++ l.map (eTable m))) ((pre ++ l.map (eTable m)).length : Nat) (pre.length : Nat) x1 mp m2 X Y = br (okF tabOK (·.name) ns l) (Y x1 m2) X := by
  induction l with
  | nil =>
    intro pre n mp ns hn _ _
    obtain ⟨n, rfl⟩ : ∃ n', n = n' + 1 := ⟨n - 1, by simp at hn; omega⟩
    simp [L_catalog_Right_0, B_catalog_Right_0, okF]
  | cons x l ih =>
    intro pre n mp ns hn hp hm
    simp only [List.length_cons] at hn hp
    obtain ⟨n, rfl⟩ : ∃ n', n = n' + 1 := ⟨n - 1, by omega⟩
    simp only [L_catalog_Right_0, B_catalog_Right_0]
    rw [W_succ (by omega)]
    have e := ih (fun y hy => hl y (.tail _ hy)) (pre ++ [eTable m x]) n (setK (eS x.name) (.bool true) mp) (x.name :: ns) (by omega) (by simp; omega) (seen_set eqK_str hm x.name)
    simp only [snoc_app, snoc_len] at e
    have hn : (sTable m x).Name = x.name := rfl
    simp only [List.map_cons, mid_lt, decide_true, br_t, lst_n, Int.natCast_nonneg, true_and, Int.toNat_natCast, lst_g, getD_mid, as_Table, hn, S_met k (by omega) x.name hm, S_catalog_mayTable k M hM (by omega) m x (hl x (.head _))]
    rw [e]
    simp only [okF, tabOK]
    cases isName x.name <;> cases memG x.name ns <;> cases mayTable x <;> simp
theorem cat_procs {k : Nat} (hk : 70 ≤ k) (m : Bool) (X Y : Prop) (l : List Proc) : ∀ (pre : List PV) (n : Nat) (mp : List (PV × PV)) (ns : List ByteArray), l.length < n → pre.length + l.length < 4611686018427387904 → IsMap eS mp (seenF ns) →
    L_catalog_Right_2 (TT k) n (lst m (pre ++ l.map (eProc m))) ((pre ++ l.map (eProc m)).length : Nat) (pre.length : Nat) mp X Y = br (okF procOK (·.name) ns l) Y X := by
  induction l with
  | nil =>
    intro pre n mp ns hn _ _
    obtain ⟨n, rfl⟩ : ∃ n', n = n' + 1 := ⟨n - 1, by simp at hn; omega⟩
    simp [L_catalog_Right_2, B_catalog_Right_2, okF]
  | cons x l ih =>
    intro pre n mp ns hn hp hm
    simp only [List.length_cons] at hn hp
    obtain ⟨n, rfl⟩ : ∃ n', n = n' + 1 := ⟨n - 1, by omega⟩
    simp only [L_catalog_Right_2, B_catalog_Right_2]
    rw [W_succ (by omega)]
    have e := ih (pre ++ [eProc m x]) n (setK (eS x.name) (.bool true) mp) (x.name :: ns) (by omega) (by simp; omega) (seen_set eqK_str hm x.name)
    simp only [snoc_app, snoc_len] at e
    have hn : (sProc m x).Name = x.name := rfl
    simp only [List.map_cons, mid_lt, decide_true, br_t, lst_n, Int.natCast_nonneg, true_and, Int.toNat_natCast, lst_g, getD_mid, as_Proc, hn, S_met k (by omega) x.name hm, S_catalog_mayProc k (by omega) m x]
    rw [e]
    simp only [okF, procOK]
    cases isName x.name <;> cases memG x.name ns <;> cases mayProc x <;> simp
theorem S_catalog_Right (k M : Nat) (hM : M < 4611686018427387904) (hk : M + 80 ≤ k) (m : Bool) (c : Catalog) (hc : c.Fits M) (K : Bool → Prop) : (TT k).f_catalog_Right (sCatalog m c) K = K (rightCat c) := by
  obtain ⟨k, rfl⟩ : ∃ k', k = k' + 2 := ⟨k - 2, by omega⟩
  show F_catalog_Right (TT (k + 1)) (sCatalog m c) K = _
  have e0 : ∀ K, (TT (k + 1)).f_catalog_met K = K [] := fun K => rfl
  have ht : (sCatalog m c).Tables = lst m (c.tables.map (eTable m)) := rfl
  have hp : (sCatalog m c).Procs = lst m (c.procs.map (eProc m)) := rfl
  simp only [F_catalog_Right, e0, TT_fuel, rightCat, ht, hp, lst_n, List.length_map]
  have a1 : decide ((c.tables.length : Int) > 8) = !decide (c.tables.length ≤ 8) := by rw [← decide_not]; exact decide_eq_decide.2 (by omega)
  have a2 : decide ((c.procs.length : Int) > 16) = !decide (c.procs.length ≤ 16) := by rw [← decide_not]; exact decide_eq_decide.2 (by omega)
  rw [a1, a2]
  simp only [br_not]
  cases h1 : decide (c.tables.length ≤ 8)
  · rfl
  cases h2 : decide (c.procs.length ≤ 16)
  · rfl
  have h1' := of_decide_eq_true h1
  have h2' := of_decide_eq_true h2
  simp only [br_t, Bool.true_and]
  have z : ((0 : Nat) : Int) = 0 := rfl
  have f1 := fun X Y => cat_tabs (k := k + 1) hM (by omega) (sCatalog m c) [] m X Y c.tables hc [] (k + 1) [] [] (by omega) (by simp; omega) seen_nil
  simp only [List.nil_append, List.length_nil, List.length_map] at f1
  rw [z] at f1
  rw [f1]
  cases okF tabOK (·.name) [] c.tables
  · rfl
  have f2 := fun X Y => cat_procs (k := k + 1) (by omega) m X Y c.procs [] (k + 1) [] [] (by omega) (by simp; omega) seen_nil
  simp only [List.nil_append, List.length_nil, List.length_map] at f2
  rw [z] at f2
  simp only [br_t, hp, lst_n, List.length_map, f2, br_K, Bool.true_and]
  cases okF procOK (·.name) [] c.procs <;> rfl
theorem okTabs_split (l : List Table) : okF tabOK (·.name) [] l = (l.all mayTable && okNames (l.map (·.name))) := okF_split (p := isName) (q := mayTable) l
theorem okProcs_split (l : List Proc) : okF procOK (·.name) [] l = (l.all mayProc && okNames (l.map (·.name))) := okF_split (p := isName) (q := mayProc) l
def rightPars (l : List S_api_Param) : Bool := okF parOK (·.Name) [] l && decide (l.length ≤ 8)
def cntF (ns : List ByteArray) (x : ByteArray) : Option PV := if memG x ns = true then some (.int .i64 1) else none
theorem cnt_get {m : List (PV × PV)} {ns : List ByteArray} (h : IsMap eS m (cntF ns)) (x : ByteArray) (K : Int → Prop) : asI_i64 ((look (eS x) m).getD (.int .i64 0)) K = K (bif memG x ns then 1 else 0) := by
  rw [h.look, cntF]
  cases memG x ns <;> rfl
theorem asI_int (n : Int) (K : Int → Prop) : asI_i64 (.int .i64 n) K = K n := rfl
theorem chk_pars {k M : Nat} (hM : M < 4611686018427387904) (hk : M + 31 ≤ k) (a1 : Arr) (m : Bool) (X : Prop) (Y : Arr → Prop) (l : List S_api_Param) (hl : ∀ x ∈ l, x.Name.size ≤ M) : ∀ (pre : List PV) (n : Nat) (mp : List (PV × PV)) (ns : List ByteArray), l.length < n → pre.length + l.length < 4611686018427387904 → IsMap eS mp (cntF ns) →
    L_check_rightParams_0 (TT k) n a1 (lst m (pre ++ l.map eParam)) ((pre ++ l.map eParam).length : Nat) (pre.length : Nat) mp X Y = br (okF parOK (·.Name) ns l) (Y a1) X := by
  induction l with
  | nil =>
    intro pre n mp ns hn _ _
    obtain ⟨n, rfl⟩ : ∃ n', n = n' + 1 := ⟨n - 1, by simp at hn; omega⟩
    simp [L_check_rightParams_0, B_check_rightParams_0, okF]
  | cons x l ih =>
    intro pre n mp ns hn hp hm
    simp only [List.length_cons] at hn hp
    obtain ⟨n, rfl⟩ : ∃ n', n = n' + 1 := ⟨n - 1, by omega⟩
    simp only [L_check_rightParams_0, B_check_rightParams_0]
    rw [W_succ (by omega)]
    simp only [List.map_cons, mid_lt, decide_true, br_t, lst_n, Int.natCast_nonneg, true_and, Int.toNat_natCast, lst_g, getD_mid, as_Param, eS_fold, cnt_get hm]
    have hs := look_setK (key := eS) eqK_str x.Name x.Name (.int .i64 (W ((bif memG x.Name ns then 1 else 0) + 1))) mp hm.keys
    rw [if_pos rfl] at hs
    rw [hs]
    simp only [Option.getD_some]
    have hx := hl x (.head _)
    cases hmem : memG x.Name ns
    · have w1 : W ((0 : Int) + 1) = 1 := by decide
      have hm' : IsMap eS (setK (eS x.Name) (.int .i64 1) mp) (cntF (x.Name :: ns)) := by
        refine ⟨keys_setK x.Name _ mp hm.keys, fun b => ?_⟩
        rw [look_setK (key := eS) eqK_str x.Name b _ mp hm.keys, hm.look]
        by_cases e : b = x.Name
        · have hmg : memG b (x.Name :: ns) = true := memG_iff.2 (by simp [e])
          rw [if_pos e, cntF, if_pos hmg]
        · have hmg : memG b (x.Name :: ns) = memG b ns := by
            rw [Bool.eq_iff_iff, memG_iff, memG_iff]
            simp [e]
          rw [if_neg e, cntF, cntF, hmg]
      have e := ih (fun y hy => hl y (.tail _ hy)) (pre ++ [eParam x]) n _ (x.Name :: ns) (by omega) (by simp; omega) hm'
      simp only [snoc_app, snoc_len] at e
      simp only [cond_false, w1, S_lex_IsName k x.Name (by omega) (by omega), okType_lt]
      rw [e]
      have : decide ((1 : Int) > 1) = false := by decide
      rw [asI_int, this]
      simp only [okF, parOK, hmem, br_f]
      cases isName x.Name <;> cases okType x.Type_ <;> simp
    · have w1 : W ((1 : Int) + 1) = 2 := by decide
      simp only [cond_true, w1]
      have : decide ((2 : Int) > 1) = true := by decide
      rw [asI_int, this]
      simp [okF, hmem]
structure ParsFit (M : Nat) (l : List S_api_Param) : Prop where
  len : l.length ≤ M
  name : ∀ x ∈ l, x.Name.size ≤ M
theorem S_check_rightParams (k M : Nat) (hM : M < 4611686018427387904) (hk : M + 40 ≤ k) (m : Bool) (l : List S_api_Param) (hl : ParsFit M l) (K : Bool → Prop) : (TT k).f_check_rightParams (lst m (l.map eParam)) K = K (rightPars l) := by
  obtain ⟨k, rfl⟩ : ∃ k', k = k' + 2 := ⟨k - 2, by omega⟩
  show F_check_rightParams (TT (k + 1)) _ K = _
  have h1 := hl.len
  have f1 := fun X Y => chk_pars (k := k + 1) hM (by omega) (lst m (l.map eParam)) m X Y l hl.name [] (k + 1) [] [] (by omega) (by simp; omega) IsMap.nil
  simp only [List.nil_append, List.length_nil, List.length_map] at f1
  have z : ((0 : Nat) : Int) = 0 := rfl
  rw [z] at f1
  simp only [F_check_rightParams, TT_fuel, lst_n, List.length_map, f1, br_K, rightPars]
  have : decide ((l.length : Int) ≤ 8) = decide (l.length ≤ 8) := decide_eq_decide.2 (by omega)
  rw [this]
  cases okF parOK (·.Name) [] l <;> rfl
end Go.RX
