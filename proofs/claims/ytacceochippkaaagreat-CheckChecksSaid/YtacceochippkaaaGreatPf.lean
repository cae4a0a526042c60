/- Both Checks, in plain Lean, tell the same; and a typed statement is the same as itself. No condition. -/
import Derived.Test.YtacceochippkaaaGreatPd
set_option linter.all false
namespace Go.RX
mutual
def tSz : Term → Nat
  | .mk _ _ _ _ _ _ kids => 1 + tsSz kids
def tsSz : List Term → Nat
  | [] => 0
  | x :: r => tSz x + tsSz r
end
mutual
def tOk : Term → Prop
  | .mk _ _ _ _ _ _ kids => kids.length ≤ 9223372036854775807 ∧ tsOk kids
def tsOk : List Term → Prop
  | [] => True
  | x :: r => tOk x ∧ tsOk r
end
theorem tSz_pos : ∀ t : Term, 0 < tSz t
  | .mk _ _ _ _ _ _ kids => by rw [tSz]; omega
theorem tSz_kids : ∀ t : Term, tSz t = 1 + tsSz t.kids
  | .mk _ _ _ _ _ _ kids => by rw [tSz]; rfl
theorem tsSz_len : ∀ l : List Term, l.length ≤ tsSz l
  | [] => Nat.zero_le _
  | x :: r => by
    have := tsSz_len r
    have := tSz_pos x
    rw [tsSz, List.length_cons]
    omega
theorem tsSz_get : ∀ (l : List Term) (i : Nat) (h : i < l.length), tSz l[i] ≤ tsSz l
  | [], i, h => by simp at h
  | x :: r, 0, _ => by rw [tsSz]; simp
  | x :: r, i + 1, h => by
    have := tsSz_get r i (by simpa using h)
    rw [tsSz]
    simp only [List.getElem_cons_succ]
    omega
theorem tOk_kids : ∀ {t : Term}, tOk t → t.kids.length ≤ 9223372036854775807 ∧ tsOk t.kids
  | .mk _ _ _ _ _ _ kids, h => by rw [tOk] at h; exact h
theorem tsOk_get : ∀ {l : List Term}, tsOk l → ∀ (i : Nat) (h : i < l.length), tOk l[i]
  | [], _, i, h => by simp at h
  | x :: r, hl, 0, _ => by rw [tsOk] at hl; exact hl.1
  | x :: r, hl, i + 1, h => by
    rw [tsOk] at hl
    exact tsOk_get hl.2 i (by simpa using h)
theorem W_at {n i : Nat} (h : i < n) (hn : n ≤ 9223372036854775807) : W ((i : Int) + 1) = ((i + 1 : Nat) : Int) := by
  rw [W_id] <;> omega
theorem all_true {α : Type} (l : List α) : (l.all fun _ => true) = true := by induction l <;> simp [*]
theorem bne_self (x : Int) : (x != x) = false := by simp
theorem S_sameTerms (m m' : Bool) : ∀ (k : Nat) (l : List Term), tsSz l + 1 < k → l.length ≤ 9223372036854775807 → tsOk l → ∀ K : Bool → Prop, (TT k).f_law13_sameTerms (lst m (l.map (eTerm m))) (lst m' (l.map (eTerm m'))) K = K true := by
  intro k
  induction k with
  | zero => intro l h; omega
  | succ k ih =>
    intro l hl hlen hok K
    have hF : (TT (k + 1)).f_law13_sameTerms (lst m (l.map (eTerm m))) (lst m' (l.map (eTerm m'))) K = F_law13_sameTerms (TT k) (lst m (l.map (eTerm m))) (lst m' (l.map (eTerm m'))) K := rfl
    have hf : (TT k).fuel = k := by cases k <;> rfl
    rw [hF]
    simp only [F_law13_sameTerms, lst_n, List.length_map, bne_self, br_f, hf]
    have hlk := tsSz_len l
    rw [list_all0 (L := fun n i => L_law13_sameTerms_0 (TT k) n (lst m (l.map (eTerm m))) (lst m' (l.map (eTerm m'))) i (K false) (K true)) (l := l) (E := K true) (X := K false) (q := fun _ => true) (fun n => ?_) (fun n i hi => ?_) (by omega), all_true, br_t]
    · show B_law13_sameTerms_0 _ _ _ _ _ _ _ = _
      simp only [B_law13_sameTerms_0, lst_n, List.length_map, Int.lt_irrefl, decide_false, br_f]
    · show B_law13_sameTerms_0 _ _ _ _ _ _ _ = _
      have hs := tsSz_get l i hi
      rw [tSz_kids] at hs
      have ho := tOk_kids (tsOk_get hok i hi)
      have hkids : ∀ K : Bool → Prop, (TT k).f_law13_sameTerms (sTerm m l[i]).Kids (sTerm m' l[i]).Kids K = K true := fun K => ih l[i].kids (by omega) ho.1 ho.2 K
      simp only [B_law13_sameTerms_0, lst_n, List.length_map, Int.ofNat_lt, hi, Int.natCast_nonneg, true_and, decide_true, br_t, Int.toNat_natCast, lst_map_g hi, as_Term, hkids, Bool.not_true, br_f, W_at hi hlen]
      simp [sTerm]
theorem S_sameInts (m m' : Bool) (k : Nat) (l : List Int) (hk : l.length + 1 < k) (hlen : l.length ≤ 9223372036854775807) (K : Bool → Prop) : (TT k).f_law13_ints (lst m (l.map eI)) (lst m' (l.map eI)) K = K true := by
  obtain ⟨k, rfl⟩ : ∃ k', k = k' + 1 := ⟨k - 1, by omega⟩
  have hF : (TT (k + 1)).f_law13_ints (lst m (l.map eI)) (lst m' (l.map eI)) K = F_law13_ints (TT k) (lst m (l.map eI)) (lst m' (l.map eI)) K := rfl
  have hf : (TT k).fuel = k := by cases k <;> rfl
  rw [hF]
  simp only [F_law13_ints, lst_n, List.length_map, bne_self, br_f, hf]
  rw [list_all0 (L := fun n i => L_law13_ints_0 (TT k) n (lst m (l.map eI)) (lst m' (l.map eI)) i (K false) (K true)) (l := l) (E := K true) (X := K false) (q := fun _ => true) (fun n => ?_) (fun n i hi => ?_) (by omega), all_true, br_t]
  · show B_law13_ints_0 _ _ _ _ _ _ _ = _
    simp only [B_law13_ints_0, lst_n, List.length_map, Int.lt_irrefl, decide_false, br_f]
  · show B_law13_ints_0 _ _ _ _ _ _ _ = _
    simp only [B_law13_ints_0, lst_n, List.length_map, Int.ofNat_lt, hi, Int.natCast_nonneg, true_and, decide_true, br_t, Int.toNat_natCast, lst_map_g hi, asI_eI, bne_self, br_f, W_at hi hlen]
structure Typed.Ok (t : Typed) : Prop where
  tables : t.tables.length ≤ 9223372036854775807
  on : t.on.length ≤ 9223372036854775807 ∧ tsOk t.on
  where_ : t.where_.length ≤ 9223372036854775807 ∧ tsOk t.where_
  items : t.items.length ≤ 9223372036854775807 ∧ tsOk t.items
  columns : t.columns.length ≤ 9223372036854775807
  groups : t.groups.length ≤ 9223372036854775807
  sorts : t.sorts.length ≤ 9223372036854775807
  limit : t.limit.length ≤ 9223372036854775807
  types : t.types.length ≤ 9223372036854775807
def Typed.sz (t : Typed) : Nat := t.tables.length + tsSz t.on + tsSz t.where_ + tsSz t.items + t.columns.length + t.groups.length + t.sorts.length + t.limit.length + t.types.length
theorem S_same (m m' : Bool) (k : Nat) (t : Typed) (hk : t.sz + 5 < k) (h : t.Ok) (K : Bool → Prop) : (TT k).f_law13_same (sTyped m t) (sTyped m' t) K = K true := by
  obtain ⟨k, rfl⟩ : ∃ k', k = k' + 1 := ⟨k - 1, by omega⟩
  have hF : (TT (k + 1)).f_law13_same (sTyped m t) (sTyped m' t) K = F_law13_same (TT k) (sTyped m t) (sTyped m' t) K := rfl
  have hf : (TT k).fuel = k := by cases k <;> rfl
  unfold Typed.sz at hk
  have p1 : ∀ m, (sTyped m t).On = lst m (t.on.map (eTerm m)) := fun _ => rfl
  have p2 : ∀ m, (sTyped m t).Where = lst m (t.where_.map (eTerm m)) := fun _ => rfl
  have p3 : ∀ m, (sTyped m t).Items = lst m (t.items.map (eTerm m)) := fun _ => rfl
  have p4 : ∀ m, (sTyped m t).Tables = lst m (t.tables.map eI) := fun _ => rfl
  have p5 : ∀ m, (sTyped m t).Columns = lst m (t.columns.map eI) := fun _ => rfl
  have p6 : ∀ m, (sTyped m t).Groups = lst m (t.groups.map eI) := fun _ => rfl
  have p7 : ∀ m, (sTyped m t).Limit = lst m (t.limit.map eI) := fun _ => rfl
  have p8 : ∀ m, (sTyped m t).Types = lst m (t.types.map eI) := fun _ => rfl
  have p9 : ∀ m, (sTyped m t).Sorts = lst m (t.sorts.map eSort) := fun _ => rfl
  rw [hF]
  simp only [F_law13_same, p1, p2, p3, p4, p5, p6, p7, p8, S_sameTerms m m' k t.on (by omega) h.on.1 h.on.2, S_sameTerms m m' k t.where_ (by omega) h.where_.1 h.where_.2, S_sameTerms m m' k t.items (by omega) h.items.1 h.items.2,
    S_sameInts m m' k t.tables (by omega) h.tables, S_sameInts m m' k t.columns (by omega) h.columns, S_sameInts m m' k t.groups (by omega) h.groups, S_sameInts m m' k t.limit (by omega) h.limit, S_sameInts m m' k t.types (by omega) h.types, Bool.not_true, br_f]
  rw [p9, p9]
  simp only [lst_n, List.length_map, bne_self, br_f, hf]
  rw [list_all0 (L := fun n i => L_law13_same_0 (TT k) n i (sTyped m t) (sTyped m' t) (K false) (fun x19 x20 => br (x19.Kind == x20.Kind) (K (x19.Grouped == x20.Grouped)) (K false))) (l := t.sorts) (E := K true) (X := K false) (q := fun _ => true) (fun n => ?_) (fun n i hi => ?_) (by omega), all_true, br_t]
  · show B_law13_same_0 _ _ _ _ _ _ _ = _
    simp only [B_law13_same_0, p9, lst_n, List.length_map, Int.lt_irrefl, decide_false, br_f]
    simp [sTyped]
  · show B_law13_same_0 _ _ _ _ _ _ _ = _
    simp only [B_law13_same_0, p9, lst_n, List.length_map, Int.ofNat_lt, hi, Int.natCast_nonneg, true_and, decide_true, br_t, Int.toNat_natCast, lst_map_g hi, as_Sort, W_at hi h.sorts]
    simp
end Go.RX
