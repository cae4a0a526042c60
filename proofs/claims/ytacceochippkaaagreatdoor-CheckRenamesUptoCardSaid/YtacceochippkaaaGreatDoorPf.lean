/- The law in plain Lean, with no program in sight. No condition. -/
import Derived.Test.YtacceochippkaaaGreatDoorPe
set_option linter.all false
namespace Go.RX
theorem wk_lst {α : Type} {m : Bool} {l : List α} {f f' : α → PV} (h : ∀ x ∈ l, weakM (f x) = f' x) : Arr.mk false (lst m (l.map f)).n (fun i => weakM ((lst m (l.map f)).g i)) = lst false (l.map f') := by
  have : (fun i => weakM ((lst m (l.map f)).g i)) = fun i => (l.map f').getD i .nilp := by
    funext i
    rw [lst_g, List.getD_eq_getElem?_getD, List.getD_eq_getElem?_getD, List.getElem?_map, List.getElem?_map]
    cases hx : l[i]? with
    | none => rfl
    | some x => exact h x (List.mem_of_getElem? hx)
  rw [this]
  simp [lst]
theorem wk_arr {α : Type} {m : Bool} {l : List α} {f f' : α → PV} (h : ∀ x ∈ l, weakM (f x) = f' x) : weakM (.arr (lst m (l.map f)).m (lst m (l.map f)).n (lst m (l.map f)).g) = .arr (lst false (l.map f')).m (lst false (l.map f')).n (lst false (l.map f')).g := by
  have := wk_lst (m := m) h
  simp only [weakM]
  rw [← this]
theorem wk_eI (x : Int) : weakM (eI x) = eI x := rfl
theorem wk_eS (x : ByteArray) : weakM (eS x) = eS x := rfl
theorem wk_eCol (c : S_api_Column) : weakM (eCol c) = eCol c := rfl
theorem wk_eParam (c : S_api_Param) : weakM (eParam c) = eParam c := rfl
theorem wk_eSort (c : S_api_Sort) : weakM (eSort c) = eSort c := rfl
theorem wk_eIndex (m : Bool) (x : Index) : weakM (eIndex m x) = eIndex false x := by
  simp only [eIndex, p_api_Index, sIndex, weakM, weakMs]
  have := wk_arr (m := m) (l := x.columns) (f := eI) (f' := eI) fun x _ => wk_eI x
  simp only [weakM] at this
  simp only [this]
theorem wk_eTable (m : Bool) (x : Table) : weakM (eTable m x) = eTable false x := by
  have h1 := wk_arr (m := m) (l := x.columns) (f := eCol) (f' := eCol) fun x _ => wk_eCol x
  have h2 := wk_arr (m := m) (l := x.key) (f := eI) (f' := eI) fun x _ => wk_eI x
  have h3 := wk_arr (m := m) (l := x.indexes) (f := eIndex m) (f' := eIndex false) fun x _ => wk_eIndex m x
  simp only [weakM] at h1 h2 h3
  simp only [eTable, p_api_Table, sTable, weakM, weakMs, h1, h2, h3]
theorem wk_eProc (m : Bool) (x : Proc) : weakM (eProc m x) = eProc false x := by
  have h1 := wk_arr (m := m) (l := x.params) (f := eParam) (f' := eParam) fun x _ => wk_eParam x
  have h2 := wk_arr (m := m) (l := x.body) (f := eS) (f' := eS) fun x _ => wk_eS x
  simp only [weakM] at h1 h2
  simp only [eProc, p_api_Proc, sProc, weakM, weakMs, h1, h2]
theorem wk_eExpr (m : Bool) : ∀ e : Expr, weakM (eExpr m e) = eExpr false e
  | .mk k o vk vi vt t n kids a => by
    have h1 := wk_arr (m := m) (l := kids) (f := eExpr m) (f' := eExpr false) fun x _ => wk_eExpr m x
    simp only [weakM] at h1
    simp only [eExpr, eExprs_map, p_api_Expr, weakM, weakMs, h1]
theorem wk_eSet (m : Bool) (x : Set_) : weakM (eSet m x) = eSet false x := by
  have h1 := wk_arr (m := m) (l := x.expr.kids) (f := eExpr m) (f' := eExpr false) fun x _ => wk_eExpr m x
  simp only [weakM] at h1
  simp only [eSet, p_api_Set, sSet, weakM, weakMs, h1]
theorem mid_g {α : Type} (m : Bool) (f : α → PV) (p : List α) (x : α) (r : List α) : (lst m ((p ++ x :: r).map f)).g ((p.length : Int).toNat) = f x := by
  rw [lst_g, Int.toNat_natCast, List.map_append, List.map_cons]
  have := getD_mid (p.map f) (f x) (r.map f) .nilp
  rw [List.length_map] at this
  exact this
theorem mid_n {α : Type} (m : Bool) (f : α → PV) (p r : List α) : (((lst m ((p ++ r).map f)).n : Nat) : Int) = ((p.length + r.length : Nat) : Int) := by simp [lst]
theorem law4 (k : Nat) (m b : Bool) (x1 : S_api_Stmt) (x2 : S_api_Typed) (x3 : S_api_Fault) (a2 : Arr) (r1 : List PV) (K0 : Bool → Prop) (K1 : Bool → S_api_Stmt → S_api_Typed → S_api_Fault → Arr → (List PV) → (List PV) → Prop) : ∀ (r p : List S_api_Param) (n : Nat), r.length < n → p.length + r.length ≤ 1048576 →
    L_law13_CheckRenames_4 (TT k) n (lst m ((p ++ r).map eParam)) b ((p.length : Nat) : Int) x1 x2 x3 a2 r1 (p.map fun q => eParam (renPar q)) K0 K1 =
      br (r.all fun q => !decide (q.Name = oP)) (K1 b x1 x2 x3 a2 r1 ((p ++ r).map fun q => eParam (renPar q))) (K0 b)
  | [], p, 0, h, _ => absurd h (by simp)
  | [], p, n + 1, _, _ => by
    simp only [L_law13_CheckRenames_4, B_law13_CheckRenames_4]
    rw [mid_n]
    have : decide (((p.length : Nat) : Int) < ((p.length + ([] : List S_api_Param).length : Nat) : Int)) = false := decide_eq_false (by simp)
    rw [this]
    simp only [List.append_nil, List.all_nil]
    rfl
  | x :: r, p, 0, h, _ => absurd h (by simp)
  | x :: r, p, n + 1, h, hb => by
    have ih := law4 k m b x1 x2 x3 a2 r1 K0 K1 r (p ++ [x]) n (by simp at h; omega) (by simp at hb ⊢; omega)
    have e : (p ++ [x]).map (fun q => eParam (renPar q)) = p.map (fun q => eParam (renPar q)) ++ [eParam (renPar x)] := by simp
    rw [snoc_app, snoc_len, e] at ih
    simp only [List.length_cons] at hb
    simp only [L_law13_CheckRenames_4, B_law13_CheckRenames_4]
    rw [mid_n]
    have hlt : ((p.length : Nat) : Int) < ((p.length + (x :: r).length : Nat) : Int) := by simp; omega
    rw [decide_eq_true hlt, and_l (Int.natCast_nonneg _), and_l hlt, mid_g, as_Param, W_succ (by omega)]
    have hl : ((p.map fun q => eParam (renPar q)).length + 1) * 24 ≤ 140737488355328 := by simp; omega
    simp only [strEq, List.all_cons, and_l hl]
    by_cases h1 : x.Name = oP
    · have h1' : decide (x.Name = ByteArray.mk #[111, 116, 104, 101, 114, 95, 112]) = true := decide_eq_true h1
      rw [h1', decide_eq_true h1]; rfl
    · have h1' : decide (x.Name = ByteArray.mk #[111, 116, 104, 101, 114, 95, 112]) = false := decide_eq_false h1
      rw [h1', decide_eq_false h1]
      by_cases h2 : x.Name = nP
      · have h2' : decide (x.Name = ByteArray.mk #[112]) = true := decide_eq_true h2
        have e2 : eParam (renPar x) = .agg [.str (ByteArray.mk #[111, 116, 104, 101, 114, 95, 112]), .int .i64 x.Type_] := by
          simp only [eParam, p_api_Param, renPar, sub1, if_pos h2]; rfl
        rw [e2] at ih
        rw [h2']
        exact ih
      · have h2' : decide (x.Name = ByteArray.mk #[112]) = false := decide_eq_false h2
        have e2 : eParam (renPar x) = .agg (p_api_Param x) := by
          simp only [eParam, renPar, sub1, if_neg h2]
        rw [e2] at ih
        rw [h2']
        exact ih
theorem law2 (k : Nat) (m b : Bool) (a1 : Arr) (n1 : Int) (x1 : S_api_Catalog) (x2 : S_api_Stmt) (x3 : S_api_Typed) (x4 : S_api_Fault) (a2 : Arr) (r1 : List PV) (x5 : S_api_Table) (K0 : Bool → Prop) (K1 : Arr → Bool → Int → S_api_Catalog → S_api_Stmt → S_api_Typed → S_api_Fault → Arr → (List PV) → S_api_Table → (List PV) → Prop) : ∀ (r p : List S_api_Column) (n : Nat), x5.Columns = lst m ((p ++ r).map eCol) → r.length < n → p.length + r.length ≤ 1048576 →
    L_law13_CheckRenames_2 (TT k) n a1 b n1 ((p.length : Nat) : Int) x1 x2 x3 x4 a2 r1 x5 (p.map fun q => eCol (renCol q)) K0 K1 =
      br (r.all fun q => !decide (q.Name = oA)) (K1 a1 b n1 x1 x2 x3 x4 a2 r1 x5 ((p ++ r).map fun q => eCol (renCol q))) (K0 b)
  | [], p, 0, _, h, _ => absurd h (by simp)
  | [], p, n + 1, hx, _, _ => by
    simp only [L_law13_CheckRenames_2, B_law13_CheckRenames_2, hx]
    rw [mid_n]
    have : decide (((p.length : Nat) : Int) < ((p.length + ([] : List S_api_Column).length : Nat) : Int)) = false := decide_eq_false (by simp)
    rw [this]
    simp only [List.append_nil, List.all_nil]
    rfl
  | x :: r, p, 0, _, h, _ => absurd h (by simp)
  | x :: r, p, n + 1, hx, h, hb => by
    have ih := law2 k m b a1 n1 x1 x2 x3 x4 a2 r1 x5 K0 K1 r (p ++ [x]) n (by rw [snoc_app]; exact hx) (by simp at h; omega) (by simp at hb ⊢; omega)
    have e : (p ++ [x]).map (fun q => eCol (renCol q)) = p.map (fun q => eCol (renCol q)) ++ [eCol (renCol x)] := by simp
    rw [snoc_app, snoc_len, e] at ih
    simp only [List.length_cons] at hb
    simp only [L_law13_CheckRenames_2, B_law13_CheckRenames_2, hx]
    rw [mid_n]
    have hlt : ((p.length : Nat) : Int) < ((p.length + (x :: r).length : Nat) : Int) := by simp; omega
    have hl : ((p.map fun q => eCol (renCol q)).length + 1) * 32 ≤ 140737488355328 := by simp; omega
    simp only [decide_eq_true hlt, and_l (Int.natCast_nonneg _), and_l hlt, mid_g, as_Column, W_succ (show p.length < 4611686018427387904 by omega), strEq, List.all_cons, and_l hl]
    by_cases h1 : x.Name = oA
    · have h1' : decide (x.Name = ByteArray.mk #[111, 116, 104, 101, 114, 95, 97]) = true := decide_eq_true h1
      have h2' : decide (x.Name = ByteArray.mk #[97]) = false := decide_eq_false (by rw [h1]; decide)
      rw [h1', h2', decide_eq_true h1]; rfl
    · have h1' : decide (x.Name = ByteArray.mk #[111, 116, 104, 101, 114, 95, 97]) = false := decide_eq_false h1
      rw [h1', decide_eq_false h1]
      by_cases h2 : x.Name = nA
      · have h2' : decide (x.Name = ByteArray.mk #[97]) = true := decide_eq_true h2
        have e2 : eCol (renCol x) = .agg [.str (ByteArray.mk #[111, 116, 104, 101, 114, 95, 97]), .int .i64 x.Type_, .bool x.NotNull] := by
          simp only [eCol, p_api_Column, renCol, sub1, if_pos h2]; rfl
        rw [e2] at ih
        rw [h2']
        exact ih
      · have h2' : decide (x.Name = ByteArray.mk #[97]) = false := decide_eq_false h2
        have e2 : eCol (renCol x) = .agg (p_api_Column x) := by
          simp only [eCol, renCol, sub1, if_neg h2]
        rw [e2] at ih
        rw [h2']
        exact ih
def eTabR (m : Bool) (t : Table) : PV := .agg (p_api_Table ⟨rT t.name, lst true (t.columns.map fun q => eCol (renCol q)), lst m (t.key.map eI), t.part, lst m (t.indexes.map (eIndex m))⟩)
theorem wk_eTabR (m : Bool) (t : Table) : weakM (eTabR m t) = eTable false (renTab t) := by
  have h1 := wk_arr (m := true) (l := t.columns) (f := fun q => eCol (renCol q)) (f' := fun q => eCol (renCol q)) fun x _ => wk_eCol _
  have h2 := wk_arr (m := m) (l := t.key) (f := eI) (f' := eI) fun x _ => wk_eI x
  have h3 := wk_arr (m := m) (l := t.indexes) (f := eIndex m) (f' := eIndex false) fun x _ => wk_eIndex m x
  simp only [weakM] at h1 h2 h3
  simp only [eTabR, eTable, p_api_Table, sTable, weakM, weakMs, h1, h2, h3, renTab, List.map_map]
  rfl
def tabFreeB (t : Table) : Bool := t.columns.all (fun q => !decide (q.Name = oA)) && !decide (t.name = oT)
theorem law0 (k : Nat) (m b : Bool) (a1 : Arr) (pr : Arr) (x2 : S_api_Stmt) (x3 : S_api_Typed) (x4 : S_api_Fault) (a2 : Arr) (K0 : Bool → Prop) (K1 : Arr → Bool → S_api_Stmt → S_api_Typed → S_api_Fault → Arr → (List PV) → Prop) : ∀ (r p : List Table) (n : Nat), (∀ t ∈ r, t.columns.length < k ∧ t.columns.length ≤ 1048576) → r.length < n → p.length + r.length ≤ 1048576 →
    L_law13_CheckRenames_0 (TT k) n a1 b ((p.length : Nat) : Int) ⟨lst m ((p ++ r).map (eTable m)), pr⟩ x2 x3 x4 a2 (p.map (eTabR m)) K0 K1 =
      br (r.all tabFreeB) (K1 a1 b x2 x3 x4 a2 ((p ++ r).map (eTabR m))) (K0 b)
  | [], p, 0, _, h, _ => absurd h (by simp)
  | [], p, n + 1, _, _, _ => by
    simp only [L_law13_CheckRenames_0, B_law13_CheckRenames_0]
    rw [mid_n]
    have : decide (((p.length : Nat) : Int) < ((p.length + ([] : List Table).length : Nat) : Int)) = false := decide_eq_false (by simp)
    rw [this]
    simp only [List.append_nil, List.all_nil]
    rfl
  | x :: r, p, 0, _, h, _ => absurd h (by simp)
  | x :: r, p, n + 1, hk, h, hb => by
    have ih := law0 k m b a1 pr x2 x3 x4 a2 K0 K1 r (p ++ [x]) n (fun t ht => hk t (.tail _ ht)) (by simp at h; omega) (by simp at hb ⊢; omega)
    have e : (p ++ [x]).map (eTabR m) = p.map (eTabR m) ++ [eTabR m x] := by simp
    rw [snoc_app, snoc_len, e] at ih
    simp only [List.length_cons] at hb
    obtain ⟨hk1, hk2⟩ := hk x (.head _)
    simp only [L_law13_CheckRenames_0, B_law13_CheckRenames_0]
    rw [mid_n]
    have hlt : ((p.length : Nat) : Int) < ((p.length + (x :: r).length : Nat) : Int) := by simp; omega
    have hl : ((p.map (eTabR m)).length + 1) * 96 ≤ 140737488355328 := by simp; omega
    obtain ⟨k', rfl⟩ : ∃ k', k = k' + 1 := ⟨k - 1, by omega⟩
    simp only [decide_eq_true hlt, and_l (Int.natCast_nonneg _), and_l hlt, mid_g, as_Table, TT_fuel]
    have l2 := fun (K1 : Arr → Bool → Int → S_api_Catalog → S_api_Stmt → S_api_Typed → S_api_Fault → Arr → (List PV) → S_api_Table → (List PV) → Prop) => law2 (k' + 1) m b a1 ((p.length : Nat) : Int) ⟨lst m ((p ++ x :: r).map (eTable m)), pr⟩ x2 x3 x4 a2 (p.map (eTabR m)) (sTable m x) K0 K1 x.columns [] (k' + 1) rfl (by omega) (by simp; omega)
    simp only [List.map_nil, List.length_nil, List.nil_append] at l2
    have z : ((0 : Nat) : Int) = 0 := rfl
    rw [z] at l2
    rw [l2]
    simp only [strEq, List.all_cons, and_l hl, W_succ (show p.length < 4611686018427387904 by omega)]
    show br true (br _ (br (decide (x.name = _)) _ _) _) _ = _
    by_cases hc : (x.columns.all fun q => !decide (q.Name = oA)) = true
    · by_cases h1 : x.name = oT
      · have h1' : decide (x.name = ByteArray.mk #[111, 116, 104, 101, 114, 95, 116]) = true := decide_eq_true h1
        have : tabFreeB x = false := by simp [tabFreeB, h1]
        rw [hc, h1', this]; rfl
      · have h1' : decide (x.name = ByteArray.mk #[111, 116, 104, 101, 114, 95, 116]) = false := decide_eq_false h1
        have : tabFreeB x = true := by simp only [tabFreeB, hc, decide_eq_false h1]; rfl
        rw [hc, h1', this]
        by_cases h2 : x.name = nT
        · have h2' : decide ((sTable m x).Name = ByteArray.mk #[116]) = true := decide_eq_true h2
          have e2 : eTabR m x = .agg (p_api_Table ⟨ByteArray.mk #[111, 116, 104, 101, 114, 95, 116], lst true (x.columns.map fun q => eCol (renCol q)), lst m (x.key.map eI), x.part, lst m (x.indexes.map (eIndex m))⟩) := by
            simp only [eTabR, sub1, if_pos h2]; rfl
          rw [e2] at ih
          rw [h2']
          exact ih
        · have h2' : decide ((sTable m x).Name = ByteArray.mk #[116]) = false := decide_eq_false h2
          have e2 : eTabR m x = .agg (p_api_Table ⟨x.name, lst true (x.columns.map fun q => eCol (renCol q)), lst m (x.key.map eI), x.part, lst m (x.indexes.map (eIndex m))⟩) := by
            simp only [eTabR, sub1, if_neg h2]
          rw [e2] at ih
          rw [h2']
          exact ih
    · have hc' : (x.columns.all fun q => !decide (q.Name = oA)) = false := by simpa using hc
      have : tabFreeB x = false := by simp only [tabFreeB, hc']; rfl
      rw [hc', this]; rfl
end Go.RX
namespace Go.RX
mutual
def eSz : Expr → Nat
  | .mk _ _ _ _ _ _ _ kids _ => 1 + eSzs kids
def eSzs : List Expr → Nat
  | [] => 0
  | x :: r => eSz x + eSzs r
end
theorem eSz_kids (e : Expr) : eSz e = 1 + eSzs e.kids := by cases e; rw [eSz]; rfl
theorem eSzs_len : ∀ l : List Expr, l.length ≤ eSzs l
  | [] => Nat.zero_le _
  | x :: r => by
    have := eSzs_len r
    have := eSz_kids x
    rw [eSzs, List.length_cons]
    omega
def freeN (n t : ByteArray) : Bool := !decide (n = oA) && !decide (n = oP) && !decide (t = oT)
mutual
def freeB : Expr → Bool
  | .mk _ _ _ _ _ t n kids _ => freeBs kids && freeN n t
def freeBs : List Expr → Bool
  | [] => true
  | x :: r => freeB x && freeBs r
end
theorem freeBs_all : ∀ l, freeBs l = l.all freeB
  | [] => rfl
  | x :: r => by rw [freeBs, List.all_cons, freeBs_all r]
theorem freeB_eq (e : Expr) : freeB e = (e.kids.all freeB && freeN e.name e.table) := by cases e; rw [freeB, freeBs_all]; rfl
mutual
theorem freeB_free : ∀ e, freeB e = true → freeE e
  | .mk _ _ _ _ _ t n kids _, h => by
    simp only [freeB, freeN, Bool.and_eq_true, Bool.not_eq_true', decide_eq_false_iff_not] at h
    exact ⟨h.2.1.1, h.2.1.2, h.2.2, freeBs_free kids h.1⟩
theorem freeBs_free : ∀ l, freeBs l = true → freeEs l
  | [], _ => trivial
  | x :: r, h => by
    simp only [freeBs, Bool.and_eq_true] at h
    exact ⟨freeB_free x h.1, freeBs_free r h.2⟩
end
theorem others_nf (T : Tab) (R : YL_law13_others_0) (a1 : Arr) (b : Bool) (n : Int) (r : List PV) (K0 : Bool → List PV → Prop) (h0 : 0 ≤ n) (hlt : n < ((a1.n : Nat) : Int)) (x : S_api_Expr) (hx : ∀ K : S_api_Expr → Prop, as_api_Expr (a1.g n.toNat) K = K x) (hr : (r.length + 1) * 112 ≤ 140737488355328) :
    B_law13_others_0 T R a1 b n r K0 = T.f_law13_others ⟨false, x.Kids.n, fun i => weakM (x.Kids.g i)⟩ (fun a2 b2 => R a1 (b && (b2 && freeN x.Name x.Table)) (W (n + 1)) (r ++ [.agg [.int .i64 x.Kind, .int .i64 x.Op, .int .i64 x.Value_Kind, .int .i64 x.Value_Int, .str x.Value_Text, .str (rT x.Table), .str (renN x.Kind x.Name), .arr a2.m a2.n a2.g, .int .i64 x.At]]) K0) := by
  simp only [B_law13_others_0, hx, strEq, decide_eq_true hlt, and_l h0, and_l hlt, and_l hr, freeN]
  obtain ⟨Kind, Op, VK, VI, VT, Tb, Nm, Kids, At⟩ := x
  simp only []
  have k3 : ((3 : Int) == 2) = false := rfl
  have q1 : decide (Nm = ByteArray.mk #[111, 116, 104, 101, 114, 95, 97]) = decide (Nm = oA) := rfl
  have q2 : decide (Nm = ByteArray.mk #[111, 116, 104, 101, 114, 95, 112]) = decide (Nm = oP) := rfl
  have q3 : decide (Nm = ByteArray.mk #[97]) = decide (Nm = nA) := rfl
  have q4 : decide (Nm = ByteArray.mk #[112]) = decide (Nm = nP) := rfl
  have q5 : decide (Tb = ByteArray.mk #[116]) = decide (Tb = nT) := rfl
  have q6 : decide (Tb = ByteArray.mk #[111, 116, 104, 101, 114, 95, 116]) = decide (Tb = oT) := rfl
  simp only [q1, q2, q3, q4, q5, q6]
  have ht : (Tb = oT ∧ decide (Tb = nT) = false ∧ decide (Tb = oT) = true ∧ rT Tb = Tb) ∨ (decide (Tb = nT) = true ∧ decide (Tb = oT) = false ∧ rT Tb = oT) ∨ (decide (Tb = nT) = false ∧ decide (Tb = oT) = false ∧ rT Tb = Tb) := by
    by_cases h1 : Tb = oT
    · subst h1; exact .inl ⟨rfl, by decide, by decide, by decide⟩
    · by_cases h2 : Tb = nT
      · exact .inr (.inl ⟨decide_eq_true h2, decide_eq_false h1, by simp only [sub1, if_pos h2]⟩)
      · exact .inr (.inr ⟨decide_eq_false h2, decide_eq_false h1, by simp only [sub1, if_neg h2]⟩)
  have hk : ((Kind == (3 : Int)) = true ∧ (Kind == (2 : Int)) = false ∧ ∀ n, renN Kind n = rA n) ∨ ((Kind == (3 : Int)) = false ∧ (Kind == (2 : Int)) = true ∧ ∀ n, renN Kind n = rP n) ∨ ((Kind == (3 : Int)) = false ∧ (Kind == (2 : Int)) = false ∧ ∀ n, renN Kind n = n) := by
    by_cases h1 : Kind = 3
    · subst h1; exact .inl ⟨rfl, rfl, fun _ => rfl⟩
    · by_cases h2 : Kind = 2
      · subst h2; exact .inr (.inl ⟨rfl, rfl, fun _ => rfl⟩)
      · exact .inr (.inr ⟨by simp [h1], by simp [h2], fun _ => by simp only [renN, if_neg h1, if_neg h2]⟩)
  have hn : (decide (Nm = oA) = true ∧ decide (Nm = oP) = false ∧ decide (Nm = nA) = false ∧ decide (Nm = nP) = false ∧ rA Nm = Nm ∧ rP Nm = Nm) ∨ (decide (Nm = oA) = false ∧ decide (Nm = oP) = true ∧ decide (Nm = nA) = false ∧ decide (Nm = nP) = false ∧ rA Nm = Nm ∧ rP Nm = Nm) ∨ (decide (Nm = oA) = false ∧ decide (Nm = oP) = false ∧ decide (Nm = nA) = true ∧ decide (Nm = nP) = false ∧ rA Nm = oA ∧ rP Nm = Nm) ∨ (decide (Nm = oA) = false ∧ decide (Nm = oP) = false ∧ decide (Nm = nA) = false ∧ decide (Nm = nP) = true ∧ rA Nm = Nm ∧ rP Nm = oP) ∨ (decide (Nm = oA) = false ∧ decide (Nm = oP) = false ∧ decide (Nm = nA) = false ∧ decide (Nm = nP) = false ∧ rA Nm = Nm ∧ rP Nm = Nm) := by
    by_cases h1 : Nm = oA
    · subst h1; exact .inl (by decide)
    · by_cases h2 : Nm = oP
      · subst h2; exact .inr (.inl (by decide))
      · by_cases h3 : Nm = nA
        · subst h3; exact .inr (.inr (.inl (by decide)))
        · by_cases h4 : Nm = nP
          · subst h4; exact .inr (.inr (.inr (.inl (by decide))))
          · exact .inr (.inr (.inr (.inr ⟨decide_eq_false h1, decide_eq_false h2, decide_eq_false h3, decide_eq_false h4, by simp only [sub1, if_neg h3], by simp only [sub1, if_neg h4]⟩)))
  generalize decide (Nm = oA) = c1 at hn ⊢
  generalize decide (Nm = oP) = c2 at hn ⊢
  generalize decide (Nm = nA) = c3 at hn ⊢
  generalize decide (Nm = nP) = c4 at hn ⊢
  generalize decide (Tb = nT) = c5 at ht ⊢
  generalize decide (Tb = oT) = c6 at ht ⊢
  generalize (Kind == (3 : Int)) = c7 at hk ⊢
  generalize (Kind == (2 : Int)) = c8 at hk ⊢
  generalize rT Tb = Tb' at ht ⊢
  rcases hk with ⟨rfl, rfl, hk⟩ | ⟨rfl, rfl, hk⟩ | ⟨rfl, rfl, hk⟩ <;> rw [hk] <;> rcases hn with ⟨rfl, rfl, rfl, rfl, h1, h2⟩ | ⟨rfl, rfl, rfl, rfl, h1, h2⟩ | ⟨rfl, rfl, rfl, rfl, h1, h2⟩ | ⟨rfl, rfl, rfl, rfl, h1, h2⟩ | ⟨rfl, rfl, rfl, rfl, h1, h2⟩ <;> rcases ht with ⟨-, rfl, rfl, rfl⟩ | ⟨rfl, rfl, rfl⟩ | ⟨rfl, rfl, rfl⟩ <;> try rw [h1]
  all_goals try rw [h2]
  all_goals cases b
  all_goals (show T.f_law13_others _ _ = _; exact congrArg _ (funext fun a2 => funext fun b2 => by cases b2 <;> rfl))
theorem renE_s (e : Expr) : eExpr true (renE e) = .agg [.int .i64 e.kind, .int .i64 e.op, .int .i64 e.vkind, .int .i64 e.vint, .str e.vtext, .str (rT e.table), .str (renN e.kind e.name), .arr (lst true ((e.kids.map renE).map (eExpr true))).m (lst true ((e.kids.map renE).map (eExpr true))).n (lst true ((e.kids.map renE).map (eExpr true))).g, .int .i64 e.at_] := by
  cases e with
  | mk k o vk vi vt t n kids a =>
    simp only [renE, renEs_eq, eExpr, eExprs_map, p_api_Expr, lst]
    simp [Expr.kids, Expr.kind, Expr.op, Expr.vkind, Expr.vint, Expr.vtext, Expr.table, Expr.name, Expr.at_]
theorem S_others : ∀ (k : Nat) (l : List Expr), eSzs l + 1 < k → eSzs l ≤ 1048576 → ∀ (m : Bool) (K : Arr → Bool → Prop),
    (TT k).f_law13_others (lst m (l.map (eExpr m))) K = K (lst true ((l.map renE).map (eExpr true))) (l.all freeB) := by
  intro k
  induction k with
  | zero => intro l h; omega
  | succ k ih =>
    intro l hl hb m K
    have hF : (TT (k + 1)).f_law13_others (lst m (l.map (eExpr m))) K = F_law13_others (TT k) (lst m (l.map (eExpr m))) K := rfl
    have hf : (TT k).fuel = k := by cases k <;> rfl
    rw [hF]
    simp only [F_law13_others, hf]
    have loop : ∀ (r p : List Expr) (n : Nat) (b : Bool), eSzs r < k → p.length + eSzs r ≤ 1048576 → r.length < n → ∀ K0 : Bool → List PV → Prop,
        L_law13_others_0 (TT k) n (lst m ((p ++ r).map (eExpr m))) b ((p.length : Nat) : Int) ((p.map renE).map (eExpr true)) K0 = K0 (b && r.all freeB) (((p ++ r).map renE).map (eExpr true)) := by
      intro r
      induction r with
      | nil =>
        intro p n b _ _ hn K0
        obtain ⟨n, rfl⟩ : ∃ n', n = n' + 1 := ⟨n - 1, by simp at hn; omega⟩
        simp only [L_law13_others_0, B_law13_others_0]
        rw [mid_n]
        have : decide (((p.length : Nat) : Int) < ((p.length + ([] : List Expr).length : Nat) : Int)) = false := decide_eq_false (by simp)
        rw [this]
        simp only [List.append_nil, List.all_nil, Bool.and_true]
        rfl
      | cons x r ihr =>
        intro p n b hr hp hn K0
        obtain ⟨n, rfl⟩ : ∃ n', n = n' + 1 := ⟨n - 1, by simp at hn; omega⟩
        rw [eSzs] at hr hp
        have hx := eSz_kids x
        have hk := ih x.kids (by omega) (by omega)
        simp only [L_law13_others_0]
        rw [others_nf (x := sExpr m x) (h0 := Int.natCast_nonneg _) (hlt := by rw [mid_n]; simp; omega) (hx := fun K => by rw [mid_g, as_Expr]) (hr := by simp; omega)]
        have e1 : (sExpr m x).Kids = lst m (x.kids.map (eExpr m)) := rfl
        rw [e1, wk_lst (f' := eExpr false) (fun y _ => wk_eExpr m y), hk]
        have := ihr (p ++ [x]) n (b && freeB x) (by omega) (by simp; omega) (by simp at hn; omega) K0
        rw [snoc_app, snoc_len] at this
        have e2 : ((p ++ [x]).map renE).map (eExpr true) = (p.map renE).map (eExpr true) ++ [eExpr true (renE x)] := by simp
        rw [e2, renE_s] at this
        rw [W_succ (by omega), List.all_cons, freeB_eq]
        rw [freeB_eq] at this
        simp only [Bool.and_assoc] at this ⊢
        exact this
    have := loop l [] k true (by omega) (by simp; omega) (by have := eSzs_len l; omega) (fun b r => K (lst true r) b)
    simp only [List.nil_append, List.map_nil, List.length_nil, Bool.true_and] at this
    exact this
end Go.RX
namespace Go.RX
def setFreeB (x : Set_) : Bool := freeB x.expr && !decide (x.name = oA)
theorem ren_mk (e : Expr) : renE e = .mk e.kind e.op e.vkind e.vint e.vtext (rT e.table) (renN e.kind e.name) (e.kids.map renE) e.at_ := by
  cases e; simp only [renE, renEs_eq]; rfl
theorem eSet_ren (x : Set_) : eSet true (renSet x) = .agg [.str (rA x.name), .int .i64 x.expr.kind, .int .i64 x.expr.op, .int .i64 x.expr.vkind, .int .i64 x.expr.vint, .str x.expr.vtext, .str (rT x.expr.table), .str (renN x.expr.kind x.expr.name), .arr (lst true ((x.expr.kids.map renE).map (eExpr true))).m (lst true ((x.expr.kids.map renE).map (eExpr true))).n (lst true ((x.expr.kids.map renE).map (eExpr true))).g, .int .i64 x.expr.at_, .int .i64 x.at_] := by
  simp only [renSet, ren_mk]; rfl
theorem renamed_nf (T : Tab) (R : YL_law13_renamed_0) (b : Bool) (n : Int) (x1 : S_api_Stmt) (n2 : Int) (s1 s2 : ByteArray) (b2 : Bool) (n3 n4 : Int) (r : List PV) (K0 : Bool → S_api_Stmt → Int → ByteArray → ByteArray → Bool → Int → Int → (List PV) → Prop) (h0 : 0 ≤ n) (hlt : n < ((x1.Sets.n : Nat) : Int)) (m : Bool) (x : Set_) (hx : x1.Sets.g n.toNat = eSet m x) (hr : (r.length + 1) * 136 ≤ 140737488355328)
    (hO : ∀ K : Arr → Bool → Prop, T.f_law13_others (lst false ([x.expr].map (eExpr false))) K = K (lst true (([x.expr].map renE).map (eExpr true))) ([x.expr].all freeB)) :
    B_law13_renamed_0 T R b n x1 n2 s1 s2 b2 n3 n4 r K0 = R (b && setFreeB x) (W (n + 1)) x1 n2 s1 s2 b2 n3 n4 (r ++ [eSet true (renSet x)]) K0 := by
  have e1 : lst true [PV.agg [.int .i64 (sSet m x).Expr_Kind, .int .i64 (sSet m x).Expr_Op, .int .i64 (sSet m x).Expr_Value_Kind, .int .i64 (sSet m x).Expr_Value_Int, .str (sSet m x).Expr_Value_Text, .str (sSet m x).Expr_Table, .str (sSet m x).Expr_Name, .arr (sSet m x).Expr_Kids.m (sSet m x).Expr_Kids.n (sSet m x).Expr_Kids.g, .int .i64 (sSet m x).Expr_At]] = lst true ([x.expr].map (eExpr m)) := by
    simp only [List.map_cons, List.map_nil, eExpr_s]; rfl
  simp only [B_law13_renamed_0, hx, as_Set, strEq, decide_eq_true hlt, and_l h0, and_l hlt, and_l hr, e1]
  rw [wk_lst (f' := eExpr false) (fun y _ => wk_eExpr m y), hO]
  have e2 : (lst true (([x.expr].map renE).map (eExpr true))).n = 1 := rfl
  have e3 : ∀ K : S_api_Expr → Prop, as_api_Expr ((lst true (([x.expr].map renE).map (eExpr true))).g 0) K = K (sExpr true (renE x.expr)) := fun K => as_Expr true (renE x.expr) K
  have z1 : ((0 : Int) < ((1 : Nat) : Int)) = True := by simp
  simp only [e2, e3, z1, Int.le_refl, true_and, List.all_cons, List.all_nil, Bool.and_true]
  have q1 : decide ((sSet m x).Name = ByteArray.mk #[111, 116, 104, 101, 114, 95, 97]) = decide (x.name = oA) := rfl
  have q2 : decide ((sSet m x).Name = ByteArray.mk #[97]) = decide (x.name = nA) := rfl
  simp only [q1, q2, setFreeB, eSet_ren, ren_mk]
  have hn : (decide (x.name = nA) = true ∧ decide (x.name = oA) = false ∧ rA x.name = oA) ∨ (decide (x.name = nA) = false ∧ rA x.name = x.name) := by
    by_cases h2 : x.name = nA
    · exact .inl ⟨decide_eq_true h2, by rw [h2]; decide, by simp only [sub1, if_pos h2]⟩
    · exact .inr ⟨decide_eq_false h2, by simp only [sub1, if_neg h2]⟩
  generalize decide (x.name = nA) = c1 at hn ⊢
  generalize decide (x.name = oA) = c2 at hn ⊢
  generalize freeB x.expr = c3
  rcases hn with ⟨rfl, rfl, h1⟩ | ⟨rfl, h1⟩ <;> rw [h1]
  · cases b <;> cases c3 <;> rfl
  · cases b <;> cases c3 <;> cases c2 <;> rfl
def sStmtR (m : Bool) (x : Stmt) : S_api_Stmt := ⟨x.kind, rT x.table, rT x.join, lst true ((x.on.map renE).map (eExpr true)), lst true ((x.where_.map renE).map (eExpr true)), lst true ((x.items.map renE).map (eExpr true)), x.star, lst true (x.sets.map fun s => eSet true (renSet s)), lst true ((x.groups.map renE).map (eExpr true)), lst m (x.sorts.map eSort), lst m (x.limit.map eI), x.at_, x.joinAt⟩
structure Stmt.Small (s : Stmt) : Prop where
  on : eSzs s.on ≤ 1048576
  where_ : eSzs s.where_ ≤ 1048576
  items : eSzs s.items ≤ 1048576
  groups : eSzs s.groups ≤ 1048576
  sets : s.sets.length ≤ 1048576
  set : ∀ x ∈ s.sets, eSz x.expr ≤ 1048576
theorem renamed_loop (k : Nat) (hk : 1048600 ≤ k) (m : Bool) (x1 : S_api_Stmt) (n2 : Int) (s1 s2 : ByteArray) (b2 : Bool) (n3 n4 : Int) (K0 : Bool → S_api_Stmt → Int → ByteArray → ByteArray → Bool → Int → Int → (List PV) → Prop) :
    ∀ (r p : List Set_) (n : Nat) (b : Bool), x1.Sets = lst m ((p ++ r).map (eSet m)) → (∀ x ∈ r, eSz x.expr ≤ 1048576) → r.length < n → p.length + r.length ≤ 1048576 →
    L_law13_renamed_0 (TT k) n b ((p.length : Nat) : Int) x1 n2 s1 s2 b2 n3 n4 (p.map fun s => eSet true (renSet s)) K0 = K0 (b && r.all setFreeB) x1 n2 s1 s2 b2 n3 n4 ((p ++ r).map fun s => eSet true (renSet s)) := by
  intro r
  induction r with
  | nil =>
    intro p n b hx _ hn _
    obtain ⟨n, rfl⟩ : ∃ n', n = n' + 1 := ⟨n - 1, by simp at hn; omega⟩
    simp only [L_law13_renamed_0, B_law13_renamed_0, hx]
    rw [mid_n]
    have : decide (((p.length : Nat) : Int) < ((p.length + ([] : List Set_).length : Nat) : Int)) = false := decide_eq_false (by simp)
    rw [this]
    simp only [List.append_nil, List.all_nil, Bool.and_true]
    rfl
  | cons x r ih =>
    intro p n b hx hs hn hp
    obtain ⟨n, rfl⟩ : ∃ n', n = n' + 1 := ⟨n - 1, by simp at hn; omega⟩
    have hx1 := hs x (.head _)
    simp only [L_law13_renamed_0]
    rw [renamed_nf (m := m) (x := x) (h0 := Int.natCast_nonneg _) (hlt := by rw [hx, mid_n]; simp; omega) (hx := by rw [hx, mid_g]) (hr := by simp at hp ⊢; omega) (hO := S_others k [x.expr] (by simp only [eSzs]; omega) (by simp only [eSzs]; omega) false)]
    have := ih (p ++ [x]) n (b && setFreeB x) (by rw [snoc_app]; exact hx) (fun y hy => hs y (.tail _ hy)) (by simp at hn; omega) (by simp at hp ⊢; omega)
    rw [snoc_app, snoc_len] at this
    have e2 : (p ++ [x]).map (fun s => eSet true (renSet s)) = p.map (fun s => eSet true (renSet s)) ++ [eSet true (renSet x)] := by simp
    rw [e2] at this
    rw [W_succ (by simp at hp; omega), List.all_cons, ← Bool.and_assoc]
    exact this
def stmtFreeB (s : Stmt) : Bool := !decide (s.table = oT) && !decide (s.join = oT) && s.on.all freeB && s.where_.all freeB && s.items.all freeB && s.groups.all freeB && s.sets.all setFreeB
theorem S_renamed (k : Nat) (hk : 1048700 ≤ k) (m : Bool) (s : Stmt) (hs : s.Small) (K : S_api_Stmt → Bool → Prop) (h0 : ∀ x, K x false) (h1 : stmtFreeB s = true → K (sStmtR m s) true) : (TT k).f_law13_renamed (sStmt m s) K := by
  obtain ⟨k, rfl⟩ : ∃ k', k = k' + 1 := ⟨k - 1, by omega⟩
  have hF : (TT (k + 1)).f_law13_renamed (sStmt m s) K = F_law13_renamed (TT k) (sStmt m s) K := rfl
  have hf : (TT k).fuel = k := by cases k <;> rfl
  rw [hF]
  have p1 : (sStmt m s).On = lst m (s.on.map (eExpr m)) := rfl
  have p2 : (sStmt m s).Where = lst m (s.where_.map (eExpr m)) := rfl
  have p3 : (sStmt m s).Items = lst m (s.items.map (eExpr m)) := rfl
  have p4 : (sStmt m s).Groups = lst m (s.groups.map (eExpr m)) := rfl
  have o := fun (l : List Expr) (h : eSzs l ≤ 1048576) => S_others k l (by omega) h false
  have lp := fun (b : Bool) (x1 : S_api_Stmt) (hx : x1.Sets = lst m (s.sets.map (eSet m))) (K0 : Bool → S_api_Stmt → Int → ByteArray → ByteArray → Bool → Int → Int → (List PV) → Prop) => renamed_loop k (by omega) m x1 0 (ByteArray.mk #[]) (ByteArray.mk #[]) false 0 0 K0 s.sets [] k b hx hs.set (by have := hs.sets; omega) (by have := hs.sets; simp; omega)
  simp only [List.map_nil, List.length_nil, List.nil_append] at lp
  have z : ((0 : Nat) : Int) = 0 := rfl
  simp only [z] at lp
  simp only [F_law13_renamed, p1, p2, p3, p4, wk_lst (f' := eExpr false) (fun y _ => wk_eExpr m y), o _ hs.on, o _ hs.where_, o _ hs.items, o _ hs.groups, hf, strEq]
  have q1 : decide ((sStmt m s).Table = ByteArray.mk #[111, 116, 104, 101, 114, 95, 116]) = decide (s.table = oT) := rfl
  have q2 : decide ((sStmt m s).Join = ByteArray.mk #[111, 116, 104, 101, 114, 95, 116]) = decide (s.join = oT) := rfl
  have q3 : decide ((sStmt m s).Table = ByteArray.mk #[116]) = decide (s.table = nT) := rfl
  have q4 : decide ((sStmt m s).Join = ByteArray.mk #[116]) = decide (s.join = nT) := rfl
  simp only [q1, q2, q3, q4]
  unfold stmtFreeB at h1
  unfold sStmtR at h1
  by_cases c1 : s.table = oT
  · rw [decide_eq_true c1]; exact h0 _
  rw [decide_eq_false c1] at h1 ⊢
  by_cases c2 : s.join = oT
  · rw [decide_eq_true c2]; exact h0 _
  rw [decide_eq_false c2] at h1 ⊢
  generalize s.on.all freeB = b1 at h1 ⊢
  generalize s.where_.all freeB = b2 at h1 ⊢
  generalize s.items.all freeB = b3 at h1 ⊢
  generalize s.groups.all freeB = b4 at h1 ⊢
  have fin : ∀ (X : S_api_Stmt) (b : Bool), (b = true → b1 = true ∧ b2 = true ∧ b3 = true ∧ b4 = true) → X.Sets = lst m (s.sets.map (eSet m)) → (⟨X.Kind, X.Table, X.Join, X.On, X.Where, X.Items, X.Star, lst true (s.sets.map fun s => eSet true (renSet s)), X.Groups, X.Sorts, X.Limit, X.At, X.JoinAt⟩ : S_api_Stmt) = sStmtR m s → L_law13_renamed_0 (TT k) k b 0 X 0 (ByteArray.mk #[]) (ByteArray.mk #[]) false 0 0 [] (fun b351 x352 n353 s354 s355 b356 n357 n358 r359 => K ⟨x352.Kind, x352.Table, x352.Join, x352.On, x352.Where, x352.Items, x352.Star, (lst true r359), x352.Groups, x352.Sorts, x352.Limit, x352.At, x352.JoinAt⟩ b351) := by
    intro X b hb hX hE
    rw [lp b X hX]
    show K _ _
    rw [hE]
    cases hc : b && s.sets.all setFreeB with
    | false => exact h0 _
    | true =>
      rw [Bool.and_eq_true] at hc
      obtain ⟨rfl, rfl, rfl, rfl⟩ := hb hc.1
      refine h1 ?_
      rw [hc.2]; rfl
  have leaf : ∀ (T J : ByteArray), rT s.table = T → rT s.join = J → ∀ b, (b = true → b1 = true ∧ b2 = true ∧ b3 = true ∧ b4 = true) → L_law13_renamed_0 (TT k) k b 0 ⟨(sStmt m s).Kind, T, J, lst true ((s.on.map renE).map (eExpr true)), lst true ((s.where_.map renE).map (eExpr true)), lst true ((s.items.map renE).map (eExpr true)), (sStmt m s).Star, (sStmt m s).Sets, lst true ((s.groups.map renE).map (eExpr true)), (sStmt m s).Sorts, (sStmt m s).Limit, (sStmt m s).At, (sStmt m s).JoinAt⟩ 0 (ByteArray.mk #[]) (ByteArray.mk #[]) false 0 0 [] (fun b351 x352 n353 s354 s355 b356 n357 n358 r359 => K ⟨x352.Kind, x352.Table, x352.Join, x352.On, x352.Where, x352.Items, x352.Star, (lst true r359), x352.Groups, x352.Sorts, x352.Limit, x352.At, x352.JoinAt⟩ b351) := by
    intro T J hT hJ b hb
    subst hT hJ
    exact fin _ b hb rfl rfl
  have rt1 : ∀ {x : ByteArray}, x = nT → rT x = oT := fun h => by simp only [sub1, if_pos h]
  have rt0 : ∀ {x : ByteArray}, ¬ x = nT → rT x = x := fun h => by simp only [sub1, if_neg h]
  by_cases c3 : s.table = nT
  · rw [decide_eq_true c3]
    by_cases c4 : s.join = nT
    · rw [decide_eq_true c4]
      have t1 := leaf _ _ (rt1 c3) (rt1 c4)
      cases b1 <;> cases b2 <;> cases b3 <;> first | exact t1 b4 (fun h => ⟨rfl, rfl, rfl, h⟩) | exact t1 false (fun h => by cases h)
    · rw [decide_eq_false c4]
      have t1 := leaf _ _ (rt1 c3) (rt0 c4)
      cases b1 <;> cases b2 <;> cases b3 <;> first | exact t1 b4 (fun h => ⟨rfl, rfl, rfl, h⟩) | exact t1 false (fun h => by cases h)
  · rw [decide_eq_false c3]
    by_cases c4 : s.join = nT
    · rw [decide_eq_true c4]
      have t1 := leaf _ _ (rt0 c3) (rt1 c4)
      cases b1 <;> cases b2 <;> cases b3 <;> first | exact t1 b4 (fun h => ⟨rfl, rfl, rfl, h⟩) | exact t1 false (fun h => by cases h)
    · rw [decide_eq_false c4]
      have t1 := leaf _ _ (rt0 c3) (rt0 c4)
      cases b1 <;> cases b2 <;> cases b3 <;> first | exact t1 b4 (fun h => ⟨rfl, rfl, rfl, h⟩) | exact t1 false (fun h => by cases h)
end Go.RX
namespace Go.RX
theorem eSzs_mem {l : List Expr} {x : Expr} (h : x ∈ l) : eSz x ≤ eSzs l := by
  induction l with
  | nil => cases h
  | cons y r ih =>
    rw [eSzs]
    cases h with
    | head => omega
    | tail _ h => have := ih h; omega
theorem tsOk_of : ∀ {l : List Term}, (∀ x ∈ l, tOk x) → tsOk l
  | [], _ => by rw [tsOk]; trivial
  | x :: r, h => by rw [tsOk]; exact ⟨h x (.head _), tsOk_of fun y hy => h y (.tail _ hy)⟩
theorem tOk_nil (o n t vk vi : Int) (vt : ByteArray) : tOk ⟨o, n, t, vk, vi, vt, []⟩ := by
  rw [tOk, tsOk]; exact ⟨by simp, trivial⟩
theorem mapE_all {α β : Type} {f : α → Except Flt β} {P : β → Prop} : ∀ {l : List α} {r : List β}, mapE f l = .ok r → (∀ x ∈ l, ∀ y, f x = .ok y → P y) → ∀ y ∈ r, P y
  | [], r, h, _ => by
    injection h with h
    subst h
    intro y hy; cases hy
  | x :: l, r, h, hP => by
    simp only [mapE] at h
    cases hx : f x with
    | error e => rw [hx] at h; cases h
    | ok y =>
      rw [hx] at h
      cases hl : mapE f l with
      | error e => rw [hl] at h; cases h
      | ok ys =>
        rw [hl] at h
        injection h with h
        subst h
        intro z hz
        cases hz with
        | head => exact hP x (.head _) _ hx
        | tail _ hz => exact mapE_all hl (fun w hw => hP w (.tail _ hw)) z hz
theorem ask_ok (q : QEnv) : ∀ (d : Nat) (e : Expr) (t : Term), askE q d e = .ok t → eSz e ≤ 1048576 → tOk t
  | 0, e, t, h, _ => by cases h
  | d + 1, e, t, h, hs => by
    simp only [askE] at h
    have hk := eSz_kids e
    split at h
    · injection h with h; subst h; exact tOk_nil ..
    split at h
    · split at h
      · injection h with h; subst h; exact tOk_nil ..
      · cases h
    split at h
    · split at h
      · cases h
      split at h
      · cases h
      injection h with h; subst h; exact tOk_nil ..
    split at h
    · cases h
    · rename_i ks hks
      split at h
      · cases h
      split at h
      · cases h
      injection h with h; subst h
      rw [tOk]
      have hl := mapE_len hks
      have := eSzs_len e.kids
      exact ⟨by omega, tsOk_of (mapE_all hks fun x hx y hy => ask_ok q d x y hy (by have := eSzs_mem hx; omega))⟩
theorem of_ok {q : QEnv} {w : Int} {e : Expr} {t : Term} (h : ofE q w e = .ok t) (hs : eSz e ≤ 1048576) : tOk t := by
  simp only [ofE] at h
  split at h
  · cases h
  rename_i u hu
  split at h
  · cases h
  injection h with h; subst h
  exact ask_ok q _ e _ hu hs
def okL (l : List Term) : Prop := l.length ≤ 9223372036854775807 ∧ tsOk l
theorem okL_map {f : Expr → Except Flt Term} {l : List Expr} {r : List Term} (h : mapE f l = .ok r) (hs : eSzs l ≤ 1048576) (hf : ∀ x ∈ l, ∀ y, f x = .ok y → tOk y) : okL r := by
  have hl := mapE_len h
  have := eSzs_len l
  exact ⟨by omega, tsOk_of (mapE_all h hf)⟩
theorem ins_ok {q : QEnv} : ∀ {l : List Expr} {cs : List S_api_Column} {r : List Term}, insE q l cs = .ok r → (∀ x ∈ l, eSz x ≤ 1048576) → r.length ≤ l.length ∧ ∀ x ∈ r, tOk x
  | [], cs, r, h, _ => by
    simp only [insE] at h
    injection h with h; subst h
    exact ⟨Nat.le_refl _, fun x hx => by cases hx⟩
  | e :: es, [], r, h, _ => by
    simp only [insE] at h
    injection h with h; subst h
    exact ⟨by simp, fun x hx => by cases hx⟩
  | e :: es, c :: cs, r, h, hs => by
    simp only [insE] at h
    split at h
    · cases h
    rename_i t ht
    split at h
    · cases h
    rename_i ts hts
    injection h with h; subst h
    obtain ⟨h1, h2⟩ := ins_ok hts fun x hx => hs x (.tail _ hx)
    refine ⟨by simp; omega, fun x hx => ?_⟩
    cases hx with
    | head => exact of_ok ht (hs e (.head _))
    | tail _ hx => exact h2 x hx
theorem upd_ok {q : QEnv} {t : Table} : ∀ {ns : List Int} {l : List Set_} {r : List Term × List Int}, updE q t ns l = .ok r → (∀ x ∈ l, eSz x.expr ≤ 1048576) → r.1.length ≤ l.length ∧ r.2.length ≤ l.length ∧ ∀ x ∈ r.1, tOk x
  | ns, [], r, h, _ => by
    simp only [updE] at h
    injection h with h; subst h
    exact ⟨Nat.le_refl _, Nat.le_refl _, fun x hx => by cases hx⟩
  | ns, x :: l, r, h, hs => by
    simp only [updE] at h
    split at h
    · cases h
    split at h
    · cases h
    split at h
    · cases h
    rename_i u hu
    split at h
    · cases h
    rename_i us js hus
    injection h with h; subst h
    obtain ⟨h1, h2, h3⟩ := upd_ok hus fun x hx => hs x (.tail _ hx)
    refine ⟨by simp at h1 ⊢; omega, by simp at h2 ⊢; omega, fun y hy => ?_⟩
    cases hy with
    | head => exact of_ok hu (hs x (.head _))
    | tail _ hy => exact h3 y hy
theorem grp_ok {q : QEnv} : ∀ {ns : List Int} {l : List Expr} {r : List Int}, grpE q ns l = .ok r → r.length = l.length
  | ns, [], r, h => by
    simp only [grpE] at h
    injection h with h; subst h; rfl
  | ns, x :: l, r, h => by
    simp only [grpE] at h
    split at h
    · cases h
    split at h
    · cases h
    split at h
    · cases h
    rename_i gs hgs
    injection h with h; subst h
    simp [grp_ok hgs]
theorem star_len : ∀ (l : List S_api_Column) (i : Nat), (starTerms i l).length = l.length
  | [], _ => rfl
  | x :: r, i => by simp [starTerms, star_len r]
theorem star_all : ∀ (l : List S_api_Column) (i : Nat), ∀ x ∈ starTerms i l, tOk x
  | [], _, x, h => by cases h
  | c :: r, i, x, h => by
    cases h with
    | head => exact tOk_nil ..
    | tail _ h => exact star_all r (i + 1) x h
theorem star_ok {s : Stmt} {ts : List Table} {r : List Term} (h : starE s ts = .ok r) : okL r := by
  simp only [starE] at h
  split at h
  · cases h
  split at h
  · cases h
  injection h with h; subst h
  exact ⟨by rw [star_len]; omega, tsOk_of (star_all _ _)⟩
theorem item_ok {q : QEnv} {g : Bool} {gs : List Int} {e : Expr} {t : Term} (h : itemE q g gs e = .ok t) (hs : eSz e ≤ 1048576) : tOk t := by
  simp only [itemE] at h
  split at h
  · cases h
  rename_i u hu
  split at h
  · cases h
  injection h with h; subst h
  exact ask_ok q _ e _ hu hs
theorem choose_ok {q : QEnv} {s : Stmt} {ts : List Table} {r : List Term × Bool × List Int × List S_api_Sort} (h : chooseE q s ts = .ok r) (hs : s.Small) : okL r.1 ∧ r.2.2.1.length ≤ 1048576 ∧ r.2.2.2.length = s.sorts.length := by
  simp only [chooseE] at h
  split at h
  · cases h
  rename_i gs hgs
  split at h
  · cases h
  rename_i is his
  split at h
  · cases h
  rename_i os hos
  injection h with h; subst h
  refine ⟨?_, by have := grp_ok hgs; have := eSzs_len s.groups; have := hs.groups; simp only; omega, mapE_len hos⟩
  split at his
  · exact star_ok his
  · exact okL_map his hs.items fun x hx y hy => item_ok hy (by have := eSzs_mem hx; have := hs.items; omega)
theorem names_ok {c : Catalog} {s : Stmt} {ks : List Int} (h : namesE c s = .ok ks) : ks.length ≤ 2 := by
  simp only [namesE] at h
  split at h
  · cases h
  split at h
  · injection h with h; subst h; simp
  split at h
  · cases h
  split at h
  · cases h
  injection h with h; subst h; simp
theorem stmt_okL {c : Catalog} {ps : List S_api_Param} {s : Stmt} {t : Typed} (h : stmtE c ps s = .ok t) (hs : s.Small) (h1 : s.sorts.length ≤ 1048576) (h2 : s.limit.length ≤ 1048576) : t.Ok := by
  have n0 : ([] : List Term).length ≤ 9223372036854775807 ∧ tsOk [] := ⟨by simp, by rw [tsOk]; trivial⟩
  simp only [stmtE] at h
  split at h
  · cases h
  rename_i ks hks
  have := names_ok hks
  split at h
  · cases h
  rename_i on hon
  have hon' := okL_map hon hs.on fun x hx y hy => of_ok hy (by have := eSzs_mem hx; have := hs.on; omega)
  split at h
  · cases h
  rename_i wh hwh
  have hwh' := okL_map hwh hs.where_ fun x hx y hy => of_ok hy (by have := eSzs_mem hx; have := hs.where_; omega)
  split at h
  · cases h
  split at h
  · split at h
    · cases h
    rename_i is his
    injection h with h; subst h
    simp only [insertE] at his
    split at his
    · cases his
    have hi := ins_ok his fun x hx => by have := eSzs_mem hx; have := hs.items; omega
    have := eSzs_len s.items
    have := hs.items
    exact ⟨by simp only; omega, hon', hwh', ⟨by simp only; omega, tsOk_of hi.2⟩, by simp, by simp, by simp, by simp, by simp⟩
  split at h
  · split at h
    · cases h
    rename_i is js his
    injection h with h; subst h
    have hi := upd_ok his hs.set
    have := hs.sets
    exact ⟨by simp only; omega, hon', hwh', ⟨by simp only at hi ⊢; omega, tsOk_of hi.2.2⟩, by simp only at hi ⊢; omega, by simp, by simp, by simp, by simp⟩
  split at h
  · split at h
    · cases h
    rename_i is g gs os his
    injection h with h; subst h
    obtain ⟨hi1, hi2, hi3⟩ := choose_ok his hs
    simp only at hi1 hi2 hi3
    have hi4 := hi1.1
    exact ⟨by simp only; omega, hon', hwh', hi1, by simp, by simp only; omega, by simp only; omega, by simp only; omega, by simp only [List.length_map]; omega⟩
  · injection h with h; subst h
    exact ⟨by simp only; omega, hon', hwh', n0, by simp, by simp, by simp, by simp, by simp⟩
theorem check_ok {c : Catalog} {ps : List S_api_Param} {s : Stmt} {t : Typed} (h : checkE c ps s = .ok t) (hs : s.Small) (h1 : s.sorts.length ≤ 1048576) (h2 : s.limit.length ≤ 1048576) : t.Ok := by
  simp only [checkE] at h
  split at h
  · split at h
    · exact stmt_okL h hs h1 h2
    · cases h
  · cases h
end Go.RX
namespace Go.RX
theorem sub1_size {a b x : ByteArray} {M : Nat} (h : x.size ≤ M) (hb : b.size ≤ M) : (sub1 a b x).size ≤ M := by
  unfold sub1; split <;> assumption
theorem renN_size {k : Int} {x : ByteArray} {M : Nat} (h : x.size ≤ M) (hM : 16 ≤ M) : (renN k x).size ≤ M := by
  unfold renN
  split
  · exact sub1_size h (Nat.le_trans (by decide) hM)
  split
  · exact sub1_size h (Nat.le_trans (by decide) hM)
  · exact h
theorem ren_FitsE {M : Nat} (hM : 16 ≤ M) : ∀ (d : Nat) (e : Expr), e.Fits M d → (renE e).Fits M d
  | 0, _, _ => trivial
  | d + 1, e, h => by
    obtain ⟨h1, h2, h3⟩ := h
    refine ⟨by rw [ren_name]; exact renN_size h1 hM, by rw [ren_table]; exact sub1_size h2 (Nat.le_trans (by decide) hM), fun x hx => ?_⟩
    rw [ren_kids, List.mem_map] at hx
    obtain ⟨y, hy, rfl⟩ := hx
    exact ren_FitsE hM d y (h3 y hy)
theorem ren_FitsL {M : Nat} (hM : 16 ≤ M) {l : List Expr} (h : ExprsFit M l) : ExprsFit M (l.map renE) :=
  ⟨by rw [List.length_map]; exact h.len, fun e he => by
    obtain ⟨y, hy, rfl⟩ := List.mem_map.1 he
    exact ren_FitsE hM 16 y (h.each y hy)⟩
theorem ren_FitsS {M : Nat} (hM : 16 ≤ M) {s : Stmt} (h : s.Fits M) : (renStmt s).Fits M :=
  ⟨sub1_size h.table (Nat.le_trans (by decide) hM), sub1_size h.join (Nat.le_trans (by decide) hM), ren_FitsL hM h.on, ren_FitsL hM h.where_, ren_FitsL hM h.items, ren_FitsL hM h.groups, by simp only [renStmt, List.length_map]; exact h.sets,
    fun x hx => by
      obtain ⟨y, hy, rfl⟩ := List.mem_map.1 hx
      exact ⟨sub1_size (h.set y hy).1 (Nat.le_trans (by decide) hM), ren_FitsE hM 16 _ (h.set y hy).2⟩, h.sorts, h.limit⟩
theorem ren_FitsC {M : Nat} {c : Catalog} (h : c.Fits M) : (renCat c).Fits M := fun t ht => by
  obtain ⟨y, hy, rfl⟩ := List.mem_map.1 ht
  exact ⟨(h y hy).key, (h y hy).idx⟩
theorem ren_FitsP {M : Nat} (hM : 16 ≤ M) {l : List S_api_Param} (h : ParsFit M l) : ParsFit M (l.map renPar) :=
  ⟨by rw [List.length_map]; exact h.len, fun x hx => by
    obtain ⟨y, hy, rfl⟩ := List.mem_map.1 hx
    exact sub1_size (h.name y hy) (Nat.le_trans (by decide) hM)⟩
structure ArgsSmall (c : Catalog) (ps : List S_api_Param) (s : Stmt) : Prop where
  tables : c.tables.length ≤ 1048576
  cols : ∀ t ∈ c.tables, t.columns.length ≤ 1048576
  params : ps.length ≤ 1048576
  stmt : s.Small
  sorts : s.sorts.length ≤ 1048576
  limit : s.limit.length ≤ 1048576
theorem free_cat {c : Catalog} (h : c.tables.all tabFreeB = true) : FreeCat c := fun t ht => by
  have := List.all_eq_true.1 h t ht
  simp only [tabFreeB, Bool.and_eq_true, List.all_eq_true, Bool.not_eq_true', decide_eq_false_iff_not] at this
  exact ⟨this.2, this.1⟩
theorem free_pars {ps : List S_api_Param} (h : (ps.all fun q => !decide (q.Name = oP)) = true) : FreePars ps := fun p hp => by
  have := List.all_eq_true.1 h p hp
  simpa using this
theorem free_all {l : List Expr} (h : l.all freeB = true) : ∀ e ∈ l, freeE e := fun e he => freeB_free e (List.all_eq_true.1 h e he)
theorem free_stmt {s : Stmt} (h : stmtFreeB s = true) : FreeStmt s := by
  simp only [stmtFreeB, Bool.and_eq_true, Bool.not_eq_true', decide_eq_false_iff_not] at h
  obtain ⟨⟨⟨⟨⟨⟨h1, h2⟩, h3⟩, h4⟩, h5⟩, h6⟩, h7⟩ := h
  refine ⟨h1, h2, free_all h3, free_all h4, free_all h5, free_all h6, fun x hx => ?_⟩
  have := List.all_eq_true.1 h7 x hx
  simp only [setFreeB, Bool.and_eq_true, Bool.not_eq_true', decide_eq_false_iff_not] at this
  exact ⟨this.2, freeB_free _ this.1⟩
theorem S_CheckRenames (M : Nat) (hM : M < 1152921504606846976) (h16 : 16 ≤ M) (c : Catalog) (hc : c.Fits M) (ps : List S_api_Param) (hp : ParsFit M ps) (s : Stmt) (hs : s.Fits M) (hA : ArgsSmall c ps s) (m : Bool) : ∃ k0, ∀ k, k0 ≤ k → ∀ K : Bool → Prop, K true → (TT k).f_law13_CheckRenames (sCatalog m c) (lst m (ps.map eParam)) (sStmt m s) K := by
  let z : Nat := match checkE c ps s with
    | .ok t => t.sz
    | .error _ => zTyped.sz
  refine ⟨M + z + 1049000, fun k hk K hK => ?_⟩
  obtain ⟨k, rfl⟩ : ∃ k', k = k' + 2 := ⟨k - 2, by omega⟩
  have hF : (TT (k + 2)).f_law13_CheckRenames (sCatalog m c) (lst m (ps.map eParam)) (sStmt m s) K = F_law13_CheckRenames (TT (k + 1)) (sCatalog m c) (lst m (ps.map eParam)) (sStmt m s) K := rfl
  rw [hF]
  have hw : ∀ K : Bool → Prop, (TT (k + 1)).f_law13_awake K = K true := fun _ => rfl
  have w1 : (⟨⟨false, (sCatalog m c).Tables.n, fun i => weakM ((sCatalog m c).Tables.g i)⟩, ⟨false, (sCatalog m c).Procs.n, fun i => weakM ((sCatalog m c).Procs.g i)⟩⟩ : S_api_Catalog) = sCatalog false c := by
    show (⟨⟨false, (lst m (c.tables.map (eTable m))).n, fun i => weakM ((lst m (c.tables.map (eTable m))).g i)⟩, ⟨false, (lst m (c.procs.map (eProc m))).n, fun i => weakM ((lst m (c.procs.map (eProc m))).g i)⟩⟩ : S_api_Catalog) = _
    rw [wk_lst (f' := eTable false) (fun y _ => wk_eTable m y), wk_lst (f' := eProc false) (fun y _ => wk_eProc m y)]; rfl
  have w2 : (⟨false, (lst m (ps.map eParam)).n, fun i => weakM ((lst m (ps.map eParam)).g i)⟩ : Arr) = lst false (ps.map eParam) := wk_lst (fun y _ => wk_eParam y)
  have wE : ∀ (mm : Bool) (l : List Expr), (⟨false, (lst mm (l.map (eExpr mm))).n, fun i => weakM ((lst mm (l.map (eExpr mm))).g i)⟩ : Arr) = lst false (l.map (eExpr false)) := fun mm l => wk_lst (fun y _ => wk_eExpr mm y)
  have wT : ∀ (mm : Bool) (l : List S_api_Sort), (⟨false, (lst mm (l.map eSort)).n, fun i => weakM ((lst mm (l.map eSort)).g i)⟩ : Arr) = lst false (l.map eSort) := fun mm l => wk_lst (fun y _ => wk_eSort y)
  have wI : ∀ (mm : Bool) (l : List Int), (⟨false, (lst mm (l.map eI)).n, fun i => weakM ((lst mm (l.map eI)).g i)⟩ : Arr) = lst false (l.map eI) := fun mm l => wk_lst (fun y _ => wk_eI y)
  have w3 : (⟨(sStmt m s).Kind, (sStmt m s).Table, (sStmt m s).Join, ⟨false, (sStmt m s).On.n, (fun i => weakM ((sStmt m s).On.g i))⟩, ⟨false, (sStmt m s).Where.n, (fun i => weakM ((sStmt m s).Where.g i))⟩, ⟨false, (sStmt m s).Items.n, (fun i => weakM ((sStmt m s).Items.g i))⟩, (sStmt m s).Star, ⟨false, (sStmt m s).Sets.n, (fun i => weakM ((sStmt m s).Sets.g i))⟩, ⟨false, (sStmt m s).Groups.n, (fun i => weakM ((sStmt m s).Groups.g i))⟩, ⟨false, (sStmt m s).Sorts.n, (fun i => weakM ((sStmt m s).Sorts.g i))⟩, ⟨false, (sStmt m s).Limit.n, (fun i => weakM ((sStmt m s).Limit.g i))⟩, (sStmt m s).At, (sStmt m s).JoinAt⟩ : S_api_Stmt) = sStmt false s := by
    simp only [sStmt, wE, wT, wI]
    rw [wk_lst (f' := eSet false) (fun y _ => wk_eSet m y)]
  have w4 : (⟨(sStmtR m s).Kind, (sStmtR m s).Table, (sStmtR m s).Join, ⟨false, (sStmtR m s).On.n, (fun i => weakM ((sStmtR m s).On.g i))⟩, ⟨false, (sStmtR m s).Where.n, (fun i => weakM ((sStmtR m s).Where.g i))⟩, ⟨false, (sStmtR m s).Items.n, (fun i => weakM ((sStmtR m s).Items.g i))⟩, (sStmtR m s).Star, ⟨false, (sStmtR m s).Sets.n, (fun i => weakM ((sStmtR m s).Sets.g i))⟩, ⟨false, (sStmtR m s).Groups.n, (fun i => weakM ((sStmtR m s).Groups.g i))⟩, ⟨false, (sStmtR m s).Sorts.n, (fun i => weakM ((sStmtR m s).Sorts.g i))⟩, ⟨false, (sStmtR m s).Limit.n, (fun i => weakM ((sStmtR m s).Limit.g i))⟩, (sStmtR m s).At, (sStmtR m s).JoinAt⟩ : S_api_Stmt) = sStmt false (renStmt s) := by
    simp only [sStmtR, sStmt, renStmt, wE, wT, wI]
    rw [wk_lst (f' := fun y => eSet false (renSet y)) (fun y _ => wk_eSet true _)]
    have e : s.sets.map (fun y => eSet false (renSet y)) = (s.sets.map renSet).map (eSet false) := by rw [List.map_map]; rfl
    rw [e]
  have w5 : (⟨false, (lst true (c.tables.map (eTabR m))).n, fun i => weakM ((lst true (c.tables.map (eTabR m))).g i)⟩ : Arr) = lst false ((renCat c).tables.map (eTable false)) := by
    rw [wk_lst (f' := fun t => eTable false (renTab t)) (fun y _ => wk_eTabR m y)]
    simp only [renCat, List.map_map]; rfl
  have w6 : (⟨false, (sCatalog m c).Procs.n, fun i => weakM ((sCatalog m c).Procs.g i)⟩ : Arr) = lst false ((renCat c).procs.map (eProc false)) := by
    show (⟨false, (lst m (c.procs.map (eProc m))).n, fun i => weakM ((lst m (c.procs.map (eProc m))).g i)⟩ : Arr) = _
    rw [wk_lst (f' := eProc false) (fun y _ => wk_eProc m y)]; rfl
  have w7 : (⟨false, (lst true (ps.map fun q => eParam (renPar q))).n, fun i => weakM ((lst true (ps.map fun q => eParam (renPar q))).g i)⟩ : Arr) = lst false ((ps.map renPar).map eParam) := by
    rw [wk_lst (f' := fun q => eParam (renPar q)) (fun y _ => wk_eParam _)]
    simp only [List.map_map]; rfl
  simp only [F_law13_CheckRenames, hw, w1, w2, w3]
  rw [S_check_Check (k + 1) M hM (by omega) false c hc ps hp s hs]
  have hf : (TT (k + 1)).fuel = k + 1 := rfl
  have key : ∀ (t : Typed) (x a : Int), t.sz + 5 < k + 1 → t.Ok → (∀ K' : S_api_Typed → S_api_Fault → Prop, tell (checkE c ps s) (fun t' => K' (sTyped true t') ⟨0, 0⟩) (fun x' a' => K' (sTyped true zTyped) ⟨x', a'⟩) = K' (sTyped true t) ⟨x, a⟩) →
      L_law13_CheckRenames_0 (TT (k + 1)) (TT (k + 1)).fuel (lst m (ps.map eParam)) true 0 (sCatalog m c) (sStmt m s) (sTyped true t) ⟨x, a⟩ (sCatalog m c).Procs []
       (fun b120 =>
       K b120)
       (fun a121 b122 x123 x124 x125 a126 r127 =>
       L_law13_CheckRenames_4 (TT (k + 1)) (TT (k + 1)).fuel a121 b122 0 x123 x124 x125 a126 r127 ([])
       (fun b166 =>
       K b166)
       (fun b167 x168 x169 x170 a171 r172 r173 =>
       (TT (k + 1)).f_law13_renamed x168
       (fun _x5 _b2 =>
       br (!_b2)
       (K b167)
       ((TT (k + 1)).f_check_Check ⟨⟨false, (lst true r172).n, (fun i => weakM (((lst true r172).g) i))⟩, ⟨false, a171.n, (fun i => weakM (a171.g i))⟩⟩ ⟨false, (lst true r173).n, (fun i => weakM (((lst true r173).g) i))⟩ ⟨_x5.Kind, _x5.Table, _x5.Join, ⟨false, _x5.On.n, (fun i => weakM (_x5.On.g i))⟩, ⟨false, _x5.Where.n, (fun i => weakM (_x5.Where.g i))⟩, ⟨false, _x5.Items.n, (fun i => weakM (_x5.Items.g i))⟩, _x5.Star, ⟨false, _x5.Sets.n, (fun i => weakM (_x5.Sets.g i))⟩, ⟨false, _x5.Groups.n, (fun i => weakM (_x5.Groups.g i))⟩, ⟨false, _x5.Sorts.n, (fun i => weakM (_x5.Sorts.g i))⟩, ⟨false, _x5.Limit.n, (fun i => weakM (_x5.Limit.g i))⟩, _x5.At, _x5.JoinAt⟩
       (fun _x6 _x7 =>
       (TT (k + 1)).f_law13_same x169 _x6
       (fun _b3 =>
       br b167
       (br _b3
       (K ((x170.Code == _x7.Code) && (x170.At == _x7.At)))
       (K false))
       (K false))))))) := by
    intro t x a ht hok hT
    rw [hf]
    have l0 := fun (K1 : Arr → Bool → S_api_Stmt → S_api_Typed → S_api_Fault → Arr → (List PV) → Prop) => law0 (k + 1) m true (lst m (ps.map eParam)) (lst m (c.procs.map (eProc m))) (sStmt m s) (sTyped true t) ⟨x, a⟩ (lst m (c.procs.map (eProc m))) (fun b120 => K b120) K1 c.tables [] (k + 1) (fun t ht => ⟨by have := hA.cols t ht; omega, hA.cols t ht⟩) (by have := hA.tables; omega) (by have := hA.tables; simp; omega)
    have l4 := fun (r1 : List PV) (K1 : Bool → S_api_Stmt → S_api_Typed → S_api_Fault → Arr → (List PV) → (List PV) → Prop) => law4 (k + 1) m true (sStmt m s) (sTyped true t) ⟨x, a⟩ (lst m (c.procs.map (eProc m))) r1 (fun b120 => K b120) K1 ps [] (k + 1) (by have := hA.params; omega) (by have := hA.params; simp; omega)
    have z0 : ((0 : Nat) : Int) = 0 := rfl
    simp only [List.map_nil, List.length_nil, List.nil_append, z0] at l0 l4
    have e0 : sCatalog m c = ⟨lst m (c.tables.map (eTable m)), lst m (c.procs.map (eProc m))⟩ := rfl
    have e0' : (sCatalog m c).Procs = lst m (c.procs.map (eProc m)) := rfl
    rw [e0', e0, l0]
    cases hfc : c.tables.all tabFreeB with
    | false => exact hK
    | true =>
      rw [br_t, l4]
      cases hfp : ps.all (fun q => !decide (q.Name = oP)) with
      | false => exact hK
      | true =>
        rw [br_t]
        refine S_renamed (k + 1) (by omega) m s hA.stmt _ (fun _ => hK) fun hfs => ?_
        rw [Bool.not_true, br_f, w4, w5, ← e0', w6, w7]
        have := S_check_Check (k + 1) M hM (by omega) false (renCat c) (ren_FitsC hc) (ps.map renPar) (ren_FitsP h16 hp) (renStmt s) (ren_FitsS h16 hs)
        have e1 : sCatalog false (renCat c) = ⟨lst false ((renCat c).tables.map (eTable false)), lst false ((renCat c).procs.map (eProc false))⟩ := rfl
        rw [e1] at this
        rw [this, ren_checkE (free_cat hfc) (free_pars hfp) (free_stmt hfs)]
        refine Eq.mpr (hT fun X Y => (TT (k + 1)).f_law13_same (sTyped true t) X fun b3 => br true (br b3 (K ((x == Y.Code) && (a == Y.At))) (K false)) (K false)) ?_
        show (TT (k + 1)).f_law13_same _ _ _
        rw [S_same true true (k + 1) t ht hok]
        simp only [br_t, beq_self_eq_true, Bool.and_self]
        exact hK
  cases hE : checkE c ps s with
  | ok t =>
    have hz : z = t.sz := by simp only [z, hE]
    exact key t 0 0 (by omega) (check_ok hE hA.stmt hA.sorts hA.limit) (fun K' => by rw [hE]; rfl)
  | error f =>
    have hz : z = zTyped.sz := by simp only [z, hE]
    have n0 : ([] : List Term).length ≤ 9223372036854775807 ∧ tsOk [] := ⟨by simp, by rw [tsOk]; trivial⟩
    exact key zTyped f.1 f.2 (by omega) ⟨by simp [zTyped], n0, n0, n0, by simp [zTyped], by simp [zTyped], by simp [zTyped], by simp [zTyped], by simp [zTyped]⟩ (fun K' => by rw [hE]; rfl)
end Go.RX
