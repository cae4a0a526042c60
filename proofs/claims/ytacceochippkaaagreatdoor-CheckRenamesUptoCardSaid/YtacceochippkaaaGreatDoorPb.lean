/- The law in plain Lean, with no program in sight. No condition. -/
import Derived.Test.YtacceochippkaaaGreatDoorPa
set_option linter.all false
namespace Go.RX
theorem noB_dec (s : ByteArray) : (s.toList == (ByteArray.mk #[]).toList) = decide (s = noB) := strEq s noB
def noVal (vk vi : Int) (vt : ByteArray) : Bool := decide (vk = 0) && decide (vi = 0) && decide (vt = noB)
def valOK (vk vi : Int) (vt : ByteArray) : Bool :=
  (decide (vk = 0) && decide (vi = 0) && decide (vt = noB)) || (decide (vk = 1) && decide (-4611686018427387904 ≤ vi) && decide (vi ≤ 4611686018427387904) && decide (vt = noB)) ||
  (decide (vk = 2) && decide (0 ≤ vi) && decide (vi ≤ 1) && decide (vt = noB)) || (decide (vk = 3) && decide (vi = 0) && decide (vt.size ≤ 64))
theorem beq_dec (a b : Int) : (a == b) = decide (a = b) := by
  by_cases h : a = b <;> simp [h]
theorem bne_dec (a b : Int) : (a != b) = !decide (a = b) := by
  rw [bne, beq_dec]
theorem noVal_dec (vk vi : Int) (vt : ByteArray) : (decide (vk = 0) && (decide (vi = 0) && decide (vt = noB))) = noVal vk vi vt := by rw [noVal, Bool.and_assoc]
theorem noVal_eq (vk vi : Int) (vt : ByteArray) : ((vk == 0) && ((vi == 0) && (vt.toList == (ByteArray.mk #[]).toList))) = noVal vk vi vt := by
  rw [noB_dec, beq_dec, beq_dec, noVal, Bool.and_assoc]
theorem fdiv1 (n : Int) : Int.fdiv n (2 ^ (min (1 : Int).toNat (IntKind.bits .i64))) = n / 2 := by
  have : (2 : Int) ^ (min (1 : Int).toNat (IntKind.bits .i64)) = 2 := by decide
  rw [this, Int.fdiv_eq_ediv_of_nonneg n (by decide : (0 : Int) ≤ 2)]
theorem S_value_Right (k : Nat) (hk : 1 ≤ k) (vk vi : Int) (vt : ByteArray) (K : Bool → Prop) : (TT k).f_value_Right ⟨vk, vi, vt⟩ K = K (valOK vk vi vt) := by
  obtain ⟨k, rfl⟩ : ∃ k', k = k' + 1 := ⟨k - 1, by omega⟩
  show F_value_Right (TT k) ⟨vk, vi, vt⟩ K = _
  have a1 : decide (vi ≥ -4611686018427387904) = decide (-4611686018427387904 ≤ vi) := rfl
  have a2 : decide (vi / 2 = 0) = (decide (0 ≤ vi) && decide (vi ≤ 1)) := by
    rw [Bool.eq_iff_iff]; simp only [decide_eq_true_eq, Bool.and_eq_true]; omega
  have a3 : decide ((vt.size : Int) ≤ 64) = decide (vt.size ≤ 64) := decide_eq_decide.2 (by omega)
  have a0 : (0 : Int) ≤ 1 := by decide
  simp only [F_value_Right, noB_dec, beq_dec, fdiv1, a0, true_and, a2, a3, a1, br_K, valOK]
  by_cases h0 : vk = 0
  · subst h0; simp
  by_cases h1 : vk = 1
  · subst h1; cases decide (-4611686018427387904 ≤ vi) <;> cases decide (vi ≤ 4611686018427387904) <;> simp
  by_cases h2 : vk = 2
  · subst h2; cases decide (0 ≤ vi) <;> cases decide (vi ≤ 1) <;> simp
  by_cases h3 : vk = 3
  · subst h3; cases decide (vi = 0) <;> simp
  simp [h0, h1, h2, h3]
def fieldsOK (e : Expr) : Bool :=
  bif decide (e.kind = 1) then decide (e.name = noB) && decide (e.table = noB) && valOK e.vkind e.vint e.vtext && (!decide (e.vkind = 1) || decide (0 ≤ e.vint))
  else bif decide (e.kind = 2) then isName e.name && decide (e.table = noB) && noVal e.vkind e.vint e.vtext
  else bif decide (e.kind = 3) then isName e.name && (decide (e.table = noB) || isName e.table) && noVal e.vkind e.vint e.vtext
  else decide (e.name = noB) && decide (e.table = noB) && noVal e.vkind e.vint e.vtext
def opOK (e : Expr) : Bool :=
  bif decide (e.kind = 5) then decide (1 ≤ e.op) && decide (e.op ≤ 5) else bif decide (e.kind = 6) then decide (1 ≤ e.op) && decide (e.op ≤ 6)
  else bif decide (e.kind = 7) then decide (0 ≤ e.op) && decide (e.op ≤ 1) else decide (e.op = 0)
def kidsOK (e : Expr) : Bool :=
  bif decide (1 ≤ e.kind) && decide (e.kind ≤ 3) then decide (e.kids.length = 0) else bif decide (e.kind = 4) || decide (e.kind = 7) || decide (e.kind = 8) then decide (e.kids.length = 1)
  else bif decide (e.kind = 5) || decide (e.kind = 6) then decide (e.kids.length = 2) else bif decide (e.kind = 9) || decide (e.kind = 10) then decide (2 ≤ e.kids.length) && decide (e.kids.length ≤ 8) else false
def Expr.Fits (M : Nat) : Nat → Expr → Prop
  | 0, _ => True
  | d + 1, e => e.name.size ≤ M ∧ e.table.size ≤ M ∧ ∀ x ∈ e.kids, Expr.Fits M d x
def rightE : Nat → Expr → Bool
  | 0, _ => false
  | d + 1, e => kidsOK e && opOK e && fieldsOK e && e.kids.all (rightE d)
theorem S_syntax_fields (k M : Nat) (hM : M < 4611686018427387904) (hk : M + 30 ≤ k) (m : Bool) (e : Expr) (h1 : e.name.size ≤ M) (h2 : e.table.size ≤ M) (K : Bool → Prop) : (TT k).f_syntax_fields (sExpr m e) K = K (fieldsOK e) := by
  obtain ⟨k, rfl⟩ : ∃ k', k = k' + 1 := ⟨k - 1, by omega⟩
  show F_syntax_fields (TT k) (sExpr m e) K = _
  have a1 : decide (e.vint ≥ 0) = decide (0 ≤ e.vint) := rfl
  dsimp only [F_syntax_fields, sExpr]
  simp only [noB_dec, beq_dec, bne_dec, noVal_dec, S_value_Right k (by omega), S_lex_IsName k e.name (by omega) (by omega), S_lex_IsName k e.table (by omega) (by omega), a1, br_K, fieldsOK]
  congr 1
  cases decide (e.kind = 1) <;> cases decide (e.kind = 2) <;> cases decide (e.kind = 3) <;> cases decide (e.name = noB) <;> cases decide (e.table = noB) <;> cases isName e.name <;> cases isName e.table <;> cases valOK e.vkind e.vint e.vtext <;> cases decide (e.vkind = 1) <;> rfl
theorem lt_dec (a b : Int) : decide (a < b) = !decide (b ≤ a) := by rw [← decide_not]; exact decide_eq_decide.2 (by omega)
theorem gt_dec (a b : Int) : decide (a > b) = !decide (a ≤ b) := by rw [← decide_not]; exact decide_eq_decide.2 (by omega)
theorem kids_AB (e : Expr) : kidsOK e = (!decide ((e.kids.length : Int) < (bif decide (1 ≤ e.kind) && decide (e.kind ≤ 3) then 0 else bif decide (e.kind = 4) || decide (e.kind = 7) || decide (e.kind = 8) then 1 else bif decide (e.kind = 5) || decide (e.kind = 6) then 2 else bif decide (e.kind = 9) || decide (e.kind = 10) then 2 else 0)) && !decide ((e.kids.length : Int) > (bif decide (1 ≤ e.kind) && decide (e.kind ≤ 3) then 0 else bif decide (e.kind = 4) || decide (e.kind = 7) || decide (e.kind = 8) then 1 else bif decide (e.kind = 5) || decide (e.kind = 6) then 2 else bif decide (e.kind = 9) || decide (e.kind = 10) then 8 else -1))) := by
  simp only [kidsOK]
  cases decide (1 ≤ e.kind) && decide (e.kind ≤ 3)
  · cases decide (e.kind = 4) || decide (e.kind = 7) || decide (e.kind = 8)
    · cases decide (e.kind = 5) || decide (e.kind = 6)
      · cases decide (e.kind = 9) || decide (e.kind = 10)
        · rw [Bool.eq_iff_iff]; simp; omega
        · rw [Bool.eq_iff_iff]; simp; omega
      · rw [Bool.eq_iff_iff]; simp; omega
    · rw [Bool.eq_iff_iff]; simp; omega
  · rw [Bool.eq_iff_iff]; simp
theorem S_syntax_shape (k : Nat) (hk : 1 ≤ k) (n : Int) (K : Int → Int → Int → Int → Prop) : ∃ a b c d, (TT k).f_syntax_shape n K = K a b c d ∧ ∀ e : Expr, e.kind = n → kidsOK e = (!decide ((e.kids.length : Int) < a) && !decide ((e.kids.length : Int) > b)) ∧ opOK e = (!decide (e.op < c) && !decide (e.op > d)) := by
  obtain ⟨k, rfl⟩ : ∃ k', k = k' + 1 := ⟨k - 1, by omega⟩
  refine ⟨bif decide (1 ≤ n) && decide (n ≤ 3) then 0 else bif decide (n = 4) || decide (n = 7) || decide (n = 8) then 1 else bif decide (n = 5) || decide (n = 6) then 2 else bif decide (n = 9) || decide (n = 10) then 2 else 0, bif decide (1 ≤ n) && decide (n ≤ 3) then 0 else bif decide (n = 4) || decide (n = 7) || decide (n = 8) then 1 else bif decide (n = 5) || decide (n = 6) then 2 else bif decide (n = 9) || decide (n = 10) then 8 else -1, bif decide (n = 5) || decide (n = 6) then 1 else 0, bif decide (n = 5) then 5 else bif decide (n = 6) then 6 else bif decide (n = 7) then 1 else 0, ?_, fun e he => ⟨he ▸ kids_AB e, ?_⟩⟩
  · have e2 : (TT (k + 1)).f_syntax_shape = F_syntax_shape (TT k) := rfl
    rw [e2]
    simp only [F_syntax_shape, beq_dec]
    have a0 : (decide (1 ≤ n) && decide (n ≤ 3)) = (decide (n = 1) || decide (n = 2) || decide (n = 3)) := by
      rw [Bool.eq_iff_iff]; simp only [decide_eq_true_eq, Bool.and_eq_true, Bool.or_eq_true]; omega
    rw [a0]
    by_cases k1 : n = 1
    · simp [k1]
    by_cases k2 : n = 2
    · simp [k2]
    by_cases k3 : n = 3
    · simp [k3]
    by_cases k4 : n = 4
    · simp [k4]
    by_cases k5 : n = 5
    · simp [k5]
    by_cases k6 : n = 6
    · simp [k6]
    by_cases k7 : n = 7
    · simp [k7]
    by_cases k8 : n = 8
    · simp [k8]
    by_cases k9 : n = 9
    · simp [k9]
    by_cases k10 : n = 10
    · simp [k10]
    simp [k1, k2, k3, k4, k5, k6, k7, k8, k9, k10]
  · subst he
    simp only [opOK]
    by_cases k5 : e.kind = 5
    · simp only [k5]; rw [Bool.eq_iff_iff]; simp
    by_cases k6 : e.kind = 6
    · simp only [k6]; rw [Bool.eq_iff_iff]; simp
    by_cases k7 : e.kind = 7
    · simp only [k7]; rw [Bool.eq_iff_iff]; simp
    simp only [decide_eq_false k5, decide_eq_false k6, decide_eq_false k7]
    rw [Bool.eq_iff_iff]; simp; omega
end Go.RX
namespace Go.RX
theorem W_lit {n : Int} (h1 : -9223372036854775808 ≤ n) (h2 : n < 9223372036854775808) : W n = n := W_id h1 h2
theorem len_gt (n m : Nat) : decide (((n : Nat) : Int) > (m : Nat)) = !decide (n ≤ m) := by rw [← decide_not]; exact decide_eq_decide.2 (by omega)
theorem len_le (n m : Nat) : decide (((n : Nat) : Int) ≤ (m : Nat)) = decide (n ≤ m) := decide_eq_decide.2 (by omega)
theorem len_ge (n m : Nat) : decide (((n : Nat) : Int) ≥ (m : Nat)) = decide (m ≤ n) := decide_eq_decide.2 (by omega)
theorem len_lt (n m : Nat) : decide (((n : Nat) : Int) < (m : Nat)) = !decide (m ≤ n) := by rw [← decide_not]; exact decide_eq_decide.2 (by omega)
theorem len_eq (n m : Nat) : (((n : Nat) : Int) == (m : Nat)) = decide (n = m) := by rw [beq_dec]; exact decide_eq_decide.2 (by omega)
theorem kidsOK_le {e : Expr} (h3 : kidsOK e = true) : e.kids.length ≤ 8 := by
  simp only [kidsOK] at h3
  revert h3
  cases decide (1 ≤ e.kind) && decide (e.kind ≤ 3)
  · cases decide (e.kind = 4) || decide (e.kind = 7) || decide (e.kind = 8)
    · cases decide (e.kind = 5) || decide (e.kind = 6)
      · cases decide (e.kind = 9) || decide (e.kind = 10)
        · intro h; cases h
        · simp only [cond_true, cond_false, decide_eq_true_eq, Bool.and_eq_true]; omega
      · simp only [cond_true, cond_false, decide_eq_true_eq]; omega
    · simp only [cond_true, cond_false, decide_eq_true_eq]; omega
  · simp only [cond_true, decide_eq_true_eq]; omega
theorem S_syntax_rightExpr (M : Nat) (hM : M < 4611686018427387904) (m : Bool) : ∀ (d : Nat) (k : Nat) (e : Expr), e.Fits M d → d ≤ 17 → 4 * d + M + 50 ≤ k → ∀ (n : Int), n = 17 - d → ∀ K : Bool → Prop, (TT k).f_syntax_rightExpr (sExpr m e) n K = K (rightE d e)
  | 0, k, e, _, _, hk, n, hn, K => by
    obtain ⟨k, rfl⟩ : ∃ k', k = k' + 1 := ⟨k - 1, by omega⟩
    show F_syntax_rightExpr (TT k) (sExpr m e) n K = _
    obtain ⟨a, b, c, d, h1, h2⟩ := S_syntax_shape k (by omega) (sExpr m e).Kind fun _n2 _n3 _n4 _n5 => K false
    have hd : decide (n > 16) = true := decide_eq_true (by omega)
    simp only [F_syntax_rightExpr, hd, br_t]
    rw [h1]
    rfl
  | d + 1, k, e, hf, hd, hk, n, hn, K => by
    obtain ⟨k, rfl⟩ : ∃ k', k = k' + 5 := ⟨k - 5, by omega⟩
    show F_syntax_rightExpr (TT (k + 4)) (sExpr m e) n K = _
    obtain ⟨hf1, hf2, hf3⟩ := hf
    have hk1 : decide (n > 16) = false := decide_eq_false (by omega)
    have hkids : (sExpr m e).Kids = lst m (e.kids.map (eExpr m)) := rfl
    have hop : (sExpr m e).Op = e.op := rfl
    have hkind : (sExpr m e).Kind = e.kind := rfl
    have hloop : e.kids.length ≤ 8 → ∀ K : Bool → Int → Prop, (TT (k + 4)).f_slices_ContainsFunc_api_Expr_api_Expr_v1 (lst m (e.kids.map (eExpr m))) n K = K (!e.kids.all (rightE d)) n := by
      intro h8 K
      have e1 : (TT (k + 4)).f_slices_ContainsFunc_api_Expr_api_Expr_v1 (lst m (e.kids.map (eExpr m))) n K = L_slices_IndexFunc_api_Expr_api_Expr_v1_0 (TT (k + 2)) (k + 2) (lst m (e.kids.map (eExpr m))) (((lst m (e.kids.map (eExpr m))).n : Nat) : Int) 0 n (fun n2 n3 => K (decide (n2 ≥ 0)) n3) (fun n3 => K (decide ((-1 : Int) ≥ 0)) n3) := rfl
      rw [e1, idx_find0 (L := fun q i => L_slices_IndexFunc_api_Expr_api_Expr_v1_0 (TT (k + 2)) q (lst m (e.kids.map (eExpr m))) (((lst m (e.kids.map (eExpr m))).n : Nat) : Int) i n (fun n2 n3 => K (decide (n2 ≥ 0)) n3) (fun n3 => K (decide ((-1 : Int) ≥ 0)) n3)) (m := e.kids.length) (F := fun i => K (decide (i ≥ 0)) n) (p := fun i => !rightE d (e.kids.getD i e)) (fun q => ?_) (fun q i hi => ?_) (by omega)]
      · rw [idxOf_nonneg, findN_isSome]
        congr 2
        rw [allN_list (q := rightE d) fun j hj => by simp [List.getD, hj]]
      · simp [L_slices_IndexFunc_api_Expr_api_Expr_v1_0, B_slices_IndexFunc_api_Expr_api_Expr_v1_0]
      · simp only [L_slices_IndexFunc_api_Expr_api_Expr_v1_0, B_slices_IndexFunc_api_Expr_api_Expr_v1_0]
        rw [W_succ (by omega)]
        have eg : e.kids.getD i e = e.kids[i] := by simp [List.getD, hi]
        have e2 : ∀ x K, (TT (k + 2)).f_syntax_rightExpr_1 x n K = (TT (k + 1)).f_syntax_rightExpr x (W (n + 1)) (fun b => K (!b) n) := fun x K => rfl
        simp only [Int.toNat_natCast, lst_map_g hi, as_Expr, lst_n, List.length_map, Int.ofNat_lt, hi, Int.natCast_nonneg, true_and, decide_true, br_t, eg, e2]
        rw [S_syntax_rightExpr M hM m d (k + 1) e.kids[i] (hf3 _ (List.getElem_mem hi)) (by omega) (by omega) (W (n + 1)) (by rw [W_lit] <;> omega)]
    obtain ⟨a, b, c, d', h1, h2⟩ := S_syntax_shape (k + 4) (by omega) (sExpr m e).Kind fun _n2 _n3 _n4 _n5 =>
       (br (decide (((sExpr m e).Kids.n : Int) < _n2)) (K false) (br (decide (((sExpr m e).Kids.n : Int) > _n3)) (K false) (br (decide ((sExpr m e).Op < _n4)) (K false) (br (decide ((sExpr m e).Op > _n5)) (K false) (br (!fieldsOK e) (K false) ((TT (k + 4)).f_slices_ContainsFunc_api_Expr_api_Expr_v1 (sExpr m e).Kids n fun b2 _ => K (!b2)))))))
    obtain ⟨h3, h4⟩ := h2 e rfl
    simp only [F_syntax_rightExpr, hk1, br_f, S_syntax_fields (k + 4) M hM (by omega) m e hf1 hf2]
    rw [h1]
    simp only [hkids, hop, lst_n, List.length_map, rightE, h3, h4]
    cases q1 : decide ((e.kids.length : Int) < a)
    · cases q2 : decide ((e.kids.length : Int) > b)
      · have h8 : e.kids.length ≤ 8 := kidsOK_le (by rw [h3, q1, q2]; rfl)
        rw [hloop h8]
        cases decide (e.op < c) <;> cases decide (e.op > d') <;> cases fieldsOK e <;> simp
      · simp
    · simp
end Go.RX
namespace Go.RX
def itemOK (e : Expr) : Bool :=
  bif decide (11 ≤ e.kind) && decide (e.kind ≤ 14) then decide (e.op = 0) && fieldsOK e && (bif decide (e.kind = 11) then decide (e.kids.length = 0) else match e.kids with | [x] => rightE 15 x | _ => false)
  else rightE 16 e
def bigM : Int := 4611686018427387904
def sortOK (x : S_api_Sort) : Bool := within x.Item bigM
def groupOK (e : Expr) : Bool := decide (e.kind = 3) && rightE 16 e
def setOK (x : Set_) : Bool := isName x.name && rightE 16 x.expr
def joinOK (s : Stmt) : Bool := (decide (s.join = noB) && decide (s.on.length = 0)) || (isName s.join && decide (s.on.length = 1))
def selOK (s : Stmt) : Bool := s.items.all itemOK && s.groups.all groupOK && s.sorts.all sortOK && s.limit.all (within · bigM) && s.on.all (rightE 16) && joinOK s && (s.star == decide (s.items.length = 0)) &&
  decide (s.items.length ≤ 8) && decide (s.groups.length ≤ 8) && decide (s.sorts.length ≤ 8) && decide (s.limit.length ≤ 1) && decide (s.sets.length = 0)
def restOK (s : Stmt) : Bool := decide (s.join = noB) && !s.star && decide (s.on.length = 0) && decide (s.groups.length = 0) && decide (s.sorts.length = 0) && decide (s.limit.length = 0) && s.items.all (rightE 16) && s.sets.all setOK &&
  ((decide (s.kind = 1) && decide (1 ≤ s.items.length) && decide (s.items.length ≤ 16) && decide (s.sets.length = 0) && decide (s.where_.length = 0)) ||
   (decide (s.kind = 2) && decide (s.items.length = 0) && decide (1 ≤ s.sets.length) && decide (s.sets.length ≤ 16)) ||
   (decide (s.kind = 3) && decide (s.items.length = 0) && decide (s.sets.length = 0)))
def rightStmt (s : Stmt) : Bool := isName s.table && decide (s.where_.length ≤ 1) && s.where_.all (rightE 16) && (bif decide (s.kind = 4) then selOK s else restOK s)
structure ExprsFit (M : Nat) (l : List Expr) : Prop where
  len : l.length ≤ M
  each : ∀ e ∈ l, e.Fits M 16
structure Stmt.Fits (M : Nat) (s : Stmt) : Prop where
  table : s.table.size ≤ M
  join : s.join.size ≤ M
  on : ExprsFit M s.on
  where_ : ExprsFit M s.where_
  items : ExprsFit M s.items
  groups : ExprsFit M s.groups
  sets : s.sets.length ≤ M
  set : ∀ x ∈ s.sets, x.name.size ≤ M ∧ x.expr.Fits M 16
  sorts : s.sorts.length ≤ M
  limit : s.limit.length ≤ M
theorem S_syntax_rights (M k : Nat) (hM : M < 1152921504606846976) (hk : M + 130 ≤ k) (m : Bool) (l : List Expr) (hl : ExprsFit M l) (K : Bool → Prop) : (TT k).f_syntax_rights (lst m (l.map (eExpr m))) K = K (l.all (rightE 16)) := by
  obtain ⟨k, rfl⟩ : ∃ k', k = k' + 4 := ⟨k - 4, by omega⟩
  have hlen := hl.len
  have e1 : (TT (k + 4)).f_syntax_rights (lst m (l.map (eExpr m))) K = L_slices_IndexFunc_api_Expr_api_Expr_0 (TT (k + 1)) (k + 1) (lst m (l.map (eExpr m))) (((lst m (l.map (eExpr m))).n : Nat) : Int) 0 (fun n2 => K (!decide (n2 ≥ 0))) (K (!decide ((-1 : Int) ≥ 0))) := rfl
  rw [e1, idx_find0 (L := fun q i => L_slices_IndexFunc_api_Expr_api_Expr_0 (TT (k + 1)) q (lst m (l.map (eExpr m))) (((lst m (l.map (eExpr m))).n : Nat) : Int) i (fun n2 => K (!decide (n2 ≥ 0))) (K (!decide ((-1 : Int) ≥ 0)))) (m := l.length) (F := fun i => K (!decide (i ≥ 0))) (p := fun i => !rightE 16 (l.getD i (Expr.mk 0 0 0 0 noB noB noB [] 0))) (fun q => ?_) (fun q i hi => ?_) (by omega)]
  · rw [idxOf_nonneg, findN_isSome]
    simp only [Bool.not_not]
    rw [allN_list (q := rightE 16) fun j hj => by simp [List.getD, hj]]
  · simp [L_slices_IndexFunc_api_Expr_api_Expr_0, B_slices_IndexFunc_api_Expr_api_Expr_0]
  · simp only [L_slices_IndexFunc_api_Expr_api_Expr_0, B_slices_IndexFunc_api_Expr_api_Expr_0]
    rw [W_succ (by omega)]
    have eg : l.getD i (Expr.mk 0 0 0 0 noB noB noB [] 0) = l[i] := by simp [List.getD, hi]
    obtain ⟨k, rfl⟩ : ∃ k', k = k' + 1 := ⟨k - 1, by omega⟩
    have e2 : ∀ x K, (TT (k + 1 + 1)).f_syntax_rights_1 x K = (TT (k + 1)).f_syntax_rightExpr x 1 (fun b => K (!b)) := fun x K => rfl
    simp only [Int.toNat_natCast, lst_map_g hi, as_Expr, lst_n, List.length_map, Int.ofNat_lt, hi, Int.natCast_nonneg, true_and, decide_true, br_t, eg, e2]
    rw [S_syntax_rightExpr M (by omega) m 16 (k + 1) l[i] (hl.each _ (List.getElem_mem hi)) (by omega) (by omega) 1 (by omega)]
theorem fieldsOK_agg {e : Expr} (h : (decide (11 ≤ e.kind) && decide (e.kind ≤ 14)) = true) : fieldsOK e = (decide (e.name = noB) && decide (e.table = noB) && noVal e.vkind e.vint e.vtext) := by
  simp only [Bool.and_eq_true, decide_eq_true_eq] at h
  have h1 : ¬ e.kind = 1 := by omega
  have h2 : ¬ e.kind = 2 := by omega
  have h3 : ¬ e.kind = 3 := by omega
  simp only [fieldsOK, decide_eq_false h1, decide_eq_false h2, decide_eq_false h3, cond_false]
theorem S_syntax_rightItem (M k : Nat) (hM : M < 1152921504606846976) (hk : M + 140 ≤ k) (m : Bool) (e : Expr) (he : e.Fits M 16) (K : Bool → Prop) : (TT k).f_syntax_rightItem (sExpr m e) K = K (itemOK e) := by
  obtain ⟨k, rfl⟩ : ∃ k', k = k' + 1 := ⟨k - 1, by omega⟩
  show F_syntax_rightItem (TT k) (sExpr m e) K = _
  have hkids : (sExpr m e).Kids = lst m (e.kids.map (eExpr m)) := rfl
  have hop : (sExpr m e).Op = e.op := rfl
  have hkind : (sExpr m e).Kind = e.kind := rfl
  obtain ⟨hf1, hf2, hf3⟩ := he
  simp only [F_syntax_rightItem, hkids, hop, hkind, lst_n, List.length_map, S_syntax_fields k M (by omega) (by omega) m e hf1 hf2, S_syntax_rightExpr M (by omega) m 16 k e ⟨hf1, hf2, hf3⟩ (by omega) (by omega) 1 (by omega)]
  have one : ∀ X : Prop, br ((((e.kids.length : Nat) : Int)) == 1) (br (e.op == 0) (br (fieldsOK e) (0 ≤ (0 : Int) ∧ (0 : Int) < ((e.kids.length : Nat) : Int) ∧ as_api_Expr ((lst m (e.kids.map (eExpr m))).g 0) fun x => (TT k).f_syntax_rightExpr x 2 fun b => K b) (K false)) (K false)) (K false) = K (decide (e.op = 0) && fieldsOK e && match e.kids with | [x] => rightE 15 x | _ => false) := by
    intro _
    match hq : e.kids with
    | [] => simp
    | [x] =>
      have hx : x.Fits M 15 := hf3 x (by rw [hq]; exact .head _)
      have hg : (lst m ([x].map (eExpr m))).g 0 = eExpr m x := rfl
      have h01 : (0 : Int) < 1 := by decide
      simp only [beq_dec, hg, as_Expr, S_syntax_rightExpr M (by omega) m 15 k x hx (by omega) (by omega) 2 (by omega)]
      cases decide (e.op = 0) <;> cases fieldsOK e <;> simp
    | x :: y :: r =>
      have : ((((x :: y :: r).length : Nat) : Int) == 1) = false := by rw [beq_dec]; simp; omega
      rw [this]
      simp
  simp only [one True]
  simp only [itemOK, beq_dec]
  by_cases k1 : e.kind = 11
  · simp only [k1]
    have e0 : decide (((e.kids.length : Nat) : Int) = 0) = decide (e.kids.length = 0) := decide_eq_decide.2 (by omega)
    rw [e0]
    cases decide (e.kids.length = 0) <;> cases decide (e.op = 0) <;> cases fieldsOK e <;> simp
  by_cases k2 : e.kind = 12
  · simp [k2]
  by_cases k3 : e.kind = 13
  · simp [k3]
  by_cases k4 : e.kind = 14
  · simp [k4]
  have : (decide (11 ≤ e.kind) && decide (e.kind ≤ 14)) = false := by
    rw [Bool.eq_false_iff]; simp only [ne_eq, Bool.and_eq_true, decide_eq_true_eq]; omega
  simp [k1, k2, k3, k4, this]
end Go.RX
namespace Go.RX
theorem S_within (k : Nat) (hk : 1 ≤ k) (n : Int) (K : Bool → Prop) : (TT k).f_syntax_within n K = K (within n bigM) := by
  obtain ⟨k, rfl⟩ : ∃ k', k = k' + 1 := ⟨k - 1, by omega⟩
  show F_syntax_within (TT k) n K = _
  simp only [F_syntax_within, within, bigM, br_K]
  have : decide (n ≥ 0) = decide (0 ≤ n) := rfl
  rw [this]
  cases decide (0 ≤ n) <;> rfl
theorem S_limits (k : Nat) (m : Bool) (l : List Int) (hl : l.length < 4611686018427387904) (hk : l.length + 10 ≤ k) (K : Bool → Prop) : (TT k).f_slices_ContainsFunc_int_int (lst m (l.map eI)) K = K (!l.all (within · bigM)) := by
  obtain ⟨k, rfl⟩ : ∃ k', k = k' + 3 := ⟨k - 3, by omega⟩
  have e1 : (TT (k + 3)).f_slices_ContainsFunc_int_int (lst m (l.map eI)) K = L_slices_IndexFunc_int_int_0 (TT (k + 1)) (k + 1) (lst m (l.map eI)) (((lst m (l.map eI)).n : Nat) : Int) 0 (fun n => K (decide (n ≥ 0))) (K (decide ((-1 : Int) ≥ 0))) := rfl
  rw [e1, idx_find0 (L := fun n i => L_slices_IndexFunc_int_int_0 (TT (k + 1)) n (lst m (l.map eI)) (((lst m (l.map eI)).n : Nat) : Int) i (fun n => K (decide (n ≥ 0))) (K (decide ((-1 : Int) ≥ 0)))) (m := l.length) (F := fun n => K (decide (n ≥ 0))) (p := fun i => !within (l.getD i 0) bigM) (fun n => ?_) (fun n i hi => ?_) (by omega)]
  · rw [idxOf_nonneg, findN_isSome]
    congr 2
    simp only [Bool.not_not]
    rw [allN_list (q := (within · bigM)) fun j hj => by simp [List.getD, hj]]
  · simp [L_slices_IndexFunc_int_int_0, B_slices_IndexFunc_int_int_0]
  · simp only [L_slices_IndexFunc_int_int_0, B_slices_IndexFunc_int_int_0]
    rw [W_succ (by omega)]
    have e : l.getD i 0 = l[i] := by simp [List.getD, hi]
    have e2 : ∀ x K, (TT (k + 1)).f_syntax_rightSelect_1 x K = K (!within x bigM) := fun x K => by
      show F_syntax_rightSelect_1 (TT k) x K = _
      obtain ⟨k, rfl⟩ : ∃ k', k = k' + 1 := ⟨k - 1, by omega⟩
      simp only [F_syntax_rightSelect_1, S_within (k + 1) (by omega)]
    simp only [Int.toNat_natCast, lst_map_g hi, asI_eI, lst_n, List.length_map, Int.ofNat_lt, hi, Int.natCast_nonneg, true_and, decide_true, br_t, e, e2]
theorem S_syntax_rightSets (M k : Nat) (hM : M < 1152921504606846976) (hk : M + 140 ≤ k) (m : Bool) (l : List Set_) (hl : l.length ≤ M) (hx : ∀ x ∈ l, x.name.size ≤ M ∧ x.expr.Fits M 16) (K : Bool → Prop) : (TT k).f_syntax_rightSets (lst m (l.map (eSet m))) K = K (l.all setOK) := by
  obtain ⟨k, rfl⟩ : ∃ k', k = k' + 4 := ⟨k - 4, by omega⟩
  have e1 : (TT (k + 4)).f_syntax_rightSets (lst m (l.map (eSet m))) K = L_slices_IndexFunc_api_Set_api_Set_0 (TT (k + 1)) (k + 1) (lst m (l.map (eSet m))) (((lst m (l.map (eSet m))).n : Nat) : Int) 0 (fun n2 => K (!decide (n2 ≥ 0))) (K (!decide ((-1 : Int) ≥ 0))) := rfl
  let d : Set_ := ⟨noB, Expr.mk 0 0 0 0 noB noB noB [] 0, 0⟩
  rw [e1, idx_find0 (L := fun q i => L_slices_IndexFunc_api_Set_api_Set_0 (TT (k + 1)) q (lst m (l.map (eSet m))) (((lst m (l.map (eSet m))).n : Nat) : Int) i (fun n2 => K (!decide (n2 ≥ 0))) (K (!decide ((-1 : Int) ≥ 0)))) (m := l.length) (F := fun i => K (!decide (i ≥ 0))) (p := fun i => !setOK (l.getD i d)) (fun q => ?_) (fun q i hi => ?_) (by omega)]
  · rw [idxOf_nonneg, findN_isSome]
    simp only [Bool.not_not]
    rw [allN_list (q := setOK) fun j hj => by simp [List.getD, hj]]
  · simp [L_slices_IndexFunc_api_Set_api_Set_0, B_slices_IndexFunc_api_Set_api_Set_0]
  · simp only [L_slices_IndexFunc_api_Set_api_Set_0, B_slices_IndexFunc_api_Set_api_Set_0]
    rw [W_succ (by omega)]
    have eg : l.getD i d = l[i] := by simp [List.getD, hi]
    obtain ⟨hx1, hx2⟩ := hx l[i] (List.getElem_mem hi)
    obtain ⟨k, rfl⟩ : ∃ k', k = k' + 1 := ⟨k - 1, by omega⟩
    have e2 : ∀ K, (TT (k + 1 + 1)).f_syntax_rightSets_1 (sSet m l[i]) K = K (!setOK l[i]) := fun K => by
      show F_syntax_rightSets_1 (TT (k + 1)) (sSet m l[i]) K = _
      have h1 : (sSet m l[i]).Name = l[i].name := rfl
      have h2 : S_api_Expr.mk (sSet m l[i]).Expr_Kind (sSet m l[i]).Expr_Op (sSet m l[i]).Expr_Value_Kind (sSet m l[i]).Expr_Value_Int (sSet m l[i]).Expr_Value_Text (sSet m l[i]).Expr_Table (sSet m l[i]).Expr_Name (sSet m l[i]).Expr_Kids (sSet m l[i]).Expr_At = sExpr m l[i].expr := rfl
      simp only [F_syntax_rightSets_1, h1, h2, S_lex_IsName (k + 1) l[i].name (by omega) (by omega), S_syntax_rightExpr M (by omega) m 16 (k + 1) l[i].expr hx2 (by omega) (by omega) 1 (by omega), setOK]
      cases isName l[i].name <;> rfl
    simp only [Int.toNat_natCast, lst_map_g hi, as_Set, lst_n, List.length_map, Int.ofNat_lt, hi, Int.natCast_nonneg, true_and, decide_true, br_t, eg, e2]
theorem all_and {α : Type} (p q : α → Bool) (l : List α) : (l.all p && l.all q) = l.all fun x => p x && q x := by
  rw [Bool.eq_iff_iff]; simp only [Bool.and_eq_true, List.all_eq_true]
  exact ⟨fun ⟨h1, h2⟩ x hx => ⟨h1 x hx, h2 x hx⟩, fun h => ⟨fun x hx => (h x hx).1, fun x hx => (h x hx).2⟩⟩
theorem S_syntax_rightSelect (M k : Nat) (hM : M < 1152921504606846976) (hk : M + 150 ≤ k) (m : Bool) (s : Stmt) (hs : s.Fits M) (K : Bool → Prop) : (TT k).f_syntax_rightSelect (sStmt m s) K = K (selOK s) := by
  obtain ⟨k, rfl⟩ : ∃ k', k = k' + 2 := ⟨k - 2, by omega⟩
  show F_syntax_rightSelect (TT (k + 1)) (sStmt m s) K = _
  have hi : (sStmt m s).Items = lst m (s.items.map (eExpr m)) := rfl
  have hg : (sStmt m s).Groups = lst m (s.groups.map (eExpr m)) := rfl
  have ho : (sStmt m s).Sorts = lst m (s.sorts.map eSort) := rfl
  have hon : (sStmt m s).On = lst m (s.on.map (eExpr m)) := rfl
  have hj : (sStmt m s).Join = s.join := rfl
  have hst : (sStmt m s).Star = s.star := rfl
  have hl : (sStmt m s).Limit = lst m (s.limit.map eI) := rfl
  have hse : (sStmt m s).Sets = lst m (s.sets.map (eSet m)) := rfl
  have b1 := hs.items.len
  have b2 := hs.groups.len
  have b3 := hs.sorts
  have b4 := hs.limit
  have b5 := hs.join
  have f0 : ∀ X Y, L_syntax_rightSelect_0 (TT (k + 1)) (k + 1) (lst m (s.items.map (eExpr m))) ((s.items.length : Nat) : Int) 0 (sStmt m s) X Y = br (s.items.all itemOK) (Y (sStmt m s)) X := by
    intro X Y
    refine list_all0 (L := fun n i => L_syntax_rightSelect_0 (TT (k + 1)) n (lst m (s.items.map (eExpr m))) ((s.items.length : Nat) : Int) i (sStmt m s) X Y) (l := s.items) (fun n => ?_) (fun n i hi => ?_) (by omega)
    · simp [L_syntax_rightSelect_0, B_syntax_rightSelect_0]
    · simp only [L_syntax_rightSelect_0, B_syntax_rightSelect_0]
      rw [W_succ (by omega)]
      simp only [Int.toNat_natCast, lst_map_g hi, as_Expr, lst_n, List.length_map, Int.ofNat_lt, hi, Int.natCast_nonneg, true_and, decide_true, br_t, br_not, S_syntax_rightItem M (k + 1) hM (by omega) m s.items[i] (hs.items.each _ (List.getElem_mem hi))]
  have f2 : ∀ X Y, L_syntax_rightSelect_2 (TT (k + 1)) (k + 1) (lst m (s.groups.map (eExpr m))) ((s.groups.length : Nat) : Int) 0 (sStmt m s) X Y = br (s.groups.all fun e => decide (e.kind = 3)) (Y (sStmt m s)) X := by
    intro X Y
    refine list_all0 (L := fun n i => L_syntax_rightSelect_2 (TT (k + 1)) n (lst m (s.groups.map (eExpr m))) ((s.groups.length : Nat) : Int) i (sStmt m s) X Y) (l := s.groups) (fun n => ?_) (fun n i hi => ?_) (by omega)
    · simp [L_syntax_rightSelect_2, B_syntax_rightSelect_2]
    · simp only [L_syntax_rightSelect_2, B_syntax_rightSelect_2]
      rw [W_succ (by omega)]
      have hk : (sExpr m s.groups[i]).Kind = s.groups[i].kind := rfl
      simp only [Int.toNat_natCast, lst_map_g hi, as_Expr, lst_n, List.length_map, Int.ofNat_lt, hi, Int.natCast_nonneg, true_and, decide_true, br_t, hk, bne_dec, br_not]
  have f4 : ∀ X Y, L_syntax_rightSelect_4 (TT (k + 1)) (k + 1) (lst m (s.sorts.map eSort)) ((s.sorts.length : Nat) : Int) 0 (sStmt m s) X Y = br (s.sorts.all sortOK) (Y (sStmt m s)) X := by
    intro X Y
    refine list_all0 (L := fun n i => L_syntax_rightSelect_4 (TT (k + 1)) n (lst m (s.sorts.map eSort)) ((s.sorts.length : Nat) : Int) i (sStmt m s) X Y) (l := s.sorts) (fun n => ?_) (fun n i hi => ?_) (by omega)
    · simp [L_syntax_rightSelect_4, B_syntax_rightSelect_4]
    · simp only [L_syntax_rightSelect_4, B_syntax_rightSelect_4]
      rw [W_succ (by omega)]
      simp only [Int.toNat_natCast, lst_map_g hi, as_Sort, lst_n, List.length_map, Int.ofNat_lt, hi, Int.natCast_nonneg, true_and, decide_true, br_t, br_not, S_within (k + 1) (by omega), sortOK]
  simp only [F_syntax_rightSelect, TT_fuel, hi, hg, ho, f0, f2, f4, hj, hon, hst, hl, hse, lst_n, List.length_map, noB_dec, S_lex_IsName (k + 1) s.join (by omega) (by omega),
    S_syntax_rights M (k + 1) hM (by omega) m s.on hs.on, S_syntax_rights M (k + 1) hM (by omega) m s.groups hs.groups, S_limits (k + 1) m s.limit (by omega) (by omega), Bool.not_not]
  have c0 : ((s.on.length : Int) == 0) = decide (s.on.length = 0) := len_eq _ 0
  have c1 : ((s.on.length : Int) == 1) = decide (s.on.length = 1) := len_eq _ 1
  have c2 : ((s.items.length : Int) == 0) = decide (s.items.length = 0) := len_eq _ 0
  have c3 : ((s.sets.length : Int) == 0) = decide (s.sets.length = 0) := len_eq _ 0
  have c4 : decide ((s.items.length : Int) ≤ 8) = decide (s.items.length ≤ 8) := len_le _ 8
  have c5 : decide ((s.groups.length : Int) ≤ 8) = decide (s.groups.length ≤ 8) := len_le _ 8
  have c6 : decide ((s.sorts.length : Int) ≤ 8) = decide (s.sorts.length ≤ 8) := len_le _ 8
  have c7 : decide ((s.limit.length : Int) ≤ 1) = decide (s.limit.length ≤ 1) := len_le _ 1
  have g0 : s.groups.all groupOK = ((s.groups.all fun e => decide (e.kind = 3)) && s.groups.all (rightE 16)) := (all_and _ _ _).symm
  rw [c0, c1, c2, c3, c4, c5, c6, c7]
  simp only [br_K, selOK, g0, joinOK]
  congr 1
  cases s.items.all itemOK
  · rfl
  cases s.groups.all fun e => decide (e.kind = 3)
  · rfl
  cases s.sorts.all sortOK
  · cases s.groups.all (rightE 16) <;> rfl
  cases s.limit.all (within · bigM)
  · simp
  cases s.on.all (rightE 16)
  · simp
  cases s.groups.all (rightE 16)
  · simp
  cases s.star == decide (s.items.length = 0)
  · simp
  cases decide (s.items.length ≤ 8)
  · simp
  cases decide (s.groups.length ≤ 8)
  · simp
  cases decide (s.sorts.length ≤ 8)
  · simp
  cases decide (s.limit.length ≤ 1)
  · simp
  cases decide (s.sets.length = 0)
  · simp
  cases decide (s.join = noB) <;> cases decide (s.on.length = 0) <;> cases isName s.join <;> cases decide (s.on.length = 1) <;> rfl
end Go.RX
namespace Go.RX
theorem S_syntax_Right (M k : Nat) (hM : M < 1152921504606846976) (hk : M + 160 ≤ k) (m : Bool) (s : Stmt) (hs : s.Fits M) (K : Bool → Prop) : (TT k).f_syntax_Right (sStmt m s) K = K (rightStmt s) := by
  obtain ⟨k, rfl⟩ : ∃ k', k = k' + 2 := ⟨k - 2, by omega⟩
  show F_syntax_Right (TT (k + 1)) (sStmt m s) K = _
  have hi : (sStmt m s).Items = lst m (s.items.map (eExpr m)) := rfl
  have hw : (sStmt m s).Where = lst m (s.where_.map (eExpr m)) := rfl
  have hg : (sStmt m s).Groups = lst m (s.groups.map (eExpr m)) := rfl
  have ho : (sStmt m s).Sorts = lst m (s.sorts.map eSort) := rfl
  have hon : (sStmt m s).On = lst m (s.on.map (eExpr m)) := rfl
  have hj : (sStmt m s).Join = s.join := rfl
  have ht : (sStmt m s).Table = s.table := rfl
  have hkd : (sStmt m s).Kind = s.kind := rfl
  have hst : (sStmt m s).Star = s.star := rfl
  have hl : (sStmt m s).Limit = lst m (s.limit.map eI) := rfl
  have hse : (sStmt m s).Sets = lst m (s.sets.map (eSet m)) := rfl
  have b0 := hs.table
  have b1 := hs.on.len
  have b2 := hs.groups.len
  have b3 := hs.sorts
  have b4 := hs.limit
  have hsum : W (W (W ((s.on.length : Int) + (s.groups.length : Int)) + (s.sorts.length : Int)) + (s.limit.length : Int)) = (s.on.length : Int) + s.groups.length + s.sorts.length + s.limit.length := by
    rw [W_id (n := (s.on.length : Int) + (s.groups.length : Int)), W_id (n := (s.on.length : Int) + (s.groups.length : Int) + (s.sorts.length : Int)), W_id] <;> omega
  have hsum' : decide ((s.on.length : Int) + s.groups.length + s.sorts.length + s.limit.length > 0) = !(decide (s.on.length = 0) && decide (s.groups.length = 0) && decide (s.sorts.length = 0) && decide (s.limit.length = 0)) := by
    rw [Bool.eq_iff_iff]
    simp only [decide_eq_true_eq, Bool.not_eq_true', Bool.and_eq_false_iff, decide_eq_false_iff_not]
    omega
  simp only [F_syntax_Right, hi, hw, hg, ho, hj, ht, hkd, hon, hst, hl, hse, lst_n, List.length_map, noB_dec, hsum, hsum', S_lex_IsName (k + 1) s.table (by omega) (by omega),
    S_syntax_rights M (k + 1) hM (by omega) m s.where_ hs.where_, S_syntax_rights M (k + 1) hM (by omega) m s.items hs.items, S_syntax_rightSets M (k + 1) hM (by omega) m s.sets hs.sets hs.set, S_syntax_rightSelect M (k + 1) hM (by omega) m s hs]
  have c0 : ((s.items.length : Int) == 0) = decide (s.items.length = 0) := len_eq _ 0
  have c1 : ((s.sets.length : Int) == 0) = decide (s.sets.length = 0) := len_eq _ 0
  have c2 : ((s.where_.length : Int) == 0) = decide (s.where_.length = 0) := len_eq _ 0
  have c3 : decide ((s.where_.length : Int) > 1) = !decide (s.where_.length ≤ 1) := len_gt _ 1
  have c4 : decide ((s.items.length : Int) ≥ 1) = decide (1 ≤ s.items.length) := len_ge _ 1
  have c5 : decide ((s.items.length : Int) ≤ 16) = decide (s.items.length ≤ 16) := len_le _ 16
  have c6 : decide ((s.sets.length : Int) ≥ 1) = decide (1 ≤ s.sets.length) := len_ge _ 1
  have c7 : decide ((s.sets.length : Int) ≤ 16) = decide (s.sets.length ≤ 16) := len_le _ 16
  rw [c0, c1, c2, c3, c4, c5, c6, c7]
  simp only [br_K, rightStmt, restOK, beq_dec]
  congr 1
  cases isName s.table
  · rfl
  cases decide (s.where_.length ≤ 1)
  · rfl
  cases s.where_.all (rightE 16)
  · rfl
  by_cases k4 : s.kind = 4
  · simp [k4]
  simp only [decide_eq_false k4]
  cases decide (s.join = noB)
  · rfl
  cases s.star
  · cases decide (s.on.length = 0)
    · simp
    cases decide (s.groups.length = 0)
    · simp
    cases decide (s.sorts.length = 0)
    · simp
    cases decide (s.limit.length = 0)
    · simp
    cases s.items.all (rightE 16)
    · simp
    cases s.sets.all setOK
    · simp
    by_cases k1 : s.kind = 1
    · simp only [k1]
      cases decide (1 ≤ s.items.length) <;> cases decide (s.items.length ≤ 16) <;> cases decide (s.sets.length = 0) <;> cases decide (s.where_.length = 0) <;> simp
    by_cases k2 : s.kind = 2
    · simp only [k2]
      cases decide (s.items.length = 0) <;> cases decide (1 ≤ s.sets.length) <;> cases decide (s.sets.length ≤ 16) <;> simp
    by_cases k3 : s.kind = 3
    · simp only [k3]
      cases decide (s.items.length = 0) <;> cases decide (s.sets.length = 0) <;> simp
    simp [k1, k2, k3]
  · rfl
end Go.RX
