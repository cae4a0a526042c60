/- The law in plain Lean, with no program in sight. No condition. -/
import Derived.Test.YtacceochippkaaaGreatDoorPc
set_option linter.all false
namespace Go.RX
def ofE (q : QEnv) (w : Int) (e : Expr) : Except Flt Term := match askE q 16 e with
  | .error f => .error f
  | .ok t => if t.type_ ≠ w ∧ t.type_ ≠ 0 then .error (11, e.at_) else .ok t
def namesE (c : Catalog) (s : Stmt) : Except Flt (List Int) := match tabOf c s.table with
  | none => .error (82, s.at_)
  | some k => if s.join = noB then .ok [((k : Nat) : Int)] else match tabOf c s.join with
    | none => .error (82, s.joinAt)
    | some j => if j = k then .error (81, s.joinAt) else .ok [((k : Nat) : Int), ((j : Nat) : Int)]
def insE (q : QEnv) : List Expr → List S_api_Column → Except Flt (List Term)
  | e :: es, c :: cs => match ofE q c.Type_ e with
    | .error f => .error f
    | .ok t => match insE q es cs with
      | .error f => .error f
      | .ok ts => .ok (t :: ts)
  | _, _ => .ok []
def insertE (q : QEnv) (s : Stmt) (t : Table) : Except Flt (List Term) := if s.items.length ≠ t.columns.length then .error (131, s.at_) else insE q s.items t.columns
def typeAt (t : Table) (j : Nat) : Int := ((t.columns[j]?).map (·.Type_)).getD 0
def updE (q : QEnv) (t : Table) : List Int → List Set_ → Except Flt (List Term × List Int)
  | _, [] => .ok ([], [])
  | ns, x :: r => match colOf t x.name with
    | none => .error (82, x.at_)
    | some j => if memG ((j : Nat) : Int) ns = true then .error (81, x.at_) else match ofE q (typeAt t j) x.expr with
      | .error f => .error f
      | .ok u => match updE q t (((j : Nat) : Int) :: ns) r with
        | .error f => .error f
        | .ok (us, js) => .ok (u :: us, ((j : Nat) : Int) :: js)
def grpE (q : QEnv) : List Int → List Expr → Except Flt (List Int)
  | _, [] => .ok []
  | ns, e :: r => match askE q 16 e with
    | .error f => .error f
    | .ok t => if memG t.num ns = true then .error (81, e.at_) else match grpE q (t.num :: ns) r with
      | .error f => .error f
      | .ok gs => .ok (t.num :: gs)
def isAgg (n : Int) : Bool := decide (11 ≤ n) && decide (n ≤ 14)
def itemE (q : QEnv) (grouped : Bool) (gs : List Int) (e : Expr) : Except Flt Term := match askE q 16 e with
  | .error f => .error f
  | .ok t => if (grouped && !isAgg t.op && !(decide (t.op = 3) && memG t.num gs)) = true then .error (130, e.at_) else .ok t
def groupedS (s : Stmt) : Bool := decide (s.groups.length ≠ 0) || s.items.any fun e => isAgg e.kind
def starTerms : Nat → List S_api_Column → List Term
  | _, [] => []
  | i, c :: r => ⟨3, ((i : Nat) : Int), c.Type_, 0, 0, noB, []⟩ :: starTerms (i + 1) r
def starE (s : Stmt) (ts : List Table) : Except Flt (List Term) := match s.groups with
  | e :: _ => .error (130, e.at_)
  | [] => if (colsT ts).length > 16 then .error (131, s.at_) else .ok (starTerms 0 (colsT ts))
def sortE (n : Nat) (x : S_api_Sort) : Except Flt S_api_Sort := if x.Item < 1 ∨ x.Item > (n : Int) then .error (82, x.At) else .ok ⟨x.Item, x.Desc, 0⟩
def chooseE (q : QEnv) (s : Stmt) (ts : List Table) : Except Flt (List Term × Bool × List Int × List S_api_Sort) := match grpE q [] s.groups with
  | .error f => .error f
  | .ok gs => match (if s.star = true then starE s ts else mapE (itemE q (groupedS s) gs) s.items) with
    | .error f => .error f
    | .ok is => match mapE (sortE is.length) s.sorts with
      | .error f => .error f
      | .ok os => .ok (is, (if s.star = true then false else groupedS s), gs, os)
def tabsOf (c : Catalog) (ks : List Int) : List Table := ks.filterMap fun k => c.tables[k.toNat]?
def stmtE (c : Catalog) (ps : List S_api_Param) (s : Stmt) : Except Flt Typed := match namesE c s with
  | .error f => .error f
  | .ok ks => match mapE (ofE (envOf ps (if s.kind = 1 then [] else tabsOf c ks)) 2) s.on with
    | .error f => .error f
    | .ok on => match mapE (ofE (envOf ps (if s.kind = 1 then [] else tabsOf c ks)) 2) s.where_ with
      | .error f => .error f
      | .ok wh => match tabsOf c ks with
        | [] => .error (82, 0)
        | t :: _ =>
          if s.kind = 1 then match insertE (envOf ps []) s t with
            | .error f => .error f
            | .ok is => .ok ⟨s.kind, ks, on, wh, is, [], false, [], [], [], []⟩
          else if s.kind = 2 then match updE (envOf ps (tabsOf c ks)) t [] s.sets with
            | .error f => .error f
            | .ok (is, js) => .ok ⟨s.kind, ks, on, wh, is, js, false, [], [], [], []⟩
          else if s.kind = 4 then match chooseE (envOf ps (tabsOf c ks)) s (tabsOf c ks) with
            | .error f => .error f
            | .ok (is, g, gs, os) => .ok ⟨s.kind, ks, on, wh, is, [], g, gs, os, s.limit, is.map (·.type_)⟩
          else .ok ⟨s.kind, ks, on, wh, [], [], false, [], [], [], []⟩
def checkE (c : Catalog) (ps : List S_api_Param) (s : Stmt) : Except Flt Typed :=
  if rightCat c = true ∧ rightPars ps = true then (if rightStmt s = true then stmtE c ps s else .error (120, 0)) else .error (80, 0)
theorem fine_item {e : Expr} (h : itemOK e = true) : fineE 16 e := by
  simp only [itemOK] at h
  cases hq : (decide (11 ≤ e.kind) && decide (e.kind ≤ 14))
  · rw [hq] at h
    exact fine_of_right h
  · rw [hq] at h
    simp only [Bool.and_eq_true, decide_eq_true_eq] at hq
    simp only [cond_true, Bool.and_eq_true] at h
    obtain ⟨-, h⟩ := h
    by_cases k : e.kind = 11
    · rw [decide_eq_true k] at h
      simp only [cond_true, decide_eq_true_eq] at h
      refine ⟨by omega, fun hk => by omega, fun hk => by omega, fun x hx => ?_⟩
      rw [List.length_eq_zero_iff.1 h] at hx
      cases hx
    · rw [decide_eq_false k] at h
      simp only [cond_false] at h
      split at h
      · rename_i x hx
        refine ⟨by rw [hx]; simp, fun hk => by omega, fun _ => by rw [hx]; rfl, fun y hy => ?_⟩
        rw [hx] at hy
        simp only [List.mem_singleton] at hy
        subst hy
        exact fine_of_right h
      · cases h
theorem ask_op {q : QEnv} : ∀ {d : Nat} {e : Expr} {t : Term}, askE q d e = .ok t → t.op = e.kind
  | 0, _, _, h => by cases h
  | d + 1, e, t, h => by
    rw [askE] at h
    split at h
    · injection h with h; subst h; rfl
    · split at h
      · split at h
        · injection h with h; subst h; rfl
        · cases h
      · split at h
        · split at h
          · cases h
          · split at h
            · cases h
            · injection h with h; subst h; rfl
        · split at h
          · cases h
          · split at h
            · cases h
            · split at h
              · cases h
              · injection h with h; subst h; rfl
theorem S_of1 {q : QEnv} {m1 m2 : List (PV × PV)} (hq : ChkOK q m1 m2) (m : Bool) (k : Nat) (hk : 70 ≤ k) (e : Expr) (he : fineE 16 e) (a1 a2 : Arr) (w : Int) (K : S_api_Term → Bool → Arr → Arr → Int → Int → List (PV × PV) → List (PV × PV) → Int → Prop) :
    (TT k).f_check_checker_of_1 (sExpr m e) a1 a2 0 0 m1 m2 w K = tell (ofE q w e) (fun t => K (sTerm true t) true a1 a2 0 0 m1 m2 w) (fun c a => K (sTerm true zTerm) false a1 a2 c a m1 m2 w) := by
  obtain ⟨k, rfl⟩ : ∃ k', k = k' + 1 := ⟨k - 1, by omega⟩
  show F_check_checker_of_1 (TT k) (sExpr m e) a1 a2 0 0 m1 m2 w K = _
  simp only [F_check_checker_of_1, S_term hq m 16 k e he (by omega), ofE]
  cases hr : askE q 16 e with
  | error f => rfl
  | ok t =>
    have ht : (sTerm true t).Type_ = t.type_ := rfl
    have ha : (sExpr m e).At = e.at_ := rfl
    simp only [tell, br_t, ht, bne_dec, br_not, ha, S_fails k (by omega)]
    by_cases h1 : t.type_ = w
    · have : ¬ (t.type_ ≠ w ∧ t.type_ ≠ 0) := fun h => h.1 h1
      rw [decide_eq_true h1, br_t, if_neg this]
    · by_cases h2 : t.type_ = 0
      · have : ¬ (t.type_ ≠ w ∧ t.type_ ≠ 0) := fun h => h.2 h2
        rw [decide_eq_false h1, br_f, decide_eq_true h2, br_t, if_neg this]
      · rw [decide_eq_false h1, br_f, decide_eq_false h2, br_f, if_pos ⟨h1, h2⟩]
        rfl
theorem S_truths {q : QEnv} {m1 m2 : List (PV × PV)} (hq : ChkOK q m1 m2) (m : Bool) (k : Nat) (hk : 80 ≤ k) (l : List Expr) (hl : l.length ≤ 1) (he : ∀ e ∈ l, fineE 16 e) (a1 a2 : Arr) (K : Arr → Bool → Arr → Arr → Int → Int → List (PV × PV) → List (PV × PV) → Prop) :
    (TT k).f_check_checker_truths (lst m (l.map (eExpr m))) a1 a2 0 0 m1 m2 K = tell (mapE (ofE q 2) l) (fun ts => K (lst true (ts.map (eTerm true))) true a1 a2 0 0 m1 m2) (fun c a => K (lst true []) false a1 a2 c a m1 m2) := by
  obtain ⟨k, rfl⟩ : ∃ k', k = k' + 2 := ⟨k - 2, by omega⟩
  show F_check_checker_truths (TT (k + 1)) _ a1 a2 0 0 m1 m2 K = _
  have key : ∀ (K0 : Arr → Arr → Int → Int → List (PV × PV) → List (PV × PV) → Prop) (K1 : Arr → Arr → Int → Int → List (PV × PV) → List (PV × PV) → List PV → Prop) (l : List Expr) (pre : List PV) (r : List Term) (n : Nat), (∀ e ∈ l, fineE 16 e) → l.length < n → pre.length + l.length ≤ 16 → r.length = pre.length →
      L_check_checker_truths_0 (TT (k + 1)) n (lst m (pre ++ l.map (eExpr m))) ((pre ++ l.map (eExpr m)).length : Nat) (pre.length : Nat) a1 a2 0 0 m1 m2 (r.map (eTerm true)) K0 K1 =
      tell (mapE (ofE q 2) l) (fun ts => K1 a1 a2 0 0 m1 m2 ((r ++ ts).map (eTerm true))) (fun c a => K0 a1 a2 c a m1 m2) := by
    intro K0 K1 l
    induction l with
    | nil =>
      intro pre r n _ hn _ _
      obtain ⟨n, rfl⟩ : ∃ n', n = n' + 1 := ⟨n - 1, by simp at hn; omega⟩
      simp [L_check_checker_truths_0, B_check_checker_truths_0, mapE, tell]
    | cons x l ih =>
      intro pre r n hf hn hp hr
      simp only [List.length_cons] at hn hp
      obtain ⟨n, rfl⟩ : ∃ n', n = n' + 1 := ⟨n - 1, by omega⟩
      simp only [L_check_checker_truths_0, B_check_checker_truths_0]
      rw [W_succ (by omega)]
      have hof : ∀ K, (TT (k + 1)).f_check_checker_of 2 a1 a2 0 0 m1 m2 K = K a1 a2 0 0 m1 m2 2 := fun K => rfl
      simp only [List.map_cons, mid_lt, decide_true, br_t, lst_n, Int.natCast_nonneg, true_and, Int.toNat_natCast, lst_g, getD_mid, as_Expr, hof, S_of1 hq m (k + 1) (by omega) x (hf x (.head _)), mapE]
      cases hx : ofE q 2 x with
      | error f => simp [tell]
      | ok t =>
        have e := ih (pre ++ [eExpr m x]) (r ++ [t]) n (fun y hy => hf y (.tail _ hy)) (by omega) (by simp; omega) (by simp [hr])
        simp only [snoc_app, snoc_len] at e
        have hb : ((r.map (eTerm true)).length + 1) * 80 ≤ 140737488355328 := by simp; omega
        simp only [tell, Bool.not_true, br_f, hb, true_and, eTerm_fold]
        have e2 : r.map (eTerm true) ++ [eTerm true t] = (r ++ [t]).map (eTerm true) := by simp
        rw [e2, e]
        cases mapE (ofE q 2) l <;> simp [tell]
  have f := fun K0 K1 => key K0 K1 l [] [] (k + 1) he (by omega) (by simp; omega) rfl
  have z : ((0 : Nat) : Int) = 0 := rfl
  simp only [List.nil_append, List.length_nil, List.length_map, List.map_nil, z] at f
  simp only [F_check_checker_truths, TT_fuel, lst_n, List.length_map, f]
theorem tabOf_lt {c : Catalog} {n : ByteArray} {k : Nat} (h : tabOf c n = some k) : k < c.tables.length := by
  obtain ⟨-, h1, -⟩ := findL_some h
  simpa using h1
theorem S_names (m : Bool) (k : Nat) (hk : 40 ≤ k) (c : Catalog) (hc : c.tables.length ≤ 8) (s : Stmt) (m1 m2 : List (PV × PV)) (K : Arr → Bool → Arr → Arr → Int → Int → List (PV × PV) → List (PV × PV) → Prop) :
    (TT k).f_check_checker_names (sStmt m s) (lst m (c.tables.map (eTable m))) (lst m (c.procs.map (eProc m))) 0 0 m1 m2 K =
      tell (namesE c s) (fun ks => K (lst true (ks.map eI)) true (lst m (c.tables.map (eTable m))) (lst m (c.procs.map (eProc m))) 0 0 m1 m2) (fun x a => K (lst true []) false (lst m (c.tables.map (eTable m))) (lst m (c.procs.map (eProc m))) x a m1 m2) := by
  obtain ⟨k, rfl⟩ : ∃ k', k = k' + 1 := ⟨k - 1, by omega⟩
  show F_check_checker_names (TT k) (sStmt m s) _ _ 0 0 m1 m2 K = _
  have hcat : S_api_Catalog.mk (lst m (c.tables.map (eTable m))) (lst m (c.procs.map (eProc m))) = sCatalog m c := rfl
  have h1 : (sStmt m s).Table = s.table := rfl
  have h2 : (sStmt m s).Join = s.join := rfl
  have h3 : (sStmt m s).At = s.at_ := rfl
  have h4 : (sStmt m s).JoinAt = s.joinAt := rfl
  simp only [F_check_checker_names, hcat, h1, h2, h3, h4, S_check_tableOf k m c _ hc (by omega), S_fails k (by omega), noB_dec, namesE]
  cases tabOf c s.table with
  | none => rfl
  | some j =>
    have : decide (idxOf (some j) < 0) = false := decide_eq_false (by simp only [idxOf]; omega)
    rw [this, br_f]
    simp only
    by_cases hj : s.join = noB
    · rw [decide_eq_true hj, br_t, if_pos hj]
      rfl
    · rw [decide_eq_false hj, br_f, if_neg hj]
      cases tabOf c s.join with
      | none => rfl
      | some i =>
        have : decide (idxOf (some i) < 0) = false := decide_eq_false (by simp only [idxOf]; omega)
        rw [this, br_f, beq_dec]
        by_cases hi : i = j
        · subst hi
          simp [tell]
        · have : decide (idxOf (some i) = idxOf (some j)) = false := decide_eq_false (by simp only [idxOf]; omega)
          rw [this, br_f]
          simp only [if_neg hi]
          rfl
end Go.RX
namespace Go.RX
def e2 (p : ByteArray × ByteArray) : PV := .agg [.str p.1, .str p.2]
theorem eqK_e2 (a b : ByteArray × ByteArray) : eqK (e2 a) (e2 b) = decide (a = b) := by
  simp only [e2, eqK, strEq]
  rw [Bool.eq_iff_iff]
  simp only [Bool.and_eq_true, decide_eq_true_eq, Prod.ext_iff]
def plc (x : Int × Int × Int) : PV := .agg [.int .i64 x.1, .int .i64 x.2.1, .int .i64 x.2.2]
structure ColMap (m2 : List (PV × PV)) (g : ByteArray → ByteArray → Int × Int × Int) : Prop where
  keys : ∀ p ∈ m2, ∃ c, p.1 = e2 c
  get : ∀ t n, (look (e2 (t, n)) m2).getD (plc (0, 0, 0)) = plc (g t n)
theorem ColMap.nil : ColMap [] fun _ _ => (0, 0, 0) := ⟨fun _ h => (by cases h), fun _ _ => rfl⟩
theorem ColMap.set {m2 : List (PV × PV)} {g : ByteArray → ByteArray → Int × Int × Int} (h : ColMap m2 g) (a b : ByteArray) (x : Int × Int × Int) : ColMap (setK (e2 (a, b)) (plc x) m2) fun t n => if (t, n) = (a, b) then x else g t n := by
  refine ⟨keys_setK _ _ _ h.keys, fun t n => ?_⟩
  rw [look_setK eqK_e2 (a, b) (t, n) _ m2 h.keys]
  by_cases e : (t, n) = (a, b)
  · simp only [if_pos e, Option.getD_some]
  · simp only [if_neg e, h.get]
theorem cntR_bound (tab name : ByteArray) : ∀ (rows : List (ByteArray × S_api_Column)) (i : Nat) (acc : Int × Int × Int), acc.2.2 ≤ (cntR tab name i rows acc).2.2 ∧ (cntR tab name i rows acc).2.2 ≤ acc.2.2 + rows.length
  | [], _, acc => by simp [cntR]
  | x :: r, i, acc => by
    have h1 := cntR_bound tab name r (i + 1) acc
    have h2 := cntR_bound tab name r (i + 1) (((i : Nat) : Int), x.2.Type_, acc.2.2 + 1)
    simp only at h2
    simp only [cntR, List.length_cons]
    cases rowMatch tab name x.1 x.2
    · simp only [cond_false]
      omega
    · simp only [cond_true]
      omega
theorem open4 {k : Nat} (hk : 10 ≤ k) (n1 : Nat) (a1 : Arr) (n2 n3 : Int) (a2 : Arr) (n4 n5 : Int) (a3 a4 : Arr) (m1 m2 : List (PV × PV)) (m : Bool) (t : Table) (c : S_api_Column) (ht : t.name ≠ noB) (g : ByteArray → ByteArray → Int × Int × Int) (hg : ColMap m2 g) (hb : ∀ t n, 0 ≤ (g t n).2.2 ∧ (g t n).2.2 ≤ 1000)
    (K : Int → Arr → Int → Int → Arr → Int → Int → Arr → Arr → Int → Int → List (PV × PV) → List (PV × PV) → S_api_Table → Prop) :
    ∃ m2', L_check_checker_open_4 (TT k) k ((n1 : Nat) : Int) a1 n2 n3 a2 n4 n5 2 0 a3 a4 0 0 m1 m2 (sTable m t) c [PV.agg [.str (sTable m t).Name, .str c.Name], PV.agg [.str noB, .str c.Name]] K = K ((n1 : Nat) : Int) a1 n2 n3 a2 n4 n5 a3 a4 0 0 m1 m2' (sTable m t) ∧
      ColMap m2' fun tab name => bif rowMatch tab name t.name c then (((n1 : Nat) : Int), c.Type_, (g tab name).2.2 + 1) else g tab name := by
  obtain ⟨k, rfl⟩ : ∃ k', k = k' + 3 := ⟨k - 3, by omega⟩
  have hn : (sTable m t).Name = t.name := rfl
  have h1 := hg.set t.name c.Name (((n1 : Nat) : Int), c.Type_, (g t.name c.Name).2.2 + 1)
  have h2 := h1.set noB c.Name (((n1 : Nat) : Int), c.Type_, (g noB c.Name).2.2 + 1)
  refine ⟨_, ?_, ⟨h2.keys, fun tab name => ?_⟩⟩
  · have w1 : W ((0 : Int) + 1) = 1 := by decide
    have w2 : W ((1 : Int) + 1) = 2 := by decide
    have as2 : ∀ (a b : ByteArray) (K : S_arr2_string → Prop), as_arr2_string (.agg [.str a, .str b]) K = K ⟨a, b⟩ := fun _ _ _ => rfl
    have p2 : ∀ a b : ByteArray, PV.agg (p_arr2_string ⟨a, b⟩) = .agg [.str a, .str b] := fun _ _ => rfl
    have asp : ∀ (x : Int × Int × Int) (K : S_check_place → Prop), as_check_place (plc x) K = K ⟨x.1, x.2.1, x.2.2⟩ := fun _ _ => rfl
    have b1 := hb t.name c.Name
    have b2 := hb noB c.Name
    have w3 : W ((g t.name c.Name).2.2 + 1) = (g t.name c.Name).2.2 + 1 := by rw [W_id] <;> omega
    have w4 : W ((g noB c.Name).2.2 + 1) = (g noB c.Name).2.2 + 1 := by rw [W_id] <;> omega
    have q1 : (look (.agg [.str t.name, .str c.Name]) m2).getD (.agg [.int .i64 0, .int .i64 0, .int .i64 0]) = plc (g t.name c.Name) := hg.get t.name c.Name
    have hne : ¬ ((noB, c.Name) : ByteArray × ByteArray) = (t.name, c.Name) := fun e => ht (Prod.ext_iff.1 e).1.symm
    have q2 : (look (.agg [.str noB, .str c.Name]) (setK (.agg [.str t.name, .str c.Name]) (.agg [.int .i64 n1, .int .i64 c.Type_, .int .i64 ((g t.name c.Name).2.2 + 1)]) m2)).getD (.agg [.int .i64 0, .int .i64 0, .int .i64 0]) = plc (g noB c.Name) := by
      have := h1.get noB c.Name
      simp only [if_neg hne] at this
      exact this
    have l0 : (0 : Int) < 2 := by decide
    have l1 : (1 : Int) < 2 := by decide
    have l2 : ¬ (2 : Int) < 2 := by decide
    have l3 : (0 : Int) ≤ 1 := by decide
    simp only [L_check_checker_open_4, B_check_checker_open_4, hn, l0, l1, l2, l3, decide_true, decide_false, br_t, br_f, List.length_cons, List.length_nil, Int.le_refl, true_and, w1, w2]
    have c2 : (0 : Int) < (((0 + 1 + 1 : Nat)) : Int) := by decide
    have c3 : (1 : Int) < (((0 + 1 + 1 : Nat)) : Int) := by decide
    have d0 : (0 : Int).toNat = 0 := rfl
    have d1 : (1 : Int).toNat = 1 := rfl
    simp only [c2, c3, true_and, d0, d1, List.getD, List.getElem?_cons_zero, List.getElem?_cons_succ, Option.getD_some, as2, p2, q1, asp, w3, q2, w4]
    rfl
  · rw [h2.get]
    congr 1
    have hne : ¬ noB = t.name := fun e => ht e.symm
    simp only [Prod.mk.injEq, rowMatch]
    by_cases e1 : name = c.Name
    · subst e1
      by_cases e3 : tab = noB
      · subst e3
        simp
      · by_cases e4 : tab = t.name
        · subst e4
          simp [e3]
        · simp [e3, e4]
    · have : ¬ c.Name = name := fun e => e1 e.symm
      simp [e1, this]
theorem open2 {k : Nat} (hk : 30 ≤ k) (a1 : Arr) (n2 n3 : Int) (a3 a4 : Arr) (m1 : List (PV × PV)) (m : Bool) (t : Table) (ht : t.name ≠ noB)
    (K : Int → Arr → Int → Int → Arr → Arr → Int → Int → List (PV × PV) → List (PV × PV) → Prop) : ∀ (l : List S_api_Column) (pre : List PV) (rows : List (ByteArray × S_api_Column)) (n : Nat) (m2 : List (PV × PV)), l.length < n → pre.length + l.length ≤ 16 → rows.length + l.length ≤ 100 → ColMap m2 (fun tab name => cntR tab name 0 rows (0, 0, 0)) →
    ∃ m2', L_check_checker_open_2 (TT k) n ((rows.length : Nat) : Int) a1 n2 n3 (lst m (pre ++ l.map eCol)) ((pre ++ l.map eCol).length : Nat) (pre.length : Nat) a3 a4 0 0 m1 m2 (sTable m t) K = K (((rows.length + l.length : Nat) : Nat) : Int) a1 n2 n3 a3 a4 0 0 m1 m2' ∧
      ColMap m2' fun tab name => cntR tab name 0 (rows ++ l.map fun c => (t.name, c)) (0, 0, 0)
  | [], pre, rows, n, m2, hn, _, _, hm => by
    obtain ⟨n, rfl⟩ : ∃ n', n = n' + 1 := ⟨n - 1, by simp at hn; omega⟩
    refine ⟨m2, ?_, by simpa using hm⟩
    simp [L_check_checker_open_2, B_check_checker_open_2]
  | c :: l, pre, rows, n, m2, hn, hp, hr, hm => by
    simp only [List.length_cons] at hn hp hr
    obtain ⟨n, rfl⟩ : ∃ n', n = n' + 1 := ⟨n - 1, by omega⟩
    have hb : ∀ tab name, 0 ≤ (cntR tab name 0 rows (0, 0, 0)).2.2 ∧ (cntR tab name 0 rows (0, 0, 0)).2.2 ≤ 1000 := fun tab name => by
      have := cntR_bound tab name rows 0 (0, 0, 0)
      simp only at this
      omega
    let K4 : Int → Arr → Int → Int → Arr → Int → Int → Arr → Arr → Int → Int → List (PV × PV) → List (PV × PV) → S_api_Table → Prop := fun n73 a74 n75 n76 a77 n78 n79 a80 a81 n82 n83 m84 m85 x86 =>
      L_check_checker_open_2 (TT k) n (W (n73 + (1 : Int))) a74 n75 n76 a77 n78 (W (n79 + (1 : Int))) a80 a81 n82 n83 m84 m85 x86 K
    obtain ⟨m3, h1, h2⟩ := open4 (k := k) (by omega) rows.length a1 n2 n3 (lst m (pre ++ eCol c :: l.map eCol)) ((pre ++ eCol c :: l.map eCol).length : Nat) (pre.length : Nat) a3 a4 m1 m2 m t c ht _ hm hb K4
    have h3 : (fun tab name => bif rowMatch tab name t.name c then (((rows.length : Nat) : Int), c.Type_, (cntR tab name 0 rows (0, 0, 0)).2.2 + 1) else cntR tab name 0 rows (0, 0, 0)) = fun tab name => cntR tab name 0 (rows ++ [(t.name, c)]) (0, 0, 0) := by
      funext tab name
      rw [cntR_append]
      simp [cntR]
    rw [h3] at h2
    obtain ⟨m4, h4, h5⟩ := open2 hk a1 n2 n3 a3 a4 m1 m t ht K l (pre ++ [eCol c]) (rows ++ [(t.name, c)]) n m3 (by omega) (by simp; omega) (by simp; omega) h2
    simp only [snoc_app, snoc_len] at h4
    refine ⟨m4, ?_, ?_⟩
    · have hfuel : (TT k).fuel = k := by
        obtain ⟨k, rfl⟩ : ∃ k', k = k' + 1 := ⟨k - 1, by omega⟩
        rfl
      simp only [L_check_checker_open_2, B_check_checker_open_2, List.map_cons, mid_lt, decide_true, br_t, lst_n, Int.natCast_nonneg, true_and, Int.toNat_natCast, lst_g, getD_mid, as_Column, hfuel]
      have e0 : L_check_checker_open_4 (TT k) k ((rows.length : Nat) : Int) a1 n2 n3 (lst m (pre ++ eCol c :: l.map eCol)) ((pre ++ eCol c :: l.map eCol).length : Nat) (pre.length : Nat) 2 0 a3 a4 0 0 m1 m2 (sTable m t) c [PV.agg [.str (sTable m t).Name, .str c.Name], PV.agg [.str noB, .str c.Name]] K4 = _ := h1
      rw [e0]
      simp only [K4]
      rw [W_succ (by omega), W_succ (by omega), h4]
      simp only [List.length_cons]
      congr 2
      omega
    · simpa using h5
theorem open0 {k : Nat} (hk : 40 ≤ k) (c : Catalog) (ks : List Int) (ts : List Table) (h : TabsAt c ks ts) (hT : TabsOK ts) (hname : ∀ t ∈ ts, t.name ≠ noB) (m : Bool) (a4 : Arr) (m1 : List (PV × PV)) (K : Arr → Arr → Int → Int → List (PV × PV) → List (PV × PV) → Prop) :
    ∀ (rt : List Table) (rk pk : List Int) (pt : List Table) (n : Nat) (m2 : List (PV × PV)), ks = pk ++ rk → ts = pt ++ rt → pk.length = pt.length → rk.length = rt.length → rt.length < n → (rowsT pt).length ≤ 16 * pt.length → ColMap m2 (fun tab name => cntR tab name 0 (rowsT pt) (0, 0, 0)) →
      ∃ m2', L_check_checker_open_0 (TT k) n (((rowsT pt).length : Nat) : Int) (lst true (ks.map eI)) ((ks.length : Nat) : Int) (pk.length : Nat) (lst m (c.tables.map (eTable m))) a4 0 0 m1 m2 K = K (lst m (c.tables.map (eTable m))) a4 0 0 m1 m2' ∧
        ColMap m2' fun tab name => cntR tab name 0 (rowsT (pt ++ rt)) (0, 0, 0)
  | [], rk, pk, pt, n, m2, e1, e2, hp, hr, hn, _, hm => by
    obtain ⟨n, rfl⟩ : ∃ n', n = n' + 1 := ⟨n - 1, by simp at hn; omega⟩
    have : rk = [] := List.length_eq_zero_iff.1 (by simpa using hr)
    subst this
    have hpl : ks.length = pk.length := by rw [e1]; simp
    refine ⟨m2, ?_, by simpa using hm⟩
    simp [L_check_checker_open_0, B_check_checker_open_0, hpl]
  | t :: rt, [], pk, pt, n, m2, e1, e2, hp, hr, hn, hrl, hm => by simp at hr
  | t :: rt, x :: rk, pk, pt, n, m2, e1, e2, hp, hr, hn, hrl, hm => by
    simp only [List.length_cons] at hn hr
    obtain ⟨n, rfl⟩ : ∃ n', n = n' + 1 := ⟨n - 1, by omega⟩
    obtain ⟨q, hq1, hq2⟩ := h.get pk pt e1 e2 hp
    obtain ⟨hq3, hq4⟩ := List.getElem?_eq_some_iff.1 hq2
    obtain ⟨hc1, hc2⟩ := hT.each t (by rw [e2]; simp)
    have htwo := hT.two
    have hlt : ts.length = pt.length + (rt.length + 1) := by rw [e2]; simp
    have hlen : ks.length = pk.length + (rk.length + 1) := by rw [e1]; simp
    have hi : pk.length < ks.length := by omega
    have hx : ks[pk.length] = x := by simp [e1]
    let K2 : Int → Arr → Int → Int → Arr → Arr → Int → Int → List (PV × PV) → List (PV × PV) → Prop := fun n123 a124 n125 n126 a127 a128 n129 n130 m131 m132 =>
      L_check_checker_open_0 (TT k) n n123 a124 n125 (W (n126 + (1 : Int))) a127 a128 n129 n130 m131 m132 K
    obtain ⟨m3, h1, h2⟩ := open2 (k := k) (by omega) (lst true (ks.map eI)) ((ks.length : Nat) : Int) (pk.length : Nat) (lst m (c.tables.map (eTable m))) a4 m1 m t (hname t (by rw [e2]; simp)) K2 t.columns [] (rowsT pt) k m2 (by omega) (by simpa using hc1) (by omega) hm
    have h3 : (rowsT pt ++ t.columns.map fun c => (t.name, c)) = rowsT (pt ++ [t]) := by simp [rowsT, rowsOfT]
    rw [h3] at h2
    have h3l : (rowsT pt).length + t.columns.length = (rowsT (pt ++ [t])).length := by rw [← h3]; simp
    obtain ⟨m4, h4, h5⟩ := open0 hk c ks ts h hT hname m a4 m1 K rt rk (pk ++ [x]) (pt ++ [t]) n m3 (by rw [e1]; simp) (by rw [e2]; simp) (by simp [hp]) (by omega) (by omega) (by rw [← h3l]; simp; omega) h2
    refine ⟨m4, ?_, by simpa using h5⟩
    have hfuel : (TT k).fuel = k := by
      obtain ⟨k, rfl⟩ : ∃ k', k = k' + 1 := ⟨k - 1, by omega⟩
      rfl
    have hcol : (sTable m t).Columns = lst m (t.columns.map eCol) := rfl
    have hq5 : ((q : Nat) : Int) < ((c.tables.length : Nat) : Int) := by omega
    simp only [List.nil_append, List.length_nil, List.length_map] at h1
    have z : ((0 : Nat) : Int) = 0 := rfl
    rw [z] at h1
    simp only [snoc_len] at h4
    simp only [L_check_checker_open_0, B_check_checker_open_0, Int.toNat_natCast, lst_map_g hi, hx, asI_eI, lst_n, List.length_map, Int.ofNat_lt, hi, Int.natCast_nonneg, true_and, decide_true, br_t, hq1, lst_map_g hq3, hq4, as_Table, hcol, hq3, hfuel]
    have h1' := h1
    simp only [K2] at h1'
    rw [h1']
    rw [W_succ (by omega), h3l, h4]
theorem S_open {k : Nat} (hk : 50 ≤ k) (c : Catalog) (ks : List Int) (ts : List Table) (h : TabsAt c ks ts) (hT : TabsOK ts) (hname : ∀ t ∈ ts, t.name ≠ noB) (m : Bool) (a4 : Arr) (m1 : List (PV × PV)) (K : Arr → Arr → Int → Int → List (PV × PV) → List (PV × PV) → Prop) :
    ∃ m2', (TT k).f_check_checker_open (lst true (ks.map eI)) (lst m (c.tables.map (eTable m))) a4 0 0 m1 [] K = K (lst m (c.tables.map (eTable m))) a4 0 0 m1 m2' ∧ ColMap m2' fun tab name => cntR tab name 0 (rowsT ts) (0, 0, 0) := by
  obtain ⟨k, rfl⟩ : ∃ k', k = k' + 2 := ⟨k - 2, by omega⟩
  obtain ⟨m2', h1, h2⟩ := open0 (k := k + 1) (by omega) c ks ts h hT hname m a4 m1 (fun a143 a144 n145 n146 m147 m148 => K a143 a144 n145 n146 m147 m148) ts ks [] [] (k + 1) [] rfl rfl rfl h.len (by have := hT.two; omega) (by simp [rowsT]) (by simpa [rowsT, cntR] using ColMap.nil)
  refine ⟨m2', ?_, by simpa using h2⟩
  rw [← h1]
  show F_check_checker_open (TT (k + 1)) _ _ _ 0 0 m1 [] K = _
  simp only [F_check_checker_open, TT_fuel, lst_n, List.length_map]
  rfl
end Go.RX
namespace Go.RX
theorem set_snoc {α : Type} (l : List α) (x y : α) : (l ++ [x]).set (((l.length : Nat) : Int).toNat) y = l ++ [y] := by
  rw [Int.toNat_natCast]
  simp
theorem snoc_lt' (r : List Term) (X : PV) : (r.length < (r.map (eTerm true) ++ [X]).length) = True := by simp
theorem set_snoc' (r : List Term) (X : PV) (u : Term) : (r.map (eTerm true) ++ [X]).set r.length (eTerm true u) = (r ++ [u]).map (eTerm true) := by
  have := set_snoc (r.map (eTerm true)) X (eTerm true u)
  simp only [List.length_map, Int.toNat_natCast] at this
  rw [this]
  simp
abbrev Maps := List (PV × PV)
abbrev Arr2 := Arr
theorem len80 {r : List Term} (h : r.length ≤ 200) : ((r.map (eTerm true)).length + 1) * 80 ≤ 140737488355328 := by simp; omega
theorem snoc_e (r : List Term) (t : Term) : r.map (eTerm true) ++ [eTerm true t] = (r ++ [t]).map (eTerm true) := by simp
theorem S_of (k : Nat) (hk : 1 ≤ k) (w : Int) (a1 a2 : Arr) (n1 n2 : Int) (m1 m2 : Maps) (K : Arr → Arr → Int → Int → Maps → Maps → Int → Prop) : (TT k).f_check_checker_of w a1 a2 n1 n2 m1 m2 K = K a1 a2 n1 n2 m1 m2 w := by
  obtain ⟨k, rfl⟩ : ∃ k', k = k' + 1 := ⟨k - 1, by omega⟩
  rfl
theorem ins_loop {q : QEnv} {m1 m2 : Maps} (hq : ChkOK q m1 m2) (m : Bool) (k : Nat) (hk : 80 ≤ k) (a2 a3 : Arr) (n5 : Int) (a4 a5 a6 : Arr) (b1 : Bool) (t : Table) (es : List Expr) (hle : es.length = t.columns.length) (h16 : es.length ≤ 16)
    (K0 K1 : Arr → Arr → Int → Int → Maps → Maps → Int → Arr → Arr → Arr → Bool → List PV → Prop) : ∀ (l pre : List Expr) (lc pc : List S_api_Column) (r : List Term) (n : Nat), es = pre ++ l → t.columns = pc ++ lc → pre.length = pc.length → (∀ e ∈ l, fineE 16 e) → l.length < n → r.length = pre.length →
      (∃ r' : List PV, L_check_checker_insert_0 (TT k) n (lst m (es.map (eExpr m))) ((es.length : Nat) : Int) (pre.length : Nat) a2 a3 0 0 m1 m2 n5 a4 a5 a6 b1 (r.map (eTerm true)) (sTable m t) K0 K1 =
      tell (insE q l lc) (fun ts => K1 a2 a3 0 0 m1 m2 n5 a4 a5 a6 b1 ((r ++ ts).map (eTerm true))) (fun c a => K0 a2 a3 c a m1 m2 n5 a4 a5 a6 b1 r'))
  | [], pre, lc, pc, r, n, e1, e2, hp, _, hn, _ => by
    obtain ⟨n, rfl⟩ : ∃ n', n = n' + 1 := ⟨n - 1, by simp at hn; omega⟩
    have hpl : es.length = pre.length := by rw [e1]; simp
    refine ⟨[], ?_⟩
    simp [L_check_checker_insert_0, B_check_checker_insert_0, insE, tell, hpl]
  | x :: l, pre, [], pc, r, n, e1, e2, hp, _, hn, _ => by
    have h1 : es.length = pre.length + (l.length + 1) := by rw [e1]; simp
    have h2 : t.columns.length = pc.length := by rw [e2]; simp
    omega
  | x :: l, pre, c :: lc, pc, r, n, e1, e2, hp, hf, hn, hr => by
    simp only [List.length_cons] at hn
    obtain ⟨n, rfl⟩ : ∃ n', n = n' + 1 := ⟨n - 1, by omega⟩
    have hlen : es.length = pre.length + (l.length + 1) := by rw [e1]; simp
    have hlen' : t.columns.length = pc.length + (lc.length + 1) := by rw [e2]; simp
    have hi : pre.length < es.length := by omega
    have hi' : pre.length < t.columns.length := by omega
    have hx : es[pre.length] = x := by simp [e1]
    have hc : t.columns[pre.length] = c := by simp [e2, hp]
    have hcol : (sTable m t).Columns = lst m (t.columns.map eCol) := rfl
    have hstep : ∀ (r' : List PV), L_check_checker_insert_0 (TT k) (n + 1) (lst m (es.map (eExpr m))) ((es.length : Nat) : Int) (pre.length : Nat) a2 a3 0 0 m1 m2 n5 a4 a5 a6 b1 (r.map (eTerm true)) (sTable m t) K0 K1 =
        tell (ofE q c.Type_ x) (fun u => L_check_checker_insert_0 (TT k) n (lst m (es.map (eExpr m))) ((es.length : Nat) : Int) ((pre.length + 1 : Nat) : Int) a2 a3 0 0 m1 m2 n5 a4 a5 a6 b1 ((r ++ [u]).map (eTerm true)) (sTable m t) K0 K1) (fun c a => K0 a2 a3 c a m1 m2 n5 a4 a5 a6 b1 (r.map (eTerm true))) := by
      intro r'
      simp only [L_check_checker_insert_0, B_check_checker_insert_0]
      rw [W_succ (by omega)]
      simp only [Int.toNat_natCast, lst_map_g hi, hx, as_Expr, hcol, lst_map_g hi', hc, as_Column, lst_n, List.length_map, Int.ofNat_lt, hi, hi', Int.natCast_nonneg, true_and, decide_true, br_t, S_of k (by omega), S_of1 hq m k (by omega) x (hf x (.head _)), tell]
      cases ofE q c.Type_ x with
      | error f => rfl
      | ok u =>
        simp only [Bool.not_true, br_f, eTerm_fold]
        have hb : (r.length + 1) * 80 ≤ 140737488355328 := by omega
        rw [and_l hb]
        simp only [snoc_lt', true_and, set_snoc']
    obtain ⟨r', h'⟩ : ∃ r' : List PV, ∀ u, ofE q c.Type_ x = .ok u → L_check_checker_insert_0 (TT k) n (lst m (es.map (eExpr m))) ((es.length : Nat) : Int) ((pre.length + 1 : Nat) : Int) a2 a3 0 0 m1 m2 n5 a4 a5 a6 b1 ((r ++ [u]).map (eTerm true)) (sTable m t) K0 K1 =
        tell (insE q l lc) (fun ts => K1 a2 a3 0 0 m1 m2 n5 a4 a5 a6 b1 ((r ++ [u] ++ ts).map (eTerm true))) (fun c a => K0 a2 a3 c a m1 m2 n5 a4 a5 a6 b1 r') := by
      cases hx : ofE q c.Type_ x with
      | error f => exact ⟨[], fun u h => by cases h⟩
      | ok u =>
        obtain ⟨r', h⟩ := ins_loop hq m k hk a2 a3 n5 a4 a5 a6 b1 t es hle h16 K0 K1 l (pre ++ [x]) lc (pc ++ [c]) (r ++ [u]) n (by rw [e1]; simp) (by rw [e2]; simp) (by simp [hp]) (fun y hy => hf y (.tail _ hy)) (by omega) (by simp [hr])
        simp only [snoc_len] at h
        refine ⟨r', fun u' hu => ?_⟩
        injection hu with hu
        subst hu
        exact h
    rw [hstep []]
    simp only [insE]
    cases hx : ofE q c.Type_ x with
    | error f => exact ⟨r.map (eTerm true), rfl⟩
    | ok u =>
      refine ⟨r', ?_⟩
      have h'' := h' u hx
      simp only [tell] at h'' ⊢
      rw [h'']
      cases insE q l lc <;> simp
theorem S_insert {q : QEnv} {m1 m2 : Maps} (hq : ChkOK q m1 m2) (m : Bool) (k : Nat) (hk : 90 ≤ k) (s : Stmt) (t : Table) (h16 : s.items.length ≤ 16) (hf : ∀ e ∈ s.items, fineE 16 e) (a2 a3 : Arr) (n5 : Int) (a4 a5 a6 : Arr) (b1 : Bool)
    (K0 : Arr → Arr → Int → Int → Maps → Maps → Int → Arr → Arr → Arr → Bool → Prop) (K1 : Bool → Arr → Arr → Int → Int → Maps → Maps → Int → Arr → Arr → Arr → Bool → List PV → Prop) :
    ∃ X : Int → Int → Prop, (TT k).f_check_checker_insert (sStmt m s) (sTable m t) a2 a3 0 0 m1 m2 n5 a4 a5 a6 b1 K0 K1 = tell (insertE q s t) (fun ts => K1 true a2 a3 0 0 m1 m2 n5 a4 a5 a6 b1 (ts.map (eTerm true))) X ∧
      ∀ c a, X c a = K0 a2 a3 c a m1 m2 n5 a4 a5 a6 b1 ∨ ∃ r', X c a = K1 false a2 a3 c a m1 m2 n5 a4 a5 a6 b1 r' := by
  obtain ⟨k, rfl⟩ : ∃ k', k = k' + 2 := ⟨k - 2, by omega⟩
  have hi : (sStmt m s).Items = lst m (s.items.map (eExpr m)) := rfl
  have ha : (sStmt m s).At = s.at_ := rfl
  have hcol : (sTable m t).Columns = lst m (t.columns.map eCol) := rfl
  have hF : (TT (k + 2)).f_check_checker_insert (sStmt m s) (sTable m t) a2 a3 0 0 m1 m2 n5 a4 a5 a6 b1 K0 K1 = F_check_checker_insert (TT (k + 1)) (sStmt m s) (sTable m t) a2 a3 0 0 m1 m2 n5 a4 a5 a6 b1 K0 K1 := rfl
  rw [hF]
  simp only [F_check_checker_insert, hi, ha, hcol, lst_n, List.length_map, TT_fuel, S_fails (k + 1) (by omega), insertE, bne_dec]
  have e0 : decide (((s.items.length : Nat) : Int) = ((t.columns.length : Nat) : Int)) = decide (s.items.length = t.columns.length) := decide_eq_decide.2 (by omega)
  rw [e0, br_not]
  by_cases he : s.items.length = t.columns.length
  · have : ¬ s.items.length ≠ t.columns.length := fun h => h he
    rw [if_neg this, decide_eq_true he, br_t]
    obtain ⟨r', h⟩ := ins_loop hq m (k + 1) (by omega) a2 a3 n5 a4 a5 a6 b1 t s.items he h16 (fun a75 a76 n77 n78 m79 m80 n81 a82 a83 a84 b85 r86 => K1 false a75 a76 n77 n78 m79 m80 n81 a82 a83 a84 b85 r86) (fun a87 a88 n89 n90 m91 m92 n93 a94 a95 a96 b97 r98 => K1 true a87 a88 n89 n90 m91 m92 n93 a94 a95 a96 b97 r98) s.items [] t.columns [] [] (k + 1) rfl rfl rfl hf (by omega) rfl
    have z : ((0 : Nat) : Int) = 0 := rfl
    simp only [List.length_nil, List.map_nil, z, List.nil_append] at h
    exact ⟨_, h, fun c a => .inr ⟨r', rfl⟩⟩
  · rw [if_pos he, decide_eq_false he, br_f]
    exact ⟨fun c a => K0 a2 a3 c a m1 m2 n5 a4 a5 a6 b1, rfl, fun c a => .inl rfl⟩
end Go.RX
namespace Go.RX
def cntI (ns : List Int) (x : Int) : Option PV := if memG x ns = true then some (.int .i64 1) else none
theorem cntI_get {m : Maps} {ns : List Int} (h : IsMap eI m (cntI ns)) (x : Int) (K : Int → Prop) : asI_i64 ((look (.int .i64 x) m).getD (.int .i64 0)) K = K (bif memG x ns then 1 else 0) := by
  have := h.look x
  simp only [eI] at this
  rw [this, cntI]
  cases memG x ns <;> rfl
theorem cntI_again {m : Maps} {ns : List Int} (h : IsMap eI m (cntI ns)) (x v : Int) (K : Int → Prop) : asI_i64 ((look (.int .i64 x) (setK (.int .i64 x) (.int .i64 v) m)).getD (.int .i64 0)) K = K v := by
  have hs := look_setK (key := eI) (eqK_int .i64) x x (.int .i64 v) m h.keys
  rw [if_pos rfl] at hs
  simp only [eI] at hs
  rw [hs]
  rfl
theorem cntI_set {m : Maps} {ns : List Int} (h : IsMap eI m (cntI ns)) (x : Int) : IsMap eI (setK (.int .i64 x) (.int .i64 1) m) (cntI (x :: ns)) := by
  refine ⟨keys_setK (key := eI) x _ m h.keys, fun b => ?_⟩
  have := look_setK (key := eI) (eqK_int .i64) x b (.int .i64 1) m h.keys
  simp only [eI] at this ⊢
  rw [this]
  have hl := h.look b
  simp only [eI] at hl
  rw [hl]
  by_cases e : b = x
  · have hmg : memG b (x :: ns) = true := memG_iff.2 (by simp [e])
    rw [if_pos e, cntI, if_pos hmg]
  · have hmg : memG b (x :: ns) = memG b ns := by
      rw [Bool.eq_iff_iff, memG_iff, memG_iff]
      simp [e]
    rw [if_neg e, cntI, cntI, hmg]
theorem colOf_lt {t : Table} {n : ByteArray} {j : Nat} (h : colOf t n = some j) : j < t.columns.length := by
  obtain ⟨-, h1, -⟩ := findL_some h
  simpa using h1
theorem typeAt_eq {t : Table} {j : Nat} (h : j < t.columns.length) : typeAt t j = t.columns[j].Type_ := by simp [typeAt, h]
theorem upd_loop {q : QEnv} {m1 m2 : Maps} (hq : ChkOK q m1 m2) (m : Bool) (k : Nat) (hk : 80 ≤ k) (a2 a3 : Arr) (n5 : Int) (a4 a5 a6 : Arr) (b1 : Bool) (t : Table) (ht : t.columns.length ≤ 16)
    (K0 K1 : Arr → Arr → Int → Int → Maps → Maps → Int → Arr → Arr → Arr → Bool → List PV → List PV → Prop) (Z : Int → Int → Prop) (hZ : ∀ c a r r', K0 a2 a3 c a m1 m2 n5 a4 a5 a6 b1 r r' = Z c a) : ∀ (l : List Set_) (pre : List PV) (r : List Term) (js ns : List Int) (m3 : Maps) (n : Nat), (∀ x ∈ l, fineE 16 x.expr) → l.length < n → pre.length + l.length ≤ 16 → r.length = pre.length → js.length = pre.length → IsMap eI m3 (cntI ns) →
      L_check_checker_update_0 (TT k) n (lst m (pre ++ l.map (eSet m))) ((pre ++ l.map (eSet m)).length : Nat) (pre.length : Nat) a2 a3 0 0 m1 m2 n5 a4 a5 a6 b1 (r.map (eTerm true)) (js.map eI) (sTable m t) m3 K0 K1 =
      tell (updE q t ns l) (fun x => K1 a2 a3 0 0 m1 m2 n5 a4 a5 a6 b1 ((r ++ x.1).map (eTerm true)) ((js ++ x.2).map eI)) Z
  | [], pre, r, js, ns, m3, n, _, hn, _, _, _, _ => by
    obtain ⟨n, rfl⟩ : ∃ n', n = n' + 1 := ⟨n - 1, by simp at hn; omega⟩
    simp [L_check_checker_update_0, B_check_checker_update_0, updE, tell]
  | x :: l, pre, r, js, ns, m3, n, hf, hn, hp, hr, hj, hm => by
    simp only [List.length_cons] at hn hp
    obtain ⟨n, rfl⟩ : ∃ n', n = n' + 1 := ⟨n - 1, by omega⟩
    have hcol : (sTable m t).Columns = lst m (t.columns.map eCol) := rfl
    have hnm : (sSet m x).Name = x.name := rfl
    have hat : (sSet m x).At = x.at_ := rfl
    have h2 : S_api_Expr.mk (sSet m x).Expr_Kind (sSet m x).Expr_Op (sSet m x).Expr_Value_Kind (sSet m x).Expr_Value_Int (sSet m x).Expr_Value_Text (sSet m x).Expr_Table (sSet m x).Expr_Name (sSet m x).Expr_Kids (sSet m x).Expr_At = sExpr m x.expr := rfl
    simp only [L_check_checker_update_0, B_check_checker_update_0]
    rw [W_succ (by omega)]
    simp only [List.map_cons, mid_lt, decide_true, br_t, lst_n, Int.natCast_nonneg, true_and, Int.toNat_natCast, lst_g, getD_mid, as_Set, hnm, hat, h2, S_check_columnOf k m t x.name ht (by omega), S_fails k (by omega), hZ, updE]
    cases hc : colOf t x.name with
    | none => rfl
    | some j =>
      have hlt := colOf_lt hc
      have e0 : decide (idxOf (some j) < 0) = false := decide_eq_false (by simp only [idxOf]; omega)
      have e1 : idxOf (some j) = ((j : Nat) : Int) := rfl
      have hlt' : ((j : Nat) : Int) < ((t.columns.length : Nat) : Int) := by omega
      rw [e0, br_f, e1]
      simp only [cntI_get hm, cntI_again hm, Int.toNat_natCast, Int.natCast_nonneg, hcol, lst_n, List.length_map, hlt', true_and]
      cases hmem : memG ((j : Nat) : Int) ns
      · have w1 : W ((0 : Int) + 1) = 1 := by decide
        have w2 : decide ((1 : Int) > 1) = false := by decide
        have hgc := lst_map_g (m := m) (f := eCol) hlt
        simp only [cond_false, w1, w2, br_f, hgc, as_Column, S_of k (by omega), S_of1 hq m k (by omega) x.expr (hf x (.head _)), typeAt_eq hlt, Bool.false_eq_true, if_false]
        cases hx : ofE q t.columns[j].Type_ x.expr with
        | error f => simp [tell, hZ]
        | ok u =>
          have e := upd_loop hq m k hk a2 a3 n5 a4 a5 a6 b1 t ht K0 K1 Z hZ l (pre ++ [eSet m x]) (r ++ [u]) (js ++ [((j : Nat) : Int)]) (((j : Nat) : Int) :: ns) _ n (fun y hy => hf y (.tail _ hy)) (by omega) (by simp; omega) (by simp [hr]) (by simp [hj]) (cntI_set hm ((j : Nat) : Int))
          simp only [snoc_app, snoc_len] at e
          have hb : ((r.map (eTerm true)).length + 1) * 80 ≤ 140737488355328 := by simp; omega
          have hb2 : ((js.map eI).length + 1) * 8 ≤ 140737488355328 := by simp; omega
          have e3 : js.map eI ++ [PV.int .i64 ((j : Nat) : Int)] = (js ++ [((j : Nat) : Int)]).map eI := by simp [eI]
          simp only [tell, Bool.not_true, br_f, eTerm_fold]
          simp only [List.length_map] at hb hb2 ⊢
          rw [and_l hb, and_l hb2, snoc_e, e3]
          rw [e]
          cases updE q t (((j : Nat) : Int) :: ns) l <;> simp [tell]
      · have w1 : W ((1 : Int) + 1) = 2 := by decide
        have w2 : decide ((2 : Int) > 1) = true := by decide
        simp only [cond_true, w1, w2, br_t, if_true]
        rfl
theorem grp_loop {q : QEnv} {m1 m2 : Maps} (hq : ChkOK q m1 m2) (m : Bool) (k : Nat) (hk : 80 ≤ k) (a2 a3 : Arr) (n5 : Int) (a4 a5 a6 : Arr) (b1 : Bool)
    (K0 : Arr → Arr → Int → Int → Maps → Maps → Int → Arr → Arr → Arr → Bool → List PV → Prop) (K1 : Arr → Arr → Int → Int → Maps → Maps → Int → Arr → Arr → Arr → Bool → List PV → Maps → Prop) (Z : Int → Int → Prop) (hZ : ∀ c a r, K0 a2 a3 c a m1 m2 n5 a4 a5 a6 b1 r = Z c a) : ∀ (l : List Expr) (pre : List PV) (js ns : List Int) (m3 : Maps) (n : Nat), (∀ x ∈ l, fineE 16 x) → l.length < n → pre.length + l.length ≤ 16 → js.length = pre.length → IsMap eI m3 (cntI ns) → (∀ x, x ∈ ns ↔ x ∈ js) →
      ∃ m4, L_check_checker_groups_0 (TT k) n (lst m (pre ++ l.map (eExpr m))) ((pre ++ l.map (eExpr m)).length : Nat) (pre.length : Nat) a2 a3 0 0 m1 m2 n5 a4 a5 a6 b1 (js.map eI) m3 K0 K1 =
      tell (grpE q ns l) (fun x => K1 a2 a3 0 0 m1 m2 n5 a4 a5 a6 b1 ((js ++ x).map eI) m4) Z ∧ ∀ gs, grpE q ns l = .ok gs → ∃ ns', IsMap eI m4 (cntI ns') ∧ ∀ x, x ∈ ns' ↔ x ∈ js ++ gs
  | [], pre, js, ns, m3, n, _, hn, _, _, hm, hmem => by
    obtain ⟨n, rfl⟩ : ∃ n', n = n' + 1 := ⟨n - 1, by simp at hn; omega⟩
    refine ⟨m3, ?_, fun gs h => ?_⟩
    · simp [L_check_checker_groups_0, B_check_checker_groups_0, grpE, tell]
    · injection h with h
      subst h
      exact ⟨ns, hm, by simpa using hmem⟩
  | x :: l, pre, js, ns, m3, n, hf, hn, hp, hj, hm, hmem => by
    simp only [List.length_cons] at hn hp
    obtain ⟨n, rfl⟩ : ∃ n', n = n' + 1 := ⟨n - 1, by omega⟩
    have hat : (sExpr m x).At = x.at_ := rfl
    simp only [L_check_checker_groups_0, B_check_checker_groups_0]
    rw [W_succ (by omega)]
    simp only [List.map_cons, mid_lt, decide_true, br_t, lst_n, Int.natCast_nonneg, true_and, Int.toNat_natCast, lst_g, getD_mid, as_Expr, hat, S_term hq m 16 k x (hf x (.head _)) (by omega), S_fails k (by omega), hZ, grpE]
    cases hx : askE q 16 x with
    | error f => exact ⟨[], by simp [tell, hZ], fun gs h => by cases h⟩
    | ok u =>
      have hnum : (sTerm true u).Num = u.num := rfl
      simp only [tell, Bool.not_true, br_f, hnum, cntI_get hm, cntI_again hm]
      cases hmm : memG u.num ns
      · have w1 : W ((0 : Int) + 1) = 1 := by decide
        have w2 : decide ((1 : Int) > 1) = false := by decide
        obtain ⟨m4, e, he⟩ := grp_loop hq m k hk a2 a3 n5 a4 a5 a6 b1 K0 K1 Z hZ l (pre ++ [eExpr m x]) (js ++ [u.num]) (u.num :: ns) _ n (fun y hy => hf y (.tail _ hy)) (by omega) (by simp; omega) (by simp [hj]) (cntI_set hm u.num) (fun y => by simp [hmem]; exact or_comm)
        simp only [snoc_app, snoc_len] at e
        refine ⟨m4, ?_, fun gs h => ?_⟩
        · have hb2 : ((js.map eI).length + 1) * 8 ≤ 140737488355328 := by simp; omega
          have e3 : js.map eI ++ [PV.int .i64 u.num] = (js ++ [u.num]).map eI := by simp [eI]
          simp only [cond_false, w1, w2, br_f, Bool.false_eq_true, if_false]
          rw [and_l hb2, e3, e]
          cases grpE q (u.num :: ns) l <;> simp [tell]
        · simp only [Bool.false_eq_true, if_false] at h
          cases hg : grpE q (u.num :: ns) l with
          | error f => rw [hg] at h; cases h
          | ok gs' =>
            rw [hg] at h
            injection h with h
            subst h
            obtain ⟨ns', h1, h2⟩ := he gs' hg
            exact ⟨ns', h1, by simpa using h2⟩
      · have w1 : W ((1 : Int) + 1) = 2 := by decide
        have w2 : decide ((2 : Int) > 1) = true := by decide
        refine ⟨[], ?_, fun gs h => ?_⟩
        · simp only [cond_true, w1, w2, br_t, if_true]
        · simp at h
end Go.RX
namespace Go.RX
theorem S_isAgg (k : Nat) (hk : 1 ≤ k) (n : Int) (K : Bool → Prop) : (TT k).f_check_aggregate n K = K (isAgg n) := by
  obtain ⟨k, rfl⟩ : ∃ k', k = k' + 1 := ⟨k - 1, by omega⟩
  show F_check_aggregate (TT k) n K = _
  simp only [F_check_aggregate, br_K, isAgg]
  have : decide (n ≥ 11) = decide (11 ≤ n) := rfl
  rw [this]
  cases decide (11 ≤ n) <;> rfl
theorem itm0 (m : Bool) (k : Nat) (hk : 80 ≤ k) (a2 a3 : Arr) (n3 n4 : Int) (m1 m2 : Maps) (n5 : Int) (a4 a5 a6 : Arr) (r1 : List PV) (m3 : Maps) (x1 : S_api_Stmt)
    (K0 : Arr → Arr → Int → Int → Maps → Maps → Int → Arr → Arr → Arr → Bool → List PV → Maps → S_api_Stmt → Prop) : ∀ (l : List Expr) (pre : List PV) (b1 : Bool) (n : Nat), l.length < n → pre.length + l.length ≤ 16 →
      L_check_checker_items_0 (TT k) n (lst m (pre ++ l.map (eExpr m))) ((pre ++ l.map (eExpr m)).length : Nat) (pre.length : Nat) a2 a3 n3 n4 m1 m2 n5 a4 a5 a6 b1 r1 m3 x1 K0 =
      K0 a2 a3 n3 n4 m1 m2 n5 a4 a5 a6 (b1 || l.any fun e => isAgg e.kind) r1 m3 x1
  | [], pre, b1, n, hn, _ => by
    obtain ⟨n, rfl⟩ : ∃ n', n = n' + 1 := ⟨n - 1, by simp at hn; omega⟩
    simp [L_check_checker_items_0, B_check_checker_items_0]
  | x :: l, pre, b1, n, hn, hp => by
    simp only [List.length_cons] at hn hp
    obtain ⟨n, rfl⟩ : ∃ n', n = n' + 1 := ⟨n - 1, by omega⟩
    have e := fun b => itm0 m k hk a2 a3 n3 n4 m1 m2 n5 a4 a5 a6 r1 m3 x1 K0 l (pre ++ [eExpr m x]) b n (by omega) (by simp; omega)
    simp only [snoc_app, snoc_len] at e
    have hkd : (sExpr m x).Kind = x.kind := rfl
    simp only [L_check_checker_items_0, B_check_checker_items_0]
    rw [W_succ (by omega)]
    simp only [List.map_cons, mid_lt, decide_true, br_t, lst_n, Int.natCast_nonneg, true_and, Int.toNat_natCast, lst_g, getD_mid, as_Expr, hkd, S_isAgg k (by omega), e, List.any_cons]
    cases b1 <;> simp
theorem itm2 {q : QEnv} {m1 m2 : Maps} (hq : ChkOK q m1 m2) (m : Bool) (k : Nat) (hk : 80 ≤ k) (a2 a3 : Arr) (n5 : Int) (a4 a5 a6 : Arr) (b1 : Bool) (r1 : List PV) (m3 : Maps) (ns gs : List Int) (hm : IsMap eI m3 (cntI ns)) (hmem : ∀ x, x ∈ ns ↔ x ∈ gs)
    (K0 K1 : Arr → Arr → Int → Int → Maps → Maps → Int → Arr → Arr → Arr → Bool → List PV → Maps → List PV → Prop) (Z : Int → Int → Prop) (hZ : ∀ c a r, K0 a2 a3 c a m1 m2 n5 a4 a5 a6 b1 r1 m3 r = Z c a) : ∀ (l : List Expr) (pre : List PV) (r : List Term) (n : Nat), (∀ x ∈ l, fineE 16 x) → l.length < n → pre.length + l.length ≤ 16 → r.length = pre.length →
      L_check_checker_items_2 (TT k) n (lst m (pre ++ l.map (eExpr m))) ((pre ++ l.map (eExpr m)).length : Nat) (pre.length : Nat) a2 a3 0 0 m1 m2 n5 a4 a5 a6 b1 r1 m3 (r.map (eTerm true)) K0 K1 =
      tell (mapE (itemE q b1 gs) l) (fun x => K1 a2 a3 0 0 m1 m2 n5 a4 a5 a6 b1 r1 m3 ((r ++ x).map (eTerm true))) Z
  | [], pre, r, n, _, hn, _, _ => by
    obtain ⟨n, rfl⟩ : ∃ n', n = n' + 1 := ⟨n - 1, by simp at hn; omega⟩
    simp [L_check_checker_items_2, B_check_checker_items_2, mapE, tell]
  | x :: l, pre, r, n, hf, hn, hp, hr => by
    simp only [List.length_cons] at hn hp
    obtain ⟨n, rfl⟩ : ∃ n', n = n' + 1 := ⟨n - 1, by omega⟩
    have hat : (sExpr m x).At = x.at_ := rfl
    simp only [L_check_checker_items_2, B_check_checker_items_2]
    rw [W_succ (by omega)]
    simp only [List.map_cons, mid_lt, decide_true, br_t, lst_n, Int.natCast_nonneg, true_and, Int.toNat_natCast, lst_g, getD_mid, as_Expr, hat, S_term hq m 16 k x (hf x (.head _)) (by omega), S_fails k (by omega), hZ, mapE]
    cases hx : askE q 16 x with
    | error f => simp [tell, hZ, itemE, hx]
    | ok u =>
      have hnum : (sTerm true u).Num = u.num := rfl
      have hop : (sTerm true u).Op = u.op := rfl
      have e := itm2 hq m k hk a2 a3 n5 a4 a5 a6 b1 r1 m3 ns gs hm hmem K0 K1 Z hZ l (pre ++ [eExpr m x]) (r ++ [u]) n (fun y hy => hf y (.tail _ hy)) (by omega) (by simp; omega) (by simp [hr])
      simp only [snoc_app, snoc_len] at e
      have hb : (r.length + 1) * 80 ≤ 140737488355328 := by omega
      have hmg : memG u.num ns = memG u.num gs := by rw [Bool.eq_iff_iff, memG_iff, memG_iff]; exact hmem u.num
      simp only [tell, Bool.not_true, br_f, hnum, hop, cntI_get hm, S_isAgg k (by omega), eTerm_fold, List.length_map, snoc_lt', set_snoc', true_and, and_l hb, e, bne_dec, beq_dec, br_not, hmg]
      have hi : itemE q b1 gs x = if (b1 && !isAgg u.op && !(decide (u.op = 3) && memG u.num gs)) = true then .error (130, x.at_) else .ok u := by rw [itemE, hx]
      rw [hi]
      have c0 : decide ((1 : Int) = 0) = false := by decide
      have c1 : decide ((0 : Int) = 0) = true := by decide
      generalize mapE (itemE q b1 gs) l = X
      cases b1
      · cases X <;> rfl
      · cases isAgg u.op
        · cases decide (u.op = 3)
          · cases X <;> rfl
          · cases memG u.num gs
            · simp only [cond_false, c1, br_t]
              cases X <;> rfl
            · simp only [cond_true, c0, br_f, br_t]
              cases X <;> rfl
        · cases X <;> rfl
theorem snoc_ltI (r : List Term) (X : PV) : (((r.length : Nat) : Int) < (((r.map (eTerm true) ++ [X]).length : Nat) : Int)) = True := by simp; omega
theorem starTerms_append : ∀ (a b : List S_api_Column) (i : Nat), starTerms i (a ++ b) = starTerms i a ++ starTerms (i + a.length) b
  | [], b, i => by simp [starTerms]
  | c :: a, b, i => by
    simp only [List.cons_append, starTerms, List.length_cons]
    rw [starTerms_append a b]
    have : i + 1 + a.length = i + (a.length + 1) := by omega
    rw [this]
theorem starTerms_len : ∀ (a : List S_api_Column) (i : Nat), (starTerms i a).length = a.length
  | [], _ => rfl
  | c :: a, i => by simp [starTerms, starTerms_len a]
theorem star2 (m : Bool) (k : Nat) (a1 : Arr) (n1 n2 : Int) (a3 a4 : Arr) (n5 n6 : Int) (m1 m2 : Maps) (n7 : Int) (a5 a6 a7 : Arr) (b1 : Bool) (r1 : List PV) (x1 : S_api_Stmt)
    (K0 : Arr → Int → Int → Arr → Arr → Int → Int → Maps → Maps → Int → Arr → Arr → Arr → Bool → List PV → List PV → S_api_Stmt → Prop) : ∀ (l : List S_api_Column) (pre : List PV) (cs : List S_api_Column) (n : Nat), l.length < n → pre.length + l.length ≤ 16 → cs.length + l.length ≤ 100 →
      L_check_checker_star_2 (TT k) n a1 n1 n2 (lst m (pre ++ l.map eCol)) ((pre ++ l.map eCol).length : Nat) (pre.length : Nat) a3 a4 n5 n6 m1 m2 n7 a5 a6 a7 b1 r1 ((starTerms 0 cs).map (eTerm true)) x1 K0 =
      K0 a1 n1 n2 a3 a4 n5 n6 m1 m2 n7 a5 a6 a7 b1 r1 ((starTerms 0 (cs ++ l)).map (eTerm true)) x1
  | [], pre, cs, n, hn, _, _ => by
    obtain ⟨n, rfl⟩ : ∃ n', n = n' + 1 := ⟨n - 1, by simp at hn; omega⟩
    simp [L_check_checker_star_2, B_check_checker_star_2]
  | c :: l, pre, cs, n, hn, hp, hc => by
    simp only [List.length_cons] at hn hp hc
    obtain ⟨n, rfl⟩ : ∃ n', n = n' + 1 := ⟨n - 1, by omega⟩
    have e := star2 m k a1 n1 n2 a3 a4 n5 n6 m1 m2 n7 a5 a6 a7 b1 r1 x1 K0 l (pre ++ [eCol c]) (cs ++ [c]) n (by omega) (by simp; omega) (by simp; omega)
    simp only [snoc_app, snoc_len] at e
    have hb : ((starTerms 0 cs).length + 1) * 80 ≤ 140737488355328 := by rw [starTerms_len]; omega
    have ht : PV.agg [.int .i64 3, .int .i64 (((starTerms 0 cs).length : Nat) : Int), .int .i64 c.Type_, .int .i64 0, .int .i64 0, .str (ByteArray.mk #[]), .arr ((lst true []).m) ((lst true []).n) ((lst true []).g)] = eTerm true ⟨3, (((starTerms 0 cs).length : Nat) : Int), c.Type_, 0, 0, noB, []⟩ := by
      rw [eTerm_s]
      rfl
    have hst : starTerms 0 (cs ++ [c]) = starTerms 0 cs ++ [⟨3, (((starTerms 0 cs).length : Nat) : Int), c.Type_, 0, 0, noB, []⟩] := by
      rw [starTerms_append, starTerms_len]
      simp [starTerms]
    simp only [L_check_checker_star_2, B_check_checker_star_2]
    rw [W_succ (by omega)]
    simp only [List.length_map] at *
    have e' := e
    rw [hst] at e'
    simp only [List.map_cons, mid_lt, decide_true, br_t, Int.natCast_nonneg, true_and, Int.toNat_natCast, lst_g, getD_mid, as_Column]
    have hn1 : ((pre.length : Nat) : Int) < (((lst m (pre ++ eCol c :: l.map eCol)).n : Nat) : Int) := by simp; omega
    rw [and_l hn1, and_l hb, ht]
    simp only [snoc_ltI, true_and, set_snoc', e']
theorem star0 (m : Bool) (k : Nat) (hk : 40 ≤ k) (c : Catalog) (ks : List Int) (ts : List Table) (h : TabsAt c ks ts) (hT : TabsOK ts) (a4 : Arr) (n5 n6 : Int) (m1 m2 : Maps) (n7 : Int) (a5 a6 a7 : Arr) (b1 : Bool) (r1 : List PV) (x1 : S_api_Stmt)
    (K0 : Arr → Arr → Int → Int → Maps → Maps → Int → Arr → Arr → Arr → Bool → List PV → List PV → S_api_Stmt → Prop) : ∀ (rt : List Table) (rk pk : List Int) (pt : List Table) (n : Nat), ks = pk ++ rk → ts = pt ++ rt → pk.length = pt.length → rk.length = rt.length → rt.length < n → (colsT pt).length ≤ 16 * pt.length →
      L_check_checker_star_0 (TT k) n (lst true (ks.map eI)) ((ks.length : Nat) : Int) (pk.length : Nat) (lst m (c.tables.map (eTable m))) a4 n5 n6 m1 m2 n7 a5 a6 a7 b1 r1 ((starTerms 0 (colsT pt)).map (eTerm true)) x1 K0 =
      K0 (lst m (c.tables.map (eTable m))) a4 n5 n6 m1 m2 n7 a5 a6 a7 b1 r1 ((starTerms 0 (colsT (pt ++ rt))).map (eTerm true)) x1
  | [], rk, pk, pt, n, e1, e2, hp, hr, hn, _ => by
    obtain ⟨n, rfl⟩ : ∃ n', n = n' + 1 := ⟨n - 1, by simp at hn; omega⟩
    have : rk = [] := List.length_eq_zero_iff.1 (by simpa using hr)
    subst this
    have hpl : ks.length = pk.length := by rw [e1]; simp
    simp [L_check_checker_star_0, B_check_checker_star_0, hpl]
  | t :: rt, [], pk, pt, n, e1, e2, hp, hr, hn, _ => by simp at hr
  | t :: rt, x :: rk, pk, pt, n, e1, e2, hp, hr, hn, hrl => by
    simp only [List.length_cons] at hn hr
    obtain ⟨n, rfl⟩ : ∃ n', n = n' + 1 := ⟨n - 1, by omega⟩
    obtain ⟨q, hq1, hq2⟩ := h.get pk pt e1 e2 hp
    obtain ⟨hq3, hq4⟩ := List.getElem?_eq_some_iff.1 hq2
    obtain ⟨hc1, hc2⟩ := hT.each t (by rw [e2]; simp)
    have htwo := hT.two
    have hlt : ts.length = pt.length + (rt.length + 1) := by rw [e2]; simp
    have hlen : ks.length = pk.length + (rk.length + 1) := by rw [e1]; simp
    have hi : pk.length < ks.length := by omega
    have hx : ks[pk.length] = x := by simp [e1]
    have h3 : colsT pt ++ t.columns = colsT (pt ++ [t]) := by simp [colsT]
    have h4 := star0 m k hk c ks ts h hT a4 n5 n6 m1 m2 n7 a5 a6 a7 b1 r1 x1 K0 rt rk (pk ++ [x]) (pt ++ [t]) n (by rw [e1]; simp) (by rw [e2]; simp) (by simp [hp]) (by omega) (by omega) (by rw [← h3]; simp; omega)
    have hfuel : (TT k).fuel = k := by
      obtain ⟨k, rfl⟩ : ∃ k', k = k' + 1 := ⟨k - 1, by omega⟩
      rfl
    have hcol : (sTable m t).Columns = lst m (t.columns.map eCol) := rfl
    have hq5 : ((q : Nat) : Int) < ((c.tables.length : Nat) : Int) := by omega
    have h1 := fun K => star2 m k (lst true (ks.map eI)) ((ks.length : Nat) : Int) (pk.length : Nat) (lst m (c.tables.map (eTable m))) a4 n5 n6 m1 m2 n7 a5 a6 a7 b1 r1 x1 K t.columns [] (colsT pt) k (by omega) (by simpa using hc1) (by omega)
    simp only [List.nil_append, List.length_nil, List.length_map, h3] at h1
    have z : ((0 : Nat) : Int) = 0 := rfl
    simp only [z] at h1
    simp only [snoc_len] at h4
    simp only [L_check_checker_star_0, B_check_checker_star_0, Int.toNat_natCast, lst_map_g hi, hx, asI_eI, lst_n, List.length_map, Int.ofNat_lt, hi, Int.natCast_nonneg, true_and, decide_true, br_t, hq1, lst_map_g hq3, hq4, as_Table, hcol, hq3, hfuel, h1]
    rw [W_succ (by omega), h4]
    simp
theorem sort_loop (m : Bool) (k : Nat) (hk : 40 ≤ k) (a2 a3 : Arr) (m1 m2 : Maps) (n5 : Int) (a4 a5 a6 : Arr) (b1 : Bool) (is : List Term) (r2 : List PV) (x1 : S_api_Stmt)
    (K0 : Arr → Arr → Int → Int → Maps → Maps → Int → Arr → Arr → Arr → Bool → List PV → List PV → List PV → Prop) (K1 : Arr → Arr → Int → Int → Maps → Maps → Int → Arr → Arr → Arr → Bool → List PV → List PV → List PV → S_api_Stmt → Prop)
    (Z : Int → Int → Prop) (hZ : ∀ c a r, K0 a2 a3 c a m1 m2 n5 a4 a5 a6 b1 (is.map (eTerm true)) r2 r = Z c a) : ∀ (l : List S_api_Sort) (pre : List PV) (r : List S_api_Sort) (n : Nat), l.length < n → pre.length + l.length ≤ 16 → r.length = pre.length →
      L_check_checker_choose_0 (TT k) n (lst m (pre ++ l.map eSort)) ((pre ++ l.map eSort).length : Nat) (pre.length : Nat) a2 a3 0 0 m1 m2 n5 a4 a5 a6 b1 (is.map (eTerm true)) r2 (r.map eSort) x1 K0 K1 =
      tell (mapE (sortE is.length) l) (fun os => K1 a2 a3 0 0 m1 m2 n5 a4 a5 a6 b1 (is.map (eTerm true)) r2 ((r ++ os).map eSort) x1) Z
  | [], pre, r, n, hn, _, _ => by
    obtain ⟨n, rfl⟩ : ∃ n', n = n' + 1 := ⟨n - 1, by simp at hn; omega⟩
    simp [L_check_checker_choose_0, B_check_checker_choose_0, mapE, tell]
  | x :: l, pre, r, n, hn, hp, hr => by
    simp only [List.length_cons] at hn hp
    obtain ⟨n, rfl⟩ : ∃ n', n = n' + 1 := ⟨n - 1, by omega⟩
    have e := sort_loop m k hk a2 a3 m1 m2 n5 a4 a5 a6 b1 is r2 x1 K0 K1 Z hZ l (pre ++ [eSort x]) (r ++ [⟨x.Item, x.Desc, 0⟩]) n (by omega) (by simp; omega) (by simp [hr])
    simp only [snoc_app, snoc_len] at e
    have hb : ((r.map eSort).length + 1) * 24 ≤ 140737488355328 := by simp; omega
    have e3 : r.map eSort ++ [PV.agg [.int .i64 x.Item, .bool x.Desc, .int .i64 0]] = (r ++ [(⟨x.Item, x.Desc, 0⟩ : S_api_Sort)]).map eSort := by simp [eSort, p_api_Sort]
    simp only [L_check_checker_choose_0, B_check_checker_choose_0]
    rw [W_succ (by omega)]
    simp only [List.map_cons, mid_lt, decide_true, br_t, lst_n, Int.natCast_nonneg, true_and, Int.toNat_natCast, lst_g, getD_mid, as_Sort, S_fails k (by omega), hZ, mapE, sortE]
    rw [and_l hb, e3, e]
    simp only [List.length_map]
    by_cases h1 : x.Item < 1
    · rw [decide_eq_true h1, br_t, if_pos (.inl h1)]
      rfl
    · by_cases h2 : x.Item > ((is.length : Nat) : Int)
      · rw [decide_eq_false h1, br_f, decide_eq_true h2, br_t, if_pos (.inr h2)]
        rfl
      · have h3 : ¬ (x.Item < 1 ∨ x.Item > ((is.length : Nat) : Int)) := fun h => h.elim h1 h2
        rw [decide_eq_false h1, br_f, decide_eq_false h2, br_f, if_neg h3]
        show tell (mapE (sortE is.length) l) _ _ = _
        cases mapE (sortE is.length) l <;> simp [tell]
theorem type_loop (k : Nat) (a1 a2 : Arr) (n3 n4 : Int) (m1 m2 : Maps) (n5 : Int) (a3 a4 a5 : Arr) (b1 : Bool) (is : List Term) (h : is.length ≤ 100) (r2 r3 r4 : List PV)
    (K0 : Arr → Arr → Int → Int → Maps → Maps → Int → Arr → Arr → Arr → Bool → List PV → List PV → List PV → List PV → List PV → Prop) : ∀ (l pre : List Term) (n : Nat), is = pre ++ l → l.length < n →
      L_check_checker_choose_2 (TT k) n ((is.length : Nat) : Int) (pre.length : Nat) a1 a2 n3 n4 m1 m2 n5 a3 a4 a5 b1 (is.map (eTerm true)) r2 r3 r4 ((pre.map (·.type_)).map eI) K0 =
      K0 a1 a2 n3 n4 m1 m2 n5 a3 a4 a5 b1 (is.map (eTerm true)) r2 r3 r4 ((is.map (·.type_)).map eI)
  | [], pre, n, e1, hn => by
    obtain ⟨n, rfl⟩ : ∃ n', n = n' + 1 := ⟨n - 1, by simp at hn; omega⟩
    simp [L_check_checker_choose_2, B_check_checker_choose_2, e1]
  | x :: l, pre, n, e1, hn => by
    simp only [List.length_cons] at hn
    obtain ⟨n, rfl⟩ : ∃ n', n = n' + 1 := ⟨n - 1, by omega⟩
    have hlen : is.length = pre.length + (l.length + 1) := by rw [e1]; simp
    have hi : pre.length < is.length := by omega
    have hx : is[pre.length] = x := by simp [e1]
    have e := type_loop k a1 a2 n3 n4 m1 m2 n5 a3 a4 a5 b1 is h r2 r3 r4 K0 l (pre ++ [x]) n (by rw [e1]; simp) (by omega)
    simp only [snoc_len] at e
    have ht : (sTerm true x).Type_ = x.type_ := rfl
    have hb : (((pre.map (·.type_)).map eI).length + 1) * 8 ≤ 140737488355328 := by simp; omega
    have e3 : (pre.map (·.type_)).map eI ++ [PV.int .i64 x.type_] = ((pre ++ [x]).map (·.type_)).map eI := by simp [eI]
    have hi2 : ((pre.length : Nat) : Int) < ((is.length : Nat) : Int) := by omega
    simp only [L_check_checker_choose_2, B_check_checker_choose_2]
    rw [W_succ (by omega)]
    simp only [hi2, decide_true, br_t, Int.natCast_nonneg, true_and, Int.toNat_natCast, map_getD hi, hx, as_Term, ht]
    have hi3 : ((pre.length : Nat) : Int) < (((is.map (eTerm true)).length : Nat) : Int) := by simp; omega
    rw [and_l hi3, and_l hb, e3, e]
end Go.RX
namespace Go.RX
structure StmtOK (s : Stmt) : Prop where
  on : s.on.length ≤ 1 ∧ ∀ e ∈ s.on, fineE 16 e
  where_ : s.where_.length ≤ 1 ∧ ∀ e ∈ s.where_, fineE 16 e
  items : s.items.length ≤ 16 ∧ ∀ e ∈ s.items, fineE 16 e
  sets : s.sets.length ≤ 16 ∧ ∀ x ∈ s.sets, fineE 16 x.expr
  groups : s.groups.length ≤ 8 ∧ ∀ e ∈ s.groups, fineE 16 e
  sorts : s.sorts.length ≤ 8
  limit : s.limit.length ≤ 1
theorem stmt_ok {s : Stmt} (h : rightStmt s = true) : StmtOK s := by
  simp only [rightStmt, Bool.and_eq_true, decide_eq_true_eq, List.all_eq_true] at h
  obtain ⟨⟨⟨-, h1⟩, h2⟩, h3⟩ := h
  have hw : ∀ e ∈ s.where_, fineE 16 e := fun e he => fine_of_right (h2 e he)
  cases hk : decide (s.kind = 4)
  · rw [hk] at h3
    simp only [cond_false, restOK, Bool.and_eq_true, Bool.or_eq_true, decide_eq_true_eq, List.all_eq_true] at h3
    obtain ⟨⟨⟨⟨⟨⟨⟨⟨-, -⟩, g1⟩, g2⟩, g3⟩, g4⟩, g5⟩, g6⟩, g7⟩ := h3
    refine ⟨⟨by omega, fun e he => ?_⟩, ⟨h1, hw⟩, ⟨by omega, fun e he => fine_of_right (g5 e he)⟩, ⟨by omega, fun x hx => ?_⟩, ⟨by omega, fun e he => ?_⟩, by omega, by omega⟩
    · rw [List.length_eq_zero_iff.1 g1] at he; cases he
    · have := g6 x hx
      simp only [setOK, Bool.and_eq_true] at this
      exact fine_of_right this.2
    · rw [List.length_eq_zero_iff.1 g2] at he; cases he
  · rw [hk] at h3
    simp only [cond_true, selOK, Bool.and_eq_true, decide_eq_true_eq, List.all_eq_true, joinOK, Bool.or_eq_true] at h3
    obtain ⟨⟨⟨⟨⟨⟨⟨⟨⟨⟨⟨g1, g2⟩, g3⟩, g4⟩, g5⟩, g6⟩, -⟩, g8⟩, g9⟩, g10⟩, g11⟩, g12⟩ := h3
    refine ⟨⟨by omega, fun e he => fine_of_right (g5 e he)⟩, ⟨h1, hw⟩, ⟨by omega, fun e he => fine_item (g1 e he)⟩, ⟨by omega, fun x hx => ?_⟩, ⟨g9, fun e he => ?_⟩, g10, g11⟩
    · rw [List.length_eq_zero_iff.1 g12] at hx; cases hx
    · have := g2 e he
      simp only [groupOK, Bool.and_eq_true] at this
      exact fine_of_right this.2
theorem mapE_fail {α β : Type} {f : α → Except Flt β} {l : List α} : True := trivial
theorem S_choose {q : QEnv} {m1 m2 : Maps} (hq : ChkOK q m1 m2) (m : Bool) (k : Nat) (hk : 120 ≤ k) (c : Catalog) (ks : List Int) (ts : List Table) (h : TabsAt c ks ts) (hT : TabsOK ts) (s : Stmt) (hs : StmtOK s) (P : Arr) (n3 : Int) (a4 a5 : Arr)
    (K0 : Arr → Arr → Int → Int → Maps → Maps → Int → Arr → Arr → Arr → Bool → List PV → Prop) (K1 : Arr → Arr → Int → Int → Maps → Maps → Int → Arr → Arr → Arr → Bool → List PV → List PV → Prop)
    (K2 : Arr → Arr → Int → Int → Maps → Maps → Int → Arr → Arr → Arr → Bool → List PV → List PV → List PV → Prop) (K3 : Arr → Arr → Int → Int → Maps → Maps → Int → Arr → Arr → Arr → Bool → List PV → List PV → List PV → List PV → List PV → Prop) (Z : Int → Int → Prop)
    (h0 : ∀ x a r, K0 (lst m (c.tables.map (eTable m))) P x a m1 m2 n3 (lst true (ks.map eI)) a4 a5 false r = Z x a)
    (h1 : ∀ x a b r r', K1 (lst m (c.tables.map (eTable m))) P x a m1 m2 n3 (lst true (ks.map eI)) a4 a5 b r r' = Z x a)
    (h2 : ∀ x a b r r' r'', K2 (lst m (c.tables.map (eTable m))) P x a m1 m2 n3 (lst true (ks.map eI)) a4 a5 b r r' r'' = Z x a) :
    (TT k).f_check_checker_choose (sStmt m s) (lst m (c.tables.map (eTable m))) P 0 0 m1 m2 n3 (lst true (ks.map eI)) a4 a5 false K0 K1 K2 K3 =
      tell (chooseE q s ts) (fun x => K3 (lst m (c.tables.map (eTable m))) P 0 0 m1 m2 n3 (lst true (ks.map eI)) a4 a5 x.2.1 (x.1.map (eTerm true)) (x.2.2.1.map eI) (x.2.2.2.map eSort) (s.limit.map eI) ((x.1.map (·.type_)).map eI)) Z := by
  obtain ⟨k, rfl⟩ : ∃ k', k = k' + 3 := ⟨k - 3, by omega⟩
  have hF : (TT (k + 3)).f_check_checker_choose (sStmt m s) (lst m (c.tables.map (eTable m))) P 0 0 m1 m2 n3 (lst true (ks.map eI)) a4 a5 false K0 K1 K2 K3 = F_check_checker_choose (TT (k + 2)) (sStmt m s) (lst m (c.tables.map (eTable m))) P 0 0 m1 m2 n3 (lst true (ks.map eI)) a4 a5 false K0 K1 K2 K3 := rfl
  have hi : (sStmt m s).Items = lst m (s.items.map (eExpr m)) := rfl
  have hg : (sStmt m s).Groups = lst m (s.groups.map (eExpr m)) := rfl
  have ho : (sStmt m s).Sorts = lst m (s.sorts.map eSort) := rfl
  have hst : (sStmt m s).Star = s.star := rfl
  have hl : (sStmt m s).Limit = lst m (s.limit.map eI) := rfl
  have hat : (sStmt m s).At = s.at_ := rfl
  have z : ((0 : Nat) : Int) = 0 := rfl
  have lg := hs.groups.1
  have li := hs.items.1
  have lo := hs.sorts
  have ll := hs.limit
  have lc := colsT_len hT
  have tail : ∀ (is : List Term) (b : Bool) (gs : List Int), is.length ≤ 100 →
      L_check_checker_choose_0 (TT (k + 2)) (k + 2) (lst m (s.sorts.map eSort)) ((s.sorts.length : Nat) : Int) 0 (lst m (c.tables.map (eTable m))) P 0 0 m1 m2 n3 (lst true (ks.map eI)) a4 a5 b (is.map (eTerm true)) (gs.map eI) [] (sStmt m s)
        (fun a114 a115 n116 n117 m118 m119 n120 a121 a122 a123 b124 r125 r126 r127 => K2 a114 a115 n116 n117 m118 m119 n120 a121 a122 a123 b124 r125 r126 r127)
        (fun a128 a129 n130 n131 m132 m133 n134 a135 a136 a137 b138 r139 r140 r141 x142 =>
         (∀ i, i < x142.Limit.n → pvSize (x142.Limit.g i) = 1) ∧ ((List.range x142.Limit.n).map x142.Limit.g).length * 8 ≤ 140737488355328 ∧
         L_check_checker_choose_2 (TT (k + 2)) (k + 2) ((r139.length : Nat) : Int) 0 a128 a129 n130 n131 m132 m133 n134 a135 a136 a137 b138 r139 r140 r141 ((List.range x142.Limit.n).map x142.Limit.g) ([])
         (fun a181 a182 n183 n184 m185 m186 n187 a188 a189 a190 b191 r192 r193 r194 r195 r196 => K3 a181 a182 n183 n184 m185 m186 n187 a188 a189 a190 b191 r192 r193 r194 r195 r196)) =
      tell (mapE (sortE is.length) s.sorts) (fun os => K3 (lst m (c.tables.map (eTable m))) P 0 0 m1 m2 n3 (lst true (ks.map eI)) a4 a5 b (is.map (eTerm true)) (gs.map eI) (os.map eSort) (s.limit.map eI) ((is.map (·.type_)).map eI)) Z := by
    intro is b gs his
    have f := fun K0 K1 hZ => sort_loop m (k + 2) (by omega) (lst m (c.tables.map (eTable m))) P m1 m2 n3 (lst true (ks.map eI)) a4 a5 b is (gs.map eI) (sStmt m s) K0 K1 Z hZ s.sorts [] [] (k + 2) (by omega) (by simp; omega) rfl
    simp only [List.nil_append, List.length_nil, List.length_map, List.map_nil, z] at f
    rw [f _ _ (fun x a r => h2 x a b _ _ r)]
    congr 1
    funext os
    have hsz : (∀ i, i < s.limit.length → pvSize ((lst m (s.limit.map eI)).g i) = 1) = True := by
      simp only [eq_iff_iff, iff_true]
      intro i hi
      rw [lst_map_g hi]
      rfl
    have hr := range_lst m s.limit eI
    simp only [lst_n, List.length_map] at hr
    have g := fun r2 r3 r4 K0 => type_loop (k + 2) (lst m (c.tables.map (eTable m))) P 0 0 m1 m2 n3 (lst true (ks.map eI)) a4 a5 b is his r2 r3 r4 K0 is [] (k + 2) rfl (by omega)
    simp only [List.length_nil, List.map_nil, z] at g
    have hb : s.limit.length * 8 ≤ 140737488355328 := by omega
    simp only [hl, lst_n, List.length_map, hsz, true_and, hr]
    rw [and_l hb, g]
  rw [hF]
  simp only [F_check_checker_choose, hst]
  have hG : ∀ K0' K1', (∀ x a r, K0' (lst m (c.tables.map (eTable m))) P x a m1 m2 n3 (lst true (ks.map eI)) a4 a5 false r = Z x a) → ∃ m4, (TT (k + 2)).f_check_checker_groups (sStmt m s) (lst m (c.tables.map (eTable m))) P 0 0 m1 m2 n3 (lst true (ks.map eI)) a4 a5 false K0' K1' =
      tell (grpE q [] s.groups) (fun x => K1' (lst m (c.tables.map (eTable m))) P 0 0 m1 m2 n3 (lst true (ks.map eI)) a4 a5 false (x.map eI) m4) Z ∧ ∀ gs, grpE q [] s.groups = .ok gs → ∃ ns', IsMap eI m4 (cntI ns') ∧ ∀ x, x ∈ ns' ↔ x ∈ gs := by
    intro K0' K1' hZ'
    obtain ⟨m4, e1, e2⟩ := grp_loop hq m (k + 1) (by omega) (lst m (c.tables.map (eTable m))) P n3 (lst true (ks.map eI)) a4 a5 false (fun a67 a68 n69 n70 m71 m72 n73 a74 a75 a76 b77 r78 => K0' a67 a68 n69 n70 m71 m72 n73 a74 a75 a76 b77 r78) (fun a79 a80 n81 n82 m83 m84 n85 a86 a87 a88 b89 r90 m91 => K1' a79 a80 n81 n82 m83 m84 n85 a86 a87 a88 b89 r90 m91) Z (fun x a r => hZ' x a r) s.groups [] [] [] [] (k + 1) hs.groups.2 (by omega) (by simp; omega) rfl IsMap.nil (fun x => Iff.rfl)
    simp only [List.nil_append, List.length_nil, List.length_map, List.map_nil, z] at e1 e2
    refine ⟨m4, ?_, e2⟩
    rw [← e1]
    show F_check_checker_groups (TT (k + 1)) (sStmt m s) (lst m (c.tables.map (eTable m))) P 0 0 m1 m2 n3 (lst true (ks.map eI)) a4 a5 false K0' K1' = _
    simp only [F_check_checker_groups, hg, lst_n, List.length_map, TT_fuel]
  obtain ⟨m4, g1, g2⟩ := hG (fun _a6 _a7 _n4 _n5 _m3 _m4 _n6 _a8 _a9 _a10 _b2 _r1 => K0 _a6 _a7 _n4 _n5 _m3 _m4 _n6 _a8 _a9 _a10 _b2 _r1) _ (fun x a r => h0 x a r)
  rw [g1]
  simp only [chooseE]
  cases hgr : grpE q [] s.groups with
  | error f => rfl
  | ok gs =>
    obtain ⟨ns', g3, g4⟩ := g2 gs hgr
    simp only [tell]
    cases hstar : s.star
    ·
      simp only [br_f, Bool.false_eq_true, if_false]
      have hI : ∀ K0' : Bool → Arr → Arr → Int → Int → Maps → Maps → Int → Arr → Arr → Arr → Bool → List PV → Maps → List PV → Prop, (∀ x a r, K0' false (lst m (c.tables.map (eTable m))) P x a m1 m2 n3 (lst true (ks.map eI)) a4 a5 (groupedS s) (gs.map eI) m4 r = Z x a) →
          (TT (k + 2)).f_check_checker_items (sStmt m s) (lst m (c.tables.map (eTable m))) P 0 0 m1 m2 n3 (lst true (ks.map eI)) a4 a5 false (gs.map eI) m4 K0' =
          tell (mapE (itemE q (groupedS s) gs) s.items) (fun is => K0' true (lst m (c.tables.map (eTable m))) P 0 0 m1 m2 n3 (lst true (ks.map eI)) a4 a5 (groupedS s) (gs.map eI) m4 (is.map (eTerm true))) Z := by
        intro K0' hZ'
        have e0 := fun K0 => itm0 m (k + 1) (by omega) (lst m (c.tables.map (eTable m))) P 0 0 m1 m2 n3 (lst true (ks.map eI)) a4 a5 (gs.map eI) m4 (sStmt m s) K0 s.items [] (decide (((s.groups.length : Nat) : Int) > (0 : Int))) (k + 1) (by omega) (by simp; omega)
        simp only [List.nil_append, List.length_nil, List.length_map, z] at e0
        have hgd : (decide (((s.groups.length : Nat) : Int) > (0 : Int)) || s.items.any fun e => isAgg e.kind) = groupedS s := by
          have : decide (((s.groups.length : Nat) : Int) > (0 : Int)) = decide (s.groups.length ≠ 0) := decide_eq_decide.2 (by omega)
          rw [this, groupedS]
        rw [hgd] at e0
        have e2 := fun K0 K1 hZ => itm2 hq m (k + 1) (by omega) (lst m (c.tables.map (eTable m))) P n3 (lst true (ks.map eI)) a4 a5 (groupedS s) (gs.map eI) m4 ns' gs g3 g4 K0 K1 Z hZ s.items [] [] (k + 1) hs.items.2 (by omega) (by simp; omega) rfl
        simp only [List.nil_append, List.length_nil, List.length_map, List.map_nil, z] at e2
        show F_check_checker_items (TT (k + 1)) (sStmt m s) (lst m (c.tables.map (eTable m))) P 0 0 m1 m2 n3 (lst true (ks.map eI)) a4 a5 false (gs.map eI) m4 K0' = _
        simp only [F_check_checker_items, hg, hi, lst_n, List.length_map, TT_fuel, e0]
        exact e2 _ _ (fun x a r => hZ' x a r)
      rw [hI _ (fun x a r => by simp only [Bool.not_false, br_t]; exact h1 x a _ _ _)]
      cases hit : mapE (itemE q (groupedS s) gs) s.items with
      | error f => rfl
      | ok is =>
        have hlen := mapE_len hit
        have t := tail is (groupedS s) gs (by omega)
        have hlo : (lst m (s.sorts.map eSort)).n = s.sorts.length := by simp
        simp only [tell, Bool.not_true, br_f, ho, hlo]
        have t' := t
        simp only [tell] at t'
        rw [show (TT (k + 2)).fuel = k + 2 from rfl]
        rw [t']
        cases mapE (sortE is.length) s.sorts <;> rfl
    ·
      simp only [br_t, if_true]
      have hS : ∀ (K0' : Arr → Arr → Int → Int → Maps → Maps → Int → Arr → Arr → Arr → Bool → List PV → Prop) (K1' : Bool → Arr → Arr → Int → Int → Maps → Maps → Int → Arr → Arr → Arr → Bool → List PV → List PV → Prop), (∀ x a r, K0' (lst m (c.tables.map (eTable m))) P x a m1 m2 n3 (lst true (ks.map eI)) a4 a5 false r = Z x a) → (∀ x a r r', K1' false (lst m (c.tables.map (eTable m))) P x a m1 m2 n3 (lst true (ks.map eI)) a4 a5 false r r' = Z x a) →
          (TT (k + 2)).f_check_checker_star (sStmt m s) (lst m (c.tables.map (eTable m))) P 0 0 m1 m2 n3 (lst true (ks.map eI)) a4 a5 false (gs.map eI) K0' K1' =
          tell (starE s ts) (fun is => K1' true (lst m (c.tables.map (eTable m))) P 0 0 m1 m2 n3 (lst true (ks.map eI)) a4 a5 false (gs.map eI) (is.map (eTerm true))) Z := by
        intro K0' K1' hZ0 hZ1
        have e0 := fun K0 => star0 m (k + 1) (by omega) c ks ts h hT P 0 0 m1 m2 n3 (lst true (ks.map eI)) a4 a5 false (gs.map eI) (sStmt m s) K0 ts ks [] [] (k + 1) rfl rfl rfl h.len (by have := hT.two; omega) (by simp [colsT])
        have hc0 : colsT [] = [] := rfl
        simp only [List.nil_append, List.length_nil, hc0, starTerms, List.map_nil, z] at e0
        show F_check_checker_star (TT (k + 1)) (sStmt m s) (lst m (c.tables.map (eTable m))) P 0 0 m1 m2 n3 (lst true (ks.map eI)) a4 a5 false (gs.map eI) K0' K1' = _
        simp only [F_check_checker_star, hg, hat, lst_n, List.length_map, TT_fuel, e0, S_fails (k + 1) (by omega), starE]
        match hgs : s.groups with
        | [] =>
          have d0 : decide ((((([] : List Expr).length : Nat)) : Int) > 0) = false := rfl
          rw [d0, br_f, starTerms_len]
          by_cases h16 : (colsT ts).length > 16
          · have : decide ((((colsT ts).length : Nat) : Int) ≤ 16) = false := decide_eq_false (by omega)
            rw [this, br_f, if_pos h16, hZ1]
            rfl
          · have : decide ((((colsT ts).length : Nat) : Int) ≤ 16) = true := decide_eq_true (by omega)
            rw [this, br_t, if_neg h16]
            rfl
        | e :: r =>
          have d0 : decide (((((e :: r).length : Nat)) : Int) > 0) = true := decide_eq_true (by simp)
          have hg0 : (lst m ((e :: r).map (eExpr m))).g 0 = eExpr m e := rfl
          have d1 : (0 : Int) < ((((e :: r).length : Nat)) : Int) := by simp
          have hae : (sExpr m e).At = e.at_ := rfl
          rw [d0, br_t]
          simp only [d1, Int.le_refl, true_and, hg0, as_Expr, hae, hZ0]
          rfl
      rw [hS _ _ (fun x a r => h0 x a r) (fun x a r r' => by simp only [Bool.not_false, br_t]; exact h1 x a _ _ _)]
      cases hit : starE s ts with
      | error f => rfl
      | ok is =>
        have hlen : is.length ≤ 100 := by
          simp only [starE] at hit
          split at hit
          · cases hit
          · split at hit
            · cases hit
            · injection hit with hit
              rw [← hit, starTerms_len]
              omega
        have t := tail is false gs hlen
        have hlo : (lst m (s.sorts.map eSort)).n = s.sorts.length := by simp
        simp only [tell, Bool.not_true, br_f, ho, hlo]
        have t' := t
        simp only [tell] at t'
        rw [show (TT (k + 2)).fuel = k + 2 from rfl]
        rw [t']
        cases mapE (sortE is.length) s.sorts <;> rfl
end Go.RX
namespace Go.RX
def encP (x : Int × Int) : PV := .agg [.int .i64 x.1, .int .i64 x.2, .int .i64 0]
theorem parF_append : ∀ (a b : List S_api_Param) (i : Nat) (n : ByteArray), parF i (a ++ b) n = match parF i a n with
    | some x => some x
    | none => parF (i + a.length) b n
  | [], b, i, n => by simp [parF]
  | x :: a, b, i, n => by
    simp only [List.cons_append, parF]
    by_cases h : x.Name = n
    · simp [h]
    · simp only [if_neg h]
      rw [parF_append a b (i + 1) n]
      have : i + 1 + a.length = i + (x :: a).length := by simp; omega
      rw [this]
theorem parF_none : ∀ (a : List S_api_Param) (i : Nat) (n : ByteArray), (∀ x ∈ a, x.Name ≠ n) → parF i a n = none
  | [], _, _, _ => rfl
  | x :: a, i, n, h => by
    rw [parF, if_neg (h x (.head _)), parF_none a (i + 1) n fun y hy => h y (.tail _ hy)]
theorem begun_loop (m : Bool) (k : Nat) (ps : List S_api_Param) (hnd : (ps.map (·.Name)).Nodup) (h8 : ps.length ≤ 8) (a2 a3 : Arr) (n3 n4 : Int) (m2 : Maps) (K0 : Arr → Arr → Int → Int → Maps → Maps → Prop) : ∀ (l pre : List S_api_Param) (mp : Maps) (n : Nat), ps = pre ++ l → l.length < n → IsMap eS mp (fun x => (parF 0 pre x).map encP) →
    ∃ mp', L_check_begun_0 (TT k) n (lst m (ps.map eParam)) ((ps.length : Nat) : Int) (pre.length : Nat) a2 a3 n3 n4 mp m2 K0 = K0 a2 a3 n3 n4 mp' m2 ∧ IsMap eS mp' (fun x => (parF 0 ps x).map encP)
  | [], pre, mp, n, e1, hn, hm => by
    obtain ⟨n, rfl⟩ : ∃ n', n = n' + 1 := ⟨n - 1, by simp at hn; omega⟩
    have hpl : ps.length = pre.length := by rw [e1]; simp
    refine ⟨mp, ?_, by rw [e1]; simpa using hm⟩
    simp [L_check_begun_0, B_check_begun_0, hpl]
  | x :: l, pre, mp, n, e1, hn, hm => by
    simp only [List.length_cons] at hn
    obtain ⟨n, rfl⟩ : ∃ n', n = n' + 1 := ⟨n - 1, by omega⟩
    have hlen : ps.length = pre.length + (l.length + 1) := by rw [e1]; simp
    have hi : pre.length < ps.length := by omega
    have hx : ps[pre.length] = x := by simp [e1]
    have hno : parF 0 pre x.Name = none := by
      apply parF_none
      intro y hy e
      rw [e1] at hnd
      simp only [List.map_append, List.map_cons] at hnd
      have := List.nodup_append.1 hnd
      exact this.2.2 y.Name (List.mem_map_of_mem hy) x.Name (.head _) e
    have hm' : IsMap eS (setK (eS x.Name) (encP (((pre.length : Nat) : Int), x.Type_)) mp) (fun y => (parF 0 (pre ++ [x]) y).map encP) := by
      refine ⟨keys_setK x.Name _ mp hm.keys, fun b => ?_⟩
      rw [look_setK (key := eS) eqK_str x.Name b _ mp hm.keys, hm.look, parF_append]
      by_cases e : b = x.Name
      · subst e
        rw [if_pos rfl, hno]
        simp [parF]
      · rw [if_neg e]
        have : ¬ x.Name = b := fun h => e h.symm
        cases parF 0 pre b with
        | some y => rfl
        | none => simp [parF, this]
    obtain ⟨mp', h1, h2⟩ := begun_loop m k ps hnd h8 a2 a3 n3 n4 m2 K0 l (pre ++ [x]) _ n (by rw [e1]; simp) (by omega) hm'
    simp only [snoc_len] at h1
    refine ⟨mp', ?_, h2⟩
    rw [← h1]
    simp only [L_check_begun_0, B_check_begun_0]
    rw [W_succ (by omega)]
    have hi2 : ((pre.length : Nat) : Int) < ((ps.length : Nat) : Int) := by omega
    simp only [hi2, decide_true, br_t, Int.natCast_nonneg, true_and, Int.toNat_natCast, lst_n, List.length_map, lst_map_g hi, hx, as_Param]
    rfl
theorem S_begun (k M : Nat) (hM : M < 1152921504606846976) (hk : M + 120 ≤ k) (m : Bool) (c : Catalog) (hc : c.Fits M) (ps : List S_api_Param) (hp : ParsFit M ps) (K0 : Prop) (K1 : Arr → Arr → Int → Int → Maps → Maps → Prop) :
    if rightCat c = true ∧ rightPars ps = true then ∃ mp, (TT k).f_check_begun (sCatalog m c) (lst m (ps.map eParam)) K0 K1 = K1 (lst m (c.tables.map (eTable m))) (lst m (c.procs.map (eProc m))) 0 0 mp [] ∧ IsMap eS mp (fun x => (parF 0 ps x).map encP)
    else (TT k).f_check_begun (sCatalog m c) (lst m (ps.map eParam)) K0 K1 = K0 := by
  obtain ⟨k, rfl⟩ : ∃ k', k = k' + 2 := ⟨k - 2, by omega⟩
  have hF : (TT (k + 2)).f_check_begun (sCatalog m c) (lst m (ps.map eParam)) K0 K1 = F_check_begun (TT (k + 1)) (sCatalog m c) (lst m (ps.map eParam)) K0 K1 := rfl
  rw [hF]
  simp only [F_check_begun, S_catalog_Right (k + 1) M (by omega) (by omega) m c hc, S_check_rightParams (k + 1) M (by omega) (by omega) m ps hp, br_not]
  cases h1 : rightCat c
  · simp
  cases h2 : rightPars ps
  · simp
  simp only [br_t, and_self, if_true]
  simp only [rightPars, Bool.and_eq_true, decide_eq_true_eq, okF_iff] at h2
  obtain ⟨mp, e1, e2⟩ := begun_loop m (k + 1) ps h2.1.2.1 h2.2 (sCatalog m c).Tables (sCatalog m c).Procs 0 0 [] (fun a23 a24 n25 n26 m27 m28 => K1 a23 a24 n25 n26 m27 m28) ps [] [] (k + 1) rfl (by omega) (by simpa [parF] using IsMap.nil)
  refine ⟨mp, ?_, e2⟩
  simp only [List.length_nil] at e1
  simp only [lst_n, List.length_map, TT_fuel]
  exact e1
theorem tab_facts {c : Catalog} (h : rightCat c = true) : c.tables.length ≤ 8 ∧ ∀ t ∈ c.tables, t.columns.length ≤ 16 ∧ (t.columns.map (·.Name)).Nodup ∧ t.name ≠ noB := by
  simp only [rightCat, Bool.and_eq_true, decide_eq_true_eq, okF_iff] at h
  refine ⟨h.1.1.1, fun t ht => ?_⟩
  have := h.1.2.1 t ht
  simp only [tabOK, mayTable, Bool.and_eq_true, decide_eq_true_eq, okF_iff] at this
  obtain ⟨hn, ⟨⟨⟨⟨⟨⟨⟨⟨-, -⟩, h16⟩, -⟩, hcol⟩, -⟩, -⟩, -⟩, -⟩⟩ := this
  refine ⟨h16, hcol.2.1, fun e => ?_⟩
  rw [e] at hn
  exact absurd hn (by decide)
theorem names_facts {c : Catalog} {s : Stmt} {ks : List Int} (h : rightCat c = true) (hn : namesE c s = .ok ks) : ∃ t r, tabsOf c ks = t :: r ∧ (∃ n : Nat, ks.head? = some (n : Int) ∧ c.tables[n]? = some t) ∧ TabsAt c ks (tabsOf c ks) ∧ TabsOK (tabsOf c ks) ∧ ∀ t ∈ tabsOf c ks, t.name ≠ noB := by
  obtain ⟨-, hT⟩ := tab_facts h
  have one : ∀ k, tabOf c s.table = some k → ∃ t, c.tables[k]? = some t ∧ t ∈ c.tables := fun k hk => by
    have := tabOf_lt hk
    exact ⟨c.tables[k], by simp [this], List.getElem_mem this⟩
  have two : ∀ k, tabOf c s.join = some k → ∃ t, c.tables[k]? = some t ∧ t ∈ c.tables := fun k hk => by
    have := tabOf_lt hk
    exact ⟨c.tables[k], by simp [this], List.getElem_mem this⟩
  simp only [namesE] at hn
  split at hn
  · cases hn
  · rename_i k hk
    obtain ⟨t, ht, htm⟩ := one k hk
    split at hn
    · injection hn with hn
      subst hn
      have e : tabsOf c [((k : Nat) : Int)] = [t] := by simp [tabsOf, ht]
      rw [e]
      refine ⟨t, [], rfl, ⟨k, rfl, ht⟩, ⟨⟨k, rfl, ht⟩, trivial⟩, ⟨by simp, ?_⟩, ?_⟩
      · intro x hx
        rw [List.mem_singleton] at hx
        subst hx
        exact ⟨(hT _ htm).1, (hT _ htm).2.1⟩
      · intro x hx
        rw [List.mem_singleton] at hx
        subst hx
        exact (hT _ htm).2.2
    · split at hn
      · cases hn
      · rename_i j hj
        obtain ⟨u, hu, hum⟩ := two j hj
        split at hn
        · cases hn
        · injection hn with hn
          subst hn
          have e : tabsOf c [((k : Nat) : Int), ((j : Nat) : Int)] = [t, u] := by simp [tabsOf, ht, hu]
          rw [e]
          refine ⟨t, [u], rfl, ⟨k, rfl, ht⟩, ⟨⟨k, rfl, ht⟩, ⟨j, rfl, hu⟩, trivial⟩, ⟨by simp, ?_⟩, ?_⟩
          · intro x hx
            rcases List.mem_cons.1 hx with rfl | hx
            · exact ⟨(hT _ htm).1, (hT _ htm).2.1⟩
            · rw [List.mem_singleton] at hx
              subst hx
              exact ⟨(hT _ hum).1, (hT _ hum).2.1⟩
          · intro x hx
            rcases List.mem_cons.1 hx with rfl | hx
            · exact (hT _ htm).2.2
            · rw [List.mem_singleton] at hx
              subst hx
              exact (hT _ hum).2.2
def zTyped : Typed := ⟨0, [], [], [], [], [], false, [], [], [], []⟩
theorem S_statement (k : Nat) (hk : 150 ≤ k) (m : Bool) (c : Catalog) (hc : rightCat c = true) (ps : List S_api_Param) (s : Stmt) (hs : StmtOK s) (mp : Maps) (hmp : IsMap eS mp (fun x => (parF 0 ps x).map encP)) (K : S_api_Typed → Bool → Arr → Arr → Int → Int → Maps → Maps → Prop) (Z : Int → Int → Prop) (hZ : ∀ ty a b x y m1 m2, K ty false a b x y m1 m2 = Z x y) (Y : S_api_Typed → Prop) (hY : ∀ ty a b x y m1 m2, K ty true a b x y m1 m2 = Y ty) :
    (TT k).f_check_checker_statement (sStmt m s) (lst m (c.tables.map (eTable m))) (lst m (c.procs.map (eProc m))) 0 0 mp [] K = tell (stmtE c ps s) (fun t => Y (sTyped true t)) Z := by
  obtain ⟨k, rfl⟩ : ∃ k', k = k' + 1 := ⟨k - 1, by omega⟩
  have hF : (TT (k + 1)).f_check_checker_statement (sStmt m s) (lst m (c.tables.map (eTable m))) (lst m (c.procs.map (eProc m))) 0 0 mp [] K = F_check_checker_statement (TT k) (sStmt m s) (lst m (c.tables.map (eTable m))) (lst m (c.procs.map (eProc m))) 0 0 mp [] K := rfl
  have hkd : (sStmt m s).Kind = s.kind := rfl
  have hon : (sStmt m s).On = lst m (s.on.map (eExpr m)) := rfl
  have hwh : (sStmt m s).Where = lst m (s.where_.map (eExpr m)) := rfl
  rw [hF]
  simp only [F_check_checker_statement, S_names m k (by omega) c (tab_facts hc).1 s mp [], stmtE]
  cases hn : namesE c s with
  | error f => simp only [tell, Bool.not_false, br_t, hZ]
  | ok ks =>
    obtain ⟨t, r, ht, ⟨n0, hn1, hn2⟩, hat, hT, hnm⟩ := names_facts hc hn
    obtain ⟨hq3, hq4⟩ := List.getElem?_eq_some_iff.1 hn2
    obtain ⟨kr, hkr⟩ : ∃ kr, ks = ((n0 : Nat) : Int) :: kr := by
      cases ks with
      | nil => cases hn1
      | cons a b =>
        simp only [List.head?_cons, Option.some.injEq] at hn1
        exact ⟨b, by rw [hn1]⟩
    have hg0 : (lst true (ks.map eI)).g 0 = eI ((n0 : Nat) : Int) := by rw [hkr]; rfl
    have hl0 : (0 : Int) < (((lst true (ks.map eI)).n : Nat) : Int) := by rw [hkr]; simp only [lst_n, List.length_map, List.length_cons]; omega
    have hq5 : ((n0 : Nat) : Int) < (((lst m (c.tables.map (eTable m))).n : Nat) : Int) := by simp only [lst_n, List.length_map]; omega
    have hparam : ∀ x, look (.str x) mp = ((parF 0 ps x).map fun x => .agg [.int .i64 x.1, .int .i64 x.2, .int .i64 0]) := fun x => hmp.look x
    simp only [tell, Bool.not_true, br_f, hkd, bne_dec, br_not, beq_dec, ht]
    have rest : ∀ (ts : List Table) (m2 : Maps), ChkOK (envOf ps ts) mp m2 → (s.kind ≠ 1 → ts = tabsOf c ks) → (s.kind = 1 → ts = []) →
        ((TT k).f_check_checker_truths (sStmt m s).On (lst m (c.tables.map (eTable m))) (lst m (c.procs.map (eProc m))) 0 0 mp m2
         (fun _a8 _b2 _a9 _a10 _n7 _n8 _m7 _m8 =>
         br _b2
         ((TT k).f_check_checker_truths (sStmt m s).Where _a9 _a10 _n7 _n8 _m7 _m8
         (fun _a11 _b3 _a12 _a13 _n9 _n10 _m9 _m10 =>
         br _b3
         (0 ≤ (0 : Int) ∧ (0 : Int) < (((lst true (ks.map eI)).n : Nat) : Int) ∧
         asI_i64 ((lst true (ks.map eI)).g 0) fun n31 =>
         0 ≤ n31 ∧ n31 < ((_a12.n : Nat) : Int) ∧
         as_api_Table (_a12.g (n31.toNat)) fun x32 =>
         br (decide (s.kind = 1))
         ((TT k).f_check_checker_insert (sStmt m s) x32 _a12 _a13 _n9 _n10 _m9 _m10 s.kind (lst true (ks.map eI)) _a8 _a11 false
         (fun _a14 _a15 _n11 _n12 _m11 _m12 _n13 _a16 _a17 _a18 _b4 =>
         K ⟨_n13, _a16, _a17, _a18, (lst true []), (lst true []), _b4, (lst true []), (lst true []), (lst true []), (lst true [])⟩ false _a14 _a15 _n11 _n12 _m11 _m12)
         (fun _b5 _a19 _a20 _n14 _n15 _m13 _m14 _n16 _a21 _a22 _a23 _b6 _r1 =>
         K ⟨_n16, _a21, _a22, _a23, (lst true _r1), (lst true []), _b6, (lst true []), (lst true []), (lst true []), (lst true [])⟩ _b5 _a19 _a20 _n14 _n15 _m13 _m14))
         (br (decide (s.kind = 2))
         ((TT k).f_check_checker_update (sStmt m s) x32 _a12 _a13 _n9 _n10 _m9 _m10 s.kind (lst true (ks.map eI)) _a8 _a11 false
         (fun _b7 _a24 _a25 _n17 _n18 _m15 _m16 _n19 _a26 _a27 _a28 _b8 _r2 _r3 =>
         K ⟨_n19, _a26, _a27, _a28, (lst true _r2), (lst true _r3), _b8, (lst true []), (lst true []), (lst true []), (lst true [])⟩ _b7 _a24 _a25 _n17 _n18 _m15 _m16))
         (br (decide (s.kind = 4))
         ((TT k).f_check_checker_choose (sStmt m s) _a12 _a13 _n9 _n10 _m9 _m10 s.kind (lst true (ks.map eI)) _a8 _a11 false
         (fun _a29 _a30 _n20 _n21 _m17 _m18 _n22 _a31 _a32 _a33 _b9 _r4 =>
         K ⟨_n22, _a31, _a32, _a33, (lst true []), (lst true []), _b9, (lst true _r4), (lst true []), (lst true []), (lst true [])⟩ false _a29 _a30 _n20 _n21 _m17 _m18)
         (fun _a34 _a35 _n23 _n24 _m19 _m20 _n25 _a36 _a37 _a38 _b10 _r5 _r6 =>
         K ⟨_n25, _a36, _a37, _a38, (lst true _r5), (lst true []), _b10, (lst true _r6), (lst true []), (lst true []), (lst true [])⟩ false _a34 _a35 _n23 _n24 _m19 _m20)
         (fun _a39 _a40 _n26 _n27 _m21 _m22 _n28 _a41 _a42 _a43 _b11 _r7 _r8 _r9 =>
         K ⟨_n28, _a41, _a42, _a43, (lst true _r7), (lst true []), _b11, (lst true _r8), (lst true _r9), (lst true []), (lst true [])⟩ false _a39 _a40 _n26 _n27 _m21 _m22)
         (fun _a44 _a45 _n29 _n30 _m23 _m24 _n31 _a46 _a47 _a48 _b12 _r10 _r11 _r12 _r13 _r14 =>
         K ⟨_n31, _a46, _a47, _a48, (lst true _r10), (lst true []), _b12, (lst true _r11), (lst true _r12), (lst true _r13), (lst true _r14)⟩ true _a44 _a45 _n29 _n30 _m23 _m24))
         (K ⟨s.kind, (lst true (ks.map eI)), _a8, _a11, (lst true []), (lst true []), false, (lst true []), (lst true []), (lst true []), (lst true [])⟩ _b3 _a12 _a13 _n9 _n10 _m9 _m10))))
         (K ⟨s.kind, (lst true (ks.map eI)), _a8, _a11, (lst true []), (lst true []), false, (lst true []), (lst true []), (lst true []), (lst true [])⟩ false _a12 _a13 _n9 _n10 _m9 _m10)))
         (K ⟨s.kind, (lst true (ks.map eI)), _a8, (lst true []), (lst true []), (lst true []), false, (lst true []), (lst true []), (lst true []), (lst true [])⟩ false _a9 _a10 _n7 _n8 _m7 _m8))) =
        tell (match mapE (ofE (envOf ps (if s.kind = 1 then [] else tabsOf c ks)) 2) s.on with
          | .error f => .error f
          | .ok on => match mapE (ofE (envOf ps (if s.kind = 1 then [] else tabsOf c ks)) 2) s.where_ with
            | .error f => .error f
            | .ok wh =>
                if s.kind = 1 then match insertE (envOf ps []) s t with
                  | .error f => .error f
                  | .ok is => .ok ⟨s.kind, ks, on, wh, is, [], false, [], [], [], []⟩
                else if s.kind = 2 then match updE (envOf ps (tabsOf c ks)) t [] s.sets with
                  | .error f => .error f
                  | .ok (is, js) => .ok ⟨s.kind, ks, on, wh, is, js, false, [], [], [], []⟩
                else if s.kind = 4 then match chooseE (envOf ps (tabsOf c ks)) s (tabsOf c ks) with
                  | .error f => .error f
                  | .ok (is, g, gs, os) => .ok ⟨s.kind, ks, on, wh, is, [], g, gs, os, s.limit, is.map (·.type_)⟩
                else .ok ⟨s.kind, ks, on, wh, [], [], false, [], [], [], []⟩) (fun t => Y (sTyped true t)) Z := by
      intro ts m2 hq hts1 hts2
      have hts : (if s.kind = 1 then [] else tabsOf c ks) = ts := by
        by_cases h : s.kind = 1
        · rw [if_pos h, hts2 h]
        · rw [if_neg h, hts1 h]
      rw [hts, hon, hwh]
      simp only [S_truths hq m k (by omega) s.on hs.on.1 hs.on.2]
      cases mapE (ofE (envOf ps ts) 2) s.on with
      | error f => simp only [tell, br_f, hZ]
      | ok on =>
        simp only [tell, br_t, S_truths hq m k (by omega) s.where_ hs.where_.1 hs.where_.2]
        cases mapE (ofE (envOf ps ts) 2) s.where_ with
        | error f => simp only [br_f, hZ]
        | ok wh =>
          simp only [br_t, hl0, hg0, asI_eI, hq5, Int.le_refl, Int.natCast_nonneg, true_and, Int.toNat_natCast, lst_map_g hq3, hq4, as_Table]
          have htm : t ∈ c.tables := by rw [← hq4]; exact List.getElem_mem hq3
          by_cases k1 : s.kind = 1
          · rw [decide_eq_true k1, br_t, if_pos k1]
            have hts0 := hts2 k1
            subst hts0
            obtain ⟨X, h1, h2⟩ := S_insert hq m k (by omega) s t hs.items.1 hs.items.2 (lst m (c.tables.map (eTable m))) (lst m (c.procs.map (eProc m))) s.kind (lst true (ks.map eI)) (lst true (on.map (eTerm true))) (lst true (wh.map (eTerm true))) false _ _
            rw [h1]
            cases insertE (envOf ps []) s t with
            | error f =>
              simp only [tell]
              rcases h2 f.1 f.2 with h | ⟨r', h⟩
              · rw [h, hZ]
              · rw [h, hZ]
            | ok is => simp only [tell, hY]; rfl
          · rw [decide_eq_false k1, br_f, if_neg k1]
            have hts0 := hts1 k1
            by_cases k2 : s.kind = 2
            · rw [decide_eq_true k2, br_t, if_pos k2]
              obtain ⟨k, rfl⟩ : ∃ k', k = k' + 2 := ⟨k - 2, by omega⟩
              have hse : (sStmt m s).Sets = lst m (s.sets.map (eSet m)) := rfl
              have u := fun K0 K1 hz => upd_loop hq m (k + 1) (by omega) (lst m (c.tables.map (eTable m))) (lst m (c.procs.map (eProc m))) s.kind (lst true (ks.map eI)) (lst true (on.map (eTerm true))) (lst true (wh.map (eTerm true))) false t ((tab_facts hc).2 t htm).1 K0 K1 Z hz s.sets [] [] [] [] [] (k + 1) hs.sets.2 (by have := hs.sets.1; omega) (by have := hs.sets.1; simp; omega) rfl rfl IsMap.nil
              have z : ((0 : Nat) : Int) = 0 := rfl
              simp only [List.nil_append, List.length_nil, List.length_map, List.map_nil, z] at u
              have hU : ∀ K0, (TT (k + 2)).f_check_checker_update (sStmt m s) (sTable m t) (lst m (c.tables.map (eTable m))) (lst m (c.procs.map (eProc m))) 0 0 mp m2 s.kind (lst true (ks.map eI)) (lst true (on.map (eTerm true))) (lst true (wh.map (eTerm true))) false K0 = F_check_checker_update (TT (k + 1)) (sStmt m s) (sTable m t) (lst m (c.tables.map (eTable m))) (lst m (c.procs.map (eProc m))) 0 0 mp m2 s.kind (lst true (ks.map eI)) (lst true (on.map (eTerm true))) (lst true (wh.map (eTerm true))) false K0 := fun K0 => rfl
              rw [hU]
              simp only [F_check_checker_update, hse, lst_n, List.length_map, TT_fuel]
              rw [u _ _ (fun x a r r' => hZ _ _ _ _ _ _ _), hts0]
              cases updE (envOf ps (tabsOf c ks)) t [] s.sets with
              | error f => rfl
              | ok x => simp only [tell, hY]; rfl
            · rw [decide_eq_false k2, br_f, if_neg k2]
              by_cases k4 : s.kind = 4
              · rw [decide_eq_true k4, br_t, if_pos k4]
                have hq' := hq
                rw [hts0] at hq'
                rw [S_choose hq' m k (by omega) c ks (tabsOf c ks) hat hT s hs (lst m (c.procs.map (eProc m))) s.kind (lst true (on.map (eTerm true))) (lst true (wh.map (eTerm true))) _ _ _ _ Z (fun x a r => hZ _ _ _ _ _ _ _) (fun x a b r r' => hZ _ _ _ _ _ _ _) (fun x a b r r' r'' => hZ _ _ _ _ _ _ _)]
                cases chooseE (envOf ps (tabsOf c ks)) s (tabsOf c ks) with
                | error f => rfl
                | ok x => simp only [tell, hY]; rfl
              · rw [decide_eq_false k4, br_f, if_neg k4, hY]
                rfl
    by_cases k1 : s.kind = 1
    · rw [decide_eq_true k1, br_t]
      have hq : ChkOK (envOf ps []) mp [] := ⟨hparam, fun t n => rfl⟩
      have := rest [] [] hq (fun h => absurd k1 h) (fun _ => rfl)
      rw [ht, decide_eq_true k1] at this
      simp only [tell] at this ⊢
      exact this
    · rw [decide_eq_false k1, br_f]
      obtain ⟨m2, h1, h2⟩ := S_open (k := k) (by omega) c ks (tabsOf c ks) hat hT hnm m (lst m (c.procs.map (eProc m))) mp _
      rw [h1]
      have hq : ChkOK (envOf ps (tabsOf c ks)) mp m2 := ⟨hparam, fun t n => h2.get t n⟩
      have := rest (tabsOf c ks) m2 hq (fun _ => rfl) (fun h => absurd h k1)
      rw [ht, decide_eq_false k1] at this
      simp only [tell] at this ⊢
      exact this
end Go.RX
namespace Go.RX
theorem S_check_Check (k M : Nat) (hM : M < 1152921504606846976) (hk : M + 300 ≤ k) (m : Bool) (c : Catalog) (hc : c.Fits M) (ps : List S_api_Param) (hp : ParsFit M ps) (s : Stmt) (hs : s.Fits M) (K : S_api_Typed → S_api_Fault → Prop) :
    (TT k).f_check_Check (sCatalog m c) (lst m (ps.map eParam)) (sStmt m s) K = tell (checkE c ps s) (fun t => K (sTyped true t) ⟨0, 0⟩) (fun x a => K (sTyped true zTyped) ⟨x, a⟩) := by
  obtain ⟨k, rfl⟩ : ∃ k', k = k' + 1 := ⟨k - 1, by omega⟩
  have hF : (TT (k + 1)).f_check_Check (sCatalog m c) (lst m (ps.map eParam)) (sStmt m s) K = F_check_Check (TT k) (sCatalog m c) (lst m (ps.map eParam)) (sStmt m s) K := rfl
  rw [hF]
  simp only [F_check_Check, checkE]
  have hb := S_begun k M hM (by omega) m c hc ps hp (K ⟨0, (lst true []), (lst true []), (lst true []), (lst true []), (lst true []), false, (lst true []), (lst true []), (lst true []), (lst true [])⟩ ⟨80, 0⟩)
    (fun _a2 _a1 _n1 _n2 _m1 _m2 =>
     (TT k).f_syntax_Right (sStmt m s)
     (fun _b1 =>
     br (!_b1)
     (K ⟨0, (lst true []), (lst true []), (lst true []), (lst true []), (lst true []), false, (lst true []), (lst true []), (lst true []), (lst true [])⟩ ⟨120, 0⟩)
     ((TT k).f_check_checker_statement (sStmt m s) _a2 _a1 _n1 _n2 _m1 _m2
     (fun _x3 _b2 _a3 _a4 _n3 _n4 _m3 _m4 =>
     br (!_b2)
     (K ⟨0, (lst true []), (lst true []), (lst true []), (lst true []), (lst true []), false, (lst true []), (lst true []), (lst true []), (lst true [])⟩ ⟨_n3, _n4⟩)
     (K _x3 ⟨0, 0⟩)))))
  by_cases h : rightCat c = true ∧ rightPars ps = true
  · rw [if_pos h] at hb
    obtain ⟨mp, h1, h2⟩ := hb
    rw [h1, if_pos h, S_syntax_Right M k hM (by omega) m s hs]
    cases hr : rightStmt s
    · rfl
    · simp only [Bool.not_true, br_f, if_true]
      rw [S_statement k (by omega) m c h.1 ps s (stmt_ok hr) mp h2 _ (fun x a => K (sTyped true zTyped) ⟨x, a⟩) (fun _ _ _ _ _ _ _ => rfl) (fun ty => K ty ⟨0, 0⟩) (fun _ _ _ _ _ _ _ => rfl)]
  · rw [if_neg h] at hb
    rw [hb, if_neg h]
    rfl
end Go.RX
