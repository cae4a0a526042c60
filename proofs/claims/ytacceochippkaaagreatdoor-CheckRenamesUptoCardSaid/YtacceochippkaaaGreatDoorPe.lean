/- The law in plain Lean, with no program in sight. No condition. -/
import Derived.Test.YtacceochippkaaaGreatDoorPd
import Derived.KernelRfl
set_option linter.all false
namespace Go.RX
def nT : ByteArray := ByteArray.mk #[116]
def nA : ByteArray := ByteArray.mk #[97]
def nP : ByteArray := ByteArray.mk #[112]
def oT : ByteArray := ByteArray.mk #[111, 116, 104, 101, 114, 95, 116]
def oA : ByteArray := ByteArray.mk #[111, 116, 104, 101, 114, 95, 97]
def oP : ByteArray := ByteArray.mk #[111, 116, 104, 101, 114, 95, 112]
def sub1 (a b x : ByteArray) : ByteArray := if x = a then b else x
abbrev rT := sub1 nT oT
abbrev rA := sub1 nA oA
abbrev rP := sub1 nP oP
theorem sub1_inj {a b x y : ByteArray} (hx : x ≠ b) (hy : y ≠ b) : (sub1 a b x = sub1 a b y) ↔ x = y := by
  unfold sub1
  by_cases h1 : x = a
  · by_cases h2 : y = a
    · simp [h1, h2]
    · simp only [h1, h2, if_true, if_false]
      exact ⟨fun h => absurd h.symm hy, fun h => absurd h.symm h2⟩
  · by_cases h2 : y = a
    · simp only [h1, h2, if_true, if_false]
      exact ⟨fun h => absurd h hx, fun h => h.elim⟩
    · simp [h1, h2]
theorem sub1_dec {a b x y : ByteArray} (hx : x ≠ b) (hy : y ≠ b) : decide (sub1 a b x = sub1 a b y) = decide (x = y) := by
  rw [Bool.eq_iff_iff]; simp only [decide_eq_true_eq]; exact sub1_inj hx hy
theorem sub1_noB {a b : ByteArray} (ha : a ≠ noB) (hb : b ≠ noB) (x : ByteArray) : (sub1 a b x = noB) ↔ x = noB := by
  unfold sub1
  by_cases h : x = a
  · simp only [h, if_true]; exact ⟨fun e => absurd e hb, fun e => absurd e ha⟩
  · simp only [h, if_false]
theorem sub1_noB' {a b : ByteArray} (ha : a ≠ noB) (hb : b ≠ noB) (x : ByteArray) : decide (sub1 a b x = noB) = decide (x = noB) := by
  rw [Bool.eq_iff_iff]; simp only [decide_eq_true_eq]; exact sub1_noB ha hb x
theorem sub1_name {a b : ByteArray} (ha : isName a = true) (hb : isName b = true) (x : ByteArray) : isName (sub1 a b x) = isName x := by
  unfold sub1
  by_cases h : x = a
  · simp only [h, if_true]; rw [ha, hb]
  · simp only [h, if_false]
theorem nT_no : nT ≠ noB := by decide
theorem nA_no : nA ≠ noB := by decide
theorem nP_no : nP ≠ noB := by decide
theorem oT_no : oT ≠ noB := by decide
theorem oA_no : oA ≠ noB := by decide
theorem oP_no : oP ≠ noB := by decide
theorem nT_name : isName nT = true := by kernel_rfl
theorem nA_name : isName nA = true := by kernel_rfl
theorem nP_name : isName nP = true := by kernel_rfl
theorem oT_name : isName oT = true := by kernel_rfl
theorem oA_name : isName oA = true := by kernel_rfl
theorem oP_name : isName oP = true := by kernel_rfl
def renCol (c : S_api_Column) : S_api_Column := { c with Name := rA c.Name }
def renTab (t : Table) : Table := { t with name := rT t.name, columns := t.columns.map renCol }
def renCat (c : Catalog) : Catalog := { c with tables := c.tables.map renTab }
def renPar (p : S_api_Param) : S_api_Param := { p with Name := rP p.Name }
def renN (k : Int) (n : ByteArray) : ByteArray := if k = 3 then rA n else if k = 2 then rP n else n
mutual
def renE : Expr → Expr
  | .mk k o vk vi vt t n kids a => .mk k o vk vi vt (rT t) (renN k n) (renEs kids) a
def renEs : List Expr → List Expr
  | [] => []
  | x :: r => renE x :: renEs r
end
theorem renEs_eq : ∀ l, renEs l = l.map renE
  | [] => rfl
  | x :: r => by simp only [renEs, List.map_cons, renEs_eq r]
def renSet (x : Set_) : Set_ := { x with name := rA x.name, expr := renE x.expr }
def renStmt (s : Stmt) : Stmt := { s with table := rT s.table, join := rT s.join, on := s.on.map renE, where_ := s.where_.map renE, items := s.items.map renE, groups := s.groups.map renE, sets := s.sets.map renSet }
mutual
def freeE : Expr → Prop
  | .mk k o vk vi vt t n kids a => n ≠ oA ∧ n ≠ oP ∧ t ≠ oT ∧ freeEs kids
def freeEs : List Expr → Prop
  | [] => True
  | x :: r => freeE x ∧ freeEs r
end
theorem freeEs_iff : ∀ l, freeEs l ↔ ∀ x ∈ l, freeE x
  | [] => by simp [freeEs]
  | x :: r => by simp [freeEs, freeEs_iff r]
theorem freeE_iff (e : Expr) : freeE e ↔ e.name ≠ oA ∧ e.name ≠ oP ∧ e.table ≠ oT ∧ ∀ x ∈ e.kids, freeE x := by
  cases e; simp only [freeE, freeEs_iff, Expr.name, Expr.table, Expr.kids]
structure FreeTab (t : Table) : Prop where
  name : t.name ≠ oT
  cols : ∀ c ∈ t.columns, c.Name ≠ oA
def FreeCat (c : Catalog) : Prop := ∀ t ∈ c.tables, FreeTab t
def FreePars (l : List S_api_Param) : Prop := ∀ p ∈ l, p.Name ≠ oP
structure FreeStmt (s : Stmt) : Prop where
  table : s.table ≠ oT
  join : s.join ≠ oT
  on : ∀ e ∈ s.on, freeE e
  where_ : ∀ e ∈ s.where_, freeE e
  items : ∀ e ∈ s.items, freeE e
  groups : ∀ e ∈ s.groups, freeE e
  sets : ∀ x ∈ s.sets, x.name ≠ oA ∧ freeE x.expr
section
variable (e : Expr)
theorem ren_kind : (renE e).kind = e.kind := by cases e; rfl
theorem ren_op : (renE e).op = e.op := by cases e; rfl
theorem ren_vkind : (renE e).vkind = e.vkind := by cases e; rfl
theorem ren_vint : (renE e).vint = e.vint := by cases e; rfl
theorem ren_vtext : (renE e).vtext = e.vtext := by cases e; rfl
theorem ren_at : (renE e).at_ = e.at_ := by cases e; rfl
theorem ren_table : (renE e).table = rT e.table := by cases e; rfl
theorem ren_name : (renE e).name = renN e.kind e.name := by cases e; rfl
theorem ren_kids : (renE e).kids = e.kids.map renE := by cases e; simp only [renE, Expr.kids, renEs_eq]
end
theorem memG_map {α β : Type} [DecidableEq α] [DecidableEq β] {g : α → β} {x : α} : ∀ {ns : List α}, (∀ y ∈ ns, decide (g y = g x) = decide (y = x)) → memG (g x) (ns.map g) = memG x ns
  | [], _ => rfl
  | y :: ns, h => by
    have ih := memG_map (ns := ns) fun z hz => h z (.tail _ hz)
    simp only [memG, List.map_cons, List.any_cons] at ih ⊢
    rw [ih, h y (.head _)]
theorem okF_map {α β : Type} [DecidableEq α] {p p' : β → Bool} {key : β → α} {f : β → β} {g : α → α} (Pr : α → Prop) (hg : ∀ x y, Pr x → Pr y → decide (g x = g y) = decide (x = y)) : ∀ {l : List β} {ns : List α}, (∀ x ∈ l, p' (f x) = p x ∧ key (f x) = g (key x) ∧ Pr (key x)) → (∀ n ∈ ns, Pr n) →
    okF p' key (ns.map g) (l.map f) = okF p key ns l
  | [], _, _, _ => rfl
  | x :: l, ns, hl, hn => by
    obtain ⟨h1, h2, h3⟩ := hl x (.head _)
    have ih := okF_map Pr hg (l := l) (ns := key x :: ns) (fun y hy => hl y (.tail _ hy)) (fun n h => by
      cases h with
      | head => exact h3
      | tail _ h => exact hn n h)
    simp only [List.map_cons] at ih
    simp only [List.map_cons, okF, h1, h2, ih]
    rw [memG_map fun y hy => hg y (key x) (hn y hy) h3]
theorem ren_notNull (cols : List S_api_Column) (n : Int) : notNull (cols.map renCol) n = notNull cols n := by
  unfold notNull
  rw [List.getElem?_map]
  cases cols[n.toNat]? <;> rfl
theorem ren_mayTable {t : Table} (h : FreeTab t) : mayTable (renTab t) = mayTable t := by
  have h1 : okF colOK (·.Name) [] (renTab t).columns = okF colOK (·.Name) [] t.columns :=
    okF_map (ns := []) (p := colOK) (p' := colOK) (key := fun c : S_api_Column => c.Name) (f := renCol) (g := rA) (fun x => x ≠ oA) (fun x y hx hy => sub1_dec hx hy) (fun x hx => ⟨by simp only [colOK, renCol]; rw [sub1_name nA_name oA_name], rfl, h.cols x hx⟩) (fun n hn => by cases hn)
  have h2 : (notNull (renTab t).columns) = notNull t.columns := funext (ren_notNull t.columns)
  have hl : (renTab t).columns.length = t.columns.length := List.length_map ..
  have hn : isName (renTab t).name = isName t.name := sub1_name nT_name oT_name _
  have e1 : (renTab t).indexes = t.indexes := rfl
  have e2 : (renTab t).key = t.key := rfl
  have e3 : (renTab t).part = t.part := rfl
  simp only [mayTable, h1, h2, hl, hn, e1, e2, e3]
theorem ren_rightCat {c : Catalog} (h : FreeCat c) : rightCat (renCat c) = rightCat c := by
  simp only [rightCat, renCat, List.length_map]
  have h1 : okF tabOK (·.name) [] (c.tables.map renTab) = okF tabOK (·.name) [] c.tables :=
    okF_map (ns := []) (p := tabOK) (p' := tabOK) (key := fun c : Table => c.name) (f := renTab) (g := rT) (fun x => x ≠ oT) (fun x y hx hy => sub1_dec hx hy) (fun x hx => ⟨by simp only [tabOK]; rw [ren_mayTable (h x hx)]; show (isName (rT x.name) && _) = _; rw [sub1_name nT_name oT_name], rfl, (h x hx).name⟩) (fun n hn => by cases hn)
  rw [h1]
  rfl
theorem ren_rightPars {l : List S_api_Param} (h : FreePars l) : rightPars (l.map renPar) = rightPars l := by
  simp only [rightPars, List.length_map]
  have h1 : okF parOK (·.Name) [] (l.map renPar) = okF parOK (·.Name) [] l :=
    okF_map (ns := []) (p := parOK) (p' := parOK) (key := fun c : S_api_Param => c.Name) (f := renPar) (g := rP) (fun x => x ≠ oP) (fun x y hx hy => sub1_dec hx hy) (fun x hx => ⟨by simp only [parOK, renPar]; rw [sub1_name nP_name oP_name], rfl, h x hx⟩) (fun n hn => by cases hn)
  rw [h1]
theorem ren_kidsOK (e : Expr) : kidsOK (renE e) = kidsOK e := by simp only [kidsOK, ren_kind, ren_kids, List.length_map]
theorem ren_opOK (e : Expr) : opOK (renE e) = opOK e := by simp only [opOK, ren_kind, ren_op]
theorem ren_fieldsOK (e : Expr) : fieldsOK (renE e) = fieldsOK e := by
  simp only [fieldsOK, ren_kind, ren_name, ren_table, ren_vkind, ren_vint, ren_vtext, sub1_noB' nT_no oT_no, sub1_name nT_name oT_name]
  by_cases k3 : e.kind = 3
  · have e0 : renN e.kind e.name = rA e.name := by simp [renN, k3]
    rw [e0]
    simp [k3, sub1_name nA_name oA_name]
  by_cases k2 : e.kind = 2
  · have e0 : renN e.kind e.name = rP e.name := by simp [renN, k2]
    rw [e0]
    simp [k2, sub1_name nP_name oP_name]
  have e0 : renN e.kind e.name = e.name := by simp [renN, k2, k3]
  rw [e0]
theorem ren_rightE : ∀ (d : Nat) (e : Expr), rightE d (renE e) = rightE d e
  | 0, _ => rfl
  | d + 1, e => by
    simp only [rightE, ren_kidsOK, ren_opOK, ren_fieldsOK, ren_kids, List.all_map]
    congr 1
    congr 1
    funext x
    exact ren_rightE d x
theorem all_rightE (d : Nat) (l : List Expr) : (l.map renE).all (rightE d) = l.all (rightE d) := by
  rw [List.all_map]; congr 1; funext x; exact ren_rightE d x
theorem ren_itemOK (e : Expr) : itemOK (renE e) = itemOK e := by
  simp only [itemOK, ren_kind, ren_op, ren_fieldsOK, ren_kids, List.length_map, ren_rightE]
  match h : e.kids with
  | [] => rfl
  | [x] => simp only [List.map_cons, List.map_nil, ren_rightE]
  | x :: y :: r => rfl
theorem ren_groupOK (e : Expr) : groupOK (renE e) = groupOK e := by simp only [groupOK, ren_kind, ren_rightE]
theorem ren_setOK (x : Set_) : setOK (renSet x) = setOK x := by simp only [setOK, renSet, ren_rightE, sub1_name nA_name oA_name]
theorem ren_joinOK (s : Stmt) : joinOK (renStmt s) = joinOK s := by
  have e2 : decide ((renStmt s).join = noB) = decide (s.join = noB) := sub1_noB' nT_no oT_no _
  have e3 : isName (renStmt s).join = isName s.join := sub1_name nT_name oT_name _
  have l4 : (renStmt s).on.length = s.on.length := List.length_map ..
  simp only [joinOK, e2, e3, l4]
theorem ren_rightStmt (s : Stmt) : rightStmt (renStmt s) = rightStmt s := by
  have h1 : (renStmt s).items.all itemOK = s.items.all itemOK := by simp only [renStmt, List.all_map]; congr 1; funext x; exact ren_itemOK x
  have h2 : (renStmt s).groups.all groupOK = s.groups.all groupOK := by simp only [renStmt, List.all_map]; congr 1; funext x; exact ren_groupOK x
  have h3 : (renStmt s).sets.all setOK = s.sets.all setOK := by simp only [renStmt, List.all_map]; congr 1; funext x; exact ren_setOK x
  have h4 : (renStmt s).on.all (rightE 16) = s.on.all (rightE 16) := all_rightE 16 _
  have h5 : (renStmt s).where_.all (rightE 16) = s.where_.all (rightE 16) := all_rightE 16 _
  have h6 : (renStmt s).items.all (rightE 16) = s.items.all (rightE 16) := all_rightE 16 _
  have l1 : (renStmt s).items.length = s.items.length := by simp [renStmt]
  have l2 : (renStmt s).groups.length = s.groups.length := by simp [renStmt]
  have l3 : (renStmt s).sets.length = s.sets.length := by simp [renStmt]
  have l4 : (renStmt s).on.length = s.on.length := by simp [renStmt]
  have l5 : (renStmt s).where_.length = s.where_.length := by simp [renStmt]
  have e1 : isName (renStmt s).table = isName s.table := sub1_name nT_name oT_name _
  have e2 : decide ((renStmt s).join = noB) = decide (s.join = noB) := sub1_noB' nT_no oT_no _
  simp only [rightStmt, selOK, restOK, ren_joinOK, h1, h2, h3, h4, h5, h6, l1, l2, l3, l4, l5, e1, e2]
  rfl
theorem findL_map {α : Type} {f : α → α} {q q' : α → Bool} : ∀ {l : List α} (i : Nat), (∀ x ∈ l, q' (f x) = q x) → findL q' i (l.map f) = findL q i l
  | [], _, _ => rfl
  | x :: l, i, h => by
    simp only [List.map_cons, findL, h x (.head _), findL_map (l := l) (i + 1) fun y hy => h y (.tail _ hy)]
theorem ren_tabOf {c : Catalog} (h : FreeCat c) {n : ByteArray} (hn : n ≠ oT) : tabOf (renCat c) (rT n) = tabOf c n := by
  unfold tabOf
  exact findL_map 0 fun t ht => by simp only [tabIs, renTab]; exact sub1_dec (h t ht).name hn
theorem ren_colOf {t : Table} (h : FreeTab t) {n : ByteArray} (hn : n ≠ oA) : colOf (renTab t) (rA n) = colOf t n := by
  unfold colOf
  exact findL_map 0 fun c hc => by simp only [colIs, renCol]; exact sub1_dec (h.cols c hc) hn
theorem ren_typeAt (t : Table) (j : Nat) : typeAt (renTab t) j = typeAt t j := by
  unfold typeAt
  simp only [renTab, List.getElem?_map]
  cases t.columns[j]? <;> rfl
theorem ren_parF {n : ByteArray} (hn : n ≠ oP) : ∀ (i : Nat) {l : List S_api_Param}, FreePars l → parF i (l.map renPar) (rP n) = parF i l n
  | _, [], _ => rfl
  | i, p :: r, h => by
    have hp := h p (.head _)
    simp only [List.map_cons, parF]
    rw [ren_parF hn (i + 1) fun q hq => h q (.tail _ hq)]
    have : (renPar p).Name = rP p.Name := rfl
    rw [this]
    by_cases e : p.Name = n
    · rw [if_pos e, if_pos ((sub1_inj hp hn).2 e)]; rfl
    · rw [if_neg e, if_neg (fun q => e ((sub1_inj hp hn).1 q))]
def renRow (x : ByteArray × S_api_Column) : ByteArray × S_api_Column := (rT x.1, renCol x.2)
theorem ren_rowsT (ts : List Table) : rowsT (ts.map renTab) = (rowsT ts).map renRow := by
  simp only [rowsT]
  induction ts with
  | nil => rfl
  | cons t ts ih =>
    simp only [List.map_cons, List.flatMap_cons, List.map_append, ih]
    congr 1
    simp only [rowsOfT, renTab, List.map_map]
    rfl
theorem ren_cntR {t n : ByteArray} (ht : t ≠ oT) (hn : n ≠ oA) : ∀ (l : List (ByteArray × S_api_Column)) (i : Nat) (acc : Int × Int × Int), (∀ x ∈ l, x.1 ≠ oT ∧ x.2.Name ≠ oA) → cntR (rT t) (rA n) i (l.map renRow) acc = cntR t n i l acc
  | [], _, _, _ => rfl
  | x :: r, i, acc, h => by
    obtain ⟨h1, h2⟩ := h x (.head _)
    have d1 : decide ((renRow x).2.Name = rA n) = decide (x.2.Name = n) := sub1_dec h2 hn
    have d2 : decide (rT t = (renRow x).1) = decide (t = x.1) := sub1_dec ht h1
    have d3 : decide (rT t = noB) = decide (t = noB) := sub1_noB' nT_no oT_no _
    have hm : rowMatch (rT t) (rA n) (renRow x).1 (renRow x).2 = rowMatch t n x.1 x.2 := by
      simp only [rowMatch, d1, d2, d3]
    simp only [List.map_cons, cntR, hm]
    exact ren_cntR ht hn r (i + 1) _ fun y hy => h y (.tail _ hy)
structure RenQ (q q' : QEnv) : Prop where
  param : ∀ n, n ≠ oP → q'.param (rP n) = q.param n
  col : ∀ t n, t ≠ oT → n ≠ oA → q'.col (rT t) (rA n) = q.col t n
theorem ren_env {ps : List S_api_Param} (hp : FreePars ps) {ts : List Table} (ht : ∀ t ∈ ts, FreeTab t) : RenQ (envOf ps ts) (envOf (ps.map renPar) (ts.map renTab)) :=
  ⟨fun n hn => ren_parF hn 0 hp, fun t n h1 h2 => by
    show cntR (rT t) (rA n) 0 (rowsT (ts.map renTab)) (0, 0, 0) = cntR t n 0 (rowsT ts) (0, 0, 0)
    rw [ren_rowsT]
    refine ren_cntR h1 h2 _ _ _ fun x hx => ?_
    simp only [rowsT, List.mem_flatMap, rowsOfT, List.mem_map] at hx
    obtain ⟨t', h3, c, h4, rfl⟩ := hx
    exact ⟨(ht t' h3).name, (ht t' h3).cols c h4⟩⟩
theorem mapE_map {α β γ : Type} {f : γ → Except Flt β} {f' : α → Except Flt β} {g : γ → α} : ∀ {l : List γ}, (∀ x ∈ l, f' (g x) = f x) → mapE f' (l.map g) = mapE f l
  | [], _ => rfl
  | x :: l, h => by
    simp only [List.map_cons, mapE, h x (.head _), mapE_map (l := l) fun y hy => h y (.tail _ hy)]
theorem ren_badKid (w : Int) : ∀ (ts : List Term) (es : List Expr), badKid w ts (es.map renE) = badKid w ts es
  | [], _ => by simp [badKid]
  | t :: ts, [] => rfl
  | t :: ts, e :: es => by simp only [List.map_cons, badKid, ren_at, ren_badKid w ts es]
theorem ren_askE {q q' : QEnv} (hq : RenQ q q') : ∀ (d : Nat) (e : Expr), freeE e → askE q' d (renE e) = askE q d e
  | 0, _, _ => rfl
  | d + 1, e, hf => by
    obtain ⟨f1, f2, f3, f4⟩ := (freeE_iff e).1 hf
    have hk : mapE (askE q' d) (e.kids.map renE) = mapE (askE q d) e.kids := mapE_map fun x hx => ren_askE hq d x (f4 x hx)
    simp only [askE, ren_kind, ren_vkind, ren_vint, ren_vtext, ren_at, ren_op, ren_table, ren_name, ren_kids, hk, ren_badKid]
    by_cases k1 : e.kind = 1
    · simp only [k1, if_true]
    by_cases k2 : e.kind = 2
    · have : renN e.kind e.name = rP e.name := by simp [renN, k2]
      rw [this, hq.param _ f2]
      simp only [if_neg k1, if_pos k2]
    by_cases k3 : e.kind = 3
    · have : renN e.kind e.name = rA e.name := by simp [renN, k3]
      rw [this, hq.col _ _ f3 f1]
      simp only [if_neg k1, if_neg k2, if_pos k3]
    simp only [k1, k2, k3, if_false]
theorem ren_ofE {q q' : QEnv} (hq : RenQ q q') (w : Int) (e : Expr) (hf : freeE e) : ofE q' w (renE e) = ofE q w e := by
  simp only [ofE, ren_askE hq 16 e hf, ren_at]
theorem ren_insE {q q' : QEnv} (hq : RenQ q q') : ∀ (es : List Expr) (cs : List S_api_Column), (∀ e ∈ es, freeE e) → insE q' (es.map renE) (cs.map renCol) = insE q es cs
  | [], cs, _ => by cases cs <;> rfl
  | e :: es, [], _ => rfl
  | e :: es, c :: cs, h => by
    simp only [List.map_cons, insE]
    have : (renCol c).Type_ = c.Type_ := rfl
    rw [this, ren_ofE hq _ e (h e (.head _)), ren_insE hq es cs fun x hx => h x (.tail _ hx)]
theorem ren_updE {q q' : QEnv} (hq : RenQ q q') {t : Table} (ht : FreeTab t) : ∀ (l : List Set_) (ns : List Int), (∀ x ∈ l, x.name ≠ oA ∧ freeE x.expr) → updE q' (renTab t) ns (l.map renSet) = updE q t ns l
  | [], _, _ => rfl
  | x :: r, ns, h => by
    obtain ⟨h1, h2⟩ := h x (.head _)
    simp only [List.map_cons, updE]
    have e1 : (renSet x).name = rA x.name := rfl
    have e2 : (renSet x).expr = renE x.expr := rfl
    have e3 : (renSet x).at_ = x.at_ := rfl
    rw [e1, e2, e3, ren_colOf ht h1]
    cases colOf t x.name with
    | none => rfl
    | some j =>
      simp only [ren_typeAt, ren_ofE hq _ _ h2, ren_updE hq ht r _ fun y hy => h y (.tail _ hy)]
theorem ren_grpE {q q' : QEnv} (hq : RenQ q q') : ∀ (l : List Expr) (ns : List Int), (∀ e ∈ l, freeE e) → grpE q' ns (l.map renE) = grpE q ns l
  | [], _, _ => rfl
  | e :: r, ns, h => by
    simp only [List.map_cons, grpE, ren_askE hq 16 e (h e (.head _)), ren_at]
    cases askE q 16 e with
    | error f => rfl
    | ok t => simp only [ren_grpE hq r _ fun y hy => h y (.tail _ hy)]
theorem ren_itemE {q q' : QEnv} (hq : RenQ q q') (g : Bool) (gs : List Int) (e : Expr) (hf : freeE e) : itemE q' g gs (renE e) = itemE q g gs e := by
  simp only [itemE, ren_askE hq 16 e hf, ren_at]
theorem ren_groupedS (s : Stmt) : groupedS (renStmt s) = groupedS s := by
  simp only [groupedS, renStmt, List.length_map, List.any_map]
  congr 1
  congr 1
  funext x
  show isAgg (renE x).kind = _
  rw [ren_kind]
theorem ren_colsT (ts : List Table) : colsT (ts.map renTab) = (colsT ts).map renCol := by
  simp only [colsT]
  induction ts with
  | nil => rfl
  | cons t ts ih => simp only [List.map_cons, List.flatMap_cons, List.map_append, ih]; rfl
theorem ren_starTerms : ∀ (i : Nat) (l : List S_api_Column), starTerms i (l.map renCol) = starTerms i l
  | _, [] => rfl
  | i, c :: r => by simp only [List.map_cons, starTerms, ren_starTerms (i + 1) r]; rfl
theorem ren_starE (s : Stmt) (ts : List Table) : starE (renStmt s) (ts.map renTab) = starE s ts := by
  simp only [starE, ren_colsT, List.length_map, ren_starTerms]
  simp only [renStmt]
  cases s.groups with
  | nil => rfl
  | cons e r => simp only [List.map_cons, ren_at]
theorem ren_chooseE {q q' : QEnv} (hq : RenQ q q') {s : Stmt} (hs : FreeStmt s) (ts : List Table) : chooseE q' (renStmt s) (ts.map renTab) = chooseE q s ts := by
  have h1 : grpE q' [] (renStmt s).groups = grpE q [] s.groups := ren_grpE hq _ _ hs.groups
  have h2 : ∀ gs, mapE (itemE q' (groupedS s) gs) (renStmt s).items = mapE (itemE q (groupedS s) gs) s.items := fun gs => mapE_map fun x hx => ren_itemE hq _ _ x (hs.items x hx)
  have e1 : (renStmt s).star = s.star := rfl
  have e2 : (renStmt s).sorts = s.sorts := rfl
  simp only [chooseE, h1, ren_groupedS, ren_starE, h2, e1, e2]
theorem ren_tabsOf (c : Catalog) (ks : List Int) : tabsOf (renCat c) ks = (tabsOf c ks).map renTab := by
  simp only [tabsOf, renCat]
  have hf : (fun k : Int => (c.tables.map renTab)[k.toNat]?) = fun k : Int => (c.tables[k.toNat]?).map renTab := funext fun k => List.getElem?_map ..
  rw [hf]
  induction ks with
  | nil => rfl
  | cons k ks ih =>
    simp only [List.filterMap_cons]
    cases c.tables[k.toNat]? with
    | none => simpa using ih
    | some t => simp only [Option.map_some, List.map_cons, ih]
theorem tabsOf_free {c : Catalog} (h : FreeCat c) (ks : List Int) : ∀ t ∈ tabsOf c ks, FreeTab t := by
  intro t ht
  simp only [tabsOf, List.mem_filterMap] at ht
  obtain ⟨k, _, hk⟩ := ht
  exact h t (List.mem_of_getElem? hk)
theorem ren_namesE {c : Catalog} (hc : FreeCat c) {s : Stmt} (hs : FreeStmt s) : namesE (renCat c) (renStmt s) = namesE c s := by
  have e1 : (renStmt s).table = rT s.table := rfl
  have e2 : (renStmt s).join = rT s.join := rfl
  have e3 : (renStmt s).at_ = s.at_ := rfl
  have e4 : (renStmt s).joinAt = s.joinAt := rfl
  simp only [namesE, e1, e2, e3, e4, ren_tabOf hc hs.table, ren_tabOf hc hs.join]
  by_cases h : s.join = noB
  · have h' : rT s.join = noB := (sub1_noB nT_no oT_no _).2 h
    simp only [if_pos h, if_pos h']
  · have h' : ¬ rT s.join = noB := fun e => h ((sub1_noB nT_no oT_no _).1 e)
    simp only [if_neg h, if_neg h']
theorem ren_stmtE {c : Catalog} (hc : FreeCat c) {ps : List S_api_Param} (hp : FreePars ps) {s : Stmt} (hs : FreeStmt s) : stmtE (renCat c) (ps.map renPar) (renStmt s) = stmtE c ps s := by
  have e1 : (renStmt s).kind = s.kind := rfl
  have e2 : (renStmt s).limit = s.limit := rfl
  have e3 : (renStmt s).at_ = s.at_ := rfl
  have e4 : (renStmt s).on = s.on.map renE := rfl
  have e5 : (renStmt s).where_ = s.where_.map renE := rfl
  have e6 : (renStmt s).sets = s.sets.map renSet := rfl
  have e7 : (renStmt s).items = s.items.map renE := rfl
  simp only [stmtE, ren_namesE hc hs, e1, e2, e4, e5, e6, ren_tabsOf]
  cases namesE c s with
  | error f => rfl
  | ok ks =>
    have hts := tabsOf_free hc ks
    have hq : RenQ (envOf ps (tabsOf c ks)) (envOf (ps.map renPar) ((tabsOf c ks).map renTab)) := ren_env hp hts
    have hq0 : RenQ (envOf ps []) (envOf (ps.map renPar) []) := ren_env hp (ts := []) fun t ht => by cases ht
    have hqk : RenQ (envOf ps (if s.kind = 1 then [] else tabsOf c ks)) (envOf (ps.map renPar) (if s.kind = 1 then [] else (tabsOf c ks).map renTab)) := by
      by_cases k : s.kind = 1
      · simp only [k, if_true]; exact hq0
      · simp only [k, if_false]; exact hq
    have m1 : mapE (ofE (envOf (ps.map renPar) (if s.kind = 1 then [] else (tabsOf c ks).map renTab)) 2) (s.on.map renE) = mapE (ofE (envOf ps (if s.kind = 1 then [] else tabsOf c ks)) 2) s.on := mapE_map fun x hx => ren_ofE hqk 2 x (hs.on x hx)
    have m2 : mapE (ofE (envOf (ps.map renPar) (if s.kind = 1 then [] else (tabsOf c ks).map renTab)) 2) (s.where_.map renE) = mapE (ofE (envOf ps (if s.kind = 1 then [] else tabsOf c ks)) 2) s.where_ := mapE_map fun x hx => ren_ofE hqk 2 x (hs.where_ x hx)
    simp only [m1, m2]
    have hch := ren_chooseE hq hs (tabsOf c ks)
    cases hT : tabsOf c ks with
    | nil => simp only [List.map_nil]
    | cons t ts =>
      have ht : FreeTab t := hts t (by rw [hT]; exact .head _)
      rw [hT] at hq hch
      simp only [List.map_cons] at hq hch ⊢
      have i1 : insertE (envOf (ps.map renPar) []) (renStmt s) (renTab t) = insertE (envOf ps []) s t := by
        simp only [insertE, e3, e7, List.length_map]
        have : (renTab t).columns = t.columns.map renCol := rfl
        rw [this, List.length_map, ren_insE hq0 _ _ hs.items]
      have i2 : updE (envOf (ps.map renPar) (renTab t :: ts.map renTab)) (renTab t) [] (s.sets.map renSet) = updE (envOf ps (t :: ts)) t [] s.sets := ren_updE hq ht _ _ hs.sets
      simp only [i1, i2, hch]
theorem ren_checkE {c : Catalog} (hc : FreeCat c) {ps : List S_api_Param} (hp : FreePars ps) {s : Stmt} (hs : FreeStmt s) : checkE (renCat c) (ps.map renPar) (renStmt s) = checkE c ps s := by
  simp only [checkE, ren_rightCat hc, ren_rightPars hp, ren_rightStmt, ren_stmtE hc hp hs]
end Go.RX
namespace Go.RX
mutual
def tSz : Term → Nat
  | .mk _ _ _ _ _ _ kids => 1 + tsSz kids
def tsSz : List Term → Nat
  | [] => 0
  | x :: r => tSz x + tsSz r
end
mutual
def tOk : Term → Prop
  | .mk _ _ _ _ _ _ kids => kids.length ≤ 9223372036854775807 ∧ tsOk kids
def tsOk : List Term → Prop
  | [] => True
  | x :: r => tOk x ∧ tsOk r
end
theorem tSz_pos : ∀ t : Term, 0 < tSz t
  | .mk _ _ _ _ _ _ kids => by rw [tSz]; omega
theorem tSz_kids : ∀ t : Term, tSz t = 1 + tsSz t.kids
  | .mk _ _ _ _ _ _ kids => by rw [tSz]; rfl
theorem tsSz_len : ∀ l : List Term, l.length ≤ tsSz l
  | [] => Nat.zero_le _
  | x :: r => by
    have := tsSz_len r
    have := tSz_pos x
    rw [tsSz, List.length_cons]
    omega
theorem tsSz_get : ∀ (l : List Term) (i : Nat) (h : i < l.length), tSz l[i] ≤ tsSz l
  | [], i, h => by simp at h
  | x :: r, 0, _ => by rw [tsSz]; simp
  | x :: r, i + 1, h => by
    have := tsSz_get r i (by simpa using h)
    rw [tsSz]
    simp only [List.getElem_cons_succ]
    omega
theorem tOk_kids : ∀ {t : Term}, tOk t → t.kids.length ≤ 9223372036854775807 ∧ tsOk t.kids
  | .mk _ _ _ _ _ _ kids, h => by rw [tOk] at h; exact h
theorem tsOk_get : ∀ {l : List Term}, tsOk l → ∀ (i : Nat) (h : i < l.length), tOk l[i]
  | [], _, i, h => by simp at h
  | x :: r, hl, 0, _ => by rw [tsOk] at hl; exact hl.1
  | x :: r, hl, i + 1, h => by
    rw [tsOk] at hl
    exact tsOk_get hl.2 i (by simpa using h)
theorem W_at {n i : Nat} (h : i < n) (hn : n ≤ 9223372036854775807) : W ((i : Int) + 1) = ((i + 1 : Nat) : Int) := by
  rw [W_id] <;> omega
theorem all_true {α : Type} (l : List α) : (l.all fun _ => true) = true := by induction l <;> simp [*]
theorem bne_self (x : Int) : (x != x) = false := by simp
theorem S_sameTerms (m m' : Bool) : ∀ (k : Nat) (l : List Term), tsSz l + 1 < k → l.length ≤ 9223372036854775807 → tsOk l → ∀ K : Bool → Prop, (TT k).f_law13_sameTerms (lst m (l.map (eTerm m))) (lst m' (l.map (eTerm m'))) K = K true := by
  intro k
  induction k with
  | zero => intro l h; omega
  | succ k ih =>
    intro l hl hlen hok K
    have hF : (TT (k + 1)).f_law13_sameTerms (lst m (l.map (eTerm m))) (lst m' (l.map (eTerm m'))) K = F_law13_sameTerms (TT k) (lst m (l.map (eTerm m))) (lst m' (l.map (eTerm m'))) K := rfl
    have hf : (TT k).fuel = k := by cases k <;> rfl
    rw [hF]
    simp only [F_law13_sameTerms, lst_n, List.length_map, bne_self, br_f, hf]
    have hlk := tsSz_len l
    rw [list_all0 (L := fun n i => L_law13_sameTerms_0 (TT k) n (lst m (l.map (eTerm m))) (lst m' (l.map (eTerm m'))) i (K false) (K true)) (l := l) (E := K true) (X := K false) (q := fun _ => true) (fun n => ?_) (fun n i hi => ?_) (by omega), all_true, br_t]
    · show B_law13_sameTerms_0 _ _ _ _ _ _ _ = _
      simp only [B_law13_sameTerms_0, lst_n, List.length_map, Int.lt_irrefl, decide_false, br_f]
    · show B_law13_sameTerms_0 _ _ _ _ _ _ _ = _
      have hs := tsSz_get l i hi
      rw [tSz_kids] at hs
      have ho := tOk_kids (tsOk_get hok i hi)
      have hkids : ∀ K : Bool → Prop, (TT k).f_law13_sameTerms (sTerm m l[i]).Kids (sTerm m' l[i]).Kids K = K true := fun K => ih l[i].kids (by omega) ho.1 ho.2 K
      simp only [B_law13_sameTerms_0, lst_n, List.length_map, Int.ofNat_lt, hi, Int.natCast_nonneg, true_and, decide_true, br_t, Int.toNat_natCast, lst_map_g hi, as_Term, hkids, Bool.not_true, br_f, W_at hi hlen]
      simp [sTerm]
theorem S_sameInts (m m' : Bool) (k : Nat) (l : List Int) (hk : l.length + 1 < k) (hlen : l.length ≤ 9223372036854775807) (K : Bool → Prop) : (TT k).f_law13_ints (lst m (l.map eI)) (lst m' (l.map eI)) K = K true := by
  obtain ⟨k, rfl⟩ : ∃ k', k = k' + 1 := ⟨k - 1, by omega⟩
  have hF : (TT (k + 1)).f_law13_ints (lst m (l.map eI)) (lst m' (l.map eI)) K = F_law13_ints (TT k) (lst m (l.map eI)) (lst m' (l.map eI)) K := rfl
  have hf : (TT k).fuel = k := by cases k <;> rfl
  rw [hF]
  simp only [F_law13_ints, lst_n, List.length_map, bne_self, br_f, hf]
  rw [list_all0 (L := fun n i => L_law13_ints_0 (TT k) n (lst m (l.map eI)) (lst m' (l.map eI)) i (K false) (K true)) (l := l) (E := K true) (X := K false) (q := fun _ => true) (fun n => ?_) (fun n i hi => ?_) (by omega), all_true, br_t]
  · show B_law13_ints_0 _ _ _ _ _ _ _ = _
    simp only [B_law13_ints_0, lst_n, List.length_map, Int.lt_irrefl, decide_false, br_f]
  · show B_law13_ints_0 _ _ _ _ _ _ _ = _
    simp only [B_law13_ints_0, lst_n, List.length_map, Int.ofNat_lt, hi, Int.natCast_nonneg, true_and, decide_true, br_t, Int.toNat_natCast, lst_map_g hi, asI_eI, bne_self, br_f, W_at hi hlen]
structure Typed.Ok (t : Typed) : Prop where
  tables : t.tables.length ≤ 9223372036854775807
  on : t.on.length ≤ 9223372036854775807 ∧ tsOk t.on
  where_ : t.where_.length ≤ 9223372036854775807 ∧ tsOk t.where_
  items : t.items.length ≤ 9223372036854775807 ∧ tsOk t.items
  columns : t.columns.length ≤ 9223372036854775807
  groups : t.groups.length ≤ 9223372036854775807
  sorts : t.sorts.length ≤ 9223372036854775807
  limit : t.limit.length ≤ 9223372036854775807
  types : t.types.length ≤ 9223372036854775807
def Typed.sz (t : Typed) : Nat := t.tables.length + tsSz t.on + tsSz t.where_ + tsSz t.items + t.columns.length + t.groups.length + t.sorts.length + t.limit.length + t.types.length
theorem S_same (m m' : Bool) (k : Nat) (t : Typed) (hk : t.sz + 5 < k) (h : t.Ok) (K : Bool → Prop) : (TT k).f_law13_same (sTyped m t) (sTyped m' t) K = K true := by
  obtain ⟨k, rfl⟩ : ∃ k', k = k' + 1 := ⟨k - 1, by omega⟩
  have hF : (TT (k + 1)).f_law13_same (sTyped m t) (sTyped m' t) K = F_law13_same (TT k) (sTyped m t) (sTyped m' t) K := rfl
  have hf : (TT k).fuel = k := by cases k <;> rfl
  unfold Typed.sz at hk
  have p1 : ∀ m, (sTyped m t).On = lst m (t.on.map (eTerm m)) := fun _ => rfl
  have p2 : ∀ m, (sTyped m t).Where = lst m (t.where_.map (eTerm m)) := fun _ => rfl
  have p3 : ∀ m, (sTyped m t).Items = lst m (t.items.map (eTerm m)) := fun _ => rfl
  have p4 : ∀ m, (sTyped m t).Tables = lst m (t.tables.map eI) := fun _ => rfl
  have p5 : ∀ m, (sTyped m t).Columns = lst m (t.columns.map eI) := fun _ => rfl
  have p6 : ∀ m, (sTyped m t).Groups = lst m (t.groups.map eI) := fun _ => rfl
  have p7 : ∀ m, (sTyped m t).Limit = lst m (t.limit.map eI) := fun _ => rfl
  have p8 : ∀ m, (sTyped m t).Types = lst m (t.types.map eI) := fun _ => rfl
  have p9 : ∀ m, (sTyped m t).Sorts = lst m (t.sorts.map eSort) := fun _ => rfl
  rw [hF]
  simp only [F_law13_same, p1, p2, p3, p4, p5, p6, p7, p8, S_sameTerms m m' k t.on (by omega) h.on.1 h.on.2, S_sameTerms m m' k t.where_ (by omega) h.where_.1 h.where_.2, S_sameTerms m m' k t.items (by omega) h.items.1 h.items.2,
    S_sameInts m m' k t.tables (by omega) h.tables, S_sameInts m m' k t.columns (by omega) h.columns, S_sameInts m m' k t.groups (by omega) h.groups, S_sameInts m m' k t.limit (by omega) h.limit, S_sameInts m m' k t.types (by omega) h.types, Bool.not_true, br_f]
  rw [p9, p9]
  simp only [lst_n, List.length_map, bne_self, br_f, hf]
  rw [list_all0 (L := fun n i => L_law13_same_0 (TT k) n i (sTyped m t) (sTyped m' t) (K false) (fun x19 x20 => br (x19.Kind == x20.Kind) (K (x19.Grouped == x20.Grouped)) (K false))) (l := t.sorts) (E := K true) (X := K false) (q := fun _ => true) (fun n => ?_) (fun n i hi => ?_) (by omega), all_true, br_t]
  · show B_law13_same_0 _ _ _ _ _ _ _ = _
    simp only [B_law13_same_0, p9, lst_n, List.length_map, Int.lt_irrefl, decide_false, br_f]
    simp [sTyped]
  · show B_law13_same_0 _ _ _ _ _ _ _ = _
    simp only [B_law13_same_0, p9, lst_n, List.length_map, Int.ofNat_lt, hi, Int.natCast_nonneg, true_and, decide_true, br_t, Int.toNat_natCast, lst_map_g hi, as_Sort, W_at hi h.sorts]
    simp
end Go.RX
