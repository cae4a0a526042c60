/- The law in plain Lean, with no program in sight. No condition. -/
import Derived.Test.YtacceochippkaaaGreatDoorPc
set_option linter.all false
namespace Go.RX
def ofE (q : xc) (w : Int) (e : Expr) : Except Flt Term := match qj q 16 e with
  | .error f => .error f
  | .ok t => if t.cr ≠ w ∧ t.cr ≠ 0 then .error (11, e.at_) else .ok t
def pw (c : bg) (s : Stmt) : Except Flt (List Int) := match qc2 c s.table with
  | none => .error (82, s.at_)
  | some k => if s.join = noB then .ok [((k : Nat) : Int)] else match qc2 c s.join with
    | none => .error (82, s.joinAt)
    | some j => if j = k then .error (81, s.joinAt) else .ok [((k : Nat) : Int), ((j : Nat) : Int)]
def qjg (q : xc) : List Expr → List S_x4 → Except Flt (List Term)
  | e :: es, c :: cs => match ofE q c.Type_ e with
    | .error f => .error f
    | .ok t => match qjg q es cs with
      | .error f => .error f
      | .ok ts => .ok (t :: ts)
  | _, _ => .ok []
def pn (q : xc) (s : Stmt) (t : Table) : Except Flt (List Term) := if s.items.length ≠ t.columns.length then .error (131, s.at_) else qjg q s.items t.columns
def typeAt (t : Table) (j : Nat) : Int := ((t.columns[j]?).map (·.Type_)).getD 0
def qis (q : xc) (t : Table) : List Int → List qaf → Except Flt (List Term × List Int)
  | _, [] => .ok ([], [])
  | ns, x :: r => match qk4 t x.name with
    | none => .error (82, x.at_)
    | some j => if i5 ((j : Nat) : Int) ns = true then .error (81, x.at_) else match ofE q (typeAt t j) x.expr with
      | .error f => .error f
      | .ok u => match qis q t (((j : Nat) : Int) :: ns) r with
        | .error f => .error f
        | .ok (us, js) => .ok (u :: us, ((j : Nat) : Int) :: js)
def qe9 (q : xc) : List Int → List Expr → Except Flt (List Int)
  | _, [] => .ok []
  | ns, e :: r => match qj q 16 e with
    | .error f => .error f
    | .ok t => if i5 t.num ns = true then .error (81, e.at_) else match qe9 q (t.num :: ns) r with
      | .error f => .error f
      | .ok gs => .ok (t.num :: gs)
def isAgg (n : Int) : Bool := decide (11 ≤ n) && decide (n ≤ 14)
def uv (q : xc) (grouped : Bool) (gs : List Int) (e : Expr) : Except Flt Term := match qj q 16 e with
  | .error f => .error f
  | .ok t => if (grouped && !isAgg t.op && !(decide (t.op = 3) && i5 t.num gs)) = true then .error (130, e.at_) else .ok t
def gg (s : Stmt) : Bool := decide (s.groups.length ≠ 0) || s.items.any fun e => isAgg e.kind
def cv : Nat → List S_x4 → List Term
  | _, [] => []
  | i, c :: r => ⟨3, ((i : Nat) : Int), c.Type_, 0, 0, noB, []⟩ :: cv (i + 1) r
def qgu (s : Stmt) (ts : List Table) : Except Flt (List Term) := match s.groups with
  | e :: _ => .error (130, e.at_)
  | [] => if (cm ts).length > 16 then .error (131, s.at_) else .ok (cv 0 (cm ts))
def wa (n : Nat) (x : S_xd) : Except Flt S_xd := if x.Item < 1 ∨ x.Item > (n : Int) then .error (82, x.At) else .ok ⟨x.Item, x.Desc, 0⟩
def jk (q : xc) (s : Stmt) (ts : List Table) : Except Flt (List Term × Bool × List Int × List S_xd) := match qe9 q [] s.groups with
  | .error f => .error f
  | .ok gs => match (if s.star = true then qgu s ts else jm (uv q (gg s) gs) s.items) with
    | .error f => .error f
    | .ok is => match jm (wa is.length) s.sorts with
      | .error f => .error f
      | .ok os => .ok (is, (if s.star = true then false else gg s), gs, os)
def ba (c : bg) (ks : List Int) : List Table := ks.filterMap fun k => c.tables[k.toNat]?
def wb (c : bg) (ps : List S_x7) (s : Stmt) : Except Flt Typed := match pw c s with
  | .error f => .error f
  | .ok ks => match jm (ofE (dp ps (if s.kind = 1 then [] else ba c ks)) 2) s.on with
    | .error f => .error f
    | .ok on => match jm (ofE (dp ps (if s.kind = 1 then [] else ba c ks)) 2) s.where_ with
      | .error f => .error f
      | .ok wh => match ba c ks with
        | [] => .error (82, 0)
        | t :: _ =>
          if s.kind = 1 then match pn (dp ps []) s t with
            | .error f => .error f
            | .ok is => .ok ⟨s.kind, ks, on, wh, is, [], false, [], [], [], []⟩
          else if s.kind = 2 then match qis (dp ps (ba c ks)) t [] s.sets with
            | .error f => .error f
            | .ok (is, js) => .ok ⟨s.kind, ks, on, wh, is, js, false, [], [], [], []⟩
          else if s.kind = 4 then match jk (dp ps (ba c ks)) s (ba c ks) with
            | .error f => .error f
            | .ok (is, g, gs, os) => .ok ⟨s.kind, ks, on, wh, is, [], g, gs, os, s.limit, is.map (·.cr)⟩
          else .ok ⟨s.kind, ks, on, wh, [], [], false, [], [], [], []⟩
def vh (c : bg) (ps : List S_x7) (s : Stmt) : Except Flt Typed :=
  if dv c = true ∧ dr ps = true then (if dj s = true then wb c ps s else .error (120, 0)) else .error (80, 0)
theorem qlh {e : Expr} (h : jh e = true) : m9 16 e := by
  simp only [jh] at h
  cases hq : (decide (11 ≤ e.kind) && decide (e.kind ≤ 14))
  · rw [hq] at h
    exact fg h
  · rw [hq] at h
    simp only [Bool.and_eq_true, decide_eq_true_eq] at hq
    simp only [cond_true, Bool.and_eq_true] at h
    obtain ⟨-, h⟩ := h
    by_cases k : e.kind = 11
    · rw [decide_eq_true k] at h
      simp only [cond_true, decide_eq_true_eq] at h
      refine ⟨by omega, fun hk => by omega, fun hk => by omega, fun x hx => ?_⟩
      rw [List.length_eq_zero_iff.1 h] at hx
      cases hx
    · rw [decide_eq_false k] at h
      simp only [cond_false] at h
      split at h
      · rename_i x hx
        refine ⟨by rw [hx]; simp, fun hk => by omega, fun _ => by rw [hx]; rfl, fun y hy => ?_⟩
        rw [hx] at hy
        simp only [List.mem_singleton] at hy
        subst hy
        exact fg h
      · cases h
theorem qq1 {q : xc} {m1 m2 : List (PV × PV)} (hq : vx q m1 m2) (m : Bool) (k : Nat) (hk : 70 ≤ k) (e : Expr) (he : m9 16 e) (a1 a2 : Arr) (w : Int) (K : S_xf → Bool → Arr → Arr → Int → Int → List (PV × PV) → List (PV × PV) → Int → Prop) :
    (TT k).f_zl (eb m e) a1 a2 0 0 m1 m2 w K = tell (ofE q w e) (fun t => K (dd true t) true a1 a2 0 0 m1 m2 w) (fun c a => K (dd true qpu) false a1 a2 c a m1 m2 w) := by
  obtain ⟨k, rfl⟩ : ∃ k', k = k' + 1 := ⟨k - 1, by omega⟩
  show F_zl (TT k) (eb m e) a1 a2 0 0 m1 m2 w K = _
  simp only [F_zl, qg1 hq m 16 k e he (by omega), ofE]
  cases hr : qj q 16 e with
  | error f => rfl
  | ok t =>
    have ht : (dd true t).Type_ = t.cr := rfl
    have ha : (eb m e).At = e.at_ := rfl
    simp only [tell, db, ht, ee, gb, ha, kq k (by omega)]
    by_cases h1 : t.cr = w
    · have : ¬ (t.cr ≠ w ∧ t.cr ≠ 0) := fun h => h.1 h1
      rw [decide_eq_true h1, db, if_neg this]
    · by_cases h2 : t.cr = 0
      · have : ¬ (t.cr ≠ w ∧ t.cr ≠ 0) := fun h => h.2 h2
        rw [decide_eq_false h1, ef, decide_eq_true h2, db, if_neg this]
      · rw [decide_eq_false h1, ef, decide_eq_false h2, ef, if_pos ⟨h1, h2⟩]
        rfl
theorem qg2 {q : xc} {m1 m2 : List (PV × PV)} (hq : vx q m1 m2) (m : Bool) (k : Nat) (hk : 80 ≤ k) (l : List Expr) (hl : l.length ≤ 1) (he : ∀ e ∈ l, m9 16 e) (a1 a2 : Arr) (K : Arr → Bool → Arr → Arr → Int → Int → List (PV × PV) → List (PV × PV) → Prop) :
    (TT k).f_zq (lst m (l.map (b7 m))) a1 a2 0 0 m1 m2 K = tell (jm (ofE q 2) l) (fun ts => K (lst true (ts.map (bb true))) true a1 a2 0 0 m1 m2) (fun c a => K (lst true []) false a1 a2 c a m1 m2) := by
  obtain ⟨k, rfl⟩ : ∃ k', k = k' + 2 := ⟨k - 2, by omega⟩
  show F_zq (TT (k + 1)) _ a1 a2 0 0 m1 m2 K = _
  have key : ∀ (K0 : Arr → Arr → Int → Int → List (PV × PV) → List (PV × PV) → Prop) (K1 : Arr → Arr → Int → Int → List (PV × PV) → List (PV × PV) → List PV → Prop) (l : List Expr) (pre : List PV) (r : List Term) (n : Nat), (∀ e ∈ l, m9 16 e) → l.length < n → pre.length + l.length ≤ 16 → r.length = pre.length →
      L_zq_0 (TT (k + 1)) n (lst m (pre ++ l.map (b7 m))) ((pre ++ l.map (b7 m)).length : Nat) (pre.length : Nat) a1 a2 0 0 m1 m2 (r.map (bb true)) K0 K1 =
      tell (jm (ofE q 2) l) (fun ts => K1 a1 a2 0 0 m1 m2 ((r ++ ts).map (bb true))) (fun c a => K0 a1 a2 c a m1 m2) := by
    intro K0 K1 l
    induction l with
    | nil =>
      intro pre r n _ hn _ _
      obtain ⟨n, rfl⟩ : ∃ n', n = n' + 1 := ⟨n - 1, by simp at hn; omega⟩
      simp [L_zq_0, B_zq_0, jm, tell]
    | cons x l ih =>
      intro pre r n hf hn hp hr
      simp only [List.length_cons] at hn hp
      obtain ⟨n, rfl⟩ : ∃ n', n = n' + 1 := ⟨n - 1, by omega⟩
      simp only [L_zq_0, B_zq_0]
      rw [bw (by omega)]
      have hof : ∀ K, (TT (k + 1)).f_zk 2 a1 a2 0 0 m1 m2 K = K a1 a2 0 0 m1 m2 2 := fun K => rfl
      simp only [List.map_cons, ke, decide_true, db, bo, Int.natCast_nonneg, true_and, Int.toNat_natCast, ow, fl, i6, hof, qq1 hq m (k + 1) (by omega) x (hf x (.head _)), jm]
      cases hx : ofE q 2 x with
      | error f => simp [tell]
      | ok t =>
        have e := ih (pre ++ [b7 m x]) (r ++ [t]) n (fun y hy => hf y (.tail _ hy)) (by omega) (by simp; omega) (by simp [hr])
        simp only [fi, bz] at e
        have hb : ((r.map (bb true)).length + 1) * 80 ≤ 140737488355328 := by simp; omega
        simp only [tell, Bool.not_true, ef, hb, true_and, m7]
        have e2 : r.map (bb true) ++ [bb true t] = (r ++ [t]).map (bb true) := by simp
        rw [e2, e]
        cases jm (ofE q 2) l <;> simp [tell]
  have f := fun K0 K1 => key K0 K1 l [] [] (k + 1) he (by omega) (by simp; omega) rfl
  have z : ((0 : Nat) : Int) = 0 := rfl
  simp only [List.nil_append, List.length_nil, List.length_map, List.map_nil, z] at f
  simp only [F_zq, ca, bo, List.length_map, f]
theorem qio {c : bg} {n : ByteArray} {k : Nat} (h : qc2 c n = some k) : k < c.tables.length := by
  obtain ⟨-, h1, -⟩ := uq h
  simpa using h1
theorem qq0 (m : Bool) (k : Nat) (hk : 40 ≤ k) (c : bg) (hc : c.tables.length ≤ 8) (s : Stmt) (m1 m2 : List (PV × PV)) (K : Arr → Bool → Arr → Arr → Int → Int → List (PV × PV) → List (PV × PV) → Prop) :
    (TT k).f_zj (bx m s) (lst m (c.tables.map (bp m))) (lst m (c.procs.map (gz m))) 0 0 m1 m2 K =
      tell (pw c s) (fun ks => K (lst true (ks.map eI)) true (lst m (c.tables.map (bp m))) (lst m (c.procs.map (gz m))) 0 0 m1 m2) (fun x a => K (lst true []) false (lst m (c.tables.map (bp m))) (lst m (c.procs.map (gz m))) x a m1 m2) := by
  obtain ⟨k, rfl⟩ : ∃ k', k = k' + 1 := ⟨k - 1, by omega⟩
  show F_zj (TT k) (bx m s) _ _ 0 0 m1 m2 K = _
  have hcat : S_x1.mk (lst m (c.tables.map (bp m))) (lst m (c.procs.map (gz m))) = bh m c := rfl
  have h1 : (bx m s).Table = s.table := rfl
  have h2 : (bx m s).Join = s.join := rfl
  have h3 : (bx m s).At = s.at_ := rfl
  have h4 : (bx m s).JoinAt = s.joinAt := rfl
  simp only [F_zj, hcat, h1, h2, h3, h4, S_zw k m c _ hc (by omega), kq k (by omega), px, pw]
  cases qc2 c s.table with
  | none => rfl
  | some j =>
    have : decide (idxOf (some j) < 0) = false := decide_eq_false (by simp only [idxOf]; omega)
    rw [this, ef]
    simp only
    by_cases hj : s.join = noB
    · rw [decide_eq_true hj, db, if_pos hj]
      rfl
    · rw [decide_eq_false hj, ef, if_neg hj]
      cases qc2 c s.join with
      | none => rfl
      | some i =>
        have : decide (idxOf (some i) < 0) = false := decide_eq_false (by simp only [idxOf]; omega)
        rw [this, ef, cq]
        by_cases hi : i = j
        · subst hi
          simp [tell]
        · have : decide (idxOf (some i) = idxOf (some j)) = false := decide_eq_false (by simp only [idxOf]; omega)
          rw [this, ef]
          simp only [if_neg hi]
          rfl
end Go.RX
namespace Go.RX
def e2 (p : ByteArray × ByteArray) : PV := .agg [.str p.1, .str p.2]
theorem qxb (a b : ByteArray × ByteArray) : eqK (e2 a) (e2 b) = decide (a = b) := by
  simp only [e2, eqK, zy]
  rw [Bool.eq_iff_iff]
  simp only [Bool.and_eq_true, decide_eq_true_eq, Prod.ext_iff]
def plc (x : Int × Int × Int) : PV := .agg [.int .i64 x.1, .int .i64 x.2.1, .int .i64 x.2.2]
structure m6 (m2 : List (PV × PV)) (g : ByteArray → ByteArray → Int × Int × Int) : Prop where
  keys : ∀ p ∈ m2, ∃ c, p.1 = e2 c
  get : ∀ t n, (look (e2 (t, n)) m2).getD (plc (0, 0, 0)) = plc (g t n)
theorem m6.nil : m6 [] fun _ _ => (0, 0, 0) := ⟨fun _ h => (by cases h), fun _ _ => rfl⟩
theorem m6.set {m2 : List (PV × PV)} {g : ByteArray → ByteArray → Int × Int × Int} (h : m6 m2 g) (a b : ByteArray) (x : Int × Int × Int) : m6 (m5 (e2 (a, b)) (plc x) m2) fun t n => if (t, n) = (a, b) then x else g t n := by
  refine ⟨lh _ _ _ h.keys, fun t n => ?_⟩
  rw [jd qxb (a, b) (t, n) _ m2 h.keys]
  by_cases e : (t, n) = (a, b)
  · simp only [if_pos e, Option.getD_some]
  · simp only [if_neg e, h.get]
theorem uh (tab name : ByteArray) : ∀ (rows : List (ByteArray × S_x4)) (i : Nat) (acc : Int × Int × Int), acc.2.2 ≤ (sg tab name i rows acc).2.2 ∧ (sg tab name i rows acc).2.2 ≤ acc.2.2 + rows.length
  | [], _, acc => by simp [sg]
  | x :: r, i, acc => by
    have h1 := uh tab name r (i + 1) acc
    have h2 := uh tab name r (i + 1) (((i : Nat) : Int), x.2.Type_, acc.2.2 + 1)
    simp only at h2
    simp only [sg, List.length_cons]
    cases ic tab name x.1 x.2
    · simp only [cond_false]
      omega
    · simp only [cond_true]
      omega
theorem q69 {k : Nat} (hk : 10 ≤ k) (n1 : Nat) (a1 : Arr) (n2 n3 : Int) (a2 : Arr) (n4 n5 : Int) (a3 a4 : Arr) (m1 m2 : List (PV × PV)) (m : Bool) (t : Table) (c : S_x4) (ht : t.name ≠ noB) (g : ByteArray → ByteArray → Int × Int × Int) (hg : m6 m2 g) (hb : ∀ t n, 0 ≤ (g t n).2.2 ∧ (g t n).2.2 ≤ 1000)
    (K : Int → Arr → Int → Int → Arr → Int → Int → Arr → Arr → Int → Int → List (PV × PV) → List (PV × PV) → S_x8 → Prop) :
    ∃ m2', L_zm_4 (TT k) k ((n1 : Nat) : Int) a1 n2 n3 a2 n4 n5 2 0 a3 a4 0 0 m1 m2 (bm m t) c [PV.agg [.str (bm m t).Name, .str c.Name], PV.agg [.str noB, .str c.Name]] K = K ((n1 : Nat) : Int) a1 n2 n3 a2 n4 n5 a3 a4 0 0 m1 m2' (bm m t) ∧
      m6 m2' fun tab name => bif ic tab name t.name c then (((n1 : Nat) : Int), c.Type_, (g tab name).2.2 + 1) else g tab name := by
  obtain ⟨k, rfl⟩ : ∃ k', k = k' + 3 := ⟨k - 3, by omega⟩
  have hn : (bm m t).Name = t.name := rfl
  have h1 := hg.set t.name c.Name (((n1 : Nat) : Int), c.Type_, (g t.name c.Name).2.2 + 1)
  have h2 := h1.set noB c.Name (((n1 : Nat) : Int), c.Type_, (g noB c.Name).2.2 + 1)
  refine ⟨_, ?_, ⟨h2.keys, fun tab name => ?_⟩⟩
  · have w1 : W ((0 : Int) + 1) = 1 := by decide
    have w2 : W ((1 : Int) + 1) = 2 := by decide
    have as2 : ∀ (a b : ByteArray) (K : S_x2 → Prop), as_x2 (.agg [.str a, .str b]) K = K ⟨a, b⟩ := fun _ _ _ => rfl
    have p2 : ∀ a b : ByteArray, PV.agg (p_x2 ⟨a, b⟩) = .agg [.str a, .str b] := fun _ _ => rfl
    have asp : ∀ (x : Int × Int × Int) (K : S_x3 → Prop), as_x3 (plc x) K = K ⟨x.1, x.2.1, x.2.2⟩ := fun _ _ => rfl
    have b1 := hb t.name c.Name
    have b2 := hb noB c.Name
    have w3 : W ((g t.name c.Name).2.2 + 1) = (g t.name c.Name).2.2 + 1 := by rw [qkk] <;> omega
    have w4 : W ((g noB c.Name).2.2 + 1) = (g noB c.Name).2.2 + 1 := by rw [qkk] <;> omega
    have q1 : (look (.agg [.str t.name, .str c.Name]) m2).getD (.agg [.int .i64 0, .int .i64 0, .int .i64 0]) = plc (g t.name c.Name) := hg.get t.name c.Name
    have hne : ¬ ((noB, c.Name) : ByteArray × ByteArray) = (t.name, c.Name) := fun e => ht (Prod.ext_iff.1 e).1.symm
    have q2 : (look (.agg [.str noB, .str c.Name]) (m5 (.agg [.str t.name, .str c.Name]) (.agg [.int .i64 n1, .int .i64 c.Type_, .int .i64 ((g t.name c.Name).2.2 + 1)]) m2)).getD (.agg [.int .i64 0, .int .i64 0, .int .i64 0]) = plc (g noB c.Name) := by
      have := h1.get noB c.Name
      simp only [if_neg hne] at this
      exact this
    have l0 : (0 : Int) < 2 := by decide
    have l1 : (1 : Int) < 2 := by decide
    have l2 : ¬ (2 : Int) < 2 := by decide
    have l3 : (0 : Int) ≤ 1 := by decide
    simp only [L_zm_4, B_zm_4, hn, l0, l1, l2, l3, decide_true, decide_false, db, ef, List.length_cons, List.length_nil, Int.le_refl, true_and, w1, w2]
    have c2 : (0 : Int) < (((0 + 1 + 1 : Nat)) : Int) := by decide
    have c3 : (1 : Int) < (((0 + 1 + 1 : Nat)) : Int) := by decide
    have d0 : (0 : Int).toNat = 0 := rfl
    have d1 : (1 : Int).toNat = 1 := rfl
    simp only [c2, c3, true_and, d0, d1, List.getD, List.getElem?_cons_zero, List.getElem?_cons_succ, Option.getD_some, as2, p2, q1, asp, w3, q2, w4]
    rfl
  · rw [h2.get]
    congr 1
    have hne : ¬ noB = t.name := fun e => ht e.symm
    simp only [Prod.mk.injEq, ic]
    by_cases e1 : name = c.Name
    · subst e1
      by_cases e3 : tab = noB
      · subst e3
        simp
      · by_cases e4 : tab = t.name
        · subst e4
          simp [e3]
        · simp [e3, e4]
    · have : ¬ c.Name = name := fun e => e1 e.symm
      simp [e1, this]
theorem qzh {k : Nat} (hk : 30 ≤ k) (a1 : Arr) (n2 n3 : Int) (a3 a4 : Arr) (m1 : List (PV × PV)) (m : Bool) (t : Table) (ht : t.name ≠ noB)
    (K : Int → Arr → Int → Int → Arr → Arr → Int → Int → List (PV × PV) → List (PV × PV) → Prop) : ∀ (l : List S_x4) (pre : List PV) (rows : List (ByteArray × S_x4)) (n : Nat) (m2 : List (PV × PV)), l.length < n → pre.length + l.length ≤ 16 → rows.length + l.length ≤ 100 → m6 m2 (fun tab name => sg tab name 0 rows (0, 0, 0)) →
    ∃ m2', L_zm_2 (TT k) n ((rows.length : Nat) : Int) a1 n2 n3 (lst m (pre ++ l.map gj)) ((pre ++ l.map gj).length : Nat) (pre.length : Nat) a3 a4 0 0 m1 m2 (bm m t) K = K (((rows.length + l.length : Nat) : Nat) : Int) a1 n2 n3 a3 a4 0 0 m1 m2' ∧
      m6 m2' fun tab name => sg tab name 0 (rows ++ l.map fun c => (t.name, c)) (0, 0, 0)
  | [], pre, rows, n, m2, hn, _, _, hm => by
    obtain ⟨n, rfl⟩ : ∃ n', n = n' + 1 := ⟨n - 1, by simp at hn; omega⟩
    refine ⟨m2, ?_, by simpa using hm⟩
    simp [L_zm_2, B_zm_2]
  | c :: l, pre, rows, n, m2, hn, hp, hr, hm => by
    simp only [List.length_cons] at hn hp hr
    obtain ⟨n, rfl⟩ : ∃ n', n = n' + 1 := ⟨n - 1, by omega⟩
    have hb : ∀ tab name, 0 ≤ (sg tab name 0 rows (0, 0, 0)).2.2 ∧ (sg tab name 0 rows (0, 0, 0)).2.2 ≤ 1000 := fun tab name => by
      have := uh tab name rows 0 (0, 0, 0)
      simp only at this
      omega
    let K4 : Int → Arr → Int → Int → Arr → Int → Int → Arr → Arr → Int → Int → List (PV × PV) → List (PV × PV) → S_x8 → Prop := fun n73 a74 n75 n76 a77 n78 n79 a80 a81 n82 n83 m84 m85 x86 =>
      L_zm_2 (TT k) n (W (n73 + (1 : Int))) a74 n75 n76 a77 n78 (W (n79 + (1 : Int))) a80 a81 n82 n83 m84 m85 x86 K
    obtain ⟨m3, h1, h2⟩ := q69 (k := k) (by omega) rows.length a1 n2 n3 (lst m (pre ++ gj c :: l.map gj)) ((pre ++ gj c :: l.map gj).length : Nat) (pre.length : Nat) a3 a4 m1 m2 m t c ht _ hm hb K4
    have h3 : (fun tab name => bif ic tab name t.name c then (((rows.length : Nat) : Int), c.Type_, (sg tab name 0 rows (0, 0, 0)).2.2 + 1) else sg tab name 0 rows (0, 0, 0)) = fun tab name => sg tab name 0 (rows ++ [(t.name, c)]) (0, 0, 0) := by
      funext tab name
      rw [xr]
      simp [sg]
    rw [h3] at h2
    obtain ⟨m4, h4, h5⟩ := qzh hk a1 n2 n3 a3 a4 m1 m t ht K l (pre ++ [gj c]) (rows ++ [(t.name, c)]) n m3 (by omega) (by simp; omega) (by simp; omega) h2
    simp only [fi, bz] at h4
    refine ⟨m4, ?_, ?_⟩
    · have hfuel : (TT k).fuel = k := by
        obtain ⟨k, rfl⟩ : ∃ k', k = k' + 1 := ⟨k - 1, by omega⟩
        rfl
      simp only [L_zm_2, B_zm_2, List.map_cons, ke, decide_true, db, bo, Int.natCast_nonneg, true_and, Int.toNat_natCast, ow, fl, fc, hfuel]
      have e0 : L_zm_4 (TT k) k ((rows.length : Nat) : Int) a1 n2 n3 (lst m (pre ++ gj c :: l.map gj)) ((pre ++ gj c :: l.map gj).length : Nat) (pre.length : Nat) 2 0 a3 a4 0 0 m1 m2 (bm m t) c [PV.agg [.str (bm m t).Name, .str c.Name], PV.agg [.str noB, .str c.Name]] K4 = _ := h1
      rw [e0]
      simp only [K4]
      rw [bw (by omega), bw (by omega), h4]
      simp only [List.length_cons]
      congr 2
      omega
    · simpa using h5
theorem qzg {k : Nat} (hk : 40 ≤ k) (c : bg) (ks : List Int) (ts : List Table) (h : kc c ks ts) (hT : ve ts) (hname : ∀ t ∈ ts, t.name ≠ noB) (m : Bool) (a4 : Arr) (m1 : List (PV × PV)) (K : Arr → Arr → Int → Int → List (PV × PV) → List (PV × PV) → Prop) :
    ∀ (rt : List Table) (rk pk : List Int) (pt : List Table) (n : Nat) (m2 : List (PV × PV)), ks = pk ++ rk → ts = pt ++ rt → pk.length = pt.length → rk.length = rt.length → rt.length < n → (fh pt).length ≤ 16 * pt.length → m6 m2 (fun tab name => sg tab name 0 (fh pt) (0, 0, 0)) →
      ∃ m2', L_zm_0 (TT k) n (((fh pt).length : Nat) : Int) (lst true (ks.map eI)) ((ks.length : Nat) : Int) (pk.length : Nat) (lst m (c.tables.map (bp m))) a4 0 0 m1 m2 K = K (lst m (c.tables.map (bp m))) a4 0 0 m1 m2' ∧
        m6 m2' fun tab name => sg tab name 0 (fh (pt ++ rt)) (0, 0, 0)
  | [], rk, pk, pt, n, m2, e1, e2, hp, hr, hn, _, hm => by
    obtain ⟨n, rfl⟩ : ∃ n', n = n' + 1 := ⟨n - 1, by simp at hn; omega⟩
    have : rk = [] := List.length_eq_zero_iff.1 (by simpa using hr)
    subst this
    have hpl : ks.length = pk.length := by rw [e1]; simp
    refine ⟨m2, ?_, by simpa using hm⟩
    simp [L_zm_0, B_zm_0, hpl]
  | t :: rt, [], pk, pt, n, m2, e1, e2, hp, hr, hn, hrl, hm => by simp at hr
  | t :: rt, x :: rk, pk, pt, n, m2, e1, e2, hp, hr, hn, hrl, hm => by
    simp only [List.length_cons] at hn hr
    obtain ⟨n, rfl⟩ : ∃ n', n = n' + 1 := ⟨n - 1, by omega⟩
    obtain ⟨q, hq1, hq2⟩ := h.get pk pt e1 e2 hp
    obtain ⟨hq3, hq4⟩ := List.getElem?_eq_some_iff.1 hq2
    obtain ⟨hc1, hc2⟩ := hT.each t (by rw [e2]; simp)
    have htwo := hT.two
    have hlt : ts.length = pt.length + (rt.length + 1) := by rw [e2]; simp
    have hlen : ks.length = pk.length + (rk.length + 1) := by rw [e1]; simp
    have hi : pk.length < ks.length := by omega
    have hx : ks[pk.length] = x := by simp [e1]
    let K2 : Int → Arr → Int → Int → Arr → Arr → Int → Int → List (PV × PV) → List (PV × PV) → Prop := fun n123 a124 n125 n126 a127 a128 n129 n130 m131 m132 =>
      L_zm_0 (TT k) n n123 a124 n125 (W (n126 + (1 : Int))) a127 a128 n129 n130 m131 m132 K
    obtain ⟨m3, h1, h2⟩ := qzh (k := k) (by omega) (lst true (ks.map eI)) ((ks.length : Nat) : Int) (pk.length : Nat) (lst m (c.tables.map (bp m))) a4 m1 m t (hname t (by rw [e2]; simp)) K2 t.columns [] (fh pt) k m2 (by omega) (by simpa using hc1) (by omega) hm
    have h3 : (fh pt ++ t.columns.map fun c => (t.name, c)) = fh (pt ++ [t]) := by simp [fh, j8]
    rw [h3] at h2
    have h3l : (fh pt).length + t.columns.length = (fh (pt ++ [t])).length := by rw [← h3]; simp
    obtain ⟨m4, h4, h5⟩ := qzg hk c ks ts h hT hname m a4 m1 K rt rk (pk ++ [x]) (pt ++ [t]) n m3 (by rw [e1]; simp) (by rw [e2]; simp) (by simp [hp]) (by omega) (by omega) (by rw [← h3l]; simp; omega) h2
    refine ⟨m4, ?_, by simpa using h5⟩
    have hfuel : (TT k).fuel = k := by
      obtain ⟨k, rfl⟩ : ∃ k', k = k' + 1 := ⟨k - 1, by omega⟩
      rfl
    have hcol : (bm m t).Columns = lst m (t.columns.map gj) := rfl
    have hq5 : ((q : Nat) : Int) < ((c.tables.length : Nat) : Int) := by omega
    simp only [List.nil_append, List.length_nil, List.length_map] at h1
    have z : ((0 : Nat) : Int) = 0 := rfl
    rw [z] at h1
    simp only [bz] at h4
    simp only [L_zm_0, B_zm_0, Int.toNat_natCast, au hi, hx, ig, bo, List.length_map, Int.ofNat_lt, hi, Int.natCast_nonneg, true_and, decide_true, db, hq1, au hq3, hq4, i7, hcol, hq3, hfuel]
    have h1' := h1
    simp only [K2] at h1'
    rw [h1']
    rw [bw (by omega), h3l, h4]
theorem qs9 {k : Nat} (hk : 50 ≤ k) (c : bg) (ks : List Int) (ts : List Table) (h : kc c ks ts) (hT : ve ts) (hname : ∀ t ∈ ts, t.name ≠ noB) (m : Bool) (a4 : Arr) (m1 : List (PV × PV)) (K : Arr → Arr → Int → Int → List (PV × PV) → List (PV × PV) → Prop) :
    ∃ m2', (TT k).f_zm (lst true (ks.map eI)) (lst m (c.tables.map (bp m))) a4 0 0 m1 [] K = K (lst m (c.tables.map (bp m))) a4 0 0 m1 m2' ∧ m6 m2' fun tab name => sg tab name 0 (fh ts) (0, 0, 0) := by
  obtain ⟨k, rfl⟩ : ∃ k', k = k' + 2 := ⟨k - 2, by omega⟩
  obtain ⟨m2', h1, h2⟩ := qzg (k := k + 1) (by omega) c ks ts h hT hname m a4 m1 (fun a143 a144 n145 n146 m147 m148 => K a143 a144 n145 n146 m147 m148) ts ks [] [] (k + 1) [] rfl rfl rfl h.len (by have := hT.two; omega) (by simp [fh]) (by simpa [fh, sg] using m6.nil)
  refine ⟨m2', ?_, by simpa using h2⟩
  rw [← h1]
  show F_zm (TT (k + 1)) _ _ _ 0 0 m1 [] K = _
  simp only [F_zm, ca, bo, List.length_map]
  rfl
end Go.RX
namespace Go.RX
theorem qpo {α : Type} (l : List α) (x y : α) : (l ++ [x]).set (((l.length : Nat) : Int).toNat) y = l ++ [y] := by
  rw [Int.toNat_natCast]
  simp
theorem qil (r : List Term) (X : PV) : (r.length < (r.map (bb true) ++ [X]).length) = True := by simp
theorem zq (r : List Term) (X : PV) (u : Term) : (r.map (bb true) ++ [X]).set r.length (bb true u) = (r ++ [u]).map (bb true) := by
  have := qpo (r.map (bb true)) X (bb true u)
  simp only [List.length_map, Int.toNat_natCast] at this
  rw [this]
  simp
abbrev Maps := List (PV × PV)
theorem qzt (r : List Term) (t : Term) : r.map (bb true) ++ [bb true t] = (r ++ [t]).map (bb true) := by simp
theorem q7j (k : Nat) (hk : 1 ≤ k) (w : Int) (a1 a2 : Arr) (n1 n2 : Int) (m1 m2 : Maps) (K : Arr → Arr → Int → Int → Maps → Maps → Int → Prop) : (TT k).f_zk w a1 a2 n1 n2 m1 m2 K = K a1 a2 n1 n2 m1 m2 w := by
  obtain ⟨k, rfl⟩ : ∃ k', k = k' + 1 := ⟨k - 1, by omega⟩
  rfl
theorem qh1 {q : xc} {m1 m2 : Maps} (hq : vx q m1 m2) (m : Bool) (k : Nat) (hk : 80 ≤ k) (a2 a3 : Arr) (n5 : Int) (a4 a5 a6 : Arr) (b1 : Bool) (t : Table) (es : List Expr) (hle : es.length = t.columns.length) (h16 : es.length ≤ 16)
    (K0 K1 : Arr → Arr → Int → Int → Maps → Maps → Int → Arr → Arr → Arr → Bool → List PV → Prop) : ∀ (l pre : List Expr) (lc pc : List S_x4) (r : List Term) (n : Nat), es = pre ++ l → t.columns = pc ++ lc → pre.length = pc.length → (∀ e ∈ l, m9 16 e) → l.length < n → r.length = pre.length →
      (∃ r' : List PV, L_zh_0 (TT k) n (lst m (es.map (b7 m))) ((es.length : Nat) : Int) (pre.length : Nat) a2 a3 0 0 m1 m2 n5 a4 a5 a6 b1 (r.map (bb true)) (bm m t) K0 K1 =
      tell (qjg q l lc) (fun ts => K1 a2 a3 0 0 m1 m2 n5 a4 a5 a6 b1 ((r ++ ts).map (bb true))) (fun c a => K0 a2 a3 c a m1 m2 n5 a4 a5 a6 b1 r'))
  | [], pre, lc, pc, r, n, e1, e2, hp, _, hn, _ => by
    obtain ⟨n, rfl⟩ : ∃ n', n = n' + 1 := ⟨n - 1, by simp at hn; omega⟩
    have hpl : es.length = pre.length := by rw [e1]; simp
    refine ⟨[], ?_⟩
    simp [L_zh_0, B_zh_0, qjg, tell, hpl]
  | x :: l, pre, [], pc, r, n, e1, e2, hp, _, hn, _ => by
    have h1 : es.length = pre.length + (l.length + 1) := by rw [e1]; simp
    have h2 : t.columns.length = pc.length := by rw [e2]; simp
    omega
  | x :: l, pre, c :: lc, pc, r, n, e1, e2, hp, hf, hn, hr => by
    simp only [List.length_cons] at hn
    obtain ⟨n, rfl⟩ : ∃ n', n = n' + 1 := ⟨n - 1, by omega⟩
    have hlen : es.length = pre.length + (l.length + 1) := by rw [e1]; simp
    have hlen' : t.columns.length = pc.length + (lc.length + 1) := by rw [e2]; simp
    have hi : pre.length < es.length := by omega
    have hi' : pre.length < t.columns.length := by omega
    have hx : es[pre.length] = x := by simp [e1]
    have hc : t.columns[pre.length] = c := by simp [e2, hp]
    have hcol : (bm m t).Columns = lst m (t.columns.map gj) := rfl
    have hstep : ∀ (r' : List PV), L_zh_0 (TT k) (n + 1) (lst m (es.map (b7 m))) ((es.length : Nat) : Int) (pre.length : Nat) a2 a3 0 0 m1 m2 n5 a4 a5 a6 b1 (r.map (bb true)) (bm m t) K0 K1 =
        tell (ofE q c.Type_ x) (fun u => L_zh_0 (TT k) n (lst m (es.map (b7 m))) ((es.length : Nat) : Int) ((pre.length + 1 : Nat) : Int) a2 a3 0 0 m1 m2 n5 a4 a5 a6 b1 ((r ++ [u]).map (bb true)) (bm m t) K0 K1) (fun c a => K0 a2 a3 c a m1 m2 n5 a4 a5 a6 b1 (r.map (bb true))) := by
      intro r'
      simp only [L_zh_0, B_zh_0]
      rw [bw (by omega)]
      simp only [Int.toNat_natCast, au hi, hx, i6, hcol, au hi', hc, fc, bo, List.length_map, Int.ofNat_lt, hi, hi', Int.natCast_nonneg, true_and, decide_true, db, q7j k (by omega), qq1 hq m k (by omega) x (hf x (.head _)), tell]
      cases ofE q c.Type_ x with
      | error f => rfl
      | ok u =>
        simp only [Bool.not_true, ef, m7]
        have hb : (r.length + 1) * 80 ≤ 140737488355328 := by omega
        rw [xh hb]
        simp only [qil, true_and, zq]
    obtain ⟨r', h'⟩ : ∃ r' : List PV, ∀ u, ofE q c.Type_ x = .ok u → L_zh_0 (TT k) n (lst m (es.map (b7 m))) ((es.length : Nat) : Int) ((pre.length + 1 : Nat) : Int) a2 a3 0 0 m1 m2 n5 a4 a5 a6 b1 ((r ++ [u]).map (bb true)) (bm m t) K0 K1 =
        tell (qjg q l lc) (fun ts => K1 a2 a3 0 0 m1 m2 n5 a4 a5 a6 b1 ((r ++ [u] ++ ts).map (bb true))) (fun c a => K0 a2 a3 c a m1 m2 n5 a4 a5 a6 b1 r') := by
      cases hx : ofE q c.Type_ x with
      | error f => exact ⟨[], fun u h => by cases h⟩
      | ok u =>
        obtain ⟨r', h⟩ := qh1 hq m k hk a2 a3 n5 a4 a5 a6 b1 t es hle h16 K0 K1 l (pre ++ [x]) lc (pc ++ [c]) (r ++ [u]) n (by rw [e1]; simp) (by rw [e2]; simp) (by simp [hp]) (fun y hy => hf y (.tail _ hy)) (by omega) (by simp [hr])
        simp only [bz] at h
        refine ⟨r', fun u' hu => ?_⟩
        injection hu with hu
        subst hu
        exact h
    rw [hstep []]
    simp only [qjg]
    cases hx : ofE q c.Type_ x with
    | error f => exact ⟨r.map (bb true), rfl⟩
    | ok u =>
      refine ⟨r', ?_⟩
      have h'' := h' u hx
      simp only [tell] at h'' ⊢
      rw [h'']
      cases qjg q l lc <;> simp
theorem qni {q : xc} {m1 m2 : Maps} (hq : vx q m1 m2) (m : Bool) (k : Nat) (hk : 90 ≤ k) (s : Stmt) (t : Table) (h16 : s.items.length ≤ 16) (hf : ∀ e ∈ s.items, m9 16 e) (a2 a3 : Arr) (n5 : Int) (a4 a5 a6 : Arr) (b1 : Bool)
    (K0 : Arr → Arr → Int → Int → Maps → Maps → Int → Arr → Arr → Arr → Bool → Prop) (K1 : Bool → Arr → Arr → Int → Int → Maps → Maps → Int → Arr → Arr → Arr → Bool → List PV → Prop) :
    ∃ X : Int → Int → Prop, (TT k).f_zh (bx m s) (bm m t) a2 a3 0 0 m1 m2 n5 a4 a5 a6 b1 K0 K1 = tell (pn q s t) (fun ts => K1 true a2 a3 0 0 m1 m2 n5 a4 a5 a6 b1 (ts.map (bb true))) X ∧
      ∀ c a, X c a = K0 a2 a3 c a m1 m2 n5 a4 a5 a6 b1 ∨ ∃ r', X c a = K1 false a2 a3 c a m1 m2 n5 a4 a5 a6 b1 r' := by
  obtain ⟨k, rfl⟩ : ∃ k', k = k' + 2 := ⟨k - 2, by omega⟩
  have hi : (bx m s).Items = lst m (s.items.map (b7 m)) := rfl
  have ha : (bx m s).At = s.at_ := rfl
  have hcol : (bm m t).Columns = lst m (t.columns.map gj) := rfl
  have hF : (TT (k + 2)).f_zh (bx m s) (bm m t) a2 a3 0 0 m1 m2 n5 a4 a5 a6 b1 K0 K1 = F_zh (TT (k + 1)) (bx m s) (bm m t) a2 a3 0 0 m1 m2 n5 a4 a5 a6 b1 K0 K1 := rfl
  rw [hF]
  simp only [F_zh, hi, ha, hcol, bo, List.length_map, ca, kq (k + 1) (by omega), pn, ee]
  have e0 : decide (((s.items.length : Nat) : Int) = ((t.columns.length : Nat) : Int)) = decide (s.items.length = t.columns.length) := decide_eq_decide.2 (by omega)
  rw [e0, gb]
  by_cases he : s.items.length = t.columns.length
  · have : ¬ s.items.length ≠ t.columns.length := fun h => h he
    rw [if_neg this, decide_eq_true he, db]
    obtain ⟨r', h⟩ := qh1 hq m (k + 1) (by omega) a2 a3 n5 a4 a5 a6 b1 t s.items he h16 (fun a75 a76 n77 n78 m79 m80 n81 a82 a83 a84 b85 r86 => K1 false a75 a76 n77 n78 m79 m80 n81 a82 a83 a84 b85 r86) (fun a87 a88 n89 n90 m91 m92 n93 a94 a95 a96 b97 r98 => K1 true a87 a88 n89 n90 m91 m92 n93 a94 a95 a96 b97 r98) s.items [] t.columns [] [] (k + 1) rfl rfl rfl hf (by omega) rfl
    have z : ((0 : Nat) : Int) = 0 := rfl
    simp only [List.length_nil, List.map_nil, z, List.nil_append] at h
    exact ⟨_, h, fun c a => .inr ⟨r', rfl⟩⟩
  · rw [if_pos he, decide_eq_false he, ef]
    exact ⟨fun c a => K0 a2 a3 c a m1 m2 n5 a4 a5 a6 b1, rfl, fun c a => .inl rfl⟩
end Go.RX
namespace Go.RX
def qi9 (ns : List Int) (x : Int) : Option PV := if i5 x ns = true then some (.int .i64 1) else none
theorem qcb {m : Maps} {ns : List Int} (h : fy eI m (qi9 ns)) (x : Int) (K : Int → Prop) : bf ((look (.int .i64 x) m).getD (.int .i64 0)) K = K (bif i5 x ns then 1 else 0) := by
  have := h.look x
  simp only [eI] at this
  rw [this, qi9]
  cases i5 x ns <;> rfl
theorem qas {m : Maps} {ns : List Int} (h : fy eI m (qi9 ns)) (x v : Int) (K : Int → Prop) : bf ((look (.int .i64 x) (m5 (.int .i64 x) (.int .i64 v) m)).getD (.int .i64 0)) K = K v := by
  have hs := jd (key := eI) (qfv .i64) x x (.int .i64 v) m h.keys
  rw [if_pos rfl] at hs
  simp only [eI] at hs
  rw [hs]
  rfl
theorem qhh {m : Maps} {ns : List Int} (h : fy eI m (qi9 ns)) (x : Int) : fy eI (m5 (.int .i64 x) (.int .i64 1) m) (qi9 (x :: ns)) := by
  refine ⟨lh (key := eI) x _ m h.keys, fun b => ?_⟩
  have := jd (key := eI) (qfv .i64) x b (.int .i64 1) m h.keys
  simp only [eI] at this ⊢
  rw [this]
  have hl := h.look b
  simp only [eI] at hl
  rw [hl]
  by_cases e : b = x
  · have hmg : i5 b (x :: ns) = true := jv.2 (by simp [e])
    rw [if_pos e, qi9, if_pos hmg]
  · have hmg : i5 b (x :: ns) = i5 b ns := by
      rw [Bool.eq_iff_iff, jv, jv]
      simp [e]
    rw [if_neg e, qi9, qi9, hmg]
theorem qof {t : Table} {n : ByteArray} {j : Nat} (h : qk4 t n = some j) : j < t.columns.length := by
  obtain ⟨-, h1, -⟩ := uq h
  simpa using h1
theorem qm6 {t : Table} {j : Nat} (h : j < t.columns.length) : typeAt t j = t.columns[j].Type_ := by simp [typeAt, h]
theorem qiu {q : xc} {m1 m2 : Maps} (hq : vx q m1 m2) (m : Bool) (k : Nat) (hk : 80 ≤ k) (a2 a3 : Arr) (n5 : Int) (a4 a5 a6 : Arr) (b1 : Bool) (t : Table) (ht : t.columns.length ≤ 16)
    (K0 K1 : Arr → Arr → Int → Int → Maps → Maps → Int → Arr → Arr → Arr → Bool → List PV → List PV → Prop) (Z : Int → Int → Prop) (hZ : ∀ c a r r', K0 a2 a3 c a m1 m2 n5 a4 a5 a6 b1 r r' = Z c a) : ∀ (l : List qaf) (pre : List PV) (r : List Term) (js ns : List Int) (m3 : Maps) (n : Nat), (∀ x ∈ l, m9 16 x.expr) → l.length < n → pre.length + l.length ≤ 16 → r.length = pre.length → js.length = pre.length → fy eI m3 (qi9 ns) →
      L_zr_0 (TT k) n (lst m (pre ++ l.map (v7 m))) ((pre ++ l.map (v7 m)).length : Nat) (pre.length : Nat) a2 a3 0 0 m1 m2 n5 a4 a5 a6 b1 (r.map (bb true)) (js.map eI) (bm m t) m3 K0 K1 =
      tell (qis q t ns l) (fun x => K1 a2 a3 0 0 m1 m2 n5 a4 a5 a6 b1 ((r ++ x.1).map (bb true)) ((js ++ x.2).map eI)) Z
  | [], pre, r, js, ns, m3, n, _, hn, _, _, _, _ => by
    obtain ⟨n, rfl⟩ : ∃ n', n = n' + 1 := ⟨n - 1, by simp at hn; omega⟩
    simp [L_zr_0, B_zr_0, qis, tell]
  | x :: l, pre, r, js, ns, m3, n, hf, hn, hp, hr, hj, hm => by
    simp only [List.length_cons] at hn hp
    obtain ⟨n, rfl⟩ : ∃ n', n = n' + 1 := ⟨n - 1, by omega⟩
    have hcol : (bm m t).Columns = lst m (t.columns.map gj) := rfl
    have hnm : (vr m x).Name = x.name := rfl
    have hat : (vr m x).At = x.at_ := rfl
    have h2 : S_xb.mk (vr m x).Expr_Kind (vr m x).Expr_Op (vr m x).Expr_Value_Kind (vr m x).Expr_Value_Int (vr m x).Expr_Value_Text (vr m x).Expr_Table (vr m x).Expr_Name (vr m x).Expr_Kids (vr m x).Expr_At = eb m x.expr := rfl
    simp only [L_zr_0, B_zr_0]
    rw [bw (by omega)]
    simp only [List.map_cons, ke, decide_true, db, bo, Int.natCast_nonneg, true_and, Int.toNat_natCast, ow, fl, qp5, hnm, hat, h2, S_zs k m t x.name ht (by omega), kq k (by omega), hZ, qis]
    cases hc : qk4 t x.name with
    | none => rfl
    | some j =>
      have hlt := qof hc
      have e0 : decide (idxOf (some j) < 0) = false := decide_eq_false (by simp only [idxOf]; omega)
      have e1 : idxOf (some j) = ((j : Nat) : Int) := rfl
      have hlt' : ((j : Nat) : Int) < ((t.columns.length : Nat) : Int) := by omega
      rw [e0, ef, e1]
      simp only [qcb hm, qas hm, Int.toNat_natCast, Int.natCast_nonneg, hcol, bo, List.length_map, hlt', true_and]
      cases hmem : i5 ((j : Nat) : Int) ns
      · have w1 : W ((0 : Int) + 1) = 1 := by decide
        have w2 : decide ((1 : Int) > 1) = false := by decide
        have hgc := au (m := m) (f := gj) hlt
        simp only [cond_false, w1, w2, ef, hgc, fc, q7j k (by omega), qq1 hq m k (by omega) x.expr (hf x (.head _)), qm6 hlt, Bool.false_eq_true, if_false]
        cases hx : ofE q t.columns[j].Type_ x.expr with
        | error f => simp [tell, hZ]
        | ok u =>
          have e := qiu hq m k hk a2 a3 n5 a4 a5 a6 b1 t ht K0 K1 Z hZ l (pre ++ [v7 m x]) (r ++ [u]) (js ++ [((j : Nat) : Int)]) (((j : Nat) : Int) :: ns) _ n (fun y hy => hf y (.tail _ hy)) (by omega) (by simp; omega) (by simp [hr]) (by simp [hj]) (qhh hm ((j : Nat) : Int))
          simp only [fi, bz] at e
          have hb : ((r.map (bb true)).length + 1) * 80 ≤ 140737488355328 := by simp; omega
          have hb2 : ((js.map eI).length + 1) * 8 ≤ 140737488355328 := by simp; omega
          have e3 : js.map eI ++ [PV.int .i64 ((j : Nat) : Int)] = (js ++ [((j : Nat) : Int)]).map eI := by simp [eI]
          simp only [tell, Bool.not_true, ef, m7]
          simp only [List.length_map] at hb hb2 ⊢
          rw [xh hb, xh hb2, qzt, e3]
          rw [e]
          cases qis q t (((j : Nat) : Int) :: ns) l <;> simp [tell]
      · have w1 : W ((1 : Int) + 1) = 2 := by decide
        have w2 : decide ((2 : Int) > 1) = true := by decide
        simp only [cond_true, w1, w2, db, if_true]
        rfl
theorem qhw {q : xc} {m1 m2 : Maps} (hq : vx q m1 m2) (m : Bool) (k : Nat) (hk : 80 ≤ k) (a2 a3 : Arr) (n5 : Int) (a4 a5 a6 : Arr) (b1 : Bool)
    (K0 : Arr → Arr → Int → Int → Maps → Maps → Int → Arr → Arr → Arr → Bool → List PV → Prop) (K1 : Arr → Arr → Int → Int → Maps → Maps → Int → Arr → Arr → Arr → Bool → List PV → Maps → Prop) (Z : Int → Int → Prop) (hZ : ∀ c a r, K0 a2 a3 c a m1 m2 n5 a4 a5 a6 b1 r = Z c a) : ∀ (l : List Expr) (pre : List PV) (js ns : List Int) (m3 : Maps) (n : Nat), (∀ x ∈ l, m9 16 x) → l.length < n → pre.length + l.length ≤ 16 → js.length = pre.length → fy eI m3 (qi9 ns) → (∀ x, x ∈ ns ↔ x ∈ js) →
      ∃ m4, L_zg_0 (TT k) n (lst m (pre ++ l.map (b7 m))) ((pre ++ l.map (b7 m)).length : Nat) (pre.length : Nat) a2 a3 0 0 m1 m2 n5 a4 a5 a6 b1 (js.map eI) m3 K0 K1 =
      tell (qe9 q ns l) (fun x => K1 a2 a3 0 0 m1 m2 n5 a4 a5 a6 b1 ((js ++ x).map eI) m4) Z ∧ ∀ gs, qe9 q ns l = .ok gs → ∃ ns', fy eI m4 (qi9 ns') ∧ ∀ x, x ∈ ns' ↔ x ∈ js ++ gs
  | [], pre, js, ns, m3, n, _, hn, _, _, hm, hmem => by
    obtain ⟨n, rfl⟩ : ∃ n', n = n' + 1 := ⟨n - 1, by simp at hn; omega⟩
    refine ⟨m3, ?_, fun gs h => ?_⟩
    · simp [L_zg_0, B_zg_0, qe9, tell]
    · injection h with h
      subst h
      exact ⟨ns, hm, by simpa using hmem⟩
  | x :: l, pre, js, ns, m3, n, hf, hn, hp, hj, hm, hmem => by
    simp only [List.length_cons] at hn hp
    obtain ⟨n, rfl⟩ : ∃ n', n = n' + 1 := ⟨n - 1, by omega⟩
    have hat : (eb m x).At = x.at_ := rfl
    simp only [L_zg_0, B_zg_0]
    rw [bw (by omega)]
    simp only [List.map_cons, ke, decide_true, db, bo, Int.natCast_nonneg, true_and, Int.toNat_natCast, ow, fl, i6, hat, qg1 hq m 16 k x (hf x (.head _)) (by omega), kq k (by omega), hZ, qe9]
    cases hx : qj q 16 x with
    | error f => exact ⟨[], by simp [tell, hZ], fun gs h => by cases h⟩
    | ok u =>
      have hnum : (dd true u).Num = u.num := rfl
      simp only [tell, Bool.not_true, ef, hnum, qcb hm, qas hm]
      cases hmm : i5 u.num ns
      · have w1 : W ((0 : Int) + 1) = 1 := by decide
        have w2 : decide ((1 : Int) > 1) = false := by decide
        obtain ⟨m4, e, he⟩ := qhw hq m k hk a2 a3 n5 a4 a5 a6 b1 K0 K1 Z hZ l (pre ++ [b7 m x]) (js ++ [u.num]) (u.num :: ns) _ n (fun y hy => hf y (.tail _ hy)) (by omega) (by simp; omega) (by simp [hj]) (qhh hm u.num) (fun y => by simp [hmem]; exact or_comm)
        simp only [fi, bz] at e
        refine ⟨m4, ?_, fun gs h => ?_⟩
        · have hb2 : ((js.map eI).length + 1) * 8 ≤ 140737488355328 := by simp; omega
          have e3 : js.map eI ++ [PV.int .i64 u.num] = (js ++ [u.num]).map eI := by simp [eI]
          simp only [cond_false, w1, w2, ef, Bool.false_eq_true, if_false]
          rw [xh hb2, e3, e]
          cases qe9 q (u.num :: ns) l <;> simp [tell]
        · simp only [Bool.false_eq_true, if_false] at h
          cases hg : qe9 q (u.num :: ns) l with
          | error f => rw [hg] at h; cases h
          | ok gs' =>
            rw [hg] at h
            injection h with h
            subst h
            obtain ⟨ns', h1, h2⟩ := he gs' hg
            exact ⟨ns', h1, by simpa using h2⟩
      · have w1 : W ((1 : Int) + 1) = 2 := by decide
        have w2 : decide ((2 : Int) > 1) = true := by decide
        refine ⟨[], ?_, fun gs h => ?_⟩
        · simp only [cond_true, w1, w2, db, if_true]
        · simp at h
end Go.RX
namespace Go.RX
theorem qj9 (k : Nat) (hk : 1 ≤ k) (n : Int) (K : Bool → Prop) : (TT k).f_zc n K = K (isAgg n) := by
  obtain ⟨k, rfl⟩ : ∃ k', k = k' + 1 := ⟨k - 1, by omega⟩
  show F_zc (TT k) n K = _
  simp only [F_zc, ug, isAgg]
  have : decide (n ≥ 11) = decide (11 ≤ n) := rfl
  rw [this]
  cases decide (11 ≤ n) <;> rfl
theorem q84 (m : Bool) (k : Nat) (hk : 80 ≤ k) (a2 a3 : Arr) (n3 n4 : Int) (m1 m2 : Maps) (n5 : Int) (a4 a5 a6 : Arr) (r1 : List PV) (m3 : Maps) (x1 : S_xe)
    (K0 : Arr → Arr → Int → Int → Maps → Maps → Int → Arr → Arr → Arr → Bool → List PV → Maps → S_xe → Prop) : ∀ (l : List Expr) (pre : List PV) (b1 : Bool) (n : Nat), l.length < n → pre.length + l.length ≤ 16 →
      L_zi_0 (TT k) n (lst m (pre ++ l.map (b7 m))) ((pre ++ l.map (b7 m)).length : Nat) (pre.length : Nat) a2 a3 n3 n4 m1 m2 n5 a4 a5 a6 b1 r1 m3 x1 K0 =
      K0 a2 a3 n3 n4 m1 m2 n5 a4 a5 a6 (b1 || l.any fun e => isAgg e.kind) r1 m3 x1
  | [], pre, b1, n, hn, _ => by
    obtain ⟨n, rfl⟩ : ∃ n', n = n' + 1 := ⟨n - 1, by simp at hn; omega⟩
    simp [L_zi_0, B_zi_0]
  | x :: l, pre, b1, n, hn, hp => by
    simp only [List.length_cons] at hn hp
    obtain ⟨n, rfl⟩ : ∃ n', n = n' + 1 := ⟨n - 1, by omega⟩
    have e := fun b => q84 m k hk a2 a3 n3 n4 m1 m2 n5 a4 a5 a6 r1 m3 x1 K0 l (pre ++ [b7 m x]) b n (by omega) (by simp; omega)
    simp only [fi, bz] at e
    have hkd : (eb m x).Kind = x.kind := rfl
    simp only [L_zi_0, B_zi_0]
    rw [bw (by omega)]
    simp only [List.map_cons, ke, decide_true, db, bo, Int.natCast_nonneg, true_and, Int.toNat_natCast, ow, fl, i6, hkd, qj9 k (by omega), e, List.any_cons]
    cases b1 <;> simp
theorem q85 {q : xc} {m1 m2 : Maps} (hq : vx q m1 m2) (m : Bool) (k : Nat) (hk : 80 ≤ k) (a2 a3 : Arr) (n5 : Int) (a4 a5 a6 : Arr) (b1 : Bool) (r1 : List PV) (m3 : Maps) (ns gs : List Int) (hm : fy eI m3 (qi9 ns)) (hmem : ∀ x, x ∈ ns ↔ x ∈ gs)
    (K0 K1 : Arr → Arr → Int → Int → Maps → Maps → Int → Arr → Arr → Arr → Bool → List PV → Maps → List PV → Prop) (Z : Int → Int → Prop) (hZ : ∀ c a r, K0 a2 a3 c a m1 m2 n5 a4 a5 a6 b1 r1 m3 r = Z c a) : ∀ (l : List Expr) (pre : List PV) (r : List Term) (n : Nat), (∀ x ∈ l, m9 16 x) → l.length < n → pre.length + l.length ≤ 16 → r.length = pre.length →
      L_zi_2 (TT k) n (lst m (pre ++ l.map (b7 m))) ((pre ++ l.map (b7 m)).length : Nat) (pre.length : Nat) a2 a3 0 0 m1 m2 n5 a4 a5 a6 b1 r1 m3 (r.map (bb true)) K0 K1 =
      tell (jm (uv q b1 gs) l) (fun x => K1 a2 a3 0 0 m1 m2 n5 a4 a5 a6 b1 r1 m3 ((r ++ x).map (bb true))) Z
  | [], pre, r, n, _, hn, _, _ => by
    obtain ⟨n, rfl⟩ : ∃ n', n = n' + 1 := ⟨n - 1, by simp at hn; omega⟩
    simp [L_zi_2, B_zi_2, jm, tell]
  | x :: l, pre, r, n, hf, hn, hp, hr => by
    simp only [List.length_cons] at hn hp
    obtain ⟨n, rfl⟩ : ∃ n', n = n' + 1 := ⟨n - 1, by omega⟩
    have hat : (eb m x).At = x.at_ := rfl
    simp only [L_zi_2, B_zi_2]
    rw [bw (by omega)]
    simp only [List.map_cons, ke, decide_true, db, bo, Int.natCast_nonneg, true_and, Int.toNat_natCast, ow, fl, i6, hat, qg1 hq m 16 k x (hf x (.head _)) (by omega), kq k (by omega), hZ, jm]
    cases hx : qj q 16 x with
    | error f => simp [tell, hZ, uv, hx]
    | ok u =>
      have hnum : (dd true u).Num = u.num := rfl
      have hop : (dd true u).Op = u.op := rfl
      have e := q85 hq m k hk a2 a3 n5 a4 a5 a6 b1 r1 m3 ns gs hm hmem K0 K1 Z hZ l (pre ++ [b7 m x]) (r ++ [u]) n (fun y hy => hf y (.tail _ hy)) (by omega) (by simp; omega) (by simp [hr])
      simp only [fi, bz] at e
      have hb : (r.length + 1) * 80 ≤ 140737488355328 := by omega
      have hmg : i5 u.num ns = i5 u.num gs := by rw [Bool.eq_iff_iff, jv, jv]; exact hmem u.num
      simp only [tell, Bool.not_true, ef, hnum, hop, qcb hm, qj9 k (by omega), m7, List.length_map, qil, zq, true_and, xh hb, e, ee, cq, gb, hmg]
      have hi : uv q b1 gs x = if (b1 && !isAgg u.op && !(decide (u.op = 3) && i5 u.num gs)) = true then .error (130, x.at_) else .ok u := by rw [uv, hx]
      rw [hi]
      have c0 : decide ((1 : Int) = 0) = false := by decide
      have c1 : decide ((0 : Int) = 0) = true := by decide
      generalize jm (uv q b1 gs) l = X
      cases b1
      · cases X <;> rfl
      · cases isAgg u.op
        · cases decide (u.op = 3)
          · cases X <;> rfl
          · cases i5 u.num gs
            · simp only [cond_false, c1, db]
              cases X <;> rfl
            · simp only [cond_true, c0, ef, db]
              cases X <;> rfl
        · cases X <;> rfl
theorem qpp (r : List Term) (X : PV) : (((r.length : Nat) : Int) < (((r.map (bb true) ++ [X]).length : Nat) : Int)) = True := by simp; omega
theorem oo : ∀ (a b : List S_x4) (i : Nat), cv i (a ++ b) = cv i a ++ cv (i + a.length) b
  | [], b, i => by simp [cv]
  | c :: a, b, i => by
    simp only [List.cons_append, cv, List.length_cons]
    rw [oo a b]
    have : i + 1 + a.length = i + (a.length + 1) := by omega
    rw [this]
theorem fv : ∀ (a : List S_x4) (i : Nat), (cv i a).length = a.length
  | [], _ => rfl
  | c :: a, i => by simp [cv, fv a]
theorem qzv (m : Bool) (k : Nat) (a1 : Arr) (n1 n2 : Int) (a3 a4 : Arr) (n5 n6 : Int) (m1 m2 : Maps) (n7 : Int) (a5 a6 a7 : Arr) (b1 : Bool) (r1 : List PV) (x1 : S_xe)
    (K0 : Arr → Int → Int → Arr → Arr → Int → Int → Maps → Maps → Int → Arr → Arr → Arr → Bool → List PV → List PV → S_xe → Prop) : ∀ (l : List S_x4) (pre : List PV) (cs : List S_x4) (n : Nat), l.length < n → pre.length + l.length ≤ 16 → cs.length + l.length ≤ 100 →
      L_zn_2 (TT k) n a1 n1 n2 (lst m (pre ++ l.map gj)) ((pre ++ l.map gj).length : Nat) (pre.length : Nat) a3 a4 n5 n6 m1 m2 n7 a5 a6 a7 b1 r1 ((cv 0 cs).map (bb true)) x1 K0 =
      K0 a1 n1 n2 a3 a4 n5 n6 m1 m2 n7 a5 a6 a7 b1 r1 ((cv 0 (cs ++ l)).map (bb true)) x1
  | [], pre, cs, n, hn, _, _ => by
    obtain ⟨n, rfl⟩ : ∃ n', n = n' + 1 := ⟨n - 1, by simp at hn; omega⟩
    simp [L_zn_2, B_zn_2]
  | c :: l, pre, cs, n, hn, hp, hc => by
    simp only [List.length_cons] at hn hp hc
    obtain ⟨n, rfl⟩ : ∃ n', n = n' + 1 := ⟨n - 1, by omega⟩
    have e := qzv m k a1 n1 n2 a3 a4 n5 n6 m1 m2 n7 a5 a6 a7 b1 r1 x1 K0 l (pre ++ [gj c]) (cs ++ [c]) n (by omega) (by simp; omega) (by simp; omega)
    simp only [fi, bz] at e
    have hb : ((cv 0 cs).length + 1) * 80 ≤ 140737488355328 := by rw [fv]; omega
    have ht : PV.agg [.int .i64 3, .int .i64 (((cv 0 cs).length : Nat) : Int), .int .i64 c.Type_, .int .i64 0, .int .i64 0, .str (ByteArray.mk #[]), .arr ((lst true []).m) ((lst true []).n) ((lst true []).g)] = bb true ⟨3, (((cv 0 cs).length : Nat) : Int), c.Type_, 0, 0, noB, []⟩ := by
      rw [qcf]
      rfl
    have hst : cv 0 (cs ++ [c]) = cv 0 cs ++ [⟨3, (((cv 0 cs).length : Nat) : Int), c.Type_, 0, 0, noB, []⟩] := by
      rw [oo, fv]
      simp [cv]
    simp only [L_zn_2, B_zn_2]
    rw [bw (by omega)]
    simp only [List.length_map] at *
    have e' := e
    rw [hst] at e'
    simp only [List.map_cons, ke, decide_true, db, Int.natCast_nonneg, true_and, Int.toNat_natCast, ow, fl, fc]
    have hn1 : ((pre.length : Nat) : Int) < (((lst m (pre ++ gj c :: l.map gj)).n : Nat) : Int) := by simp; omega
    rw [xh hn1, xh hb, ht]
    simp only [qpp, true_and, zq, e']
theorem qzu (m : Bool) (k : Nat) (hk : 40 ≤ k) (c : bg) (ks : List Int) (ts : List Table) (h : kc c ks ts) (hT : ve ts) (a4 : Arr) (n5 n6 : Int) (m1 m2 : Maps) (n7 : Int) (a5 a6 a7 : Arr) (b1 : Bool) (r1 : List PV) (x1 : S_xe)
    (K0 : Arr → Arr → Int → Int → Maps → Maps → Int → Arr → Arr → Arr → Bool → List PV → List PV → S_xe → Prop) : ∀ (rt : List Table) (rk pk : List Int) (pt : List Table) (n : Nat), ks = pk ++ rk → ts = pt ++ rt → pk.length = pt.length → rk.length = rt.length → rt.length < n → (cm pt).length ≤ 16 * pt.length →
      L_zn_0 (TT k) n (lst true (ks.map eI)) ((ks.length : Nat) : Int) (pk.length : Nat) (lst m (c.tables.map (bp m))) a4 n5 n6 m1 m2 n7 a5 a6 a7 b1 r1 ((cv 0 (cm pt)).map (bb true)) x1 K0 =
      K0 (lst m (c.tables.map (bp m))) a4 n5 n6 m1 m2 n7 a5 a6 a7 b1 r1 ((cv 0 (cm (pt ++ rt))).map (bb true)) x1
  | [], rk, pk, pt, n, e1, e2, hp, hr, hn, _ => by
    obtain ⟨n, rfl⟩ : ∃ n', n = n' + 1 := ⟨n - 1, by simp at hn; omega⟩
    have : rk = [] := List.length_eq_zero_iff.1 (by simpa using hr)
    subst this
    have hpl : ks.length = pk.length := by rw [e1]; simp
    simp [L_zn_0, B_zn_0, hpl]
  | t :: rt, [], pk, pt, n, e1, e2, hp, hr, hn, _ => by simp at hr
  | t :: rt, x :: rk, pk, pt, n, e1, e2, hp, hr, hn, hrl => by
    simp only [List.length_cons] at hn hr
    obtain ⟨n, rfl⟩ : ∃ n', n = n' + 1 := ⟨n - 1, by omega⟩
    obtain ⟨q, hq1, hq2⟩ := h.get pk pt e1 e2 hp
    obtain ⟨hq3, hq4⟩ := List.getElem?_eq_some_iff.1 hq2
    obtain ⟨hc1, hc2⟩ := hT.each t (by rw [e2]; simp)
    have htwo := hT.two
    have hlt : ts.length = pt.length + (rt.length + 1) := by rw [e2]; simp
    have hlen : ks.length = pk.length + (rk.length + 1) := by rw [e1]; simp
    have hi : pk.length < ks.length := by omega
    have hx : ks[pk.length] = x := by simp [e1]
    have h3 : cm pt ++ t.columns = cm (pt ++ [t]) := by simp [cm]
    have h4 := qzu m k hk c ks ts h hT a4 n5 n6 m1 m2 n7 a5 a6 a7 b1 r1 x1 K0 rt rk (pk ++ [x]) (pt ++ [t]) n (by rw [e1]; simp) (by rw [e2]; simp) (by simp [hp]) (by omega) (by omega) (by rw [← h3]; simp; omega)
    have hfuel : (TT k).fuel = k := by
      obtain ⟨k, rfl⟩ : ∃ k', k = k' + 1 := ⟨k - 1, by omega⟩
      rfl
    have hcol : (bm m t).Columns = lst m (t.columns.map gj) := rfl
    have hq5 : ((q : Nat) : Int) < ((c.tables.length : Nat) : Int) := by omega
    have h1 := fun K => qzv m k (lst true (ks.map eI)) ((ks.length : Nat) : Int) (pk.length : Nat) (lst m (c.tables.map (bp m))) a4 n5 n6 m1 m2 n7 a5 a6 a7 b1 r1 x1 K t.columns [] (cm pt) k (by omega) (by simpa using hc1) (by omega)
    simp only [List.nil_append, List.length_nil, List.length_map, h3] at h1
    have z : ((0 : Nat) : Int) = 0 := rfl
    simp only [z] at h1
    simp only [bz] at h4
    simp only [L_zn_0, B_zn_0, Int.toNat_natCast, au hi, hx, ig, bo, List.length_map, Int.ofNat_lt, hi, Int.natCast_nonneg, true_and, decide_true, db, hq1, au hq3, hq4, i7, hcol, hq3, hfuel, h1]
    rw [bw (by omega), h4]
    simp
theorem qet (m : Bool) (k : Nat) (hk : 40 ≤ k) (a2 a3 : Arr) (m1 m2 : Maps) (n5 : Int) (a4 a5 a6 : Arr) (b1 : Bool) (is : List Term) (r2 : List PV) (x1 : S_xe)
    (K0 : Arr → Arr → Int → Int → Maps → Maps → Int → Arr → Arr → Arr → Bool → List PV → List PV → List PV → Prop) (K1 : Arr → Arr → Int → Int → Maps → Maps → Int → Arr → Arr → Arr → Bool → List PV → List PV → List PV → S_xe → Prop)
    (Z : Int → Int → Prop) (hZ : ∀ c a r, K0 a2 a3 c a m1 m2 n5 a4 a5 a6 b1 (is.map (bb true)) r2 r = Z c a) : ∀ (l : List S_xd) (pre : List PV) (r : List S_xd) (n : Nat), l.length < n → pre.length + l.length ≤ 16 → r.length = pre.length →
      L_ze_0 (TT k) n (lst m (pre ++ l.map eu)) ((pre ++ l.map eu).length : Nat) (pre.length : Nat) a2 a3 0 0 m1 m2 n5 a4 a5 a6 b1 (is.map (bb true)) r2 (r.map eu) x1 K0 K1 =
      tell (jm (wa is.length) l) (fun os => K1 a2 a3 0 0 m1 m2 n5 a4 a5 a6 b1 (is.map (bb true)) r2 ((r ++ os).map eu) x1) Z
  | [], pre, r, n, hn, _, _ => by
    obtain ⟨n, rfl⟩ : ∃ n', n = n' + 1 := ⟨n - 1, by simp at hn; omega⟩
    simp [L_ze_0, B_ze_0, jm, tell]
  | x :: l, pre, r, n, hn, hp, hr => by
    simp only [List.length_cons] at hn hp
    obtain ⟨n, rfl⟩ : ∃ n', n = n' + 1 := ⟨n - 1, by omega⟩
    have e := qet m k hk a2 a3 m1 m2 n5 a4 a5 a6 b1 is r2 x1 K0 K1 Z hZ l (pre ++ [eu x]) (r ++ [⟨x.Item, x.Desc, 0⟩]) n (by omega) (by simp; omega) (by simp [hr])
    simp only [fi, bz] at e
    have hb : ((r.map eu).length + 1) * 24 ≤ 140737488355328 := by simp; omega
    have e3 : r.map eu ++ [PV.agg [.int .i64 x.Item, .bool x.Desc, .int .i64 0]] = (r ++ [(⟨x.Item, x.Desc, 0⟩ : S_xd)]).map eu := by simp [eu, p_xd]
    simp only [L_ze_0, B_ze_0]
    rw [bw (by omega)]
    simp only [List.map_cons, ke, decide_true, db, bo, Int.natCast_nonneg, true_and, Int.toNat_natCast, ow, fl, qb6, kq k (by omega), hZ, jm, wa]
    rw [xh hb, e3, e]
    simp only [List.length_map]
    by_cases h1 : x.Item < 1
    · rw [decide_eq_true h1, db, if_pos (.inl h1)]
      rfl
    · by_cases h2 : x.Item > ((is.length : Nat) : Int)
      · rw [decide_eq_false h1, ef, decide_eq_true h2, db, if_pos (.inr h2)]
        rfl
      · have h3 : ¬ (x.Item < 1 ∨ x.Item > ((is.length : Nat) : Int)) := fun h => h.elim h1 h2
        rw [decide_eq_false h1, ef, decide_eq_false h2, ef, if_neg h3]
        show tell (jm (wa is.length) l) _ _ = _
        cases jm (wa is.length) l <;> simp [tell]
theorem qez (k : Nat) (a1 a2 : Arr) (n3 n4 : Int) (m1 m2 : Maps) (n5 : Int) (a3 a4 a5 : Arr) (b1 : Bool) (is : List Term) (h : is.length ≤ 100) (r2 r3 r4 : List PV)
    (K0 : Arr → Arr → Int → Int → Maps → Maps → Int → Arr → Arr → Arr → Bool → List PV → List PV → List PV → List PV → List PV → Prop) : ∀ (l pre : List Term) (n : Nat), is = pre ++ l → l.length < n →
      L_ze_2 (TT k) n ((is.length : Nat) : Int) (pre.length : Nat) a1 a2 n3 n4 m1 m2 n5 a3 a4 a5 b1 (is.map (bb true)) r2 r3 r4 ((pre.map (·.cr)).map eI) K0 =
      K0 a1 a2 n3 n4 m1 m2 n5 a3 a4 a5 b1 (is.map (bb true)) r2 r3 r4 ((is.map (·.cr)).map eI)
  | [], pre, n, e1, hn => by
    obtain ⟨n, rfl⟩ : ∃ n', n = n' + 1 := ⟨n - 1, by simp at hn; omega⟩
    simp [L_ze_2, B_ze_2, e1]
  | x :: l, pre, n, e1, hn => by
    simp only [List.length_cons] at hn
    obtain ⟨n, rfl⟩ : ∃ n', n = n' + 1 := ⟨n - 1, by omega⟩
    have hlen : is.length = pre.length + (l.length + 1) := by rw [e1]; simp
    have hi : pre.length < is.length := by omega
    have hx : is[pre.length] = x := by simp [e1]
    have e := qez k a1 a2 n3 n4 m1 m2 n5 a3 a4 a5 b1 is h r2 r3 r4 K0 l (pre ++ [x]) n (by rw [e1]; simp) (by omega)
    simp only [bz] at e
    have ht : (dd true x).Type_ = x.cr := rfl
    have hb : (((pre.map (·.cr)).map eI).length + 1) * 8 ≤ 140737488355328 := by simp; omega
    have e3 : (pre.map (·.cr)).map eI ++ [PV.int .i64 x.cr] = ((pre ++ [x]).map (·.cr)).map eI := by simp [eI]
    have hi2 : ((pre.length : Nat) : Int) < ((is.length : Nat) : Int) := by omega
    simp only [L_ze_2, B_ze_2]
    rw [bw (by omega)]
    simp only [hi2, decide_true, db, Int.natCast_nonneg, true_and, Int.toNat_natCast, td hi, hx, gm, ht]
    have hi3 : ((pre.length : Nat) : Int) < (((is.map (bb true)).length : Nat) : Int) := by simp; omega
    rw [xh hi3, xh hb, e3, e]
end Go.RX
namespace Go.RX
structure qkd (s : Stmt) : Prop where
  on : s.on.length ≤ 1 ∧ ∀ e ∈ s.on, m9 16 e
  where_ : s.where_.length ≤ 1 ∧ ∀ e ∈ s.where_, m9 16 e
  items : s.items.length ≤ 16 ∧ ∀ e ∈ s.items, m9 16 e
  sets : s.sets.length ≤ 16 ∧ ∀ x ∈ s.sets, m9 16 x.expr
  groups : s.groups.length ≤ 8 ∧ ∀ e ∈ s.groups, m9 16 e
  sorts : s.sorts.length ≤ 8
  limit : s.limit.length ≤ 1
theorem qsr {s : Stmt} (h : dj s = true) : qkd s := by
  simp only [dj, Bool.and_eq_true, decide_eq_true_eq, List.all_eq_true] at h
  obtain ⟨⟨⟨-, h1⟩, h2⟩, h3⟩ := h
  have hw : ∀ e ∈ s.where_, m9 16 e := fun e he => fg (h2 e he)
  cases hk : decide (s.kind = 4)
  · rw [hk] at h3
    simp only [cond_false, vo, Bool.and_eq_true, Bool.or_eq_true, decide_eq_true_eq, List.all_eq_true] at h3
    obtain ⟨⟨⟨⟨⟨⟨⟨⟨-, -⟩, g1⟩, g2⟩, g3⟩, g4⟩, g5⟩, g6⟩, g7⟩ := h3
    refine ⟨⟨by omega, fun e he => ?_⟩, ⟨h1, hw⟩, ⟨by omega, fun e he => fg (g5 e he)⟩, ⟨by omega, fun x hx => ?_⟩, ⟨by omega, fun e he => ?_⟩, by omega, by omega⟩
    · rw [List.length_eq_zero_iff.1 g1] at he; cases he
    · have := g6 x hx
      simp only [u6, Bool.and_eq_true] at this
      exact fg this.2
    · rw [List.length_eq_zero_iff.1 g2] at he; cases he
  · rw [hk] at h3
    simp only [cond_true, qgq, Bool.and_eq_true, decide_eq_true_eq, List.all_eq_true, qa2, Bool.or_eq_true] at h3
    obtain ⟨⟨⟨⟨⟨⟨⟨⟨⟨⟨⟨g1, g2⟩, g3⟩, g4⟩, g5⟩, g6⟩, -⟩, g8⟩, g9⟩, g10⟩, g11⟩, g12⟩ := h3
    refine ⟨⟨by omega, fun e he => fg (g5 e he)⟩, ⟨h1, hw⟩, ⟨by omega, fun e he => qlh (g1 e he)⟩, ⟨by omega, fun x hx => ?_⟩, ⟨g9, fun e he => ?_⟩, g10, g11⟩
    · rw [List.length_eq_zero_iff.1 g12] at hx; cases hx
    · have := g2 e he
      simp only [ye, Bool.and_eq_true] at this
      exact fg this.2
theorem qnh {q : xc} {m1 m2 : Maps} (hq : vx q m1 m2) (m : Bool) (k : Nat) (hk : 120 ≤ k) (c : bg) (ks : List Int) (ts : List Table) (h : kc c ks ts) (hT : ve ts) (s : Stmt) (hs : qkd s) (P : Arr) (n3 : Int) (a4 a5 : Arr)
    (K0 : Arr → Arr → Int → Int → Maps → Maps → Int → Arr → Arr → Arr → Bool → List PV → Prop) (K1 : Arr → Arr → Int → Int → Maps → Maps → Int → Arr → Arr → Arr → Bool → List PV → List PV → Prop)
    (K2 : Arr → Arr → Int → Int → Maps → Maps → Int → Arr → Arr → Arr → Bool → List PV → List PV → List PV → Prop) (K3 : Arr → Arr → Int → Int → Maps → Maps → Int → Arr → Arr → Arr → Bool → List PV → List PV → List PV → List PV → List PV → Prop) (Z : Int → Int → Prop)
    (h0 : ∀ x a r, K0 (lst m (c.tables.map (bp m))) P x a m1 m2 n3 (lst true (ks.map eI)) a4 a5 false r = Z x a)
    (h1 : ∀ x a b r r', K1 (lst m (c.tables.map (bp m))) P x a m1 m2 n3 (lst true (ks.map eI)) a4 a5 b r r' = Z x a)
    (h2 : ∀ x a b r r' r'', K2 (lst m (c.tables.map (bp m))) P x a m1 m2 n3 (lst true (ks.map eI)) a4 a5 b r r' r'' = Z x a) :
    (TT k).f_ze (bx m s) (lst m (c.tables.map (bp m))) P 0 0 m1 m2 n3 (lst true (ks.map eI)) a4 a5 false K0 K1 K2 K3 =
      tell (jk q s ts) (fun x => K3 (lst m (c.tables.map (bp m))) P 0 0 m1 m2 n3 (lst true (ks.map eI)) a4 a5 x.2.1 (x.1.map (bb true)) (x.2.2.1.map eI) (x.2.2.2.map eu) (s.limit.map eI) ((x.1.map (·.cr)).map eI)) Z := by
  obtain ⟨k, rfl⟩ : ∃ k', k = k' + 3 := ⟨k - 3, by omega⟩
  have hF : (TT (k + 3)).f_ze (bx m s) (lst m (c.tables.map (bp m))) P 0 0 m1 m2 n3 (lst true (ks.map eI)) a4 a5 false K0 K1 K2 K3 = F_ze (TT (k + 2)) (bx m s) (lst m (c.tables.map (bp m))) P 0 0 m1 m2 n3 (lst true (ks.map eI)) a4 a5 false K0 K1 K2 K3 := rfl
  have hi : (bx m s).Items = lst m (s.items.map (b7 m)) := rfl
  have hg : (bx m s).Groups = lst m (s.groups.map (b7 m)) := rfl
  have ho : (bx m s).Sorts = lst m (s.sorts.map eu) := rfl
  have hst : (bx m s).Star = s.star := rfl
  have hl : (bx m s).Limit = lst m (s.limit.map eI) := rfl
  have hat : (bx m s).At = s.at_ := rfl
  have z : ((0 : Nat) : Int) = 0 := rfl
  have lg := hs.groups.1
  have li := hs.items.1
  have lo := hs.sorts
  have ll := hs.limit
  have lc := qk6 hT
  have tail : ∀ (is : List Term) (b : Bool) (gs : List Int), is.length ≤ 100 →
      L_ze_0 (TT (k + 2)) (k + 2) (lst m (s.sorts.map eu)) ((s.sorts.length : Nat) : Int) 0 (lst m (c.tables.map (bp m))) P 0 0 m1 m2 n3 (lst true (ks.map eI)) a4 a5 b (is.map (bb true)) (gs.map eI) [] (bx m s)
        (fun a114 a115 n116 n117 m118 m119 n120 a121 a122 a123 b124 r125 r126 r127 => K2 a114 a115 n116 n117 m118 m119 n120 a121 a122 a123 b124 r125 r126 r127)
        (fun a128 a129 n130 n131 m132 m133 n134 a135 a136 a137 b138 r139 r140 r141 x142 =>
         (∀ i, i < x142.Limit.n → dn (x142.Limit.g i) = 1) ∧ ((List.range x142.Limit.n).map x142.Limit.g).length * 8 ≤ 140737488355328 ∧
         L_ze_2 (TT (k + 2)) (k + 2) ((r139.length : Nat) : Int) 0 a128 a129 n130 n131 m132 m133 n134 a135 a136 a137 b138 r139 r140 r141 ((List.range x142.Limit.n).map x142.Limit.g) ([])
         (fun a181 a182 n183 n184 m185 m186 n187 a188 a189 a190 b191 r192 r193 r194 r195 r196 => K3 a181 a182 n183 n184 m185 m186 n187 a188 a189 a190 b191 r192 r193 r194 r195 r196)) =
      tell (jm (wa is.length) s.sorts) (fun os => K3 (lst m (c.tables.map (bp m))) P 0 0 m1 m2 n3 (lst true (ks.map eI)) a4 a5 b (is.map (bb true)) (gs.map eI) (os.map eu) (s.limit.map eI) ((is.map (·.cr)).map eI)) Z := by
    intro is b gs his
    have f := fun K0 K1 hZ => qet m (k + 2) (by omega) (lst m (c.tables.map (bp m))) P m1 m2 n3 (lst true (ks.map eI)) a4 a5 b is (gs.map eI) (bx m s) K0 K1 Z hZ s.sorts [] [] (k + 2) (by omega) (by simp; omega) rfl
    simp only [List.nil_append, List.length_nil, List.length_map, List.map_nil, z] at f
    rw [f _ _ (fun x a r => h2 x a b _ _ r)]
    congr 1
    funext os
    have hsz : (∀ i, i < s.limit.length → dn ((lst m (s.limit.map eI)).g i) = 1) = True := by
      simp only [eq_iff_iff, iff_true]
      intro i hi
      rw [au hi]
      rfl
    have hr := qeg m s.limit eI
    simp only [bo, List.length_map] at hr
    have g := fun r2 r3 r4 K0 => qez (k + 2) (lst m (c.tables.map (bp m))) P 0 0 m1 m2 n3 (lst true (ks.map eI)) a4 a5 b is his r2 r3 r4 K0 is [] (k + 2) rfl (by omega)
    simp only [List.length_nil, List.map_nil, z] at g
    have hb : s.limit.length * 8 ≤ 140737488355328 := by omega
    simp only [hl, bo, List.length_map, hsz, true_and, hr]
    rw [xh hb, g]
  rw [hF]
  simp only [F_ze, hst]
  have hG : ∀ K0' K1', (∀ x a r, K0' (lst m (c.tables.map (bp m))) P x a m1 m2 n3 (lst true (ks.map eI)) a4 a5 false r = Z x a) → ∃ m4, (TT (k + 2)).f_zg (bx m s) (lst m (c.tables.map (bp m))) P 0 0 m1 m2 n3 (lst true (ks.map eI)) a4 a5 false K0' K1' =
      tell (qe9 q [] s.groups) (fun x => K1' (lst m (c.tables.map (bp m))) P 0 0 m1 m2 n3 (lst true (ks.map eI)) a4 a5 false (x.map eI) m4) Z ∧ ∀ gs, qe9 q [] s.groups = .ok gs → ∃ ns', fy eI m4 (qi9 ns') ∧ ∀ x, x ∈ ns' ↔ x ∈ gs := by
    intro K0' K1' hZ'
    obtain ⟨m4, e1, e2⟩ := qhw hq m (k + 1) (by omega) (lst m (c.tables.map (bp m))) P n3 (lst true (ks.map eI)) a4 a5 false (fun a67 a68 n69 n70 m71 m72 n73 a74 a75 a76 b77 r78 => K0' a67 a68 n69 n70 m71 m72 n73 a74 a75 a76 b77 r78) (fun a79 a80 n81 n82 m83 m84 n85 a86 a87 a88 b89 r90 m91 => K1' a79 a80 n81 n82 m83 m84 n85 a86 a87 a88 b89 r90 m91) Z (fun x a r => hZ' x a r) s.groups [] [] [] [] (k + 1) hs.groups.2 (by omega) (by simp; omega) rfl fy.nil (fun x => Iff.rfl)
    simp only [List.nil_append, List.length_nil, List.length_map, List.map_nil, z] at e1 e2
    refine ⟨m4, ?_, e2⟩
    rw [← e1]
    show F_zg (TT (k + 1)) (bx m s) (lst m (c.tables.map (bp m))) P 0 0 m1 m2 n3 (lst true (ks.map eI)) a4 a5 false K0' K1' = _
    simp only [F_zg, hg, bo, List.length_map, ca]
  obtain ⟨m4, g1, g2⟩ := hG (fun _a6 _a7 _n4 _n5 _m3 _m4 _n6 _a8 _a9 _a10 _b2 _r1 => K0 _a6 _a7 _n4 _n5 _m3 _m4 _n6 _a8 _a9 _a10 _b2 _r1) _ (fun x a r => h0 x a r)
  rw [g1]
  simp only [jk]
  cases hgr : qe9 q [] s.groups with
  | error f => rfl
  | ok gs =>
    obtain ⟨ns', g3, g4⟩ := g2 gs hgr
    simp only [tell]
    cases hstar : s.star
    ·
      simp only [ef, Bool.false_eq_true, if_false]
      have hI : ∀ K0' : Bool → Arr → Arr → Int → Int → Maps → Maps → Int → Arr → Arr → Arr → Bool → List PV → Maps → List PV → Prop, (∀ x a r, K0' false (lst m (c.tables.map (bp m))) P x a m1 m2 n3 (lst true (ks.map eI)) a4 a5 (gg s) (gs.map eI) m4 r = Z x a) →
          (TT (k + 2)).f_zi (bx m s) (lst m (c.tables.map (bp m))) P 0 0 m1 m2 n3 (lst true (ks.map eI)) a4 a5 false (gs.map eI) m4 K0' =
          tell (jm (uv q (gg s) gs) s.items) (fun is => K0' true (lst m (c.tables.map (bp m))) P 0 0 m1 m2 n3 (lst true (ks.map eI)) a4 a5 (gg s) (gs.map eI) m4 (is.map (bb true))) Z := by
        intro K0' hZ'
        have e0 := fun K0 => q84 m (k + 1) (by omega) (lst m (c.tables.map (bp m))) P 0 0 m1 m2 n3 (lst true (ks.map eI)) a4 a5 (gs.map eI) m4 (bx m s) K0 s.items [] (decide (((s.groups.length : Nat) : Int) > (0 : Int))) (k + 1) (by omega) (by simp; omega)
        simp only [List.nil_append, List.length_nil, List.length_map, z] at e0
        have hgd : (decide (((s.groups.length : Nat) : Int) > (0 : Int)) || s.items.any fun e => isAgg e.kind) = gg s := by
          have : decide (((s.groups.length : Nat) : Int) > (0 : Int)) = decide (s.groups.length ≠ 0) := decide_eq_decide.2 (by omega)
          rw [this, gg]
        rw [hgd] at e0
        have e2 := fun K0 K1 hZ => q85 hq m (k + 1) (by omega) (lst m (c.tables.map (bp m))) P n3 (lst true (ks.map eI)) a4 a5 (gg s) (gs.map eI) m4 ns' gs g3 g4 K0 K1 Z hZ s.items [] [] (k + 1) hs.items.2 (by omega) (by simp; omega) rfl
        simp only [List.nil_append, List.length_nil, List.length_map, List.map_nil, z] at e2
        show F_zi (TT (k + 1)) (bx m s) (lst m (c.tables.map (bp m))) P 0 0 m1 m2 n3 (lst true (ks.map eI)) a4 a5 false (gs.map eI) m4 K0' = _
        simp only [F_zi, hg, hi, bo, List.length_map, ca, e0]
        exact e2 _ _ (fun x a r => hZ' x a r)
      rw [hI _ (fun x a r => by simp only [Bool.not_false, db]; exact h1 x a _ _ _)]
      cases hit : jm (uv q (gg s) gs) s.items with
      | error f => rfl
      | ok is =>
        have hlen := qcm hit
        have t := tail is (gg s) gs (by omega)
        have hlo : (lst m (s.sorts.map eu)).n = s.sorts.length := by simp
        simp only [tell, Bool.not_true, ef, ho, hlo]
        have t' := t
        simp only [tell] at t'
        rw [show (TT (k + 2)).fuel = k + 2 from rfl]
        rw [t']
        cases jm (wa is.length) s.sorts <;> rfl
    ·
      simp only [db, if_true]
      have hS : ∀ (K0' : Arr → Arr → Int → Int → Maps → Maps → Int → Arr → Arr → Arr → Bool → List PV → Prop) (K1' : Bool → Arr → Arr → Int → Int → Maps → Maps → Int → Arr → Arr → Arr → Bool → List PV → List PV → Prop), (∀ x a r, K0' (lst m (c.tables.map (bp m))) P x a m1 m2 n3 (lst true (ks.map eI)) a4 a5 false r = Z x a) → (∀ x a r r', K1' false (lst m (c.tables.map (bp m))) P x a m1 m2 n3 (lst true (ks.map eI)) a4 a5 false r r' = Z x a) →
          (TT (k + 2)).f_zn (bx m s) (lst m (c.tables.map (bp m))) P 0 0 m1 m2 n3 (lst true (ks.map eI)) a4 a5 false (gs.map eI) K0' K1' =
          tell (qgu s ts) (fun is => K1' true (lst m (c.tables.map (bp m))) P 0 0 m1 m2 n3 (lst true (ks.map eI)) a4 a5 false (gs.map eI) (is.map (bb true))) Z := by
        intro K0' K1' hZ0 hZ1
        have e0 := fun K0 => qzu m (k + 1) (by omega) c ks ts h hT P 0 0 m1 m2 n3 (lst true (ks.map eI)) a4 a5 false (gs.map eI) (bx m s) K0 ts ks [] [] (k + 1) rfl rfl rfl h.len (by have := hT.two; omega) (by simp [cm])
        have hc0 : cm [] = [] := rfl
        simp only [List.nil_append, List.length_nil, hc0, cv, List.map_nil, z] at e0
        show F_zn (TT (k + 1)) (bx m s) (lst m (c.tables.map (bp m))) P 0 0 m1 m2 n3 (lst true (ks.map eI)) a4 a5 false (gs.map eI) K0' K1' = _
        simp only [F_zn, hg, hat, bo, List.length_map, ca, e0, kq (k + 1) (by omega), qgu]
        match hgs : s.groups with
        | [] =>
          have d0 : decide ((((([] : List Expr).length : Nat)) : Int) > 0) = false := rfl
          rw [d0, ef, fv]
          by_cases h16 : (cm ts).length > 16
          · have : decide ((((cm ts).length : Nat) : Int) ≤ 16) = false := decide_eq_false (by omega)
            rw [this, ef, if_pos h16, hZ1]
            rfl
          · have : decide ((((cm ts).length : Nat) : Int) ≤ 16) = true := decide_eq_true (by omega)
            rw [this, db, if_neg h16]
            rfl
        | e :: r =>
          have d0 : decide (((((e :: r).length : Nat)) : Int) > 0) = true := decide_eq_true (by simp)
          have hg0 : (lst m ((e :: r).map (b7 m))).g 0 = b7 m e := rfl
          have d1 : (0 : Int) < ((((e :: r).length : Nat)) : Int) := by simp
          have hae : (eb m e).At = e.at_ := rfl
          rw [d0, db]
          simp only [d1, Int.le_refl, true_and, hg0, i6, hae, hZ0]
          rfl
      rw [hS _ _ (fun x a r => h0 x a r) (fun x a r r' => by simp only [Bool.not_false, db]; exact h1 x a _ _ _)]
      cases hit : qgu s ts with
      | error f => rfl
      | ok is =>
        have hlen : is.length ≤ 100 := by
          simp only [qgu] at hit
          split at hit
          · cases hit
          · split at hit
            · cases hit
            · injection hit with hit
              rw [← hit, fv]
              omega
        have t := tail is false gs hlen
        have hlo : (lst m (s.sorts.map eu)).n = s.sorts.length := by simp
        simp only [tell, Bool.not_true, ef, ho, hlo]
        have t' := t
        simp only [tell] at t'
        rw [show (TT (k + 2)).fuel = k + 2 from rfl]
        rw [t']
        cases jm (wa is.length) s.sorts <;> rfl
end Go.RX
namespace Go.RX
def qs0 (x : Int × Int) : PV := .agg [.int .i64 x.1, .int .i64 x.2, .int .i64 0]
theorem yz : ∀ (a b : List S_x7) (i : Nat) (n : ByteArray), yy i (a ++ b) n = match yy i a n with
    | some x => some x
    | none => yy (i + a.length) b n
  | [], b, i, n => by simp [yy]
  | x :: a, b, i, n => by
    simp only [List.cons_append, yy]
    by_cases h : x.Name = n
    · simp [h]
    · simp only [if_neg h]
      rw [yz a b (i + 1) n]
      have : i + 1 + a.length = i + (x :: a).length := by simp; omega
      rw [this]
theorem qec : ∀ (a : List S_x7) (i : Nat) (n : ByteArray), (∀ x ∈ a, x.Name ≠ n) → yy i a n = none
  | [], _, _, _ => rfl
  | x :: a, i, n, h => by
    rw [yy, if_neg (h x (.head _)), qec a (i + 1) n fun y hy => h y (.tail _ hy)]
theorem qap (m : Bool) (k : Nat) (ps : List S_x7) (hnd : (ps.map (·.Name)).Nodup) (h8 : ps.length ≤ 8) (a2 a3 : Arr) (n3 n4 : Int) (m2 : Maps) (K0 : Arr → Arr → Int → Int → Maps → Maps → Prop) : ∀ (l pre : List S_x7) (mp : Maps) (n : Nat), ps = pre ++ l → l.length < n → fy eS mp (fun x => (yy 0 pre x).map qs0) →
    ∃ mp', L_zd_0 (TT k) n (lst m (ps.map b8)) ((ps.length : Nat) : Int) (pre.length : Nat) a2 a3 n3 n4 mp m2 K0 = K0 a2 a3 n3 n4 mp' m2 ∧ fy eS mp' (fun x => (yy 0 ps x).map qs0)
  | [], pre, mp, n, e1, hn, hm => by
    obtain ⟨n, rfl⟩ : ∃ n', n = n' + 1 := ⟨n - 1, by simp at hn; omega⟩
    have hpl : ps.length = pre.length := by rw [e1]; simp
    refine ⟨mp, ?_, by rw [e1]; simpa using hm⟩
    simp [L_zd_0, B_zd_0, hpl]
  | x :: l, pre, mp, n, e1, hn, hm => by
    simp only [List.length_cons] at hn
    obtain ⟨n, rfl⟩ : ∃ n', n = n' + 1 := ⟨n - 1, by omega⟩
    have hlen : ps.length = pre.length + (l.length + 1) := by rw [e1]; simp
    have hi : pre.length < ps.length := by omega
    have hx : ps[pre.length] = x := by simp [e1]
    have hno : yy 0 pre x.Name = none := by
      apply qec
      intro y hy e
      rw [e1] at hnd
      simp only [List.map_append, List.map_cons] at hnd
      have := List.nodup_append.1 hnd
      exact this.2.2 y.Name (List.mem_map_of_mem hy) x.Name (.head _) e
    have hm' : fy eS (m5 (eS x.Name) (qs0 (((pre.length : Nat) : Int), x.Type_)) mp) (fun y => (yy 0 (pre ++ [x]) y).map qs0) := by
      refine ⟨lh x.Name _ mp hm.keys, fun b => ?_⟩
      rw [jd (key := eS) o9 x.Name b _ mp hm.keys, hm.look, yz]
      by_cases e : b = x.Name
      · subst e
        rw [if_pos rfl, hno]
        simp [yy]
      · rw [if_neg e]
        have : ¬ x.Name = b := fun h => e h.symm
        cases yy 0 pre b with
        | some y => rfl
        | none => simp [yy, this]
    obtain ⟨mp', h1, h2⟩ := qap m k ps hnd h8 a2 a3 n3 n4 m2 K0 l (pre ++ [x]) _ n (by rw [e1]; simp) (by omega) hm'
    simp only [bz] at h1
    refine ⟨mp', ?_, h2⟩
    rw [← h1]
    simp only [L_zd_0, B_zd_0]
    rw [bw (by omega)]
    have hi2 : ((pre.length : Nat) : Int) < ((ps.length : Nat) : Int) := by omega
    simp only [hi2, decide_true, db, Int.natCast_nonneg, true_and, Int.toNat_natCast, bo, List.length_map, au hi, hx, lv]
    rfl
theorem qj7 (k M : Nat) (hM : M < 1152921504606846976) (hk : M + 120 ≤ k) (m : Bool) (c : bg) (hc : c.Fits M) (ps : List S_x7) (hp : oz M ps) (K0 : Prop) (K1 : Arr → Arr → Int → Int → Maps → Maps → Prop) :
    if dv c = true ∧ dr ps = true then ∃ mp, (TT k).f_zd (bh m c) (lst m (ps.map b8)) K0 K1 = K1 (lst m (c.tables.map (bp m))) (lst m (c.procs.map (gz m))) 0 0 mp [] ∧ fy eS mp (fun x => (yy 0 ps x).map qs0)
    else (TT k).f_zd (bh m c) (lst m (ps.map b8)) K0 K1 = K0 := by
  obtain ⟨k, rfl⟩ : ∃ k', k = k' + 2 := ⟨k - 2, by omega⟩
  have hF : (TT (k + 2)).f_zd (bh m c) (lst m (ps.map b8)) K0 K1 = F_zd (TT (k + 1)) (bh m c) (lst m (ps.map b8)) K0 K1 := rfl
  rw [hF]
  simp only [F_zd, S_z0 (k + 1) M (by omega) (by omega) m c hc, S_zt (k + 1) M (by omega) (by omega) m ps hp, gb]
  cases h1 : dv c
  · simp
  cases h2 : dr ps
  · simp
  simp only [db, and_self, if_true]
  simp only [dr, Bool.and_eq_true, decide_eq_true_eq, lj] at h2
  obtain ⟨mp, e1, e2⟩ := qap m (k + 1) ps h2.1.2.1 h2.2 (bh m c).Tables (bh m c).Procs 0 0 [] (fun a23 a24 n25 n26 m27 m28 => K1 a23 a24 n25 n26 m27 m28) ps [] [] (k + 1) rfl (by omega) (by simpa [yy] using fy.nil)
  refine ⟨mp, ?_, e2⟩
  simp only [List.length_nil] at e1
  simp only [bo, List.length_map, ca]
  exact e1
theorem zz {c : bg} (h : dv c = true) : c.tables.length ≤ 8 ∧ ∀ t ∈ c.tables, t.columns.length ≤ 16 ∧ (t.columns.map (·.Name)).Nodup ∧ t.name ≠ noB := by
  simp only [dv, Bool.and_eq_true, decide_eq_true_eq, lj] at h
  refine ⟨h.1.1.1, fun t ht => ?_⟩
  have := h.1.2.1 t ht
  simp only [qgy, iw, Bool.and_eq_true, decide_eq_true_eq, lj] at this
  obtain ⟨hn, ⟨⟨⟨⟨⟨⟨⟨⟨-, -⟩, h16⟩, -⟩, hcol⟩, -⟩, -⟩, -⟩, -⟩⟩ := this
  refine ⟨h16, hcol.2.1, fun e => ?_⟩
  rw [e] at hn
  exact absurd hn (by decide)
theorem qgd {c : bg} {s : Stmt} {ks : List Int} (h : dv c = true) (hn : pw c s = .ok ks) : ∃ t r, ba c ks = t :: r ∧ (∃ n : Nat, ks.head? = some (n : Int) ∧ c.tables[n]? = some t) ∧ kc c ks (ba c ks) ∧ ve (ba c ks) ∧ ∀ t ∈ ba c ks, t.name ≠ noB := by
  obtain ⟨-, hT⟩ := zz h
  have one : ∀ k, qc2 c s.table = some k → ∃ t, c.tables[k]? = some t ∧ t ∈ c.tables := fun k hk => by
    have := qio hk
    exact ⟨c.tables[k], by simp [this], List.getElem_mem this⟩
  have two : ∀ k, qc2 c s.join = some k → ∃ t, c.tables[k]? = some t ∧ t ∈ c.tables := fun k hk => by
    have := qio hk
    exact ⟨c.tables[k], by simp [this], List.getElem_mem this⟩
  simp only [pw] at hn
  split at hn
  · cases hn
  · rename_i k hk
    obtain ⟨t, ht, htm⟩ := one k hk
    split at hn
    · injection hn with hn
      subst hn
      have e : ba c [((k : Nat) : Int)] = [t] := by simp [ba, ht]
      rw [e]
      refine ⟨t, [], rfl, ⟨k, rfl, ht⟩, ⟨⟨k, rfl, ht⟩, trivial⟩, ⟨by simp, ?_⟩, ?_⟩
      · intro x hx
        rw [List.mem_singleton] at hx
        subst hx
        exact ⟨(hT _ htm).1, (hT _ htm).2.1⟩
      · intro x hx
        rw [List.mem_singleton] at hx
        subst hx
        exact (hT _ htm).2.2
    · split at hn
      · cases hn
      · rename_i j hj
        obtain ⟨u, hu, hum⟩ := two j hj
        split at hn
        · cases hn
        · injection hn with hn
          subst hn
          have e : ba c [((k : Nat) : Int), ((j : Nat) : Int)] = [t, u] := by simp [ba, ht, hu]
          rw [e]
          refine ⟨t, [u], rfl, ⟨k, rfl, ht⟩, ⟨⟨k, rfl, ht⟩, ⟨j, rfl, hu⟩, trivial⟩, ⟨by simp, ?_⟩, ?_⟩
          · intro x hx
            rcases List.mem_cons.1 hx with rfl | hx
            · exact ⟨(hT _ htm).1, (hT _ htm).2.1⟩
            · rw [List.mem_singleton] at hx
              subst hx
              exact ⟨(hT _ hum).1, (hT _ hum).2.1⟩
          · intro x hx
            rcases List.mem_cons.1 hx with rfl | hx
            · exact (hT _ htm).2.2
            · rw [List.mem_singleton] at hx
              subst hx
              exact (hT _ hum).2.2
def qh : Typed := ⟨0, [], [], [], [], [], false, [], [], [], []⟩
theorem qff (k : Nat) (hk : 150 ≤ k) (m : Bool) (c : bg) (hc : dv c = true) (ps : List S_x7) (s : Stmt) (hs : qkd s) (mp : Maps) (hmp : fy eS mp (fun x => (yy 0 ps x).map qs0)) (K : S_x9 → Bool → Arr → Arr → Int → Int → Maps → Maps → Prop) (Z : Int → Int → Prop) (hZ : ∀ ty a b x y m1 m2, K ty false a b x y m1 m2 = Z x y) (Y : S_x9 → Prop) (hY : ∀ ty a b x y m1 m2, K ty true a b x y m1 m2 = Y ty) :
    (TT k).f_zo (bx m s) (lst m (c.tables.map (bp m))) (lst m (c.procs.map (gz m))) 0 0 mp [] K = tell (wb c ps s) (fun t => Y (bj true t)) Z := by
  obtain ⟨k, rfl⟩ : ∃ k', k = k' + 1 := ⟨k - 1, by omega⟩
  have hF : (TT (k + 1)).f_zo (bx m s) (lst m (c.tables.map (bp m))) (lst m (c.procs.map (gz m))) 0 0 mp [] K = F_zo (TT k) (bx m s) (lst m (c.tables.map (bp m))) (lst m (c.procs.map (gz m))) 0 0 mp [] K := rfl
  have hkd : (bx m s).Kind = s.kind := rfl
  have hon : (bx m s).On = lst m (s.on.map (b7 m)) := rfl
  have hwh : (bx m s).Where = lst m (s.where_.map (b7 m)) := rfl
  rw [hF]
  simp only [F_zo, qq0 m k (by omega) c (zz hc).1 s mp [], wb]
  cases hn : pw c s with
  | error f => simp only [tell, Bool.not_false, db, hZ]
  | ok ks =>
    obtain ⟨t, r, ht, ⟨n0, hn1, hn2⟩, hat, hT, hnm⟩ := qgd hc hn
    obtain ⟨hq3, hq4⟩ := List.getElem?_eq_some_iff.1 hn2
    obtain ⟨kr, hkr⟩ : ∃ kr, ks = ((n0 : Nat) : Int) :: kr := by
      cases ks with
      | nil => cases hn1
      | cons a b =>
        simp only [List.head?_cons, Option.some.injEq] at hn1
        exact ⟨b, by rw [hn1]⟩
    have hg0 : (lst true (ks.map eI)).g 0 = eI ((n0 : Nat) : Int) := by rw [hkr]; rfl
    have hl0 : (0 : Int) < (((lst true (ks.map eI)).n : Nat) : Int) := by rw [hkr]; simp only [bo, List.length_map, List.length_cons]; omega
    have hq5 : ((n0 : Nat) : Int) < (((lst m (c.tables.map (bp m))).n : Nat) : Int) := by simp only [bo, List.length_map]; omega
    have hparam : ∀ x, look (.str x) mp = ((yy 0 ps x).map fun x => .agg [.int .i64 x.1, .int .i64 x.2, .int .i64 0]) := fun x => hmp.look x
    simp only [tell, Bool.not_true, ef, hkd, ee, gb, cq, ht]
    have rest : ∀ (ts : List Table) (m2 : Maps), vx (dp ps ts) mp m2 → (s.kind ≠ 1 → ts = ba c ks) → (s.kind = 1 → ts = []) →
        ((TT k).f_zq (bx m s).On (lst m (c.tables.map (bp m))) (lst m (c.procs.map (gz m))) 0 0 mp m2
         (fun _a8 _b2 _a9 _a10 _n7 _n8 _m7 _m8 =>
         br _b2
         ((TT k).f_zq (bx m s).Where _a9 _a10 _n7 _n8 _m7 _m8
         (fun _a11 _b3 _a12 _a13 _n9 _n10 _m9 _m10 =>
         br _b3
         (0 ≤ (0 : Int) ∧ (0 : Int) < (((lst true (ks.map eI)).n : Nat) : Int) ∧
         bf ((lst true (ks.map eI)).g 0) fun n31 =>
         0 ≤ n31 ∧ n31 < ((_a12.n : Nat) : Int) ∧
         as_x8 (_a12.g (n31.toNat)) fun x32 =>
         br (decide (s.kind = 1))
         ((TT k).f_zh (bx m s) x32 _a12 _a13 _n9 _n10 _m9 _m10 s.kind (lst true (ks.map eI)) _a8 _a11 false
         (fun _a14 _a15 _n11 _n12 _m11 _m12 _n13 _a16 _a17 _a18 _b4 =>
         K ⟨_n13, _a16, _a17, _a18, (lst true []), (lst true []), _b4, (lst true []), (lst true []), (lst true []), (lst true [])⟩ false _a14 _a15 _n11 _n12 _m11 _m12)
         (fun _b5 _a19 _a20 _n14 _n15 _m13 _m14 _n16 _a21 _a22 _a23 _b6 _r1 =>
         K ⟨_n16, _a21, _a22, _a23, (lst true _r1), (lst true []), _b6, (lst true []), (lst true []), (lst true []), (lst true [])⟩ _b5 _a19 _a20 _n14 _n15 _m13 _m14))
         (br (decide (s.kind = 2))
         ((TT k).f_zr (bx m s) x32 _a12 _a13 _n9 _n10 _m9 _m10 s.kind (lst true (ks.map eI)) _a8 _a11 false
         (fun _b7 _a24 _a25 _n17 _n18 _m15 _m16 _n19 _a26 _a27 _a28 _b8 _r2 _r3 =>
         K ⟨_n19, _a26, _a27, _a28, (lst true _r2), (lst true _r3), _b8, (lst true []), (lst true []), (lst true []), (lst true [])⟩ _b7 _a24 _a25 _n17 _n18 _m15 _m16))
         (br (decide (s.kind = 4))
         ((TT k).f_ze (bx m s) _a12 _a13 _n9 _n10 _m9 _m10 s.kind (lst true (ks.map eI)) _a8 _a11 false
         (fun _a29 _a30 _n20 _n21 _m17 _m18 _n22 _a31 _a32 _a33 _b9 _r4 =>
         K ⟨_n22, _a31, _a32, _a33, (lst true []), (lst true []), _b9, (lst true _r4), (lst true []), (lst true []), (lst true [])⟩ false _a29 _a30 _n20 _n21 _m17 _m18)
         (fun _a34 _a35 _n23 _n24 _m19 _m20 _n25 _a36 _a37 _a38 _b10 _r5 _r6 =>
         K ⟨_n25, _a36, _a37, _a38, (lst true _r5), (lst true []), _b10, (lst true _r6), (lst true []), (lst true []), (lst true [])⟩ false _a34 _a35 _n23 _n24 _m19 _m20)
         (fun _a39 _a40 _n26 _n27 _m21 _m22 _n28 _a41 _a42 _a43 _b11 _r7 _r8 _r9 =>
         K ⟨_n28, _a41, _a42, _a43, (lst true _r7), (lst true []), _b11, (lst true _r8), (lst true _r9), (lst true []), (lst true [])⟩ false _a39 _a40 _n26 _n27 _m21 _m22)
         (fun _a44 _a45 _n29 _n30 _m23 _m24 _n31 _a46 _a47 _a48 _b12 _r10 _r11 _r12 _r13 _r14 =>
         K ⟨_n31, _a46, _a47, _a48, (lst true _r10), (lst true []), _b12, (lst true _r11), (lst true _r12), (lst true _r13), (lst true _r14)⟩ true _a44 _a45 _n29 _n30 _m23 _m24))
         (K ⟨s.kind, (lst true (ks.map eI)), _a8, _a11, (lst true []), (lst true []), false, (lst true []), (lst true []), (lst true []), (lst true [])⟩ _b3 _a12 _a13 _n9 _n10 _m9 _m10))))
         (K ⟨s.kind, (lst true (ks.map eI)), _a8, _a11, (lst true []), (lst true []), false, (lst true []), (lst true []), (lst true []), (lst true [])⟩ false _a12 _a13 _n9 _n10 _m9 _m10)))
         (K ⟨s.kind, (lst true (ks.map eI)), _a8, (lst true []), (lst true []), (lst true []), false, (lst true []), (lst true []), (lst true []), (lst true [])⟩ false _a9 _a10 _n7 _n8 _m7 _m8))) =
        tell (match jm (ofE (dp ps (if s.kind = 1 then [] else ba c ks)) 2) s.on with
          | .error f => .error f
          | .ok on => match jm (ofE (dp ps (if s.kind = 1 then [] else ba c ks)) 2) s.where_ with
            | .error f => .error f
            | .ok wh =>
                if s.kind = 1 then match pn (dp ps []) s t with
                  | .error f => .error f
                  | .ok is => .ok ⟨s.kind, ks, on, wh, is, [], false, [], [], [], []⟩
                else if s.kind = 2 then match qis (dp ps (ba c ks)) t [] s.sets with
                  | .error f => .error f
                  | .ok (is, js) => .ok ⟨s.kind, ks, on, wh, is, js, false, [], [], [], []⟩
                else if s.kind = 4 then match jk (dp ps (ba c ks)) s (ba c ks) with
                  | .error f => .error f
                  | .ok (is, g, gs, os) => .ok ⟨s.kind, ks, on, wh, is, [], g, gs, os, s.limit, is.map (·.cr)⟩
                else .ok ⟨s.kind, ks, on, wh, [], [], false, [], [], [], []⟩) (fun t => Y (bj true t)) Z := by
      intro ts m2 hq hts1 hts2
      have hts : (if s.kind = 1 then [] else ba c ks) = ts := by
        by_cases h : s.kind = 1
        · rw [if_pos h, hts2 h]
        · rw [if_neg h, hts1 h]
      rw [hts, hon, hwh]
      simp only [qg2 hq m k (by omega) s.on hs.on.1 hs.on.2]
      cases jm (ofE (dp ps ts) 2) s.on with
      | error f => simp only [tell, ef, hZ]
      | ok on =>
        simp only [tell, db, qg2 hq m k (by omega) s.where_ hs.where_.1 hs.where_.2]
        cases jm (ofE (dp ps ts) 2) s.where_ with
        | error f => simp only [ef, hZ]
        | ok wh =>
          simp only [db, hl0, hg0, ig, hq5, Int.le_refl, Int.natCast_nonneg, true_and, Int.toNat_natCast, au hq3, hq4, i7]
          have htm : t ∈ c.tables := by rw [← hq4]; exact List.getElem_mem hq3
          by_cases k1 : s.kind = 1
          · rw [decide_eq_true k1, db, if_pos k1]
            have hts0 := hts2 k1
            subst hts0
            obtain ⟨X, h1, h2⟩ := qni hq m k (by omega) s t hs.items.1 hs.items.2 (lst m (c.tables.map (bp m))) (lst m (c.procs.map (gz m))) s.kind (lst true (ks.map eI)) (lst true (on.map (bb true))) (lst true (wh.map (bb true))) false _ _
            rw [h1]
            cases pn (dp ps []) s t with
            | error f =>
              simp only [tell]
              rcases h2 f.1 f.2 with h | ⟨r', h⟩
              · rw [h, hZ]
              · rw [h, hZ]
            | ok is => simp only [tell, hY]; rfl
          · rw [decide_eq_false k1, ef, if_neg k1]
            have hts0 := hts1 k1
            by_cases k2 : s.kind = 2
            · rw [decide_eq_true k2, db, if_pos k2]
              obtain ⟨k, rfl⟩ : ∃ k', k = k' + 2 := ⟨k - 2, by omega⟩
              have hse : (bx m s).Sets = lst m (s.sets.map (v7 m)) := rfl
              have u := fun K0 K1 hz => qiu hq m (k + 1) (by omega) (lst m (c.tables.map (bp m))) (lst m (c.procs.map (gz m))) s.kind (lst true (ks.map eI)) (lst true (on.map (bb true))) (lst true (wh.map (bb true))) false t ((zz hc).2 t htm).1 K0 K1 Z hz s.sets [] [] [] [] [] (k + 1) hs.sets.2 (by have := hs.sets.1; omega) (by have := hs.sets.1; simp; omega) rfl rfl fy.nil
              have z : ((0 : Nat) : Int) = 0 := rfl
              simp only [List.nil_append, List.length_nil, List.length_map, List.map_nil, z] at u
              have hU : ∀ K0, (TT (k + 2)).f_zr (bx m s) (bm m t) (lst m (c.tables.map (bp m))) (lst m (c.procs.map (gz m))) 0 0 mp m2 s.kind (lst true (ks.map eI)) (lst true (on.map (bb true))) (lst true (wh.map (bb true))) false K0 = F_zr (TT (k + 1)) (bx m s) (bm m t) (lst m (c.tables.map (bp m))) (lst m (c.procs.map (gz m))) 0 0 mp m2 s.kind (lst true (ks.map eI)) (lst true (on.map (bb true))) (lst true (wh.map (bb true))) false K0 := fun K0 => rfl
              rw [hU]
              simp only [F_zr, hse, bo, List.length_map, ca]
              rw [u _ _ (fun x a r r' => hZ _ _ _ _ _ _ _), hts0]
              cases qis (dp ps (ba c ks)) t [] s.sets with
              | error f => rfl
              | ok x => simp only [tell, hY]; rfl
            · rw [decide_eq_false k2, ef, if_neg k2]
              by_cases k4 : s.kind = 4
              · rw [decide_eq_true k4, db, if_pos k4]
                have hq' := hq
                rw [hts0] at hq'
                rw [qnh hq' m k (by omega) c ks (ba c ks) hat hT s hs (lst m (c.procs.map (gz m))) s.kind (lst true (on.map (bb true))) (lst true (wh.map (bb true))) _ _ _ _ Z (fun x a r => hZ _ _ _ _ _ _ _) (fun x a b r r' => hZ _ _ _ _ _ _ _) (fun x a b r r' r'' => hZ _ _ _ _ _ _ _)]
                cases jk (dp ps (ba c ks)) s (ba c ks) with
                | error f => rfl
                | ok x => simp only [tell, hY]; rfl
              · rw [decide_eq_false k4, ef, if_neg k4, hY]
                rfl
    by_cases k1 : s.kind = 1
    · rw [decide_eq_true k1, db]
      have hq : vx (dp ps []) mp [] := ⟨hparam, fun t n => rfl⟩
      have := rest [] [] hq (fun h => absurd k1 h) (fun _ => rfl)
      rw [ht, decide_eq_true k1] at this
      simp only [tell] at this ⊢
      exact this
    · rw [decide_eq_false k1, ef]
      obtain ⟨m2, h1, h2⟩ := qs9 (k := k) (by omega) c ks (ba c ks) hat hT hnm m (lst m (c.procs.map (gz m))) mp _
      rw [h1]
      have hq : vx (dp ps (ba c ks)) mp m2 := ⟨hparam, fun t n => h2.get t n⟩
      have := rest (ba c ks) m2 hq (fun _ => rfl) (fun h => absurd h k1)
      rw [ht, decide_eq_false k1] at this
      simp only [tell] at this ⊢
      exact this
end Go.RX
namespace Go.RX
theorem S_za (k M : Nat) (hM : M < 1152921504606846976) (hk : M + 300 ≤ k) (m : Bool) (c : bg) (hc : c.Fits M) (ps : List S_x7) (hp : oz M ps) (s : Stmt) (hs : s.Fits M) (K : S_x9 → S_x5 → Prop) :
    (TT k).f_za (bh m c) (lst m (ps.map b8)) (bx m s) K = tell (vh c ps s) (fun t => K (bj true t) ⟨0, 0⟩) (fun x a => K (bj true qh) ⟨x, a⟩) := by
  obtain ⟨k, rfl⟩ : ∃ k', k = k' + 1 := ⟨k - 1, by omega⟩
  have hF : (TT (k + 1)).f_za (bh m c) (lst m (ps.map b8)) (bx m s) K = F_za (TT k) (bh m c) (lst m (ps.map b8)) (bx m s) K := rfl
  rw [hF]
  simp only [F_za, vh]
  have hb := qj7 k M hM (by omega) m c hc ps hp (K ⟨0, (lst true []), (lst true []), (lst true []), (lst true []), (lst true []), false, (lst true []), (lst true []), (lst true []), (lst true [])⟩ ⟨80, 0⟩)
    (fun _a2 _a1 _n1 _n2 _m1 _m2 =>
     (TT k).f_z2w (bx m s)
     (fun _b1 =>
     br (!_b1)
     (K ⟨0, (lst true []), (lst true []), (lst true []), (lst true []), (lst true []), false, (lst true []), (lst true []), (lst true []), (lst true [])⟩ ⟨120, 0⟩)
     ((TT k).f_zo (bx m s) _a2 _a1 _n1 _n2 _m1 _m2
     (fun _x3 _b2 _a3 _a4 _n3 _n4 _m3 _m4 =>
     br (!_b2)
     (K ⟨0, (lst true []), (lst true []), (lst true []), (lst true []), (lst true []), false, (lst true []), (lst true []), (lst true []), (lst true [])⟩ ⟨_n3, _n4⟩)
     (K _x3 ⟨0, 0⟩)))))
  by_cases h : dv c = true ∧ dr ps = true
  · rw [if_pos h] at hb
    obtain ⟨mp, h1, h2⟩ := hb
    rw [h1, if_pos h, S_z2w M k hM (by omega) m s hs]
    cases hr : dj s
    · rfl
    · simp only [Bool.not_true, ef, if_true]
      rw [qff k (by omega) m c h.1 ps s (qsr hr) mp h2 _ (fun x a => K (bj true qh) ⟨x, a⟩) (fun _ _ _ _ _ _ _ => rfl) (fun ty => K ty ⟨0, 0⟩) (fun _ _ _ _ _ _ _ => rfl)]
  · rw [if_neg h] at hb
    rw [hb, if_neg h]
    rfl
end Go.RX
