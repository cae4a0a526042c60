/- The law in plain Lean: what a typed statement says, and what it is written back as. No condition. -/
import Derived.Test.YtacceochippkaaaGreatDoorTa
set_option linter.all false
namespace Go.RX
theorem qm (T : Table) : cm [T] = T.columns := by simp [cm]
section
variable {ps : List S_x7} {T : Table} (C : TyC ps [T] [T]) (G : mj T)
include C G
theorem qmv : ∀ {ks ns : List Int} {l : List Term}, okF (fun n => inR n (cm [T]).length) id ns ks = true → kh ps (cm [T]) l (ks.map fun k => ((cm [T]).getD k.toNat wg).Type_) = true →
    ∃ es ss, fw (dw ps [T] 16) l = some es ∧ j9 T ks es = some ss ∧ ss.length = ks.length ∧ ss.all u6 = true ∧ qis (dp ps [T]) T ns ss = .ok (l, ks)
  | [], ns, [], _, _ => ⟨[], [], rfl, rfl, rfl, rfl, rfl⟩
  | [], ns, x :: l, _, h => by simp [kh] at h
  | k :: ks, ns, [], _, h => by simp [kh] at h
  | k :: ks, ns, x :: l, h, hf => by
    simp only [okF, Bool.and_eq_true, Bool.not_eq_true', id] at h
    obtain ⟨⟨h1, h2⟩, h3⟩ := h
    simp only [List.map_cons, kh, Bool.and_eq_true] at hf
    obtain ⟨⟨f1, f2⟩, f3⟩ := hf
    obtain ⟨e, q1, q2, q3, q4⟩ := va C 16 x f1
    obtain ⟨es, ss, r1, r2, r3, r4, r5⟩ := qmv h3 f3
    have h1' := gu.1 h1
    rw [qm] at h1' h1 f2
    obtain ⟨j, rfl⟩ : ∃ j : Nat, k = j := ⟨k.toNat, by omega⟩
    have hj : j < T.columns.length := by omega
    have eg : T.columns.getD j wg = T.columns[j] := by simp [List.getD, hj]
    have et : typeAt T j = T.columns[j].Type_ := by simp [typeAt, hj]
    rw [Int.toNat_natCast, eg] at f2
    refine ⟨e :: es, ⟨T.columns[j].Name, e, 0⟩ :: ss, by simp only [fw, q1, r1], ?_, by simp [r3], ?_, ?_⟩
    · simp only [j9, if_pos h1, r2, Int.toNat_natCast, eg]
    · have := G.cols _ (List.getElem_mem hj)
      simp only [List.all_cons, r4, Bool.and_true, u6, this, Bool.true_and]
      exact q3
    · simp only [qis, qhi G.once hj, h2, r5, et, qbb.2 ⟨q4, f2⟩]
      simp
theorem qer : ∀ {ks ns : List Int} {l : List Term} {es : List Expr} {ss : List qaf}, fw (dw ps [T] 16) l = some es → j9 T ks es = some ss → ss.all u6 = true → qis (dp ps [T]) T ns ss = .ok (l, ks) →
    okF (fun n => inR n (cm [T]).length) id ns ks = true ∧ kh ps (cm [T]) l (ks.map fun k => ((cm [T]).getD k.toNat wg).Type_) = true ∧ ss.length = ks.length
  | ks, ns, [], es, ss, h, hS, hR, hA => by
    simp only [fw, Option.some.injEq] at h
    subst h
    match ks, hS with
    | [], hS =>
      simp only [j9, Option.some.injEq] at hS
      subst hS
      exact ⟨rfl, rfl, rfl⟩
    | k :: ks, hS => simp [j9] at hS
  | ks, ns, x :: l, es, ss, h, hS, hR, hA => by
    simp only [fw] at h
    split at h
    · cases h
    rename_i y hy
    split at h
    · cases h
    rename_i ys hys
    simp only [Option.some.injEq] at h
    subst h
    match ks, hS, hA with
    | [], hS, _ => simp [j9] at hS
    | k :: ks, hS, hA =>
      simp only [j9] at hS
      split at hS
      · rename_i h1
        split at hS
        · rename_i r hr
          simp only [Option.some.injEq] at hS
          subst hS
          have h1' := gu.1 h1
          obtain ⟨j, rfl⟩ : ∃ j : Nat, k = j := ⟨k.toNat, by omega⟩
          have hj : j < T.columns.length := by omega
          have eg : T.columns.getD j wg = T.columns[j] := by simp [List.getD, hj]
          have et : typeAt T j = T.columns[j].Type_ := by simp [typeAt, hj]
          simp only [List.all_cons, Bool.and_eq_true, u6] at hR
          simp only [qis, Int.toNat_natCast, eg, qhi G.once hj] at hA
          split at hA
          · cases hA
          rename_i hm
          split at hA
          · cases hA
          rename_i u hu
          split at hA
          · cases hA
          rename_i us js hus
          injection hA with hA
          injection hA with a1 a2
          injection a1 with a1 a3
          injection a2 with a2 a4
          subst a1 a3 a4
          obtain ⟨q1, q2⟩ := qbb.1 hu
          obtain ⟨i1, i2, i3⟩ := qer hys hr hR.2 hus
          refine ⟨?_, ?_, by simp [i3]⟩
          · simp only [okF, Bool.and_eq_true, Bool.not_eq_true', id]
            exact ⟨⟨by rw [qm]; exact h1, by simpa using hm⟩, i1⟩
          · simp only [List.map_cons, kh, Bool.and_eq_true]
            refine ⟨⟨nd C 16 y _ hy hR.1.2 q1, ?_⟩, i2⟩
            rw [qm, Int.toNat_natCast, eg, ← et]
            exact q2
        · cases hS
      · cases hS
end
theorem qo6 {l : List Int} {n : Nat} (h : okF (fun x => inR x n) id [] l = true) : l.length ≤ n := by
  rw [lj] at h
  obtain ⟨h1, h2, -⟩ := h
  rw [List.map_id] at h2
  have h3 : (l.map Int.toNat).Nodup := by
    unfold List.Nodup
    rw [List.pairwise_map]
    refine h2.imp_of_mem fun {a b} ha hb hab e => hab ?_
    have := gu.1 (h1 a ha)
    have := gu.1 (h1 b hb)
    omega
  have h4 : ∀ x ∈ l.map Int.toNat, x < n := fun x hx => by
    obtain ⟨a, ha, rfl⟩ := List.mem_map.1 hx
    have := gu.1 (h1 a ha)
    omega
  have h5 := List.Nodup.length_le_of_subset h3 (l₂ := List.range n) fun x hx => List.mem_range.2 (h4 x hx)
  simpa using h5
end Go.RX
namespace Go.RX
structure Cx7 (c : bg) (ps : List S_x7) (t : Typed) (T : Table) (r : List Table) : Prop where
  tabs : ba c t.tables = T :: r
  ok : ez c t.tables = true
  C : TyC ps (T :: r) (T :: r)
  G : mj T
  each : t.tables.all (fun k => inR k c.tables.length) = true
  names : ∀ s : Stmt, s.table = T.name → s.join = (if t.tables.length = 2 then ((T :: r).getD 1 qe7).name else noB) → pw c s = .ok t.tables
  how : (t.tables.length = 1 ∧ r = []) ∨ (t.tables.length = 2 ∧ t.tables.getD 0 0 ≠ t.tables.getD 1 0 ∧ isName ((T :: r).getD 1 qe7).name = true)
theorem qp9 {c : bg} {ps : List S_x7} {t : Typed} (hc : dv c = true) (hp : dr ps = true) (h : q7k c t) (hne : t.tables.length = 2 → t.tables.getD 0 0 ≠ t.tables.getD 1 0) : ∃ T r, Cx7 c ps t T r := by
  obtain ⟨g, gn⟩ := ql hc
  cases h with
  | one i h e =>
    refine ⟨c.tables[i], [], ⟨by rw [e]; exact qbs h, by rw [e]; exact qjn h, qsu hc hp h, g _ (List.getElem_mem h), by rw [e]; simp [inR, h], fun s h1 h2 => ?_, .inl ⟨by rw [e]; rfl, rfl⟩⟩⟩
    rw [e] at h2
    have h2' : s.join = noB := h2
    rw [e]
    simp only [pw, h1, qy gn h, h2', if_true]
  | two i j h h' e =>
    have hij : i ≠ j := fun hij => hne (by rw [e]; rfl) (by rw [e, hij]; rfl)
    have nj := (g _ (List.getElem_mem h')).name
    refine ⟨c.tables[i], [c.tables[j]], ⟨by rw [e]; exact u9 h h', by rw [e]; exact qjo h h', qsv hc hp h h' hij, g _ (List.getElem_mem h), by rw [e]; simp [inR, h, h'], fun s h1 h2 => ?_, .inr ⟨by rw [e]; rfl, hne (by rw [e]; rfl), nj⟩⟩⟩
    rw [e] at h2
    have h2' : s.join = c.tables[j].name := h2
    rw [e]
    simp only [pw, h1, qy gn h, h2', if_neg (yr nj), qy gn h', if_neg (Ne.symm hij)]
theorem ub {t : Typed} {k : Int} {tb : List Int} {o w i : List Term} {co : List Int} {g : Bool} {gs : List Int} {so : List S_xd} {li ty : List Int} (h1 : t.kind = k) (h2 : t.tables = tb) (h3 : t.on = o) (h4 : t.where_ = w) (h5 : t.items = i) (h6 : t.columns = co) (h7 : t.grouped = g) (h8 : t.groups = gs) (h9 : t.sorts = so) (h10 : t.limit = li) (h11 : t.types = ty) :
    (Except.ok ⟨k, tb, o, w, i, co, g, gs, so, li, ty⟩ : Except Flt Typed) = .ok t := by
  subst h1 h2 h3 h4 h5 h6 h7 h8 h9 h10 h11; rfl
theorem qdl {c : bg} {ps : List S_x7} {s : Stmt} {t : Typed} (hc : dv c = true) (hp : dr ps = true) : vh c ps s = .ok t ↔ dj s = true ∧ wb c ps s = .ok t := by
  simp only [vh, if_pos (And.intro hc hp)]
  by_cases h : dj s = true
  · rw [if_pos h]; simp [h]
  · rw [if_neg h]; simp [h]
section
variable {c : bg} {ps : List S_x7} {t : Typed} {T : Table} {r : List Table} (X : Cx7 c ps t T r)
include X
theorem oc (s : Stmt) (h1 : s.table = T.name) (h2 : s.join = (if t.tables.length = 2 then ((T :: r).getD 1 qe7).name else noB)) : wb c ps s =
    match jm (ofE (dp ps (if s.kind = 1 then [] else T :: r)) 2) s.on with
    | .error f => .error f
    | .ok on => match jm (ofE (dp ps (if s.kind = 1 then [] else T :: r)) 2) s.where_ with
      | .error f => .error f
      | .ok wh =>
          if s.kind = 1 then match pn (dp ps []) s T with
            | .error f => .error f
            | .ok is => .ok ⟨s.kind, t.tables, on, wh, is, [], false, [], [], [], []⟩
          else if s.kind = 2 then match qis (dp ps (T :: r)) T [] s.sets with
            | .error f => .error f
            | .ok (is, js) => .ok ⟨s.kind, t.tables, on, wh, is, js, false, [], [], [], []⟩
          else if s.kind = 4 then match jk (dp ps (T :: r)) s (T :: r) with
            | .error f => .error f
            | .ok (is, g, gs, os) => .ok ⟨s.kind, t.tables, on, wh, is, [], g, gs, os, s.limit, is.map (·.cr)⟩
          else .ok ⟨s.kind, t.tables, on, wh, [], [], false, [], [], [], []⟩ := by
  simp only [wb, X.names s h1 h2, X.tabs]
  rfl
theorem od : mz c ps t =
    match fw (dw ps (T :: r) 16) t.on with
    | none => none
    | some on => match fw (dw ps (T :: r) 16) t.where_ with
      | none => none
      | some wh => match fw (dw ps (T :: r) 16) t.items with
        | none => none
        | some its => match fw (oh (T :: r)) t.groups with
          | none => none
          | some gs =>
            if t.kind = 2 then (match j9 T t.columns its with
              | none => none
              | some ss => some (da t (T :: r) on wh [] gs false ss))
            else if t.kind = 4 ∧ tw (T :: r) t.items = true then some (da t (T :: r) on wh [] gs true [])
            else some (da t (T :: r) on wh its gs false []) := by
  simp only [mz, if_pos X.ok, X.tabs]
  rfl
theorem qrs (h : t.tables.length = 2) (on wh its gs : List Expr) (star : Bool) (ss : List qaf) : (da t (T :: r) on wh its gs star ss).join ≠ noB := by
  rcases X.how with ⟨h1, -⟩ | ⟨-, -, h3⟩
  · omega
  · simp only [da, if_pos h]
    exact yr h3
theorem qci (h : t.tables.length = 1) (on wh its gs : List Expr) (star : Bool) (ss : List qaf) : (da t (T :: r) on wh its gs star ss).join = noB := by
  simp only [da, if_neg (show ¬ t.tables.length = 2 by omega)]
theorem ux (on wh its gs : List Expr) (star : Bool) (ss : List qaf) : qa2 (da t (T :: r) on wh its gs star ss) = true ↔ (if t.tables.length = 2 then on.length = 1 else on.length = 0) := by
  rcases X.how with ⟨h1, -⟩ | ⟨h1, -, h3⟩
  · have := qci X h1 on wh its gs star ss
    rw [if_neg (by omega)]
    simp only [qa2, this, qge, decide_true, Bool.true_and, Bool.false_and, Bool.or_false]
    exact decide_eq_true_iff
  · have := qrs X h1 on wh its gs star ss
    have hn : isName (da t (T :: r) on wh its gs star ss).join = true := by simp only [da, if_pos h1]; exact h3
    rw [if_pos h1]
    simp only [qa2, hn, decide_eq_false this, Bool.true_and, Bool.false_and, Bool.false_or]
    exact decide_eq_true_iff
theorem qzp (hk : t.kind = 4) (h1 : ir ps (cm (T :: r)) t.on = true) (h2 : (if t.tables.length = 2 then t.on.length = 1 else t.on.length = 0)) (h3 : ir ps (cm (T :: r)) t.where_ = true) (h4 : t.where_.length ≤ 1) (h : me ps (cm (T :: r)) t = true) :
    ∃ s, mz c ps t = some s ∧ dj s = true ∧ wb c ps s = .ok t := by
  simp only [me, Bool.and_eq_true, decide_eq_true_eq, beq_iff_eq] at h
  obtain ⟨⟨⟨⟨⟨⟨⟨⟨⟨⟨⟨g1, g2⟩, g3⟩, g4⟩, g5⟩, g6⟩, g7⟩, g8⟩, g9⟩, g10⟩, g11⟩, g12⟩ := h
  obtain ⟨on, o1, o2, o3, o4⟩ := xa X.C h1
  obtain ⟨wh, w1, w2, w3, w4⟩ := xa X.C h3
  obtain ⟨its, i1, i2, i3, i4⟩ := qor X.C (g := ki t) (gs := t.groups) g9
  obtain ⟨gs, q1, q2, q3, q4⟩ := qlk X.C g8
  have hso : t.sorts.all qbq = true := by
    rw [List.all_eq_true] at g11 ⊢
    intro x hx
    have := g11 x hx
    simp only [Bool.and_eq_true, decide_eq_true_eq] at this
    have hle : t.items.length ≤ 16 := by
      simp only [Bool.or_eq_true, Bool.and_eq_true, decide_eq_true_eq] at g7
      omega
    simp only [qbq, within, Bool.and_eq_true]
    exact ⟨decide_eq_true (by omega), decide_eq_true (by show x.Item ≤ 4611686018427387904; omega)⟩
  have hsort : jm (wa t.items.length) t.sorts = .ok t.sorts := tv.2 g11
  have n1 : ¬ (4 : Int) = 1 := by decide
  have n2 : ¬ (4 : Int) = 2 := by decide
  by_cases hs : tw (T :: r) t.items = true
  · have hs' := hs
    simp only [tw, Bool.and_eq_true, decide_eq_true_eq] at hs'
    obtain ⟨⟨s1, s2⟩, s3⟩ := hs'
    have g7' : ni t.items (cm (T :: r)).length = true ∧ ki t = false ∧ t.items.length ≤ 16 := by
      simp only [Bool.or_eq_true, Bool.and_eq_true, decide_eq_true_eq, Bool.not_eq_true'] at g7
      rcases g7 with g7 | g7
      · omega
      · exact ⟨g7.1.1, g7.1.2, g7.2⟩
    obtain ⟨z1, z2, z3⟩ := g7'
    simp only [ni, Bool.and_eq_true, decide_eq_true_eq] at z1
    have hg0 : t.groups.length = 0 := by
      simp only [ki, Bool.or_eq_false_iff, decide_eq_false_iff_not] at z2
      omega
    have hgs : gs = [] := List.length_eq_zero_iff.1 (by omega)
    subst hgs
    have hst : cv 0 (cm (T :: r)) = t.items := qmz (all := cm (T :: r)) s2 z1.2 (fun j _ => by rw [Nat.zero_add]) (by
      rw [List.all_eq_true] at g9 ⊢
      intro x hx
      have := g9 x hx
      simp only [Bool.and_eq_true] at this
      exact this.1)
    refine ⟨da t (T :: r) on wh [] [] true [], ?_, ?_, ?_⟩
    · rw [od X, o1, w1, i1, q1]
      simp only [if_neg (show ¬ t.kind = 2 by omega), if_pos (And.intro hk hs)]
    · have hj := (ux X on wh [] [] true []).2 (by rw [o2]; exact h2)
      have hT : isName (da t (T :: r) on wh [] [] true []).table = true := X.G.name
      simp only [dj, hT, qgq, hj, Bool.and_true, Bool.true_and]
      have kk : (da t (T :: r) on wh [] [] true []).kind = 4 := hk
      simp only [kk, decide_true, cond_true]
      simp [da, w2, h4, w3, hso, g12, o3, g3, g4]
    · rw [oc X _ rfl rfl]
      have kk : (da t (T :: r) on wh [] [] true []).kind = 4 := hk
      have e1 : (da t (T :: r) on wh [] [] true []).on = on := rfl
      have e2 : (da t (T :: r) on wh [] [] true []).where_ = wh := rfl
      simp only [kk, e1, e2, if_neg n1, if_neg n2, o4, w4, if_true]
      have hcols : ¬ (cm (T :: r)).length > 16 := by omega
      have hch : jk (dp ps (T :: r)) (da t (T :: r) on wh [] [] true []) (T :: r) = .ok (t.items, false, [], t.sorts) := by
        simp only [jk, da, qe9, if_true, qgu, if_neg hcols, hst, hsort]
      rw [hch]
      simp only []
      have hgr : t.groups = [] := List.length_eq_zero_iff.1 hg0
      have hco : t.columns = [] := List.length_eq_zero_iff.1 g5
      exact ub hk rfl rfl rfl rfl hco (g1.trans z2) hgr rfl rfl g10
  · have h8 : t.items.length ≤ 8 := by
      simp only [Bool.or_eq_true, Bool.and_eq_true, decide_eq_true_eq, Bool.not_eq_true'] at g7
      rcases g7 with g7 | g7
      · exact g7
      · refine Decidable.byContradiction fun hc => hs ?_
        obtain ⟨⟨z1, z2⟩, z3⟩ := g7
        simp only [ni, Bool.and_eq_true, decide_eq_true_eq] at z1
        have : oh (T :: r) (t.items.length : Nat) = none := xv _ _ (by rw [zc]; omega)
        simp only [tw, z1.1, this, Option.isNone_none, Bool.and_true, decide_eq_true_eq]
        omega
    refine ⟨da t (T :: r) on wh its gs false [], ?_, ?_, ?_⟩
    · rw [od X, o1, w1, i1, q1]
      simp only [if_neg (show ¬ t.kind = 2 by omega), if_neg (show ¬ (t.kind = 4 ∧ tw (T :: r) t.items = true) from fun h => hs h.2)]
    · have hj := (ux X on wh its gs false []).2 (by rw [o2]; exact h2)
      have hT : isName (da t (T :: r) on wh its gs false []).table = true := X.G.name
      simp only [dj, hT, qgq, hj, Bool.and_true, Bool.true_and]
      have kk : (da t (T :: r) on wh its gs false []).kind = 4 := hk
      simp only [kk, decide_true, cond_true]
      have l0 : decide (its.length = 0) = false := decide_eq_false (by omega)
      have l0' : ¬ t.items = [] := fun e => by rw [e] at g6; simp at g6
      have l1 : its ≠ [] := fun e => by rw [e] at i2; simp at i2; omega
      simp [da, w2, h4, w3, hso, g12, o3, g3, g4, i3, q3, i2, q2, h8, g2, l0', l1]
    · rw [oc X _ rfl rfl]
      have kk : (da t (T :: r) on wh its gs false []).kind = 4 := hk
      have e1 : (da t (T :: r) on wh its gs false []).on = on := rfl
      have e2 : (da t (T :: r) on wh its gs false []).where_ = wh := rfl
      simp only [kk, e1, e2, if_neg n1, if_neg n2, o4, w4, if_true]
      have hgd : gg (da t (T :: r) on wh its gs false []) = ki t := by
        simp only [gg, ki, da, qb4 i1, q2]
      have hch : jk (dp ps (T :: r)) (da t (T :: r) on wh its gs false []) (T :: r) = .ok (t.items, ki t, t.groups, t.sorts) := by
        have a1 : (da t (T :: r) on wh its gs false []).groups = gs := rfl
        have a2 : (da t (T :: r) on wh its gs false []).star = false := rfl
        have a3 : (da t (T :: r) on wh its gs false []).items = its := rfl
        have a4 : (da t (T :: r) on wh its gs false []).sorts = t.sorts := rfl
        simp only [jk, a1, a2, a3, a4, q4, hgd, i4, hsort, Bool.false_eq_true, if_false]
      rw [hch]
      simp only []
      have hco : t.columns = [] := List.length_eq_zero_iff.1 g5
      exact ub hk rfl rfl rfl rfl hco g1 rfl rfl rfl g10
end
end Go.RX
namespace Go.RX
theorem ua {t : Typed} {k : Int} {tb : List Int} {o w i : List Term} {co : List Int} {g : Bool} {gs : List Int} {so : List S_xd} {li ty : List Int} (h : (Except.ok ⟨k, tb, o, w, i, co, g, gs, so, li, ty⟩ : Except Flt Typed) = .ok t) :
    t.kind = k ∧ t.tables = tb ∧ t.on = o ∧ t.where_ = w ∧ t.items = i ∧ t.columns = co ∧ t.grouped = g ∧ t.groups = gs ∧ t.sorts = so ∧ t.limit = li ∧ t.types = ty := by
  injection h with h
  subst h
  exact ⟨rfl, rfl, rfl, rfl, rfl, rfl, rfl, rfl, rfl, rfl, rfl⟩
section
variable {c : bg} {ps : List S_x7} {t : Typed} {T : Table} {r : List Table} (X : Cx7 c ps t T r)
include X
theorem qpg (hk : t.kind = 4) {s : Stmt} (hW : mz c ps t = some s) (hR : dj s = true) (hE : wb c ps s = .ok t) :
    ir ps (cm (T :: r)) t.on = true ∧ (if t.tables.length = 2 then t.on.length = 1 else t.on.length = 0) ∧ ir ps (cm (T :: r)) t.where_ = true ∧ t.where_.length ≤ 1 ∧ me ps (cm (T :: r)) t = true := by
  rw [od X] at hW
  split at hW
  · cases hW
  rename_i on o1
  split at hW
  · cases hW
  rename_i wh w1
  split at hW
  · cases hW
  rename_i its i1
  split at hW
  · cases hW
  rename_i gs q1
  rw [if_neg (show ¬ t.kind = 2 by omega)] at hW
  have n1 : ¬ (4 : Int) = 1 := by decide
  have n2 : ¬ (4 : Int) = 2 := by decide
  have il := je i1
  have gl := je q1
  have ol := je o1
  have wl := je w1
  have ak := qb4 i1
  have common : ∀ (X1 : List Expr) (st : Bool), s = da t (T :: r) on wh X1 gs st [] → ir ps (cm (T :: r)) t.on = true ∧ (if t.tables.length = 2 then t.on.length = 1 else t.on.length = 0) ∧ ir ps (cm (T :: r)) t.where_ = true ∧ t.where_.length ≤ 1 ∧
      X1.all jh = true ∧ st = decide (X1.length = 0) ∧ X1.length ≤ 8 ∧ t.groups.length ≤ 8 ∧ t.sorts.length ≤ 8 ∧ t.limit.length ≤ 1 ∧ t.limit.all (within · qfn) = true ∧
      ∃ is g gs' os, jk (dp ps (T :: r)) s (T :: r) = .ok (is, g, gs', os) ∧ t.items = is ∧ t.columns = [] ∧ t.grouped = g ∧ t.groups = gs' ∧ t.sorts = os ∧ t.types = is.map (·.cr) := by
    intro X1 st hs
    subst hs
    have kk : (da t (T :: r) on wh X1 gs st []).kind = 4 := hk
    simp only [dj, kk, decide_true, cond_true, qgq, Bool.and_eq_true, decide_eq_true_eq, beq_iff_eq] at hR
    obtain ⟨⟨⟨r1, r2⟩, r3⟩, ⟨⟨⟨⟨⟨⟨⟨⟨⟨⟨r4, r5⟩, r6⟩, r7⟩, r8⟩, r9⟩, r10⟩, r11⟩, r12⟩, r13⟩, r14⟩, r15⟩ := hR
    rw [ux X] at r9
    rw [oc X _ rfl rfl] at hE
    have e1 : (da t (T :: r) on wh X1 gs st []).on = on := rfl
    have e2 : (da t (T :: r) on wh X1 gs st []).where_ = wh := rfl
    simp only [kk, e1, e2, if_neg n1, if_neg n2, if_true] at hE
    split at hE
    · cases hE
    rename_i on' o4
    split at hE
    · cases hE
    rename_i wh' w4
    split at hE
    · cases hE
    rename_i is g gs' os hch
    obtain ⟨t1, t2, t3, t4, t5, t6, t7, t8, t9, t10, t11⟩ := ua hE
    rw [← t3] at o4
    rw [← t4] at w4
    have gl' : gs.length ≤ 8 := r12
    have wl' : wh.length ≤ 1 := r2
    exact ⟨qz X.C o1 r8 o4, by rw [← ol]; exact r9, qz X.C w1 r3 w4, by omega, r4, r10, r11, by omega, r13, r14, r7, is, g, gs', os, hch, t5, t6, t7, t8, t9, t11⟩
  by_cases hs : tw (T :: r) t.items = true
  · rw [if_pos ⟨hk, hs⟩] at hW
    simp only [Option.some.injEq] at hW
    obtain ⟨c1, c2, c3, c4, c5, c6, c7, c8, c9, c10, c11, is, g, gs', os, hch, d1, d2, d3, d4, d5, d6⟩ := common [] true hW.symm
    refine ⟨c1, c2, c3, c4, ?_⟩
    rw [← hW] at hch
    simp only [jk, da, if_true] at hch
    split at hch
    · cases hch
    rename_i gs2 hgs2
    split at hch
    · cases hch
    rename_i is2 his2
    split at hch
    · cases hch
    rename_i os2 hos2
    simp only [Except.ok.injEq, Prod.mk.injEq] at hch
    obtain ⟨f1, f2, f3, f4⟩ := hch
    subst f1 f2 f3 f4
    simp only [qgu] at his2
    split at his2
    · cases his2
    split at his2
    · cases his2
    rename_i hgs hcols
    injection his2 with his2
    rw [d5] at hos2
    rw [← his2] at d1 d6
    have hlen : t.items.length = (cm (T :: r)).length := by rw [d1, fv]
    simp only [tw, Bool.and_eq_true, decide_eq_true_eq] at hs
    obtain ⟨⟨s1, s2⟩, s3⟩ := hs
    have hg0 : t.groups.length = 0 := by rw [← gl]; rfl
    have hrt := qm0 (cm (T :: r)) 0 (cm (T :: r)) (ps := ps) (fun j _ => by rw [Nat.zero_add])
    rw [← d1] at hrt
    have hnag : (t.items.any fun x => isAgg x.op) = false := by
      rw [List.any_eq_false]
      intro x hx
      have hseq : ∀ (l : List Term) (i : Nat), qep i l = true → ∀ x ∈ l, x.op = 3 := by
        intro l
        induction l with
        | nil => intro i _ x hx; cases hx
        | cons y l ih =>
          intro i h x hx
          simp only [qep, Bool.and_eq_true, decide_eq_true_eq] at h
          cases hx with
          | head => exact h.1.1
          | tail _ hx => exact ih _ h.2 x hx
      simp [isAgg, hseq _ _ s2 x hx]
    have hgr : ki t = false := by simp only [ki, hnag, hg0, Bool.or_false]; rfl
    have hso : t.sorts.all (qsn t.items.length) = true := by
      rw [hlen, ← fv (cm (T :: r)) 0, his2]
      rw [d5]
      exact tv.1 hos2
    have hstar : ni t.items (cm (T :: r)).length = true := by simp only [ni, s2, hlen, decide_true, Bool.and_self]
    have hg1 : t.groups = [] := List.length_eq_zero_iff.1 hg0
    have hso' : t.sorts.all (fun x => decide (1 ≤ x.Item) && decide (x.Item ≤ (t.items.length : Int)) && decide (x.At = 0)) = true := hso
    have hit : t.items.all (fun x => rtE ps (cm (T :: r)) 16 true x && (!false || isAgg x.op || (decide (x.op = 3) && i5 x.num t.groups))) = true := by
      simp only [Bool.not_false, Bool.true_or, Bool.and_true]
      exact hrt
    have l1 : 1 ≤ t.items.length := by omega
    have l16 : t.items.length ≤ 16 := by omega
    have ht : t.types = t.items.map (·.cr) := by rw [d6, d1]
    simp only [me, hgr, d3, hstar, hit, c11, hso', d2, decide_eq_true c8, decide_eq_true c9, decide_eq_true c10, decide_eq_true l1, decide_eq_true l16, decide_eq_true ht, hg1, okF]
    simp
    exact fun x hx => List.all_eq_true.1 hrt x hx
  · rw [if_neg (fun h => hs h.2)] at hW
    simp only [Option.some.injEq] at hW
    obtain ⟨c1, c2, c3, c4, c5, c6, c7, c8, c9, c10, c11, is, g, gs', os, hch, d1, d2, d3, d4, d5, d6⟩ := common its false hW.symm
    refine ⟨c1, c2, c3, c4, ?_⟩
    rw [← hW] at hch
    have hgd : gg (da t (T :: r) on wh its gs false []) = ki t := by
      simp only [gg, ki, da, ak, gl]
    have a1 : (da t (T :: r) on wh its gs false []).groups = gs := rfl
    have a2 : (da t (T :: r) on wh its gs false []).star = false := rfl
    have a3 : (da t (T :: r) on wh its gs false []).items = its := rfl
    have a4 : (da t (T :: r) on wh its gs false []).sorts = t.sorts := rfl
    simp only [jk, a1, a2, a3, a4, hgd, Bool.false_eq_true, if_false] at hch
    split at hch
    · cases hch
    rename_i gs2 hgs2
    split at hch
    · cases hch
    rename_i is2 his2
    split at hch
    · cases hch
    rename_i os2 hos2
    simp only [Except.ok.injEq, Prod.mk.injEq] at hch
    obtain ⟨f1, f2, f3, f4⟩ := hch
    subst f1 f3 f4
    rw [← d4] at hgs2 his2
    rw [← d1] at his2 d6 hos2
    rw [← d5] at hos2
    have k1 := qdv X.C q1 hgs2
    have k2 := qji X.C i1 c5 his2
    have k3 : t.items.all (fun x => rtE ps (cm (T :: r)) 16 true x && (!ki t || isAgg x.op || (decide (x.op = 3) && i5 x.num t.groups))) = true := k2
    have k4 : t.sorts.all (fun x => decide (1 ≤ x.Item) && decide (x.Item ≤ (t.items.length : Int)) && decide (x.At = 0)) = true := tv.1 hos2
    have l1 : 1 ≤ t.items.length := by
      have : ¬ its.length = 0 := fun h => by rw [decide_eq_true h] at c6; cases c6
      omega
    have l8 : t.items.length ≤ 8 := by omega
    simp only [me, d3, ← f2, k1, k3, k4, c11, d2, decide_eq_true c8, decide_eq_true c9, decide_eq_true c10, decide_eq_true l1, decide_eq_true l8, decide_eq_true d6]
    simp
end
end Go.RX
namespace Go.RX
section
variable {c : bg} {ps : List S_x7} {t : Typed} {T : Table} (X : Cx7 c ps t T [])
include X
theorem qgi : t.tables.length = 1 := by
  rcases X.how with ⟨h, -⟩ | ⟨h, -, h3⟩
  · exact h
  · exfalso
    have : isName (qe7).name = true := h3
    rw [show qe7.name = noB from rfl, qge] at this
    cases this
theorem qse (hk : t.kind = 1 ∨ t.kind = 2 ∨ t.kind = 3) (h2 : t.on.length = 0) (h3 : ir ps (cm [T]) t.where_ = true) (h4 : t.where_.length ≤ 1) (h : j3 ps (cm [T]) t = true) :
    ∃ s, mz c ps t = some s ∧ dj s = true ∧ wb c ps s = .ok t := by
  simp only [j3, Bool.and_eq_true, decide_eq_true_eq, Bool.not_eq_true'] at h
  obtain ⟨⟨⟨⟨⟨g1, g2⟩, g3⟩, g4⟩, g5⟩, g6⟩ := h
  have l1 := qgi X
  have z1 : t.on = [] := List.length_eq_zero_iff.1 h2
  have z2 : t.groups = [] := List.length_eq_zero_iff.1 g2
  have z3 : t.sorts = [] := List.length_eq_zero_iff.1 g3
  have z4 : t.limit = [] := List.length_eq_zero_iff.1 g4
  have z5 : t.types = [] := List.length_eq_zero_iff.1 g5
  have hT : ∀ (wh its : List Expr) (ss : List qaf), isName (da t [T] [] wh its [] false ss).table = true := fun _ _ _ => X.G.name
  rcases hk with hk | hk | hk
  · rw [hk] at g6
    simp only [decide_true, cond_true, Bool.and_eq_true, decide_eq_true_eq] at g6
    obtain ⟨⟨y1, y2⟩, y3⟩ := g6
    have z6 : t.columns = [] := List.length_eq_zero_iff.1 y1
    have z7 : t.where_ = [] := List.length_eq_zero_iff.1 y2
    rw [qm] at y3
    obtain ⟨es, e1, e2, e3, e4⟩ := qli X.C.nil y3
    refine ⟨da t [T] [] [] es [] false [], ?_, ?_, ?_⟩
    · rw [od X, z1, z7, e1, z2]
      simp only [fw]
      rw [if_neg (by omega), if_neg (by omega)]
    · have kk : (da t [T] [] [] es [] false []).kind = 1 := hk
      have hj := qci X l1 [] [] es [] false []
      have d41 : decide ((1 : Int) = 4) = false := rfl
      have := X.G.least
      have := X.G.most
      simp only [dj, hT, kk, d41, cond_false, vo, hj]
      have i1 : 1 ≤ es.length := by omega
      have i2 : es.length ≤ 16 := by omega
      simp [da, z3, z4, e3, i1, i2]
    · rw [oc X _ rfl rfl]
      have kk : (da t [T] [] [] es [] false []).kind = 1 := hk
      have a1 : (da t [T] [] [] es [] false []).on = [] := rfl
      have a2 : (da t [T] [] [] es [] false []).where_ = [] := rfl
      have hi : pn (dp ps []) (da t [T] [] [] es [] false []) T = .ok t.items := by
        show (if es.length ≠ T.columns.length then (Except.error ((131 : Int), (0 : Int)) : Except Flt (List Term)) else qjg (dp ps []) es T.columns) = .ok t.items
        rw [if_neg (by omega)]
        exact e4
      simp only [kk, a1, a2, jm, if_true, hi]
      exact ub hk rfl z1 z7 rfl z6 g1 z2 z3 z4 z5
  · rw [hk] at g6
    have d21 : decide ((2 : Int) = 1) = false := rfl
    have d23 : decide ((2 : Int) = 3) = false := rfl
    simp only [d21, d23, cond_false, Bool.and_eq_true, decide_eq_true_eq] at g6
    obtain ⟨⟨y1, y2⟩, y3⟩ := g6
    obtain ⟨wh, w1, w2, w3, w4⟩ := xa X.C h3
    obtain ⟨es, ss, e1, e2, e3, e4, e5⟩ := qmv X.C X.G y1 y3
    have hle := qo6 y1
    rw [qm] at hle
    refine ⟨da t [T] [] wh [] [] false ss, ?_, ?_, ?_⟩
    · rw [od X, z1, w1, e1, z2]
      simp only [fw, e2]
      rw [if_pos hk]
    · have kk : (da t [T] [] wh [] [] false ss).kind = 2 := hk
      have hj := qci X l1 [] wh [] [] false ss
      have d41 : decide ((2 : Int) = 4) = false := rfl
      have := X.G.most
      have i1 : 1 ≤ ss.length := by omega
      have i2 : ss.length ≤ 16 := by omega
      simp only [dj, hT, kk, d41, cond_false, vo, hj]
      simp [da, z3, z4, w2, h4, w3, e4, i1, i2]
    · rw [oc X _ rfl rfl]
      have kk : (da t [T] [] wh [] [] false ss).kind = 2 := hk
      have a1 : (da t [T] [] wh [] [] false ss).on = [] := rfl
      have a2 : (da t [T] [] wh [] [] false ss).where_ = wh := rfl
      have a3 : (da t [T] [] wh [] [] false ss).sets = ss := rfl
      simp only [kk, a1, a2, a3, jm, if_neg (show ¬ (2 : Int) = 1 by decide), w4, if_true, e5]
      exact ub hk rfl z1 rfl rfl rfl g1 z2 z3 z4 z5
  · rw [hk] at g6
    have d31 : decide ((3 : Int) = 1) = false := rfl
    simp only [d31, cond_false, decide_true, cond_true, Bool.and_eq_true, decide_eq_true_eq] at g6
    obtain ⟨y1, y2⟩ := g6
    have z6 : t.columns = [] := List.length_eq_zero_iff.1 y1
    have z7 : t.items = [] := List.length_eq_zero_iff.1 y2
    obtain ⟨wh, w1, w2, w3, w4⟩ := xa X.C h3
    refine ⟨da t [T] [] wh [] [] false [], ?_, ?_, ?_⟩
    · rw [od X, z1, w1, z7, z2]
      simp only [fw]
      rw [if_neg (by omega), if_neg (by omega)]
    · have kk : (da t [T] [] wh [] [] false []).kind = 3 := hk
      have hj := qci X l1 [] wh [] [] false []
      have d41 : decide ((3 : Int) = 4) = false := rfl
      simp only [dj, hT, kk, d41, cond_false, vo, hj]
      simp [da, z3, z4, w2, h4, w3]
    · rw [oc X _ rfl rfl]
      have kk : (da t [T] [] wh [] [] false []).kind = 3 := hk
      have a1 : (da t [T] [] wh [] [] false []).on = [] := rfl
      have a2 : (da t [T] [] wh [] [] false []).where_ = wh := rfl
      simp only [kk, a1, a2, jm, if_neg (show ¬ (3 : Int) = 1 by decide), if_neg (show ¬ (3 : Int) = 2 by decide), if_neg (show ¬ (3 : Int) = 4 by decide), w4]
      exact ub hk rfl z1 rfl z7 z6 g1 z2 z3 z4 z5
theorem qmc (hk4 : t.kind ≠ 4) {s : Stmt} (hW : mz c ps t = some s) (hR : dj s = true) (hE : wb c ps s = .ok t) :
    (t.kind = 1 ∨ t.kind = 2 ∨ t.kind = 3) ∧ t.on.length = 0 ∧ ir ps (cm [T]) t.where_ = true ∧ t.where_.length ≤ 1 ∧ j3 ps (cm [T]) t = true := by
  rw [od X] at hW
  split at hW
  · cases hW
  rename_i on o1
  split at hW
  · cases hW
  rename_i wh w1
  split at hW
  · cases hW
  rename_i its i1
  split at hW
  · cases hW
  rename_i gs q1
  have l1 := qgi X
  have il := je i1
  have gl := je q1
  have ol := je o1
  have wl := je w1
  have common : ∀ (X1 : List Expr) (ss : List qaf), s = da t [T] on wh X1 gs false ss → t.on.length = 0 ∧ ir ps (cm (if t.kind = 1 then [] else [T])) t.where_ = true ∧ t.where_.length ≤ 1 ∧ t.groups.length = 0 ∧ t.sorts.length = 0 ∧ t.limit.length = 0 ∧ X1.all (cz 16) = true ∧ ss.all u6 = true ∧
      ((t.kind = 1 ∧ 1 ≤ X1.length ∧ t.where_.length = 0 ∧ ∃ is, pn (dp ps []) s T = .ok is ∧ t.items = is ∧ t.columns = []) ∨
       (t.kind = 2 ∧ 1 ≤ ss.length ∧ ∃ is js, qis (dp ps [T]) T [] ss = .ok (is, js) ∧ t.items = is ∧ t.columns = js) ∨ (t.kind = 3 ∧ t.items = [] ∧ t.columns = [])) ∧ t.grouped = false ∧ t.types = [] := by
    intro X1 ss hs
    have hE' := hE
    rw [hs] at hR hE'
    have kk : (da t [T] on wh X1 gs false ss).kind = t.kind := rfl
    have d4 : decide (t.kind = 4) = false := decide_eq_false hk4
    simp only [dj, kk, d4, cond_false, vo, Bool.and_eq_true, decide_eq_true_eq, Bool.or_eq_true] at hR
    obtain ⟨⟨⟨r1, r2⟩, r3⟩, ⟨⟨⟨⟨⟨⟨⟨r4, r5⟩, r6⟩, r7⟩, r8⟩, r9⟩, r10⟩, r11⟩, r12⟩ := hR
    rw [oc X _ rfl rfl] at hE'
    have e1 : (da t [T] on wh X1 gs false ss).on = on := rfl
    have e2 : (da t [T] on wh X1 gs false ss).where_ = wh := rfl
    have e3 : (da t [T] on wh X1 gs false ss).sets = ss := rfl
    have r6' : on.length = 0 := r6
    have r7' : gs.length = 0 := r7
    have r2' : wh.length ≤ 1 := r2
    simp only [kk, e1, e2, e3] at hE'
    split at hE'
    · cases hE'
    rename_i on' o4
    split at hE'
    · cases hE'
    rename_i wh' w4
    have wt : t.where_ = wh' → ir ps (cm (if t.kind = 1 then [] else [T])) t.where_ = true := fun h => by
      rw [← h] at w4
      by_cases h1 : t.kind = 1
      · rw [if_pos h1] at w4 ⊢
        exact qz X.C.nil w1 r3 w4
      · rw [if_neg h1] at w4 ⊢
        exact qz X.C w1 r3 w4
    rcases r12 with (⟨⟨⟨⟨k1, k2⟩, k3⟩, k4⟩, k5⟩ | ⟨⟨⟨k1, k2⟩, k3⟩, k4⟩) | ⟨⟨k1, k2⟩, k3⟩
    · rw [if_pos k1] at hE'
      split at hE'
      · cases hE'
      rename_i is his
      obtain ⟨t1, t2, t3, t4, t5, t6, t7, t8, t9, t10, t11⟩ := ua hE'
      have k5' : wh.length = 0 := k5
      rw [← hs] at his
      exact ⟨by omega, wt t4, by omega, by omega, r8, r9, r10, r11, .inl ⟨k1, k2, by omega, is, his, t5, t6⟩, t7, t11⟩
    · rw [if_neg (by omega), if_pos k1] at hE'
      split at hE'
      · cases hE'
      rename_i is js hu
      obtain ⟨t1, t2, t3, t4, t5, t6, t7, t8, t9, t10, t11⟩ := ua hE'
      exact ⟨by omega, wt t4, by omega, by omega, r8, r9, r10, r11, .inr (.inl ⟨k1, k3, is, js, hu, t5, t6⟩), t7, t11⟩
    · rw [if_neg (by omega), if_neg (by omega), if_neg (by omega)] at hE'
      obtain ⟨t1, t2, t3, t4, t5, t6, t7, t8, t9, t10, t11⟩ := ua hE'
      exact ⟨by omega, wt t4, by omega, by omega, r8, r9, r10, r11, .inr (.inr ⟨k1, t5, t6⟩), t7, t11⟩
  by_cases h2 : t.kind = 2
  · rw [if_pos h2] at hW
    split at hW
    · cases hW
    rename_i ss hss
    simp only [Option.some.injEq] at hW
    obtain ⟨c1, c2, c3, c4, c5, c6, c7, c8, c9, c10, c11⟩ := common [] ss hW.symm
    rw [if_neg (by omega)] at c2
    rcases c9 with ⟨k, -⟩ | ⟨-, m1, is, js, hu, t5, t6⟩ | ⟨k, -⟩
    · omega
    · subst t5 t6
      obtain ⟨s1, s2, s3⟩ := qer X.C X.G i1 hss c8 hu
      refine ⟨.inr (.inl h2), c1, c2, c3, ?_⟩
      have d21 : decide ((2 : Int) = 1) = false := rfl
      have d23 : decide ((2 : Int) = 3) = false := rfl
      have l : 1 ≤ t.columns.length := by omega
      simp only [j3, c10, c4, c5, c6, c11, h2, d21, d23, cond_false, s1, s2, decide_eq_true l]
      rfl
    · omega
  · rw [if_neg h2, if_neg (fun h => hk4 h.1)] at hW
    simp only [Option.some.injEq] at hW
    obtain ⟨c1, c2, c3, c4, c5, c6, c7, c8, c9, c10, c11⟩ := common its [] hW.symm
    rcases c9 with ⟨k, m1, m2, is, his, t5, t6⟩ | ⟨k, -⟩ | ⟨k, t5, t6⟩
    · have hw : t.where_ = [] := List.length_eq_zero_iff.1 m2
      refine ⟨.inl k, c1, by rw [hw]; rfl, c3, ?_⟩
      rw [← hW] at his
      have his : (if its.length ≠ T.columns.length then (Except.error ((131 : Int), (0 : Int)) : Except Flt (List Term)) else qjg (dp ps []) its T.columns) = .ok is := his
      split at his
      · cases his
      rename_i hl
      subst t5
      have hf := qdr X.C.nil i1 (by omega) c7 his
      have hf' : kh ps [] t.items (List.map (fun x => x.Type_) (cm [T])) = true := by rw [qm]; exact hf
      simp only [j3, c10, c4, c5, c6, c11, k, decide_true, cond_true, t6, hw, hf']
      rfl
    · omega
    · rw [if_neg (by omega)] at c2
      refine ⟨.inr (.inr k), c1, c2, c3, ?_⟩
      have d31 : decide ((3 : Int) = 1) = false := rfl
      simp only [j3, c10, c4, c5, c6, c11, k, decide_true, cond_true, cond_false, d31, t5, t6]
      rfl
end
theorem qbr {c : bg} {ps : List S_x7} {t : Typed} {s : Stmt} (h : mz c ps t = some s) : s.table = ((ba c t.tables).getD 0 qe7).name ∧ s.join = (if t.tables.length = 2 then ((ba c t.tables).getD 1 qe7).name else noB) ∧ s.kind = t.kind := by
  simp only [mz] at h
  split at h
  · split at h
    · cases h
    split at h
    · cases h
    split at h
    · cases h
    split at h
    · cases h
    split at h
    · split at h
      · cases h
      · simp only [Option.some.injEq] at h
        rw [← h]; exact ⟨rfl, rfl, rfl⟩
    · split at h <;> (simp only [Option.some.injEq] at h; rw [← h]; exact ⟨rfl, rfl, rfl⟩)
  · cases h
theorem tz (c : bg) (ps : List S_x7) (t : Typed) : ib c ps t = true ↔ dv c = true ∧ dr ps = true ∧ ∃ s, mz c ps t = some s ∧ vh c ps s = .ok t := by
  constructor
  · intro h
    simp only [ib, Bool.and_eq_true, decide_eq_true_eq] at h
    obtain ⟨⟨⟨⟨⟨⟨⟨hc, hp⟩, k1⟩, k2⟩, ht⟩, ⟨o1, o2⟩⟩, ⟨w1, w2⟩⟩, hr⟩ := h
    refine ⟨hc, hp, ?_⟩
    simp only [iq, Bool.and_eq_true] at ht
    obtain ⟨h1, h2⟩ := ht
    have hk : ez c t.tables = true ∧ (t.tables.length = 2 → t.tables.getD 0 0 ≠ t.tables.getD 1 0) ∧ (if t.tables.length = 2 then t.kind = 4 ∧ t.on.length = 1 else t.tables.length = 1 ∧ t.on.length = 0) := by
      by_cases h : t.tables.length = 2
      · rw [decide_eq_true h] at h2
        simp only [cond_true, Bool.and_eq_true, decide_eq_true_eq, Bool.not_eq_true', decide_eq_false_iff_not] at h2
        rw [if_pos h]
        exact ⟨by simp only [ez, h1, decide_eq_true h, Bool.or_true, Bool.and_self], fun _ => h2.1.2, h2.1.1, h2.2⟩
      · rw [decide_eq_false h] at h2
        simp only [cond_false, Bool.and_eq_true, decide_eq_true_eq] at h2
        rw [if_neg h]
        exact ⟨by simp only [ez, h1, decide_eq_true h2.1, Bool.true_or, Bool.and_self], fun h' => absurd h' h, h2⟩
    obtain ⟨a1, a2, a3⟩ := hk
    obtain ⟨T, r, X⟩ := qp9 hc hp (qc4 a1) a2
    rw [X.tabs] at o1 w1 hr
    have fin : (∃ s, mz c ps t = some s ∧ dj s = true ∧ wb c ps s = .ok t) → ∃ s, mz c ps t = some s ∧ vh c ps s = .ok t := fun ⟨s, s1, s2, s3⟩ => ⟨s, s1, (qdl hc hp).2 ⟨s2, s3⟩⟩
    refine fin ?_
    by_cases k4 : t.kind = 4
    · rw [decide_eq_true k4] at hr
      refine qzp X k4 o1 ?_ w1 w2 hr
      by_cases h : t.tables.length = 2
      · rw [if_pos h] at a3 ⊢; exact a3.2
      · rw [if_neg h] at a3 ⊢; exact a3.2
    · rw [decide_eq_false k4] at hr
      have h : ¬ t.tables.length = 2 := fun h => by rw [if_pos h] at a3; exact k4 a3.1
      rw [if_neg h] at a3
      have hr0 : r = [] := by
        rcases X.how with ⟨-, h'⟩ | ⟨h', -⟩
        · exact h'
        · exact absurd h' h
      subst hr0
      exact qse X (by omega) a3.2 w1 w2 hr
  · rintro ⟨hc, hp, s, hW, hE⟩
    obtain ⟨hR, hE⟩ := (qdl hc hp).1 hE
    have ha : ez c t.tables = true := by
      by_cases h : ez c t.tables = true
      · exact h
      · simp only [mz, if_neg h] at hW; cases hW
    have hne : t.tables.length = 2 → t.tables.getD 0 0 ≠ t.tables.getD 1 0 := by
      intro h2 he
      obtain ⟨g, gn⟩ := ql hc
      cases qc4 ha with
      | one i h e => rw [e] at h2; simp at h2
      | two i j h h' e =>
        rw [e] at he
        have hij : i = j := by
          have : ((i : Nat) : Int) = ((j : Nat) : Int) := he
          omega
        subst hij
        have hs : s.table = c.tables[i].name ∧ s.join = c.tables[i].name := by
          obtain ⟨b1, b2, -⟩ := qbr hW
          rw [e, u9 h h] at b1 b2
          exact ⟨b1, b2⟩
        have : pw c s = .error (81, s.joinAt) := by
          simp only [pw, hs.1, hs.2, qy gn h, if_neg (yr (g _ (List.getElem_mem h)).name), if_true]
        simp only [wb, this] at hE
        cases hE
    obtain ⟨T, r, X⟩ := qp9 hc hp (qc4 ha) hne
    have htabs : ez c t.tables = true := ha
    by_cases k4 : t.kind = 4
    · obtain ⟨c1, c2, c3, c4, c5⟩ := qpg X k4 hW hR hE
      have hT : iq c t = true := by
        simp only [iq, X.each, Bool.true_and]
        by_cases h : t.tables.length = 2
        · rw [if_pos h] at c2
          have := hne h
          simp only [decide_eq_true h, cond_true, decide_eq_true k4, decide_eq_false this, c2]
          rfl
        · rw [if_neg h] at c2
          have : t.tables.length = 1 := by rcases X.how with ⟨h', -⟩ | ⟨h', -⟩ <;> omega
          simp only [decide_eq_false h, cond_false, this, c2]
          rfl
      have on1 : t.on.length ≤ 1 := by
        by_cases h : t.tables.length = 2
        · rw [if_pos h] at c2; omega
        · rw [if_neg h] at c2; omega
      simp only [ib, hc, hp, hT, X.tabs, c1, c3, c5, decide_eq_true c4, decide_eq_true on1, k4]
      rfl
    · have hr0 : r = [] := by
        rcases X.how with ⟨-, h'⟩ | ⟨h', -, -⟩
        · exact h'
        · exfalso
          obtain ⟨b1, b2, hsk⟩ := qbr hW
          have hj : s.join ≠ noB := by
            rw [b2, if_pos h', X.tabs]
            rcases X.how with ⟨h'', -⟩ | ⟨-, -, h3⟩
            · omega
            · exact yr h3
          have d4 : decide (t.kind = 4) = false := decide_eq_false k4
          simp only [dj, hsk, d4, cond_false, vo, decide_eq_false hj, Bool.false_and, Bool.and_false] at hR
          cases hR
      subst hr0
      obtain ⟨k, c1, c3, c4, c5⟩ := qmc X k4 hW hR hE
      have hl := qgi X
      have hT : iq c t = true := by
        simp only [iq, X.each, Bool.true_and, decide_eq_false (show ¬ t.tables.length = 2 by omega), cond_false, hl, c1]
        rfl
      have ho : ir ps (cm [T]) t.on = true := by rw [List.length_eq_zero_iff.1 c1]; rfl
      have on1 : t.on.length ≤ 1 := by omega
      have ka : 1 ≤ t.kind := by omega
      have kb : t.kind ≤ 4 := by omega
      simp only [ib, hc, hp, hT, X.tabs, ho, c3, c5, decide_eq_true c4, decide_eq_true on1, decide_eq_true ka, decide_eq_true kb, decide_eq_false k4]
      rfl
end Go.RX
