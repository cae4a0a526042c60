/- The law in plain Lean: what a typed statement says, and what it is written back as. No condition. -/
import Derived.Test.YtacceochippkaaaGreatDoorTd
set_option linter.all false
namespace Go.RX
structure qi (t : Typed) : Prop where
  small : ue t
  limit : t.limit.length ≤ 1048576
  on : ∀ x ∈ t.on, qfa x
  where_ : ∀ x ∈ t.where_, qfa x
  items : ∀ x ∈ t.items, qfa x
  groups : ∀ x ∈ t.groups, i64 x
section
variable {m mp mt : Bool} {c : bg} {ps : List S_x7} {t : Typed}
theorem qnr (k : Nat) (mm : Bool) (l : List S_xd) (hl : l.length ≤ 1048576) (K : Arr → Prop) : (TT (k + 1)).f_z29 (lst mm (l.map eu)) K = K (lst true (l.map eu)) := by
  show F_z29 (TT k) _ K = _
  have h1 : (∀ i, i < l.length → dn ((lst mm (l.map eu)).g i) = 3) = True := eq_true fun i hi => by rw [au hi]; rfl
  have h2 : (l.length * 24 ≤ 140737488355328) = True := eq_true (by omega)
  simp only [F_z29, bo, List.length_map, h1, h2, true_and]
  have e : (⟨true, l.length, (lst mm (l.map eu)).g⟩ : Arr) = lst true (l.map eu) := by simp [lst]
  rw [e]
theorem qnq (k : Nat) (mm : Bool) (l : List Int) (hl : l.length ≤ 1048576) (K : Arr → Prop) : (TT (k + 1)).f_z2a (lst mm (l.map eI)) K = K (lst true (l.map eI)) := by
  show F_z2a (TT k) _ K = _
  have h1 : (∀ i, i < l.length → dn ((lst mm (l.map eI)).g i) = 1) = True := eq_true fun i hi => by rw [au hi]; rfl
  have h2 : (l.length * 8 ≤ 140737488355328) = True := eq_true (by omega)
  simp only [F_z2a, bo, List.length_map, h1, h2, true_and]
  have e : (⟨true, l.length, (lst mm (l.map eI)).g⟩ : Arr) = lst true (l.map eI) := by simp [lst]
  rw [e]
theorem qp1 (H : WOK c t) (hN : qi t) (Tb : Table) (i0 : Nat) (h0 : i0 < c.tables.length) (hT : c.tables[i0] = Tb) (ht0 : ∃ r, t.tables = ((i0 : Nat) : Int) :: r) (k : Nat) (hk : 1048900 ≤ k) (N J : ByteArray) (K : S_xe → Bool → S_x0 → Prop) (Z : Prop) (hZ : ∀ x, K x false (sWr m mp mt c ps t) = Z) :
    ((TT (k + 1)).f_z15 (sWr m mp mt c ps t).t_On (sWr m mp mt c ps t)
       (fun _a1 _b2 _x3 =>
       br (!_b2)
       (K ⟨(sWr m mp mt c ps t).t_Kind, N, J, _a1, (lst true []), (lst true []), false, (lst true []), (lst true []), (lst true []), (lst true []), 0, 0⟩ false _x3)
       ((TT (k + 1)).f_z15 _x3.t_Where _x3
       (fun _a2 _b3 _x4 =>
       br (!_b3)
       (K ⟨(sWr m mp mt c ps t).t_Kind, N, J, _a1, _a2, (lst true []), false, (lst true []), (lst true []), (lst true []), (lst true []), 0, 0⟩ false _x4)
       ((TT (k + 1)).f_z15 _x4.t_Items _x4
       (fun _a3 _b4 _x5 =>
       br (!_b4)
       (K ⟨(sWr m mp mt c ps t).t_Kind, N, J, _a1, _a2, (lst true []), false, (lst true []), (lst true []), (lst true []), (lst true []), 0, 0⟩ false _x5)
       (L_z18_0 (TT (k + 1)) (TT (k + 1)).fuel _a3 _x5.t_Groups ((_x5.t_Groups.n : Nat) : Int) 0 _x5 (sWr m mp mt c ps t).t_Kind N J _a1 _a2 false 0 0 ([])
       (fun x52 n53 s54 s55 a56 a57 b58 n59 n60 r61 =>
       K ⟨n53, s54, s55, a56, a57, (lst true []), b58, (lst true []), (lst true r61), (lst true []), (lst true []), n59, n60⟩ false x52)
       (fun a62 x63 n64 s65 s66 a67 a68 b69 n70 n71 r72 =>
       (TT (k + 1)).f_z29 x63.t_Sorts
       (fun _a4 =>
       (TT (k + 1)).f_z2a x63.t_Limit
       (fun _a5 =>
       br (n64 == (2 : Int))
       ((TT (k + 1)).f_z16 a62 x63 n64 s65 s66 a67 a68 b69 _a4 _a5 n70 n71 r72
       (fun _x6 _n1 _s1 _s2 _a6 _a7 _b5 _a8 _a9 _n2 _n3 _r1 =>
       K ⟨_n1, _s1, _s2, _a6, _a7, (lst true []), _b5, (lst true []), (lst true _r1), _a8, _a9, _n2, _n3⟩ false _x6)
       (fun _b6 _x7 _n4 _s3 _s4 _a10 _a11 _b7 _a12 _a13 _n5 _n6 _r2 _r3 =>
       K ⟨_n4, _s3, _s4, _a10, _a11, (lst true []), _b7, (lst true _r3), (lst true _r2), _a12, _a13, _n5, _n6⟩ _b6 _x7))
       (br (n64 == (4 : Int))
       ((TT (k + 1)).f_z17 x63
       (fun _b8 _x8 =>
       br _b8
       (K ⟨n64, s65, s66, a67, a68, (lst true []), true, (lst true []), (lst true r72), _a4, _a5, n70, n71⟩ true _x8)
       (K ⟨n64, s65, s66, a67, a68, a62, b69, (lst true []), (lst true r72), _a4, _a5, n70, n71⟩ true _x8)))
       (K ⟨n64, s65, s66, a67, a68, a62, b69, (lst true []), (lst true r72), _a4, _a5, n70, n71⟩ true x63)))))))))))) =
      match fw (dw ps (ba c t.tables) 16) t.on with
      | none => Z
      | some on => match fw (dw ps (ba c t.tables) 16) t.where_ with
        | none => Z
        | some wh => match fw (dw ps (ba c t.tables) 16) t.items with
          | none => Z
          | some its => match fw (oh (ba c t.tables)) t.groups with
            | none => Z
            | some gs =>
              if t.kind = 2 then (match j9 Tb t.columns its with
                | none => Z
                | some ss => K (bx true ⟨t.kind, N, J, on, wh, [], false, ss, gs, t.sorts, t.limit, 0, 0⟩) true (sWr m mp mt c ps t))
              else if t.kind = 4 ∧ tw (ba c t.tables) t.items = true then K (bx true ⟨t.kind, N, J, on, wh, [], true, [], gs, t.sorts, t.limit, 0, 0⟩) true (sWr m mp mt c ps t)
              else K (bx true ⟨t.kind, N, J, on, wh, its, false, [], gs, t.sorts, t.limit, 0, 0⟩) true (sWr m mp mt c ps t) := by
  have w1 : (sWr m mp mt c ps t).t_On = lst mt (t.on.map (bb mt)) := rfl
  have w2 : (sWr m mp mt c ps t).t_Where = lst mt (t.where_.map (bb mt)) := rfl
  have w3 : (sWr m mp mt c ps t).t_Items = lst mt (t.items.map (bb mt)) := rfl
  have w4 : (sWr m mp mt c ps t).t_Groups = lst mt (t.groups.map eI) := rfl
  have w5 : (sWr m mp mt c ps t).t_Sorts = lst mt (t.sorts.map eu) := rfl
  have w6 : (sWr m mp mt c ps t).t_Limit = lst mt (t.limit.map eI) := rfl
  have w7 : (sWr m mp mt c ps t).t_Kind = t.kind := rfl
  have w8 : (((sWr m mp mt c ps t).t_Groups.n : Nat) : Int) = ((t.groups.length : Nat) : Int) := by rw [w4]; simp [lst]
  rw [w1, qfh H (k + 1) (by omega) t.on hN.small.on hN.on]
  cases fw (dw ps (ba c t.tables) 16) t.on with
  | none => exact hZ _
  | some on =>
  simp only [Bool.not_true, ef]
  rw [w2, qfh H (k + 1) (by omega) t.where_ hN.small.where_ hN.where_]
  cases fw (dw ps (ba c t.tables) 16) t.where_ with
  | none => exact hZ _
  | some wh =>
  simp only [Bool.not_true, ef]
  rw [w3, qfh H (k + 1) (by omega) t.items hN.small.items hN.items]
  cases fw (dw ps (ba c t.tables) 16) t.items with
  | none => exact hZ _
  | some its =>
  simp only [Bool.not_true, ef, ca, w8, w4, w7]
  have gr := fun (K0 : S_x0 → Int → ByteArray → ByteArray → Arr → Arr → Bool → Int → Int → (List PV) → Prop) (K1 : Arr → S_x0 → Int → ByteArray → ByteArray → Arr → Arr → Bool → Int → Int → (List PV) → Prop) (hz : ∀ r, K0 (sWr m mp mt c ps t) t.kind N J (lst true (on.map (b7 true))) (lst true (wh.map (b7 true))) false 0 0 r = Z) =>
    qns H (k + 1) (by omega) hN.small.groups hN.groups (lst true (its.map (b7 true))) t.kind N J (lst true (on.map (b7 true))) (lst true (wh.map (b7 true))) false 0 0 Z K0 K1 hz t.groups [] (k + 1) [] rfl rfl (by have := hN.small.groups; omega)
  have z : ((([] : List Int).length : Nat) : Int) = 0 := rfl
  simp only [z, List.map_nil] at gr
  have e8 : (((lst mt (t.groups.map eI)).n : Nat) : Int) = ((t.groups.length : Nat) : Int) := by simp [lst]
  simp only [e8]
  rw [gr _ _ (fun r => hZ _)]
  cases fw (oh (ba c t.tables)) t.groups with
  | none => rfl
  | some gs =>
  simp only [List.nil_append, w5, w6, qnr k mt t.sorts hN.small.sorts, qnq k mt t.limit hN.limit, cq]
  by_cases k2 : t.kind = 2
  · rw [if_pos k2, decide_eq_true k2, db]
    rw [qtc H Tb i0 h0 hT ht0 (k + 1) (by omega) hN.small.columns its _ _ _ _ _ _ _ _ _ _ _ Z _ _ (hZ _) (fun _ => hZ _)]
    cases j9 Tb t.columns its <;> rfl
  rw [if_neg k2, decide_eq_false k2, ef]
  by_cases k4 : t.kind = 4
  · rw [decide_eq_true k4, db, qtd H (k + 1) (by omega) hN.small.items]
    cases hs : tw (ba c t.tables) t.items with
    | true => rw [if_pos ⟨k4, rfl⟩]; rfl
    | false => rw [if_neg (fun h => by cases h.2)]; rfl
  · rw [decide_eq_false k4, ef, if_neg (fun h => k4 h.1)]
    rfl
end
end Go.RX
namespace Go.RX
theorem vv {α : Type} {m : Bool} {l : List α} {f f' : α → PV} (h : ∀ x ∈ l, de (f x) = f' x) : Arr.mk false (lst m (l.map f)).n (fun i => de ((lst m (l.map f)).g i)) = lst false (l.map f') := by
  have : (fun i => de ((lst m (l.map f)).g i)) = fun i => (l.map f').getD i .nilp := by
    funext i
    rw [ow, List.getD_eq_getElem?_getD, List.getD_eq_getElem?_getD, List.getElem?_map, List.getElem?_map]
    cases hx : l[i]? with
    | none => rfl
    | some x => exact h x (List.mem_of_getElem? hx)
  rw [this]
  simp [lst]
theorem vu {α : Type} {m : Bool} {l : List α} {f f' : α → PV} (h : ∀ x ∈ l, de (f x) = f' x) : de (.arr (lst m (l.map f)).m (lst m (l.map f)).n (lst m (l.map f)).g) = .arr (lst false (l.map f')).m (lst false (l.map f')).n (lst false (l.map f')).g := by
  have := vv (m := m) h
  simp only [de]
  rw [← this]
theorem qsx (x : Int) : de (eI x) = eI x := rfl
theorem q7i (x : ByteArray) : de (eS x) = eS x := rfl
theorem qsw (c : S_x4) : de (gj c) = gj c := rfl
theorem qe6 (c : S_x7) : de (b8 c) = b8 c := rfl
theorem qpt (c : S_xd) : de (eu c) = eu c := rfl
theorem qm8 (m : Bool) (x : Index) : de (jy m x) = jy false x := by
  simp only [jy, p_x6, ij, de, uc]
  have := vu (m := m) (l := x.columns) (f := eI) (f' := eI) fun x _ => qsx x
  simp only [de] at this
  simp only [this]
theorem qm9 (m : Bool) (x : Table) : de (bp m x) = bp false x := by
  have h1 := vu (m := m) (l := x.columns) (f := gj) (f' := gj) fun x _ => qsw x
  have h2 := vu (m := m) (l := x.key) (f := eI) (f' := eI) fun x _ => qsx x
  have h3 := vu (m := m) (l := x.indexes) (f := jy m) (f' := jy false) fun x _ => qm8 m x
  simp only [de] at h1 h2 h3
  simp only [bp, p_x8, bm, de, uc, h1, h2, h3]
theorem qps (m : Bool) (x : qfb) : de (gz m x) = gz false x := by
  have h1 := vu (m := m) (l := x.params) (f := b8) (f' := b8) fun x _ => qe6 x
  have h2 := vu (m := m) (l := x.body) (f := eS) (f' := eS) fun x _ => q7i x
  simp only [de] at h1 h2
  simp only [gz, p_xc, ev, de, uc, h1, h2]
theorem qc8 (m : Bool) : ∀ e : Expr, de (b7 m e) = b7 false e
  | .mk k o vk vi vt t n kids a => by
    have h1 := vu (m := m) (l := kids) (f := b7 m) (f' := b7 false) fun x _ => qc8 m x
    simp only [de] at h1
    simp only [b7, ui, p_xb, de, uc, h1]
theorem qsy (m : Bool) (x : qaf) : de (v7 m x) = v7 false x := by
  have h1 := vu (m := m) (l := x.expr.kids) (f := b7 m) (f' := b7 false) fun x _ => qc8 m x
  simp only [de] at h1
  simp only [v7, p_xg, vr, de, uc, h1]
section
variable {m mp mt : Bool} {c : bg} {ps : List S_x7} {t : Typed}
theorem qfi (hcols : ∀ T ∈ c.tables, T.columns.length ≤ 16) (hN : qi t) (k : Nat) (hk : 1048900 ≤ k) (K : S_xe → Bool → S_x0 → Prop) (Z : Prop) (hZ : ∀ x, K x false (sWr m mp mt c ps t) = Z) :
    (TT (k + 2)).f_z18 (sWr m mp mt c ps t) K = match mz c ps t with
      | none => Z
      | some s => K (bx true s) true (sWr m mp mt c ps t) := by
  show F_z18 (TT (k + 1)) _ K = _
  simp only [F_z18, qnt (k + 1) (by omega) hN.small.tables]
  by_cases hok : ez c t.tables = true
  · have hall : t.tables.all (fun k => inR k c.tables.length) = true := by
      simp only [ez, Bool.and_eq_true] at hok; exact hok.2
    have hlen : t.tables.length ≤ 2 := by
      simp only [ez, Bool.and_eq_true, Bool.or_eq_true, decide_eq_true_eq] at hok; omega
    have H : WOK c t := ⟨hall, hlen, hcols⟩
    rw [hok, Bool.not_true, ef]
    have w2 : (sWr m mp mt c ps t).c_Tables = lst m (c.tables.map (bp m)) := rfl
    have w7 : (sWr m mp mt c ps t).t_Kind = t.kind := rfl
    have nm : ∀ T : Table, (bm m T).Name = T.name := fun _ => rfl
    have fold : ∀ (Tb : Table) (r : List Table) (J : ByteArray), ba c t.tables = Tb :: r → (if t.tables.length = 2 then ((Tb :: r).getD 1 qe7).name else noB) = J →
        (match fw (dw ps (ba c t.tables) 16) t.on with
        | none => Z
        | some on => match fw (dw ps (ba c t.tables) 16) t.where_ with
          | none => Z
          | some wh => match fw (dw ps (ba c t.tables) 16) t.items with
            | none => Z
            | some its => match fw (oh (ba c t.tables)) t.groups with
              | none => Z
              | some gs =>
                if t.kind = 2 then (match j9 Tb t.columns its with
                  | none => Z
                  | some ss => K (bx true ⟨t.kind, Tb.name, J, on, wh, [], false, ss, gs, t.sorts, t.limit, 0, 0⟩) true (sWr m mp mt c ps t))
                else if t.kind = 4 ∧ tw (ba c t.tables) t.items = true then K (bx true ⟨t.kind, Tb.name, J, on, wh, [], true, [], gs, t.sorts, t.limit, 0, 0⟩) true (sWr m mp mt c ps t)
                else K (bx true ⟨t.kind, Tb.name, J, on, wh, its, false, [], gs, t.sorts, t.limit, 0, 0⟩) true (sWr m mp mt c ps t)) = match mz c ps t with
          | none => Z
          | some s => K (bx true s) true (sWr m mp mt c ps t) := by
      intro Tb r J h1 h2
      subst h2
      simp only [mz, if_pos hok, h1]
      cases fw (dw ps (Tb :: r) 16) t.on with
      | none => rfl
      | some on =>
      cases fw (dw ps (Tb :: r) 16) t.where_ with
      | none => rfl
      | some wh =>
      cases fw (dw ps (Tb :: r) 16) t.items with
      | none => rfl
      | some its =>
      cases fw (oh (Tb :: r)) t.groups with
      | none => rfl
      | some gs =>
      simp only []
      by_cases k2 : t.kind = 2
      · rw [if_pos k2, if_pos k2]
        have e0 : (Tb :: r).getD 0 qe7 = Tb := rfl
        simp only [e0]
        cases j9 Tb t.columns its <;> rfl
      · rw [if_neg k2, if_neg k2]
        by_cases k4 : t.kind = 4 ∧ tw (Tb :: r) t.items = true
        · rw [if_pos k4, if_pos k4]; rfl
        · rw [if_neg k4, if_neg k4]; rfl
    cases qc4 hok with
    | one i h e =>
      have w1 : (sWr m mp mt c ps t).t_Tables = lst mt ([((i : Nat) : Int)].map eI) := by rw [← e]; rfl
      have g0 : ∀ K : Int → Prop, bf ((lst mt ([((i : Nat) : Int)].map eI)).g 0) K = K ((i : Nat) : Int) := fun K => rfl
      have l0 : ((0 : Int) < (((lst mt ([((i : Nat) : Int)].map eI)).n : Nat) : Int)) = True := eq_true (by simp [lst])
      have l1 : (((i : Nat) : Int) < (((lst m (c.tables.map (bp m))).n : Nat) : Int)) = True := eq_true (by simp [lst]; omega)
      have n2 : ((((lst mt ([((i : Nat) : Int)].map eI)).n : Nat) : Int) == (2 : Int)) = false := rfl
      simp only [w1, w2, g0, l0, l1, n2, Int.le_refl, Int.natCast_nonneg, true_and, Int.toNat_natCast, au h, i7, ef, nm]
      refine Eq.trans (qp1 H hN c.tables[i] i h rfl ⟨[], e⟩ k (by omega) c.tables[i].name noB K Z hZ) ?_
      exact fold c.tables[i] [] noB (by rw [e]; exact qbs h) (by rw [e]; rfl)
    | two i j h h' e =>
      have w1 : (sWr m mp mt c ps t).t_Tables = lst mt ([((i : Nat) : Int), ((j : Nat) : Int)].map eI) := by rw [← e]; rfl
      have g0 : ∀ K : Int → Prop, bf ((lst mt ([((i : Nat) : Int), ((j : Nat) : Int)].map eI)).g 0) K = K ((i : Nat) : Int) := fun K => rfl
      have g1 : ∀ K : Int → Prop, bf ((lst mt ([((i : Nat) : Int), ((j : Nat) : Int)].map eI)).g 1) K = K ((j : Nat) : Int) := fun K => rfl
      have l0 : ((0 : Int) < (((lst mt ([((i : Nat) : Int), ((j : Nat) : Int)].map eI)).n : Nat) : Int)) = True := eq_true (by simp [lst])
      have l1 : ((1 : Int) < (((lst mt ([((i : Nat) : Int), ((j : Nat) : Int)].map eI)).n : Nat) : Int)) = True := eq_true (by simp [lst])
      have l2 : (((i : Nat) : Int) < (((lst m (c.tables.map (bp m))).n : Nat) : Int)) = True := eq_true (by simp [lst]; omega)
      have l3 : (((j : Nat) : Int) < (((lst m (c.tables.map (bp m))).n : Nat) : Int)) = True := eq_true (by simp [lst]; omega)
      have l4 : ((0 : Int) ≤ 1) = True := by simp
      have n2 : ((((lst mt ([((i : Nat) : Int), ((j : Nat) : Int)].map eI)).n : Nat) : Int) == (2 : Int)) = true := rfl
      simp only [w1, w2, g0, g1, l0, l1, l2, l3, l4, n2, Int.le_refl, Int.natCast_nonneg, true_and, Int.toNat_natCast, au h, au h', i7, db, nm]
      refine Eq.trans (qp1 H hN c.tables[i] i h rfl ⟨_, e⟩ k (by omega) c.tables[i].name c.tables[j].name K Z hZ) ?_
      exact fold c.tables[i] [c.tables[j]] c.tables[j].name (by rw [e]; exact u9 h h') (by rw [e]; rfl)
  · have hf : ez c t.tables = false := by simpa using hok
    rw [hf, Bool.not_false, db]
    simp only [mz, if_neg hok]
    exact hZ _
end
end Go.RX
namespace Go.RX
theorem pq {x : ByteArray} (h : isName x = true) : x.size ≤ 16 := by
  simp only [isName, Bool.and_eq_true, decide_eq_true_eq] at h
  exact h.1.2
theorem tc {α β : Type} {f : α → Option β} : ∀ {l : List α} {es : List β}, fw f l = some es → ∀ e ∈ es, ∃ x ∈ l, f x = some e
  | [], es, h, e, he => by
    simp only [fw, Option.some.injEq] at h
    subst h; cases he
  | x :: l, es, h, e, he => by
    simp only [fw] at h
    split at h
    · cases h
    rename_i y hy
    split at h
    · cases h
    rename_i ys hys
    simp only [Option.some.injEq] at h
    subst h
    cases he with
    | head => exact ⟨x, .head _, hy⟩
    | tail _ he =>
      obtain ⟨z, hz, hf⟩ := tc hys e he
      exact ⟨z, .tail _ hz, hf⟩
theorem qd7 {M : Nat} : noB.size ≤ M := Nat.zero_le _
section
variable {M : Nat} (hM : 16 ≤ M) {ps : List S_x7} (hps : ∀ p ∈ ps, isName p.Name = true)
include hM
theorem xu : ∀ {ts : List Table}, (∀ T ∈ ts, mj T) → ∀ {a : Int} {e : Expr}, oh ts a = some e → ∀ q, e.Fits M q
  | [], _, a, e, h, q => by cases h
  | T :: r, hts, a, e, h, q => by
    simp only [oh] at h
    split at h
    · rename_i hr
      simp only [Option.some.injEq] at h
      subst h
      cases q with
      | zero => trivial
      | succ q =>
        have g := hts T (.head _)
        have hj : a.toNat < T.columns.length := by omega
        have eg : T.columns.getD a.toNat ⟨noB, 0, false⟩ = T.columns[a.toNat] := by simp [List.getD, hj]
        refine ⟨?_, Nat.le_trans (pq g.name) hM, fun x hx => by cases hx⟩
        show (T.columns.getD a.toNat ⟨noB, 0, false⟩).Name.size ≤ M
        rw [eg]
        exact Nat.le_trans (pq (g.cols _ (List.getElem_mem hj))) hM
    · exact xu (fun U hU => hts U (.tail _ hU)) h q
include hps
theorem um {ts : List Table} (hts : ∀ T ∈ ts, mj T) : ∀ {d : Nat} {t : Term} {e : Expr}, dw ps ts d t = some e → ∀ q, e.Fits M q
  | 0, t, e, h, q => by cases h
  | d + 1, ⟨op, num, ty, vk, vi, vt, kids⟩, e, h, q => by
    rw [ju] at h
    split at h
    · split at h
      · rename_i hr
        simp only [Option.some.injEq] at h
        subst h
        cases q with
        | zero => trivial
        | succ q =>
          have hj : num.toNat < ps.length := by omega
          have eg : ps.getD num.toNat ⟨noB, 0⟩ = ps[num.toNat] := by simp [List.getD, hj]
          refine ⟨?_, qd7, fun x hx => by cases hx⟩
          show (ps.getD num.toNat ⟨noB, 0⟩).Name.size ≤ M
          rw [eg]
          exact Nat.le_trans (pq (hps _ (List.getElem_mem hj))) hM
      · cases h
    split at h
    · exact xu hM hts h q
    split at h
    · cases h
    split at h
    · cases h
    rename_i es hes
    simp only [Option.some.injEq] at h
    subst h
    cases q with
    | zero => trivial
    | succ q =>
      refine ⟨qd7, qd7, fun x hx => ?_⟩
      obtain ⟨y, _, hy⟩ := tc hes x hx
      exact um hts hy q
theorem qbp {T : Table} (g : mj T) : ∀ {ks : List Int} {es : List Expr} {ss : List qaf}, j9 T ks es = some ss → (∀ e ∈ es, ∀ q, e.Fits M q) → ss.length = ks.length ∧ ∀ x ∈ ss, x.name.size ≤ M ∧ x.expr.Fits M 16
  | [], [], ss, h, _ => by
    simp only [j9, Option.some.injEq] at h
    subst h
    exact ⟨rfl, fun x hx => by cases hx⟩
  | [], _ :: _, ss, h, _ => by cases h
  | _ :: _, [], ss, h, _ => by cases h
  | k :: ks, e :: es, ss, h, hf => by
    simp only [j9] at h
    split at h
    · rename_i hr
      split at h
      · rename_i r hrr
        simp only [Option.some.injEq] at h
        subst h
        obtain ⟨h1, h2⟩ := qbp g hrr fun y hy => hf y (.tail _ hy)
        have hr' := gu.1 hr
        have hj : k.toNat < T.columns.length := by omega
        have eg : T.columns.getD k.toNat wg = T.columns[k.toNat] := by simp [List.getD, hj]
        refine ⟨by simp [h1], fun x hx => ?_⟩
        cases hx with
        | head =>
          refine ⟨?_, hf e (.head _) 16⟩
          show (T.columns.getD k.toNat wg).Name.size ≤ M
          rw [eg]
          exact Nat.le_trans (pq (g.cols _ (List.getElem_mem hj))) hM
        | tail _ hx => exact h2 x hx
      · cases h
    · cases h
end
theorem qjy {c : bg} {ps : List S_x7} {t : Typed} {s : Stmt} (hg : ∀ T ∈ c.tables, mj T) (hps : ∀ p ∈ ps, isName p.Name = true) (ht : ue t) (hl : t.limit.length ≤ 1048576) (h : mz c ps t = some s) : s.Fits 1048576 := by
  have hM : 16 ≤ 1048576 := by decide
  have hts : ∀ T ∈ ba c t.tables, mj T := fun T hT => by
    simp only [ba, List.mem_filterMap] at hT
    obtain ⟨a, _, ha⟩ := hT
    exact hg T (List.mem_of_getElem? ha)
  have nm : ∀ i, ((ba c t.tables).getD i qe7).name.size ≤ 1048576 := fun i => by
    by_cases hi : i < (ba c t.tables).length
    · have e : (ba c t.tables).getD i qe7 = (ba c t.tables)[i] := by simp [List.getD, hi]
      rw [e]
      exact Nat.le_trans (pq (hts _ (List.getElem_mem hi)).name) hM
    · have e : (ba c t.tables).getD i qe7 = qe7 := by simp [List.getD, Nat.not_lt.1 hi]
      rw [e]; exact qd7
  have ex : ∀ {l : List Term} {es : List Expr}, l.length ≤ 1048576 → fw (dw ps (ba c t.tables) 16) l = some es → iv 1048576 es := fun hl h =>
    ⟨by rw [je h]; exact hl, fun e he => by obtain ⟨x, _, hx⟩ := tc h e he; exact um hM hps hts hx 16⟩
  have nil : iv 1048576 [] := ⟨Nat.zero_le _, fun e he => by cases he⟩
  have base : ∀ (on wh its gs : List Expr) (st : Bool) (ss : List qaf), iv 1048576 on → iv 1048576 wh → iv 1048576 its → iv 1048576 gs → ss.length ≤ 1048576 → (∀ x ∈ ss, x.name.size ≤ 1048576 ∧ x.expr.Fits 1048576 16) → (da t (ba c t.tables) on wh its gs st ss).Fits 1048576 := fun on wh its gs st ss h1 h2 h3 h4 h5 h6 =>
    ⟨nm 0, by show (if t.tables.length = 2 then _ else noB).size ≤ _; split; exact nm 1; exact qd7, h1, h2, h3, h4, h5, h6, ht.sorts, hl⟩
  simp only [mz] at h
  split at h
  · rename_i hok
    split at h
    · cases h
    rename_i on o1
    split at h
    · cases h
    rename_i wh w1
    split at h
    · cases h
    rename_i its i1
    split at h
    · cases h
    rename_i gs q1
    have hgs : iv 1048576 gs := ⟨by rw [je q1]; exact ht.groups, fun e he => by obtain ⟨x, _, hx⟩ := tc q1 e he; exact xu hM hts hx 16⟩
    have hon := ex ht.on o1
    have hwh := ex ht.where_ w1
    have hit := ex ht.items i1
    split at h
    · split at h
      · cases h
      · rename_i ss hss
        simp only [Option.some.injEq] at h
        rw [← h]
        by_cases h0 : 0 < (ba c t.tables).length
        · have e : (ba c t.tables).getD 0 qe7 = (ba c t.tables)[0] := by simp [List.getD, h0]
          rw [e] at hss
          obtain ⟨s1, s2⟩ := qbp (M := 1048576) hM hps (hts _ (List.getElem_mem h0)) hss fun e he q => by obtain ⟨x, _, hx⟩ := tc i1 e he; exact um hM hps hts hx q
          exact base _ _ _ _ _ _ hon hwh nil hgs (by rw [s1]; exact ht.columns) s2
        · exfalso
          have := kc.len (qaa (c := c) (ks := t.tables) (by simp only [ez, Bool.and_eq_true] at hok; exact hok.2))
          simp only [ez, Bool.and_eq_true, Bool.or_eq_true, decide_eq_true_eq] at hok
          omega
    · split at h <;> (simp only [Option.some.injEq] at h; rw [← h])
      · exact base _ _ _ _ _ _ hon hwh nil hgs (Nat.zero_le _) (fun x hx => by cases hx)
      · exact base _ _ _ _ _ _ hon hwh hit hgs (Nat.zero_le _) (fun x hx => by cases hx)
  · cases h
end Go.RX
namespace Go.RX
structure sb (t : Typed) : Prop where
  limit : t.limit.length ≤ 1048576
  types : t.types.length ≤ 1048576
  on : zTs t.on ≤ 1048576
  where_ : zTs t.where_ ≤ 1048576
  items : zTs t.items ≤ 1048576
def qht (a : Typed) : Nat := a.tables.length + a.columns.length + a.groups.length + a.sorts.length + a.limit.length + a.types.length + 2 * zTs a.on + 2 * zTs a.where_ + 2 * zTs a.items + 5
theorem S_zb (m mt : Bool) (c : bg) (hc : c.Fits 1048576) (ps : List S_x7) (hp : oz 1048576 ps) (t : Typed) (hN : qi t) (hW : sb t) : ∃ k0, ∀ k, k0 ≤ k → ∀ K : Bool → Prop,
    (TT k).f_zb (bh m c) (lst m (ps.map b8)) (bj mt t) K = K (ib c ps t) := by
  let z : Nat := match mz c ps t with
    | none => 0
    | some s => match vh c ps s with
      | .ok a => qht a
      | .error _ => 0
  refine ⟨z + 2097152 + 1049000, fun k hk K => ?_⟩
  obtain ⟨k, rfl⟩ : ∃ k', k = k' + 4 := ⟨k - 4, by omega⟩
  show F_zb (TT (k + 3)) _ _ _ K = _
  simp only [F_zb]
  have hb := fun (K1 : Arr → Arr → Int → Int → Maps → Maps → Prop) => qj7 (k + 3) 1048576 (by decide) (by omega) m c hc ps hp (K false) K1
  by_cases hr : dv c = true ∧ dr ps = true
  · simp only [if_pos hr] at hb
    obtain ⟨mp, h1, -⟩ := hb _
    rw [h1]
    have hg := (ql hr.1).1
    have hpn := (qb hr.2).1
    have hZ : ∀ x, (fun (_x3 : S_xe) (_b1 : Bool) (_x4 : S_x0) => br (!_b1) (K false) ((TT (k + 3)).f_za ⟨⟨false, (bh m c).Tables.n, (fun i => de ((bh m c).Tables.g i))⟩, ⟨false, (bh m c).Procs.n, (fun i => de ((bh m c).Procs.g i))⟩⟩ ⟨false, (lst m (ps.map b8)).n, (fun i => de ((lst m (ps.map b8)).g i))⟩ ⟨_x3.Kind, _x3.Table, _x3.Join, ⟨false, _x3.On.n, (fun i => de (_x3.On.g i))⟩, ⟨false, _x3.Where.n, (fun i => de (_x3.Where.g i))⟩, ⟨false, _x3.Items.n, (fun i => de (_x3.Items.g i))⟩, _x3.Star, ⟨false, _x3.Sets.n, (fun i => de (_x3.Sets.g i))⟩, ⟨false, _x3.Groups.n, (fun i => de (_x3.Groups.g i))⟩, ⟨false, _x3.Sorts.n, (fun i => de (_x3.Sorts.g i))⟩, ⟨false, _x3.Limit.n, (fun i => de (_x3.Limit.g i))⟩, _x3.At, _x3.JoinAt⟩ (fun _x5 _x6 => br (_x6.Code == (0 : Int)) ((TT (k + 3)).f_zv _x5 (bj mt t) (fun _b2 => K _b2)) (K false)))) x false (sWr m m mt c ps t) = K false := fun _ => rfl
    refine Eq.trans (qfi (m := m) (mp := m) (mt := mt) (fun T hT => (hg T hT).most) hN (k + 1) (by omega) _ (K false) hZ) ?_
    cases hs : mz c ps t with
    | none =>
      have : ib c ps t = false := by
        cases hq : ib c ps t with
        | false => rfl
        | true =>
          obtain ⟨_, _, s, h2, _⟩ := (tz c ps t).1 hq
          rw [hs] at h2; cases h2
      rw [this]
    | some s =>
      have w1 : (⟨⟨false, (bh m c).Tables.n, fun i => de ((bh m c).Tables.g i)⟩, ⟨false, (bh m c).Procs.n, fun i => de ((bh m c).Procs.g i)⟩⟩ : S_x1) = bh false c := by
        show (⟨⟨false, (lst m (c.tables.map (bp m))).n, fun i => de ((lst m (c.tables.map (bp m))).g i)⟩, ⟨false, (lst m (c.procs.map (gz m))).n, fun i => de ((lst m (c.procs.map (gz m))).g i)⟩⟩ : S_x1) = _
        rw [vv (f' := bp false) (fun y _ => qm9 m y), vv (f' := gz false) (fun y _ => qps m y)]; rfl
      have w2 : (⟨false, (lst m (ps.map b8)).n, fun i => de ((lst m (ps.map b8)).g i)⟩ : Arr) = lst false (ps.map b8) := vv (fun y _ => qe6 y)
      have wE : ∀ (mm : Bool) (l : List Expr), (⟨false, (lst mm (l.map (b7 mm))).n, fun i => de ((lst mm (l.map (b7 mm))).g i)⟩ : Arr) = lst false (l.map (b7 false)) := fun mm l => vv (fun y _ => qc8 mm y)
      have wT : ∀ (mm : Bool) (l : List S_xd), (⟨false, (lst mm (l.map eu)).n, fun i => de ((lst mm (l.map eu)).g i)⟩ : Arr) = lst false (l.map eu) := fun mm l => vv (fun y _ => qpt y)
      have wI : ∀ (mm : Bool) (l : List Int), (⟨false, (lst mm (l.map eI)).n, fun i => de ((lst mm (l.map eI)).g i)⟩ : Arr) = lst false (l.map eI) := fun mm l => vv (fun y _ => qsx y)
      have w3 : (⟨(bx true s).Kind, (bx true s).Table, (bx true s).Join, ⟨false, (bx true s).On.n, (fun i => de ((bx true s).On.g i))⟩, ⟨false, (bx true s).Where.n, (fun i => de ((bx true s).Where.g i))⟩, ⟨false, (bx true s).Items.n, (fun i => de ((bx true s).Items.g i))⟩, (bx true s).Star, ⟨false, (bx true s).Sets.n, (fun i => de ((bx true s).Sets.g i))⟩, ⟨false, (bx true s).Groups.n, (fun i => de ((bx true s).Groups.g i))⟩, ⟨false, (bx true s).Sorts.n, (fun i => de ((bx true s).Sorts.g i))⟩, ⟨false, (bx true s).Limit.n, (fun i => de ((bx true s).Limit.g i))⟩, (bx true s).At, (bx true s).JoinAt⟩ : S_xe) = bx false s := by
        simp only [bx, wE, wT, wI]
        rw [vv (f' := v7 false) (fun y _ => qsy true y)]
      simp only [Bool.not_true, ef, w1, w2, w3]
      rw [S_za (k + 3) 1048576 (by decide) (by omega) false c hc ps hp s (qjy hg hpn hN.small hN.limit hs)]
      cases hE : vh c ps s with
      | error f =>
        have h2 : ib c ps t = false := by
          cases hq : ib c ps t with
          | false => rfl
          | true =>
            obtain ⟨_, _, s', h2, h3⟩ := (tz c ps t).1 hq
            rw [hs] at h2
            injection h2 with h2
            subst h2
            rw [hE] at h3; cases h3
        rw [h2]
        have h5 : 0 + 5 ≤ k + 2 := by omega
        have hsm : qkc qh t (k + 2) := ⟨⟨h5, hN.small.tables⟩, ⟨h5, hN.small.columns⟩, ⟨h5, hN.small.groups⟩, ⟨h5, hN.small.sorts⟩, ⟨h5, hN.limit⟩, ⟨h5, hW.types⟩, ⟨by simp only [qh, zTs]; omega, by have := hW.on; omega⟩, ⟨by simp only [qh, zTs]; omega, by have := hW.where_; omega⟩, ⟨by simp only [qh, zTs]; omega, by have := hW.items; omega⟩⟩
        have hne : qbm qh t = false := by
          cases hq : qbm qh t with
          | false => rfl
          | true =>
            rw [qbn] at hq
            subst hq
            have : mz c ps qh = none := rfl
            rw [this] at hs; cases hs
        show br (f.1 == (0 : Int)) ((TT (k + 3)).f_zv (bj true qh) (bj mt t) fun b2 => K b2) (K false) = K false
        rw [xg (k + 2) true mt qh t hsm, hne]
        cases (f.1 == (0 : Int)) <;> rfl
      | ok a =>
        have hz : z = qht a := by simp only [z, hs, hE]
        have hf : qht a + 5 ≤ k := by omega
        unfold qht at hf
        have hsm : qkc a t (k + 2) := ⟨⟨by omega, hN.small.tables⟩, ⟨by omega, hN.small.columns⟩, ⟨by omega, hN.small.groups⟩, ⟨by omega, hN.small.sorts⟩, ⟨by omega, hN.limit⟩, ⟨by omega, hW.types⟩, ⟨by omega, by have := hW.on; omega⟩, ⟨by omega, by have := hW.where_; omega⟩, ⟨by omega, by have := hW.items; omega⟩⟩
        show (TT (k + 3)).f_zv _ _ _ = _
        rw [xg (k + 2) true mt a t hsm]
        congr 1
        rw [Bool.eq_iff_iff, qbn, tz]
        constructor
        · rintro rfl; exact ⟨hr.1, hr.2, s, hs, hE⟩
        · rintro ⟨_, _, s', h2, h3⟩
          rw [hs] at h2
          injection h2 with h2
          subst h2
          rw [hE] at h3
          injection h3
  · simp only [if_neg hr] at hb
    rw [hb]
    have : ib c ps t = false := by
      cases hq : ib c ps t with
      | false => rfl
      | true =>
        obtain ⟨h1, h2, _⟩ := (tz c ps t).1 hq
        exact absurd ⟨h1, h2⟩ hr
    rw [this]
theorem qdd (m mt : Bool) (c : bg) (hc : c.Fits 1048576) (ps : List S_x7) (hp : oz 1048576 ps) (t : Typed) (hN : qi t) (hW : sb t) : ∃ k0, ∀ k, k0 ≤ k → ∀ K : Bool → Prop,
    (TT k).f_z1d (bh m c) (lst m (ps.map b8)) (bj mt t) K = K true := by
  obtain ⟨k0, h⟩ := S_zb m mt c hc ps hp t hN hW
  refine ⟨k0 + 4000000, fun k hk K => ?_⟩
  obtain ⟨k, rfl⟩ : ∃ k', k = k' + 2 := ⟨k - 2, by omega⟩
  show F_z1d (TT (k + 1)) _ _ _ K = _
  have hw : ∀ K : Bool → Prop, (TT (k + 1)).f_z1e K = K true := fun _ => rfl
  simp only [F_z1d, hw, h (k + 1) (by omega), S_z1v (k + 1) 1048576 (by decide) (by omega) m m mt c hc ps hp t hN.small, db]
  rw [beq_self_eq_true]
end Go.RX
