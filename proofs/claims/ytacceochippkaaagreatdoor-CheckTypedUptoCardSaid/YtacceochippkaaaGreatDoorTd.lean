/- The law in plain Lean: what a typed statement says, and what it is written back as. No condition. -/
import Derived.Test.YtacceochippkaaaGreatDoorTc
set_option linter.all false
namespace Go.RX
def sWr (m mp mt : Bool) (c : bg) (ps : List S_x7) (t : Typed) : S_x0 :=
 ⟨lst m (c.tables.map (bp m)), lst m (c.procs.map (gz m)), lst mp (ps.map b8), t.kind, lst mt (t.tables.map eI), lst mt (t.on.map (bb mt)), lst mt (t.where_.map (bb mt)), lst mt (t.items.map (bb mt)), lst mt (t.columns.map eI), t.grouped, lst mt (t.groups.map eI), lst mt (t.sorts.map eu), lst mt (t.limit.map eI), lst mt (t.types.map eI)⟩
def zX : S_xb := ⟨0, 0, 0, 0, noB, noB, noB, lst true [], 0⟩
def eO (o : Option Expr) : S_xb := match o with
 | some e => eb true e
 | none => zX
def i64 (n : Int) : Prop := -9223372036854775808 ≤ n ∧ n < 9223372036854775808
theorem q10 {a : Int} {n : Nat} (h : i64 a) (h0 : ¬ 0 ≤ a) (hn : n ≤ 16) : (W (a - (n : Int)) = a - (n : Int) ∧ i64 (a - (n : Int))) ∨ (9223372036854775000 ≤ W (a - (n : Int)) ∧ i64 (W (a - (n : Int)))) := by
 obtain ⟨h1, h2⟩ := h
 by_cases h3 : -9223372036854775808 ≤ a - (n : Int)
 ·exact .inl ⟨qkk h3 (by omega), h3, by omega⟩
 ·refine .inr ?_
  have : W (a - (n : Int)) = a - (n : Int) + 18446744073709551616 := by
   simp only [W, IntKind.wrap, IntKind.signed, IntKind.bits]
   simp
   split <;> omega
  rw [this]
  unfold i64
  omega
theorem qhj : ∀ (ts : List Table) (a : Int), (∀ T ∈ ts, T.columns.length ≤ 16) → ts.length ≤ 2 → 9223372036854775000 ≤ a ∨ a < 0 → oh ts a = none
 | [], _, _, _, _ => rfl
 | [T], a, h, _, ha => by
  have := h T (.head _)
  simp only [oh]
  rw [if_neg (by omega)]
 | [T, U], a, h, _, ha => by
  have := h T (.head _)
  have := h U (.tail _ (.head _))
  simp only [oh]
  rw [if_neg (by omega), if_neg (by omega)]
 | _ :: _ :: _ :: _, _, _, h, _ => by simp at h
theorem qb0 (k : Nat) (hk : 1048700 ≤ k) (m mp mt : Bool) (c : bg) (ps : List S_x7) (t : Typed) (hall : t.tables.all (fun k => inR k c.tables.length) = true) (hlen : t.tables.length ≤ 2) (hcol : ∀ T ∈ c.tables, T.columns.length ≤ 16) (a : Int) (ha : i64 a) (K : S_xb → Bool → S_x0 → Prop) :
  (TT k).f_z13 a (sWr m mp mt c ps t) K = K (eO (oh (ba c t.tables) a)) (oh (ba c t.tables) a).isSome (sWr m mp mt c ps t) := by
 obtain ⟨k, rfl⟩ : ∃ k', k = k' + 2 := ⟨k - 2, by omega⟩
 show F_z13 (TT (k + 1)) a _ K = _
 have s1 : (sWr m mp mt c ps t).t_Tables = lst mt (t.tables.map eI) := rfl
 have s2 : (sWr m mp mt c ps t).c_Tables = lst m (c.tables.map (bp m)) := rfl
 simp only [F_z13, ca]
 have loop : ∀ (r p : List Int) (n : Nat) (a : Int), t.tables = p ++ r → r.length < n → i64 a → ∀ (K0 K1 : S_x0 → Int → Int → Int → Int → ByteArray → ByteArray → ByteArray → Int → Prop),
   L_z13_0 (TT (k + 1)) n a (lst mt (t.tables.map eI)) ((t.tables.length : Nat) : Int) ((p.length : Nat) : Int) (sWr m mp mt c ps t) 0 0 0 0 (ByteArray.mk #[]) (ByteArray.mk #[]) (ByteArray.mk #[]) 0 K0 K1 =
    match oh (ba c r) a with
    | some e => K0 (sWr m mp mt c ps t) 3 0 0 0 noB e.table e.name 0
    | none => K1 (sWr m mp mt c ps t) 0 0 0 0 noB noB noB 0 := by
  intro r
  induction r with
  | nil =>
   intro p n a h1 hn _ K0 K1
   obtain ⟨n, rfl⟩ : ∃ n', n = n' + 1 := ⟨n - 1, by simp at hn; omega⟩
   have e : ((p.length : Nat) : Int) = ((t.tables.length : Nat) : Int) := by rw [h1]; simp
   simp only [L_z13_0, B_z13_0, e, Int.lt_irrefl, decide_false, ef]
   rfl
  | cons x r ih =>
   intro p n a h1 hn ha K0 K1
   obtain ⟨n, rfl⟩ : ∃ n', n = n' + 1 := ⟨n - 1, by simp at hn; omega⟩
   have hp : p.length < t.tables.length := by rw [h1]; simp
   have ex : t.tables[p.length] = x := by simp [h1]
   have hx := gu.1 (List.all_eq_true.1 hall x (by rw [h1]; simp))
   have hx2 : x.toNat < c.tables.length := by omega
   have et : ba c (x :: r) = c.tables[x.toNat] :: ba c r := by simp [ba, hx2]
   have ihn := fun a ha => ih (p ++ [x]) n a (by rw [h1]; simp) (by simp at hn; omega) ha K0 K1
   simp only [bz] at ihn
   have cl : (bm m c.tables[x.toNat]).Columns = lst m (c.tables[x.toNat].columns.map gj) := rfl
   have nm : (bm m c.tables[x.toNat]).Name = c.tables[x.toNat].name := rfl
   have h16 := hcol _ (List.getElem_mem hx2)
   have hr2 : r.length ≤ 1 := by rw [h1] at hlen; simp at hlen; omega
   have ge : decide (a ≥ 0) = decide (0 ≤ a) := rfl
   simp only [L_z13_0, B_z13_0, s1, s2, bo, List.length_map, Int.ofNat_lt, hp, Int.natCast_nonneg, true_and, decide_true, db, Int.toNat_natCast, au hp, ig, ex, hx.1, hx.2, au hx2, i7, cl, nm, ge, bw (show p.length < 4611686018427387904 by omega), et, oh]
   have hts : ∀ T ∈ ba c r, T.columns.length ≤ 16 := fun T hT => by
    simp only [ba, List.mem_filterMap] at hT
    obtain ⟨q, _, hq⟩ := hT
    exact hcol T (List.mem_of_getElem? hq)
   have hl2 : (ba c r).length ≤ 2 := Nat.le_trans (List.length_filterMap_le _ _) (by omega)
   have next : W (a - ((c.tables[x.toNat].columns.length : Nat) : Int)) = a - ((c.tables[x.toNat].columns.length : Nat) : Int) ∧ i64 (a - ((c.tables[x.toNat].columns.length : Nat) : Int)) → L_z13_0 (TT (k + 1)) n (W (a - ((c.tables[x.toNat].columns.length : Nat) : Int))) (lst mt (t.tables.map eI)) ((t.tables.length : Nat) : Int) ((p.length + 1 : Nat) : Int) (sWr m mp mt c ps t) 0 0 0 0 (ByteArray.mk #[]) (ByteArray.mk #[]) (ByteArray.mk #[]) 0 K0 K1 = match oh (ba c r) (a - ((c.tables[x.toNat].columns.length : Nat) : Int)) with
    | some e => K0 (sWr m mp mt c ps t) 3 0 0 0 noB e.table e.name 0
    | none => K1 (sWr m mp mt c ps t) 0 0 0 0 noB noB noB 0 := fun h => by rw [h.1]; exact ihn _ h.2
   by_cases h0 : 0 ≤ a
   ·by_cases h2 : a < ((c.tables[x.toNat].columns.length : Nat) : Int)
    ·have hj : a.toNat < c.tables[x.toNat].columns.length := by omega
     have eg : (c.tables[x.toNat].columns.getD a.toNat ⟨noB, 0, false⟩) = c.tables[x.toNat].columns[a.toNat] := by simp [List.getD, hj]
     simp only [decide_eq_true h0, decide_eq_true h2, h0, h2, au hj, fc, true_and, and_self, if_true, eg]
     rfl
    ·rw [decide_eq_true h0, decide_eq_false h2, if_neg (by omega)]
     refine next ⟨qkk ?_ ?_, ?_, ?_⟩ <;> (have := ha.1; have := ha.2; omega)
   ·rw [decide_eq_false h0, if_neg (by omega)]
    rcases q10 ha h0 h16 with hW | ⟨hW1, hW2⟩
    ·exact next hW
    ·show L_z13_0 _ _ _ _ _ _ _ _ _ _ _ _ _ _ _ _ _ = _
     rw [ihn _ hW2, qhj _ _ hts hl2 (.inl hW1), qhj _ _ hts hl2 (.inr (by omega))]
 have := loop t.tables [] (k + 1) a rfl (by omega) ha (fun x59 n60 n61 n62 n63 s64 s65 s66 n67 => K ⟨n60, n61, n62, n63, s64, s65, s66, (lst true []), n67⟩ true x59) (fun x68 n69 n70 n71 n72 s73 s74 s75 n76 => K ⟨0, 0, 0, 0, (ByteArray.mk #[]), (ByteArray.mk #[]), (ByteArray.mk #[]), (lst true []), 0⟩ false x68)
 have z : ((([] : List Int).length : Nat) : Int) = 0 := rfl
 have e0 : (((lst mt (t.tables.map eI)).n : Nat) : Int) = ((t.tables.length : Nat) : Int) := by simp [lst]
 rw [z] at this
 rw [s1, e0, this]
 have shape : ∀ (ts : List Table) (a : Int) (e : Expr), oh ts a = some e → e = .mk 3 0 0 0 noB e.table e.name [] 0 := by
  intro ts
  induction ts with
  | nil => intro a e h; cases h
  | cons T r ih =>
   intro a e h
   simp only [oh] at h
   split at h
   ·simp only [Option.some.injEq] at h
    subst h; rfl
   ·exact ih _ _ h
 cases hW : oh (ba c t.tables) a with
 | none => rfl
 | some e =>
  have := shape _ _ _ hW
  show K _ true _ = K (eb true e) true _
  rw [this]
  rfl
end Go.RX
namespace Go.RX
mutual
def qfa : Term → Prop
 | .mk _ num _ _ _ _ kids => i64 num ∧ ql4 kids
def ql4 : List Term → Prop
 | [] => True
 | x :: r => qfa x ∧ ql4 r
end
theorem yv : ∀ l, ql4 l ↔ ∀ x ∈ l, qfa x
 | [] => by simp [ql4]
 | x :: r => by simp [ql4, yv r]
theorem qo7 (t : Term) : qfa t ↔ i64 t.num ∧ ∀ x ∈ t.kids, qfa x := by
 cases t; simp only [qfa, yv, Term.num, Term.kids]
structure WOK (c : bg) (t : Typed) : Prop where
 all : t.tables.all (fun k => inR k c.tables.length) = true
 len : t.tables.length ≤ 2
 cols : ∀ T ∈ c.tables, T.columns.length ≤ 16
theorem q42 (e : Expr) : PV.agg (p_xb (eb true e)) = b7 true e := (qla true e).symm
section
variable {m mp mt : Bool} {c : bg} {ps : List S_x7} {t : Typed} (H : WOK c t)
include H
theorem qtb : ∀ (d k : Nat) (x : Term) (n : Int), n = (d : Int) → d ≤ 16 → 1048750 + d ≤ k → qfa x → ∀ K : S_xb → Bool → S_x0 → Prop,
  (TT k).f_z14 (dd mt x) n (sWr m mp mt c ps t) K = K (eO (dw ps (ba c t.tables) d x)) (dw ps (ba c t.tables) d x).isSome (sWr m mp mt c ps t) := by
 intro d
 induction d with
 | zero =>
  intro k x n hn _ hk hx K
  obtain ⟨k, rfl⟩ : ∃ k', k = k' + 1 := ⟨k - 1, by omega⟩
  show F_z14 (TT k) _ n _ K = _
  subst hn
  rfl
 | succ d ih =>
  intro k x n hn hd hk hx K
  obtain ⟨k, rfl⟩ : ∃ k', k = k' + 2 := ⟨k - 2, by omega⟩
  show F_z14 (TT (k + 1)) _ n _ K = _
  obtain ⟨op, num, ty, vk, vi, vt, kids⟩ := x
  obtain ⟨hn1, hn2⟩ := (qo7 _).1 hx
  have hn1' : i64 num := hn1
  have hn2' : ∀ x ∈ kids, qfa x := hn2
  have n0 : (n == 0) = false := by rw [cq]; exact decide_eq_false (by omega)
  have s1 : (dd mt ⟨op, num, ty, vk, vi, vt, kids⟩).Op = op := rfl
  have s2 : (dd mt ⟨op, num, ty, vk, vi, vt, kids⟩).Num = num := rfl
  have s7 : (dd mt ⟨op, num, ty, vk, vi, vt, kids⟩).Kids = lst mt (kids.map (bb mt)) := rfl
  have p1 : (sWr m mp mt c ps t).params = lst mp (ps.map b8) := rfl
  simp only [F_z14, n0, ef, s1, s2, s7, p1, bo, List.length_map, cq]
  rw [ju]
  by_cases h2 : op = 2
  ·rw [decide_eq_true h2, db, if_pos h2]
   by_cases g0 : num < 0
   ·rw [decide_eq_true g0, if_neg (by omega)]; rfl
   by_cases g1 : num ≥ ((ps.length : Nat) : Int)
   ·rw [decide_eq_false g0, decide_eq_true g1, if_neg (by omega)]; rfl
   ·obtain ⟨j, rfl⟩ : ∃ j : Nat, num = j := ⟨num.toNat, by omega⟩
    have hj : j < ps.length := by omega
    have e : ps.getD j ⟨noB, 0⟩ = ps[j] := by simp [List.getD, hj]
    have hlt : (((j : Nat) : Int) < ((ps.length : Nat) : Int)) = True := eq_true (by omega)
    rw [decide_eq_false g0, decide_eq_false g1, if_pos (by omega)]
    simp only [ef, Int.natCast_nonneg, hlt, true_and, Int.toNat_natCast, au hj, lv, e, h2]
    rfl
  rw [decide_eq_false h2, ef, if_neg h2]
  by_cases h3 : op = 3
  ·rw [decide_eq_true h3, db, if_pos h3]
   rw [qb0 (k + 1) (by omega) m mp mt c ps t H.all H.len H.cols num hn1']
  rw [decide_eq_false h3, ef, if_neg h3]
  by_cases h8 : kids.length > 8
  ·have : decide (((kids.length : Nat) : Int) > 8) = true := decide_eq_true (by omega)
   rw [this, db, if_pos h8]; rfl
  have h8' : decide (((kids.length : Nat) : Int) > 8) = false := decide_eq_false (by omega)
  rw [h8', ef, if_neg h8]
  have loop : ∀ (r p : List Term) (q : Nat) (acc : List Expr), kids = p ++ r → r.length < q → acc.length = p.length → ∀ (K0 : S_x0 → Int → Int → Int → Int → ByteArray → ByteArray → ByteArray → Int → Prop) (K1 : S_x0 → Int → Int → Int → Int → ByteArray → ByteArray → ByteArray → Int → Int → Int → Int → Int → ByteArray → ByteArray → ByteArray → Int → (List PV) → Prop),
    L_z14_1 (TT (k + 1)) q n (lst mt (kids.map (bb mt))) ((kids.length : Nat) : Int) ((p.length : Nat) : Int) (sWr m mp mt c ps t) 0 0 0 0 (ByteArray.mk #[]) (ByteArray.mk #[]) (ByteArray.mk #[]) 0 op num vk vi vt (ByteArray.mk #[]) (ByteArray.mk #[]) 0 (acc.map (b7 true)) K0 K1 =
     match fw (dw ps (ba c t.tables) d) r with
     | none => K0 (sWr m mp mt c ps t) 0 0 0 0 (ByteArray.mk #[]) (ByteArray.mk #[]) (ByteArray.mk #[]) 0
     | some es => K1 (sWr m mp mt c ps t) 0 0 0 0 (ByteArray.mk #[]) (ByteArray.mk #[]) (ByteArray.mk #[]) 0 op num vk vi vt (ByteArray.mk #[]) (ByteArray.mk #[]) 0 ((acc ++ es).map (b7 true)) := by
   intro r
   induction r with
   | nil =>
    intro p q acc h1 hq ha K0 K1
    obtain ⟨q, rfl⟩ : ∃ q', q = q' + 1 := ⟨q - 1, by simp at hq; omega⟩
    have e : ((p.length : Nat) : Int) = ((kids.length : Nat) : Int) := by rw [h1]; simp
    simp only [L_z14_1, B_z14_1, e, Int.lt_irrefl, decide_false, ef, fw, List.append_nil]
   | cons y r ihr =>
    intro p q acc h1 hq ha K0 K1
    obtain ⟨q, rfl⟩ : ∃ q', q = q' + 1 := ⟨q - 1, by simp at hq; omega⟩
    have hp : p.length < kids.length := by rw [h1]; simp
    have ex : kids[p.length] = y := by simp [h1]
    have hw : W (n - 1) = (d : Int) := by rw [qkk (by omega) (by omega)]; omega
    have hy := hn2' y (by rw [h1]; simp)
    simp only [L_z14_1, B_z14_1, bo, List.length_map, Int.ofNat_lt, hp, Int.natCast_nonneg, true_and, decide_true, db, Int.toNat_natCast, au hp, gm, ex, hw, ih (k + 1) y _ rfl (by omega) (by omega) hy, bw (show p.length < 4611686018427387904 by omega), fw]
    cases hE : dw ps (ba c t.tables) d y with
    | none => rfl
    | some e =>
     have hz : ((acc.length + 1) * 112 ≤ 140737488355328) = True := eq_true (by omega)
     have := ihr (p ++ [y]) q (acc ++ [e]) (by rw [h1]; simp) (by simp at hq; omega) (by simp [ha]) K0 K1
     have e2 : (acc ++ [e]).map (b7 true) = acc.map (b7 true) ++ [PV.agg (p_xb (eb true e))] := by rw [q42]; simp
     rw [bz, e2] at this
     simp only [Option.isSome_some, Bool.not_true, ef, eO, hz, true_and, List.length_map]
     rw [this]
     cases fw (dw ps (ba c t.tables) d) r with
     | none => rfl
     | some es => simp only [List.append_assoc, List.singleton_append]
  have := loop kids [] (k + 1) [] rfl (by omega) rfl (fun x57 n58 n59 n60 n61 s62 s63 s64 n65 => K ⟨n58, n59, n60, n61, s62, s63, s64, (lst true []), n65⟩ false x57) (fun x66 n67 n68 n69 n70 s71 s72 s73 n74 n75 n76 n77 n78 s79 s80 s81 n82 r83 => K ⟨n75, n76, n77, n78, s79, s80, s81, (lst true r83), n82⟩ true x66)
  have z : ((([] : List Term).length : Nat) : Int) = 0 := rfl
  rw [z] at this
  rw [ca]
  refine Eq.trans this ?_
  cases fw (dw ps (ba c t.tables) d) kids with
  | none => rfl
  | some es => rfl
theorem qfh (k : Nat) (hk : 1048800 ≤ k) (l : List Term) (hl : l.length ≤ 1048576) (hn : ∀ x ∈ l, qfa x) (K : Arr → Bool → S_x0 → Prop) :
  (TT k).f_z15 (lst mt (l.map (bb mt))) (sWr m mp mt c ps t) K = match fw (dw ps (ba c t.tables) 16) l with
   | none => K (lst true []) false (sWr m mp mt c ps t)
   | some es => K (lst true (es.map (b7 true))) true (sWr m mp mt c ps t) := by
 obtain ⟨k, rfl⟩ : ∃ k', k = k' + 2 := ⟨k - 2, by omega⟩
 show F_z15 (TT (k + 1)) _ _ K = _
 simp only [F_z15, ca]
 have loop : ∀ (r p : List Term) (q : Nat) (acc : List Expr), l = p ++ r → r.length < q → acc.length = p.length → ∀ (K0 : S_x0 → Prop) (K1 : S_x0 → (List PV) → Prop),
   L_z15_0 (TT (k + 1)) q (lst mt (l.map (bb mt))) ((l.length : Nat) : Int) ((p.length : Nat) : Int) (sWr m mp mt c ps t) (acc.map (b7 true)) K0 K1 =
    match fw (dw ps (ba c t.tables) 16) r with
    | none => K0 (sWr m mp mt c ps t)
    | some es => K1 (sWr m mp mt c ps t) ((acc ++ es).map (b7 true)) := by
  intro r
  induction r with
  | nil =>
   intro p q acc h1 hq ha K0 K1
   obtain ⟨q, rfl⟩ : ∃ q', q = q' + 1 := ⟨q - 1, by simp at hq; omega⟩
   have e : ((p.length : Nat) : Int) = ((l.length : Nat) : Int) := by rw [h1]; simp
   simp only [L_z15_0, B_z15_0, e, Int.lt_irrefl, decide_false, ef, fw, List.append_nil]
  | cons y r ihr =>
   intro p q acc h1 hq ha K0 K1
   obtain ⟨q, rfl⟩ : ∃ q', q = q' + 1 := ⟨q - 1, by simp at hq; omega⟩
   have hp : p.length < l.length := by rw [h1]; simp
   have ex : l[p.length] = y := by simp [h1]
   have hy := hn y (by rw [h1]; simp)
   simp only [L_z15_0, B_z15_0, bo, List.length_map, Int.ofNat_lt, hp, Int.natCast_nonneg, true_and, decide_true, db, Int.toNat_natCast, au hp, gm, ex, qtb H 16 (k + 1) y 16 rfl (by omega) (by omega) hy, bw (show p.length < 4611686018427387904 by omega), fw]
   cases hE : dw ps (ba c t.tables) 16 y with
   | none => rfl
   | some e =>
    have hz : ((acc.length + 1) * 112 ≤ 140737488355328) = True := eq_true (by omega)
    have := ihr (p ++ [y]) q (acc ++ [e]) (by rw [h1]; simp) (by simp at hq; omega) (by simp [ha]) K0 K1
    have e2 : (acc ++ [e]).map (b7 true) = acc.map (b7 true) ++ [PV.agg (p_xb (eb true e))] := by rw [q42]; simp
    rw [bz, e2] at this
    simp only [Option.isSome_some, Bool.not_true, ef, eO, hz, true_and, List.length_map]
    rw [this]
    cases fw (dw ps (ba c t.tables) 16) r with
    | none => rfl
    | some es => simp only [List.append_assoc, List.singleton_append]
 have := loop l [] (k + 1) [] rfl (by omega) rfl (fun x19 => K (lst true []) false x19) (fun x20 r21 => K (lst true r21) true x20)
 have z : ((([] : List Term).length : Nat) : Int) = 0 := rfl
 have e0 : (((lst mt (l.map (bb mt))).n : Nat) : Int) = ((l.length : Nat) : Int) := by simp [lst]
 rw [z] at this
 rw [e0]
 refine Eq.trans this ?_
 cases fw (dw ps (ba c t.tables) 16) l with
 | none => rfl
 | some es => rfl
end
end Go.RX
namespace Go.RX
mutual
def zT : Term → Nat
 | .mk _ _ _ _ _ _ kids => 1 + zTs kids
def zTs : List Term → Nat
 | [] => 0
 | x :: r => zT x + zTs r
end
theorem qc9 (t : Term) : zT t = 1 + zTs t.kids := by cases t; rw [zT]; rfl
theorem qg0 : ∀ l : List Term, l.length ≤ zTs l
 | [] => Nat.zero_le _
 | x :: r => by
  have := qg0 r
  have := qc9 x
  rw [zTs, List.length_cons]; omega
mutual
def qbl : Term → Term → Bool
 | .mk a b c d e f k, .mk a' b' c' d' e' f' k' => decide (a = a') && decide (b = b') && decide (c = c') && (decide (d = d') && (decide (e = e') && decide (f = f'))) && fo k k'
def fo : List Term → List Term → Bool
 | [], [] => true
 | x :: r, y :: s => qbl x y && fo r s
 | _, _ => false
end
mutual
theorem qjr : ∀ a b : Term, qbl a b = true ↔ a = b
 | .mk a b c d e f k, .mk a' b' c' d' e' f' k' => by
  simp only [qbl, Bool.and_eq_true, decide_eq_true_eq, ry k k', Term.mk.injEq]
  constructor
  ·rintro ⟨⟨⟨⟨h1, h2⟩, h3⟩, h4, h5, h6⟩, h7⟩; exact ⟨h1, h2, h3, h4, h5, h6, h7⟩
  ·rintro ⟨h1, h2, h3, h4, h5, h6, h7⟩; exact ⟨⟨⟨⟨h1, h2⟩, h3⟩, h4, h5, h6⟩, h7⟩
theorem ry : ∀ a b : List Term, fo a b = true ↔ a = b
 | [], [] => by simp [fo]
 | [], _ :: _ => by simp [fo]
 | _ :: _, [] => by simp [fo]
 | x :: r, y :: s => by simp only [fo, Bool.and_eq_true, qjr x y, ry r s, List.cons.injEq]
end
theorem zj : ∀ {a b : List Term}, a.length ≠ b.length → fo a b = false
 | [], [], h => absurd rfl h
 | [], _ :: _, _ => rfl
 | _ :: _, [], _ => rfl
 | x :: r, y :: s, h => by rw [fo, zj (a := r) (b := s) (by simpa using h), Bool.and_false]
theorem qig (m : Bool) (t : Term) : dd m t = ⟨t.op, t.num, t.cr, t.fa, t.mi, t.fq, lst m (t.kids.map (bb m))⟩ := by cases t; rfl
theorem ku (k : Nat) (m m' : Bool) (a b : List Int) (hk : a.length + 5 ≤ k) (hb : b.length ≤ 1048576) (K : Bool → Prop) : (TT k).f_z2k (lst m (a.map eI)) (lst m' (b.map eI)) K = K (decide (a = b)) := by
 obtain ⟨k, rfl⟩ : ∃ k', k = k' + 2 := ⟨k - 2, by omega⟩
 show F_z2k (TT (k + 1)) _ _ K = _
 simp only [F_z2k, ca, bo, List.length_map, ee]
 by_cases hl : a.length = b.length
 ·have e : decide (((a.length : Nat) : Int) = ((b.length : Nat) : Int)) = true := decide_eq_true (by omega)
  rw [e, Bool.not_true, ef]
  have loop : ∀ (r p r' p' : List Int) (n : Nat), a = p ++ r → b = p' ++ r' → p.length = p'.length → r.length < n → ∀ X Y : Prop, L_z2k_0 (TT (k + 1)) n (lst m (a.map eI)) (lst m' (b.map eI)) ((a.length : Nat) : Int) ((p.length : Nat) : Int) X Y = br (decide (r = r')) Y X := by
   intro r
   induction r with
   | nil =>
    intro p r' p' n h1 h2 h3 hn X Y
    obtain ⟨n, rfl⟩ : ∃ n', n = n' + 1 := ⟨n - 1, by simp at hn; omega⟩
    have : r' = [] := List.length_eq_zero_iff.1 (by rw [h1, h2] at hl; simp at hl; omega)
    subst this
    have e : ((p.length : Nat) : Int) = ((a.length : Nat) : Int) := by rw [h1]; simp
    simp only [L_z2k_0, B_z2k_0, e, Int.lt_irrefl, decide_false, ef, decide_true, db]
   | cons x r ih =>
    intro p r' p' n h1 h2 h3 hn X Y
    obtain ⟨n, rfl⟩ : ∃ n', n = n' + 1 := ⟨n - 1, by simp at hn; omega⟩
    match r', h2 with
    | [], h2 => rw [h1, h2] at hl; simp at hl; omega
    | y :: r', h2 =>
     have hp : p.length < a.length := by rw [h1]; simp
     have hq : p.length < b.length := by omega
     have ex : a[p.length] = x := by simp [h1]
     have ey : b[p.length] = y := by simp [h2, h3]
     have := ih (p ++ [x]) r' (p' ++ [y]) n (by rw [h1]; simp) (by rw [h2]; simp) (by simp [h3]) (by simp at hn; omega) X Y
     rw [bz] at this
     simp only [L_z2k_0, B_z2k_0, bo, List.length_map, Int.ofNat_lt, hp, hq, Int.natCast_nonneg, true_and, decide_true, db, Int.toNat_natCast, au hp, au hq, ig, ex, ey, ee, bw (show p.length < 4611686018427387904 by omega), this]
     have e2 : decide (x :: r = y :: r') = (decide (x = y) && decide (r = r')) := by rw [Bool.eq_iff_iff]; simp
     rw [e2]
     cases decide (x = y) <;> rfl
  have := loop a [] b [] (k + 1) rfl rfl rfl (by omega) (K false) (K true)
  have z : ((([] : List Int).length : Nat) : Int) = 0 := rfl
  rw [z] at this
  rw [this]
  cases decide (a = b) <;> rfl
 ·have e : decide (((a.length : Nat) : Int) = ((b.length : Nat) : Int)) = false := decide_eq_false (by omega)
  have e2 : decide (a = b) = false := decide_eq_false fun h => hl (by rw [h])
  rw [e, e2]; rfl
def ln : List S_xd → List S_xd → Bool
 | [], [] => true
 | x :: r, y :: s => (decide (x.Item = y.Item) && ((x.Desc == y.Desc) && decide (x.At = y.At))) && ln r s
 | _, _ => false
theorem qbj : ∀ a b : List S_xd, ln a b = true ↔ a = b
 | [], [] => by simp [ln]
 | [], _ :: _ => by simp [ln]
 | _ :: _, [] => by simp [ln]
 | ⟨i, d, a⟩ :: r, ⟨i', d', a'⟩ :: s => by
  simp only [ln, Bool.and_eq_true, decide_eq_true_eq, beq_iff_eq, qbj r s, List.cons.injEq, S_xd.mk.injEq]
theorem qbk : ∀ {a b : List S_xd}, a.length ≠ b.length → ln a b = false
 | [], [], h => absurd rfl h
 | [], _ :: _, _ => rfl
 | _ :: _, [], _ => rfl
 | x :: r, y :: s, h => by rw [ln, qbk (a := r) (b := s) (by simpa using h), Bool.and_false]
theorem qdf (k : Nat) (m m' : Bool) (a b : List S_xd) (hk : a.length + 5 ≤ k) (hb : b.length ≤ 1048576) (K : Bool → Prop) : (TT k).f_z2j (lst m (a.map eu)) (lst m' (b.map eu)) K = K (ln a b) := by
 obtain ⟨k, rfl⟩ : ∃ k', k = k' + 2 := ⟨k - 2, by omega⟩
 show F_z2j (TT (k + 1)) _ _ K = _
 simp only [F_z2j, ca, bo, List.length_map, ee]
 by_cases hl : a.length = b.length
 ·have e : decide (((a.length : Nat) : Int) = ((b.length : Nat) : Int)) = true := decide_eq_true (by omega)
  rw [e, Bool.not_true, ef]
  have loop : ∀ (r p r' p' : List S_xd) (n : Nat), a = p ++ r → b = p' ++ r' → p.length = p'.length → r.length < n → ∀ X Y : Prop, L_z2j_0 (TT (k + 1)) n (lst m (a.map eu)) (lst m' (b.map eu)) ((a.length : Nat) : Int) ((p.length : Nat) : Int) X Y = br (ln r r') Y X := by
   intro r
   induction r with
   | nil =>
    intro p r' p' n h1 h2 h3 hn X Y
    obtain ⟨n, rfl⟩ : ∃ n', n = n' + 1 := ⟨n - 1, by simp at hn; omega⟩
    have : r' = [] := List.length_eq_zero_iff.1 (by rw [h1, h2] at hl; simp at hl; omega)
    subst this
    have e : ((p.length : Nat) : Int) = ((a.length : Nat) : Int) := by rw [h1]; simp
    simp only [L_z2j_0, B_z2j_0, e, Int.lt_irrefl, decide_false, ef, ln, db]
   | cons x r ih =>
    intro p r' p' n h1 h2 h3 hn X Y
    obtain ⟨n, rfl⟩ : ∃ n', n = n' + 1 := ⟨n - 1, by simp at hn; omega⟩
    match r', h2 with
    | [], h2 => rw [h1, h2] at hl; simp at hl; omega
    | y :: r', h2 =>
     have hp : p.length < a.length := by rw [h1]; simp
     have hq : p.length < b.length := by omega
     have ex : a[p.length] = x := by simp [h1]
     have ey : b[p.length] = y := by simp [h2, h3]
     have := ih (p ++ [x]) r' (p' ++ [y]) n (by rw [h1]; simp) (by rw [h2]; simp) (by simp [h3]) (by simp at hn; omega) X Y
     rw [bz] at this
     simp only [L_z2j_0, B_z2j_0, bo, List.length_map, Int.ofNat_lt, hp, hq, Int.natCast_nonneg, true_and, decide_true, db, Int.toNat_natCast, au hp, au hq, qb6, ex, ey, cq, bw (show p.length < 4611686018427387904 by omega), this, ln]
     cases (decide (x.Item = y.Item) && ((x.Desc == y.Desc) && decide (x.At = y.At))) <;> rfl
  have := loop a [] b [] (k + 1) rfl rfl rfl (by omega) (K false) (K true)
  have z : ((([] : List S_xd).length : Nat) : Int) = 0 := rfl
  rw [z] at this
  rw [this]
  cases ln a b <;> rfl
 ·have e : decide (((a.length : Nat) : Int) = ((b.length : Nat) : Int)) = false := decide_eq_false (by omega)
  rw [e, qbk hl]; rfl
theorem o5 (m m' : Bool) : ∀ (k : Nat) (a b : List Term), 2 * zTs a + 5 ≤ k → zTs b ≤ 4611686018427387000 → ∀ K : Bool → Prop, (TT k).f_z2i (lst m (a.map (bb m))) (lst m' (b.map (bb m'))) K = K (fo a b) := by
 intro k
 induction k using Nat.strongRecOn with
 | _ k ihk =>
  intro a b hk ha K
  obtain ⟨k, rfl⟩ : ∃ k', k = k' + 2 := ⟨k - 2, by omega⟩
  show F_z2i (TT (k + 1)) _ _ K = _
  simp only [F_z2i, ca, bo, List.length_map, ee]
  have hal := qg0 b
  by_cases hl : a.length = b.length
  ·have e : decide (((a.length : Nat) : Int) = ((b.length : Nat) : Int)) = true := decide_eq_true (by omega)
   rw [e, Bool.not_true, ef]
   have one : ∀ (x y : Term), 2 * zT x + 3 ≤ k → zT y ≤ 4611686018427387000 → ∀ K : Bool → Prop, (TT (k + 1)).f_zu (dd m x) (dd m' y) K = K (qbl x y) := by
    intro x y hx hx2 K
    show F_zu (TT k) _ _ K = _
    rw [qig, qig]
    have hz := qc9 x
    have hz' := qc9 y
    simp only [F_zu, cq, zy, ihk k (by omega) x.kids y.kids (by omega) (by omega)]
    obtain ⟨o, n, ty, vk, vi, vt, ks⟩ := x
    obtain ⟨o', n', ty', vk', vi', vt', ks'⟩ := y
    simp only [qbl, Term.op, Term.num, Term.cr, Term.fa, Term.mi, Term.fq, Term.kids]
    show br (decide (o = o')) (br (decide (n = n')) (br (decide (ty = ty')) (br (decide (vk = vk') && (decide (vi = vi') && decide (vt = vt'))) _ _) _) _) _ = K (decide (o = o') && decide (n = n') && decide (ty = ty') && (decide (vk = vk') && (decide (vi = vi') && decide (vt = vt'))) && fo ks ks')
    cases decide (o = o') <;> cases decide (n = n') <;> cases decide (ty = ty') <;> cases (decide (vk = vk') && (decide (vi = vi') && decide (vt = vt'))) <;> rfl
   have loop : ∀ (r p r' p' : List Term) (n : Nat), a = p ++ r → b = p' ++ r' → p.length = p'.length → zTs r ≤ zTs a → zTs r' ≤ zTs b → r.length < n → ∀ X Y : Prop, L_z2i_0 (TT (k + 1)) n (lst m' (b.map (bb m'))) (lst m (a.map (bb m))) ((a.length : Nat) : Int) ((p.length : Nat) : Int) X Y = br (fo r r') Y X := by
    intro r
    induction r with
    | nil =>
     intro p r' p' n h1 h2 h3 _ _ hn X Y
     obtain ⟨n, rfl⟩ : ∃ n', n = n' + 1 := ⟨n - 1, by simp at hn; omega⟩
     have : r' = [] := List.length_eq_zero_iff.1 (by rw [h1, h2] at hl; simp at hl; omega)
     subst this
     have e : ((p.length : Nat) : Int) = ((a.length : Nat) : Int) := by rw [h1]; simp
     simp only [L_z2i_0, B_z2i_0, e, Int.lt_irrefl, decide_false, ef, fo, db]
    | cons x r ih =>
     intro p r' p' n h1 h2 h3 hz hz2 hn X Y
     obtain ⟨n, rfl⟩ : ∃ n', n = n' + 1 := ⟨n - 1, by simp at hn; omega⟩
     match r', h2 with
     | [], h2 => rw [h1, h2] at hl; simp at hl; omega
     | y :: r', h2 =>
      have hp : p.length < a.length := by rw [h1]; simp
      have hq : p.length < b.length := by omega
      have ex : a[p.length] = x := by simp [h1]
      have ey : b[p.length] = y := by simp [h2, h3]
      rw [zTs] at hz hz2
      have hx0 := qc9 x
      have := ih (p ++ [x]) r' (p' ++ [y]) n (by rw [h1]; simp) (by rw [h2]; simp) (by simp [h3]) (by omega) (by omega) (by simp at hn; omega) X Y
      rw [bz] at this
      simp only [L_z2i_0, B_z2i_0, bo, List.length_map, Int.ofNat_lt, hp, hq, Int.natCast_nonneg, true_and, decide_true, db, Int.toNat_natCast, au hp, au hq, gm, ex, ey, one x y (by omega) (by omega), bw (show p.length < 4611686018427387904 by omega), this, fo]
      cases qbl x y <;> rfl
   have := loop a [] b [] (k + 1) rfl rfl rfl (Nat.le_refl _) (Nat.le_refl _) (by have := qg0 a; omega) (K false) (K true)
   have z : ((([] : List Term).length : Nat) : Int) = 0 := rfl
   rw [z] at this
   rw [this]
   cases fo a b <;> rfl
  ·have e : decide (((a.length : Nat) : Int) = ((b.length : Nat) : Int)) = false := decide_eq_false (by omega)
   rw [e, zj hl]; rfl
end Go.RX
namespace Go.RX
def qbm (a b : Typed) : Bool :=
 decide (a.kind = b.kind) && (a.grouped == b.grouped) && decide (a.tables = b.tables) && decide (a.columns = b.columns) && decide (a.groups = b.groups) && ln a.sorts b.sorts && decide (a.limit = b.limit) && decide (a.types = b.types) &&
 fo a.on b.on && fo a.where_ b.where_ && fo a.items b.items
theorem qbn (a b : Typed) : qbm a b = true ↔ a = b := by
 obtain ⟨k, tb, o, w, i, co, g, gs, so, li, ty⟩ := a
 obtain ⟨k', tb', o', w', i', co', g', gs', so', li', ty'⟩ := b
 simp only [qbm, Bool.and_eq_true, decide_eq_true_eq, beq_iff_eq, qbj, ry, Typed.mk.injEq]
 constructor
 ·rintro ⟨⟨⟨⟨⟨⟨⟨⟨⟨⟨h1, h2⟩, h3⟩, h4⟩, h5⟩, h6⟩, h7⟩, h8⟩, h9⟩, h10⟩, h11⟩; exact ⟨h1, h3, h9, h10, h11, h4, h2, h5, h6, h7, h8⟩
 ·rintro ⟨h1, h3, h9, h10, h11, h4, h2, h5, h6, h7, h8⟩; exact ⟨⟨⟨⟨⟨⟨⟨⟨⟨⟨h1, h2⟩, h3⟩, h4⟩, h5⟩, h6⟩, h7⟩, h8⟩, h9⟩, h10⟩, h11⟩
structure qkc (a b : Typed) (k : Nat) : Prop where
 tables : a.tables.length + 5 ≤ k ∧ b.tables.length ≤ 1048576
 columns : a.columns.length + 5 ≤ k ∧ b.columns.length ≤ 1048576
 groups : a.groups.length + 5 ≤ k ∧ b.groups.length ≤ 1048576
 sorts : a.sorts.length + 5 ≤ k ∧ b.sorts.length ≤ 1048576
 limit : a.limit.length + 5 ≤ k ∧ b.limit.length ≤ 1048576
 types : a.types.length + 5 ≤ k ∧ b.types.length ≤ 1048576
 on : 2 * zTs a.on + 5 ≤ k ∧ zTs b.on ≤ 4611686018427387000
 where_ : 2 * zTs a.where_ + 5 ≤ k ∧ zTs b.where_ ≤ 4611686018427387000
 items : 2 * zTs a.items + 5 ≤ k ∧ zTs b.items ≤ 4611686018427387000
theorem xg (k : Nat) (m m' : Bool) (a b : Typed) (h : qkc a b k) (K : Bool → Prop) : (TT (k + 1)).f_zv (bj m a) (bj m' b) K = K (qbm a b) := by
 show F_zv (TT k) _ _ K = _
 have e1 : ∀ (m : Bool) (a : Typed), bj m a = ⟨a.kind, lst m (a.tables.map eI), lst m (a.on.map (bb m)), lst m (a.where_.map (bb m)), lst m (a.items.map (bb m)), lst m (a.columns.map eI), a.grouped, lst m (a.groups.map eI), lst m (a.sorts.map eu), lst m (a.limit.map eI), lst m (a.types.map eI)⟩ := fun _ _ => rfl
 rw [e1, e1]
 simp only [F_zv, cq, ku k m m' a.tables b.tables h.tables.1 h.tables.2, ku k m m' a.columns b.columns h.columns.1 h.columns.2, ku k m m' a.groups b.groups h.groups.1 h.groups.2, qdf k m m' a.sorts b.sorts h.sorts.1 h.sorts.2, ku k m m' a.limit b.limit h.limit.1 h.limit.2, ku k m m' a.types b.types h.types.1 h.types.2,
  o5 m m' k a.on b.on h.on.1 h.on.2, o5 m m' k a.where_ b.where_ h.where_.1 h.where_.2, o5 m m' k a.items b.items h.items.1 h.items.2, qbm]
 cases decide (a.kind = b.kind)
 ·rfl
 cases (a.grouped == b.grouped)
 ·rfl
 cases decide (a.tables = b.tables)
 ·rfl
 cases decide (a.columns = b.columns)
 ·rfl
 cases decide (a.groups = b.groups)
 ·rfl
 cases ln a.sorts b.sorts
 ·rfl
 cases decide (a.limit = b.limit)
 ·rfl
 cases decide (a.types = b.types)
 ·rfl
 cases fo a.on b.on
 ·rfl
 cases fo a.where_ b.where_ <;> rfl
section
variable {m mp mt : Bool} {c : bg} {ps : List S_x7} {t : Typed}
theorem qnt (k : Nat) (hk : 1048800 ≤ k) (hl : t.tables.length ≤ 1048576) (K : Bool → S_x0 → Prop) : (TT k).f_z19 (sWr m mp mt c ps t) K = K (ez c t.tables) (sWr m mp mt c ps t) := by
 obtain ⟨k, rfl⟩ : ∃ k', k = k' + 4 := ⟨k - 4, by omega⟩
 show F_z19 (TT (k + 3)) _ K = _
 have s1 : (sWr m mp mt c ps t).t_Tables = lst mt (t.tables.map eI) := rfl
 have s2 : (((sWr m mp mt c ps t).c_Tables.n : Nat) : Int) = ((c.tables.length : Nat) : Int) := by show (((lst m (c.tables.map (bp m))).n : Nat) : Int) = _; simp [lst]
 have cf : ∀ K : Bool → S_x0 → Prop, (TT (k + 3)).f_z2f (lst mt (t.tables.map eI)) (sWr m mp mt c ps t) K = K (!(t.tables.all fun n => inR n c.tables.length)) (sWr m mp mt c ps t) := by
  intro K
  show F_z2p (TT (k + 1)) (lst mt (t.tables.map eI)) (sWr m mp mt c ps t) (fun n x => K (decide (n ≥ 0)) x) = _
  simp only [F_z2p, ca, bo, List.length_map]
  have loop : ∀ (r p : List Int) (n : Nat), t.tables = p ++ r → r.length < n → L_z2p_0 (TT (k + 1)) n (lst mt (t.tables.map eI)) ((t.tables.length : Nat) : Int) ((p.length : Nat) : Int) (sWr m mp mt c ps t) (fun n15 x16 => K (decide (n15 ≥ 0)) x16) (fun x17 => K (decide ((-1 : Int) ≥ 0)) x17) = K (!(r.all fun n => inR n c.tables.length)) (sWr m mp mt c ps t) := by
   intro r
   induction r with
   | nil =>
    intro p n h1 hn
    obtain ⟨n, rfl⟩ : ∃ n', n = n' + 1 := ⟨n - 1, by simp at hn; omega⟩
    have e : ((p.length : Nat) : Int) = ((t.tables.length : Nat) : Int) := by rw [h1]; simp
    simp only [L_z2p_0, B_z2p_0, e, Int.lt_irrefl, decide_false, ef, List.all_nil]
    rfl
   | cons x r ih =>
    intro p n h1 hn
    obtain ⟨n, rfl⟩ : ∃ n', n = n' + 1 := ⟨n - 1, by simp at hn; omega⟩
    have hp : p.length < t.tables.length := by rw [h1]; simp
    have ex : t.tables[p.length] = x := by simp [h1]
    have := ih (p ++ [x]) n (by rw [h1]; simp) (by simp at hn; omega)
    rw [bz] at this
    have one : ∀ K : Bool → S_x0 → Prop, (TT (k + 1)).f_z1a x (sWr m mp mt c ps t) K = K (!inR x c.tables.length) (sWr m mp mt c ps t) := by
     intro K
     show F_z1a (TT k) x _ K = _
     have g1 : decide (x < 0) = !decide (0 ≤ x) := by rw [Bool.eq_iff_iff]; simp
     have g2 : decide (x ≥ ((c.tables.length : Nat) : Int)) = !decide (x < ((c.tables.length : Nat) : Int)) := by rw [Bool.eq_iff_iff]; simp
     simp only [F_z1a, s2, g1, g2, inR]
     cases decide (0 ≤ x) <;> cases decide (x < ((c.tables.length : Nat) : Int)) <;> rfl
    have dg : decide (((p.length : Nat) : Int) ≥ 0) = true := decide_eq_true (Int.natCast_nonneg _)
    simp only [L_z2p_0, B_z2p_0, bo, List.length_map, Int.ofNat_lt, hp, Int.natCast_nonneg, true_and, decide_true, db, Int.toNat_natCast, au hp, ig, ex, one, dg, bw (show p.length < 4611686018427387904 by omega), this, List.all_cons]
    cases inR x c.tables.length <;> rfl
  exact loop t.tables [] (k + 1) rfl (by omega)
 have e1 : (((lst mt (t.tables.map eI)).n : Nat) : Int) = ((t.tables.length : Nat) : Int) := by simp [lst]
 have d1 : (((t.tables.length : Nat) : Int) == 1) = decide (t.tables.length = 1) := by rw [cq]; exact decide_eq_decide.2 (by omega)
 have d2 : (((t.tables.length : Nat) : Int) == 2) = decide (t.tables.length = 2) := by rw [cq]; exact decide_eq_decide.2 (by omega)
 simp only [F_z19, s1, e1, d1, d2, cf, ez, Bool.not_not]
 cases decide (t.tables.length = 1) <;> cases decide (t.tables.length = 2) <;> rfl
theorem qtd (H : WOK c t) (k : Nat) (hk : 1048800 ≤ k) (hl : t.items.length ≤ 1048576) (K : Bool → S_x0 → Prop) : (TT k).f_z17 (sWr m mp mt c ps t) K = K (tw (ba c t.tables) t.items) (sWr m mp mt c ps t) := by
 obtain ⟨k, rfl⟩ : ∃ k', k = k' + 2 := ⟨k - 2, by omega⟩
 show F_z17 (TT (k + 1)) _ K = _
 have s1 : (sWr m mp mt c ps t).t_Items = lst mt (t.items.map (bb mt)) := rfl
 have e1 : (((lst mt (t.items.map (bb mt))).n : Nat) : Int) = ((t.items.length : Nat) : Int) := by simp [lst]
 have d8 : decide (((t.items.length : Nat) : Int) ≤ 8) = !decide (8 < t.items.length) := by rw [Bool.eq_iff_iff]; simp; omega
 have loop : ∀ (r p : List Term) (n : Nat), t.items = p ++ r → r.length < n → ∀ X Y : S_x0 → Prop, L_z17_0 (TT (k + 1)) n (lst mt (t.items.map (bb mt))) ((t.items.length : Nat) : Int) ((p.length : Nat) : Int) (sWr m mp mt c ps t) X Y = br (qep p.length r) (Y (sWr m mp mt c ps t)) (X (sWr m mp mt c ps t)) := by
  intro r
  induction r with
  | nil =>
   intro p n h1 hn X Y
   obtain ⟨n, rfl⟩ : ∃ n', n = n' + 1 := ⟨n - 1, by simp at hn; omega⟩
   have e : ((p.length : Nat) : Int) = ((t.items.length : Nat) : Int) := by rw [h1]; simp
   simp only [L_z17_0, B_z17_0, e, Int.lt_irrefl, decide_false, ef, qep, db]
  | cons x r ih =>
   intro p n h1 hn X Y
   obtain ⟨n, rfl⟩ : ∃ n', n = n' + 1 := ⟨n - 1, by simp at hn; omega⟩
   have hp : p.length < t.items.length := by rw [h1]; simp
   have ex : t.items[p.length] = x := by simp [h1]
   have := ih (p ++ [x]) n (by rw [h1]; simp) (by simp at hn; omega) X Y
   rw [bz] at this
   have t1 : ∀ t : Term, (dd mt t).Op = t.op := fun _ => rfl
   have t2 : ∀ t : Term, (dd mt t).Num = t.num := fun _ => rfl
   simp only [L_z17_0, B_z17_0, bo, List.length_map, Int.ofNat_lt, hp, Int.natCast_nonneg, true_and, decide_true, db, Int.toNat_natCast, au hp, gm, t1, t2, ee, ex, bw (show p.length < 4611686018427387904 by omega), this, qep]
   cases decide (x.op = 3) <;> cases decide (x.num = ((p.length : Nat) : Int)) <;> rfl
 simp only [F_z17, ca, s1, e1, d8]
 have l0 := fun X Y => loop t.items [] (k + 1) rfl (by omega) X Y
 have z : ((([] : List Term).length : Nat) : Int) = 0 := rfl
 rw [z] at l0
 rw [l0]
 simp only [s1, e1]
 rw [qb0 (k + 1) (by omega) m mp mt c ps t H.all H.len H.cols _ ⟨by omega, by omega⟩, tw]
 show br (!decide (8 < t.items.length)) _ (br (qep 0 t.items) _ _) = _
 cases decide (8 < t.items.length) <;> cases qep 0 t.items <;> cases oh (ba c t.tables) (t.items.length : Nat) <;> rfl
end
end Go.RX
namespace Go.RX
section
variable {m mp mt : Bool} {c : bg} {ps : List S_x7} {t : Typed}
theorem qeq {T : Table} : ∀ {ks : List Int} {es : List Expr}, es.length ≠ ks.length → j9 T ks es = none
 | [], [], h => absurd rfl h
 | [], _ :: _, _ => rfl
 | _ :: _, [], _ => rfl
 | k :: ks, e :: es, h => by
  rw [j9, qeq (ks := ks) (es := es) (by simpa using h)]
  simp
theorem qrf (T : Table) (k : Int) (e : Expr) : PV.agg [.str (T.columns.getD k.toNat wg).Name, .int .i64 (eb true e).Kind, .int .i64 (eb true e).Op, .int .i64 (eb true e).Value_Kind, .int .i64 (eb true e).Value_Int, .str (eb true e).Value_Text, .str (eb true e).Table, .str (eb true e).Name, .arr (eb true e).Kids.m (eb true e).Kids.n (eb true e).Kids.g, .int .i64 (eb true e).At, .int .i64 0] = v7 true ⟨(T.columns.getD k.toNat wg).Name, e, 0⟩ := by
 cases e; rfl
theorem qtc (H : WOK c t) (T : Table) (i0 : Nat) (h0 : i0 < c.tables.length) (hT : c.tables[i0] = T) (ht0 : ∃ r, t.tables = ((i0 : Nat) : Int) :: r) (k : Nat) (hk : 1048800 ≤ k) (hl : t.columns.length ≤ 1048576) (its : List Expr)
  (n1 : Int) (s1 s2 : ByteArray) (a2 a3 : Arr) (b1 : Bool) (a4 a5 : Arr) (n2 n3 : Int) (r1 : List PV) (Z : Prop)
  (K0 : S_x0 → Int → ByteArray → ByteArray → Arr → Arr → Bool → Arr → Arr → Int → Int → (List PV) → Prop) (K1 : Bool → S_x0 → Int → ByteArray → ByteArray → Arr → Arr → Bool → Arr → Arr → Int → Int → (List PV) → (List PV) → Prop)
  (hZ0 : K0 (sWr m mp mt c ps t) n1 s1 s2 a2 a3 b1 a4 a5 n2 n3 r1 = Z) (hZ1 : ∀ r2, K1 false (sWr m mp mt c ps t) n1 s1 s2 a2 a3 b1 a4 a5 n2 n3 r1 r2 = Z) :
  (TT k).f_z16 (lst true (its.map (b7 true))) (sWr m mp mt c ps t) n1 s1 s2 a2 a3 b1 a4 a5 n2 n3 r1 K0 K1 = match j9 T t.columns its with
   | none => Z
   | some ss => K1 true (sWr m mp mt c ps t) n1 s1 s2 a2 a3 b1 a4 a5 n2 n3 r1 (ss.map (v7 true)) := by
 obtain ⟨k, rfl⟩ : ∃ k', k = k' + 2 := ⟨k - 2, by omega⟩
 show F_z16 (TT (k + 1)) _ _ n1 s1 s2 a2 a3 b1 a4 a5 n2 n3 r1 K0 K1 = _
 obtain ⟨rr, htr⟩ := ht0
 have w1 : (sWr m mp mt c ps t).t_Tables = lst mt ((((i0 : Nat) : Int) :: rr).map eI) := by rw [← htr]; rfl
 have w2 : (sWr m mp mt c ps t).c_Tables = lst m (c.tables.map (bp m)) := rfl
 have w3 : (sWr m mp mt c ps t).t_Columns = lst mt (t.columns.map eI) := rfl
 have g0 : ∀ K : Int → Prop, bf ((lst mt ((((i0 : Nat) : Int) :: rr).map eI)).g 0) K = K ((i0 : Nat) : Int) := fun K => rfl
 have l0 : ((0 : Int) < (((lst mt ((((i0 : Nat) : Int) :: rr).map eI)).n : Nat) : Int)) = True := eq_true (by simp [lst] <;> omega)
 have l1 : (((i0 : Nat) : Int) < (((lst m (c.tables.map (bp m))).n : Nat) : Int)) = True := eq_true (by simp [lst] <;> omega)
 have e1 : (((lst true (its.map (b7 true))).n : Nat) : Int) = ((its.length : Nat) : Int) := by simp [lst]
 have e2 : (((lst mt (t.columns.map eI)).n : Nat) : Int) = ((t.columns.length : Nat) : Int) := by simp [lst]
 simp only [F_z16, ca, w1, w2, w3, g0, l0, l1, e1, e2, Int.le_refl, Int.natCast_nonneg, true_and, Int.toNat_natCast, au h0, i7, hT, ee]
 by_cases hlen : its.length = t.columns.length
 ·have d : decide (((its.length : Nat) : Int) = ((t.columns.length : Nat) : Int)) = true := decide_eq_true (by omega)
  rw [d, Bool.not_true, ef]
  have cl : (bm m T).Columns = lst m (T.columns.map gj) := rfl
  have loop : ∀ (r p : List Int) (er ep : List Expr) (n : Nat) (acc : List qaf), t.columns = p ++ r → its = ep ++ er → ep.length = p.length → acc.length = p.length → r.length < n → ∀ (X Y : S_x0 → Int → ByteArray → ByteArray → Arr → Arr → Bool → Arr → Arr → Int → Int → (List PV) → (List PV) → Prop), (∀ r2, X (sWr m mp mt c ps t) n1 s1 s2 a2 a3 b1 a4 a5 n2 n3 r1 r2 = Z) →
    L_z16_0 (TT (k + 1)) n (lst true (its.map (b7 true))) (lst mt (t.columns.map eI)) ((t.columns.length : Nat) : Int) ((p.length : Nat) : Int) (sWr m mp mt c ps t) n1 s1 s2 a2 a3 b1 a4 a5 n2 n3 r1 (acc.map (v7 true)) (bm m T) X Y = match j9 T r er with
     | none => Z
     | some ss => Y (sWr m mp mt c ps t) n1 s1 s2 a2 a3 b1 a4 a5 n2 n3 r1 ((acc ++ ss).map (v7 true)) := by
   intro r
   induction r with
   | nil =>
    intro p er ep n acc h1 h2 h3 h4 hn X Y hX
    obtain ⟨n, rfl⟩ : ∃ n', n = n' + 1 := ⟨n - 1, by simp at hn; omega⟩
    have : er = [] := List.length_eq_zero_iff.1 (by rw [h1, h2] at hlen; simp at hlen; omega)
    subst this
    have e : ((p.length : Nat) : Int) = ((t.columns.length : Nat) : Int) := by rw [h1]; simp
    simp only [L_z16_0, B_z16_0, e, Int.lt_irrefl, decide_false, ef, j9, List.append_nil]
   | cons x r ih =>
    intro p er ep n acc h1 h2 h3 h4 hn X Y hX
    obtain ⟨n, rfl⟩ : ∃ n', n = n' + 1 := ⟨n - 1, by simp at hn; omega⟩
    match er, h2 with
    | [], h2 => rw [h1, h2] at hlen; simp at hlen; omega
    | y :: er, h2 =>
     have hp : p.length < t.columns.length := by rw [h1]; simp
     have hq : p.length < its.length := by omega
     have ex : t.columns[p.length] = x := by simp [h1]
     have ey : its[p.length] = y := by simp [h2, h3]
     have gx : decide (x < 0) = !decide (0 ≤ x) := by rw [Bool.eq_iff_iff]; simp
     have gy : decide (x ≥ ((T.columns.length : Nat) : Int)) = !decide (x < ((T.columns.length : Nat) : Int)) := by rw [Bool.eq_iff_iff]; simp
     simp only [L_z16_0, B_z16_0, bo, List.length_map, Int.ofNat_lt, hp, hq, Int.natCast_nonneg, true_and, decide_true, db, Int.toNat_natCast, au hp, au hq, ig, i6, ex, ey, cl, gx, gy, bw (show p.length < 4611686018427387904 by omega), j9]
     by_cases hx0 : 0 ≤ x
     ·by_cases hx1 : x < ((T.columns.length : Nat) : Int)
      ·have hj : x.toNat < T.columns.length := by omega
       have eg : T.columns.getD x.toNat wg = T.columns[x.toNat] := by simp [List.getD, hj]
       have hz : ((acc.length + 1) * 136 ≤ 140737488355328) = True := eq_true (by omega)
       have := ih (p ++ [x]) er (ep ++ [y]) n (acc ++ [⟨(T.columns.getD x.toNat wg).Name, y, 0⟩]) (by rw [h1]; simp) (by rw [h2]; simp) (by simp [h3]) (by simp [h4]) (by simp at hn; omega) X Y hX
       have e3 : (acc ++ [(⟨(T.columns.getD x.toNat wg).Name, y, 0⟩ : qaf)]).map (v7 true) = acc.map (v7 true) ++ [v7 true ⟨(T.columns.getD x.toNat wg).Name, y, 0⟩] := by simp
       rw [bz, e3, ← qrf, eg] at this
       have hin : inR x T.columns.length = true := gu.2 ⟨hx0, hx1⟩
       simp only [decide_true, hx0, hx1, au hj, fc, hz, true_and, Bool.not_true, ef, hin, if_true, eg, this]
       cases j9 T r er with
       | none => rfl
       | some ss => simp only [List.append_assoc, List.singleton_append]
      ·have hin : ¬ inR x T.columns.length = true := fun h => hx1 (gu.1 h).2
       rw [decide_eq_true hx0, decide_eq_false hx1, if_neg hin]
       exact hX _
     ·have hin : ¬ inR x T.columns.length = true := fun h => hx0 (gu.1 h).1
      rw [decide_eq_false hx0, if_neg hin]
      exact hX _
  have := loop t.columns [] its [] (k + 1) [] rfl rfl rfl rfl (by omega) (fun x45 n46 s47 s48 a49 a50 b51 a52 a53 n54 n55 r56 r57 => K1 false x45 n46 s47 s48 a49 a50 b51 a52 a53 n54 n55 r56 r57) (fun x58 n59 s60 s61 a62 a63 b64 a65 a66 n67 n68 r69 r70 => K1 true x58 n59 s60 s61 a62 a63 b64 a65 a66 n67 n68 r69 r70) hZ1
  have z : ((([] : List Int).length : Nat) : Int) = 0 := rfl
  rw [z] at this
  refine Eq.trans this ?_
  cases j9 T t.columns its <;> rfl
 ·have d : decide (((its.length : Nat) : Int) = ((t.columns.length : Nat) : Int)) = false := decide_eq_false (by omega)
  rw [d, qeq hlen]
  exact hZ0
theorem qns (H : WOK c t) (k : Nat) (hk : 1048800 ≤ k) (hl : t.groups.length ≤ 1048576) (hi : ∀ x ∈ t.groups, i64 x) (a1 : Arr) (n3 : Int) (s1 s2 : ByteArray) (a3 a4 : Arr) (b1 : Bool) (n4 n5 : Int) (Z : Prop)
  (K0 : S_x0 → Int → ByteArray → ByteArray → Arr → Arr → Bool → Int → Int → (List PV) → Prop) (K1 : Arr → S_x0 → Int → ByteArray → ByteArray → Arr → Arr → Bool → Int → Int → (List PV) → Prop) (hZ : ∀ r, K0 (sWr m mp mt c ps t) n3 s1 s2 a3 a4 b1 n4 n5 r = Z) :
  ∀ (r p : List Int) (n : Nat) (acc : List Expr), t.groups = p ++ r → acc.length = p.length → r.length < n →
   L_z18_0 (TT k) n a1 (lst mt (t.groups.map eI)) ((t.groups.length : Nat) : Int) ((p.length : Nat) : Int) (sWr m mp mt c ps t) n3 s1 s2 a3 a4 b1 n4 n5 (acc.map (b7 true)) K0 K1 = match fw (oh (ba c t.tables)) r with
    | none => Z
    | some es => K1 a1 (sWr m mp mt c ps t) n3 s1 s2 a3 a4 b1 n4 n5 ((acc ++ es).map (b7 true)) := by
 intro r
 induction r with
 | nil =>
  intro p n acc h1 h2 hn
  obtain ⟨n, rfl⟩ : ∃ n', n = n' + 1 := ⟨n - 1, by simp at hn; omega⟩
  have e : ((p.length : Nat) : Int) = ((t.groups.length : Nat) : Int) := by rw [h1]; simp
  simp only [L_z18_0, B_z18_0, e, Int.lt_irrefl, decide_false, ef, fw, List.append_nil]
 | cons x r ih =>
  intro p n acc h1 h2 hn
  obtain ⟨n, rfl⟩ : ∃ n', n = n' + 1 := ⟨n - 1, by simp at hn; omega⟩
  have hp : p.length < t.groups.length := by rw [h1]; simp
  have ex : t.groups[p.length] = x := by simp [h1]
  have hx := hi x (by rw [h1]; simp)
  simp only [L_z18_0, B_z18_0, bo, List.length_map, Int.ofNat_lt, hp, Int.natCast_nonneg, true_and, decide_true, db, Int.toNat_natCast, au hp, ig, ex, qb0 k (by omega) m mp mt c ps t H.all H.len H.cols x hx, bw (show p.length < 4611686018427387904 by omega), fw]
  cases hE : oh (ba c t.tables) x with
  | none => exact hZ _
  | some e =>
   have hz : ((acc.length + 1) * 112 ≤ 140737488355328) = True := eq_true (by omega)
   have := ih (p ++ [x]) n (acc ++ [e]) (by rw [h1]; simp) (by simp [h2]) (by simp at hn; omega)
   have e2 : (acc ++ [e]).map (b7 true) = acc.map (b7 true) ++ [b7 true e] := by simp
   rw [bz, e2] at this
   have st : ∀ X Y : PV, (acc.map (b7 true) ++ [X]).set acc.length Y = acc.map (b7 true) ++ [Y] := fun X Y => by
    rw [List.set_append_right _ _ (by simp)]; simp
   simp only [Option.isSome_some, Bool.not_true, ef, eO, hz, true_and, List.length_map, List.length_append, List.length_singleton, q42, st]
   have hlt : (acc.length < acc.length + 1) = True := eq_true (by omega)
   simp only [hlt, true_and]
   rw [this]
   cases fw (oh (ba c t.tables)) r with
   | none => rfl
   | some es => simp only [List.append_assoc, List.singleton_append]
end
end Go.RX
