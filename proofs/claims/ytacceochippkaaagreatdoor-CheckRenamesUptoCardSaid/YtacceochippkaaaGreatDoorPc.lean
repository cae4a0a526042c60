/- The law in plain Lean, with no program in sight. No condition. -/
import Derived.Test.YtacceochippkaaaGreatDoorPb
set_option linter.all false
namespace Go.RX
abbrev Flt := Int × Int
structure QEnv where
  param : ByteArray → Option (Int × Int)
  col : ByteArray → ByteArray → Int × Int × Int
def zTerm : Term := ⟨0, 0, 0, 0, 0, noB, []⟩
def wantT (kind : Int) : Int := if kind = 4 ∨ kind = 5 ∨ kind = 12 then 1 else if kind = 8 ∨ kind = 9 ∨ kind = 10 then 2 else 0
def typeT (kind : Int) (ks : List Term) : Int := if kind = 4 ∨ kind = 5 ∨ kind = 11 ∨ kind = 12 then 1 else if kind = 13 ∨ kind = 14 then (match ks with | t :: _ => t.type_ | [] => 0) else 2
def mayT (w : Int) (t : Term) : Bool := decide (w = 0) || decide (t.type_ = w) || decide (t.type_ = 0)
def badKid (w : Int) : List Term → List Expr → Option Int
  | t :: ts, e :: es => bif mayT w t then badKid w ts es else some e.at_
  | _, _ => none
def unlikeT : List Term → Bool
  | a :: b :: _ => !decide (a.type_ = b.type_) && !decide (a.type_ = 0) && !decide (b.type_ = 0)
  | _ => false
def mapE {α β : Type} (f : α → Except Flt β) : List α → Except Flt (List β)
  | [] => .ok []
  | x :: r => match f x with
    | .error e => .error e
    | .ok y => match mapE f r with
      | .error e => .error e
      | .ok ys => .ok (y :: ys)
def askE (q : QEnv) : Nat → Expr → Except Flt Term
  | 0, _ => .error (82, 0)
  | d + 1, e =>
    if e.kind = 1 then .ok ⟨e.kind, 0, e.vkind, e.vkind, e.vint, e.vtext, []⟩
    else if e.kind = 2 then match q.param e.name with
      | some (i, t) => .ok ⟨e.kind, i, t, 0, 0, noB, []⟩
      | none => .error (82, e.at_)
    else if e.kind = 3 then
      if (q.col e.table e.name).2.2 = 0 then .error (82, e.at_)
      else if (q.col e.table e.name).2.2 > 1 then .error (81, e.at_)
      else .ok ⟨e.kind, (q.col e.table e.name).1, (q.col e.table e.name).2.1, 0, 0, noB, []⟩
    else match mapE (askE q d) e.kids with
      | .error f => .error f
      | .ok ks => match badKid (wantT e.kind) ks e.kids with
        | some a => .error (11, a)
        | none => if e.kind = 6 ∧ unlikeT ks = true then .error (11, e.at_) else .ok ⟨e.kind, e.op, typeT e.kind ks, 0, 0, noB, ks⟩
def fineE : Nat → Expr → Prop
  | 0, _ => False
  | d + 1, e => e.kids.length ≤ 8 ∧ (e.kind = 6 → e.kids.length = 2) ∧ (e.kind = 13 ∨ e.kind = 14 → e.kids.length = 1) ∧ ∀ x ∈ e.kids, fineE d x
theorem fine_of_right : ∀ {d : Nat} {e : Expr}, rightE d e = true → fineE d e
  | 0, _, h => by simp [rightE] at h
  | d + 1, e, h => by
    simp only [rightE, Bool.and_eq_true, List.all_eq_true] at h
    obtain ⟨⟨⟨h1, h2⟩, h3⟩, h4⟩ := h
    refine ⟨kidsOK_le h1, fun hk => ?_, fun hk => ?_, fun x hx => fine_of_right (h4 x hx)⟩
    · simpa [kidsOK, hk] using h1
    · rcases hk with hk | hk <;> simp [kidsOK, hk] at h1
theorem mapE_len {α β : Type} {f : α → Except Flt β} : ∀ {l : List α} {r : List β}, mapE f l = .ok r → r.length = l.length
  | [], r, h => by
    injection h with h
    rw [← h]
    rfl
  | x :: l, r, h => by
    simp only [mapE] at h
    split at h
    · cases h
    · split at h
      · cases h
      · rename_i ys hys
        injection h with h
        rw [← h]
        simp [mapE_len hys]
structure ChkOK (q : QEnv) (m1 m2 : List (PV × PV)) : Prop where
  param : ∀ n, look (.str n) m1 = (q.param n).map fun x => .agg [.int .i64 x.1, .int .i64 x.2, .int .i64 0]
  col : ∀ t n, (look (.agg [.str t, .str n]) m2).getD (.agg [.int .i64 0, .int .i64 0, .int .i64 0]) = .agg [.int .i64 (q.col t n).1, .int .i64 (q.col t n).2.1, .int .i64 (q.col t n).2.2]
theorem as_place (a b c : Int) (K : S_check_place → Prop) : as_check_place (.agg [.int .i64 a, .int .i64 b, .int .i64 c]) K = K ⟨a, b, c⟩ := rfl
theorem eTerm_fold (m : Bool) (t : Term) : PV.agg (p_api_Term (sTerm m t)) = eTerm m t := (eTerm_s m t).symm
theorem S_fails (k : Nat) (hk : 1 ≤ k) (c a : Int) (a1 a2 : Arr) (m1 m2 : List (PV × PV)) (K : Arr → Arr → Int → Int → List (PV × PV) → List (PV × PV) → Prop) : (TT k).f_check_checker_fails c a a1 a2 0 0 m1 m2 K = K a1 a2 c a m1 m2 := by
  obtain ⟨k, rfl⟩ : ∃ k', k = k' + 1 := ⟨k - 1, by omega⟩
  rfl
def tell {α : Type} (r : Except Flt α) (good : α → Prop) (bad : Int → Int → Prop) : Prop := match r with
  | .ok x => good x
  | .error f => bad f.1 f.2
theorem S_unlike (k : Nat) (hk : 1 ≤ k) (ks : List Term) (h2 : ks.length = 2) (K : Bool → List PV → Prop) : (TT k).f_check_unlike (ks.map (eTerm true)) K = K (unlikeT ks) (ks.map (eTerm true)) := by
  obtain ⟨k, rfl⟩ : ∃ k', k = k' + 1 := ⟨k - 1, by omega⟩
  show F_check_unlike (TT k) _ K = _
  match ks, h2 with
  | [a, b], _ =>
    have h0 : ∀ x : S_api_Term, True := fun _ => trivial
    have g0 : ([a, b].map (eTerm true)).getD 0 .nilp = eTerm true a := rfl
    have g1 : ([a, b].map (eTerm true)).getD 1 .nilp = eTerm true b := rfl
    have t1 : ∀ t : Term, (sTerm true t).Type_ = t.type_ := fun _ => rfl
    have l1 : (0 : Int) < ((([a, b].map (eTerm true)).length : Nat) : Int) := by simp
    have l2 : (1 : Int) < ((([a, b].map (eTerm true)).length : Nat) : Int) := by simp
    have l3 : (0 : Int) ≤ 1 := by decide
    simp only [F_check_unlike, g0, g1, as_Term, t1, l1, l2, l3, Int.le_refl, true_and, bne_dec, unlikeT]
    cases decide (a.type_ = b.type_) <;> cases decide (a.type_ = 0) <;> rfl
theorem S_typeOf (k : Nat) (hk : 1 ≤ k) (kind : Int) (ks : List Term) (h : kind = 13 ∨ kind = 14 → ks.length = 1) (K : Int → List PV → Prop) : (TT k).f_check_typeOf kind (ks.map (eTerm true)) K = K (typeT kind ks) (ks.map (eTerm true)) := by
  obtain ⟨k, rfl⟩ : ∃ k', k = k' + 1 := ⟨k - 1, by omega⟩
  show F_check_typeOf (TT k) kind _ K = _
  simp only [F_check_typeOf, br_if, beq_iff_eq, typeT]
  by_cases k1 : kind = 4
  · simp [k1]
  by_cases k2 : kind = 5
  · simp [k2]
  by_cases k3 : kind = 11
  · simp [k3]
  by_cases k4 : kind = 12
  · simp [k4]
  by_cases k5 : kind = 13
  · match ks, h (.inl k5) with
    | [t], _ => simp [k5, sTerm]
  by_cases k6 : kind = 14
  · match ks, h (.inr k6) with
    | [t], _ => simp [k6, sTerm]
  simp [k1, k2, k3, k4, k5, k6]
theorem S_wanted (k : Nat) (hk : 2 ≤ k) (kind : Int) (K : Int → Prop) (X : Prop) : (TT k).f_check_wanted kind K X = if wantT kind = 0 then X else K (wantT kind) := by
  obtain ⟨k, rfl⟩ : ∃ k', k = k' + 2 := ⟨k - 2, by omega⟩
  show F_check_wanted (TT (k + 1)) kind K X = _
  have e : ∀ n K, (TT (k + 1)).f_check_wanted_1 n K = K n := fun n K => rfl
  simp only [F_check_wanted, br_if, beq_iff_eq, e, wantT]
  by_cases k1 : kind = 4
  · simp [k1]
  by_cases k2 : kind = 5
  · simp [k2]
  by_cases k3 : kind = 12
  · simp [k3]
  by_cases k4 : kind = 8
  · simp [k4]
  by_cases k5 : kind = 9
  · simp [k5]
  by_cases k6 : kind = 10
  · simp [k6]
  simp [k1, k2, k3, k4, k5, k6]
theorem term_kids {q : QEnv} {m1 m2 : List (PV × PV)} {k d : Nat} (m : Bool) (hk : 20 ≤ k)
    (ih : ∀ e, fineE d e → ∀ a1 a2 K, (TT k).f_check_checker_term (sExpr m e) a1 a2 0 0 m1 m2 K = tell (askE q d e) (fun t => K (sTerm true t) true a1 a2 0 0 m1 m2) (fun c a => K (sTerm true zTerm) false a1 a2 c a m1 m2))
    (a2 a3 : Arr) (x1 : S_api_Expr) (n5 n6 n7 n8 n9 : Int) (s1 : ByteArray) (n10 n11 n12 n13 n14 : Int) (s2 : ByteArray)
    (K0 : Arr → Arr → Int → Int → List (PV × PV) → List (PV × PV) → Int → Int → Int → Int → Int → ByteArray → Prop)
    (K1 : Arr → Arr → Int → Int → List (PV × PV) → List (PV × PV) → S_api_Expr → Int → Int → Int → Int → Int → ByteArray → Int → Int → Int → Int → Int → ByteArray → List PV → Prop) :
    ∀ (l : List Expr) (pre : List PV) (r : List Term) (n : Nat), (∀ x ∈ l, fineE d x) → l.length < n → pre.length + l.length ≤ 8 → r.length = pre.length →
      L_check_checker_term_2 (TT k) n (lst m (pre ++ l.map (eExpr m))) ((pre ++ l.map (eExpr m)).length : Nat) (pre.length : Nat) a2 a3 0 0 m1 m2 x1 n5 n6 n7 n8 n9 s1 n10 n11 n12 n13 n14 s2 (r.map (eTerm true)) K0 K1 =
      tell (mapE (askE q d) l) (fun ks => K1 a2 a3 0 0 m1 m2 x1 n5 n6 n7 n8 n9 s1 n10 n11 n12 n13 n14 s2 ((r ++ ks).map (eTerm true))) (fun c a => K0 a2 a3 c a m1 m2 0 0 0 0 0 noB)
  | [], pre, r, n, _, hn, _, _ => by
    obtain ⟨n, rfl⟩ : ∃ n', n = n' + 1 := ⟨n - 1, by simp at hn; omega⟩
    simp [L_check_checker_term_2, B_check_checker_term_2, mapE, tell]
  | x :: l, pre, r, n, hf, hn, hl, hr => by
    simp only [List.length_cons] at hn hl
    obtain ⟨n, rfl⟩ : ∃ n', n = n' + 1 := ⟨n - 1, by omega⟩
    simp only [L_check_checker_term_2, B_check_checker_term_2]
    rw [W_succ (by omega)]
    simp only [List.map_cons, mid_lt, decide_true, br_t, lst_n, Int.natCast_nonneg, true_and, Int.toNat_natCast, lst_g, getD_mid, as_Expr, ih x (hf x (.head _)), mapE]
    cases hx : askE q d x with
    | error f => simp [tell]
    | ok t =>
      have e := term_kids m hk ih a2 a3 x1 n5 n6 n7 n8 n9 s1 n10 n11 n12 n13 n14 s2 K0 K1 l (pre ++ [eExpr m x]) (r ++ [t]) n (fun y hy => hf y (.tail _ hy)) (by omega) (by simp; omega) (by simp [hr])
      simp only [snoc_app, snoc_len] at e
      have hb : ((r.map (eTerm true)).length + 1) * 80 ≤ 140737488355328 := by simp; omega
      simp only [tell, Bool.not_true, br_f, hb, true_and, eTerm_fold]
      have e2 : r.map (eTerm true) ++ [eTerm true t] = (r ++ [t]).map (eTerm true) := by simp
      rw [e2, e]
      cases mapE (askE q d) l <;> simp [tell]
theorem term_types {m1 m2 : List (PV × PV)} {k : Nat} (m : Bool) (hk : 20 ≤ k) (w : Int) (hw : w ≠ 0) (kind : Int) (ks : List Term) (es : List Expr) (x1 : S_api_Expr) (hx : x1.Kids = lst m (es.map (eExpr m)))
    (a2 a3 : Arr) (n5 n6 n7 n8 n9 : Int) (s1 : ByteArray) (n10 n11 n12 n13 n14 : Int) (s2 : ByteArray)
    (K0 : Arr → Arr → Int → Int → List (PV × PV) → List (PV × PV) → Int → Int → Int → Int → Int → ByteArray → Prop)
    (K1 : Arr → Arr → Int → Int → List (PV × PV) → List (PV × PV) → S_api_Expr → Int → Int → Int → Int → Int → ByteArray → Int → Int → Int → Int → Int → ByteArray → List PV → Prop) :
    ∀ (ts : List Term) (le : List Expr) (pre : List Term) (pe : List Expr) (n : Nat), ks = pre ++ ts → es = pe ++ le → pre.length = pe.length → ts.length = le.length → ts.length < n → ks.length ≤ 8 →
      L_check_checker_term_4 (TT k) n (ks.length : Nat) (pre.length : Nat) a2 a3 0 0 m1 m2 x1 n5 n6 n7 n8 n9 s1 n10 n11 n12 n13 n14 s2 (ks.map (eTerm true)) w K0 K1 =
      match badKid w ts le with
      | some a => K0 a2 a3 11 a m1 m2 0 0 0 0 0 noB
      | none => K1 a2 a3 0 0 m1 m2 x1 n5 n6 n7 n8 n9 s1 n10 n11 n12 n13 n14 s2 (ks.map (eTerm true))
  | [], le, pre, pe, n, e1, e2, _, _, hn, _ => by
    obtain ⟨n, rfl⟩ : ∃ n', n = n' + 1 := ⟨n - 1, by simp at hn; omega⟩
    simp [L_check_checker_term_4, B_check_checker_term_4, badKid, e1]
  | t :: ts, [], pre, pe, n, _, _, _, hl, _, _ => by simp at hl
  | t :: ts, e :: le, pre, pe, n, e1, e2, hp, hl, hn, h8 => by
    simp only [List.length_cons] at hn hl
    obtain ⟨n, rfl⟩ : ∃ n', n = n' + 1 := ⟨n - 1, by omega⟩
    have hlen : ks.length = pre.length + (ts.length + 1) := by rw [e1]; simp
    have hlen' : es.length = pe.length + (le.length + 1) := by rw [e2]; simp
    have hi : pre.length < ks.length := by omega
    have hi' : pre.length < es.length := by omega
    have hk1 : ks[pre.length] = t := by simp [e1]
    have hk2 : es[pre.length] = e := by simp [e2, hp]
    have f := term_types (m1 := m1) (m2 := m2) m hk w hw kind ks es x1 hx a2 a3 n5 n6 n7 n8 n9 s1 n10 n11 n12 n13 n14 s2 K0 K1 ts le (pre ++ [t]) (pe ++ [e]) n (by rw [e1]; simp) (by rw [e2]; simp) (by simp [hp]) (by omega) (by omega) h8
    simp only [snoc_len] at f
    simp only [L_check_checker_term_4, B_check_checker_term_4]
    rw [W_succ (by omega)]
    have ew : ∀ y K, (TT k).f_check_wanted_1_1 y w K = K (mayT w ⟨0, 0, y, 0, 0, noB, []⟩) w := fun y K => by
      obtain ⟨k, rfl⟩ : ∃ k', k = k' + 1 := ⟨k - 1, by omega⟩
      show F_check_wanted_1_1 (TT k) y w K = K (decide (w = 0) || decide (y = w) || decide (y = 0)) w
      simp only [F_check_wanted_1_1, beq_dec]
      rw [decide_eq_false hw]
      cases decide (y = w) <;> rfl
    have em : mayT w ⟨0, 0, (sTerm true t).Type_, 0, 0, noB, []⟩ = mayT w t := rfl
    have ea : (sExpr m e).At = e.at_ := rfl
    have hi2 : ((pre.length : Nat) : Int) < ((ks.length : Nat) : Int) := by omega
    have hi3 : ((pre.length : Nat) : Int) < ((es.length : Nat) : Int) := by omega
    simp only [hi2, hi3, decide_true, br_t, Int.natCast_nonneg, true_and, Int.toNat_natCast, List.length_map, map_getD hi, hk1, as_Term, ew, em, hx, lst_n, lst_map_g hi', hk2, as_Expr, ea, S_fails k (by omega), br_not, badKid, f]
    cases mayT w t <;> rfl
theorem term_free {m1 m2 : List (PV × PV)} {k : Nat} (hk : 20 ≤ k) (ks : List Term) (x1 : S_api_Expr)
    (a2 a3 : Arr) (n5 n6 n7 n8 n9 : Int) (s1 : ByteArray) (n10 n11 n12 n13 n14 : Int) (s2 : ByteArray)
    (K1 : Arr → Arr → Int → Int → List (PV × PV) → List (PV × PV) → S_api_Expr → Int → Int → Int → Int → Int → ByteArray → Int → Int → Int → Int → Int → ByteArray → List PV → Prop) :
    ∀ (ts : List Term) (pre : List Term) (n : Nat), ks = pre ++ ts → ts.length < n → ks.length ≤ 8 →
      L_check_checker_term_4a (TT k) n (ks.length : Nat) (pre.length : Nat) a2 a3 0 0 m1 m2 x1 n5 n6 n7 n8 n9 s1 n10 n11 n12 n13 n14 s2 (ks.map (eTerm true)) K1 =
      K1 a2 a3 0 0 m1 m2 x1 n5 n6 n7 n8 n9 s1 n10 n11 n12 n13 n14 s2 (ks.map (eTerm true))
  | [], pre, n, e1, hn, _ => by
    obtain ⟨n, rfl⟩ : ∃ n', n = n' + 1 := ⟨n - 1, by simp at hn; omega⟩
    simp [L_check_checker_term_4a, B_check_checker_term_4a, e1]
  | t :: ts, pre, n, e1, hn, h8 => by
    simp only [List.length_cons] at hn
    obtain ⟨n, rfl⟩ : ∃ n', n = n' + 1 := ⟨n - 1, by omega⟩
    have hlen : ks.length = pre.length + (ts.length + 1) := by rw [e1]; simp
    have hi : pre.length < ks.length := by omega
    have hk1 : ks[pre.length] = t := by simp [e1]
    have f := term_free (m1 := m1) (m2 := m2) hk ks x1 a2 a3 n5 n6 n7 n8 n9 s1 n10 n11 n12 n13 n14 s2 K1 ts (pre ++ [t]) n (by rw [e1]; simp) (by omega) h8
    simp only [snoc_len] at f
    simp only [L_check_checker_term_4a, B_check_checker_term_4a]
    rw [W_succ (by omega)]
    have ew : ∀ y K, (TT k).f_check_wanted_2 y K = K := fun y K => by
      obtain ⟨k, rfl⟩ : ∃ k', k = k' + 1 := ⟨k - 1, by omega⟩
      rfl
    have hi2 : ((pre.length : Nat) : Int) < ((ks.length : Nat) : Int) := by omega
    simp only [hi2, decide_true, br_t, Int.natCast_nonneg, true_and, Int.toNat_natCast, List.length_map, map_getD hi, hk1, as_Term, ew, f]
theorem badKid_free : ∀ (ts : List Term) (le : List Expr), badKid 0 ts le = none
  | [], _ => by simp [badKid]
  | t :: ts, [] => by simp [badKid]
  | t :: ts, e :: le => by simp [badKid, mayT, badKid_free ts le]
theorem S_term {q : QEnv} {m1 m2 : List (PV × PV)} (hq : ChkOK q m1 m2) (m : Bool) : ∀ (d k : Nat) (e : Expr), fineE d e → d + 40 ≤ k → ∀ a1 a2 K,
    (TT k).f_check_checker_term (sExpr m e) a1 a2 0 0 m1 m2 K = tell (askE q d e) (fun t => K (sTerm true t) true a1 a2 0 0 m1 m2) (fun c a => K (sTerm true zTerm) false a1 a2 c a m1 m2)
  | 0, _, _, h, _, _, _, _ => h.elim
  | d + 1, k, e, h, hk, a1, a2, K => by
    obtain ⟨k, rfl⟩ : ∃ k', k = k' + 2 := ⟨k - 2, by omega⟩
    obtain ⟨h8, h6, h13, hkids⟩ := h
    show F_check_checker_term (TT (k + 1)) (sExpr m e) a1 a2 0 0 m1 m2 K = _
    have ih := fun e he => S_term hq m d (k + 1) e he (by omega)
    have f2 := fun x1 n5 n6 n7 n8 n9 s1 n10 n11 n12 n13 n14 s2 K0 K1 => term_kids m (by omega) ih a1 a2 x1 n5 n6 n7 n8 n9 s1 n10 n11 n12 n13 n14 s2 K0 K1 e.kids [] [] (k + 1) hkids (by omega) (by simpa using h8) rfl
    simp only [List.nil_append, List.length_nil, List.length_map, List.map_nil] at f2
    have z : ((0 : Nat) : Int) = 0 := rfl
    rw [z] at f2
    have hs : sExpr m e = ⟨e.kind, e.op, e.vkind, e.vint, e.vtext, e.table, e.name, lst m (e.kids.map (eExpr m)), e.at_⟩ := rfl
    rw [hs]
    dsimp only [F_check_checker_term]
    simp only [TT_fuel, beq_dec, lst_n, List.length_map, f2, S_fails (k + 1) (by omega), hq.param, hq.col, br_if, decide_eq_true_eq, askE]
    by_cases k1 : e.kind = 1
    · simp only [if_pos k1]
      rfl
    simp only [if_neg k1]
    by_cases k2 : e.kind = 2
    · simp only [if_pos k2]
      cases q.param e.name with
      | none => simp only [Option.map_none, Option.getD_none, as_place, Option.isSome_none]; rfl
      | some x => simp only [Option.map_some, Option.getD_some, as_place, Option.isSome_some]; rfl
    simp only [if_neg k2]
    by_cases k3 : e.kind = 3
    · simp only [if_pos k3, as_place]
      by_cases c0 : (q.col e.table e.name).2.2 = 0
      · simp only [if_pos c0]; rfl
      · simp only [if_neg c0]
        by_cases c1 : (q.col e.table e.name).2.2 > 1
        · simp only [if_pos c1]; rfl
        · simp only [if_neg c1]; rfl
    simp only [if_neg k3]
    cases hm : mapE (askE q d) e.kids with
    | error f => rfl
    | ok ks =>
      have hlen := mapE_len hm
      have g4 := fun (hw : wantT e.kind ≠ 0) x1 hx n5 n6 n7 n8 n9 s1 n10 n11 n12 n13 n14 s2 K0 K1 => term_types (m1 := m1) (m2 := m2) (k := k + 1) m (by omega) (wantT e.kind) hw e.kind ks e.kids x1 hx a1 a2 n5 n6 n7 n8 n9 s1 n10 n11 n12 n13 n14 s2 K0 K1 ks e.kids [] [] (k + 1) rfl rfl rfl hlen (by omega) (by omega)
      have g4a := fun x1 n5 n6 n7 n8 n9 s1 n10 n11 n12 n13 n14 s2 K1 => term_free (m1 := m1) (m2 := m2) (k := k + 1) (by omega) ks x1 a1 a2 n5 n6 n7 n8 n9 s1 n10 n11 n12 n13 n14 s2 K1 ks [] (k + 1) rfl (by omega) (by omega)
      simp only [List.length_nil] at g4 g4a
      rw [z] at g4a
      simp only [z] at g4
      simp only [tell, S_wanted (k + 1) (by omega), List.nil_append, List.length_map]
      have fin : (if e.kind = 6 then (TT (k + 1)).f_check_unlike (ks.map (eTerm true)) fun b r => if b = true then K ⟨0, 0, 0, 0, 0, noB, lst true []⟩ false a1 a2 11 e.at_ m1 m2 else (TT (k + 1)).f_check_typeOf e.kind r fun n r2 => K ⟨e.kind, e.op, n, 0, 0, noB, lst true r2⟩ true a1 a2 0 0 m1 m2
          else (TT (k + 1)).f_check_typeOf e.kind (ks.map (eTerm true)) fun n r2 => K ⟨e.kind, e.op, n, 0, 0, noB, lst true r2⟩ true a1 a2 0 0 m1 m2) =
          tell (if e.kind = 6 ∧ unlikeT ks = true then Except.error (11, e.at_) else .ok ⟨e.kind, e.op, typeT e.kind ks, 0, 0, noB, ks⟩) (fun t => K (sTerm true t) true a1 a2 0 0 m1 m2) (fun c a => K (sTerm true zTerm) false a1 a2 c a m1 m2) := by
        have ht := S_typeOf (k + 1) (by omega) e.kind ks (fun h => by rw [hlen]; exact h13 h)
        by_cases k6 : e.kind = 6
        · have hu := S_unlike (k + 1) (by omega) ks (by rw [hlen]; exact h6 k6)
          rw [if_pos k6, hu]
          simp only [ht, k6, true_and]
          cases unlikeT ks <;> rfl
        · rw [if_neg k6]
          have : ¬ (e.kind = 6 ∧ unlikeT ks = true) := fun h => k6 h.1
          rw [if_neg this, ht]
          rfl
      by_cases hw : wantT e.kind = 0
      · rw [if_pos hw, g4a]
        simp only [S_fails (k + 1) (by omega), hw, badKid_free]
        exact fin
      · rw [if_neg hw, g4 hw _ rfl]
        cases hb : badKid (wantT e.kind) ks e.kids with
        | some a => rfl
        | none => exact fin
end Go.RX
namespace Go.RX
def findL {α : Type} (q : α → Bool) : Nat → List α → Option Nat
  | _, [] => none
  | i, x :: r => bif q x then some i else findL q (i + 1) r
theorem findN_list {α : Type} {p : Nat → Bool} {q : α → Bool} : ∀ {l : List α} {i : Nat}, (∀ j (h : j < l.length), p (i + j) = q l[j]) → findN p i l.length = findL q i l
  | [], _, _ => rfl
  | x :: l, i, h => by
    have h0 := h 0 (Nat.succ_pos _)
    simp only [Nat.add_zero, List.getElem_cons_zero] at h0
    simp only [List.length_cons, findN, findL, h0]
    rw [findN_list (l := l) (i := i + 1) fun j hj => ?_]
    have := h (j + 1) (by simpa using hj)
    simp only [List.getElem_cons_succ] at this
    rw [← this]
    congr 1
    omega
theorem list_find0 {α : Type} {L : Nat → Int → Prop} {l : List α} {F : Int → Prop} {q : α → Bool} (h0 : ∀ n, L (n + 1) (l.length : Nat) = F (-1))
    (h1 : ∀ (n i : Nat) (hi : i < l.length), L (n + 1) i = br (q l[i]) (F i) (L n ((i + 1 : Nat) : Int))) {n : Nat} (hn : l.length < n) : L n 0 = F (idxOf (findL q 0 l)) := by
  rw [idx_find0 (L := L) (m := l.length) (F := F) (p := fun i => match l[i]? with | some x => q x | none => false) h0 (fun n i hi => by
    rw [h1 n i hi]
    simp only [List.getElem?_eq_getElem hi]) hn, findN_list (q := q) fun j hj => by simp [hj]]
theorem findL_some {α : Type} {q : α → Bool} : ∀ {l : List α} {i j : Nat}, findL q i l = some j → i ≤ j ∧ ∃ h : j - i < l.length, q l[j - i] = true
  | [], i, j, h => by cases h
  | x :: l, i, j, h => by
    simp only [findL] at h
    cases hx : q x
    · rw [hx] at h
      simp only [cond_false] at h
      obtain ⟨h1, h2, h3⟩ := findL_some h
      have e : j - i = (j - (i + 1)) + 1 := by omega
      refine ⟨by omega, by simp; omega, ?_⟩
      simp only [e, List.getElem_cons_succ]
      exact h3
    · rw [hx] at h
      simp only [cond_true] at h
      injection h with h
      subst h
      exact ⟨Nat.le_refl _, by simp, by simpa using hx⟩
def colIs (n : ByteArray) (c : S_api_Column) : Bool := decide (c.Name = n)
def tabIs (n : ByteArray) (c : Table) : Bool := decide (c.name = n)
def colOf (t : Table) (n : ByteArray) : Option Nat := findL (colIs n) 0 t.columns
def tabOf (c : Catalog) (n : ByteArray) : Option Nat := findL (tabIs n) 0 c.tables
theorem S_check_columnOf (k : Nat) (m : Bool) (t : Table) (n : ByteArray) (hl : t.columns.length ≤ 16) (hk : 20 ≤ k) (K : Int → Prop) : (TT k).f_check_columnOf (sTable m t) n K = K (idxOf (colOf t n)) := by
  obtain ⟨k, rfl⟩ : ∃ k', k = k' + 2 := ⟨k - 2, by omega⟩
  show F_check_columnOf (TT (k + 1)) (sTable m t) n K = _
  have hc : (sTable m t).Columns = lst m (t.columns.map eCol) := rfl
  simp only [F_check_columnOf, TT_fuel, hc, lst_n, List.length_map]
  refine list_find0 (L := fun q i => L_check_columnOf_0 (TT (k + 1)) q n (lst m (t.columns.map eCol)) ((t.columns.length : Nat) : Int) i (fun n11 => K n11) (K (-1))) (l := t.columns) (F := K) (fun q => ?_) (fun q i hi => ?_) (by omega)
  · simp [L_check_columnOf_0, B_check_columnOf_0]
  · simp only [L_check_columnOf_0, B_check_columnOf_0]
    rw [W_succ (by omega)]
    simp only [Int.toNat_natCast, lst_map_g hi, as_Column, lst_n, List.length_map, Int.ofNat_lt, hi, Int.natCast_nonneg, true_and, decide_true, br_t, strEq, colIs]
theorem S_check_tableOf (k : Nat) (m : Bool) (c : Catalog) (n : ByteArray) (hl : c.tables.length ≤ 8) (hk : 20 ≤ k) (K : Int → Prop) : (TT k).f_check_tableOf (sCatalog m c) n K = K (idxOf (tabOf c n)) := by
  obtain ⟨k, rfl⟩ : ∃ k', k = k' + 2 := ⟨k - 2, by omega⟩
  show F_check_tableOf (TT (k + 1)) (sCatalog m c) n K = _
  have hc : (sCatalog m c).Tables = lst m (c.tables.map (eTable m)) := rfl
  simp only [F_check_tableOf, TT_fuel, hc, lst_n, List.length_map]
  refine list_find0 (L := fun q i => L_check_tableOf_0 (TT (k + 1)) q n (lst m (c.tables.map (eTable m))) ((c.tables.length : Nat) : Int) i (fun n11 => K n11) (K (-1))) (l := c.tables) (F := K) (fun q => ?_) (fun q i hi => ?_) (by omega)
  · simp [L_check_tableOf_0, B_check_tableOf_0]
  · simp only [L_check_tableOf_0, B_check_tableOf_0]
    rw [W_succ (by omega)]
    have hn : ∀ t, (sTable m t).Name = t.name := fun _ => rfl
    simp only [Int.toNat_natCast, lst_map_g hi, as_Table, lst_n, List.length_map, Int.ofNat_lt, hi, Int.natCast_nonneg, true_and, decide_true, br_t, strEq, tabIs, hn]
def parF : Nat → List S_api_Param → ByteArray → Option (Int × Int)
  | _, [], _ => none
  | i, p :: r, n => if p.Name = n then some ((i : Nat), p.Type_) else parF (i + 1) r n
def rowMatch (tab name tn : ByteArray) (c : S_api_Column) : Bool := decide (c.Name = name) && (decide (tab = tn) || decide (tab = noB))
def cntR (tab name : ByteArray) : Nat → List (ByteArray × S_api_Column) → Int × Int × Int → Int × Int × Int
  | _, [], acc => acc
  | i, x :: r, acc => cntR tab name (i + 1) r (bif rowMatch tab name x.1 x.2 then ((i : Nat), x.2.Type_, acc.2.2 + 1) else acc)
def rowsOfT (t : Table) : List (ByteArray × S_api_Column) := t.columns.map fun c => (t.name, c)
def rowsT (ts : List Table) : List (ByteArray × S_api_Column) := ts.flatMap rowsOfT
def envOf (ps : List S_api_Param) (ts : List Table) : QEnv := ⟨parF 0 ps, fun t n => cntR t n 0 (rowsT ts) (0, 0, 0)⟩
theorem cntR_append (tab name : ByteArray) : ∀ (a b : List (ByteArray × S_api_Column)) (i : Nat) (acc : Int × Int × Int), cntR tab name i (a ++ b) acc = cntR tab name (i + a.length) b (cntR tab name i a acc)
  | [], b, i, acc => by simp [cntR]
  | x :: a, b, i, acc => by
    simp only [List.cons_append, cntR, List.length_cons]
    rw [cntR_append tab name a b]
    congr 1
    omega
theorem cntR_none (tab name tn : ByteArray) : ∀ (cs : List S_api_Column) (i : Nat) (acc : Int × Int × Int), (∀ c ∈ cs, rowMatch tab name tn c = false) → cntR tab name i (cs.map fun c => (tn, c)) acc = acc
  | [], _, _, _ => rfl
  | c :: cs, i, acc, h => by
    simp only [List.map_cons, cntR, h c (.head _), cond_false]
    exact cntR_none tab name tn cs (i + 1) acc fun c hc => h c (.tail _ hc)
theorem cntR_table (tab name tn : ByteArray) : ∀ (cs : List S_api_Column) (i j : Nat) (acc : Int × Int × Int), (cs.map (·.Name)).Nodup →
    cntR tab name i (cs.map fun c => (tn, c)) acc = match findL (colIs name) j cs with
      | some k => bif decide (tab = tn) || decide (tab = noB) then (((i + (k - j) : Nat) : Int), ((cs[k - j]?).map (·.Type_)).getD 0, acc.2.2 + 1) else acc
      | none => acc
  | [], _, _, _, _ => rfl
  | c :: cs, i, j, acc, h => by
    simp only [List.map_cons, List.nodup_cons] at h
    simp only [List.map_cons, cntR, findL, colIs]
    by_cases hc : c.Name = name
    · have hno : ∀ c' ∈ cs, rowMatch tab name tn c' = false := by
        intro c' hc'
        have : ¬ c'.Name = name := fun e => h.1 (by rw [hc, ← e]; exact List.mem_map_of_mem hc')
        simp [rowMatch, this]
      rw [cntR_none tab name tn cs _ _ hno]
      simp [rowMatch, hc]
    · have e1 : rowMatch tab name tn c = false := by simp [rowMatch, hc]
      rw [e1, decide_eq_false hc]
      simp only [cond_false]
      rw [cntR_table tab name tn cs (i + 1) (j + 1) acc h.2]
      cases hf : findL (colIs name) (j + 1) cs with
      | none => rfl
      | some k =>
        obtain ⟨h1, h2, -⟩ := findL_some hf
        have a1 : k - j = (k - (j + 1)) + 1 := by omega
        have a2 : i + 1 + (k - (j + 1)) = i + (k - j) := by omega
        simp only [a2]
        rw [a1, List.getElem?_cons_succ]
def Ends {α : Type} (f f' : Flt) (r : Except Flt α) (a : α) : Prop :=
  (f.1 ≠ 0 ∧ f' = f) ∨ (f.1 = 0 ∧ ((r = .ok a ∧ f' = f) ∨ ∃ g, r = .error g ∧ f' = g ∧ g.1 ≠ 0))
def TabsAt (c : Catalog) : List Int → List Table → Prop
  | [], [] => True
  | k :: ks, t :: ts => (∃ n : Nat, k = (n : Int) ∧ c.tables[n]? = some t) ∧ TabsAt c ks ts
  | _, _ => False
structure TabsOK (ts : List Table) : Prop where
  two : ts.length ≤ 2
  each : ∀ t ∈ ts, t.columns.length ≤ 16 ∧ (t.columns.map (·.Name)).Nodup
theorem TabsAt.len {c : Catalog} : ∀ {ks : List Int} {ts : List Table}, TabsAt c ks ts → ks.length = ts.length
  | [], [], _ => rfl
  | _ :: _, _ :: _, h => by simp [TabsAt.len h.2]
  | [], _ :: _, h => h.elim
  | _ :: _, [], h => h.elim
theorem TabsAt.get {c : Catalog} : ∀ {ks : List Int} {ts : List Table} (pk : List Int) (pt : List Table) {k : Int} {t : Table} {rk : List Int} {rt : List Table}, TabsAt c ks ts → ks = pk ++ k :: rk → ts = pt ++ t :: rt → pk.length = pt.length → ∃ n : Nat, k = (n : Int) ∧ c.tables[n]? = some t
  | _, _, [], [], k, t, rk, rt, h, e1, e2, _ => by
    subst e1
    subst e2
    exact h.1
  | _, _, a :: pk, b :: pt, k, t, rk, rt, h, e1, e2, hl => by
    subst e1
    subst e2
    exact TabsAt.get pk pt h.2 rfl rfl (by simpa using hl)
  | _, _, [], _ :: _, _, _, _, _, _, _, _, hl => by simp at hl
  | _, _, _ :: _, [], _, _, _, _, _, _, _, hl => by simp at hl
theorem range_lst (m : Bool) {α : Type} (l : List α) (f : α → PV) : (List.range (lst m (l.map f)).n).map (lst m (l.map f)).g = l.map f := by
  apply List.ext_getElem
  · simp
  · intro i h1 h2
    simp only [List.length_map, List.length_range, lst_n] at h1
    simp only [List.getElem_map, List.getElem_range]
    exact lst_map_g (by simpa using h1)
def colsT (ts : List Table) : List S_api_Column := ts.flatMap (·.columns)
theorem cntR_at (tab name : ByteArray) : ∀ (rows : List (ByteArray × S_api_Column)) (i : Nat) (acc : Int × Int × Int), cntR tab name i rows acc = acc ∨ ∃ (j : Nat) (h : j < rows.length), (cntR tab name i rows acc).1 = ((i + j : Nat) : Int) ∧ (cntR tab name i rows acc).2.1 = rows[j].2.Type_
  | [], _, _ => .inl rfl
  | x :: r, i, acc => by
    simp only [cntR]
    cases hm : rowMatch tab name x.1 x.2
    · simp only [cond_false]
      rcases cntR_at tab name r (i + 1) acc with h | ⟨j, h1, h2, h3⟩
      · exact .inl h
      · exact .inr ⟨j + 1, by simpa using h1, by rw [h2]; congr 1; omega, by rw [h3]; simp⟩
    · simp only [cond_true]
      rcases cntR_at tab name r (i + 1) (((i : Nat) : Int), x.2.Type_, acc.2.2 + 1) with h | ⟨j, h1, h2, h3⟩
      · exact .inr ⟨0, by simp, by rw [h]; simp, by rw [h]; simp⟩
      · exact .inr ⟨j + 1, by simpa using h1, by rw [h2]; congr 1; omega, by rw [h3]; simp⟩
theorem rowsT_cols (ts : List Table) : (rowsT ts).map (·.2) = colsT ts := by
  induction ts with
  | nil => rfl
  | cons t ts ih =>
    simp only [rowsT, colsT, List.flatMap_cons, List.map_append] at ih ⊢
    rw [ih]
    congr 1
    simp [rowsOfT, List.map_map, Function.comp_def]
theorem colsT_len {ts : List Table} (h : TabsOK ts) : (colsT ts).length ≤ 32 := by
  have key : ∀ l : List Table, (∀ t ∈ l, t.columns.length ≤ 16) → (colsT l).length ≤ 16 * l.length := by
    intro l
    induction l with
    | nil => intro _; simp [colsT]
    | cons t l ih =>
      intro h
      have h1 := h t (.head _)
      have h2 := ih fun x hx => h x (.tail _ hx)
      simp only [colsT, List.flatMap_cons, List.length_append, List.length_cons] at h2 ⊢
      omega
  have := key ts fun t ht => (h.each t ht).1
  have := h.two
  omega
end Go.RX
namespace Go.RX
def Good (f : Flt) : Prop := f = (0, 0) ∨ f.1 ≠ 0
theorem Ends.good {α : Type} {f f' : Flt} {r : Except Flt α} {a : α} (h : Ends f f' r a) (hg : Good f) : Good f' := by
  rcases h with ⟨h1, rfl⟩ | ⟨h1, ⟨h2, rfl⟩ | ⟨g, h2, rfl, h3⟩⟩
  · exact hg
  · exact hg
  · exact .inr h3
theorem Good.zero {f : Flt} (h : Good f) (h0 : f.1 = 0) : f = (0, 0) := h.elim id fun e => absurd h0 e
def kidFlt (w : Int) (ts : List Term) (le : List Expr) (f : Flt) : Flt := if f.1 = 0 then (match badKid w ts le with | some a => (11, a) | none => f) else f
end Go.RX
