/- The law in plain Lean, with no program in sight. No condition. -/
import Derived.Test.YtacceochippkaaaGreatDoorPb
set_option linter.all false
namespace Go.RX
abbrev Flt := Int × Int
structure xc where
 param : ByteArray → Option (Int × Int)
 col : ByteArray → ByteArray → Int × Int × Int
def qpu : Term := ⟨0, 0, 0, 0, 0, noB, []⟩
def m0 (kind : Int) : Int := if kind = 4 ∨ kind = 5 ∨ kind = 12 then 1 else if kind = 8 ∨ kind = 9 ∨ kind = 10 then 2 else 0
def wc (kind : Int) (ks : List Term) : Int := if kind = 4 ∨ kind = 5 ∨ kind = 11 ∨ kind = 12 then 1 else if kind = 13 ∨ kind = 14 then (match ks with | t :: _ => t.cr | [] => 0) else 2
def qh7 (w : Int) (t : Term) : Bool := decide (w = 0) || decide (t.cr = w) || decide (t.cr = 0)
def ly (w : Int) : List Term → List Expr → Option Int
 | t :: ts, e :: es => bif qh7 w t then ly w ts es else some e.at_
 | _, _ => none
def jq : List Term → Bool
 | a :: b :: _ => !decide (a.cr = b.cr) && !decide (a.cr = 0) && !decide (b.cr = 0)
 | _ => false
def jm {α β : Type} (f : α → Except Flt β) : List α → Except Flt (List β)
 | [] => .ok []
 | x :: r => match f x with
  | .error e => .error e
  | .ok y => match jm f r with
   | .error e => .error e
   | .ok ys => .ok (y :: ys)
def qj (q : xc) : Nat → Expr → Except Flt Term
 | 0, _ => .error (82, 0)
 | d + 1, e =>
  if e.kind = 1 then .ok ⟨e.kind, 0, e.fa, e.fa, e.mi, e.fq, []⟩
  else if e.kind = 2 then match q.param e.name with
   | some (i, t) => .ok ⟨e.kind, i, t, 0, 0, noB, []⟩
   | none => .error (82, e.at_)
  else if e.kind = 3 then
   if (q.col e.table e.name).2.2 = 0 then .error (82, e.at_)
   else if (q.col e.table e.name).2.2 > 1 then .error (81, e.at_)
   else .ok ⟨e.kind, (q.col e.table e.name).1, (q.col e.table e.name).2.1, 0, 0, noB, []⟩
  else match jm (qj q d) e.kids with
   | .error f => .error f
   | .ok ks => match ly (m0 e.kind) ks e.kids with
    | some a => .error (11, a)
    | none => if e.kind = 6 ∧ jq ks = true then .error (11, e.at_) else .ok ⟨e.kind, e.op, wc e.kind ks, 0, 0, noB, ks⟩
def m9 : Nat → Expr → Prop
 | 0, _ => False
 | d + 1, e => e.kids.length ≤ 8 ∧ (e.kind = 6 → e.kids.length = 2) ∧ (e.kind = 13 ∨ e.kind = 14 → e.kids.length = 1) ∧ ∀ x ∈ e.kids, m9 d x
theorem fg : ∀ {d : Nat} {e : Expr}, cz d e = true → m9 d e
 | 0, _, h => by simp [cz] at h
 | d + 1, e, h => by
  simp only [cz, Bool.and_eq_true, List.all_eq_true] at h
  obtain ⟨⟨⟨h1, h2⟩, h3⟩, h4⟩ := h
  refine ⟨qd0 h1, fun hk => ?_, fun hk => ?_, fun x hx => fg (h4 x hx)⟩
  ·simpa [l9, hk] using h1
  ·rcases hk with hk | hk <;> simp [l9, hk] at h1
theorem qcm {α β : Type} {f : α → Except Flt β} : ∀ {l : List α} {r : List β}, jm f l = .ok r → r.length = l.length
 | [], r, h => by
  injection h with h
  rw [← h]
  rfl
 | x :: l, r, h => by
  simp only [jm] at h
  split at h
  ·cases h
  ·split at h
   ·cases h
   ·rename_i ys hys
    injection h with h
    rw [← h]
    simp [qcm hys]
structure vx (q : xc) (m1 m2 : List (PV × PV)) : Prop where
 param : ∀ n, look (.str n) m1 = (q.param n).map fun x => .agg [.int .i64 x.1, .int .i64 x.2, .int .i64 0]
 col : ∀ t n, (look (.agg [.str t, .str n]) m2).getD (.agg [.int .i64 0, .int .i64 0, .int .i64 0]) = .agg [.int .i64 (q.col t n).1, .int .i64 (q.col t n).2.1, .int .i64 (q.col t n).2.2]
theorem qb7 (a b c : Int) (K : S_x3 → Prop) : as_x3 (.agg [.int .i64 a, .int .i64 b, .int .i64 c]) K = K ⟨a, b, c⟩ := rfl
theorem m7 (m : Bool) (t : Term) : PV.agg (p_xf (dd m t)) = bb m t := (qcf m t).symm
theorem kq (k : Nat) (hk : 1 ≤ k) (c a : Int) (a1 a2 : Arr) (m1 m2 : List (PV × PV)) (K : Arr → Arr → Int → Int → List (PV × PV) → List (PV × PV) → Prop) : (TT k).f_zf c a a1 a2 0 0 m1 m2 K = K a1 a2 c a m1 m2 := by
 obtain ⟨k, rfl⟩ : ∃ k', k = k' + 1 := ⟨k - 1, by omega⟩
 rfl
def tell {α : Type} (r : Except Flt α) (qxi : α → Prop) (bad : Int → Int → Prop) : Prop := match r with
 | .ok x => qxi x
 | .error f => bad f.1 f.2
theorem qnl (k : Nat) (hk : 1 ≤ k) (ks : List Term) (h2 : ks.length = 2) (K : Bool → List PV → Prop) : (TT k).f_zy (ks.map (bb true)) K = K (jq ks) (ks.map (bb true)) := by
 obtain ⟨k, rfl⟩ : ∃ k', k = k' + 1 := ⟨k - 1, by omega⟩
 show F_zy (TT k) _ K = _
 match ks, h2 with
 | [a, b], _ =>
  have h0 : ∀ x : S_xf, True := fun _ => trivial
  have g0 : ([a, b].map (bb true)).getD 0 .nilp = bb true a := rfl
  have g1 : ([a, b].map (bb true)).getD 1 .nilp = bb true b := rfl
  have t1 : ∀ t : Term, (dd true t).Type_ = t.cr := fun _ => rfl
  have l1 : (0 : Int) < ((([a, b].map (bb true)).length : Nat) : Int) := by simp
  have l2 : (1 : Int) < ((([a, b].map (bb true)).length : Nat) : Int) := by simp
  have l3 : (0 : Int) ≤ 1 := by decide
  simp only [F_zy, g0, g1, gm, t1, l1, l2, l3, Int.le_refl, true_and, ee, jq]
  cases decide (a.cr = b.cr) <;> cases decide (a.cr = 0) <;> rfl
theorem qnk (k : Nat) (hk : 1 ≤ k) (kind : Int) (ks : List Term) (h : kind = 13 ∨ kind = 14 → ks.length = 1) (K : Int → List PV → Prop) : (TT k).f_zx kind (ks.map (bb true)) K = K (wc kind ks) (ks.map (bb true)) := by
 obtain ⟨k, rfl⟩ : ∃ k', k = k' + 1 := ⟨k - 1, by omega⟩
 show F_zx (TT k) kind _ K = _
 simp only [F_zx, qdj, beq_iff_eq, wc]
 by_cases k1 : kind = 4
 ·simp [k1]
 by_cases k2 : kind = 5
 ·simp [k2]
 by_cases k3 : kind = 11
 ·simp [k3]
 by_cases k4 : kind = 12
 ·simp [k4]
 by_cases k5 : kind = 13
 ·match ks, h (.inl k5) with
  | [t], _ => simp [k5, dd]
 by_cases k6 : kind = 14
 ·match ks, h (.inr k6) with
  | [t], _ => simp [k6, dd]
 simp [k1, k2, k3, k4, k5, k6]
theorem qnm (k : Nat) (hk : 2 ≤ k) (kind : Int) (K : Int → Prop) (X : Prop) : (TT k).f_zz kind K X = if m0 kind = 0 then X else K (m0 kind) := by
 obtain ⟨k, rfl⟩ : ∃ k', k = k' + 2 := ⟨k - 2, by omega⟩
 show F_zz (TT (k + 1)) kind K X = _
 have e : ∀ n K, (TT (k + 1)).f_z10 n K = K n := fun n K => rfl
 simp only [F_zz, qdj, beq_iff_eq, e, m0]
 by_cases k1 : kind = 4
 ·simp [k1]
 by_cases k2 : kind = 5
 ·simp [k2]
 by_cases k3 : kind = 12
 ·simp [k3]
 by_cases k4 : kind = 8
 ·simp [k4]
 by_cases k5 : kind = 9
 ·simp [k5]
 by_cases k6 : kind = 10
 ·simp [k6]
 simp [k1, k2, k3, k4, k5, k6]
theorem qta (k : Nat) (hk : 1 ≤ k) (kind : Int) (K : Int → Prop) : (TT k).f_z28 kind K = K (m0 kind) := by
 obtain ⟨k, rfl⟩ : ∃ k', k = k' + 1 := ⟨k - 1, by omega⟩
 show F_z28 (TT k) kind K = _
 simp only [F_z28, qdj, beq_iff_eq, m0]
 by_cases k1 : kind = 4
 ·simp [k1]
 by_cases k2 : kind = 5
 ·simp [k2]
 by_cases k3 : kind = 12
 ·simp [k3]
 by_cases k4 : kind = 8
 ·simp [k4]
 by_cases k5 : kind = 9
 ·simp [k5]
 by_cases k6 : kind = 10
 ·simp [k6]
 simp [k1, k2, k3, k4, k5, k6]
theorem qev {q : xc} {m1 m2 : List (PV × PV)} {k d : Nat} (m : Bool) (hk : 20 ≤ k)
  (ih : ∀ e, m9 d e → ∀ a1 a2 K, (TT k).f_zp (eb m e) a1 a2 0 0 m1 m2 K = tell (qj q d e) (fun t => K (dd true t) true a1 a2 0 0 m1 m2) (fun c a => K (dd true qpu) false a1 a2 c a m1 m2))
  (a2 a3 : Arr) (x1 : S_xb) (n5 n6 n7 n8 n9 : Int) (s1 : ByteArray) (n10 n11 n12 n13 n14 : Int) (s2 : ByteArray)
  (K0 : Arr → Arr → Int → Int → List (PV × PV) → List (PV × PV) → Int → Int → Int → Int → Int → ByteArray → Prop)
  (K1 : Arr → Arr → Int → Int → List (PV × PV) → List (PV × PV) → S_xb → Int → Int → Int → Int → Int → ByteArray → Int → Int → Int → Int → Int → ByteArray → List PV → Prop) :
  ∀ (l : List Expr) (pre : List PV) (r : List Term) (n : Nat), (∀ x ∈ l, m9 d x) → l.length < n → pre.length + l.length ≤ 8 → r.length = pre.length →
   L_zp_2 (TT k) n (lst m (pre ++ l.map (b7 m))) ((pre ++ l.map (b7 m)).length : Nat) (pre.length : Nat) a2 a3 0 0 m1 m2 x1 n5 n6 n7 n8 n9 s1 n10 n11 n12 n13 n14 s2 (r.map (bb true)) K0 K1 =
   tell (jm (qj q d) l) (fun ks => K1 a2 a3 0 0 m1 m2 x1 n5 n6 n7 n8 n9 s1 n10 n11 n12 n13 n14 s2 ((r ++ ks).map (bb true))) (fun c a => K0 a2 a3 c a m1 m2 0 0 0 0 0 noB)
 | [], pre, r, n, _, hn, _, _ => by
  obtain ⟨n, rfl⟩ : ∃ n', n = n' + 1 := ⟨n - 1, by simp at hn; omega⟩
  simp [L_zp_2, B_zp_2, jm, tell]
 | x :: l, pre, r, n, hf, hn, hl, hr => by
  simp only [List.length_cons] at hn hl
  obtain ⟨n, rfl⟩ : ∃ n', n = n' + 1 := ⟨n - 1, by omega⟩
  simp only [L_zp_2, B_zp_2]
  rw [bw (by omega)]
  simp only [List.map_cons, ke, decide_true, db, bo, Int.natCast_nonneg, true_and, Int.toNat_natCast, ow, fl, i6, ih x (hf x (.head _)), jm]
  cases hx : qj q d x with
  | error f => simp [tell]
  | ok t =>
   have e := qev m hk ih a2 a3 x1 n5 n6 n7 n8 n9 s1 n10 n11 n12 n13 n14 s2 K0 K1 l (pre ++ [b7 m x]) (r ++ [t]) n (fun y hy => hf y (.tail _ hy)) (by omega) (by simp; omega) (by simp [hr])
   simp only [fi, bz] at e
   have hb : ((r.map (bb true)).length + 1) * 80 ≤ 140737488355328 := by simp; omega
   simp only [tell, Bool.not_true, ef, hb, true_and, m7]
   have e2 : r.map (bb true) ++ [bb true t] = (r ++ [t]).map (bb true) := by simp
   rw [e2, e]
   cases jm (qj q d) l <;> simp [tell]
theorem qbt {m1 m2 : List (PV × PV)} {k : Nat} (m : Bool) (hk : 20 ≤ k) (w : Int) (hw : w ≠ 0) (kind : Int) (ks : List Term) (es : List Expr) (x1 : S_xb) (hx : x1.Kids = lst m (es.map (b7 m)))
  (a2 a3 : Arr) (n5 n6 n7 n8 n9 : Int) (s1 : ByteArray) (n10 n11 n12 n13 n14 : Int) (s2 : ByteArray)
  (K0 : Arr → Arr → Int → Int → List (PV × PV) → List (PV × PV) → Int → Int → Int → Int → Int → ByteArray → Prop)
  (K1 : Arr → Arr → Int → Int → List (PV × PV) → List (PV × PV) → S_xb → Int → Int → Int → Int → Int → ByteArray → Int → Int → Int → Int → Int → ByteArray → List PV → Prop) :
  ∀ (ts : List Term) (le : List Expr) (pre : List Term) (pe : List Expr) (n : Nat), ks = pre ++ ts → es = pe ++ le → pre.length = pe.length → ts.length = le.length → ts.length < n → ks.length ≤ 8 →
   L_zp_4 (TT k) n (ks.length : Nat) (pre.length : Nat) a2 a3 0 0 m1 m2 x1 n5 n6 n7 n8 n9 s1 n10 n11 n12 n13 n14 s2 (ks.map (bb true)) w K0 K1 =
   match ly w ts le with
   | some a => K0 a2 a3 11 a m1 m2 0 0 0 0 0 noB
   | none => K1 a2 a3 0 0 m1 m2 x1 n5 n6 n7 n8 n9 s1 n10 n11 n12 n13 n14 s2 (ks.map (bb true))
 | [], le, pre, pe, n, e1, e2, _, _, hn, _ => by
  obtain ⟨n, rfl⟩ : ∃ n', n = n' + 1 := ⟨n - 1, by simp at hn; omega⟩
  simp [L_zp_4, B_zp_4, ly, e1]
 | t :: ts, [], pre, pe, n, _, _, _, hl, _, _ => by simp at hl
 | t :: ts, e :: le, pre, pe, n, e1, e2, hp, hl, hn, h8 => by
  simp only [List.length_cons] at hn hl
  obtain ⟨n, rfl⟩ : ∃ n', n = n' + 1 := ⟨n - 1, by omega⟩
  have hlen : ks.length = pre.length + (ts.length + 1) := by rw [e1]; simp
  have hlen' : es.length = pe.length + (le.length + 1) := by rw [e2]; simp
  have hi : pre.length < ks.length := by omega
  have hi' : pre.length < es.length := by omega
  have hk1 : ks[pre.length] = t := by simp [e1]
  have hk2 : es[pre.length] = e := by simp [e2, hp]
  have f := qbt (m1 := m1) (m2 := m2) m hk w hw kind ks es x1 hx a2 a3 n5 n6 n7 n8 n9 s1 n10 n11 n12 n13 n14 s2 K0 K1 ts le (pre ++ [t]) (pe ++ [e]) n (by rw [e1]; simp) (by rw [e2]; simp) (by simp [hp]) (by omega) (by omega) h8
  simp only [bz] at f
  simp only [L_zp_4, B_zp_4]
  rw [bw (by omega)]
  have ew : ∀ y K, (TT k).f_z11 y w K = K (qh7 w ⟨0, 0, y, 0, 0, noB, []⟩) w := fun y K => by
   obtain ⟨k, rfl⟩ : ∃ k', k = k' + 1 := ⟨k - 1, by omega⟩
   show F_z11 (TT k) y w K = K (decide (w = 0) || decide (y = w) || decide (y = 0)) w
   simp only [F_z11, cq]
   rw [decide_eq_false hw]
   cases decide (y = w) <;> rfl
  have em : qh7 w ⟨0, 0, (dd true t).Type_, 0, 0, noB, []⟩ = qh7 w t := rfl
  have ea : (eb m e).At = e.at_ := rfl
  have hi2 : ((pre.length : Nat) : Int) < ((ks.length : Nat) : Int) := by omega
  have hi3 : ((pre.length : Nat) : Int) < ((es.length : Nat) : Int) := by omega
  simp only [hi2, hi3, decide_true, db, Int.natCast_nonneg, true_and, Int.toNat_natCast, List.length_map, td hi, hk1, gm, ew, em, hx, bo, au hi', hk2, i6, ea, kq k (by omega), gb, ly, f]
  cases qh7 w t <;> rfl
theorem qeu {m1 m2 : List (PV × PV)} {k : Nat} (hk : 20 ≤ k) (ks : List Term) (x1 : S_xb)
  (a2 a3 : Arr) (n5 n6 n7 n8 n9 : Int) (s1 : ByteArray) (n10 n11 n12 n13 n14 : Int) (s2 : ByteArray)
  (K1 : Arr → Arr → Int → Int → List (PV × PV) → List (PV × PV) → S_xb → Int → Int → Int → Int → Int → ByteArray → Int → Int → Int → Int → Int → ByteArray → List PV → Prop) :
  ∀ (ts : List Term) (pre : List Term) (n : Nat), ks = pre ++ ts → ts.length < n → ks.length ≤ 8 →
   b9 (TT k) n (ks.length : Nat) (pre.length : Nat) a2 a3 0 0 m1 m2 x1 n5 n6 n7 n8 n9 s1 n10 n11 n12 n13 n14 s2 (ks.map (bb true)) K1 =
   K1 a2 a3 0 0 m1 m2 x1 n5 n6 n7 n8 n9 s1 n10 n11 n12 n13 n14 s2 (ks.map (bb true))
 | [], pre, n, e1, hn, _ => by
  obtain ⟨n, rfl⟩ : ∃ n', n = n' + 1 := ⟨n - 1, by simp at hn; omega⟩
  simp [b9, eh, e1]
 | t :: ts, pre, n, e1, hn, h8 => by
  simp only [List.length_cons] at hn
  obtain ⟨n, rfl⟩ : ∃ n', n = n' + 1 := ⟨n - 1, by omega⟩
  have hlen : ks.length = pre.length + (ts.length + 1) := by rw [e1]; simp
  have hi : pre.length < ks.length := by omega
  have hk1 : ks[pre.length] = t := by simp [e1]
  have f := qeu (m1 := m1) (m2 := m2) hk ks x1 a2 a3 n5 n6 n7 n8 n9 s1 n10 n11 n12 n13 n14 s2 K1 ts (pre ++ [t]) n (by rw [e1]; simp) (by omega) h8
  simp only [bz] at f
  simp only [b9, eh]
  rw [bw (by omega)]
  have ew : ∀ y K, (TT k).f_z12 y K = K := fun y K => by
   obtain ⟨k, rfl⟩ : ∃ k', k = k' + 1 := ⟨k - 1, by omega⟩
   rfl
  have hi2 : ((pre.length : Nat) : Int) < ((ks.length : Nat) : Int) := by omega
  simp only [hi2, decide_true, db, Int.natCast_nonneg, true_and, Int.toNat_natCast, List.length_map, td hi, hk1, gm, ew, f]
theorem xk : ∀ (ts : List Term) (le : List Expr), ly 0 ts le = none
 | [], _ => by simp [ly]
 | t :: ts, [] => by simp [ly]
 | t :: ts, e :: le => by simp [ly, qh7, xk ts le]
theorem qg1 {q : xc} {m1 m2 : List (PV × PV)} (hq : vx q m1 m2) (m : Bool) : ∀ (d k : Nat) (e : Expr), m9 d e → d + 40 ≤ k → ∀ a1 a2 K,
  (TT k).f_zp (eb m e) a1 a2 0 0 m1 m2 K = tell (qj q d e) (fun t => K (dd true t) true a1 a2 0 0 m1 m2) (fun c a => K (dd true qpu) false a1 a2 c a m1 m2)
 | 0, _, _, h, _, _, _, _ => h.elim
 | d + 1, k, e, h, hk, a1, a2, K => by
  obtain ⟨k, rfl⟩ : ∃ k', k = k' + 2 := ⟨k - 2, by omega⟩
  obtain ⟨h8, h6, h13, hkids⟩ := h
  show F_zp (TT (k + 1)) (eb m e) a1 a2 0 0 m1 m2 K = _
  have ih := fun e he => qg1 hq m d (k + 1) e he (by omega)
  have f2 := fun x1 n5 n6 n7 n8 n9 s1 n10 n11 n12 n13 n14 s2 K0 K1 => qev m (by omega) ih a1 a2 x1 n5 n6 n7 n8 n9 s1 n10 n11 n12 n13 n14 s2 K0 K1 e.kids [] [] (k + 1) hkids (by omega) (by simpa using h8) rfl
  simp only [List.nil_append, List.length_nil, List.length_map, List.map_nil] at f2
  have z : ((0 : Nat) : Int) = 0 := rfl
  rw [z] at f2
  have hs : eb m e = ⟨e.kind, e.op, e.fa, e.mi, e.fq, e.table, e.name, lst m (e.kids.map (b7 m)), e.at_⟩ := rfl
  rw [hs]
  dsimp only [F_zp]
  simp only [ca, cq, bo, List.length_map, f2, kq (k + 1) (by omega), hq.param, hq.col, qdj, decide_eq_true_eq, qj]
  by_cases k1 : e.kind = 1
  ·simp only [if_pos k1]
   rfl
  simp only [if_neg k1]
  by_cases k2 : e.kind = 2
  ·simp only [if_pos k2]
   cases q.param e.name with
   | none => simp only [Option.map_none, Option.getD_none, qb7, Option.isSome_none]; rfl
   | some x => simp only [Option.map_some, Option.getD_some, qb7, Option.isSome_some]; rfl
  simp only [if_neg k2]
  by_cases k3 : e.kind = 3
  ·simp only [if_pos k3, qb7]
   by_cases c0 : (q.col e.table e.name).2.2 = 0
   ·simp only [if_pos c0]; rfl
   ·simp only [if_neg c0]
    by_cases c1 : (q.col e.table e.name).2.2 > 1
    ·simp only [if_pos c1]; rfl
    ·simp only [if_neg c1]; rfl
  simp only [if_neg k3]
  cases hm : jm (qj q d) e.kids with
  | error f => rfl
  | ok ks =>
   have hlen := qcm hm
   have g4 := fun (hw : m0 e.kind ≠ 0) x1 hx n5 n6 n7 n8 n9 s1 n10 n11 n12 n13 n14 s2 K0 K1 => qbt (m1 := m1) (m2 := m2) (k := k + 1) m (by omega) (m0 e.kind) hw e.kind ks e.kids x1 hx a1 a2 n5 n6 n7 n8 n9 s1 n10 n11 n12 n13 n14 s2 K0 K1 ks e.kids [] [] (k + 1) rfl rfl rfl hlen (by omega) (by omega)
   have g4a := fun x1 n5 n6 n7 n8 n9 s1 n10 n11 n12 n13 n14 s2 K1 => qeu (m1 := m1) (m2 := m2) (k := k + 1) (by omega) ks x1 a1 a2 n5 n6 n7 n8 n9 s1 n10 n11 n12 n13 n14 s2 K1 ks [] (k + 1) rfl (by omega) (by omega)
   simp only [List.length_nil] at g4 g4a
   rw [z] at g4a
   simp only [z] at g4
   simp only [tell, qnm (k + 1) (by omega), List.nil_append, List.length_map]
   have fin : (if e.kind = 6 then (TT (k + 1)).f_zy (ks.map (bb true)) fun b r => if b = true then K ⟨0, 0, 0, 0, 0, noB, lst true []⟩ false a1 a2 11 e.at_ m1 m2 else (TT (k + 1)).f_zx e.kind r fun n r2 => K ⟨e.kind, e.op, n, 0, 0, noB, lst true r2⟩ true a1 a2 0 0 m1 m2
     else (TT (k + 1)).f_zx e.kind (ks.map (bb true)) fun n r2 => K ⟨e.kind, e.op, n, 0, 0, noB, lst true r2⟩ true a1 a2 0 0 m1 m2) =
     tell (if e.kind = 6 ∧ jq ks = true then Except.error (11, e.at_) else .ok ⟨e.kind, e.op, wc e.kind ks, 0, 0, noB, ks⟩) (fun t => K (dd true t) true a1 a2 0 0 m1 m2) (fun c a => K (dd true qpu) false a1 a2 c a m1 m2) := by
    have ht := qnk (k + 1) (by omega) e.kind ks (fun h => by rw [hlen]; exact h13 h)
    by_cases k6 : e.kind = 6
    ·have hu := qnl (k + 1) (by omega) ks (by rw [hlen]; exact h6 k6)
     rw [if_pos k6, hu]
     simp only [ht, k6, true_and]
     cases jq ks <;> rfl
    ·rw [if_neg k6]
     have : ¬ (e.kind = 6 ∧ jq ks = true) := fun h => k6 h.1
     rw [if_neg this, ht]
     rfl
   by_cases hw : m0 e.kind = 0
   ·rw [if_pos hw, g4a]
    simp only [kq (k + 1) (by omega), hw, xk]
    exact fin
   ·rw [if_neg hw, g4 hw _ rfl]
    cases hb : ly (m0 e.kind) ks e.kids with
    | some a => rfl
    | none => exact fin
end Go.RX
namespace Go.RX
def yb {α : Type} (q : α → Bool) : Nat → List α → Option Nat
 | _, [] => none
 | i, x :: r => bif q x then some i else yb q (i + 1) r
theorem qay {α : Type} {p : Nat → Bool} {q : α → Bool} : ∀ {l : List α} {i : Nat}, (∀ j (h : j < l.length), p (i + j) = q l[j]) → ur p i l.length = yb q i l
 | [], _, _ => rfl
 | x :: l, i, h => by
  have h0 := h 0 (Nat.succ_pos _)
  simp only [Nat.add_zero, List.getElem_cons_zero] at h0
  simp only [List.length_cons, ur, yb, h0]
  rw [qay (l := l) (i := i + 1) fun j hj => ?_]
  have := h (j + 1) (by simpa using hj)
  simp only [List.getElem_cons_succ] at this
  rw [← this]
  congr 1
  omega
theorem qa4 {α : Type} {L : Nat → Int → Prop} {l : List α} {F : Int → Prop} {q : α → Bool} (h0 : ∀ n, L (n + 1) (l.length : Nat) = F (-1))
  (h1 : ∀ (n i : Nat) (hi : i < l.length), L (n + 1) i = br (q l[i]) (F i) (L n ((i + 1 : Nat) : Int))) {n : Nat} (hn : l.length < n) : L n 0 = F (idxOf (yb q 0 l)) := by
 rw [jz (L := L) (m := l.length) (F := F) (p := fun i => match l[i]? with | some x => q x | none => false) h0 (fun n i hi => by
  rw [h1 n i hi]
  simp only [List.getElem?_eq_getElem hi]) hn, qay (q := q) fun j hj => by simp [hj]]
theorem uq {α : Type} {q : α → Bool} : ∀ {l : List α} {i j : Nat}, yb q i l = some j → i ≤ j ∧ ∃ h : j - i < l.length, q l[j - i] = true
 | [], i, j, h => by cases h
 | x :: l, i, j, h => by
  simp only [yb] at h
  cases hx : q x
  ·rw [hx] at h
   simp only [cond_false] at h
   obtain ⟨h1, h2, h3⟩ := uq h
   have e : j - i = (j - (i + 1)) + 1 := by omega
   refine ⟨by omega, by simp; omega, ?_⟩
   simp only [e, List.getElem_cons_succ]
   exact h3
  ·rw [hx] at h
   simp only [cond_true] at h
   injection h with h
   subst h
   exact ⟨Nat.le_refl _, by simp, by simpa using hx⟩
def qts (n : ByteArray) (c : S_x4) : Bool := decide (c.Name = n)
def qzw (n : ByteArray) (c : Table) : Bool := decide (c.name = n)
def qk4 (t : Table) (n : ByteArray) : Option Nat := yb (qts n) 0 t.columns
def qc2 (c : bg) (n : ByteArray) : Option Nat := yb (qzw n) 0 c.tables
theorem S_zs (k : Nat) (m : Bool) (t : Table) (n : ByteArray) (hl : t.columns.length ≤ 16) (hk : 20 ≤ k) (K : Int → Prop) : (TT k).f_zs (bm m t) n K = K (idxOf (qk4 t n)) := by
 obtain ⟨k, rfl⟩ : ∃ k', k = k' + 2 := ⟨k - 2, by omega⟩
 show F_zs (TT (k + 1)) (bm m t) n K = _
 have hc : (bm m t).Columns = lst m (t.columns.map gj) := rfl
 simp only [F_zs, ca, hc, bo, List.length_map]
 refine qa4 (L := fun q i => L_zs_0 (TT (k + 1)) q n (lst m (t.columns.map gj)) ((t.columns.length : Nat) : Int) i (fun n11 => K n11) (K (-1))) (l := t.columns) (F := K) (fun q => ?_) (fun q i hi => ?_) (by omega)
 ·simp [L_zs_0, B_zs_0]
 ·simp only [L_zs_0, B_zs_0]
  rw [bw (by omega)]
  simp only [Int.toNat_natCast, au hi, fc, bo, List.length_map, Int.ofNat_lt, hi, Int.natCast_nonneg, true_and, decide_true, db, zy, qts]
theorem S_zw (k : Nat) (m : Bool) (c : bg) (n : ByteArray) (hl : c.tables.length ≤ 8) (hk : 20 ≤ k) (K : Int → Prop) : (TT k).f_zw (bh m c) n K = K (idxOf (qc2 c n)) := by
 obtain ⟨k, rfl⟩ : ∃ k', k = k' + 2 := ⟨k - 2, by omega⟩
 show F_zw (TT (k + 1)) (bh m c) n K = _
 have hc : (bh m c).Tables = lst m (c.tables.map (bp m)) := rfl
 simp only [F_zw, ca, hc, bo, List.length_map]
 refine qa4 (L := fun q i => L_zw_0 (TT (k + 1)) q n (lst m (c.tables.map (bp m))) ((c.tables.length : Nat) : Int) i (fun n11 => K n11) (K (-1))) (l := c.tables) (F := K) (fun q => ?_) (fun q i hi => ?_) (by omega)
 ·simp [L_zw_0, B_zw_0]
 ·simp only [L_zw_0, B_zw_0]
  rw [bw (by omega)]
  have hn : ∀ t, (bm m t).Name = t.name := fun _ => rfl
  simp only [Int.toNat_natCast, au hi, i7, bo, List.length_map, Int.ofNat_lt, hi, Int.natCast_nonneg, true_and, decide_true, db, zy, qzw, hn]
def yy : Nat → List S_x7 → ByteArray → Option (Int × Int)
 | _, [], _ => none
 | i, p :: r, n => if p.Name = n then some ((i : Nat), p.Type_) else yy (i + 1) r n
def ic (tab name tn : ByteArray) (c : S_x4) : Bool := decide (c.Name = name) && (decide (tab = tn) || decide (tab = noB))
def sg (tab name : ByteArray) : Nat → List (ByteArray × S_x4) → Int × Int × Int → Int × Int × Int
 | _, [], acc => acc
 | i, x :: r, acc => sg tab name (i + 1) r (bif ic tab name x.1 x.2 then ((i : Nat), x.2.Type_, acc.2.2 + 1) else acc)
def j8 (t : Table) : List (ByteArray × S_x4) := t.columns.map fun c => (t.name, c)
def fh (ts : List Table) : List (ByteArray × S_x4) := ts.flatMap j8
def dp (ps : List S_x7) (ts : List Table) : xc := ⟨yy 0 ps, fun t n => sg t n 0 (fh ts) (0, 0, 0)⟩
theorem xr (tab name : ByteArray) : ∀ (a b : List (ByteArray × S_x4)) (i : Nat) (acc : Int × Int × Int), sg tab name i (a ++ b) acc = sg tab name (i + a.length) b (sg tab name i a acc)
 | [], b, i, acc => by simp [sg]
 | x :: a, b, i, acc => by
  simp only [List.cons_append, sg, List.length_cons]
  rw [xr tab name a b]
  congr 1
  omega
def Ends {α : Type} (f f' : Flt) (r : Except Flt α) (a : α) : Prop :=
 (f.1 ≠ 0 ∧ f' = f) ∨ (f.1 = 0 ∧ ((r = .ok a ∧ f' = f) ∨ ∃ g, r = .error g ∧ f' = g ∧ g.1 ≠ 0))
def kc (c : bg) : List Int → List Table → Prop
 | [], [] => True
 | k :: ks, t :: ts => (∃ n : Nat, k = (n : Int) ∧ c.tables[n]? = some t) ∧ kc c ks ts
 | _, _ => False
structure ve (ts : List Table) : Prop where
 two : ts.length ≤ 2
 each : ∀ t ∈ ts, t.columns.length ≤ 16 ∧ (t.columns.map (·.Name)).Nodup
theorem kc.len {c : bg} : ∀ {ks : List Int} {ts : List Table}, kc c ks ts → ks.length = ts.length
 | [], [], _ => rfl
 | _ :: _, _ :: _, h => by simp [kc.len h.2]
 | [], _ :: _, h => h.elim
 | _ :: _, [], h => h.elim
theorem kc.get {c : bg} : ∀ {ks : List Int} {ts : List Table} (pk : List Int) (pt : List Table) {k : Int} {t : Table} {rk : List Int} {rt : List Table}, kc c ks ts → ks = pk ++ k :: rk → ts = pt ++ t :: rt → pk.length = pt.length → ∃ n : Nat, k = (n : Int) ∧ c.tables[n]? = some t
 | _, _, [], [], k, t, rk, rt, h, e1, e2, _ => by
  subst e1
  subst e2
  exact h.1
 | _, _, a :: pk, b :: pt, k, t, rk, rt, h, e1, e2, hl => by
  subst e1
  subst e2
  exact kc.get pk pt h.2 rfl rfl (by simpa using hl)
 | _, _, [], _ :: _, _, _, _, _, _, _, _, hl => by simp at hl
 | _, _, _ :: _, [], _, _, _, _, _, _, _, hl => by simp at hl
theorem qeg (m : Bool) {α : Type} (l : List α) (f : α → PV) : (List.range (lst m (l.map f)).n).map (lst m (l.map f)).g = l.map f := by
 apply List.ext_getElem
 ·simp
 ·intro i h1 h2
  simp only [List.length_map, List.length_range, bo] at h1
  simp only [List.getElem_map, List.getElem_range]
  exact au (by simpa using h1)
def cm (ts : List Table) : List S_x4 := ts.flatMap (·.columns)
theorem qk6 {ts : List Table} (h : ve ts) : (cm ts).length ≤ 32 := by
 have key : ∀ l : List Table, (∀ t ∈ l, t.columns.length ≤ 16) → (cm l).length ≤ 16 * l.length := by
  intro l
  induction l with
  | nil => intro _; simp [cm]
  | cons t l ih =>
   intro h
   have h1 := h t (.head _)
   have h2 := ih fun x hx => h x (.tail _ hx)
   simp only [cm, List.flatMap_cons, List.length_append, List.length_cons] at h2 ⊢
   omega
 have := key ts fun t ht => (h.each t ht).1
 have := h.two
 omega
end Go.RX
namespace Go.RX
def Good (f : Flt) : Prop := f = (0, 0) ∨ f.1 ≠ 0
theorem Ends.qxi {α : Type} {f f' : Flt} {r : Except Flt α} {a : α} (h : Ends f f' r a) (hg : Good f) : Good f' := by
 rcases h with ⟨h1, rfl⟩ | ⟨h1, ⟨h2, rfl⟩ | ⟨g, h2, rfl, h3⟩⟩
 ·exact hg
 ·exact hg
 ·exact .inr h3
theorem Good.zero {f : Flt} (h : Good f) (h0 : f.1 = 0) : f = (0, 0) := h.elim id fun e => absurd h0 e
end Go.RX
