/- The law in plain Lean: what a typed statement says, and what it is written back as. No condition. -/
import Derived.Test.YtacceochippkaaaGreatDoorTb
set_option linter.all false
namespace Go.RX
theorem qj2 (k : Nat) (hk : 2 ≤ k) (vk vi : Int) (vt : ByteArray) (K : Bool → Prop) : (TT k).f_z1s ⟨vk, vi, vt⟩ K = K (qga vk vi vt) := by
 obtain ⟨k, rfl⟩ : ∃ k', k = k' + 1 := ⟨k - 1, by omega⟩
 show F_z1s (TT k) _ K = _
 simp only [F_z1s, S_z1h k (by omega), ee, ug, qga]
 have : decide (vi ≥ 0) = decide (0 ≤ vi) := rfl
 rw [this]
 cases qc5 vk vi vt <;> cases decide (vk = 1) <;> rfl
theorem ri (k : Nat) (hk : 1 ≤ k) (n : Int) (K : Bool → Prop) : (TT k).f_z1x n K = K (isAgg n) := by
 obtain ⟨k, rfl⟩ : ∃ k', k = k' + 1 := ⟨k - 1, by omega⟩
 show F_z1x (TT k) n K = _
 simp only [F_z1x, ug, isAgg]
 have : decide (n ≥ 11) = decide (11 ≤ n) := rfl
 rw [this]
 cases decide (11 ≤ n) <;> rfl
theorem qj6 (k : Nat) (hk : 1 ≤ k) (op n : Int) (K : Bool → Prop) : (TT k).f_z22 op n K = K (mq op n) := by
 obtain ⟨k, rfl⟩ : ∃ k', k = k' + 1 := ⟨k - 1, by omega⟩
 show F_z22 (TT k) op n K = _
 have h7 : (bif decide (n = 0) then true else decide (n = 1)) = (decide (0 ≤ n) && decide (n ≤ 1)) := by
  rw [Bool.eq_iff_iff]
  by_cases h : n = 0
  ·subst h; simp
  ·simp [h]; omega
 have g1 : decide (n ≥ 1) = decide (1 ≤ n) := rfl
 simp only [F_z22, cq, ug, h7, g1, mq]
 cases decide (op = 5) <;> cases decide (op = 6) <;> cases decide (op = 7) <;> cases decide (1 ≤ n) <;> rfl
theorem qj5 (k : Nat) (hk : 1 ≤ k) (op : Int) (n : Nat) (K : Bool → Prop) : (TT k).f_z21 op (n : Int) K = K (gv op n) := by
 obtain ⟨k, rfl⟩ : ∃ k', k = k' + 1 := ⟨k - 1, by omega⟩
 show F_z21 (TT k) op n K = _
 have e1 : decide ((n : Int) = 1) = decide (n = 1) := decide_eq_decide.2 (by omega)
 have e2 : decide ((n : Int) = 2) = decide (n = 2) := decide_eq_decide.2 (by omega)
 have e0 : decide ((n : Int) = 0) = decide (n = 0) := decide_eq_decide.2 (by omega)
 have e3 : decide ((n : Int) ≥ 2) = decide (2 ≤ n) := decide_eq_decide.2 (by omega)
 have e4 : decide ((n : Int) ≤ 8) = decide (n ≤ 8) := decide_eq_decide.2 (by omega)
 simp only [F_z21, cq, ug, e0, e1, e2, e3, e4, gv]
 cases decide (op = 4) <;> cases decide (op = 7) <;> cases decide (op = 8) <;> cases decide (op = 12) <;> cases decide (op = 13) <;> cases decide (op = 14) <;> cases decide (op = 5) <;> cases decide (op = 6) <;> cases decide (op = 9) <;> cases decide (op = 10) <;> cases decide (op = 11) <;> cases decide (2 ≤ n) <;> rfl
theorem qnd (k : Nat) (hk : 1 ≤ k) (kind : Int) (m : Bool) (ks : List Term) (h : kind = 13 ∨ kind = 14 → ks.length = 1) (K : Int → Prop) : (TT k).f_z27 kind (lst m (ks.map (bb m))) K = K (wc kind ks) := by
 obtain ⟨k, rfl⟩ : ∃ k', k = k' + 1 := ⟨k - 1, by omega⟩
 show F_z27 (TT k) kind _ K = _
 simp only [F_z27, qdj, beq_iff_eq, wc]
 by_cases k1 : kind = 4
 ·simp [k1]
 by_cases k2 : kind = 5
 ·simp [k2]
 by_cases k3 : kind = 11
 ·simp [k3]
 by_cases k4 : kind = 12
 ·simp [k4]
 have g0 : ∀ (t : Term) (K : S_xf → Prop), as_xf ((lst m ([t].map (bb m))).g 0) K = K (dd m t) := fun t K => gm m t K
 have n0 : ∀ t : Term, ((0 : Int) < (((lst m ([t].map (bb m))).n : Nat) : Int)) = True := fun t => by simp [lst]
 by_cases k5 : kind = 13
 ·match ks, h (.inl k5) with
  | [t], _ => simp only [g0, n0, k5]; simp [dd]
 by_cases k6 : kind = 14
 ·match ks, h (.inr k6) with
  | [t], _ => simp only [g0, n0, k6]; simp [dd]
 simp [k1, k2, k3, k4, k5, k6]
theorem qfd (k : Nat) (hk : 3 ≤ k) (mt mc mp : Bool) (t : Term) (cs : List S_x4) (ps : List S_x7) (K : Bool → Prop) : (TT k).f_z23 (dd mt t) (lst mc (cs.map gj)) (lst mp (ps.map b8)) K = K (qbc ps cs t) := by
 obtain ⟨k, rfl⟩ : ∃ k', k = k' + 1 := ⟨k - 1, by omega⟩
 show F_z23 (TT k) _ _ _ K = _
 obtain ⟨op, num, ty, vk, vi, vt, kids⟩ := t
 have s1 : (dd mt ⟨op, num, ty, vk, vi, vt, kids⟩).Op = op := rfl
 have s2 : (dd mt ⟨op, num, ty, vk, vi, vt, kids⟩).Num = num := rfl
 have s3 : (dd mt ⟨op, num, ty, vk, vi, vt, kids⟩).Type_ = ty := rfl
 have s4 : (dd mt ⟨op, num, ty, vk, vi, vt, kids⟩).Value_Kind = vk := rfl
 have s5 : (dd mt ⟨op, num, ty, vk, vi, vt, kids⟩).Value_Int = vi := rfl
 have s6 : (dd mt ⟨op, num, ty, vk, vi, vt, kids⟩).Value_Text = vt := rfl
 simp only [F_z23, s1, s2, s3, s4, s5, s6, qj2 k (by omega), cq, px, qd8, bo, List.length_map]
 rw [qc]
 have ge : decide (num ≥ 0) = decide (0 ≤ num) := rfl
 rw [ge]
 by_cases h1 : op = 1
 ·rw [decide_eq_true h1]
  cases qga vk vi vt <;> cases decide (num = 0) <;> rfl
 rw [decide_eq_false h1]
 by_cases h2 : op = 2
 ·rw [decide_eq_true h2]
  by_cases hn : 0 ≤ num
  ·by_cases hl : num < (ps.length : Int)
   ·obtain ⟨j, rfl⟩ : ∃ j : Nat, num = j := ⟨num.toNat, by omega⟩
    have hj : j < ps.length := by omega
    have e : ps.getD j ⟨noB, 0⟩ = ps[j] := by simp [List.getD, hj]
    simp only [decide_eq_true hn, decide_eq_true hl, inR, Int.toNat_natCast, au hj, lv, e, hn, hl, true_and]
    cases j6 vk vi vt <;> rfl
   ·simp only [decide_eq_true hn, decide_eq_false hl, inR]; rfl
  ·simp only [decide_eq_false hn, inR]; rfl
 rw [decide_eq_false h2]
 by_cases h3 : op = 3
 ·rw [decide_eq_true h3]
  by_cases hn : 0 ≤ num
  ·by_cases hl : num < (cs.length : Int)
   ·obtain ⟨j, rfl⟩ : ∃ j : Nat, num = j := ⟨num.toNat, by omega⟩
    have hj : j < cs.length := by omega
    have e : cs.getD j ⟨noB, 0, false⟩ = cs[j] := by simp [List.getD, hj]
    simp only [decide_eq_true hn, decide_eq_true hl, inR, Int.toNat_natCast, au hj, fc, e, hn, hl, true_and]
    cases j6 vk vi vt <;> rfl
   ·simp only [decide_eq_true hn, decide_eq_false hl, inR]; rfl
  ·simp only [decide_eq_false hn, inR]; rfl
 rw [decide_eq_false h3]
 rfl
theorem qs8 (k : Nat) (hk : 1 ≤ k) (m : Bool) (t : Term) (h : gv t.op t.kids.length = true) (K : Bool → Prop) (Y : Prop) (hY : Y = (TT k).f_z27 t.op (lst m (t.kids.map (bb m))) fun n => K (t.cr == n)) :
  br (t.op == (6 : Int))
   (0 ≤ (0 : Int) ∧ (0 : Int) < (((lst m (t.kids.map (bb m))).n : Nat) : Int) ∧
    as_xf ((lst m (t.kids.map (bb m))).g 0) fun x51 =>
    0 ≤ (1 : Int) ∧ (1 : Int) < (((lst m (t.kids.map (bb m))).n : Nat) : Int) ∧
    as_xf ((lst m (t.kids.map (bb m))).g 1) fun x52 =>
    br (x51.Type_ != x52.Type_)
    (0 ≤ (0 : Int) ∧ (0 : Int) < (((lst m (t.kids.map (bb m))).n : Nat) : Int) ∧
     as_xf ((lst m (t.kids.map (bb m))).g 0) fun x53 =>
     br (x53.Type_ != (0 : Int))
     (0 ≤ (1 : Int) ∧ (1 : Int) < (((lst m (t.kids.map (bb m))).n : Nat) : Int) ∧
      as_xf ((lst m (t.kids.map (bb m))).g 1) fun x54 =>
      br (x54.Type_ != (0 : Int)) (K false) Y) Y) Y) Y
  = K (!(decide (t.op = 6) && jq t.kids) && decide (t.cr = wc t.op t.kids)) := by
 have hty : Y = K (decide (t.cr = wc t.op t.kids)) := by
  rw [hY, qnd k hk t.op m t.kids (fun hc => by rcases hc with hc | hc <;> simpa [gv, hc] using h)]
  rw [cq]
 by_cases h6 : t.op = 6
 ·have hl : t.kids.length = 2 := by simpa [gv, h6] using h
  rw [cq, decide_eq_true h6, db]
  match hks : t.kids, hl with
  | [a, b], _ =>
   rw [hks] at hty
   have g0 : ∀ K : S_xf → Prop, as_xf ((lst m ([a, b].map (bb m))).g 0) K = K (dd m a) := fun K => gm m a K
   have g1 : ∀ K : S_xf → Prop, as_xf ((lst m ([a, b].map (bb m))).g 1) K = K (dd m b) := fun K => gm m b K
   have l1 : ((0 : Int) < (((lst m ([a, b].map (bb m))).n : Nat) : Int)) = True := by simp [lst]
   have l2 : ((1 : Int) < (((lst m ([a, b].map (bb m))).n : Nat) : Int)) = True := by simp [lst]
   have t1 : ∀ t : Term, (dd m t).Type_ = t.cr := fun _ => rfl
   have l3 : ((0 : Int) ≤ 1) = True := by simp
   simp only [g0, g1, l1, l2, l3, t1, Int.le_refl, true_and, ee, jq, hty, Bool.true_and]
   cases decide (a.cr = b.cr) <;> cases decide (a.cr = 0) <;> cases decide (b.cr = 0) <;> rfl
 ·rw [cq, decide_eq_false h6, ef, hty]
  simp
theorem rl (mt mc mp : Bool) (cs : List S_x4) (ps : List S_x7) : ∀ (d k : Nat) (t : Term) (top : Bool) (n : Int), n = 17 - (d : Int) → d ≤ 17 → d + 20 ≤ k → ∀ K : Bool → Prop,
  (TT k).f_z1w (dd mt t) (lst mc (cs.map gj)) (lst mp (ps.map b8)) n top K = K (rtE ps cs d top t) := by
 intro d
 induction d with
 | zero =>
  intro k t top n hn _ hk K
  obtain ⟨k, rfl⟩ : ∃ k', k = k' + 1 := ⟨k - 1, by omega⟩
  show F_z1w (TT k) _ _ _ n top K = _
  have : decide (n > 16) = true := decide_eq_true (by omega)
  simp only [F_z1w, this, db, rtE]
 | succ d ih =>
  intro k t top n hn hd hk K
  obtain ⟨k, rfl⟩ : ∃ k', k = k' + 2 := ⟨k - 2, by omega⟩
  show F_z1w (TT (k + 1)) _ _ _ n top K = _
  have h16 : decide (n > 16) = false := decide_eq_false (by omega)
  have s1 : (dd mt t).Op = t.op := rfl
  have s2 : (dd mt t).Num = t.num := rfl
  have s3 : (dd mt t).Type_ = t.cr := rfl
  have s4 : (dd mt t).Value_Kind = t.fa := rfl
  have s5 : (dd mt t).Value_Int = t.mi := rfl
  have s6 : (dd mt t).Value_Text = t.fq := rfl
  have s7 : (dd mt t).Kids = lst mt (t.kids.map (bb mt)) := rfl
  have s8 : (((lst mt (t.kids.map (bb mt))).n : Nat) : Int) = ((t.kids.length : Nat) : Int) := by simp [lst]
  simp only [F_z1w, h16, ef, s1, s2, s4, s5, s6, qfd (k + 1) (by omega), ri (k + 1) (by omega), qj6 (k + 1) (by omega), qta (k + 1) (by omega), qo5]
  rw [rtE]
  by_cases h3 : t.op ≤ 3
  ·rw [decide_eq_true h3, db, cond_true, s7, s8, cq, ug]
   have : decide (((t.kids.length : Nat) : Int) = 0) = decide (t.kids.length = 0) := decide_eq_decide.2 (by omega)
   rw [this]
   cases qbc ps cs t <;> rfl
  rw [decide_eq_false h3, ef, cond_false, s7, s8, qj5 (k + 1) (by omega)]
  have gt14 : decide (t.op > 14) = !decide (t.op ≤ 14) := by
   rw [Bool.eq_iff_iff]; simp
  rw [gt14]
  cases hkf : gv t.op t.kids.length with
  | false => cases isAgg t.op <;> cases top <;> cases mq t.op t.num <;> rfl
  | true =>
   have hlen := u0 hkf
   have loop : ∀ (X : Prop) (Y : S_xf → Prop), L_z1w_0 (TT (k + 1)) (TT (k + 1)).fuel (lst mc (cs.map gj)) (lst mp (ps.map b8)) n (m0 t.op) 0 (dd mt t) X Y = br (t.kids.all fun x => rtE ps cs d false x && qh7 (m0 t.op) x) (Y (dd mt t)) X := by
    intro X Y
    refine j0 (L := fun q i => L_z1w_0 (TT (k + 1)) q (lst mc (cs.map gj)) (lst mp (ps.map b8)) n (m0 t.op) i (dd mt t) X Y) (l := t.kids) (fun q => ?_) (fun q i hi => ?_) (by rw [ca]; omega)
    ·show B_z1w_0 _ _ _ _ _ _ _ _ _ _ = _
     simp only [B_z1w_0, s7, bo, List.length_map, Int.lt_irrefl, decide_false, ef]
    ·show B_z1w_0 _ _ _ _ _ _ _ _ _ _ = _
     have t1 : ∀ t : Term, (dd mt t).Type_ = t.cr := fun _ => rfl
     have hw : W (n + 1) = 17 - (d : Int) := by rw [qkk (by omega) (by omega)]; omega
     simp only [B_z1w_0, s7, bo, List.length_map, Int.ofNat_lt, hi, Int.natCast_nonneg, true_and, decide_true, db, Int.toNat_natCast, au hi, gm, hw, ih (k + 1) _ false _ rfl (by omega) (by omega), t1, ee, bw (show i < 4611686018427387904 by omega), qh7]
     cases rtE ps cs d false t.kids[i] <;> cases decide (m0 t.op = 0) <;> cases decide (t.kids[i].cr = m0 t.op) <;> cases decide (t.kids[i].cr = 0) <;> rfl
   simp only [loop, s1, s3, s7]
   rw [qs8 (k + 1) (by omega) mt t hkf K _ rfl]
   cases isAgg t.op <;> cases top <;> cases mq t.op t.num <;> cases j6 t.fa t.mi t.fq <;> cases decide (t.op ≤ 14) <;> cases (t.kids.all fun x => rtE ps cs d false x && qh7 (m0 t.op) x) <;> rfl
end Go.RX
namespace Go.RX
theorem qfc (k : Nat) (n : Int) (a : Arr) (js : List Int) (hk : js.length + 5 ≤ k) (hl : js.length ≤ 1048576) (hn : a.n = js.length) (hg : ∀ (i : Nat) (h : i < js.length), a.g i = eI js[i]) (K : Bool → Prop) : (TT k).f_z1y a n K = K (i5 n js) := by
 obtain ⟨k, rfl⟩ : ∃ k', k = k' + 2 := ⟨k - 2, by omega⟩
 show F_z1y (TT (k + 1)) a n K = _
 have key := jz (L := fun q i => L_z1y_0 (TT (k + 1)) q a n i (K true) (K false)) (m := js.length) (F := fun i => K (decide (i ≥ 0))) (p := fun i => decide (js.getD i 0 = n)) (fun q => by simp [L_z1y_0, B_z1y_0, hn]) (fun q i hi => by
  simp only [L_z1y_0, B_z1y_0]
  rw [bw (by omega)]
  have e : js.getD i 0 = js[i] := by simp [List.getD, hi]
  have hi2 : ((i : Nat) : Int) < ((js.length : Nat) : Int) := by omega
  have d : decide (((i : Nat) : Int) ≥ 0) = true := decide_eq_true (by omega)
  simp only [hn, hi2, decide_true, db, Int.natCast_nonneg, true_and, Int.toNat_natCast, hg i hi, ig, e, cq, d]) (n := k + 1) (by omega)
 simp only [F_z1y, ca]
 rw [key, gq, gp, gk (q := fun y => !decide (y = n)) fun j hj => by simp [List.getD, hj]]
 congr 1
 rw [Bool.eq_iff_iff, jv]
 simp
theorem vd (k : Nat) (mt mc mp : Bool) (cs : List S_x4) (ps : List S_x7) (l : List Term) (hk : l.length + 60 ≤ k) (hl : l.length ≤ 1048576) (K : Bool → Prop) :
  (TT k).f_z26 (lst mt (l.map (bb mt))) (lst mc (cs.map gj)) (lst mp (ps.map b8)) K = K (ir ps cs l && decide (l.length ≤ 1)) := by
 obtain ⟨k, rfl⟩ : ∃ k', k = k' + 2 := ⟨k - 2, by omega⟩
 show F_z26 (TT (k + 1)) _ _ _ K = _
 simp only [F_z26]
 rw [j0 (L := fun q i => L_z26_0 (TT (k + 1)) q (lst mt (l.map (bb mt))) (lst mc (cs.map gj)) (lst mp (ps.map b8)) i (K false) (fun a25 => K (decide (((a25.n : Nat) : Int) ≤ (1 : Int))))) (l := l) (E := K (decide (l.length ≤ 1))) (X := K false) (q := fun x => rtE ps cs 16 false x && qe0 2 x) (fun q => ?_) (fun q i hi => ?_) (by rw [ca]; omega)]
 ·rw [ir]
  cases l.all fun x => rtE ps cs 16 false x && qe0 2 x <;> rfl
 ·show B_z26_0 _ _ _ _ _ _ _ _ = _
  have : decide (((l.length : Nat) : Int) ≤ 1) = decide (l.length ≤ 1) := decide_eq_decide.2 (by omega)
  simp only [B_z26_0, bo, List.length_map, Int.lt_irrefl, decide_false, ef, this]
 ·show B_z26_0 _ _ _ _ _ _ _ _ = _
  have t1 : ∀ t : Term, (dd mt t).Type_ = t.cr := fun _ => rfl
  simp only [B_z26_0, bo, List.length_map, Int.ofNat_lt, hi, Int.natCast_nonneg, true_and, decide_true, db, Int.toNat_natCast, au hi, gm, rl mt mc mp cs ps 16 (k + 1) _ false 1 (by decide) (by decide) (by omega), t1, ee, bw (show i < 4611686018427387904 by omega), qe0]
  cases rtE ps cs 16 false l[i] <;> cases decide (l[i].cr = 2) <;> cases decide (l[i].cr = 0) <;> rfl
theorem qpw (k : Nat) (mt mc mp : Bool) (cs : List S_x4) (ps : List S_x7) (l : List Term) (ws : List Int) (hw : l.length = ws.length) (hk : l.length + 60 ≤ k) (hl : l.length ≤ 1048576) (K : Bool → List PV → Prop) :
  (TT k).f_z1z (lst mt (l.map (bb mt))) (lst mc (cs.map gj)) (lst mp (ps.map b8)) (ws.map eI) K = K (kh ps cs l ws) (ws.map eI) := by
 obtain ⟨k, rfl⟩ : ∃ k', k = k' + 2 := ⟨k - 2, by omega⟩
 show F_z1z (TT (k + 1)) _ _ _ _ K = _
 simp only [F_z1z]
 have loop : ∀ (r p : List Term) (wr wp : List Int) (n : Nat), l = p ++ r → ws = wp ++ wr → p.length = wp.length → r.length < n →
   L_z1z_0 (TT (k + 1)) n (lst mt (l.map (bb mt))) (lst mc (cs.map gj)) (lst mp (ps.map b8)) ((p.length : Nat) : Int) (ws.map eI) (fun r31 => K false r31) (fun r32 => K true r32) = K (kh ps cs r wr) (ws.map eI) := by
  intro r
  induction r with
  | nil =>
   intro p wr wp n h1 h2 h3 hn
   obtain ⟨n, rfl⟩ : ∃ n', n = n' + 1 := ⟨n - 1, by simp at hn; omega⟩
   have : wr = [] := List.length_eq_zero_iff.1 (by rw [h1, h2] at hw; simp at hw; omega)
   subst this
   have e : ((p.length : Nat) : Int) = ((l.length : Nat) : Int) := by rw [h1]; simp
   simp only [L_z1z_0, B_z1z_0, bo, List.length_map, e, Int.lt_irrefl, decide_false, ef, kh]
  | cons x r ih =>
   intro p wr wp n h1 h2 h3 hn
   obtain ⟨n, rfl⟩ : ∃ n', n = n' + 1 := ⟨n - 1, by simp at hn; omega⟩
   match wr, h2 with
   | [], h2 => rw [h1, h2] at hw; simp at hw; omega
   | w :: wr, h2 =>
    have hp : p.length < l.length := by rw [h1]; simp
    have hq : p.length < ws.length := by omega
    have ex : l[p.length] = x := by simp [h1]
    have ew : ws[p.length] = w := by simp [h2, h3]
    have := ih (p ++ [x]) wr (wp ++ [w]) n (by rw [h1]; simp) (by rw [h2]; simp) (by simp [h3]) (by simp at hn; omega)
    rw [bz] at this
    have t1 : ∀ t : Term, (dd mt t).Type_ = t.cr := fun _ => rfl
    simp only [L_z1z_0, B_z1z_0, bo, List.length_map, Int.ofNat_lt, hp, hq, Int.natCast_nonneg, true_and, decide_true, db, Int.toNat_natCast, au hp, gm, rl mt mc mp cs ps 16 (k + 1) _ false 1 (by decide) (by decide) (by omega), t1, ee, td hq, ig, ex, ew, bw (show p.length < 4611686018427387904 by omega), this, kh, qe0]
    cases rtE ps cs 16 false x <;> cases decide (x.cr = w) <;> cases decide (x.cr = 0) <;> rfl
 have := loop l [] ws [] (k + 1) rfl rfl rfl (by omega)
 rw [ca]
 exact this
theorem qnc (k : Nat) (mt mc : Bool) (cs : List S_x4) (l : List Term) (hk : l.length + 5 ≤ k) (hl : l.length ≤ 1048576) (K : Bool → Prop) : (TT k).f_z20 (lst mt (l.map (bb mt))) (lst mc (cs.map gj)) K = K (ni l cs.length) := by
 obtain ⟨k, rfl⟩ : ∃ k', k = k' + 2 := ⟨k - 2, by omega⟩
 show F_z20 (TT (k + 1)) _ _ K = _
 simp only [F_z20, ca]
 have loop : ∀ (r p : List Term) (n : Nat), l = p ++ r → r.length < n → ∀ (X : Prop) (Y : Arr → Arr → Prop), L_z20_0 (TT (k + 1)) n (lst mt (l.map (bb mt))) (lst mc (cs.map gj)) ((p.length : Nat) : Int) X Y = br (qep p.length r) (Y (lst mt (l.map (bb mt))) (lst mc (cs.map gj))) X := by
  intro r
  induction r with
  | nil =>
   intro p n h1 hn X Y
   obtain ⟨n, rfl⟩ : ∃ n', n = n' + 1 := ⟨n - 1, by simp at hn; omega⟩
   have e : ((p.length : Nat) : Int) = ((l.length : Nat) : Int) := by rw [h1]; simp
   simp only [L_z20_0, B_z20_0, bo, List.length_map, e, Int.lt_irrefl, decide_false, ef, qep, db]
  | cons x r ih =>
   intro p n h1 hn X Y
   obtain ⟨n, rfl⟩ : ∃ n', n = n' + 1 := ⟨n - 1, by simp at hn; omega⟩
   have hp : p.length < l.length := by rw [h1]; simp
   have ex : l[p.length] = x := by simp [h1]
   have := ih (p ++ [x]) n (by rw [h1]; simp) (by simp at hn; omega) X Y
   rw [bz] at this
   have t1 : ∀ t : Term, (dd mt t).Op = t.op := fun _ => rfl
   have t2 : ∀ t : Term, (dd mt t).Num = t.num := fun _ => rfl
   simp only [L_z20_0, B_z20_0, bo, List.length_map, Int.ofNat_lt, hp, Int.natCast_nonneg, true_and, decide_true, db, Int.toNat_natCast, au hp, gm, t1, t2, ee, ex, bw (show p.length < 4611686018427387904 by omega), this, qep]
   cases decide (x.op = 3) <;> cases decide (x.num = ((p.length : Nat) : Int)) <;> rfl
 have := loop l [] (k + 1) rfl (by omega) (K false) (fun a11 a12 => K (((a11.n : Nat) : Int) == ((a12.n : Nat) : Int)))
 have z : ((([] : List Term).length : Nat) : Int) = 0 := rfl
 rw [z] at this
 rw [this, ni]
 have e : ((((lst mt (l.map (bb mt))).n : Nat) : Int) == (((lst mc (cs.map gj)).n : Nat) : Int)) = decide (l.length = cs.length) := by
  rw [cq]
  refine decide_eq_decide.2 ?_
  simp [lst]
  omega
 rw [e]
 show br (qep 0 l) _ _ = _
 cases qep 0 l <;> rfl
theorem qbx (k : Nat) (m mt : Bool) (c : bg) (t : Typed) (hk : t.tables.length + 5 ≤ k) (hl : t.tables.length ≤ 1048576) (K : Bool → Prop) : (TT k).f_z25 (bh m c) (bj mt t) K = K (iq c t) := by
 obtain ⟨k, rfl⟩ : ∃ k', k = k' + 2 := ⟨k - 2, by omega⟩
 show F_z25 (TT (k + 1)) _ _ K = _
 simp only [F_z25, ca]
 have s1 : (bj mt t).Tables = lst mt (t.tables.map eI) := rfl
 have s2 : (bj mt t).Kind = t.kind := rfl
 have s3 : (bj mt t).On = lst mt (t.on.map (bb mt)) := rfl
 have s4 : (((bh m c).Tables.n : Nat) : Int) = ((c.tables.length : Nat) : Int) := by
  show (((lst m (c.tables.map (bp m))).n : Nat) : Int) = _
  simp [lst]
 rw [j0 (L := fun q i => L_z25_0 (TT (k + 1)) q i (bh m c) (bj mt t) (K false) _) (l := t.tables) (X := K false) (q := fun n => inR n c.tables.length) (E := _) (fun q => by
   show B_z25_0 _ _ _ _ _ _ _ = _
   simp only [B_z25_0, s1, bo, List.length_map, Int.lt_irrefl, decide_false, ef]
   rfl) (fun q i hi => by
   show B_z25_0 _ _ _ _ _ _ _ = _
   simp only [B_z25_0, s1, s4, bo, List.length_map, Int.ofNat_lt, hi, Int.natCast_nonneg, true_and, decide_true, db, Int.toNat_natCast, au hi, ig, bw (show i < 4611686018427387904 by omega), inR]
   have g1 : decide (t.tables[i] < 0) = !decide (0 ≤ t.tables[i]) := by rw [Bool.eq_iff_iff]; simp
   have g2 : decide (t.tables[i] ≥ ((c.tables.length : Nat) : Int)) = !decide (t.tables[i] < ((c.tables.length : Nat) : Int)) := by rw [Bool.eq_iff_iff]; simp
   rw [g1, g2]
   cases decide (0 ≤ t.tables[i]) <;> cases decide (t.tables[i] < ((c.tables.length : Nat) : Int)) <;> rfl) (by omega)]
 have e2 : ((((bj mt t).Tables.n : Nat) : Int) == 2) = decide (t.tables.length = 2) := by
  rw [s1, cq]; refine decide_eq_decide.2 ?_; simp [lst]; omega
 have e1 : ((((bj mt t).Tables.n : Nat) : Int) == 1) = decide (t.tables.length = 1) := by
  rw [s1, cq]; refine decide_eq_decide.2 ?_; simp [lst]; omega
 have f1 : ((((bj mt t).On.n : Nat) : Int) == 1) = decide (t.on.length = 1) := by
  rw [s3, cq]; refine decide_eq_decide.2 ?_; simp [lst]; omega
 have f0 : ((((bj mt t).On.n : Nat) : Int) == 0) = decide (t.on.length = 0) := by
  rw [s3, cq]; refine decide_eq_decide.2 ?_; simp [lst]
 have E2 : decide (((t.tables.length : Nat) : Int) = 2) = decide (t.tables.length = 2) := decide_eq_decide.2 (by omega)
 have E1 : decide (((t.tables.length : Nat) : Int) = 1) = decide (t.tables.length = 1) := decide_eq_decide.2 (by omega)
 simp only [e1, e2, f0, f1, s2, cq, E1, E2, iq]
 cases t.tables.all fun n => inR n c.tables.length with
 | false => rfl
 | true =>
  rw [db]
  by_cases h2 : t.tables.length = 2
  ·rw [decide_eq_true h2]
   match hks : t.tables, h2 with
   | [a, b], _ =>
    have g0 : ∀ K : Int → Prop, bf ((lst mt ([a, b].map eI)).g 0) K = K a := fun K => rfl
    have g1 : ∀ K : Int → Prop, bf ((lst mt ([a, b].map eI)).g 1) K = K b := fun K => rfl
    have l0 : ((0 : Int) < (([a, b].length : Nat) : Int)) = True := by simp
    have l1 : ((1 : Int) < (([a, b].length : Nat) : Int)) = True := by simp
    have l3 : ((0 : Int) ≤ 1) = True := by simp
    have q0 : [a, b].getD 0 0 = a := rfl
    have q1 : [a, b].getD 1 0 = b := rfl
    simp only [g0, g1, l0, l1, l3, Int.le_refl, true_and, ee, q0, q1]
    cases decide (t.kind = 4) <;> cases decide (a = b) <;> rfl
  ·rw [decide_eq_false h2]
   cases decide (t.tables.length = 1) <;> rfl
theorem qs7 (k : Nat) (hk : 20 ≤ k) (m mt : Bool) (c : bg) (ks : List Int) (ts : List Table) (h : kc c ks ts) (hT : ve ts) (K : Arr → Prop) :
  (TT k).f_z1t (bh m c) (lst mt (ks.map eI)) K = K (lst true ((cm ts).map gj)) := by
 obtain ⟨k, rfl⟩ : ∃ k', k = k' + 2 := ⟨k - 2, by omega⟩
 show F_z1t (TT (k + 1)) (bh m c) (lst mt (ks.map eI)) K = _
 have hc : (bh m c).Tables = lst m (c.tables.map (bp m)) := rfl
 have key : ∀ (K0 : List PV → Prop) (rt : List Table) (rk pk : List Int) (pt : List Table) (n : Nat), ks = pk ++ rk → ts = pt ++ rt → pk.length = pt.length → rk.length = rt.length → rt.length < n → ∀ r : List S_x4, r.length ≤ 16 * pt.length →
   L_z1t_0 (TT (k + 1)) n (lst mt (ks.map eI)) (pk.length : Nat) (bh m c) (r.map gj) K0 = K0 ((r ++ cm rt).map gj) := by
  intro K0 rt
  induction rt with
  | nil =>
   intro rk pk pt n e1 e2 hp hr hn r _
   obtain ⟨n, rfl⟩ : ∃ n', n = n' + 1 := ⟨n - 1, by simp at hn; omega⟩
   have : rk = [] := List.length_eq_zero_iff.1 (by simpa using hr)
   subst this
   have hpl : ks.length = pk.length := by rw [e1]; simp
   simp [L_z1t_0, B_z1t_0, hpl, cm]
  | cons t rt ih =>
   intro rk pk pt n e1 e2 hp hr hn r hrl
   match rk, hr with
   | x :: rk, hr =>
    simp only [List.length_cons] at hn hr
    obtain ⟨n, rfl⟩ : ∃ n', n = n' + 1 := ⟨n - 1, by omega⟩
    obtain ⟨q, hq1, hq2⟩ := h.get pk pt e1 e2 hp
    obtain ⟨hq3, hq4⟩ := List.getElem?_eq_some_iff.1 hq2
    obtain ⟨hc1, hc2⟩ := hT.each t (by rw [e2]; simp)
    have htwo := hT.two
    have hlt : ts.length = pt.length + (rt.length + 1) := by rw [e2]; simp
    have hlen : ks.length = pk.length + (rk.length + 1) := by rw [e1]; simp
    have hi : pk.length < ks.length := by omega
    have hx : ks[pk.length] = x := by simp [e1]
    have f := ih rk (pk ++ [x]) (pt ++ [t]) n (by rw [e1]; simp) (by rw [e2]; simp) (by simp [hp]) (by omega) (by omega) (r ++ t.columns) (by simp; omega)
    simp only [bz] at f
    simp only [L_z1t_0, B_z1t_0]
    rw [bw (by omega)]
    have hcol : (bm m t).Columns = lst m (t.columns.map gj) := rfl
    have hsz : (∀ i, i < t.columns.length → dn ((lst m (t.columns.map gj)).g i) = 3) = True := by
     simp only [eq_iff_iff, iff_true]
     intro i hi
     rw [au hi]
     rfl
    have hq5 : ((q : Nat) : Int) < ((c.tables.length : Nat) : Int) := by omega
    have hr2 := qeg m t.columns gj
    simp only [bo, List.length_map] at hr2
    have hb : (r.length + t.columns.length) * 32 ≤ 140737488355328 := by omega
    simp only [Int.toNat_natCast, au hi, hx, ig, bo, List.length_map, Int.ofNat_lt, hi, Int.natCast_nonneg, true_and, decide_true, db, hc, hq1, au hq3, hq4, i7, hcol, hsz, hr2, hb, hq3, hq5]
    rw [← List.map_append, f]
    simp [cm]
    intro _
    exact hb
   | [], hr => simp at hr
 have f := fun K0 => key K0 ts ks [] [] (k + 1) rfl rfl rfl h.len (by have := hT.two; omega) [] (by simp)
 have z : ((0 : Nat) : Int) = 0 := rfl
 simp only [List.length_nil, List.map_nil, List.nil_append] at f
 simp only [z] at f
 simp only [F_z1t, ca, f]
end Go.RX
namespace Go.RX
theorem yw {α β : Type} [DecidableEq α] {p : β → Bool} {key : β → α} : ∀ {l : List β} {ns ns' : List α}, (∀ x, i5 x ns = i5 x ns') → okF p key ns l = okF p key ns' l
 | [], _, _, _ => rfl
 | x :: l, ns, ns', h => by
  simp only [okF, h]
  rw [yw (l := l) (ns := key x :: ns) (ns' := key x :: ns') fun y => by simp only [i5, List.any_cons]; have := h y; simp only [i5] at this; rw [this]]
theorem qd4 (x y : Int) (p : List Int) : i5 x (p ++ [y]) = i5 x (y :: p) := by
 simp only [i5, List.any_append, List.any_cons, List.any_nil, Bool.or_false]
 exact Bool.or_comm _ _
theorem qj4 (k : Nat) (hk : 1048700 ≤ k) (m mc mp mt : Bool) (cs : List S_x4) (ps : List S_x7) (b : Bool) (t : Typed) (hl : t.groups.length ≤ 1048576) (X : Prop) (Y : Arr → Arr → Bool → S_x9 → Prop) :
  ∀ (r p : List Int) (n : Nat), t.groups = p ++ r → r.length < n → L_z24_2 (TT k) n (lst mc (cs.map gj)) (lst mp (ps.map b8)) b ((p.length : Nat) : Int) (bj mt t) X Y = br (okF (fun n => inR n cs.length) id p r) (Y (lst mc (cs.map gj)) (lst mp (ps.map b8)) b (bj mt t)) X := by
 have s1 : (bj mt t).Groups = lst mt (t.groups.map eI) := rfl
 intro r
 induction r with
 | nil =>
  intro p n h1 hn
  obtain ⟨n, rfl⟩ : ∃ n', n = n' + 1 := ⟨n - 1, by simp at hn; omega⟩
  have e : ((p.length : Nat) : Int) = ((t.groups.length : Nat) : Int) := by rw [h1]; simp
  simp only [L_z24_2, B_z24_2, s1, bo, List.length_map, e, Int.lt_irrefl, decide_false, ef, okF, db]
 | cons x r ih =>
  intro p n h1 hn
  obtain ⟨n, rfl⟩ : ∃ n', n = n' + 1 := ⟨n - 1, by simp at hn; omega⟩
  have hp : p.length < t.groups.length := by rw [h1]; simp
  have hp1 : p.length + 1 ≤ 1048576 := by omega
  have ex : t.groups[p.length] = x := by simp [h1]
  have := ih (p ++ [x]) n (by rw [h1]; simp) (by simp at hn; omega)
  rw [bz, yw (ns' := x :: p) (qd4 · x p)] at this
  have am : ∀ K : Bool → Prop, (TT k).f_z1y ⟨(lst mt (t.groups.map eI)).m, p.length - (0 : Int).toNat, fun i => (lst mt (t.groups.map eI)).g ((0 : Int).toNat + i)⟩ x K = K (i5 x p) := fun K => qfc k x _ p (by omega) (by omega) rfl (fun i h => by
   show (lst mt (t.groups.map eI)).g (0 + i) = _
   rw [Nat.zero_add, au (by omega)]
   simp [h1, List.getElem_append_left h]) K
  have ps1 : (∀ i, i < t.groups.length → dn ((lst mt (t.groups.map eI)).g i) = 1) = True := eq_true fun i hi => by rw [au hi]; rfl
  have le : (((p.length : Nat) : Int) ≤ ((t.groups.length : Nat) : Int)) = True := eq_true (by omega)
  have g1 : decide (x < 0) = !decide (0 ≤ x) := by rw [Bool.eq_iff_iff]; simp
  have g2 : decide (x ≥ ((cs.length : Nat) : Int)) = !decide (x < ((cs.length : Nat) : Int)) := by rw [Bool.eq_iff_iff]; simp
  simp only [L_z24_2, B_z24_2, s1, bo, List.length_map, Int.ofNat_lt, hp, ps1, le, Int.natCast_nonneg, Int.le_refl, true_and, decide_true, db, Int.toNat_natCast, au hp, ig, ex, am, g1, g2, bw (show p.length < 4611686018427387904 by omega), this, okF, inR, id]
  cases decide (0 ≤ x) <;> cases decide (x < ((cs.length : Nat) : Int)) <;> cases i5 x p <;> rfl
def qs4 (ps : List S_x7) (cs : List S_x4) (g : Bool) (gs : List Int) : List Term → List Int → Bool
 | x :: l, w :: ws => rtE ps cs 16 true x && decide (w = x.cr) && qlj g gs x && qs4 ps cs g gs l ws
 | [], [] => true
 | _, _ => false
theorem qmp {ps : List S_x7} {cs : List S_x4} {g : Bool} {gs : List Int} : ∀ {l : List Term} {ws : List Int}, l.length = ws.length → qs4 ps cs g gs l ws = (l.all (fun x => rtE ps cs 16 true x && qlj g gs x) && decide (ws = l.map (·.cr)))
 | [], [], _ => rfl
 | [], _ :: _, h => by simp at h
 | _ :: _, [], h => by simp at h
 | x :: l, w :: ws, h => by
  have ih := qmp (ps := ps) (cs := cs) (g := g) (gs := gs) (l := l) (ws := ws) (by simpa using h)
  have e : decide (w :: ws = (x :: l).map (·.cr)) = (decide (w = x.cr) && decide (ws = l.map (·.cr))) := by
   rw [List.map_cons, Bool.eq_iff_iff]; simp
  rw [qs4, ih, e, List.all_cons]
  cases rtE ps cs 16 true x <;> cases decide (w = x.cr) <;> cases qlj g gs x <;> cases (l.all fun x => rtE ps cs 16 true x && qlj g gs x) <;> rfl
theorem qqw (k : Nat) (hk : 1048700 ≤ k) (mc mp mt : Bool) (cs : List S_x4) (ps : List S_x7) (b : Bool) (t : Typed) (hl : t.items.length ≤ 1048576) (hg : t.groups.length ≤ 1048576) (hw : t.items.length = t.types.length) (X : Prop) (Y : S_x9 → Prop) :
  ∀ (r p : List Term) (wr wp : List Int) (n : Nat), t.items = p ++ r → t.types = wp ++ wr → p.length = wp.length → r.length < n → L_z24_4 (TT k) n (lst mc (cs.map gj)) (lst mp (ps.map b8)) b ((p.length : Nat) : Int) (bj mt t) X Y = br (qs4 ps cs b t.groups r wr) (Y (bj mt t)) X := by
 have s1 : (bj mt t).Items = lst mt (t.items.map (bb mt)) := rfl
 have s2 : (bj mt t).Types = lst mt (t.types.map eI) := rfl
 have s3 : (bj mt t).Groups = lst mt (t.groups.map eI) := rfl
 intro r
 induction r with
 | nil =>
  intro p wr wp n h1 h2 h3 hn
  obtain ⟨n, rfl⟩ : ∃ n', n = n' + 1 := ⟨n - 1, by simp at hn; omega⟩
  have : wr = [] := List.length_eq_zero_iff.1 (by rw [h1, h2] at hw; simp at hw; omega)
  subst this
  have e : ((p.length : Nat) : Int) = ((t.items.length : Nat) : Int) := by rw [h1]; simp
  simp only [L_z24_4, B_z24_4, s1, bo, List.length_map, e, Int.lt_irrefl, decide_false, ef, qs4, db]
 | cons x r ih =>
  intro p wr wp n h1 h2 h3 hn
  obtain ⟨n, rfl⟩ : ∃ n', n = n' + 1 := ⟨n - 1, by simp at hn; omega⟩
  match wr, h2 with
  | [], h2 => rw [h1, h2] at hw; simp at hw; omega
  | w :: wr, h2 =>
   have hp : p.length < t.items.length := by rw [h1]; simp
   have hq : p.length < t.types.length := by omega
   have ex : t.items[p.length] = x := by simp [h1]
   have ew : t.types[p.length] = w := by simp [h2, h3]
   have := ih (p ++ [x]) wr (wp ++ [w]) n (by rw [h1]; simp) (by rw [h2]; simp) (by simp [h3]) (by simp at hn; omega)
   rw [bz] at this
   have t1 : ∀ t : Term, (dd mt t).Op = t.op := fun _ => rfl
   have t2 : ∀ t : Term, (dd mt t).Num = t.num := fun _ => rfl
   have t3 : ∀ t : Term, (dd mt t).Type_ = t.cr := fun _ => rfl
   have am : ∀ (y : Int) (K : Bool → Prop), (TT k).f_z1y (lst mt (t.groups.map eI)) y K = K (i5 y t.groups) := fun y K => qfc k y _ t.groups (by omega) hg (by simp [lst]) (fun i h => au h) K
   simp only [L_z24_4, B_z24_4, s1, s2, s3, bo, List.length_map, Int.ofNat_lt, hp, hq, Int.natCast_nonneg, true_and, decide_true, db, Int.toNat_natCast, au hp, au hq, gm, ig, rl mt mc mp cs ps 16 k _ true 1 (by decide) (by decide) (by omega), ri k (by omega), am, t1, t2, t3, ee, cq, ex, ew, bw (show p.length < 4611686018427387904 by omega), this, qs4, qlj]
   cases rtE ps cs 16 true x <;> cases decide (w = x.cr) <;> cases decide (x.op = 3) <;> cases i5 x.num t.groups <;> cases b <;> cases isAgg x.op <;> rfl
theorem qqy (k : Nat) (mt : Bool) (t : Typed) (hl : t.sorts.length ≤ 1048576) (n : Nat) (hn : t.sorts.length < n) (X : Prop) (Y : S_x9 → Prop) :
  L_z24_6 (TT k) n 0 (bj mt t) X Y = br (t.sorts.all fun x => decide (1 ≤ x.Item) && decide (x.Item ≤ (t.items.length : Int)) && decide (x.At = 0)) (Y (bj mt t)) X := by
 have s1 : (bj mt t).Sorts = lst mt (t.sorts.map eu) := rfl
 have s2 : (((bj mt t).Items.n : Nat) : Int) = ((t.items.length : Nat) : Int) := by show (((lst mt (t.items.map (bb mt))).n : Nat) : Int) = _; simp [lst]
 refine j0 (L := fun q i => L_z24_6 (TT k) q i (bj mt t) X Y) (l := t.sorts) (fun q => ?_) (fun q i hi => ?_) hn
 ·show B_z24_6 _ _ _ _ _ _ = _
  simp only [B_z24_6, s1, bo, List.length_map, Int.lt_irrefl, decide_false, ef]
 ·show B_z24_6 _ _ _ _ _ _ = _
  have g1 : decide (t.sorts[i].Item < 1) = !decide (1 ≤ t.sorts[i].Item) := by rw [Bool.eq_iff_iff]; simp
  have g2 : decide (t.sorts[i].Item > ((t.items.length : Nat) : Int)) = !decide (t.sorts[i].Item ≤ ((t.items.length : Nat) : Int)) := by rw [Bool.eq_iff_iff]; simp
  simp only [B_z24_6, s1, s2, bo, List.length_map, Int.ofNat_lt, hi, Int.natCast_nonneg, true_and, decide_true, db, Int.toNat_natCast, au hi, qb6, ee, g1, g2, bw (show i < 4611686018427387904 by omega)]
  cases decide (1 ≤ t.sorts[i].Item) <;> cases decide (t.sorts[i].Item ≤ ((t.items.length : Nat) : Int)) <;> cases decide (t.sorts[i].At = 0) <;> rfl
theorem qqx (mt : Bool) (t : Typed) (h : t.limit.length ≤ 1) (K : Bool → Prop) :
  br ((((lst mt (t.limit.map eI)).n : Nat) : Int) == (0 : Int)) (K true)
   (0 ≤ (0 : Int) ∧ (0 : Int) < (((lst mt (t.limit.map eI)).n : Nat) : Int) ∧
    bf ((lst mt (t.limit.map eI)).g 0) fun n136 =>
    br (decide (n136 ≥ (0 : Int)))
    (0 ≤ (0 : Int) ∧ (0 : Int) < (((lst mt (t.limit.map eI)).n : Nat) : Int) ∧
     bf ((lst mt (t.limit.map eI)).g 0) fun n137 => K (decide (n137 ≤ (4611686018427387904 : Int))))
    (K false)) = K (t.limit.all (within · qfn)) := by
 match hl : t.limit, h with
 | [], _ => rfl
 | [a], _ =>
  have l0 : ((0 : Int) < (((lst mt ([a].map eI)).n : Nat) : Int)) = True := by simp [lst]
  have g0 : ∀ K : Int → Prop, bf ((lst mt ([a].map eI)).g 0) K = K a := fun K => rfl
  have n1 : ((((lst mt ([a].map eI)).n : Nat) : Int) == (0 : Int)) = false := rfl
  have ge : decide (a ≥ 0) = decide (0 ≤ a) := rfl
  simp only [n1, ef, l0, g0, Int.le_refl, true_and, ge, ug, List.all_cons, List.all_nil, Bool.and_true, within, qfn]
  cases decide (0 ≤ a) <;> rfl
theorem qj3 (k : Nat) (hk : 1 ≤ k) (mt : Bool) (a1 a2 : Arr) (t : Typed) (hl : t.items.length ≤ 1048576) (Y : Arr → Arr → Bool → S_x9 → Prop) :
  ∀ (r p : List Term) (n : Nat) (b : Bool), t.items = p ++ r → r.length < n → L_z24_0 (TT k) n a1 a2 b ((p.length : Nat) : Int) (bj mt t) Y = Y a1 a2 (b || r.any fun x => isAgg x.op) (bj mt t) := by
 have s1 : (bj mt t).Items = lst mt (t.items.map (bb mt)) := rfl
 intro r
 induction r with
 | nil =>
  intro p n b h1 hn
  obtain ⟨n, rfl⟩ : ∃ n', n = n' + 1 := ⟨n - 1, by simp at hn; omega⟩
  have e : ((p.length : Nat) : Int) = ((t.items.length : Nat) : Int) := by rw [h1]; simp
  simp only [L_z24_0, B_z24_0, s1, bo, List.length_map, e, Int.lt_irrefl, decide_false, ef, List.any_nil, Bool.or_false]
 | cons x r ih =>
  intro p n b h1 hn
  obtain ⟨n, rfl⟩ : ∃ n', n = n' + 1 := ⟨n - 1, by simp at hn; omega⟩
  have hp : p.length < t.items.length := by rw [h1]; simp
  have ex : t.items[p.length] = x := by simp [h1]
  have := fun b => ih (p ++ [x]) n b (by rw [h1]; simp) (by simp at hn; omega)
  simp only [bz] at this
  have t1 : ∀ t : Term, (dd mt t).Op = t.op := fun _ => rfl
  simp only [L_z24_0, B_z24_0, s1, bo, List.length_map, Int.ofNat_lt, hp, Int.natCast_nonneg, true_and, decide_true, db, Int.toNat_natCast, au hp, gm, ri k hk, t1, ex, bw (show p.length < 4611686018427387904 by omega), this, List.any_cons]
  cases b <;> cases isAgg x.op <;> rfl
theorem qbw (k : Nat) (hk : 1048800 ≤ k) (mc mp mt : Bool) (cs : List S_x4) (ps : List S_x7) (t : Typed) (h1 : t.items.length ≤ 1048576) (h2 : t.groups.length ≤ 1048576) (h3 : t.sorts.length ≤ 1048576) (K : Bool → Prop) :
  (TT k).f_z24 (bj mt t) (lst mc (cs.map gj)) (lst mp (ps.map b8)) K = K (me ps cs t) := by
 obtain ⟨k, rfl⟩ : ∃ k', k = k' + 2 := ⟨k - 2, by omega⟩
 show F_z24 (TT (k + 1)) _ _ _ K = _
 simp only [F_z24, ca]
 have z : ((([] : List Term).length : Nat) : Int) = 0 := rfl
 have z' : ((([] : List Int).length : Nat) : Int) = 0 := rfl
 have l0 := fun (b : Bool) (Y : Arr → Arr → Bool → S_x9 → Prop) => qj3 (k + 1) (by omega) mt (lst mc (cs.map gj)) (lst mp (ps.map b8)) t h1 Y t.items [] (k + 1) b rfl (by omega)
 have l2 := fun (b : Bool) (X : Prop) (Y : Arr → Arr → Bool → S_x9 → Prop) => qj4 (k + 1) (by omega) true mc mp mt cs ps b t h2 X Y t.groups [] (k + 1) rfl (by omega)
 have l4 := fun (b : Bool) (hw : t.items.length = t.types.length) (X : Prop) (Y : S_x9 → Prop) => qqw (k + 1) (by omega) mc mp mt cs ps b t h1 h2 hw X Y t.items [] t.types [] (k + 1) rfl rfl rfl (by omega)
 have l6 := fun (X : Prop) (Y : S_x9 → Prop) => qqy (k + 1) mt t h3 (k + 1) (by omega) X Y
 rw [z] at l0
 simp only [z, z'] at l2 l4
 have s1 : (bj mt t).Items = lst mt (t.items.map (bb mt)) := rfl
 have s2 : (((lst mt (t.items.map (bb mt))).n : Nat) : Int) = ((t.items.length : Nat) : Int) := by simp [lst]
 have s3 : (((bj mt t).Types.n : Nat) : Int) = ((t.types.length : Nat) : Int) := by show (((lst mt (t.types.map eI)).n : Nat) : Int) = _; simp [lst]
 have s4 : (((bj mt t).Groups.n : Nat) : Int) = ((t.groups.length : Nat) : Int) := by show (((lst mt (t.groups.map eI)).n : Nat) : Int) = _; simp [lst]
 have s5 : (((bj mt t).Sorts.n : Nat) : Int) = ((t.sorts.length : Nat) : Int) := by show (((lst mt (t.sorts.map eu)).n : Nat) : Int) = _; simp [lst]
 have s6 : (((bj mt t).Limit.n : Nat) : Int) = ((t.limit.length : Nat) : Int) := by show (((lst mt (t.limit.map eI)).n : Nat) : Int) = _; simp [lst]
 have s7 : (((bj mt t).Columns.n : Nat) : Int) = ((t.columns.length : Nat) : Int) := by show (((lst mt (t.columns.map eI)).n : Nat) : Int) = _; simp [lst]
 have s8 : (bj mt t).Grouped = t.grouped := rfl
 have s9 : (bj mt t).Limit = lst mt (t.limit.map eI) := rfl
 have d1 : decide (((t.groups.length : Nat) : Int) > 0) = decide (t.groups.length ≠ 0) := decide_eq_decide.2 (by omega)
 have e1 : (((t.items.length : Nat) : Int) != ((t.types.length : Nat) : Int)) = !decide (t.items.length = t.types.length) := by
  rw [ee]; congr 1; exact decide_eq_decide.2 (by omega)
 have ng : ∀ (n : Nat) (w : Nat), decide (((n : Nat) : Int) > (w : Int)) = !decide (n ≤ w) := fun n w => by rw [Bool.eq_iff_iff]; simp
 have e2 := ng t.groups.length 8
 have e3 := ng t.sorts.length 8
 have e4 := ng t.limit.length 1
 have e5 : decide (((t.columns.length : Nat) : Int) > 0) = !decide (t.columns.length = 0) := by
  by_cases h : t.columns.length = 0
  ·rw [decide_eq_true h, decide_eq_false (by omega)]; rfl
  ·rw [decide_eq_false h, decide_eq_true (by omega)]; rfl
 have e6 : decide (((t.items.length : Nat) : Int) < 1) = !decide (1 ≤ t.items.length) := by
  by_cases h : 1 ≤ t.items.length
  ·rw [decide_eq_true h, decide_eq_false (by omega)]; rfl
  ·rw [decide_eq_false h, decide_eq_true (by omega)]; rfl
 have e7 := ng t.items.length 8
 have e8 := ng t.items.length 16
 have c8 : ((8 : Nat) : Int) = 8 := rfl
 have c1 : ((1 : Nat) : Int) = 1 := rfl
 have c16 : ((16 : Nat) : Int) = 16 := rfl
 rw [c8] at e2 e3 e7
 rw [c1] at e4
 rw [c16] at e8
 have hgr : (decide (t.groups.length ≠ 0) || t.items.any fun x => isAgg x.op) = ki t := rfl
 rw [s4, d1, l0, hgr]
 simp only [s1, s2, s3, s4, s5, s6, s7, s8, e1, e2, e3, e4, e5, e6, e7, e8]
 rw [qnc (k + 1) mt mc cs t.items (by omega) h1]
 have fin : t.items.length = t.types.length → t.limit.length ≤ 1 →
   L_z24_2 (TT (k + 1)) (k + 1) (lst mc (cs.map gj)) (lst mp (ps.map b8)) (ki t) 0 (bj mt t) (K false) (fun a48 a49 b50 x51 => L_z24_4 (TT (k + 1)) (k + 1) a48 a49 b50 0 x51 (K false) (fun x124 => L_z24_6 (TT (k + 1)) (k + 1) 0 x124 (K false) (fun x135 =>
    br (((x135.Limit.n : Nat) : Int) == (0 : Int))
    (K true)
    (0 ≤ (0 : Int) ∧ (0 : Int) < ((x135.Limit.n : Nat) : Int) ∧
    bf (x135.Limit.g 0) fun n136 =>
    br (decide (n136 ≥ (0 : Int)))
    (0 ≤ (0 : Int) ∧ (0 : Int) < ((x135.Limit.n : Nat) : Int) ∧
    bf (x135.Limit.g 0) fun n137 =>
    K (decide (n137 ≤ (4611686018427387904 : Int))))
    (K false)))))
   = K (okF (fun n => inR n cs.length) id [] t.groups && (t.items.all (fun x => rtE ps cs 16 true x && (!ki t || isAgg x.op || (decide (x.op = 3) && i5 x.num t.groups))) && decide (t.types = t.items.map (·.cr))) &&
     t.sorts.all (fun x => decide (1 ≤ x.Item) && decide (x.Item ≤ (t.items.length : Int)) && decide (x.At = 0)) && t.limit.all (within · qfn)) := by
  intro hw hl1
  rw [l2, l4 _ hw, l6, qmp hw]
  simp only [s9]
  rw [qqx mt t hl1 K]
  show br _ (br _ (br _ _ _) _) _ = K (_ && (t.items.all (fun x => rtE ps cs 16 true x && qlj (ki t) t.groups x) && _) && _ && _)
  cases okF (fun n => inR n cs.length) id [] t.groups <;> cases (t.items.all (fun x => rtE ps cs 16 true x && qlj (ki t) t.groups x)) <;> cases decide (t.types = t.items.map (·.cr)) <;> cases (t.sorts.all (fun x => decide (1 ≤ x.Item) && decide (x.Item ≤ (t.items.length : Int)) && decide (x.At = 0))) <;> rfl
 rw [me]
 cases hw : decide (t.items.length = t.types.length) with
 | false =>
  have hne : decide (t.types = t.items.map (·.cr)) = false := by
   refine decide_eq_false fun h => ?_
   rw [decide_eq_false_iff_not] at hw
   exact hw (by rw [h]; simp)
  simp only [hne, Bool.and_false, Bool.false_and, Bool.not_false]
  cases (t.grouped == ki t) <;> rfl
 | true =>
  rw [decide_eq_true_eq] at hw
  cases hl : decide (t.limit.length ≤ 1) with
  | false =>
   cases (t.grouped == ki t) <;> cases decide (t.groups.length ≤ 8) <;> cases decide (t.sorts.length ≤ 8) <;> rfl
  | true =>
   rw [decide_eq_true_eq] at hl
   have fin' := fin hw hl
   rw [fin']
   generalize okF (fun n => inR n cs.length) id [] t.groups = q1
   generalize (t.items.all (fun x => rtE ps cs 16 true x && (!ki t || isAgg x.op || (decide (x.op = 3) && i5 x.num t.groups)))) = q2
   generalize decide (t.types = t.items.map (·.cr)) = q3
   generalize (t.sorts.all (fun x => decide (1 ≤ x.Item) && decide (x.Item ≤ (t.items.length : Int)) && decide (x.At = 0))) = q4
   generalize t.limit.all (within · qfn) = q5
   have ass : (q1 && (q2 && q3) && q4 && q5) = (q1 && q2 && q3 && q4 && q5) := by cases q1 <;> cases q2 <;> rfl
   rw [ass]
   cases (t.grouped == ki t)
   ·rfl
   cases decide (t.groups.length ≤ 8)
   ·rfl
   cases decide (t.sorts.length ≤ 8)
   ·rfl
   cases decide (t.columns.length = 0)
   ·rfl
   cases decide (1 ≤ t.items.length)
   ·rfl
   cases h8 : decide (t.items.length ≤ 8)
   ·cases ni t.items cs.length
    ·rfl
    cases ki t
    ·cases decide (t.items.length ≤ 16) <;> rfl
    ·rfl
   ·rfl
end Go.RX
namespace Go.RX
theorem yc {ps : List S_x7} {cs : List S_x4} : ∀ {l : List Term} {ws : List Int}, l.length ≠ ws.length → kh ps cs l ws = false
 | [], [], h => absurd rfl h
 | [], _ :: _, _ => rfl
 | _ :: _, [], _ => rfl
 | x :: l, w :: ws, h => by rw [kh, yc (l := l) (ws := ws) (by simpa using h), Bool.and_false]
theorem qne (k : Nat) (a1 : Arr) (mc mt : Bool) (cs : List S_x4) (t : Typed) (hl : cs.length ≤ 1048576) (Y : Arr → S_x9 → List PV → Prop) :
  ∀ (r p : List S_x4) (n : Nat), cs = p ++ r → r.length < n → L_z1v_1 (TT k) n a1 (lst mc (cs.map gj)) ((p.length : Nat) : Int) (bj mt t) ((p.map (·.Type_)).map eI) Y = Y a1 (bj mt t) ((cs.map (·.Type_)).map eI) := by
 intro r
 induction r with
 | nil =>
  intro p n h1 hn
  obtain ⟨n, rfl⟩ : ∃ n', n = n' + 1 := ⟨n - 1, by simp at hn; omega⟩
  have h1' : cs = p := by rw [h1]; simp
  have e : ((p.length : Nat) : Int) = ((cs.length : Nat) : Int) := by rw [h1']
  simp only [L_z1v_1, B_z1v_1, bo, List.length_map, e, Int.lt_irrefl, decide_false, ef]
  rw [← h1']
 | cons x r ih =>
  intro p n h1 hn
  obtain ⟨n, rfl⟩ : ∃ n', n = n' + 1 := ⟨n - 1, by simp at hn; omega⟩
  have hp : p.length < cs.length := by rw [h1]; simp
  have ex : cs[p.length] = x := by simp [h1]
  have := ih (p ++ [x]) n (by rw [h1]; simp) (by simp at hn; omega)
  have e2 : ((p ++ [x]).map (·.Type_)).map eI = (p.map (·.Type_)).map eI ++ [PV.int .i64 x.Type_] := by simp [eI]
  rw [bz, e2] at this
  have hz : ((p.length + 1) * 8 ≤ 140737488355328) = True := eq_true (by omega)
  simp only [L_z1v_1, B_z1v_1, bo, List.length_map, Int.ofNat_lt, hp, Int.natCast_nonneg, true_and, decide_true, db, Int.toNat_natCast, au hp, fc, ex, hz, bw (show p.length < 4611686018427387904 by omega), this]
theorem qnf (k : Nat) (hk : 1048700 ≤ k) (a1 : Arr) (mc mt : Bool) (cs : List S_x4) (t : Typed) (hl : t.columns.length ≤ 1048576) (X : Prop) (Y : Arr → Arr → S_x9 → List PV → Prop) :
  ∀ (r p : List Int) (n : Nat), t.columns = p ++ r → r.length < n → L_z1v_3 (TT k) n a1 (lst mc (cs.map gj)) ((p.length : Nat) : Int) (bj mt t) ((p.map fun k => (cs.getD k.toNat wg).Type_).map eI) X Y =
   br (okF (fun n => inR n cs.length) id p r) (Y a1 (lst mc (cs.map gj)) (bj mt t) ((t.columns.map fun k => (cs.getD k.toNat wg).Type_).map eI)) X := by
 have s1 : (bj mt t).Columns = lst mt (t.columns.map eI) := rfl
 intro r
 induction r with
 | nil =>
  intro p n h1 hn
  obtain ⟨n, rfl⟩ : ∃ n', n = n' + 1 := ⟨n - 1, by simp at hn; omega⟩
  have h1' : t.columns = p := by rw [h1]; simp
  have e : ((p.length : Nat) : Int) = ((t.columns.length : Nat) : Int) := by rw [h1']
  simp only [L_z1v_3, B_z1v_3, s1, bo, List.length_map, e, Int.lt_irrefl, decide_false, ef, okF, db]
  rw [← h1']
 | cons x r ih =>
  intro p n h1 hn
  obtain ⟨n, rfl⟩ : ∃ n', n = n' + 1 := ⟨n - 1, by simp at hn; omega⟩
  have hp : p.length < t.columns.length := by rw [h1]; simp
  have hp1 : p.length + 1 ≤ 1048576 := by omega
  have ex : t.columns[p.length] = x := by simp [h1]
  have := ih (p ++ [x]) n (by rw [h1]; simp) (by simp at hn; omega)
  have e2 : ((p ++ [x]).map fun k => (cs.getD k.toNat wg).Type_).map eI = (p.map fun k => (cs.getD k.toNat wg).Type_).map eI ++ [PV.int .i64 (cs.getD x.toNat wg).Type_] := by simp [eI]
  rw [bz, yw (ns' := x :: p) (qd4 · x p), e2] at this
  have am : ∀ K : Bool → Prop, (TT k).f_z1y ⟨(lst mt (t.columns.map eI)).m, p.length - (0 : Int).toNat, fun i => (lst mt (t.columns.map eI)).g ((0 : Int).toNat + i)⟩ x K = K (i5 x p) := fun K => qfc k x _ p (by omega) (by omega) rfl (fun i h => by
   show (lst mt (t.columns.map eI)).g (0 + i) = _
   rw [Nat.zero_add, au (by omega)]
   simp [h1, List.getElem_append_left h]) K
  have ps1 : (∀ i, i < t.columns.length → dn ((lst mt (t.columns.map eI)).g i) = 1) = True := eq_true fun i hi => by rw [au hi]; rfl
  have le : (((p.length : Nat) : Int) ≤ ((t.columns.length : Nat) : Int)) = True := eq_true (by omega)
  have hz : ((p.length + 1) * 8 ≤ 140737488355328) = True := eq_true (by omega)
  have g1 : decide (x < 0) = !decide (0 ≤ x) := by rw [Bool.eq_iff_iff]; simp
  have g2 : decide (x ≥ ((cs.length : Nat) : Int)) = !decide (x < ((cs.length : Nat) : Int)) := by rw [Bool.eq_iff_iff]; simp
  simp only [L_z1v_3, B_z1v_3, s1, bo, List.length_map, Int.ofNat_lt, hp, ps1, le, Int.natCast_nonneg, Int.le_refl, true_and, decide_true, db, Int.toNat_natCast, au hp, ig, ex, am, g1, g2, hz, bw (show p.length < 4611686018427387904 by omega), okF, inR, id]
  by_cases h0 : 0 ≤ x
  ·by_cases h2 : x < ((cs.length : Nat) : Int)
   ·have hx : x.toNat < cs.length := by omega
    have ec : cs.getD x.toNat wg = cs[x.toNat] := by simp [List.getD, hx]
    rw [ec] at this
    have this' := this
    simp only [inR] at this'
    simp only [decide_eq_true h0, decide_eq_true h2, h0, h2, au hx, fc, true_and, this']
    cases i5 x p <;> rfl
   ·rw [decide_eq_true h0, decide_eq_false h2]; rfl
  ·rw [decide_eq_false h0]; rfl
theorem qaa {c : bg} : ∀ {ks : List Int}, ks.all (fun k => inR k c.tables.length) = true → kc c ks (ba c ks)
 | [], _ => trivial
 | k :: ks, h => by
  simp only [List.all_cons, Bool.and_eq_true] at h
  have hk := gu.1 h.1
  have hlt : k.toNat < c.tables.length := by omega
  have e : ba c (k :: ks) = c.tables[k.toNat] :: ba c ks := by simp [ba, hlt]
  rw [e]
  exact ⟨⟨k.toNat, by omega, List.getElem?_eq_getElem hlt⟩, qaa h.2⟩
structure ue (t : Typed) : Prop where
 tables : t.tables.length ≤ 1048576
 on : t.on.length ≤ 1048576
 where_ : t.where_.length ≤ 1048576
 items : t.items.length ≤ 1048576
 columns : t.columns.length ≤ 1048576
 groups : t.groups.length ≤ 1048576
 sorts : t.sorts.length ≤ 1048576
theorem S_z1v (k M : Nat) (hM : M < 4611686018427387904) (hk : M + 1049000 ≤ k) (m mp mt : Bool) (c : bg) (hc : c.Fits M) (ps : List S_x7) (hp : oz M ps) (t : Typed) (ht : ue t) (K : Bool → Prop) :
  (TT k).f_z1v (bh m c) (lst mp (ps.map b8)) (bj mt t) K = K (ib c ps t) := by
 obtain ⟨k, rfl⟩ : ∃ k', k = k' + 2 := ⟨k - 2, by omega⟩
 show F_z1v (TT (k + 1)) _ _ _ K = _
 have s1 : (bj mt t).Tables = lst mt (t.tables.map eI) := rfl
 have s2 : (bj mt t).Kind = t.kind := rfl
 have s3 : (bj mt t).On = lst mt (t.on.map (bb mt)) := rfl
 have s4 : (bj mt t).Where = lst mt (t.where_.map (bb mt)) := rfl
 have s5 : (bj mt t).Items = lst mt (t.items.map (bb mt)) := rfl
 have s6 : (bj mt t).Grouped = t.grouped := rfl
 have g1 : decide (t.kind < 1) = !decide (1 ≤ t.kind) := by
  by_cases h : 1 ≤ t.kind
  ·rw [decide_eq_true h, decide_eq_false (by omega)]; rfl
  ·rw [decide_eq_false h, decide_eq_true (by omega)]; rfl
 have g2 : decide (t.kind > 4) = !decide (t.kind ≤ 4) := by rw [Bool.eq_iff_iff]; simp
 simp only [F_z1v, S_z1l (k + 1) M hM (by omega) m c hc, S_z1u (k + 1) M hM (by omega) mp ps hp, s2, g1, g2, qbx (k + 1) m mt c t (by have := ht.tables; omega) ht.tables]
 rw [ib]
 cases hrc : dv c
 ·rfl
 cases hrp : dr ps
 ·rfl
 cases h1 : decide (1 ≤ t.kind)
 ·rfl
 cases h4 : decide (t.kind ≤ 4)
 ·rfl
 cases hrt : iq c t
 ·rfl
 simp only [Bool.not_true, ef, Bool.true_and]
 have hrt' := hrt
 simp only [iq, Bool.and_eq_true] at hrt'
 obtain ⟨hall, hhow⟩ := hrt'
 have hlen : t.tables.length ≤ 2 := by
  by_cases h : t.tables.length = 2
  ·omega
  ·rw [decide_eq_false h] at hhow
   simp only [cond_false, Bool.and_eq_true, decide_eq_true_eq] at hhow
   omega
 have hat := qaa hall
 obtain ⟨gd, gn⟩ := ql hrc
 have hin : ∀ T ∈ ba c t.tables, T ∈ c.tables := fun T hT => by
  simp only [ba, List.mem_filterMap] at hT
  obtain ⟨a, _, ha⟩ := hT
  exact List.mem_of_getElem? ha
 have hok : ve (ba c t.tables) := ⟨by rw [← kc.len hat]; exact hlen, fun T hT => ⟨(gd T (hin T hT)).most, (gd T (hin T hT)).once⟩⟩
 have hcl : (cm (ba c t.tables)).length ≤ 1048576 := by
  have h2 := hok.two
  match htb : ba c t.tables, h2 with
  | [], _ => simp [cm]
  | [A], _ =>
   have := (hok.each A (by rw [htb]; simp)).1
   simp [cm]; omega
  | [A, B], _ =>
   have := (hok.each A (by rw [htb]; simp)).1
   have := (hok.each B (by rw [htb]; simp)).1
   simp [cm]; omega
 simp only [s1, qs7 (k + 1) (by omega) m mt c t.tables _ hat hok, s3, s4, vd (k + 1) mt true mp _ ps t.on (by have := ht.on; omega) ht.on, vd (k + 1) mt true mp _ ps t.where_ (by have := ht.where_; omega) ht.where_]
 generalize htc : cm (ba c t.tables) = cs at hcl ⊢
 cases ir ps cs t.on && decide (t.on.length ≤ 1)
 ·rfl
 cases ir ps cs t.where_ && decide (t.where_.length ≤ 1)
 ·rfl
 simp only [Bool.not_true, ef, Bool.true_and, cq]
 by_cases k4 : t.kind = 4
 ·rw [decide_eq_true k4, db, cond_true]
  rw [qbw (k + 1) (by omega) true mp mt cs ps t ht.items ht.groups ht.sorts]
 rw [decide_eq_false k4, ef, cond_false, j3]
 have pos : ∀ (n : Nat) (a : Arr), a.n = n → decide (((a.n : Nat) : Int) > 0) = !decide (n = 0) := fun n a h => by
  rw [h]
  by_cases h0 : n = 0
  ·rw [decide_eq_true h0, decide_eq_false (by omega)]; rfl
  ·rw [decide_eq_false h0, decide_eq_true (by omega)]; rfl
 have p1 := pos t.groups.length (bj mt t).Groups (by show (lst mt (t.groups.map eI)).n = _; simp [lst])
 have p2 := pos t.sorts.length (bj mt t).Sorts (by show (lst mt (t.sorts.map eu)).n = _; simp [lst])
 have p3 := pos t.limit.length (bj mt t).Limit (by show (lst mt (t.limit.map eI)).n = _; simp [lst])
 have p4 := pos t.types.length (bj mt t).Types (by show (lst mt (t.types.map eI)).n = _; simp [lst])
 have p5 := pos t.columns.length (bj mt t).Columns (by show (lst mt (t.columns.map eI)).n = _; simp [lst])
 have p6 := pos t.where_.length (bj mt t).Where (by show (lst mt (t.where_.map (bb mt))).n = _; simp [lst])
 have q5 : decide ((((bj mt t).Columns.n : Nat) : Int) = 0) = decide (t.columns.length = 0) := by
  show decide ((((lst mt (t.columns.map eI)).n : Nat) : Int) = 0) = _
  refine decide_eq_decide.2 ?_; simp [lst]
 have q6 : decide ((((bj mt t).Items.n : Nat) : Int) = 0) = decide (t.items.length = 0) := by
  show decide ((((lst mt (t.items.map (bb mt))).n : Nat) : Int) = 0) = _
  refine decide_eq_decide.2 ?_; simp [lst]
 have z : ((([] : List S_x4).length : Nat) : Int) = 0 := rfl
 have z' : ((([] : List Int).length : Nat) : Int) = 0 := rfl
 have l1 := fun (Y : Arr → S_x9 → List PV → Prop) => qne (k + 1) (lst mp (ps.map b8)) true mt cs t hcl Y cs [] (k + 1) rfl (by omega)
 have l3 := fun (X : Prop) (Y : Arr → Arr → S_x9 → List PV → Prop) => qnf (k + 1) (by omega) (lst mp (ps.map b8)) true mt cs t ht.columns X Y t.columns [] (k + 1) rfl (by have := ht.columns; omega)
 simp only [z, List.map_nil] at l1
 simp only [z', List.map_nil] at l3
 simp only [s6, p1, p2, p3, p4, ca, l1, l3, p5, p6, q5, q6]
 by_cases hgd : t.grouped = true
 ·rw [hgd]; rfl
 rw [Bool.not_eq_true] at hgd
 rw [hgd]
 cases decide (t.groups.length = 0)
 ·rfl
 cases decide (t.sorts.length = 0)
 ·rfl
 cases decide (t.limit.length = 0)
 ·rfl
 cases decide (t.types.length = 0)
 ·rfl
 have ilen : (((bj mt t).Items.n : Nat) : Int) = ((t.items.length : Nat) : Int) := by rw [s5]; simp [lst]
 by_cases k1 : t.kind = 1
 ·rw [decide_eq_true k1]
  cases decide (t.columns.length = 0)
  ·rfl
  cases decide (t.where_.length = 0)
  ·rfl
  show br (_ != _) _ _ = K (kh ps [] t.items (cs.map (·.Type_)))
  rw [ilen, ee]
  by_cases hl : t.items.length = cs.length
  ·have : decide (((t.items.length : Nat) : Int) = ((((cs.map (·.Type_)).map eI).length : Nat) : Int)) = true := decide_eq_true (by simp [hl])
   rw [this]
   have := qpw (k + 1) mt true mp [] ps t.items (cs.map (·.Type_)) (by simp [hl]) (by have := ht.items; omega) ht.items (fun b _ => K b)
   exact this
  ·have : decide (((t.items.length : Nat) : Int) = ((((cs.map (·.Type_)).map eI).length : Nat) : Int)) = false := decide_eq_false (by simp; omega)
   rw [this, yc (by simpa using hl)]
   rfl
 ·rw [decide_eq_false k1]
  by_cases k3 : t.kind = 3
  ·rw [decide_eq_true k3]
   cases decide (t.columns.length = 0) <;> rfl
  ·rw [decide_eq_false k3]
   show br _ (br (_ != _) _ (br _ _ _)) _ = K (okF (fun n => inR n cs.length) id [] t.columns && decide (1 ≤ t.columns.length) && kh ps cs t.items (t.columns.map fun k => (cs.getD k.toNat wg).Type_))
   cases okF (fun n => inR n cs.length) id [] t.columns
   ·rfl
   rw [db, ilen, ee]
   by_cases hl : t.items.length = t.columns.length
   ·have e1 : decide (((t.items.length : Nat) : Int) = ((((t.columns.map fun k => (cs.getD k.toNat wg).Type_).map eI).length : Nat) : Int)) = true := decide_eq_true (by simp [hl])
    have e2 : decide (((((t.columns.map fun k => (cs.getD k.toNat wg).Type_).map eI).length : Nat) : Int) < 1) = !decide (1 ≤ t.columns.length) := by
     rw [List.length_map, List.length_map]
     by_cases h : 1 ≤ t.columns.length
     ·rw [decide_eq_true h, decide_eq_false (by omega)]; rfl
     ·rw [decide_eq_false h, decide_eq_true (by omega)]; rfl
    rw [e1, e2]
    cases decide (1 ≤ t.columns.length)
    ·rfl
    have := qpw (k + 1) mt true mp cs ps t.items (t.columns.map fun k => (cs.getD k.toNat wg).Type_) (by simp [hl]) (by have := ht.items; omega) ht.items (fun b _ => K b)
    exact this
   ·have : decide (((t.items.length : Nat) : Int) = ((((t.columns.map fun k => (cs.getD k.toNat wg).Type_).map eI).length : Nat) : Int)) = false := decide_eq_false (by simp; omega)
    rw [this, yc (by simpa using hl), Bool.and_false]
    rfl
end Go.RX
