/- The law in plain Lean, with no program in sight. No condition. -/
import Derived.Test.YtacceochippkaaaGreatDoorPa
set_option linter.all false
namespace Go.RX
theorem px (s : ByteArray) : (s.toList == (ByteArray.mk #[]).toList) = decide (s = noB) := zy s noB
def j6 (vk vi : Int) (vt : ByteArray) : Bool := decide (vk = 0) && decide (vi = 0) && decide (vt = noB)
def qc5 (vk vi : Int) (vt : ByteArray) : Bool :=
  (decide (vk = 0) && decide (vi = 0) && decide (vt = noB)) || (decide (vk = 1) && decide (-4611686018427387904 ≤ vi) && decide (vi ≤ 4611686018427387904) && decide (vt = noB)) ||
  (decide (vk = 2) && decide (0 ≤ vi) && decide (vi ≤ 1) && decide (vt = noB)) || (decide (vk = 3) && decide (vi = 0) && decide (vt.size ≤ 64))
theorem cq (a b : Int) : (a == b) = decide (a = b) := by
  by_cases h : a = b <;> simp [h]
theorem ee (a b : Int) : (a != b) = !decide (a = b) := by
  rw [bne, cq]
theorem qd8 (vk vi : Int) (vt : ByteArray) : (decide (vk = 0) && (decide (vi = 0) && decide (vt = noB))) = j6 vk vi vt := by rw [j6, Bool.and_assoc]
theorem qo5 (vk vi : Int) (vt : ByteArray) : ((vk == 0) && ((vi == 0) && (vt.toList == (ByteArray.mk #[]).toList))) = j6 vk vi vt := by
  rw [px, cq, cq, j6, Bool.and_assoc]
theorem q45 (n : Int) : Int.fdiv n (2 ^ (min (1 : Int).toNat (IntKind.bits .i64))) = n / 2 := by
  have : (2 : Int) ^ (min (1 : Int).toNat (IntKind.bits .i64)) = 2 := by decide
  rw [this, Int.fdiv_eq_ediv_of_nonneg n (by decide : (0 : Int) ≤ 2)]
theorem S_z39 (k : Nat) (hk : 1 ≤ k) (vk vi : Int) (vt : ByteArray) (K : Bool → Prop) : (TT k).f_z39 ⟨vk, vi, vt⟩ K = K (qc5 vk vi vt) := by
  obtain ⟨k, rfl⟩ : ∃ k', k = k' + 1 := ⟨k - 1, by omega⟩
  show F_z39 (TT k) ⟨vk, vi, vt⟩ K = _
  have a1 : decide (vi ≥ -4611686018427387904) = decide (-4611686018427387904 ≤ vi) := rfl
  have a2 : decide (vi / 2 = 0) = (decide (0 ≤ vi) && decide (vi ≤ 1)) := by
    rw [Bool.eq_iff_iff]; simp only [decide_eq_true_eq, Bool.and_eq_true]; omega
  have a3 : decide ((vt.size : Int) ≤ 64) = decide (vt.size ≤ 64) := decide_eq_decide.2 (by omega)
  have a0 : (0 : Int) ≤ 1 := by decide
  simp only [F_z39, px, cq, q45, a0, true_and, a2, a3, a1, ug, qc5]
  by_cases h0 : vk = 0
  · subst h0; simp
  by_cases h1 : vk = 1
  · subst h1; cases decide (-4611686018427387904 ≤ vi) <;> cases decide (vi ≤ 4611686018427387904) <;> simp
  by_cases h2 : vk = 2
  · subst h2; cases decide (0 ≤ vi) <;> cases decide (vi ≤ 1) <;> simp
  by_cases h3 : vk = 3
  · subst h3; cases decide (vi = 0) <;> simp
  simp [h0, h1, h2, h3]
theorem S_z1h (k : Nat) (hk : 1 ≤ k) (vk vi : Int) (vt : ByteArray) (K : Bool → Prop) : (TT k).f_z1h ⟨vk, vi, vt⟩ K = K (qc5 vk vi vt) := by
  obtain ⟨k, rfl⟩ : ∃ k', k = k' + 1 := ⟨k - 1, by omega⟩
  show F_z1h (TT k) ⟨vk, vi, vt⟩ K = _
  have a1 : decide (vi ≥ -4611686018427387904) = decide (-4611686018427387904 ≤ vi) := rfl
  have a3 : decide ((vt.size : Int) ≤ 64) = decide (vt.size ≤ 64) := decide_eq_decide.2 (by omega)
  simp only [F_z1h, px, cq, a3, a1, ug, qc5]
  by_cases h0 : vk = 0
  · subst h0; cases decide (vi = 0) <;> simp
  by_cases h1 : vk = 1
  · subst h1; cases decide (-4611686018427387904 ≤ vi) <;> cases decide (vi ≤ 4611686018427387904) <;> simp
  by_cases h2 : vk = 2
  · subst h2; simp
    by_cases h : vi = 0
    · simp [h]
    · by_cases h' : vi = 1
      · simp [h']
      · have : (decide (0 ≤ vi) && decide (vi ≤ 1)) = false := by
          rw [Bool.eq_false_iff]; simp only [ne_eq, Bool.and_eq_true, decide_eq_true_eq]; omega
        rw [this]
        simp [h, h']
  by_cases h3 : vk = 3
  · subst h3; cases decide (vi = 0) <;> simp
  simp [h0, h1, h2, h3]
def fe (e : Expr) : Bool :=
  bif decide (e.kind = 1) then decide (e.name = noB) && decide (e.table = noB) && qc5 e.fa e.mi e.fq && (!decide (e.fa = 1) || decide (0 ≤ e.mi))
  else bif decide (e.kind = 2) then isName e.name && decide (e.table = noB) && j6 e.fa e.mi e.fq
  else bif decide (e.kind = 3) then isName e.name && (decide (e.table = noB) || isName e.table) && j6 e.fa e.mi e.fq
  else decide (e.name = noB) && decide (e.table = noB) && j6 e.fa e.mi e.fq
def qqr (e : Expr) : Bool :=
  bif decide (e.kind = 5) then decide (1 ≤ e.op) && decide (e.op ≤ 5) else bif decide (e.kind = 6) then decide (1 ≤ e.op) && decide (e.op ≤ 6)
  else bif decide (e.kind = 7) then decide (0 ≤ e.op) && decide (e.op ≤ 1) else decide (e.op = 0)
def l9 (e : Expr) : Bool :=
  bif decide (1 ≤ e.kind) && decide (e.kind ≤ 3) then decide (e.kids.length = 0) else bif decide (e.kind = 4) || decide (e.kind = 7) || decide (e.kind = 8) then decide (e.kids.length = 1)
  else bif decide (e.kind = 5) || decide (e.kind = 6) then decide (e.kids.length = 2) else bif decide (e.kind = 9) || decide (e.kind = 10) then decide (2 ≤ e.kids.length) && decide (e.kids.length ≤ 8) else false
def Expr.Fits (M : Nat) : Nat → Expr → Prop
  | 0, _ => True
  | d + 1, e => e.name.size ≤ M ∧ e.table.size ≤ M ∧ ∀ x ∈ e.kids, Expr.Fits M d x
def cz : Nat → Expr → Bool
  | 0, _ => false
  | d + 1, e => l9 e && qqr e && fe e && e.kids.all (cz d)
theorem S_z2x (k M : Nat) (hM : M < 4611686018427387904) (hk : M + 30 ≤ k) (m : Bool) (e : Expr) (h1 : e.name.size ≤ M) (h2 : e.table.size ≤ M) (K : Bool → Prop) : (TT k).f_z2x (eb m e) K = K (fe e) := by
  obtain ⟨k, rfl⟩ : ∃ k', k = k' + 1 := ⟨k - 1, by omega⟩
  show F_z2x (TT k) (eb m e) K = _
  have a1 : decide (e.mi ≥ 0) = decide (0 ≤ e.mi) := rfl
  dsimp only [F_z2x, eb]
  simp only [px, cq, ee, qd8, S_z39 k (by omega), S_z1f k e.name (by omega) (by omega), S_z1f k e.table (by omega) (by omega), a1, ug, fe]
  congr 1
  cases decide (e.kind = 1) <;> cases decide (e.kind = 2) <;> cases decide (e.kind = 3) <;> cases decide (e.name = noB) <;> cases decide (e.table = noB) <;> cases isName e.name <;> cases isName e.table <;> cases qc5 e.fa e.mi e.fq <;> cases decide (e.fa = 1) <;> rfl
theorem qrt (e : Expr) : l9 e = (!decide ((e.kids.length : Int) < (bif decide (1 ≤ e.kind) && decide (e.kind ≤ 3) then 0 else bif decide (e.kind = 4) || decide (e.kind = 7) || decide (e.kind = 8) then 1 else bif decide (e.kind = 5) || decide (e.kind = 6) then 2 else bif decide (e.kind = 9) || decide (e.kind = 10) then 2 else 0)) && !decide ((e.kids.length : Int) > (bif decide (1 ≤ e.kind) && decide (e.kind ≤ 3) then 0 else bif decide (e.kind = 4) || decide (e.kind = 7) || decide (e.kind = 8) then 1 else bif decide (e.kind = 5) || decide (e.kind = 6) then 2 else bif decide (e.kind = 9) || decide (e.kind = 10) then 8 else -1))) := by
  simp only [l9]
  cases decide (1 ≤ e.kind) && decide (e.kind ≤ 3)
  · cases decide (e.kind = 4) || decide (e.kind = 7) || decide (e.kind = 8)
    · cases decide (e.kind = 5) || decide (e.kind = 6)
      · cases decide (e.kind = 9) || decide (e.kind = 10)
        · rw [Bool.eq_iff_iff]; simp; omega
        · rw [Bool.eq_iff_iff]; simp; omega
      · rw [Bool.eq_iff_iff]; simp; omega
    · rw [Bool.eq_iff_iff]; simp; omega
  · rw [Bool.eq_iff_iff]; simp
theorem S_z37 (k : Nat) (hk : 1 ≤ k) (n : Int) (K : Int → Int → Int → Int → Prop) : ∃ a b c d, (TT k).f_z37 n K = K a b c d ∧ ∀ e : Expr, e.kind = n → l9 e = (!decide ((e.kids.length : Int) < a) && !decide ((e.kids.length : Int) > b)) ∧ qqr e = (!decide (e.op < c) && !decide (e.op > d)) := by
  obtain ⟨k, rfl⟩ : ∃ k', k = k' + 1 := ⟨k - 1, by omega⟩
  refine ⟨bif decide (1 ≤ n) && decide (n ≤ 3) then 0 else bif decide (n = 4) || decide (n = 7) || decide (n = 8) then 1 else bif decide (n = 5) || decide (n = 6) then 2 else bif decide (n = 9) || decide (n = 10) then 2 else 0, bif decide (1 ≤ n) && decide (n ≤ 3) then 0 else bif decide (n = 4) || decide (n = 7) || decide (n = 8) then 1 else bif decide (n = 5) || decide (n = 6) then 2 else bif decide (n = 9) || decide (n = 10) then 8 else -1, bif decide (n = 5) || decide (n = 6) then 1 else 0, bif decide (n = 5) then 5 else bif decide (n = 6) then 6 else bif decide (n = 7) then 1 else 0, ?_, fun e he => ⟨he ▸ qrt e, ?_⟩⟩
  · have e2 : (TT (k + 1)).f_z37 = F_z37 (TT k) := rfl
    rw [e2]
    simp only [F_z37, cq]
    have a0 : (decide (1 ≤ n) && decide (n ≤ 3)) = (decide (n = 1) || decide (n = 2) || decide (n = 3)) := by
      rw [Bool.eq_iff_iff]; simp only [decide_eq_true_eq, Bool.and_eq_true, Bool.or_eq_true]; omega
    rw [a0]
    by_cases k1 : n = 1
    · simp [k1]
    by_cases k2 : n = 2
    · simp [k2]
    by_cases k3 : n = 3
    · simp [k3]
    by_cases k4 : n = 4
    · simp [k4]
    by_cases k5 : n = 5
    · simp [k5]
    by_cases k6 : n = 6
    · simp [k6]
    by_cases k7 : n = 7
    · simp [k7]
    by_cases k8 : n = 8
    · simp [k8]
    by_cases k9 : n = 9
    · simp [k9]
    by_cases k10 : n = 10
    · simp [k10]
    simp [k1, k2, k3, k4, k5, k6, k7, k8, k9, k10]
  · subst he
    simp only [qqr]
    by_cases k5 : e.kind = 5
    · simp only [k5]; rw [Bool.eq_iff_iff]; simp
    by_cases k6 : e.kind = 6
    · simp only [k6]; rw [Bool.eq_iff_iff]; simp
    by_cases k7 : e.kind = 7
    · simp only [k7]; rw [Bool.eq_iff_iff]; simp
    simp only [decide_eq_false k5, decide_eq_false k6, decide_eq_false k7]
    rw [Bool.eq_iff_iff]; simp; omega
end Go.RX
namespace Go.RX
theorem q11 {n : Int} (h1 : -9223372036854775808 ≤ n) (h2 : n < 9223372036854775808) : W n = n := qkk h1 h2
theorem qy9 (n m : Nat) : decide (((n : Nat) : Int) > (m : Nat)) = !decide (n ≤ m) := by rw [← decide_not]; exact decide_eq_decide.2 (by omega)
theorem qa3 (n m : Nat) : decide (((n : Nat) : Int) ≤ (m : Nat)) = decide (n ≤ m) := decide_eq_decide.2 (by omega)
theorem qqo (n m : Nat) : decide (((n : Nat) : Int) ≥ (m : Nat)) = decide (m ≤ n) := decide_eq_decide.2 (by omega)
theorem ym (n m : Nat) : (((n : Nat) : Int) == (m : Nat)) = decide (n = m) := by rw [cq]; exact decide_eq_decide.2 (by omega)
theorem qd0 {e : Expr} (h3 : l9 e = true) : e.kids.length ≤ 8 := by
  simp only [l9] at h3
  revert h3
  cases decide (1 ≤ e.kind) && decide (e.kind ≤ 3)
  · cases decide (e.kind = 4) || decide (e.kind = 7) || decide (e.kind = 8)
    · cases decide (e.kind = 5) || decide (e.kind = 6)
      · cases decide (e.kind = 9) || decide (e.kind = 10)
        · intro h; cases h
        · simp only [cond_true, cond_false, decide_eq_true_eq, Bool.and_eq_true]; omega
      · simp only [cond_true, cond_false, decide_eq_true_eq]; omega
    · simp only [cond_true, cond_false, decide_eq_true_eq]; omega
  · simp only [cond_true, decide_eq_true_eq]; omega
theorem S_z2y (M : Nat) (hM : M < 4611686018427387904) (m : Bool) : ∀ (d : Nat) (k : Nat) (e : Expr), e.Fits M d → d ≤ 17 → 4 * d + M + 50 ≤ k → ∀ (n : Int), n = 17 - d → ∀ K : Bool → Prop, (TT k).f_z2y (eb m e) n K = K (cz d e)
  | 0, k, e, _, _, hk, n, hn, K => by
    obtain ⟨k, rfl⟩ : ∃ k', k = k' + 1 := ⟨k - 1, by omega⟩
    show F_z2y (TT k) (eb m e) n K = _
    obtain ⟨a, b, c, d, h1, h2⟩ := S_z37 k (by omega) (eb m e).Kind fun _n2 _n3 _n4 _n5 => K false
    have hd : decide (n > 16) = true := decide_eq_true (by omega)
    simp only [F_z2y, hd, db]
    rw [h1]
    rfl
  | d + 1, k, e, hf, hd, hk, n, hn, K => by
    obtain ⟨k, rfl⟩ : ∃ k', k = k' + 5 := ⟨k - 5, by omega⟩
    show F_z2y (TT (k + 4)) (eb m e) n K = _
    obtain ⟨hf1, hf2, hf3⟩ := hf
    have hk1 : decide (n > 16) = false := decide_eq_false (by omega)
    have hkids : (eb m e).Kids = lst m (e.kids.map (b7 m)) := rfl
    have hop : (eb m e).Op = e.op := rfl
    have hkind : (eb m e).Kind = e.kind := rfl
    have hloop : e.kids.length ≤ 8 → ∀ K : Bool → Int → Prop, (TT (k + 4)).f_z2c (lst m (e.kids.map (b7 m))) n K = K (!e.kids.all (cz d)) n := by
      intro h8 K
      have e1 : (TT (k + 4)).f_z2c (lst m (e.kids.map (b7 m))) n K = L_z2m_0 (TT (k + 2)) (k + 2) (lst m (e.kids.map (b7 m))) (((lst m (e.kids.map (b7 m))).n : Nat) : Int) 0 n (fun n2 n3 => K (decide (n2 ≥ 0)) n3) (fun n3 => K (decide ((-1 : Int) ≥ 0)) n3) := rfl
      rw [e1, jz (L := fun q i => L_z2m_0 (TT (k + 2)) q (lst m (e.kids.map (b7 m))) (((lst m (e.kids.map (b7 m))).n : Nat) : Int) i n (fun n2 n3 => K (decide (n2 ≥ 0)) n3) (fun n3 => K (decide ((-1 : Int) ≥ 0)) n3)) (m := e.kids.length) (F := fun i => K (decide (i ≥ 0)) n) (p := fun i => !cz d (e.kids.getD i e)) (fun q => ?_) (fun q i hi => ?_) (by omega)]
      · rw [gq, gp]
        congr 2
        rw [gk (q := cz d) fun j hj => by simp [List.getD, hj]]
      · simp [L_z2m_0, B_z2m_0]
      · simp only [L_z2m_0, B_z2m_0]
        rw [bw (by omega)]
        have eg : e.kids.getD i e = e.kids[i] := by simp [List.getD, hi]
        have e2 : ∀ x K, (TT (k + 2)).f_z2z x n K = (TT (k + 1)).f_z2y x (W (n + 1)) (fun b => K (!b) n) := fun x K => rfl
        simp only [Int.toNat_natCast, au hi, i6, bo, List.length_map, Int.ofNat_lt, hi, Int.natCast_nonneg, true_and, decide_true, db, eg, e2]
        rw [S_z2y M hM m d (k + 1) e.kids[i] (hf3 _ (List.getElem_mem hi)) (by omega) (by omega) (W (n + 1)) (by rw [q11] <;> omega)]
    obtain ⟨a, b, c, d', h1, h2⟩ := S_z37 (k + 4) (by omega) (eb m e).Kind fun _n2 _n3 _n4 _n5 =>
       (br (decide (((eb m e).Kids.n : Int) < _n2)) (K false) (br (decide (((eb m e).Kids.n : Int) > _n3)) (K false) (br (decide ((eb m e).Op < _n4)) (K false) (br (decide ((eb m e).Op > _n5)) (K false) (br (!fe e) (K false) ((TT (k + 4)).f_z2c (eb m e).Kids n fun b2 _ => K (!b2)))))))
    obtain ⟨h3, h4⟩ := h2 e rfl
    simp only [F_z2y, hk1, ef, S_z2x (k + 4) M hM (by omega) m e hf1 hf2]
    rw [h1]
    simp only [hkids, hop, bo, List.length_map, cz, h3, h4]
    cases q1 : decide ((e.kids.length : Int) < a)
    · cases q2 : decide ((e.kids.length : Int) > b)
      · have h8 : e.kids.length ≤ 8 := qd0 (by rw [h3, q1, q2]; rfl)
        rw [hloop h8]
        cases decide (e.op < c) <;> cases decide (e.op > d') <;> cases fe e <;> simp
      · simp
    · simp
end Go.RX
namespace Go.RX
def jh (e : Expr) : Bool :=
  bif decide (11 ≤ e.kind) && decide (e.kind ≤ 14) then decide (e.op = 0) && fe e && (bif decide (e.kind = 11) then decide (e.kids.length = 0) else match e.kids with | [x] => cz 15 x | _ => false)
  else cz 16 e
def qfn : Int := 4611686018427387904
def qbq (x : S_xd) : Bool := within x.Item qfn
def ye (e : Expr) : Bool := decide (e.kind = 3) && cz 16 e
def u6 (x : qaf) : Bool := isName x.name && cz 16 x.expr
def qa2 (s : Stmt) : Bool := (decide (s.join = noB) && decide (s.on.length = 0)) || (isName s.join && decide (s.on.length = 1))
def qgq (s : Stmt) : Bool := s.items.all jh && s.groups.all ye && s.sorts.all qbq && s.limit.all (within · qfn) && s.on.all (cz 16) && qa2 s && (s.star == decide (s.items.length = 0)) &&
  decide (s.items.length ≤ 8) && decide (s.groups.length ≤ 8) && decide (s.sorts.length ≤ 8) && decide (s.limit.length ≤ 1) && decide (s.sets.length = 0)
def vo (s : Stmt) : Bool := decide (s.join = noB) && !s.star && decide (s.on.length = 0) && decide (s.groups.length = 0) && decide (s.sorts.length = 0) && decide (s.limit.length = 0) && s.items.all (cz 16) && s.sets.all u6 &&
  ((decide (s.kind = 1) && decide (1 ≤ s.items.length) && decide (s.items.length ≤ 16) && decide (s.sets.length = 0) && decide (s.where_.length = 0)) ||
   (decide (s.kind = 2) && decide (s.items.length = 0) && decide (1 ≤ s.sets.length) && decide (s.sets.length ≤ 16)) ||
   (decide (s.kind = 3) && decide (s.items.length = 0) && decide (s.sets.length = 0)))
def dj (s : Stmt) : Bool := isName s.table && decide (s.where_.length ≤ 1) && s.where_.all (cz 16) && (bif decide (s.kind = 4) then qgq s else vo s)
structure iv (M : Nat) (l : List Expr) : Prop where
  len : l.length ≤ M
  each : ∀ e ∈ l, e.Fits M 16
structure Stmt.Fits (M : Nat) (s : Stmt) : Prop where
  table : s.table.size ≤ M
  join : s.join.size ≤ M
  on : iv M s.on
  where_ : iv M s.where_
  items : iv M s.items
  groups : iv M s.groups
  sets : s.sets.length ≤ M
  set : ∀ x ∈ s.sets, x.name.size ≤ M ∧ x.expr.Fits M 16
  sorts : s.sorts.length ≤ M
  limit : s.limit.length ≤ M
theorem S_z35 (M k : Nat) (hM : M < 1152921504606846976) (hk : M + 130 ≤ k) (m : Bool) (l : List Expr) (hl : iv M l) (K : Bool → Prop) : (TT k).f_z35 (lst m (l.map (b7 m))) K = K (l.all (cz 16)) := by
  obtain ⟨k, rfl⟩ : ∃ k', k = k' + 4 := ⟨k - 4, by omega⟩
  have hlen := hl.len
  have e1 : (TT (k + 4)).f_z35 (lst m (l.map (b7 m))) K = L_z2l_0 (TT (k + 1)) (k + 1) (lst m (l.map (b7 m))) (((lst m (l.map (b7 m))).n : Nat) : Int) 0 (fun n2 => K (!decide (n2 ≥ 0))) (K (!decide ((-1 : Int) ≥ 0))) := rfl
  rw [e1, jz (L := fun q i => L_z2l_0 (TT (k + 1)) q (lst m (l.map (b7 m))) (((lst m (l.map (b7 m))).n : Nat) : Int) i (fun n2 => K (!decide (n2 ≥ 0))) (K (!decide ((-1 : Int) ≥ 0)))) (m := l.length) (F := fun i => K (!decide (i ≥ 0))) (p := fun i => !cz 16 (l.getD i (Expr.mk 0 0 0 0 noB noB noB [] 0))) (fun q => ?_) (fun q i hi => ?_) (by omega)]
  · rw [gq, gp]
    simp only [Bool.not_not]
    rw [gk (q := cz 16) fun j hj => by simp [List.getD, hj]]
  · simp [L_z2l_0, B_z2l_0]
  · simp only [L_z2l_0, B_z2l_0]
    rw [bw (by omega)]
    have eg : l.getD i (Expr.mk 0 0 0 0 noB noB noB [] 0) = l[i] := by simp [List.getD, hi]
    obtain ⟨k, rfl⟩ : ∃ k', k = k' + 1 := ⟨k - 1, by omega⟩
    have e2 : ∀ x K, (TT (k + 1 + 1)).f_z36 x K = (TT (k + 1)).f_z2y x 1 (fun b => K (!b)) := fun x K => rfl
    simp only [Int.toNat_natCast, au hi, i6, bo, List.length_map, Int.ofNat_lt, hi, Int.natCast_nonneg, true_and, decide_true, db, eg, e2]
    rw [S_z2y M (by omega) m 16 (k + 1) l[i] (hl.each _ (List.getElem_mem hi)) (by omega) (by omega) 1 (by omega)]
theorem S_z30 (M k : Nat) (hM : M < 1152921504606846976) (hk : M + 140 ≤ k) (m : Bool) (e : Expr) (he : e.Fits M 16) (K : Bool → Prop) : (TT k).f_z30 (eb m e) K = K (jh e) := by
  obtain ⟨k, rfl⟩ : ∃ k', k = k' + 1 := ⟨k - 1, by omega⟩
  show F_z30 (TT k) (eb m e) K = _
  have hkids : (eb m e).Kids = lst m (e.kids.map (b7 m)) := rfl
  have hop : (eb m e).Op = e.op := rfl
  have hkind : (eb m e).Kind = e.kind := rfl
  obtain ⟨hf1, hf2, hf3⟩ := he
  simp only [F_z30, hkids, hop, hkind, bo, List.length_map, S_z2x k M (by omega) (by omega) m e hf1 hf2, S_z2y M (by omega) m 16 k e ⟨hf1, hf2, hf3⟩ (by omega) (by omega) 1 (by omega)]
  have one : ∀ X : Prop, br ((((e.kids.length : Nat) : Int)) == 1) (br (e.op == 0) (br (fe e) (0 ≤ (0 : Int) ∧ (0 : Int) < ((e.kids.length : Nat) : Int) ∧ as_xb ((lst m (e.kids.map (b7 m))).g 0) fun x => (TT k).f_z2y x 2 fun b => K b) (K false)) (K false)) (K false) = K (decide (e.op = 0) && fe e && match e.kids with | [x] => cz 15 x | _ => false) := by
    intro _
    match hq : e.kids with
    | [] => simp
    | [x] =>
      have hx : x.Fits M 15 := hf3 x (by rw [hq]; exact .head _)
      have hg : (lst m ([x].map (b7 m))).g 0 = b7 m x := rfl
      have h01 : (0 : Int) < 1 := by decide
      simp only [cq, hg, i6, S_z2y M (by omega) m 15 k x hx (by omega) (by omega) 2 (by omega)]
      cases decide (e.op = 0) <;> cases fe e <;> simp
    | x :: y :: r =>
      have : ((((x :: y :: r).length : Nat) : Int) == 1) = false := by rw [cq]; simp; omega
      rw [this]
      simp
  simp only [one True]
  simp only [jh, cq]
  by_cases k1 : e.kind = 11
  · simp only [k1]
    have e0 : decide (((e.kids.length : Nat) : Int) = 0) = decide (e.kids.length = 0) := decide_eq_decide.2 (by omega)
    rw [e0]
    cases decide (e.kids.length = 0) <;> cases decide (e.op = 0) <;> cases fe e <;> simp
  by_cases k2 : e.kind = 12
  · simp [k2]
  by_cases k3 : e.kind = 13
  · simp [k3]
  by_cases k4 : e.kind = 14
  · simp [k4]
  have : (decide (11 ≤ e.kind) && decide (e.kind ≤ 14)) = false := by
    rw [Bool.eq_false_iff]; simp only [ne_eq, Bool.and_eq_true, decide_eq_true_eq]; omega
  simp [k1, k2, k3, k4, this]
end Go.RX
namespace Go.RX
theorem qg3 (k : Nat) (hk : 1 ≤ k) (n : Int) (K : Bool → Prop) : (TT k).f_z38 n K = K (within n qfn) := by
  obtain ⟨k, rfl⟩ : ∃ k', k = k' + 1 := ⟨k - 1, by omega⟩
  show F_z38 (TT k) n K = _
  simp only [F_z38, within, qfn, ug]
  have : decide (n ≥ 0) = decide (0 ≤ n) := rfl
  rw [this]
  cases decide (0 ≤ n) <;> rfl
theorem qnj (k : Nat) (m : Bool) (l : List Int) (hl : l.length < 4611686018427387904) (hk : l.length + 10 ≤ k) (K : Bool → Prop) : (TT k).f_z2e (lst m (l.map eI)) K = K (!l.all (within · qfn)) := by
  obtain ⟨k, rfl⟩ : ∃ k', k = k' + 3 := ⟨k - 3, by omega⟩
  have e1 : (TT (k + 3)).f_z2e (lst m (l.map eI)) K = L_z2o_0 (TT (k + 1)) (k + 1) (lst m (l.map eI)) (((lst m (l.map eI)).n : Nat) : Int) 0 (fun n => K (decide (n ≥ 0))) (K (decide ((-1 : Int) ≥ 0))) := rfl
  rw [e1, jz (L := fun n i => L_z2o_0 (TT (k + 1)) n (lst m (l.map eI)) (((lst m (l.map eI)).n : Nat) : Int) i (fun n => K (decide (n ≥ 0))) (K (decide ((-1 : Int) ≥ 0)))) (m := l.length) (F := fun n => K (decide (n ≥ 0))) (p := fun i => !within (l.getD i 0) qfn) (fun n => ?_) (fun n i hi => ?_) (by omega)]
  · rw [gq, gp]
    congr 2
    simp only [Bool.not_not]
    rw [gk (q := (within · qfn)) fun j hj => by simp [List.getD, hj]]
  · simp [L_z2o_0, B_z2o_0]
  · simp only [L_z2o_0, B_z2o_0]
    rw [bw (by omega)]
    have e : l.getD i 0 = l[i] := by simp [List.getD, hi]
    have e2 : ∀ x K, (TT (k + 1)).f_z32 x K = K (!within x qfn) := fun x K => by
      show F_z32 (TT k) x K = _
      obtain ⟨k, rfl⟩ : ∃ k', k = k' + 1 := ⟨k - 1, by omega⟩
      simp only [F_z32, qg3 (k + 1) (by omega)]
    simp only [Int.toNat_natCast, au hi, ig, bo, List.length_map, Int.ofNat_lt, hi, Int.natCast_nonneg, true_and, decide_true, db, e, e2]
theorem S_z33 (M k : Nat) (hM : M < 1152921504606846976) (hk : M + 140 ≤ k) (m : Bool) (l : List qaf) (hl : l.length ≤ M) (hx : ∀ x ∈ l, x.name.size ≤ M ∧ x.expr.Fits M 16) (K : Bool → Prop) : (TT k).f_z33 (lst m (l.map (v7 m))) K = K (l.all u6) := by
  obtain ⟨k, rfl⟩ : ∃ k', k = k' + 4 := ⟨k - 4, by omega⟩
  have e1 : (TT (k + 4)).f_z33 (lst m (l.map (v7 m))) K = L_z2n_0 (TT (k + 1)) (k + 1) (lst m (l.map (v7 m))) (((lst m (l.map (v7 m))).n : Nat) : Int) 0 (fun n2 => K (!decide (n2 ≥ 0))) (K (!decide ((-1 : Int) ≥ 0))) := rfl
  let d : qaf := ⟨noB, Expr.mk 0 0 0 0 noB noB noB [] 0, 0⟩
  rw [e1, jz (L := fun q i => L_z2n_0 (TT (k + 1)) q (lst m (l.map (v7 m))) (((lst m (l.map (v7 m))).n : Nat) : Int) i (fun n2 => K (!decide (n2 ≥ 0))) (K (!decide ((-1 : Int) ≥ 0)))) (m := l.length) (F := fun i => K (!decide (i ≥ 0))) (p := fun i => !u6 (l.getD i d)) (fun q => ?_) (fun q i hi => ?_) (by omega)]
  · rw [gq, gp]
    simp only [Bool.not_not]
    rw [gk (q := u6) fun j hj => by simp [List.getD, hj]]
  · simp [L_z2n_0, B_z2n_0]
  · simp only [L_z2n_0, B_z2n_0]
    rw [bw (by omega)]
    have eg : l.getD i d = l[i] := by simp [List.getD, hi]
    obtain ⟨hx1, hx2⟩ := hx l[i] (List.getElem_mem hi)
    obtain ⟨k, rfl⟩ : ∃ k', k = k' + 1 := ⟨k - 1, by omega⟩
    have e2 : ∀ K, (TT (k + 1 + 1)).f_z34 (vr m l[i]) K = K (!u6 l[i]) := fun K => by
      show F_z34 (TT (k + 1)) (vr m l[i]) K = _
      have h1 : (vr m l[i]).Name = l[i].name := rfl
      have h2 : S_xb.mk (vr m l[i]).Expr_Kind (vr m l[i]).Expr_Op (vr m l[i]).Expr_Value_Kind (vr m l[i]).Expr_Value_Int (vr m l[i]).Expr_Value_Text (vr m l[i]).Expr_Table (vr m l[i]).Expr_Name (vr m l[i]).Expr_Kids (vr m l[i]).Expr_At = eb m l[i].expr := rfl
      simp only [F_z34, h1, h2, S_z1f (k + 1) l[i].name (by omega) (by omega), S_z2y M (by omega) m 16 (k + 1) l[i].expr hx2 (by omega) (by omega) 1 (by omega), u6]
      cases isName l[i].name <;> rfl
    simp only [Int.toNat_natCast, au hi, qp5, bo, List.length_map, Int.ofNat_lt, hi, Int.natCast_nonneg, true_and, decide_true, db, eg, e2]
theorem qq6 {α : Type} (p q : α → Bool) (l : List α) : (l.all p && l.all q) = l.all fun x => p x && q x := by
  rw [Bool.eq_iff_iff]; simp only [Bool.and_eq_true, List.all_eq_true]
  exact ⟨fun ⟨h1, h2⟩ x hx => ⟨h1 x hx, h2 x hx⟩, fun h => ⟨fun x hx => (h x hx).1, fun x hx => (h x hx).2⟩⟩
theorem S_z31 (M k : Nat) (hM : M < 1152921504606846976) (hk : M + 150 ≤ k) (m : Bool) (s : Stmt) (hs : s.Fits M) (K : Bool → Prop) : (TT k).f_z31 (bx m s) K = K (qgq s) := by
  obtain ⟨k, rfl⟩ : ∃ k', k = k' + 2 := ⟨k - 2, by omega⟩
  show F_z31 (TT (k + 1)) (bx m s) K = _
  have hi : (bx m s).Items = lst m (s.items.map (b7 m)) := rfl
  have hg : (bx m s).Groups = lst m (s.groups.map (b7 m)) := rfl
  have ho : (bx m s).Sorts = lst m (s.sorts.map eu) := rfl
  have hon : (bx m s).On = lst m (s.on.map (b7 m)) := rfl
  have hj : (bx m s).Join = s.join := rfl
  have hst : (bx m s).Star = s.star := rfl
  have hl : (bx m s).Limit = lst m (s.limit.map eI) := rfl
  have hse : (bx m s).Sets = lst m (s.sets.map (v7 m)) := rfl
  have b1 := hs.items.len
  have b2 := hs.groups.len
  have b3 := hs.sorts
  have b4 := hs.limit
  have b5 := hs.join
  have f0 : ∀ X Y, L_z31_0 (TT (k + 1)) (k + 1) (lst m (s.items.map (b7 m))) ((s.items.length : Nat) : Int) 0 (bx m s) X Y = br (s.items.all jh) (Y (bx m s)) X := by
    intro X Y
    refine j0 (L := fun n i => L_z31_0 (TT (k + 1)) n (lst m (s.items.map (b7 m))) ((s.items.length : Nat) : Int) i (bx m s) X Y) (l := s.items) (fun n => ?_) (fun n i hi => ?_) (by omega)
    · simp [L_z31_0, B_z31_0]
    · simp only [L_z31_0, B_z31_0]
      rw [bw (by omega)]
      simp only [Int.toNat_natCast, au hi, i6, bo, List.length_map, Int.ofNat_lt, hi, Int.natCast_nonneg, true_and, decide_true, db, gb, S_z30 M (k + 1) hM (by omega) m s.items[i] (hs.items.each _ (List.getElem_mem hi))]
  have f2 : ∀ X Y, L_z31_2 (TT (k + 1)) (k + 1) (lst m (s.groups.map (b7 m))) ((s.groups.length : Nat) : Int) 0 (bx m s) X Y = br (s.groups.all fun e => decide (e.kind = 3)) (Y (bx m s)) X := by
    intro X Y
    refine j0 (L := fun n i => L_z31_2 (TT (k + 1)) n (lst m (s.groups.map (b7 m))) ((s.groups.length : Nat) : Int) i (bx m s) X Y) (l := s.groups) (fun n => ?_) (fun n i hi => ?_) (by omega)
    · simp [L_z31_2, B_z31_2]
    · simp only [L_z31_2, B_z31_2]
      rw [bw (by omega)]
      have hk : (eb m s.groups[i]).Kind = s.groups[i].kind := rfl
      simp only [Int.toNat_natCast, au hi, i6, bo, List.length_map, Int.ofNat_lt, hi, Int.natCast_nonneg, true_and, decide_true, db, hk, ee, gb]
  have f4 : ∀ X Y, L_z31_4 (TT (k + 1)) (k + 1) (lst m (s.sorts.map eu)) ((s.sorts.length : Nat) : Int) 0 (bx m s) X Y = br (s.sorts.all qbq) (Y (bx m s)) X := by
    intro X Y
    refine j0 (L := fun n i => L_z31_4 (TT (k + 1)) n (lst m (s.sorts.map eu)) ((s.sorts.length : Nat) : Int) i (bx m s) X Y) (l := s.sorts) (fun n => ?_) (fun n i hi => ?_) (by omega)
    · simp [L_z31_4, B_z31_4]
    · simp only [L_z31_4, B_z31_4]
      rw [bw (by omega)]
      simp only [Int.toNat_natCast, au hi, qb6, bo, List.length_map, Int.ofNat_lt, hi, Int.natCast_nonneg, true_and, decide_true, db, gb, qg3 (k + 1) (by omega), qbq]
  simp only [F_z31, ca, hi, hg, ho, f0, f2, f4, hj, hon, hst, hl, hse, bo, List.length_map, px, S_z1f (k + 1) s.join (by omega) (by omega),
    S_z35 M (k + 1) hM (by omega) m s.on hs.on, S_z35 M (k + 1) hM (by omega) m s.groups hs.groups, qnj (k + 1) m s.limit (by omega) (by omega), Bool.not_not]
  have c0 : ((s.on.length : Int) == 0) = decide (s.on.length = 0) := ym _ 0
  have c1 : ((s.on.length : Int) == 1) = decide (s.on.length = 1) := ym _ 1
  have c2 : ((s.items.length : Int) == 0) = decide (s.items.length = 0) := ym _ 0
  have c3 : ((s.sets.length : Int) == 0) = decide (s.sets.length = 0) := ym _ 0
  have c4 : decide ((s.items.length : Int) ≤ 8) = decide (s.items.length ≤ 8) := qa3 _ 8
  have c5 : decide ((s.groups.length : Int) ≤ 8) = decide (s.groups.length ≤ 8) := qa3 _ 8
  have c6 : decide ((s.sorts.length : Int) ≤ 8) = decide (s.sorts.length ≤ 8) := qa3 _ 8
  have c7 : decide ((s.limit.length : Int) ≤ 1) = decide (s.limit.length ≤ 1) := qa3 _ 1
  have g0 : s.groups.all ye = ((s.groups.all fun e => decide (e.kind = 3)) && s.groups.all (cz 16)) := (qq6 _ _ _).symm
  rw [c0, c1, c2, c3, c4, c5, c6, c7]
  simp only [ug, qgq, g0, qa2]
  congr 1
  cases s.items.all jh
  · rfl
  cases s.groups.all fun e => decide (e.kind = 3)
  · rfl
  cases s.sorts.all qbq
  · cases s.groups.all (cz 16) <;> rfl
  cases s.limit.all (within · qfn)
  · simp
  cases s.on.all (cz 16)
  · simp
  cases s.groups.all (cz 16)
  · simp
  cases s.star == decide (s.items.length = 0)
  · simp
  cases decide (s.items.length ≤ 8)
  · simp
  cases decide (s.groups.length ≤ 8)
  · simp
  cases decide (s.sorts.length ≤ 8)
  · simp
  cases decide (s.limit.length ≤ 1)
  · simp
  cases decide (s.sets.length = 0)
  · simp
  cases decide (s.join = noB) <;> cases decide (s.on.length = 0) <;> cases isName s.join <;> cases decide (s.on.length = 1) <;> rfl
end Go.RX
namespace Go.RX
theorem S_z2w (M k : Nat) (hM : M < 1152921504606846976) (hk : M + 160 ≤ k) (m : Bool) (s : Stmt) (hs : s.Fits M) (K : Bool → Prop) : (TT k).f_z2w (bx m s) K = K (dj s) := by
  obtain ⟨k, rfl⟩ : ∃ k', k = k' + 2 := ⟨k - 2, by omega⟩
  show F_z2w (TT (k + 1)) (bx m s) K = _
  have hi : (bx m s).Items = lst m (s.items.map (b7 m)) := rfl
  have hw : (bx m s).Where = lst m (s.where_.map (b7 m)) := rfl
  have hg : (bx m s).Groups = lst m (s.groups.map (b7 m)) := rfl
  have ho : (bx m s).Sorts = lst m (s.sorts.map eu) := rfl
  have hon : (bx m s).On = lst m (s.on.map (b7 m)) := rfl
  have hj : (bx m s).Join = s.join := rfl
  have ht : (bx m s).Table = s.table := rfl
  have hkd : (bx m s).Kind = s.kind := rfl
  have hst : (bx m s).Star = s.star := rfl
  have hl : (bx m s).Limit = lst m (s.limit.map eI) := rfl
  have hse : (bx m s).Sets = lst m (s.sets.map (v7 m)) := rfl
  have b0 := hs.table
  have b1 := hs.on.len
  have b2 := hs.groups.len
  have b3 := hs.sorts
  have b4 := hs.limit
  have hsum : W (W (W ((s.on.length : Int) + (s.groups.length : Int)) + (s.sorts.length : Int)) + (s.limit.length : Int)) = (s.on.length : Int) + s.groups.length + s.sorts.length + s.limit.length := by
    rw [qkk (n := (s.on.length : Int) + (s.groups.length : Int)), qkk (n := (s.on.length : Int) + (s.groups.length : Int) + (s.sorts.length : Int)), qkk] <;> omega
  have hsum' : decide ((s.on.length : Int) + s.groups.length + s.sorts.length + s.limit.length > 0) = !(decide (s.on.length = 0) && decide (s.groups.length = 0) && decide (s.sorts.length = 0) && decide (s.limit.length = 0)) := by
    rw [Bool.eq_iff_iff]
    simp only [decide_eq_true_eq, Bool.not_eq_true', Bool.and_eq_false_iff, decide_eq_false_iff_not]
    omega
  simp only [F_z2w, hi, hw, hg, ho, hj, ht, hkd, hon, hst, hl, hse, bo, List.length_map, px, hsum, hsum', S_z1f (k + 1) s.table (by omega) (by omega),
    S_z35 M (k + 1) hM (by omega) m s.where_ hs.where_, S_z35 M (k + 1) hM (by omega) m s.items hs.items, S_z33 M (k + 1) hM (by omega) m s.sets hs.sets hs.set, S_z31 M (k + 1) hM (by omega) m s hs]
  have c0 : ((s.items.length : Int) == 0) = decide (s.items.length = 0) := ym _ 0
  have c1 : ((s.sets.length : Int) == 0) = decide (s.sets.length = 0) := ym _ 0
  have c2 : ((s.where_.length : Int) == 0) = decide (s.where_.length = 0) := ym _ 0
  have c3 : decide ((s.where_.length : Int) > 1) = !decide (s.where_.length ≤ 1) := qy9 _ 1
  have c4 : decide ((s.items.length : Int) ≥ 1) = decide (1 ≤ s.items.length) := qqo _ 1
  have c5 : decide ((s.items.length : Int) ≤ 16) = decide (s.items.length ≤ 16) := qa3 _ 16
  have c6 : decide ((s.sets.length : Int) ≥ 1) = decide (1 ≤ s.sets.length) := qqo _ 1
  have c7 : decide ((s.sets.length : Int) ≤ 16) = decide (s.sets.length ≤ 16) := qa3 _ 16
  rw [c0, c1, c2, c3, c4, c5, c6, c7]
  simp only [ug, dj, vo, cq]
  congr 1
  cases isName s.table
  · rfl
  cases decide (s.where_.length ≤ 1)
  · rfl
  cases s.where_.all (cz 16)
  · rfl
  by_cases k4 : s.kind = 4
  · simp [k4]
  simp only [decide_eq_false k4]
  cases decide (s.join = noB)
  · rfl
  cases s.star
  · cases decide (s.on.length = 0)
    · simp
    cases decide (s.groups.length = 0)
    · simp
    cases decide (s.sorts.length = 0)
    · simp
    cases decide (s.limit.length = 0)
    · simp
    cases s.items.all (cz 16)
    · simp
    cases s.sets.all u6
    · simp
    by_cases k1 : s.kind = 1
    · simp only [k1]
      cases decide (1 ≤ s.items.length) <;> cases decide (s.items.length ≤ 16) <;> cases decide (s.sets.length = 0) <;> cases decide (s.where_.length = 0) <;> simp
    by_cases k2 : s.kind = 2
    · simp only [k2]
      cases decide (s.items.length = 0) <;> cases decide (1 ≤ s.sets.length) <;> cases decide (s.sets.length ≤ 16) <;> simp
    by_cases k3 : s.kind = 3
    · simp only [k3]
      cases decide (s.items.length = 0) <;> cases decide (s.sets.length = 0) <;> simp
    simp [k1, k2, k3]
  · rfl
end Go.RX
