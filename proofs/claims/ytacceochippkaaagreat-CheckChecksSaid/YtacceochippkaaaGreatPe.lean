/- Both Checks, in plain Lean, tell the same; and a typed statement is the same as itself. No condition. -/
import Derived.Test.YtacceochippkaaaGreatPd
set_option linter.all false
namespace Go.RX
theorem Ends.step {α β : Type} {f f1 f2 : Flt} {r : Except Flt α} {a : α} {R R' : Except Flt β} {b : β} (h1 : Ends f f1 r a) (h2 : Ends f1 f2 R' b) (herr : ∀ g, r = .error g → R = .error g) (hok : r = .ok a → R = R') : Ends f f2 R b := by
  rcases h1 with ⟨a1, rfl⟩ | ⟨a1, ⟨h, rfl⟩ | ⟨g, h, rfl, a2⟩⟩
  · rcases h2 with ⟨b1, rfl⟩ | ⟨b1, -⟩
    · exact .inl ⟨a1, rfl⟩
    · exact absurd b1 a1
  · rw [hok h]
    rcases h2 with ⟨b1, rfl⟩ | ⟨b1, h⟩
    · exact absurd a1 b1
    · exact .inr ⟨a1, h⟩
  · rw [herr _ h]
    rcases h2 with ⟨b1, rfl⟩ | ⟨b1, -⟩
    · exact .inr ⟨a1, .inr ⟨_, rfl, rfl, a2⟩⟩
    · exact absurd b1 a2
theorem Ends.pure {α : Type} {f : Flt} {a : α} : Ends f f (.ok a) a := by
  by_cases h : f.1 = 0
  · exact .inr ⟨h, .inl ⟨rfl, rfl⟩⟩
  · exact .inl ⟨h, rfl⟩
theorem Ends.map {α β : Type} {f f' : Flt} {r : Except Flt α} {a : α} (h : Ends f f' r a) {r' : Except Flt β} {b : β} (hok : r = .ok a → r' = .ok b) (herr : ∀ g, r = .error g → r' = .error g) : Ends f f' r' b := by
  rcases h with ⟨a1, rfl⟩ | ⟨a1, ⟨h1, rfl⟩ | ⟨g, h1, rfl, a2⟩⟩
  · exact .inl ⟨a1, rfl⟩
  · exact .inr ⟨a1, .inl ⟨hok h1, rfl⟩⟩
  · exact .inr ⟨a1, .inr ⟨_, herr _ h1, rfl, a2⟩⟩
def fail1 (f : Flt) (code a : Int) : Flt := if f.1 = 0 then (code, a) else f
theorem fail1_ends {α : Type} {f : Flt} {code a : Int} (hc : code ≠ 0) {b : α} : Ends f (fail1 f code a) (.error (code, a)) b := by
  by_cases h : f.1 = 0
  · exact .inr ⟨h, .inr ⟨_, rfl, by simp [fail1, h], by simpa [fail1, h] using hc⟩⟩
  · exact .inl ⟨h, by simp [fail1, h]⟩
structure RefOK (m : Bool) (c : Catalog) (ps : List S_i_Param) (tb : List Int) (ts : List Table) : Prop where
  ps : ps.length ≤ 8
  at_ : TabsAt c tb ts
  ok : TabsOK ts
section
variable {m : Bool} {c : Catalog} {ps : List S_i_Param} {tb : List Int} {ts : List Table} (hR : RefOK m c ps tb ts)
include hR
theorem R_of (k : Nat) (hk : 80 ≤ k) (e : Expr) (he : fineE 16 e) (w : Int) (f : Flt) (hg : Good f) : ∃ t f', (∀ K, (TT k).f_ra_of (sExpr m e) w (sAsk m c ps tb f) K = K (sTerm true t) (sAsk m c ps tb f')) ∧ Ends f f' (ofE (envOf ps ts) w e) t := by
  obtain ⟨k, rfl⟩ : ∃ k', k = k' + 1 := ⟨k - 1, by omega⟩
  obtain ⟨t, f1, h1, h2⟩ := S_asks (m := m) hR.ps hR.at_ hR.ok 16 k e he (by omega) f hg
  refine ⟨t, if f1.1 = 0 ∧ t.type_ ≠ w ∧ t.type_ ≠ 0 then (11, e.at_) else f1, fun K => ?_, ?_⟩
  · show F_ra_of (TT k) (sExpr m e) w (sAsk m c ps tb f) K = _
    have ht : (sTerm true t).Type_ = t.type_ := rfl
    have ha : (sExpr m e).At = e.at_ := rfl
    simp only [F_ra_of, h1, S_rbad k (by omega), Bool.not_not, ht, ha, bne_dec, br_not, S_rfails k (by omega)]
    by_cases c1 : f1.1 = 0
    · rw [decide_eq_true c1, br_t]
      by_cases c2 : t.type_ = w
      · have : ¬ (f1.1 = 0 ∧ t.type_ ≠ w ∧ t.type_ ≠ 0) := fun h => h.2.1 c2
        rw [decide_eq_true c2, br_t, if_neg this]
      · by_cases c3 : t.type_ = 0
        · have : ¬ (f1.1 = 0 ∧ t.type_ ≠ w ∧ t.type_ ≠ 0) := fun h => h.2.2 c3
          rw [decide_eq_false c2, br_f, decide_eq_true c3, br_t, if_neg this]
        · rw [decide_eq_false c2, br_f, decide_eq_false c3, br_f, if_pos (And.intro c1 (And.intro c2 c3)), if_pos c1]
    · have : ¬ (f1.1 = 0 ∧ t.type_ ≠ w ∧ t.type_ ≠ 0) := fun h => c1 h.1
      rw [decide_eq_false c1, br_f, if_neg this]
  · refine h2.step (R' := if t.type_ ≠ w ∧ t.type_ ≠ 0 then .error (11, e.at_) else .ok t) ?_ (fun g e => by simp only [ofE, e]) (fun e => by simp only [ofE, e])
    by_cases c2 : t.type_ ≠ w ∧ t.type_ ≠ 0
    · rw [if_pos c2]
      by_cases c1 : f1.1 = 0
      · rw [if_pos ⟨c1, c2⟩]
        exact .inr ⟨c1, .inr ⟨_, rfl, rfl, by simp⟩⟩
      · have : ¬ (f1.1 = 0 ∧ t.type_ ≠ w ∧ t.type_ ≠ 0) := fun h => c1 h.1
        rw [if_neg this]
        exact .inl ⟨c1, rfl⟩
    · have : ¬ (f1.1 = 0 ∧ t.type_ ≠ w ∧ t.type_ ≠ 0) := fun h => c2 h.2
      rw [if_neg c2, if_neg this]
      exact .pure
theorem R_truths (k : Nat) (hk : 90 ≤ k) (l : List Expr) (hl : l.length ≤ 16) (he : ∀ e ∈ l, fineE 16 e) (f : Flt) (hg : Good f) : ∃ us f', (∀ K, (TT k).f_ra_truths (lst m (l.map (eExpr m))) (sAsk m c ps tb f) K = K (lst true (us.map (eTerm true))) (sAsk m c ps tb f')) ∧ Ends f f' (mapE (ofE (envOf ps ts) 2) l) us := by
  obtain ⟨k, rfl⟩ : ∃ k', k = k' + 2 := ⟨k - 2, by omega⟩
  have key : ∀ (l : List Expr) (pre : List PV) (r : List Term) (n : Nat) (f : Flt), Good f → (∀ e ∈ l, fineE 16 e) → l.length < n → pre.length + l.length ≤ 16 → r.length = pre.length →
      ∃ us f', (∀ K, L_ra_truths_0 (TT (k + 1)) n (lst m (pre ++ l.map (eExpr m))) (pre.length : Nat) (sAsk m c ps tb f) (r.map (eTerm true)) K = K (sAsk m c ps tb f') ((r ++ us).map (eTerm true))) ∧ Ends f f' (mapE (ofE (envOf ps ts) 2) l) us := by
    intro l
    induction l with
    | nil =>
      intro pre r n f _ _ hn _ _
      obtain ⟨n, rfl⟩ : ∃ n', n = n' + 1 := ⟨n - 1, by simp at hn; omega⟩
      refine ⟨[], f, fun K => ?_, .pure⟩
      simp [L_ra_truths_0, B_ra_truths_0]
    | cons x l ih =>
      intro pre r n f hg hf hn hp hr
      simp only [List.length_cons] at hn hp
      obtain ⟨n, rfl⟩ : ∃ n', n = n' + 1 := ⟨n - 1, by omega⟩
      obtain ⟨t, f1, h1, h2⟩ := R_of hR (k + 1) (by omega) x (hf x (.head _)) 2 f hg
      obtain ⟨us, f2, h3, h4⟩ := ih (pre ++ [eExpr m x]) (r ++ [t]) n f1 (h2.good hg) (fun y hy => hf y (.tail _ hy)) (by omega) (by simp; omega) (by simp [hr])
      simp only [snoc_app, snoc_len] at h3
      refine ⟨t :: us, f2, fun K => ?_, ?_⟩
      · simp only [L_ra_truths_0, B_ra_truths_0]
        rw [W_succ (by omega)]
        have hb : ((r.map (eTerm true)).length + 1) * 80 ≤ 140737488355328 := by simp; omega
        have hlt : ((pre.length : Nat) : Int) < (((lst m (pre ++ eExpr m x :: l.map (eExpr m))).n : Nat) : Int) := by simp; omega
        simp only [List.map_cons, hlt, decide_true, br_t, Int.natCast_nonneg, true_and, Int.toNat_natCast, lst_g, getD_mid, as_Expr, h1, eTerm_fold]
        rw [and_l hb, snoc_e, h3]
        try simp
      · exact h2.step (R' := match mapE (ofE (envOf ps ts) 2) l with | .error e => .error e | .ok ys => .ok (t :: ys)) (h4.map (fun e => by rw [e]) (fun g e => by rw [e])) (fun g e => by simp only [mapE, e]) (fun e => by simp only [mapE, e]; cases mapE (ofE (envOf ps ts) 2) l <;> rfl)
  obtain ⟨us, f', h1, h2⟩ := key l [] [] (k + 1) f hg he (by omega) (by simpa using hl) rfl
  refine ⟨us, f', fun K => ?_, h2⟩
  have z : ((0 : Nat) : Int) = 0 := rfl
  simp only [List.nil_append, List.length_nil, List.map_nil, z] at h1
  show F_ra_truths (TT (k + 1)) _ _ K = _
  simp only [F_ra_truths, TT_fuel, h1]
theorem R_insert (k : Nat) (hk : 90 ≤ k) (s : Stmt) (h16 : s.items.length ≤ 16) (he : ∀ e ∈ s.items, fineE 16 e) (t : Table) (f : Flt) (hg : Good f) : ∃ us f', (∀ K, (TT k).f_ra_insert (sStmt m s) (sTable m t) (sAsk m c ps tb f) K = K (lst true (us.map (eTerm true))) (sAsk m c ps tb f')) ∧ Ends f f' (insertE (envOf ps ts) s t) us := by
  obtain ⟨k, rfl⟩ : ∃ k', k = k' + 2 := ⟨k - 2, by omega⟩
  have hi : (sStmt m s).Items = lst m (s.items.map (eExpr m)) := rfl
  have ha : (sStmt m s).At = s.at_ := rfl
  have hcol : (sTable m t).Columns = lst m (t.columns.map eCol) := rfl
  have hF : ∀ K, (TT (k + 2)).f_ra_insert (sStmt m s) (sTable m t) (sAsk m c ps tb f) K = F_ra_insert (TT (k + 1)) (sStmt m s) (sTable m t) (sAsk m c ps tb f) K := fun K => rfl
  have e0 : decide (((s.items.length : Nat) : Int) = ((t.columns.length : Nat) : Int)) = decide (s.items.length = t.columns.length) := decide_eq_decide.2 (by omega)
  by_cases hlen : s.items.length = t.columns.length
  case neg =>
    refine ⟨[], fail1 f 131 s.at_, fun K => ?_, ?_⟩
    · rw [hF]
      simp only [F_ra_insert, hi, hcol, ha, lst_n, List.length_map, bne_dec, e0, decide_eq_false hlen, Bool.not_false, br_t, S_rfails (k + 1) (by omega)]
      rfl
    · rw [insertE, if_pos hlen]
      exact fail1_ends (by decide)
  have key : ∀ (l pre : List Expr) (lc pc : List S_i_Column) (r : List Term) (n : Nat) (f : Flt), Good f → s.items = pre ++ l → t.columns = pc ++ lc → pre.length = pc.length → (∀ e ∈ l, fineE 16 e) → l.length < n → r.length = pre.length →
      ∃ us f', (∀ K, L_ra_insert_0 (TT (k + 1)) n (pre.length : Nat) (sAsk m c ps tb f) (sStmt m s) (sTable m t) (r.map (eTerm true)) K = K (sAsk m c ps tb f') ((r ++ us).map (eTerm true))) ∧ Ends f f' (insE (envOf ps ts) l lc) us := by
    intro l
    induction l with
    | nil =>
      intro pre lc pc r n f _ e1 _ _ _ hn _
      obtain ⟨n, rfl⟩ : ∃ n', n = n' + 1 := ⟨n - 1, by simp at hn; omega⟩
      have hpl : s.items.length = pre.length := by rw [e1]; simp
      refine ⟨[], f, fun K => ?_, by simpa [insE] using Ends.pure⟩
      simp only [L_ra_insert_0, B_ra_insert_0, hi, lst_n, List.length_map, hpl, Int.lt_irrefl, decide_false, br_f, List.append_nil]
    | cons x l ih =>
      intro pre lc pc r n f hg e1 e2 hp hf hn hr
      simp only [List.length_cons] at hn
      obtain ⟨n, rfl⟩ : ∃ n', n = n' + 1 := ⟨n - 1, by omega⟩
      have hl1 : s.items.length = pre.length + (l.length + 1) := by rw [e1]; simp
      match lc with
      | [] =>
        have h2 : t.columns.length = pc.length := by rw [e2]; simp
        omega
      | cc :: lc =>
        have hl2 : t.columns.length = pc.length + (lc.length + 1) := by rw [e2]; simp
        have hi1 : pre.length < s.items.length := by omega
        have hi2 : pre.length < t.columns.length := by omega
        have hx : s.items[pre.length] = x := by simp [e1]
        have hc : t.columns[pre.length] = cc := by simp [e2, hp]
        obtain ⟨u, f1, h1, h2⟩ := R_of hR (k + 1) (by omega) x (hf x (.head _)) cc.Type_ f hg
        obtain ⟨us, f2, h3, h4⟩ := ih (pre ++ [x]) lc (pc ++ [cc]) (r ++ [u]) n f1 (h2.good hg) (by rw [e1]; simp) (by rw [e2]; simp) (by simp [hp]) (fun y hy => hf y (.tail _ hy)) (by omega) (by simp [hr])
        simp only [snoc_len] at h3
        refine ⟨u :: us, f2, fun K => ?_, ?_⟩
        · simp only [L_ra_insert_0, B_ra_insert_0]
          rw [W_succ (by omega)]
          have hb : ((r.map (eTerm true)).length + 1) * 80 ≤ 140737488355328 := by simp; omega
          have hi1' : ((pre.length : Nat) : Int) < ((s.items.length : Nat) : Int) := by omega
          have hi2' : ((pre.length : Nat) : Int) < ((t.columns.length : Nat) : Int) := by omega
          have n1 : (lst m (s.items.map (eExpr m))).n = s.items.length := by simp
          have n2 : (lst m (t.columns.map eCol)).n = t.columns.length := by simp
          simp only [hi, hcol, n1, n2, hi1', hi2', decide_true, br_t, Int.natCast_nonneg, true_and, Int.toNat_natCast, lst_map_g hi1, lst_map_g hi2, hx, hc, as_Expr, as_Column, h1, eTerm_fold]
          rw [and_l hb, snoc_e, h3]
          simp
        · exact h2.step (R' := match insE (envOf ps ts) l lc with | .error e => .error e | .ok ys => .ok (u :: ys)) (h4.map (fun e => by rw [e]) (fun g e => by rw [e])) (fun g e => by simp only [insE, e]) (fun e => by simp only [insE, e]; cases insE (envOf ps ts) l lc <;> rfl)
  obtain ⟨us, f', h1, h2⟩ := key s.items [] t.columns [] [] (k + 1) f hg rfl rfl rfl he (by omega) rfl
  refine ⟨us, f', fun K => ?_, ?_⟩
  · rw [hF]
    have z : ((0 : Nat) : Int) = 0 := rfl
    simp only [List.nil_append, List.length_nil, List.map_nil, z] at h1
    simp only [F_ra_insert, hi, hcol, ha, lst_n, List.length_map, bne_dec, e0, decide_eq_true hlen, Bool.not_true, br_f, TT_fuel, h1]
  · have : ¬ s.items.length ≠ t.columns.length := fun h => h hlen
    rw [insertE, if_neg this]
    exact h2
end
end Go.RX
namespace Go.RX
theorem fail1_again (f : Flt) (a b : Int) (ha : a ≠ 0) : fail1 (fail1 f a b) a b = fail1 f a b := by
  by_cases h : f.1 = 0
  · have : fail1 f a b = (a, b) := by simp [fail1, h]
    rw [this]
    simp [fail1, ha]
  · have : fail1 f a b = f := by simp [fail1, h]
    rw [this, this]
theorem fail1_good {f : Flt} {a b : Int} (h : Good f) (ha : a ≠ 0) : Good (fail1 f a b) := (fail1_ends (α := Unit) (b := ()) ha).good h
theorem S_among (k : Nat) (hk : 40 ≤ k) (n : Int) (js : List Int) (hl : js.length ≤ 20) (K : Bool → List PV → Prop) : (TT k).f_ref13_among_v1 n (js.map eI) K = K (memG n js) (js.map eI) := by
  obtain ⟨k, rfl⟩ : ∃ k', k = k' + 2 := ⟨k - 2, by omega⟩
  show F_ref13_among_v1 (TT (k + 1)) n (js.map eI) K = _
  have key := idx_find0 (L := fun q i => L_ref13_among_v1_0 (TT (k + 1)) q n i (js.map eI) (fun r9 => K true r9) (fun r10 => K false r10)) (m := js.length) (F := fun i => K (decide (i ≥ 0)) (js.map eI)) (p := fun i => decide (js.getD i 0 = n)) (fun q => by simp [L_ref13_among_v1_0, B_ref13_among_v1_0]) (fun q i hi => by
    simp only [L_ref13_among_v1_0, B_ref13_among_v1_0]
    rw [W_succ (by omega)]
    have e : js.getD i 0 = js[i] := by simp [List.getD, hi]
    have hi2 : ((i : Nat) : Int) < ((js.length : Nat) : Int) := by omega
    have d : decide (((i : Nat) : Int) ≥ 0) = true := decide_eq_true (by omega)
    simp only [List.length_map, hi2, decide_true, br_t, Int.natCast_nonneg, true_and, Int.toNat_natCast, map_getD hi, asI_eI, e, beq_dec, d]) (n := k + 1) (by omega)
  simp only [F_ref13_among_v1, TT_fuel]
  rw [key, idxOf_nonneg, findN_isSome, allN_list (q := fun y => !decide (y = n)) fun j hj => by simp [List.getD, hj]]
  congr 1
  rw [Bool.eq_iff_iff, memG_iff]
  simp
theorem S_among' (k : Nat) (hk : 40 ≤ k) (n : Int) (m : Bool) (js : List Int) (hl : js.length ≤ 20) (K : Bool → Prop) : (TT k).f_ref13_among (lst m (js.map eI)) n K = K (memG n js) := by
  obtain ⟨k, rfl⟩ : ∃ k', k = k' + 2 := ⟨k - 2, by omega⟩
  show F_ref13_among (TT (k + 1)) (lst m (js.map eI)) n K = _
  have key := idx_find0 (L := fun q i => L_ref13_among_0 (TT (k + 1)) q (lst m (js.map eI)) n i (K true) (K false)) (m := js.length) (F := fun i => K (decide (i ≥ 0))) (p := fun i => decide (js.getD i 0 = n)) (fun q => by simp [L_ref13_among_0, B_ref13_among_0]) (fun q i hi => by
    simp only [L_ref13_among_0, B_ref13_among_0]
    rw [W_succ (by omega)]
    have e : js.getD i 0 = js[i] := by simp [List.getD, hi]
    have hi2 : ((i : Nat) : Int) < ((js.length : Nat) : Int) := by omega
    have d : decide (((i : Nat) : Int) ≥ 0) = true := decide_eq_true (by omega)
    simp only [lst_n, List.length_map, hi2, decide_true, br_t, Int.natCast_nonneg, true_and, Int.toNat_natCast, lst_map_g hi, asI_eI, e, beq_dec, d]) (n := k + 1) (by omega)
  simp only [F_ref13_among, TT_fuel]
  rw [key, idxOf_nonneg, findN_isSome, allN_list (q := fun y => !decide (y = n)) fun j hj => by simp [List.getD, hj]]
  congr 1
  rw [Bool.eq_iff_iff, memG_iff]
  simp
section
variable {m : Bool} {c : Catalog} {ps : List S_i_Param} {tb : List Int} {ts : List Table} (hR : RefOK m c ps tb ts)
theorem upd_inner (k : Nat) (hk : 40 ≤ k) (s : Stmt) (i : Nat) (hi : i < s.sets.length) (j : Int) (x3 : S_i_Table) (r1 : List PV) (js : List Int) (hjs : js.length ≤ 16) (K0 : Int → Int → S_ra → S_i_Stmt → S_i_Table → List PV → List PV → Prop) : ∀ (l pre : List Int) (n : Nat) (f : Flt), js = pre ++ l → l.length < n →
    L_ra_update_2 (TT k) n ((i : Nat) : Int) j (pre.length : Nat) (sAsk m c ps tb f) (sStmt m s) x3 r1 (js.map eI) K0 = K0 ((i : Nat) : Int) j (sAsk m c ps tb (if memG j l = true then fail1 f 81 s.sets[i].at_ else f)) (sStmt m s) x3 r1 (js.map eI)
  | [], pre, n, f, e1, hn => by
    obtain ⟨n, rfl⟩ : ∃ n', n = n' + 1 := ⟨n - 1, by simp at hn; omega⟩
    have hpl : js.length = pre.length := by rw [e1]; simp
    simp [L_ra_update_2, B_ra_update_2, hpl, memG]
  | x :: l, pre, n, f, e1, hn => by
    simp only [List.length_cons] at hn
    obtain ⟨n, rfl⟩ : ∃ n', n = n' + 1 := ⟨n - 1, by omega⟩
    have hlen : js.length = pre.length + (l.length + 1) := by rw [e1]; simp
    have hi1 : pre.length < js.length := by omega
    have hx : js[pre.length] = x := by simp [e1]
    have e := fun f => upd_inner k hk s i hi j x3 r1 js hjs K0 l (pre ++ [x]) n f (by rw [e1]; simp) (by omega)
    simp only [snoc_len] at e
    have hse : (sStmt m s).Sets = lst m (s.sets.map (eSet m)) := rfl
    have hat : (sSet m s.sets[i]).At = s.sets[i].at_ := rfl
    have hi2 : ((pre.length : Nat) : Int) < ((js.length : Nat) : Int) := by omega
    have hi3 : ((i : Nat) : Int) < ((s.sets.length : Nat) : Int) := by omega
    simp only [L_ra_update_2, B_ra_update_2]
    rw [W_succ (by omega)]
    simp only [List.length_map, hi2, decide_true, br_t, Int.natCast_nonneg, true_and, Int.toNat_natCast, map_getD hi1, hx, asI_eI, beq_dec, hse, lst_n, hi3, lst_map_g hi, as_Set, hat, S_rfails k (by omega), e]
    have hm : memG j (x :: l) = (decide (x = j) || memG j l) := rfl
    rw [hm]
    by_cases h : x = j
    · rw [decide_eq_true h, br_t]
      simp only [Bool.true_or, if_true]
      show K0 _ _ (sAsk m c ps tb (if memG j l = true then fail1 (fail1 f 81 s.sets[i].at_) 81 s.sets[i].at_ else fail1 f 81 s.sets[i].at_)) _ _ _ _ = _
      rw [fail1_again _ _ _ (by decide)]
      split <;> rfl
    · rw [decide_eq_false h, br_f, Bool.false_or]
include hR
theorem R_update (k : Nat) (hk : 90 ≤ k) (s : Stmt) (h16 : s.sets.length ≤ 16) (he : ∀ x ∈ s.sets, fineE 16 x.expr) (t : Table) (ht : t.columns.length ≤ 16) (f : Flt) (hg : Good f) : ∃ us js f', (∀ K, (TT k).f_ra_update (sStmt m s) (sTable m t) (sAsk m c ps tb f) K = K (lst true (us.map (eTerm true))) (lst true (js.map eI)) (sAsk m c ps tb f')) ∧ Ends f f' (updE (envOf ps ts) t [] s.sets) (us, js) := by
  obtain ⟨k, rfl⟩ : ∃ k', k = k' + 2 := ⟨k - 2, by omega⟩
  have hse : (sStmt m s).Sets = lst m (s.sets.map (eSet m)) := rfl
  have hcol : (sTable m t).Columns = lst m (t.columns.map eCol) := rfl
  have key : ∀ (l pre : List Set_) (r : List Term) (js ns : List Int) (n : Nat) (f : Flt), Good f → s.sets = pre ++ l → (∀ x ∈ l, fineE 16 x.expr) → l.length < n → r.length = pre.length → js.length = pre.length → (∀ x, x ∈ ns ↔ x ∈ js) →
      ∃ us js' f', (∀ K, L_ra_update_0 (TT (k + 1)) n (pre.length : Nat) (sAsk m c ps tb f) (sStmt m s) (sTable m t) (r.map (eTerm true)) (js.map eI) K = K (sAsk m c ps tb f') ((r ++ us).map (eTerm true)) ((js ++ js').map eI)) ∧ Ends f f' (updE (envOf ps ts) t ns l) (us, js') := by
    intro l
    induction l with
    | nil =>
      intro pre r js ns n f _ e1 _ hn _ _ _
      obtain ⟨n, rfl⟩ : ∃ n', n = n' + 1 := ⟨n - 1, by simp at hn; omega⟩
      have hpl : s.sets.length = pre.length := by rw [e1]; simp
      refine ⟨[], [], f, fun K => ?_, by simpa [updE] using Ends.pure⟩
      simp only [L_ra_update_0, B_ra_update_0, hse, lst_n, List.length_map, hpl, Int.lt_irrefl, decide_false, br_f, List.append_nil]
    | cons x l ih =>
      intro pre r js ns n f hg e1 hf hn hr hj hmem
      simp only [List.length_cons] at hn
      obtain ⟨n, rfl⟩ : ∃ n', n = n' + 1 := ⟨n - 1, by omega⟩
      have hlen : s.sets.length = pre.length + (l.length + 1) := by rw [e1]; simp
      have hi : pre.length < s.sets.length := by omega
      have hx : s.sets[pre.length] = x := by simp [e1]
      have hi2 : ((pre.length : Nat) : Int) < ((s.sets.length : Nat) : Int) := by omega
      have hcode : (sAsk m c ps tb f).f_Code = f.1 := rfl
      by_cases hf0 : f.1 = 0
      case neg =>
        refine ⟨[], [], f, fun K => ?_, .inl ⟨hf0, rfl⟩⟩
        simp only [L_ra_update_0, B_ra_update_0, hse, lst_n, List.length_map, hi2, decide_true, br_t, hcode, beq_dec, decide_eq_false hf0, br_f, List.append_nil]
      have hnm : (sSet m x).Name = x.name := rfl
      have hat : (sSet m x).At = x.at_ := rfl
      have h2 : S_i_Expr.mk (sSet m x).Expr_Kind (sSet m x).Expr_Op (sSet m x).Expr_Value_Kind (sSet m x).Expr_Value_Int (sSet m x).Expr_Value_Text (sSet m x).Expr_Table (sSet m x).Expr_Name (sSet m x).Expr_Kids (sSet m x).Expr_At = sExpr m x.expr := rfl
      cases hc : colOf t x.name with
      | none =>
        refine ⟨[], [], fail1 f 82 x.at_, fun K => ?_, ?_⟩
        · have d0 : decide (idxOf none < 0) = true := rfl
          simp only [L_ra_update_0, B_ra_update_0, hse, lst_n, List.length_map, hi2, decide_true, br_t, hcode, beq_dec, decide_eq_true hf0, Int.natCast_nonneg, true_and, Int.toNat_natCast, lst_map_g hi, hx, as_Set, hnm, hat, S_ref13_columnOf (k + 1) m t x.name ht (by omega), hc, d0, S_rfails (k + 1) (by omega), List.append_nil]
          rfl
        · have : updE (envOf ps ts) t ns (x :: l) = .error (82, x.at_) := by simp only [updE, hc]
          rw [this]
          exact fail1_ends (by decide)
      | some j =>
        have hlt := colOf_lt hc
        have hlt' : ((j : Nat) : Int) < ((t.columns.length : Nat) : Int) := by omega
        have d0 : decide (((j : Nat) : Int) < 0) = false := decide_eq_false (by omega)
        have e0 : idxOf (some j) = ((j : Nat) : Int) := rfl
        have hinner := fun K0 => upd_inner (m := m) (c := c) (ps := ps) (tb := tb) (k + 1) (by omega) s pre.length hi ((j : Nat) : Int) (sTable m t) (r.map (eTerm true)) js (by omega) K0 js [] (k + 1) f rfl (by omega)
        have z : ((0 : Nat) : Int) = 0 := rfl
        simp only [List.length_nil, z, hx] at hinner
        have hg1 : Good (if memG ((j : Nat) : Int) js = true then fail1 f 81 x.at_ else f) := by
          split
          · exact fail1_good hg (by decide)
          · exact hg
        obtain ⟨u, f2, g1, g2⟩ := R_of hR (k + 1) (by omega) x.expr (hf x (.head _)) (typeAt t j) _ hg1
        obtain ⟨us, js', f3, g3, g4⟩ := ih (pre ++ [x]) (r ++ [u]) (js ++ [((j : Nat) : Int)]) (((j : Nat) : Int) :: ns) n f2 (g2.good hg1) (by rw [e1]; simp) (fun y hy => hf y (.tail _ hy)) (by omega) (by simp [hr]) (by simp [hj]) (fun y => by simp [hmem]; exact or_comm)
        simp only [snoc_len] at g3
        have hms : memG ((j : Nat) : Int) ns = memG ((j : Nat) : Int) js := by rw [Bool.eq_iff_iff, memG_iff, memG_iff]; exact hmem _
        refine ⟨u :: us, ((j : Nat) : Int) :: js', f3, fun K => ?_, ?_⟩
        · have hb : ((r.map (eTerm true)).length + 1) * 80 ≤ 140737488355328 := by simp; omega
          have hb2 : ((js.map eI).length + 1) * 8 ≤ 140737488355328 := by simp; omega
          have e3 : js.map eI ++ [PV.int .i64 ((j : Nat) : Int)] = (js ++ [((j : Nat) : Int)]).map eI := by simp [eI]
          have n1 : (lst m (s.sets.map (eSet m))).n = s.sets.length := by simp
          have n2 : (lst m (t.columns.map eCol)).n = t.columns.length := by simp
          simp only [L_ra_update_0, B_ra_update_0, hse, n1, hi2, decide_true, br_t, hcode, beq_dec, decide_eq_true hf0, Int.natCast_nonneg, true_and, Int.toNat_natCast, lst_map_g hi, hx, as_Set, hnm, S_ref13_columnOf (k + 1) m t x.name ht (by omega), hc, d0, br_f, e0, TT_fuel, hinner, hcol, n2, hlt', lst_map_g hlt, as_Column, h2]
          rw [W_succ (by omega), ← typeAt_eq hlt, g1]
          simp only [eTerm_fold]
          rw [and_l hb, and_l hb2, snoc_e, e3, g3]
          simp
        · cases hmm : memG ((j : Nat) : Int) js
          · rw [hmm] at g2
            simp only [Bool.false_eq_true, if_false] at g2
            refine g2.step (R' := match updE (envOf ps ts) t (((j : Nat) : Int) :: ns) l with | .error f => .error f | .ok (us, js) => .ok (u :: us, ((j : Nat) : Int) :: js)) (g4.map (fun e => by rw [e]) (fun g e => by rw [e])) (fun g e => ?_) (fun e => ?_)
            · simp only [updE, hc, hms, hmm, Bool.false_eq_true, if_false, e]
            · simp only [updE, hc, hms, hmm, Bool.false_eq_true, if_false, e]
              cases updE (envOf ps ts) t (((j : Nat) : Int) :: ns) l <;> rfl
          · rw [hmm] at g2
            simp only [if_true] at g2
            have hbad : (fail1 f 81 x.at_).1 ≠ 0 := by simp [fail1, hf0]
            have e2 : f2 = fail1 f 81 x.at_ := by
              rcases g2 with ⟨-, h⟩ | ⟨h, -⟩
              · exact h
              · exact absurd h hbad
            have e3 : f3 = f2 := by
              rcases g4 with ⟨-, h⟩ | ⟨h, -⟩
              · exact h
              · rw [e2] at h; exact absurd h hbad
            have : updE (envOf ps ts) t ns (x :: l) = .error (81, x.at_) := by simp only [updE, hc, hms, hmm, if_true]
            rw [this, e3, e2]
            exact fail1_ends (by decide)
  obtain ⟨us, js, f', h1, h2⟩ := key s.sets [] [] [] [] (k + 1) f hg rfl he (by omega) rfl rfl (fun x => Iff.rfl)
  refine ⟨us, js, f', fun K => ?_, h2⟩
  have z : ((0 : Nat) : Int) = 0 := rfl
  simp only [List.nil_append, List.length_nil, List.map_nil, z] at h1
  show F_ra_update (TT (k + 1)) _ _ _ K = _
  simp only [F_ra_update, TT_fuel, h1]
theorem R_groups (k : Nat) (hk : 90 ≤ k) (s : Stmt) (h16 : s.groups.length ≤ 8) (he : ∀ x ∈ s.groups, fineE 16 x) (f : Flt) (hg : Good f) : ∃ gs f', (∀ K, (TT k).f_ra_groups (sStmt m s) (sAsk m c ps tb f) K = K (lst true (gs.map eI)) (sAsk m c ps tb f')) ∧ Ends f f' (grpE (envOf ps ts) [] s.groups) gs ∧ gs.length ≤ 8 := by
  obtain ⟨k, rfl⟩ : ∃ k', k = k' + 2 := ⟨k - 2, by omega⟩
  have hgr : (sStmt m s).Groups = lst m (s.groups.map (eExpr m)) := rfl
  have key : ∀ (l pre : List Expr) (js ns : List Int) (n : Nat) (f : Flt), Good f → s.groups = pre ++ l → (∀ x ∈ l, fineE 16 x) → l.length < n → js.length = pre.length → (∀ x, x ∈ ns ↔ x ∈ js) →
      ∃ gs f', (∀ K, L_ra_groups_0 (TT (k + 1)) n (pre.length : Nat) (sAsk m c ps tb f) (sStmt m s) (js.map eI) K = K (sAsk m c ps tb f') ((js ++ gs).map eI)) ∧ Ends f f' (grpE (envOf ps ts) ns l) gs ∧ gs.length = l.length := by
    intro l
    induction l with
    | nil =>
      intro pre js ns n f _ e1 _ hn _ _
      obtain ⟨n, rfl⟩ : ∃ n', n = n' + 1 := ⟨n - 1, by simp at hn; omega⟩
      have hpl : s.groups.length = pre.length := by rw [e1]; simp
      refine ⟨[], f, fun K => ?_, by simpa [grpE] using Ends.pure, rfl⟩
      simp only [L_ra_groups_0, B_ra_groups_0, hgr, lst_n, List.length_map, hpl, Int.lt_irrefl, decide_false, br_f, List.append_nil]
    | cons x l ih =>
      intro pre js ns n f hg e1 hf hn hj hmem
      simp only [List.length_cons] at hn
      obtain ⟨n, rfl⟩ : ∃ n', n = n' + 1 := ⟨n - 1, by omega⟩
      have hlen : s.groups.length = pre.length + (l.length + 1) := by rw [e1]; simp
      have hi : pre.length < s.groups.length := by omega
      have hx : s.groups[pre.length] = x := by simp [e1]
      have hi2 : ((pre.length : Nat) : Int) < ((s.groups.length : Nat) : Int) := by omega
      obtain ⟨u, f1, g1, g2⟩ := S_asks (m := m) hR.ps hR.at_ hR.ok 16 (k + 1) x (hf x (.head _)) (by omega) f hg
      have hgd1 := g2.good hg
      have hgd2 : Good (if memG u.num js = true then fail1 f1 81 x.at_ else f1) := by
        split
        · exact fail1_good hgd1 (by decide)
        · exact hgd1
      obtain ⟨gs, f3, g3, g4, g5⟩ := ih (pre ++ [x]) (js ++ [u.num]) (u.num :: ns) n (if memG u.num js = true then fail1 f1 81 x.at_ else f1) hgd2 (by rw [e1]; simp) (fun y hy => hf y (.tail _ hy)) (by omega) (by simp [hj]) (fun y => by simp [hmem]; exact or_comm)
      simp only [snoc_len] at g3
      have hms : memG u.num ns = memG u.num js := by rw [Bool.eq_iff_iff, memG_iff, memG_iff]; exact hmem _
      refine ⟨u.num :: gs, f3, fun K => ?_, ?_, by simp [g5]⟩
      · have hb2 : ((js.map eI).length + 1) * 8 ≤ 140737488355328 := by simp; omega
        have e3 : js.map eI ++ [PV.int .i64 u.num] = (js ++ [u.num]).map eI := by simp [eI]
        have hnum : (sTerm true u).Num = u.num := rfl
        have hat : (sExpr m x).At = x.at_ := rfl
        have n1 : (lst m (s.groups.map (eExpr m))).n = s.groups.length := by simp
        simp only [L_ra_groups_0, B_ra_groups_0, hgr, n1, hi2, decide_true, br_t, Int.natCast_nonneg, true_and, Int.toNat_natCast, lst_map_g hi, hx, as_Expr, g1, hnum, hat, S_among (k + 1) (by omega) u.num js (by omega), S_rbad (k + 1) (by omega), Bool.not_not, S_rfails (k + 1) (by omega)]
        rw [W_succ (by omega)]
        have hX : ∀ X : Flt → Prop, br (decide (f1.1 = 0)) (br (memG u.num js) (X (if f1.1 = 0 then (81, x.at_) else f1)) (X f1)) (X f1) = X (if memG u.num js = true then fail1 f1 81 x.at_ else f1) := by
          intro X
          by_cases h0 : f1.1 = 0
          · rw [decide_eq_true h0, br_t]
            cases memG u.num js
            · rfl
            · simp [fail1, h0]
          · rw [decide_eq_false h0, br_f]
            cases memG u.num js
            · rfl
            · simp [fail1, h0]
        rw [hX fun f => ((js.map eI).length + 1) * 8 ≤ 140737488355328 ∧ L_ra_groups_0 (TT (k + 1)) n ((pre.length + 1 : Nat) : Int) (sAsk m c ps tb f) (sStmt m s) (js.map eI ++ [PV.int .i64 u.num]) K]
        rw [and_l hb2, e3, g3]
        simp
      · cases hmm : memG u.num js
        · rw [hmm] at g4
          simp only [Bool.false_eq_true, if_false] at g4
          refine g2.step (R' := match grpE (envOf ps ts) (u.num :: ns) l with | .error f => .error f | .ok gs => .ok (u.num :: gs)) (g4.map (fun e => by rw [e]) (fun g e => by rw [e])) (fun g e => ?_) (fun e => ?_)
          · simp only [grpE, e]
          · simp only [grpE, e, hms, hmm, Bool.false_eq_true, if_false]
            cases grpE (envOf ps ts) (u.num :: ns) l <;> rfl
        · rw [hmm] at g4
          simp only [if_true] at g4
          by_cases h0 : f1.1 = 0
          · have hbad : (fail1 f1 81 x.at_).1 ≠ 0 := by simp [fail1, h0]
            have e3 : f3 = fail1 f1 81 x.at_ := by
              rcases g4 with ⟨-, h⟩ | ⟨h, -⟩
              · exact h
              · exact absurd h hbad
            refine g2.step (R' := .error (81, x.at_)) (e3 ▸ fail1_ends (by decide)) (fun g e => ?_) (fun e => ?_)
            · simp only [grpE, e]
            · simp only [grpE, e, hms, hmm, if_true]
          · have hb1 : fail1 f1 81 x.at_ = f1 := by simp [fail1, h0]
            rw [hb1] at g4
            have e3 : f3 = f1 := by
              rcases g4 with ⟨-, h⟩ | ⟨h, -⟩
              · exact h
              · exact absurd h h0
            refine g2.step (R' := .error (81, x.at_)) (.inl ⟨h0, e3⟩) (fun g e => ?_) (fun e => ?_)
            · simp only [grpE, e]
            · simp only [grpE, e, hms, hmm, if_true]
  obtain ⟨gs, f', h1, h2, h3⟩ := key s.groups [] [] [] (k + 1) f hg rfl he (by omega) rfl (fun x => Iff.rfl)
  refine ⟨gs, f', fun K => ?_, h2, by omega⟩
  have z : ((0 : Nat) : Int) = 0 := rfl
  simp only [List.nil_append, List.length_nil, List.map_nil, z] at h1
  show F_ra_groups (TT (k + 1)) _ _ K = _
  simp only [F_ra_groups, TT_fuel, h1]
end
end Go.RX
namespace Go.RX
section
variable {m : Bool} {c : Catalog} {ps : List S_i_Param} {tb : List Int} {ts : List Table} (hR : RefOK m c ps tb ts)
theorem ritm0 (k : Nat) (hk : 40 ≤ k) (s : Stmt) (a1 : Arr) (x1 : S_ra) (K0 : Arr → Bool → S_ra → S_i_Stmt → Prop) : ∀ (l pre : List Expr) (b : Bool) (n : Nat), s.items = pre ++ l → l.length < n → s.items.length ≤ 16 →
    L_ra_items_0 (TT k) n a1 b (pre.length : Nat) x1 (sStmt m s) K0 = K0 a1 (b || l.any fun e => isAgg e.kind) x1 (sStmt m s)
  | [], pre, b, n, e1, hn, _ => by
    obtain ⟨n, rfl⟩ : ∃ n', n = n' + 1 := ⟨n - 1, by simp at hn; omega⟩
    have hit : (sStmt m s).Items = lst m (s.items.map (eExpr m)) := rfl
    have hpl : s.items.length = pre.length := by rw [e1]; simp
    simp [L_ra_items_0, B_ra_items_0, hit, hpl]
  | x :: l, pre, b, n, e1, hn, h16 => by
    simp only [List.length_cons] at hn
    obtain ⟨n, rfl⟩ : ∃ n', n = n' + 1 := ⟨n - 1, by omega⟩
    have hit : (sStmt m s).Items = lst m (s.items.map (eExpr m)) := rfl
    have hlen : s.items.length = pre.length + (l.length + 1) := by rw [e1]; simp
    have hi : pre.length < s.items.length := by omega
    have hx : s.items[pre.length] = x := by simp [e1]
    have hi2 : ((pre.length : Nat) : Int) < ((s.items.length : Nat) : Int) := by omega
    have hkd : (sExpr m x).Kind = x.kind := rfl
    have e := fun b => ritm0 k hk s a1 x1 K0 l (pre ++ [x]) b n (by rw [e1]; simp) (by omega) h16
    simp only [snoc_len] at e
    simp only [L_ra_items_0, B_ra_items_0]
    rw [W_succ (by omega)]
    simp only [hit, lst_n, List.length_map, hi2, decide_true, br_t, Int.natCast_nonneg, true_and, Int.toNat_natCast, lst_map_g hi, hx, as_Expr, hkd, S_isAgg' k (by omega), e, List.any_cons]
    cases b <;> simp
include hR
theorem R_items (k : Nat) (hk : 90 ≤ k) (s : Stmt) (h16 : s.items.length ≤ 16) (he : ∀ x ∈ s.items, fineE 16 x) (gs : List Int) (hgs : gs.length ≤ 8) (f : Flt) (hg : Good f) : ∃ is f', (∀ K, (TT k).f_ra_items (sStmt m s) (lst true (gs.map eI)) (sAsk m c ps tb f) K = K (lst true (is.map (eTerm true))) (groupedS s) (sAsk m c ps tb f')) ∧ Ends f f' (mapE (itemE (envOf ps ts) (groupedS s) gs) s.items) is ∧ is.length ≤ 16 := by
  obtain ⟨k, rfl⟩ : ∃ k', k = k' + 2 := ⟨k - 2, by omega⟩
  have hit : (sStmt m s).Items = lst m (s.items.map (eExpr m)) := rfl
  have hgr : (sStmt m s).Groups = lst m (s.groups.map (eExpr m)) := rfl
  have key : ∀ (l pre : List Expr) (r : List Term) (n : Nat) (f : Flt), Good f → s.items = pre ++ l → (∀ x ∈ l, fineE 16 x) → l.length < n → r.length = pre.length →
      ∃ is f', (∀ K, L_ra_items_2 (TT (k + 1)) n (lst true (gs.map eI)) (groupedS s) (pre.length : Nat) (sAsk m c ps tb f) (sStmt m s) (r.map (eTerm true)) K = K (groupedS s) (sAsk m c ps tb f') ((r ++ is).map (eTerm true))) ∧ Ends f f' (mapE (itemE (envOf ps ts) (groupedS s) gs) l) is ∧ is.length = l.length := by
    intro l
    induction l with
    | nil =>
      intro pre r n f _ e1 _ hn _
      obtain ⟨n, rfl⟩ : ∃ n', n = n' + 1 := ⟨n - 1, by simp at hn; omega⟩
      have hpl : s.items.length = pre.length := by rw [e1]; simp
      refine ⟨[], f, fun K => ?_, by simpa [mapE] using Ends.pure, rfl⟩
      simp only [L_ra_items_2, B_ra_items_2, hit, lst_n, List.length_map, hpl, Int.lt_irrefl, decide_false, br_f, List.append_nil]
    | cons x l ih =>
      intro pre r n f hg e1 hf hn hr
      simp only [List.length_cons] at hn
      obtain ⟨n, rfl⟩ : ∃ n', n = n' + 1 := ⟨n - 1, by omega⟩
      have hlen : s.items.length = pre.length + (l.length + 1) := by rw [e1]; simp
      have hi : pre.length < s.items.length := by omega
      have hx : s.items[pre.length] = x := by simp [e1]
      have hi2 : ((pre.length : Nat) : Int) < ((s.items.length : Nat) : Int) := by omega
      obtain ⟨u, f1, g1, g2⟩ := S_asks (m := m) hR.ps hR.at_ hR.ok 16 (k + 1) x (hf x (.head _)) (by omega) f hg
      have hgd1 := g2.good hg
      obtain ⟨bad, hbad⟩ : ∃ b, b = (groupedS s && !isAgg x.kind && !(decide (u.op = 3) && memG u.num gs)) := ⟨_, rfl⟩
      have hgd2 : Good (if bad = true then fail1 f1 130 x.at_ else f1) := by
        split
        · exact fail1_good hgd1 (by decide)
        · exact hgd1
      obtain ⟨is, f3, g3, g4, g5⟩ := ih (pre ++ [x]) (r ++ [u]) n (if bad = true then fail1 f1 130 x.at_ else f1) hgd2 (by rw [e1]; simp) (fun y hy => hf y (.tail _ hy)) (by omega) (by simp [hr])
      simp only [snoc_len] at g3
      refine ⟨u :: is, f3, fun K => ?_, ?_, by simp [g5]⟩
      · have hb : ((r.map (eTerm true)).length + 1) * 80 ≤ 140737488355328 := by simp; omega
        have hnum : (sTerm true u).Num = u.num := rfl
        have hop : (sTerm true u).Op = u.op := rfl
        have hat : (sExpr m x).At = x.at_ := rfl
        have hkd : (sExpr m x).Kind = x.kind := rfl
        have n1 : (lst m (s.items.map (eExpr m))).n = s.items.length := by simp
        simp only [L_ra_items_2, B_ra_items_2, hit, n1, hi2, decide_true, br_t, Int.natCast_nonneg, true_and, Int.toNat_natCast, lst_map_g hi, hx, as_Expr, g1, hnum, hop, hat, hkd, S_isAgg' (k + 1) (by omega), S_among' (k + 1) (by omega) u.num true gs (by omega), S_rbad (k + 1) (by omega), Bool.not_not, S_rfails (k + 1) (by omega), beq_dec, eTerm_fold]
        rw [W_succ (by omega)]
        rw [and_l hb, and_l hb, snoc_e]
        have hX : ∀ X : Flt → Prop, X (if bad = true then fail1 f1 130 x.at_ else f1) = br (decide (u.op = 3))
            (br (decide (f1.1 = 0)) (br (groupedS s) (br (!isAgg x.kind) (br (!memG u.num gs) (X (if f1.1 = 0 then (130, x.at_) else f1)) (X f1)) (X f1)) (X f1)) (X f1))
            (br (decide (f1.1 = 0)) (br (groupedS s) (br (!isAgg x.kind) (X (if f1.1 = 0 then (130, x.at_) else f1)) (X f1)) (X f1)) (X f1)) := by
          intro X
          rw [hbad]
          by_cases h0 : f1.1 = 0
          · rw [decide_eq_true h0]
            cases decide (u.op = 3) <;> cases groupedS s <;> cases isAgg x.kind <;> cases memG u.num gs <;> simp [fail1, h0]
          · rw [decide_eq_false h0]
            have : fail1 f1 130 x.at_ = f1 := by simp [fail1, h0]
            rw [this]
            cases decide (u.op = 3) <;> simp
        have hY := hX fun f => L_ra_items_2 (TT (k + 1)) n (lst true (gs.map eI)) (groupedS s) ((pre.length + 1 : Nat) : Int) (sAsk m c ps tb f) (sStmt m s) ((r ++ [u]).map (eTerm true)) K
        rw [← hY, g3]
        simp
      · have hspec : ∀ u', askE (envOf ps ts) 16 x = .ok u' → u' = u → itemE (envOf ps ts) (groupedS s) gs x = if bad = true then .error (130, x.at_) else .ok u := by
          intro u' h1 h2
          subst h2
          simp only [itemE, h1, hbad, ask_op h1]
        cases hmm : bad
        · rw [hmm] at g4 hspec
          simp only [Bool.false_eq_true, if_false] at g4 hspec
          refine g2.step (R' := match mapE (itemE (envOf ps ts) (groupedS s) gs) l with | .error f => .error f | .ok ys => .ok (u :: ys)) (g4.map (fun e => by rw [e]) (fun g e => by rw [e])) (fun g e => ?_) (fun e => ?_)
          · simp only [mapE, itemE, e]
          · simp only [mapE, hspec u e rfl]
            cases mapE (itemE (envOf ps ts) (groupedS s) gs) l <;> rfl
        · rw [hmm] at g4 hspec
          simp only [if_true] at g4 hspec
          have hf3 : Ends f1 f3 (.error (130, x.at_) : Except Flt (List Term)) (u :: is) := by
            by_cases h0 : f1.1 = 0
            · have hb1 : (fail1 f1 130 x.at_).1 ≠ 0 := by simp [fail1, h0]
              have e3 : f3 = fail1 f1 130 x.at_ := by
                rcases g4 with ⟨-, h⟩ | ⟨h, -⟩
                · exact h
                · exact absurd h hb1
              rw [e3]
              exact fail1_ends (by decide)
            · have hb1 : fail1 f1 130 x.at_ = f1 := by simp [fail1, h0]
              rw [hb1] at g4
              rcases g4 with ⟨-, h⟩ | ⟨h, -⟩
              · exact .inl ⟨h0, h⟩
              · exact absurd h h0
          refine g2.step hf3 (fun g e => ?_) (fun e => ?_)
          · simp only [mapE, itemE, e]
          · simp only [mapE, hspec u e rfl]
  obtain ⟨is, f', h1, h2, h3⟩ := key s.items [] [] (k + 1) f hg rfl he (by omega) rfl
  refine ⟨is, f', fun K => ?_, h2, by omega⟩
  have z : ((0 : Nat) : Int) = 0 := rfl
  simp only [List.nil_append, List.length_nil, List.map_nil, z] at h1
  show F_ra_items (TT (k + 1)) _ _ _ K = _
  have e0 := fun b K0 => ritm0 (m := m) (k + 1) (by omega) s (lst true (gs.map eI)) (sAsk m c ps tb f) K0 s.items [] b (k + 1) rfl (by omega) h16
  simp only [List.length_nil, z] at e0
  have hgd : (decide (((s.groups.length : Nat) : Int) > (0 : Int)) || s.items.any fun e => isAgg e.kind) = groupedS s := by
    have : decide (((s.groups.length : Nat) : Int) > (0 : Int)) = decide (s.groups.length ≠ 0) := decide_eq_decide.2 (by omega)
    rw [this, groupedS]
  simp only [F_ra_items, TT_fuel, e0, hgr, lst_n, List.length_map, hgd, h1]
theorem R_star (k : Nat) (hk : 90 ≤ k) (s : Stmt) (f : Flt) : ∃ is f', (∀ K, (TT k).f_ra_star (sStmt m s) (sAsk m c ps tb f) K = K (lst true (is.map (eTerm true))) (sAsk m c ps tb f')) ∧ Ends f f' (starE s ts) is ∧ is.length ≤ 32 := by
  obtain ⟨k, rfl⟩ : ∃ k', k = k' + 2 := ⟨k - 2, by omega⟩
  have hgr : (sStmt m s).Groups = lst m (s.groups.map (eExpr m)) := rfl
  have hat : (sStmt m s).At = s.at_ := rfl
  have hlc := colsT_len hR.ok
  have hcat : ∀ f, S_i_Catalog.mk (sAsk m c ps tb f).c_Tables (sAsk m c ps tb f).c_Procs = sCatalog m c := fun _ => rfl
  have htb : ∀ f, (sAsk m c ps tb f).tables = lst true (tb.map eI) := fun _ => rfl
  have loop : ∀ (f : Flt) (K : S_ra → List PV → Prop), L_ra_star_0 (TT (k + 1)) (k + 1) (lst true ((colsT ts).map eCol)) 0 (sAsk m c ps tb f) [] K = K (sAsk m c ps tb f) ((starTerms 0 (colsT ts)).map (eTerm true)) := by
    intro f K
    have key : ∀ (l pre : List S_i_Column) (n : Nat), colsT ts = pre ++ l → l.length < n →
        L_ra_star_0 (TT (k + 1)) n (lst true ((colsT ts).map eCol)) (pre.length : Nat) (sAsk m c ps tb f) ((starTerms 0 pre).map (eTerm true)) K = K (sAsk m c ps tb f) ((starTerms 0 (colsT ts)).map (eTerm true)) := by
      intro l
      induction l with
      | nil =>
        intro pre n e1 hn
        obtain ⟨n, rfl⟩ : ∃ n', n = n' + 1 := ⟨n - 1, by simp at hn; omega⟩
        have hpl : (colsT ts).length = pre.length := by rw [e1]; simp
        have hpe : colsT ts = pre := by rw [e1]; simp
        simp only [L_ra_star_0, B_ra_star_0, lst_n, List.length_map, hpl, Int.lt_irrefl, decide_false, br_f]
        rw [hpe]
      | cons x l ih =>
        intro pre n e1 hn
        simp only [List.length_cons] at hn
        obtain ⟨n, rfl⟩ : ∃ n', n = n' + 1 := ⟨n - 1, by omega⟩
        have hlen : (colsT ts).length = pre.length + (l.length + 1) := by rw [e1]; simp
        have hi : pre.length < (colsT ts).length := by omega
        have hx : (colsT ts)[pre.length] = x := by simp [e1]
        have hi2 : ((pre.length : Nat) : Int) < (((colsT ts).length : Nat) : Int) := by omega
        have e := ih (pre ++ [x]) n (by rw [e1]; simp) (by omega)
        simp only [snoc_len] at e
        have hst : starTerms 0 (pre ++ [x]) = starTerms 0 pre ++ [⟨3, ((pre.length : Nat) : Int), x.Type_, 0, 0, noB, []⟩] := by
          rw [starTerms_append]
          simp [starTerms]
        rw [hst] at e
        have hb : (((starTerms 0 pre).map (eTerm true)).length + 1) * 80 ≤ 140737488355328 := by simp [starTerms_len]; omega
        have htm : PV.agg [.int .i64 3, .int .i64 ((pre.length : Nat) : Int), .int .i64 x.Type_, .int .i64 0, .int .i64 0, .str (ByteArray.mk #[]), .arr ((lst true []).m) ((lst true []).n) ((lst true []).g)] = eTerm true ⟨3, ((pre.length : Nat) : Int), x.Type_, 0, 0, noB, []⟩ := by
          rw [eTerm_s]
          rfl
        have n1 : (lst true ((colsT ts).map eCol)).n = (colsT ts).length := by simp
        simp only [L_ra_star_0, B_ra_star_0, n1, hi2, decide_true, br_t, Int.natCast_nonneg, true_and, Int.toNat_natCast, lst_map_g hi, hx, as_Column]
        rw [W_succ (by omega), and_l hb, htm, snoc_e, e]
    have := key (colsT ts) [] (k + 1) rfl (by omega)
    exact this
  have hF : ∀ K, (TT (k + 2)).f_ra_star (sStmt m s) (sAsk m c ps tb f) K = F_ra_star (TT (k + 1)) (sStmt m s) (sAsk m c ps tb f) K := fun _ => rfl
  have d16 : decide ((((colsT ts).length : Nat) : Int) > 16) = decide ((colsT ts).length > 16) := decide_eq_decide.2 (by omega)
  match hgs : s.groups with
  | [] =>
    have d0 : decide ((((([] : List Expr).length : Nat)) : Int) > 0) = false := rfl
    refine ⟨starTerms 0 (colsT ts), if (colsT ts).length > 16 then fail1 f 131 s.at_ else f, fun K => ?_, ?_, by rw [starTerms_len]; omega⟩
    · rw [hF]
      simp only [F_ra_star, hgr, hgs, lst_n, List.length_map, d0, br_f, hcat, htb, S_Long (k + 1) (by omega) m c tb ts hR.at_ hR.ok, d16, S_rfails (k + 1) (by omega), TT_fuel, loop, hat]
      by_cases h : (colsT ts).length > 16
      · rw [decide_eq_true h, br_t, if_pos h]
        rfl
      · rw [decide_eq_false h, br_f, if_neg h]
    · simp only [starE, hgs]
      by_cases h : (colsT ts).length > 16
      · rw [if_pos h, if_pos h]
        exact fail1_ends (by decide)
      · rw [if_neg h, if_neg h]
        exact .pure
  | e :: r =>
    have d0 : decide (((((e :: r).length : Nat)) : Int) > 0) = true := decide_eq_true (by simp)
    have hg0 : (lst m ((e :: r).map (eExpr m))).g 0 = eExpr m e := rfl
    have d1 : (0 : Int) < ((((e :: r).length : Nat)) : Int) := by simp
    have hae : (sExpr m e).At = e.at_ := rfl
    refine ⟨starTerms 0 (colsT ts), if (colsT ts).length > 16 then fail1 (fail1 f 130 e.at_) 131 s.at_ else fail1 f 130 e.at_, fun K => ?_, ?_, by rw [starTerms_len]; omega⟩
    · rw [hF]
      simp only [F_ra_star, hgr, hgs, lst_n, List.length_map, d0, br_t, d1, Int.le_refl, true_and, hg0, as_Expr, hae, hcat, htb, S_rfails (k + 1) (by omega), S_Long (k + 1) (by omega) m c tb ts hR.at_ hR.ok, d16, TT_fuel, loop, hat]
      by_cases h : (colsT ts).length > 16
      · rw [decide_eq_true h, br_t, if_pos h]
        rfl
      · rw [decide_eq_false h, br_f, if_neg h]
        rfl
    · simp only [starE, hgs]
      have h1 : (fail1 f 130 e.at_).1 ≠ 0 := by
        by_cases h : f.1 = 0
        · simp [fail1, h]
        · simpa [fail1, h] using h
      have h2 : fail1 (fail1 f 130 e.at_) 131 s.at_ = fail1 f 130 e.at_ := by
        rw [fail1, if_neg h1]
      rw [h2]
      have : (if (colsT ts).length > 16 then fail1 f 130 e.at_ else fail1 f 130 e.at_) = fail1 f 130 e.at_ := by split <;> rfl
      rw [this]
      exact fail1_ends (by decide)
omit hR in
theorem rsort (k : Nat) (hk : 40 ≤ k) (s : Stmt) (h8 : s.sorts.length ≤ 8) (n2 : Int) (a1 a2 a3 : Arr) (is : List Term) (b1 : Bool) (a5 : Arr) (n3 : Int) (b2 : Bool) : ∀ (l pre : List S_i_Sort) (r : List S_i_Sort) (n : Nat) (f : Flt), Good f → s.sorts = pre ++ l → l.length < n → r.length = pre.length →
    ∃ os f', (∀ K, L_ra_choose_0 (TT k) n (pre.length : Nat) (sAsk m c ps tb f) (sStmt m s) n2 a1 a2 a3 (lst true (is.map (eTerm true))) b1 a5 (r.map eSort) n3 b2 K = K (sAsk m c ps tb f') (sStmt m s) n2 a1 a2 a3 (lst true (is.map (eTerm true))) b1 a5 ((r ++ os).map eSort) n3 b2) ∧ Ends f f' (mapE (sortE is.length) l) os
  | [], pre, r, n, f, _, e1, hn, _ => by
    obtain ⟨n, rfl⟩ : ∃ n', n = n' + 1 := ⟨n - 1, by simp at hn; omega⟩
    have hso : (sStmt m s).Sorts = lst m (s.sorts.map eSort) := rfl
    have hpl : s.sorts.length = pre.length := by rw [e1]; simp
    refine ⟨[], f, fun K => ?_, by simpa [mapE] using Ends.pure⟩
    simp only [L_ra_choose_0, B_ra_choose_0, hso, lst_n, List.length_map, hpl, Int.lt_irrefl, decide_false, br_f, List.append_nil]
  | x :: l, pre, r, n, f, hg, e1, hn, hr => by
    simp only [List.length_cons] at hn
    obtain ⟨n, rfl⟩ : ∃ n', n = n' + 1 := ⟨n - 1, by omega⟩
    have hso : (sStmt m s).Sorts = lst m (s.sorts.map eSort) := rfl
    have hlen : s.sorts.length = pre.length + (l.length + 1) := by rw [e1]; simp
    have hi : pre.length < s.sorts.length := by omega
    have hx : s.sorts[pre.length] = x := by simp [e1]
    have hi2 : ((pre.length : Nat) : Int) < ((s.sorts.length : Nat) : Int) := by omega
    obtain ⟨os, f', h1, h2⟩ := rsort k hk s h8 n2 a1 a2 a3 is b1 a5 n3 b2 l (pre ++ [x]) (r ++ [⟨x.Item, x.Desc, 0⟩]) n (if x.Item < 1 ∨ x.Item > ((is.length : Nat) : Int) then fail1 f 82 x.At else f) (by
      split
      · exact fail1_good hg (by decide)
      · exact hg) (by rw [e1]; simp) (by omega) (by simp [hr])
    simp only [snoc_len] at h1
    refine ⟨⟨x.Item, x.Desc, 0⟩ :: os, f', fun K => ?_, ?_⟩
    · have hb : ((r.map eSort).length + 1) * 24 ≤ 140737488355328 := by simp; omega
      have e3 : r.map eSort ++ [PV.agg [.int .i64 x.Item, .bool x.Desc, .int .i64 0]] = (r ++ [(⟨x.Item, x.Desc, 0⟩ : S_i_Sort)]).map eSort := by simp [eSort, p_i_Sort]
      have n1 : (lst m (s.sorts.map eSort)).n = s.sorts.length := by simp
      have n4 : (lst true (is.map (eTerm true))).n = is.length := by simp
      simp only [L_ra_choose_0, B_ra_choose_0, hso, n1, n4, hi2, decide_true, br_t, Int.natCast_nonneg, true_and, Int.toNat_natCast, lst_map_g hi, hx, as_Sort, S_rfails k (by omega)]
      rw [W_succ (by omega)]
      rw [and_l hb, and_l hb, e3]
      have hX : ∀ X : Flt → Prop, br (decide (x.Item < 1)) (X (if f.1 = 0 then (82, x.At) else f)) (br (decide (x.Item > ((is.length : Nat) : Int))) (X (if f.1 = 0 then (82, x.At) else f)) (X f)) = X (if x.Item < 1 ∨ x.Item > ((is.length : Nat) : Int) then fail1 f 82 x.At else f) := by
        intro X
        by_cases c1 : x.Item < 1
        · rw [decide_eq_true c1, br_t, if_pos (show x.Item < 1 ∨ x.Item > ((is.length : Nat) : Int) from .inl c1)]
          rfl
        · by_cases c2 : x.Item > ((is.length : Nat) : Int)
          · rw [decide_eq_false c1, br_f, decide_eq_true c2, br_t, if_pos (show x.Item < 1 ∨ x.Item > ((is.length : Nat) : Int) from .inr c2)]
            rfl
          · have c3 : ¬ (x.Item < 1 ∨ x.Item > ((is.length : Nat) : Int)) := fun h => h.elim c1 c2
            rw [decide_eq_false c1, br_f, decide_eq_false c2, br_f, if_neg c3]
      have hY := hX fun f => L_ra_choose_0 (TT k) n ((pre.length + 1 : Nat) : Int) (sAsk m c ps tb f) (sStmt m s) n2 a1 a2 a3 (lst true (is.map (eTerm true))) b1 a5 ((r ++ [(⟨x.Item, x.Desc, 0⟩ : S_i_Sort)]).map eSort) n3 b2 K
      rw [hY, h1]
      simp
    · by_cases hc : x.Item < 1 ∨ x.Item > ((is.length : Nat) : Int)
      · have hs : mapE (sortE is.length) (x :: l) = .error (82, x.At) := by simp only [mapE, sortE, if_pos hc]
        rw [if_pos hc] at h2
        rw [hs]
        by_cases h0 : f.1 = 0
        · have hb1 : (fail1 f 82 x.At).1 ≠ 0 := by simp [fail1, h0]
          have e3 : f' = fail1 f 82 x.At := by
            rcases h2 with ⟨-, h⟩ | ⟨h, -⟩
            · exact h
            · exact absurd h hb1
          rw [e3]
          exact fail1_ends (by decide)
        · have hb1 : fail1 f 82 x.At = f := by simp [fail1, h0]
          rw [hb1] at h2
          rcases h2 with ⟨-, h⟩ | ⟨h, -⟩
          · exact .inl ⟨h0, h⟩
          · exact absurd h h0
      · rw [if_neg hc] at h2
        exact h2.map (fun e => by simp only [mapE, sortE, if_neg hc, e]) (fun g e => by simp only [mapE, sortE, if_neg hc, e])
omit hR in
theorem rtype (k : Nat) (x1 : S_ra) (n2 : Int) (a1 a2 a3 : Arr) (is : List Term) (h : is.length ≤ 100) (b1 : Bool) (a5 : Arr) (r1 r2 : List PV) (n3 : Int) (b2 : Bool) (K : S_ra → Int → Arr → Arr → Arr → Arr → Bool → Arr → List PV → List PV → List PV → Int → Bool → Prop) : ∀ (l pre : List Term) (n : Nat), is = pre ++ l → l.length < n →
    L_ra_choose_2 (TT k) n (pre.length : Nat) x1 n2 a1 a2 a3 (lst true (is.map (eTerm true))) b1 a5 r1 r2 ((pre.map (·.type_)).map eI) n3 b2 K = K x1 n2 a1 a2 a3 (lst true (is.map (eTerm true))) b1 a5 r1 r2 ((is.map (·.type_)).map eI) n3 b2
  | [], pre, n, e1, hn => by
    obtain ⟨n, rfl⟩ : ∃ n', n = n' + 1 := ⟨n - 1, by simp at hn; omega⟩
    simp [L_ra_choose_2, B_ra_choose_2, e1]
  | x :: l, pre, n, e1, hn => by
    simp only [List.length_cons] at hn
    obtain ⟨n, rfl⟩ : ∃ n', n = n' + 1 := ⟨n - 1, by omega⟩
    have hlen : is.length = pre.length + (l.length + 1) := by rw [e1]; simp
    have hi : pre.length < is.length := by omega
    have hx : is[pre.length] = x := by simp [e1]
    have e := rtype k x1 n2 a1 a2 a3 is h b1 a5 r1 r2 n3 b2 K l (pre ++ [x]) n (by rw [e1]; simp) (by omega)
    simp only [snoc_len] at e
    have ht : (sTerm true x).Type_ = x.type_ := rfl
    have hb : (((pre.map (·.type_)).map eI).length + 1) * 8 ≤ 140737488355328 := by simp; omega
    have e3 : (pre.map (·.type_)).map eI ++ [PV.int .i64 x.type_] = ((pre ++ [x]).map (·.type_)).map eI := by simp [eI]
    have hi2 : ((pre.length : Nat) : Int) < ((is.length : Nat) : Int) := by omega
    have n4 : (lst true (is.map (eTerm true))).n = is.length := by simp
    simp only [L_ra_choose_2, B_ra_choose_2, n4]
    rw [W_succ (by omega)]
    simp only [hi2, decide_true, br_t, Int.natCast_nonneg, true_and, Int.toNat_natCast, lst_map_g hi, hx, as_Term, ht]
    rw [and_l hb, e3, e]
theorem R_choose (k : Nat) (hk : 120 ≤ k) (s : Stmt) (hs : StmtOK s) (kind : Int) (ks : List Int) (on wh : List Term) (f : Flt) (hg : Good f) : ∃ t f', (∀ K, (TT k).f_ra_choose (sStmt m s) kind (lst true (ks.map eI)) (lst true (on.map (eTerm true))) (lst true (wh.map (eTerm true))) false (sAsk m c ps tb f) K = K (sTyped true t) (sAsk m c ps tb f')) ∧
    Ends f f' (match chooseE (envOf ps ts) s ts with | .error f => .error f | .ok x => .ok (⟨kind, ks, on, wh, x.1, [], x.2.1, x.2.2.1, x.2.2.2, s.limit, x.1.map (·.type_)⟩ : Typed)) t := by
  obtain ⟨k, rfl⟩ : ∃ k', k = k' + 3 := ⟨k - 3, by omega⟩
  have hF : ∀ K, (TT (k + 3)).f_ra_choose (sStmt m s) kind (lst true (ks.map eI)) (lst true (on.map (eTerm true))) (lst true (wh.map (eTerm true))) false (sAsk m c ps tb f) K = F_ra_choose (TT (k + 2)) (sStmt m s) kind (lst true (ks.map eI)) (lst true (on.map (eTerm true))) (lst true (wh.map (eTerm true))) false (sAsk m c ps tb f) K := fun _ => rfl
  have hst : (sStmt m s).Star = s.star := rfl
  have hgr : (sStmt m s).Groups = lst m (s.groups.map (eExpr m)) := rfl
  have hl : (sStmt m s).Limit = lst m (s.limit.map eI) := rfl
  have ll := hs.limit
  have z : ((0 : Nat) : Int) = 0 := rfl
  obtain ⟨gs, f1, g1, g2, g3⟩ := R_groups hR (k + 2) (by omega) s hs.groups.1 hs.groups.2 f hg
  have hg1 := g2.good hg
  have tail : ∀ (is : List Term) (b : Bool) (f2 : Flt), Good f2 → is.length ≤ 100 → ∃ os f', (∀ K : S_i_Typed → S_ra → Prop, L_ra_choose_0 (TT (k + 2)) (k + 2) 0 (sAsk m c ps tb f2) (sStmt m s) kind (lst true (ks.map eI)) (lst true (on.map (eTerm true))) (lst true (wh.map (eTerm true))) (lst true (is.map (eTerm true))) b (lst true (gs.map eI)) [] 0 false
       (fun x107 x108 n109 a110 a111 a112 a113 b114 a115 r116 n117 b118 =>
       (∀ i, i < x108.Limit.n → pvSize (x108.Limit.g i) = 1) ∧ (0 + ((List.range x108.Limit.n).map x108.Limit.g).length) * 8 ≤ 140737488355328 ∧
       L_ra_choose_2 (TT (k + 2)) (k + 2) 0 x107 n109 a110 a111 a112 a113 b114 a115 r116 (([]) ++ ((List.range x108.Limit.n).map x108.Limit.g)) ([]) n117 b118
       (fun x149 n150 a151 a152 a153 a154 b155 a156 r157 r158 r159 n160 b161 =>
       K ⟨n150, a151, a152, a153, a154, (lst true []), b155, a156, (lst true r157), (lst true r158), (lst true r159)⟩ x149)) =
      K (sTyped true ⟨kind, ks, on, wh, is, [], b, gs, os, s.limit, is.map (·.type_)⟩) (sAsk m c ps tb f')) ∧ Ends f2 f' (mapE (sortE is.length) s.sorts) os := by
    intro is b f2 hg2 his
    obtain ⟨os, f', h1, h2⟩ := rsort (m := m) (c := c) (ps := ps) (tb := tb) (k + 2) (by omega) s hs.sorts kind (lst true (ks.map eI)) (lst true (on.map (eTerm true))) (lst true (wh.map (eTerm true))) is b (lst true (gs.map eI)) 0 false s.sorts [] [] (k + 2) f2 hg2 rfl (by have := hs.sorts; omega) rfl
    simp only [List.nil_append, List.length_nil, List.map_nil, z] at h1
    refine ⟨os, f', fun K => ?_, h2⟩
    rw [h1]
    have hsz : (∀ i, i < s.limit.length → pvSize ((lst m (s.limit.map eI)).g i) = 1) = True := by
      simp only [eq_iff_iff, iff_true]
      intro i hi
      rw [lst_map_g hi]
      rfl
    have hr := range_lst m s.limit eI
    simp only [lst_n, List.length_map] at hr
    have g := fun K => rtype (k + 2) (sAsk m c ps tb f') kind (lst true (ks.map eI)) (lst true (on.map (eTerm true))) (lst true (wh.map (eTerm true))) is his b (lst true (gs.map eI)) (os.map eSort) (s.limit.map eI) 0 false K is [] (k + 2) rfl (by omega)
    simp only [List.length_nil, List.map_nil, z] at g
    have hb : (0 + s.limit.length) * 8 ≤ 140737488355328 := by omega
    simp only [hl, lst_n, List.length_map, hsz, true_and, hr, List.nil_append]
    rw [and_l hb, g]
    rfl
  have hfuel : (TT (k + 2)).fuel = k + 2 := rfl
  cases hstar : s.star
  · obtain ⟨is, f2, i1, i2, i3⟩ := R_items hR (k + 2) (by omega) s hs.items.1 hs.items.2 gs g3 f1 hg1
    obtain ⟨os, f3, t1, t2⟩ := tail is (groupedS s) f2 (i2.good hg1) (by omega)
    refine ⟨(⟨kind, ks, on, wh, is, [], groupedS s, gs, os, s.limit, is.map (·.type_)⟩ : Typed), f3, fun K => ?_, ?_⟩
    · rw [hF]
      simp only [F_ra_choose, g1, hst, hstar, br_f, i1]
      rw [hfuel]
      exact t1 K
    · have hN : Ends f1 f3 (match mapE (itemE (envOf ps ts) (groupedS s) gs) s.items with
          | .error f => .error f
          | .ok is => match mapE (sortE is.length) s.sorts with
            | .error f => .error f
            | .ok os => .ok (⟨kind, ks, on, wh, is, [], groupedS s, gs, os, s.limit, is.map (·.type_)⟩ : Typed)) ⟨kind, ks, on, wh, is, [], groupedS s, gs, os, s.limit, is.map (·.type_)⟩ := by
        refine i2.step (R' := match mapE (sortE is.length) s.sorts with
            | .error f => .error f
            | .ok os => .ok (⟨kind, ks, on, wh, is, [], groupedS s, gs, os, s.limit, is.map (·.type_)⟩ : Typed)) (t2.map (fun e => by rw [e]) (fun g e => by rw [e])) (fun g e => by rw [e]) (fun e => by rw [e])
      refine g2.step hN (fun g e => by simp only [chooseE, e]) (fun e => ?_)
      simp only [chooseE, e, hstar, Bool.false_eq_true, if_false]
      cases mapE (itemE (envOf ps ts) (groupedS s) gs) s.items with
      | error f => rfl
      | ok is =>
        simp only
        cases mapE (sortE is.length) s.sorts <;> rfl
  · obtain ⟨is, f2, i1, i2, i3⟩ := R_star hR (k + 2) (by omega) s f1
    have hgd : decide ((((sStmt m s).Groups.n : Nat) : Int) > (0 : Int)) = decide (s.groups.length ≠ 0) := decide_eq_decide.2 (by rw [hgr]; simp only [lst_n, List.length_map]; omega)
    obtain ⟨os, f3, t1, t2⟩ := tail is (decide (s.groups.length ≠ 0)) f2 (i2.good hg1) (by omega)
    refine ⟨(⟨kind, ks, on, wh, is, [], decide (s.groups.length ≠ 0), gs, os, s.limit, is.map (·.type_)⟩ : Typed), f3, fun K => ?_, ?_⟩
    · rw [hF]
      simp only [F_ra_choose, g1, hst, hstar, br_t, i1, hgd]
      rw [hfuel]
      exact t1 K
    · have hN : Ends f1 f3 (match starE s ts with
          | .error f => .error f
          | .ok is => match mapE (sortE is.length) s.sorts with
            | .error f => .error f
            | .ok os => .ok (⟨kind, ks, on, wh, is, [], decide (s.groups.length ≠ 0), gs, os, s.limit, is.map (·.type_)⟩ : Typed)) ⟨kind, ks, on, wh, is, [], decide (s.groups.length ≠ 0), gs, os, s.limit, is.map (·.type_)⟩ := by
        refine i2.step (R' := match mapE (sortE is.length) s.sorts with
            | .error f => .error f
            | .ok os => .ok (⟨kind, ks, on, wh, is, [], decide (s.groups.length ≠ 0), gs, os, s.limit, is.map (·.type_)⟩ : Typed)) (t2.map (fun e => by rw [e]) (fun g e => by rw [e])) (fun g e => by rw [e]) (fun e => by rw [e])
      refine g2.step hN (fun g e => by simp only [chooseE, e]) (fun e => ?_)
      simp only [chooseE, e, hstar, if_true]
      cases hse : starE s ts with
      | error f => rfl
      | ok is =>
        have hg0 : decide (s.groups.length ≠ 0) = false := by
          simp only [starE] at hse
          split at hse
          · cases hse
          · rename_i h
            rw [h]
            rfl
        simp only [hg0]
        cases mapE (sortE is.length) s.sorts <;> rfl
end
end Go.RX
namespace Go.RX
theorem R_names (m : Bool) (k : Nat) (hk : 40 ≤ k) (c : Catalog) (hc : c.tables.length ≤ 8) (ps : Arr) (s : Stmt) (K : Arr → Arr → Arr → Arr → Int → Int → Prop) : ∃ (ks : List Int) (f : Flt),
    (TT k).f_ra_names (sStmt m s) (lst m (c.tables.map (eTable m))) (lst m (c.procs.map (eProc m))) ps 0 0 K = K (lst true (ks.map eI)) (lst m (c.tables.map (eTable m))) (lst m (c.procs.map (eProc m))) ps f.1 f.2 ∧
    ((namesE c s = .ok ks ∧ f = (0, 0)) ∨ (namesE c s = .error f ∧ f.1 ≠ 0)) := by
  obtain ⟨k, rfl⟩ : ∃ k', k = k' + 2 := ⟨k - 2, by omega⟩
  have hF : (TT (k + 2)).f_ra_names (sStmt m s) (lst m (c.tables.map (eTable m))) (lst m (c.procs.map (eProc m))) ps 0 0 K = F_ra_names (TT (k + 1)) (sStmt m s) (lst m (c.tables.map (eTable m))) (lst m (c.procs.map (eProc m))) ps 0 0 K := rfl
  have hcat : S_i_Catalog.mk (lst m (c.tables.map (eTable m))) (lst m (c.procs.map (eProc m))) = sCatalog m c := rfl
  have h1 : (sStmt m s).Table = s.table := rfl
  have h2 : (sStmt m s).Join = s.join := rfl
  have h3 : (sStmt m s).At = s.at_ := rfl
  have h4 : (sStmt m s).JoinAt = s.joinAt := rfl
  have hfl : ∀ (x a : Int) (a1 a2 a3 : Arr) (K : Arr → Arr → Arr → Int → Int → Prop), (TT (k + 1)).f_ra_fails x a a1 a2 a3 0 0 K = K a1 a2 a3 x a := fun _ _ _ _ _ _ => rfl
  rw [hF]
  simp only [F_ra_names, hcat, h1, h2, h3, h4, S_ref13_table (k + 1) m c _ hc (by omega), hfl, noB_dec, namesE]
  cases tabOf c s.table with
  | none => exact ⟨[], (82, s.at_), rfl, .inr ⟨rfl, by simp⟩⟩
  | some j =>
    have : decide (idxOf (some j) < 0) = false := decide_eq_false (by simp only [idxOf]; omega)
    rw [this, br_f]
    by_cases hj : s.join = noB
    · rw [decide_eq_true hj, br_t]
      exact ⟨[((j : Nat) : Int)], (0, 0), rfl, .inl ⟨by simp only [if_pos hj], rfl⟩⟩
    · rw [decide_eq_false hj, br_f]
      cases tabOf c s.join with
      | none =>
        have d1 : decide (idxOf none < 0) = true := rfl
        have d2 : (idxOf none == idxOf (some j)) = false := by rw [beq_dec]; exact decide_eq_false (by simp only [idxOf]; omega)
        rw [d1, br_t, d2, br_f]
        exact ⟨[((j : Nat) : Int), -1], (82, s.joinAt), rfl, .inr ⟨by simp only [if_neg hj], by simp⟩⟩
      | some i =>
        have : decide (idxOf (some i) < 0) = false := decide_eq_false (by simp only [idxOf]; omega)
        rw [this, br_f, beq_dec]
        by_cases hi : i = j
        · subst hi
          rw [decide_eq_true rfl, br_t]
          exact ⟨[((i : Nat) : Int), ((i : Nat) : Int)], (81, s.joinAt), rfl, .inr ⟨by simp [if_neg hj], by simp⟩⟩
        · have : decide (idxOf (some i) = idxOf (some j)) = false := decide_eq_false (by simp only [idxOf]; omega)
          rw [this, br_f]
          exact ⟨[((j : Nat) : Int), ((i : Nat) : Int)], (0, 0), rfl, .inl ⟨by simp only [if_neg hj, if_neg hi], rfl⟩⟩
theorem ends_tell {f : Flt} {r : Except Flt Typed} {t : Typed} (h : Ends (0, 0) f r t) (K : S_i_Typed → S_i_Fault → Prop) (X : S_i_Typed) (hX : X = sTyped true t) :
    br (!decide (f.1 = 0)) (K (sTyped true zTyped) ⟨f.1, f.2⟩) (K X ⟨0, 0⟩) = tell r (fun t => K (sTyped true t) ⟨0, 0⟩) (fun x a => K (sTyped true zTyped) ⟨x, a⟩) := by
  rcases h with ⟨a, -⟩ | ⟨-, ⟨rfl, rfl⟩ | ⟨g, rfl, rfl, a⟩⟩
  · exact absurd rfl a
  · rw [hX]; rfl
  · rw [decide_eq_false a]; rfl
theorem S_ref13_Check (k M : Nat) (hM : M < 1152921504606846976) (hk : M + 300 ≤ k) (m : Bool) (c : Catalog) (hc : c.Fits M) (ps : List S_i_Param) (hp : ParsFit M ps) (s : Stmt) (hs : s.Fits M) (K : S_i_Typed → S_i_Fault → Prop) :
    (TT k).f_ref13_Check (sCatalog m c) (lst m (ps.map eParam)) (sStmt m s) K = tell (checkE c ps s) (fun t => K (sTyped true t) ⟨0, 0⟩) (fun x a => K (sTyped true zTyped) ⟨x, a⟩) := by
  obtain ⟨k, rfl⟩ : ∃ k', k = k' + 1 := ⟨k - 1, by omega⟩
  have hF : (TT (k + 1)).f_ref13_Check (sCatalog m c) (lst m (ps.map eParam)) (sStmt m s) K = F_ref13_Check (TT k) (sCatalog m c) (lst m (ps.map eParam)) (sStmt m s) K := rfl
  rw [hF]
  simp only [F_ref13_Check, S_ref08_Right k M (by omega) (by omega) m c hc, S_ref13_Params k M (by omega) (by omega) m ps hp, S_ref11_Right M k hM (by omega) m s hs, checkE]
  cases h1 : rightCat c
  · simp [tell, zTyped, sTyped]
  cases h2 : rightPars ps
  · simp [tell, zTyped, sTyped]
  cases h3 : rightStmt s
  · simp [tell, zTyped, sTyped]
  simp only [Bool.not_true, br_f, and_self, if_true]
  have hso := stmt_ok h3
  have hps : ps.length ≤ 8 := by
    simp only [rightPars, Bool.and_eq_true, decide_eq_true_eq] at h2
    exact h2.2
  have hT : (sCatalog m c).Tables = lst m (c.tables.map (eTable m)) := rfl
  have hP : (sCatalog m c).Procs = lst m (c.procs.map (eProc m)) := rfl
  have hkd : (sStmt m s).Kind = s.kind := rfl
  have hon : (sStmt m s).On = lst m (s.on.map (eExpr m)) := rfl
  have hwh : (sStmt m s).Where = lst m (s.where_.map (eExpr m)) := rfl
  simp only [hT, hP]
  obtain ⟨ks, f, g1, g2⟩ := R_names m k (by omega) c (tab_facts h1).1 (lst m (ps.map eParam)) s _
  rw [g1]
  have hz : S_i_Typed.mk 0 (lst true []) (lst true []) (lst true []) (lst true []) (lst true []) false (lst true []) (lst true []) (lst true []) (lst true []) = sTyped true zTyped := rfl
  simp only [hz, bne_dec, hkd, beq_dec]
  rcases g2 with ⟨hn, rfl⟩ | ⟨hn, hbad⟩
  case inr =>
    rw [decide_eq_false hbad]
    simp only [Bool.not_false, br_t, stmtE, hn]
    rfl
  have d0 : decide (((0, 0) : Flt).1 = 0) = true := rfl
  rw [d0]
  simp only [Bool.not_true, br_f]
  obtain ⟨t, r, ht, ⟨n0, hn1, hn2⟩, hat, hTO, hnm⟩ := names_facts h1 hn
  obtain ⟨hq3, hq4⟩ := List.getElem?_eq_some_iff.1 hn2
  obtain ⟨kr, hkr⟩ : ∃ kr, ks = ((n0 : Nat) : Int) :: kr := by
    cases ks with
    | nil => cases hn1
    | cons a b =>
      simp only [List.head?_cons, Option.some.injEq] at hn1
      exact ⟨b, by rw [hn1]⟩
  have hg0 : (lst true (ks.map eI)).g 0 = eI ((n0 : Nat) : Int) := by rw [hkr]; rfl
  have hl0 : (0 : Int) < (((lst true (ks.map eI)).n : Nat) : Int) := by rw [hkr]; simp only [lst_n, List.length_map, List.length_cons]; omega
  have hq5 : ((n0 : Nat) : Int) < (((lst m (c.tables.map (eTable m))).n : Nat) : Int) := by simp only [lst_n, List.length_map]; omega
  have htm : t ∈ c.tables := by rw [← hq4]; exact List.getElem_mem hq3
  have hcd : ∀ tb f, (sAsk m c ps tb f).f_Code = f.1 := fun _ _ => rfl
  have hfa : ∀ tb f, (sAsk m c ps tb f).f_At = f.2 := fun _ _ => rfl
  have gd : Good (0, 0) := .inl rfl
  by_cases k1 : s.kind = 1
  ·
    have hR : RefOK m c ps [] [] := ⟨hps, trivial, ⟨by simp, fun t h => by cases h⟩⟩
    obtain ⟨on, f1, o1, o2⟩ := R_truths hR k (by omega) s.on (by have := hso.on.1; omega) hso.on.2 (0, 0) gd
    obtain ⟨wh, f2, w1, w2⟩ := R_truths hR k (by omega) s.where_ (by have := hso.where_.1; omega) hso.where_.2 f1 (o2.good gd)
    obtain ⟨is, f3, i1, i2⟩ := R_insert hR k (by omega) s hso.items.1 hso.items.2 t f2 (w2.good (o2.good gd))
    have hask : S_ra.mk (lst m (c.tables.map (eTable m))) (lst m (c.procs.map (eProc m))) (lst m (ps.map eParam)) (lst true []) ((0, 0) : Flt).1 ((0, 0) : Flt).2 = sAsk m c ps [] (0, 0) := rfl
    rw [decide_eq_true k1]
    simp only [Bool.not_true, br_f, br_t, hask, hon, hwh, o1, w1, hl0, hg0, asI_eI, hq5, Int.le_refl, Int.natCast_nonneg, true_and, Int.toNat_natCast, lst_map_g hq3, hq4, as_Table, i1, hcd, hfa]
    have hE : Ends (0, 0) f3 (stmtE c ps s) ⟨s.kind, ks, on, wh, is, [], false, [], [], [], []⟩ := by
      refine o2.step (w2.step (i2.map (r' := match insertE (envOf ps []) s t with | .error f => .error f | .ok is => .ok (⟨s.kind, ks, on, wh, is, [], false, [], [], [], []⟩ : Typed)) (fun e => by rw [e]) (fun g e => by rw [e])) (R := match mapE (ofE (envOf ps []) 2) s.where_ with | .error f => .error f | .ok wh => match insertE (envOf ps []) s t with | .error f => .error f | .ok is => .ok (⟨s.kind, ks, on, wh, is, [], false, [], [], [], []⟩ : Typed)) (fun g e => by rw [e]) (fun e => by rw [e])) (fun g e => ?_) (fun e => ?_)
      · simp only [stmtE, hn, if_pos k1, e]
      · simp only [stmtE, hn, if_pos k1, e, ht]
        cases mapE (ofE (envOf ps []) 2) s.where_ with
        | error f => rfl
        | ok wh =>
          simp only
          cases insertE (envOf ps []) s t <;> rfl
    exact ends_tell hE K _ rfl
  have hR : RefOK m c ps ks (tabsOf c ks) := ⟨hps, hat, hTO⟩
  obtain ⟨on, f1, o1, o2⟩ := R_truths hR k (by omega) s.on (by have := hso.on.1; omega) hso.on.2 (0, 0) gd
  obtain ⟨wh, f2, w1, w2⟩ := R_truths hR k (by omega) s.where_ (by have := hso.where_.1; omega) hso.where_.2 f1 (o2.good gd)
  have gd2 := w2.good (o2.good gd)
  have hask : S_ra.mk (lst m (c.tables.map (eTable m))) (lst m (c.procs.map (eProc m))) (lst m (ps.map eParam)) (lst true (ks.map eI)) ((0, 0) : Flt).1 ((0, 0) : Flt).2 = sAsk m c ps ks (0, 0) := rfl
  rw [decide_eq_false k1]
  simp only [Bool.not_false, br_f, br_t, hask, hon, hwh, o1, w1]
  have fin : ∀ (R : List Term → List Term → Except Flt Typed) (f3 : Flt) (ty : Typed), Ends f2 f3 (R on wh) ty → (stmtE c ps s = match mapE (ofE (envOf ps (tabsOf c ks)) 2) s.on with | .error f => .error f | .ok on => match mapE (ofE (envOf ps (tabsOf c ks)) 2) s.where_ with | .error f => .error f | .ok wh => R on wh) → Ends (0, 0) f3 (stmtE c ps s) ty := by
    intro R f3 ty hE hst
    refine o2.step (w2.step hE (R := match mapE (ofE (envOf ps (tabsOf c ks)) 2) s.where_ with | .error f => .error f | .ok wh => R on wh) (fun g e => by rw [e]) (fun e => by rw [e])) (fun g e => ?_) (fun e => ?_)
    · rw [hst, e]
    · rw [hst, e]
  have hst0 : stmtE c ps s = match mapE (ofE (envOf ps (tabsOf c ks)) 2) s.on with | .error f => .error f | .ok on => match mapE (ofE (envOf ps (tabsOf c ks)) 2) s.where_ with | .error f => .error f | .ok wh => (if s.kind = 2 then (match updE (envOf ps (tabsOf c ks)) t [] s.sets with | .error f => .error f | .ok x => .ok (⟨s.kind, ks, on, wh, x.1, x.2, false, [], [], [], []⟩ : Typed))
       else if s.kind = 4 then (match chooseE (envOf ps (tabsOf c ks)) s (tabsOf c ks) with | .error f => .error f | .ok x => .ok (⟨s.kind, ks, on, wh, x.1, [], x.2.1, x.2.2.1, x.2.2.2, s.limit, x.1.map (·.type_)⟩ : Typed))
       else .ok ⟨s.kind, ks, on, wh, [], [], false, [], [], [], []⟩) := by
    simp only [stmtE, hn, if_neg k1]
    cases mapE (ofE (envOf ps (tabsOf c ks)) 2) s.on with
    | error f => rfl
    | ok on =>
      simp only
      cases mapE (ofE (envOf ps (tabsOf c ks)) 2) s.where_ with
      | error f => rfl
      | ok wh =>
        simp only [ht]
        by_cases k2 : s.kind = 2
        · simp only [if_pos k2]
          cases updE (envOf ps (t :: r)) t [] s.sets <;> rfl
        · simp only [if_neg k2]
          by_cases k4 : s.kind = 4
          · simp only [if_pos k4]
            cases chooseE (envOf ps (t :: r)) s (t :: r) <;> rfl
          · simp only [if_neg k4]
  by_cases k2 : s.kind = 2
  · obtain ⟨is, js, f3, i1, i2⟩ := R_update hR k (by omega) s hso.sets.1 hso.sets.2 t ((tab_facts h1).2 t htm).1 f2 gd2
    rw [decide_eq_true k2]
    simp only [br_t, hl0, hg0, asI_eI, hq5, Int.le_refl, Int.natCast_nonneg, true_and, Int.toNat_natCast, lst_map_g hq3, hq4, as_Table, i1, hcd, hfa]
    have hE := fin (fun on wh => match updE (envOf ps (tabsOf c ks)) t [] s.sets with | .error f => .error f | .ok x => .ok (⟨s.kind, ks, on, wh, x.1, x.2, false, [], [], [], []⟩ : Typed)) f3 ⟨s.kind, ks, on, wh, is, js, false, [], [], [], []⟩ (i2.map (fun e => by rw [e]) (fun g e => by rw [e])) (by rw [hst0]; simp only [if_pos k2])
    exact ends_tell hE K _ rfl
  rw [decide_eq_false k2]
  simp only [br_f]
  by_cases k4 : s.kind = 4
  · obtain ⟨ty, f3, i1, i2⟩ := R_choose hR k (by omega) s hso s.kind ks on wh f2 gd2
    rw [decide_eq_true k4]
    simp only [br_t, i1, hcd, hfa]
    have hE := fin (fun on wh => match chooseE (envOf ps (tabsOf c ks)) s (tabsOf c ks) with | .error f => .error f | .ok x => .ok (⟨s.kind, ks, on, wh, x.1, [], x.2.1, x.2.2.1, x.2.2.2, s.limit, x.1.map (·.type_)⟩ : Typed)) f3 ty i2 (by rw [hst0]; simp only [if_neg k2, if_pos k4])
    exact ends_tell hE K _ rfl
  rw [decide_eq_false k4]
  simp only [br_f, hcd, hfa]
  have hE := fin (fun on wh => .ok ⟨s.kind, ks, on, wh, [], [], false, [], [], [], []⟩) f2 ⟨s.kind, ks, on, wh, [], [], false, [], [], [], []⟩ .pure (by rw [hst0]; simp only [if_neg k2, if_neg k4])
  exact ends_tell hE K _ rfl
end Go.RX
