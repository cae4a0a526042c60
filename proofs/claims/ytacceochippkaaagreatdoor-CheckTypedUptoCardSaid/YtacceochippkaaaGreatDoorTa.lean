/- The law in plain Lean: what a typed statement says, and what it is written back as. No condition. -/
import Derived.Test.YtacceochippkaaaGreatDoorPd
import Derived.KernelRfl
set_option linter.all false
namespace Go.RX
def fw {α β : Type} (f : α → Option β) : List α → Option (List β)
  | [] => some []
  | x :: r => match f x with
    | none => none
    | some y => match fw f r with
      | none => none
      | some ys => some (y :: ys)
def oh : List Table → Int → Option Expr
  | [], _ => none
  | t :: r, a => if 0 ≤ a ∧ a < (t.columns.length : Int) then some (.mk 3 0 0 0 noB t.name ((t.columns.getD a.toNat ⟨noB, 0, false⟩).Name) [] 0) else oh r (a - (t.columns.length : Int))
def dw (ps : List S_x7) (ts : List Table) : Nat → Term → Option Expr
  | 0, _ => none
  | d + 1, t =>
    if t.op = 2 then (if 0 ≤ t.num ∧ t.num < (ps.length : Int) then some (.mk 2 0 0 0 noB noB ((ps.getD t.num.toNat ⟨noB, 0⟩).Name) [] 0) else none)
    else if t.op = 3 then oh ts t.num
    else if t.kids.length > 8 then none
    else match fw (dw ps ts d) t.kids with
      | none => none
      | some es => some (.mk t.op t.num t.fa t.mi t.fq noB noB es 0)
def qga (vk vi : Int) (vt : ByteArray) : Bool := qc5 vk vi vt && (!decide (vk = 1) || decide (0 ≤ vi))
def inR (n : Int) (m : Nat) : Bool := decide (0 ≤ n) && decide (n < (m : Int))
def qbc (ps : List S_x7) (cs : List S_x4) (t : Term) : Bool :=
  bif decide (t.op = 1) then qga t.fa t.mi t.fq && decide (t.num = 0) && decide (t.cr = t.fa)
  else bif decide (t.op = 2) then inR t.num ps.length && j6 t.fa t.mi t.fq && decide (t.cr = (ps.getD t.num.toNat ⟨noB, 0⟩).Type_)
  else bif decide (t.op = 3) then inR t.num cs.length && j6 t.fa t.mi t.fq && decide (t.cr = (cs.getD t.num.toNat ⟨noB, 0, false⟩).Type_)
  else false
def mq (op n : Int) : Bool :=
  bif decide (op = 5) then decide (1 ≤ n) && decide (n ≤ 5) else bif decide (op = 6) then decide (1 ≤ n) && decide (n ≤ 6)
  else bif decide (op = 7) then decide (0 ≤ n) && decide (n ≤ 1) else decide (n = 0)
def gv (op : Int) (n : Nat) : Bool :=
  bif decide (op = 4) || decide (op = 7) || decide (op = 8) || decide (op = 12) || decide (op = 13) || decide (op = 14) then decide (n = 1)
  else bif decide (op = 5) || decide (op = 6) then decide (n = 2) else bif decide (op = 9) || decide (op = 10) then decide (2 ≤ n) && decide (n ≤ 8) else decide (op = 11) && decide (n = 0)
def rtE (ps : List S_x7) (cs : List S_x4) : Nat → Bool → Term → Bool
  | 0, _, _ => false
  | d + 1, top, t =>
    bif decide (t.op ≤ 3) then qbc ps cs t && decide (t.kids.length = 0)
    else (!isAgg t.op || top) && mq t.op t.num && gv t.op t.kids.length && j6 t.fa t.mi t.fq && decide (t.op ≤ 14) &&
      t.kids.all (fun x => rtE ps cs d false x && qh7 (m0 t.op) x) && !(decide (t.op = 6) && jq t.kids) && decide (t.cr = wc t.op t.kids)
structure TyC (ps : List S_x7) (ts : List Table) (tq : List Table) : Prop where
  same : tq = ts ∨ tq = []
  names : ∀ x ∈ fh ts, isName x.1 = true ∧ isName x.2.Name = true
  once : ((fh ts).map fun x => (x.1, x.2.Name)).Nodup
  pnames : ∀ p ∈ ps, isName p.Name = true
  ponce : (ps.map (·.Name)).Nodup
theorem qge : isName noB = false := by kernel_rfl
theorem yr {x : ByteArray} (h : isName x = true) : x ≠ noB := fun e => by rw [e, qge] at h; cases h
theorem qgk : ∀ (ps : List S_x7) (i j : Nat) (h : j < ps.length), (ps.map (·.Name)).Nodup → yy i ps ps[j].Name = some (((i + j : Nat) : Int), ps[j].Type_)
  | [], _, _, h, _ => by simp at h
  | p :: r, i, 0, _, _ => by simp [yy]
  | p :: r, i, j + 1, h, hn => by
    simp only [List.map_cons, List.nodup_cons] at hn
    have hj : j < r.length := by simpa using h
    have : ¬ p.Name = r[j].Name := fun e => hn.1 (by rw [e]; exact List.mem_map_of_mem (List.getElem_mem hj))
    simp only [List.getElem_cons_succ, yy, if_neg this]
    rw [qgk r (i + 1) j hj hn.2]
    congr 3
    omega
theorem qk2 (tab name : ByteArray) : ∀ (l : List (ByteArray × S_x4)) (i : Nat) (acc : Int × Int × Int), (∀ x ∈ l, ic tab name x.1 x.2 = false) → sg tab name i l acc = acc
  | [], _, _, _ => rfl
  | x :: l, i, acc, h => by
    simp only [sg, h x (.head _), cond_false]
    exact qk2 tab name l (i + 1) acc fun y hy => h y (.tail _ hy)
theorem qk3 : ∀ (l : List (ByteArray × S_x4)) (i j : Nat) (h : j < l.length), (l.map fun x => (x.1, x.2.Name)).Nodup → l[j].1 ≠ noB →
    sg l[j].1 l[j].2.Name i l (0, 0, 0) = (((i + j : Nat) : Int), l[j].2.Type_, 1)
  | [], _, _, h, _, _ => by simp at h
  | x :: l, i, 0, _, hn, hne => by
    simp only [List.map_cons, List.nodup_cons] at hn
    simp only [List.getElem_cons_zero] at hne ⊢
    have hm : ic x.1 x.2.Name x.1 x.2 = true := by simp [ic]
    simp only [sg, hm, cond_true]
    rw [qk2]
    · rfl
    · intro y hy
      by_cases e : y.2.Name = x.2.Name
      · have e2 : ¬ x.1 = y.1 := fun e2 => hn.1 (List.mem_map.2 ⟨y, hy, by rw [e2, e]⟩)
        simp [ic, e, e2, hne]
      · simp [ic, e]
  | x :: l, i, j + 1, h, hn, hne => by
    simp only [List.map_cons, List.nodup_cons] at hn
    simp only [List.getElem_cons_succ] at hne ⊢
    have hj : j < l.length := by simpa using h
    have hm : ic l[j].1 l[j].2.Name x.1 x.2 = false := by
      by_cases e : x.2.Name = l[j].2.Name
      · have e2 : ¬ l[j].1 = x.1 := fun e2 => hn.1 (List.mem_map.2 ⟨l[j], List.getElem_mem hj, by rw [e2, e]⟩)
        simp [ic, e, e2, hne]
      · simp [ic, e]
    simp only [sg, hm, cond_false]
    rw [qk3 l (i + 1) j hj hn.2 hne]
    congr 2
    omega
theorem zd : ∀ ts : List Table, (fh ts).map (·.2) = cm ts
  | [] => rfl
  | t :: r => by
    have := zd r
    simp only [fh, cm, List.flatMap_cons, List.map_append] at this ⊢
    rw [this]
    simp [j8, Function.comp_def]
theorem zc (ts : List Table) : (fh ts).length = (cm ts).length := by rw [← zd, List.length_map]
theorem xw : ∀ (ts : List Table) (j : Nat) (h : j < (fh ts).length), oh ts (j : Nat) = some (.mk 3 0 0 0 noB (fh ts)[j].1 (fh ts)[j].2.Name [] 0)
  | [], j, h => by simp [fh] at h
  | t :: r, j, h => by
    have e : fh (t :: r) = (t.columns.map fun c => (t.name, c)) ++ fh r := by simp [fh, j8]
    simp only [oh]
    by_cases hj : j < t.columns.length
    · rw [if_pos ⟨Int.natCast_nonneg _, by omega⟩]
      have : (fh (t :: r))[j] = (t.name, t.columns[j]) := by
        simp only [e]
        rw [List.getElem_append_left (by simpa using hj)]
        simp
      rw [this]
      simp [List.getD, hj]
    · rw [if_neg (by omega)]
      have hl : j - t.columns.length < (fh r).length := by
        rw [e] at h; simp at h; omega
      have e2 : ((j : Nat) : Int) - (t.columns.length : Int) = ((j - t.columns.length : Nat) : Int) := by omega
      rw [e2, xw r _ hl]
      have : (fh (t :: r))[j] = (fh r)[j - t.columns.length] := by
        simp only [e]
        rw [List.getElem_append_right (by simp; omega)]
        simp
      rw [this]
theorem xv : ∀ (ts : List Table) (a : Int), ¬ (0 ≤ a ∧ a < ((fh ts).length : Int)) → oh ts a = none
  | [], _, _ => rfl
  | t :: r, a, h => by
    have e : (fh (t :: r)).length = t.columns.length + (fh r).length := by simp [fh, j8]
    rw [e] at h
    simp only [oh]
    rw [if_neg (by omega)]
    exact xv r _ (by omega)
section
variable {ps : List S_x7} {ts tq : List Table} (C : TyC ps ts tq)
include C
theorem qk5 {a : Int} (h : inR a (cm tq).length = true) (d : Nat) : ∃ e, oh ts a = some e ∧ e.kind = 3 ∧ cz (d + 1) e = true ∧ qj (dp ps tq) (d + 1) e = .ok ⟨3, a, ((cm tq).getD a.toNat ⟨noB, 0, false⟩).Type_, 0, 0, noB, []⟩ := by
  simp only [inR, Bool.and_eq_true, decide_eq_true_eq] at h
  obtain ⟨j, rfl⟩ : ∃ j : Nat, a = j := ⟨a.toNat, by omega⟩
  have hq : tq = ts := by
    rcases C.same with h1 | h1
    · exact h1
    · rw [h1] at h; simp [cm] at h; omega
  subst hq
  have hj : j < (fh tq).length := by rw [zc]; omega
  have hj' : j < (cm tq).length := by omega
  obtain ⟨n1, n2⟩ := C.names _ (List.getElem_mem hj)
  refine ⟨_, xw tq j hj, rfl, ?_, ?_⟩
  · simp [cz, l9, qqr, fe, Expr.kind, Expr.kids, Expr.op, Expr.name, Expr.table, Expr.fa, Expr.mi, Expr.fq, n1, n2, j6]
  · have hc := qk3 (fh tq) 0 j hj C.once (yr n1)
    rw [Nat.zero_add] at hc
    have e : (cm tq).getD j ⟨noB, 0, false⟩ = (fh tq)[j].2 := by
      simp only [List.getD, List.getElem?_eq_getElem hj', Option.getD_some]
      have := zd tq
      simp only [← this, List.getElem_map]
    simp only [qj, Expr.kind, Expr.table, Expr.name, dp, hc, Int.toNat_natCast, e]
    simp
theorem qhk {a : Int} {d : Nat} {e : Expr} {t : Term} (h : oh ts a = some e) (hA : qj (dp ps tq) (d + 1) e = .ok t) : inR a (cm tq).length = true ∧ t = ⟨3, a, ((cm tq).getD a.toNat ⟨noB, 0, false⟩).Type_, 0, 0, noB, []⟩ := by
  by_cases hr : 0 ≤ a ∧ a < ((fh ts).length : Int)
  · obtain ⟨j, rfl⟩ : ∃ j : Nat, a = j := ⟨a.toNat, by omega⟩
    have hj : j < (fh ts).length := by omega
    rcases C.same with hq | hq
    · have hin : inR ((j : Nat) : Int) (cm tq).length = true := by
        rw [hq, ← zc]; simp only [inR, Bool.and_eq_true, decide_eq_true_eq]; omega
      obtain ⟨e', h1, _, _, h2⟩ := qk5 C hin d
      rw [h] at h1
      injection h1 with h1
      subst h1
      rw [hA] at h2
      injection h2 with h2
      exact ⟨hin, h2⟩
    · rw [xw ts j hj] at h
      injection h with h
      subst h hq
      simp [qj, Expr.kind, dp, fh, sg] at hA
  · rw [xv ts a hr] at h
    cases h
omit C in
theorem qcn {α β : Type} {f : α → Option β} {P : β → Prop} {g : β → Except Flt α} : ∀ {l : List α}, (∀ x ∈ l, ∃ e, f x = some e ∧ P e ∧ g e = .ok x) → ∃ es, fw f l = some es ∧ es.length = l.length ∧ (∀ e ∈ es, P e) ∧ jm g es = .ok l
  | [], _ => ⟨[], rfl, rfl, (fun e he => (by cases he)), rfl⟩
  | x :: l, h => by
    obtain ⟨e, h1, h2, h3⟩ := h x (.head _)
    obtain ⟨es, h4, h5, h6, h7⟩ := qcn (l := l) fun y hy => h y (.tail _ hy)
    refine ⟨e :: es, by simp only [fw, h1, h4], by simp [h5], fun y hy => ?_, by simp only [jm, h3, h7]⟩
    cases hy with
    | head => exact h2
    | tail _ hy => exact h6 y hy
omit C in
theorem ta {α β : Type} {f : α → Option β} {P : β → Prop} {g : β → Except Flt α} : ∀ {l : List α} {es : List β}, fw f l = some es → (∀ e ∈ es, P e) → jm g es = .ok l → es.length = l.length ∧ ∀ x ∈ l, ∃ e, f x = some e ∧ P e ∧ g e = .ok x
  | [], es, h, _, _ => by
    simp only [fw, Option.some.injEq] at h
    subst h
    exact ⟨rfl, fun x hx => by cases hx⟩
  | x :: l, es, h, hP, hg => by
    simp only [fw] at h
    split at h
    · cases h
    rename_i y hy
    split at h
    · cases h
    rename_i ys hys
    simp only [Option.some.injEq] at h
    subst h
    simp only [jm] at hg
    split at hg
    · cases hg
    rename_i z hz
    split at hg
    · cases hg
    rename_i zs hzs
    injection hg with hg
    injection hg with hg1 hg2
    subst hg1 hg2
    obtain ⟨h1, h2⟩ := ta hys (fun e he => hP e (.tail _ he)) hzs
    refine ⟨by simp [h1], fun w hw => ?_⟩
    cases hw with
    | head => exact ⟨y, hy, hP y (.head _), hz⟩
    | tail _ hw => exact h2 w hw
omit C in
theorem uf {w : Int} : ∀ {ts : List Term} {es : List Expr}, es.length = ts.length → (ly w ts es = none ↔ ∀ t ∈ ts, qh7 w t = true)
  | [], [], _ => by simp [ly]
  | [], _ :: _, h => by simp at h
  | _ :: _, [], h => by simp at h
  | t :: ts, e :: es, h => by
    have ih := uf (w := w) (ts := ts) (es := es) (by simpa using h)
    simp only [ly]
    cases hm : qh7 w t with
    | true => simp [hm, ih]
    | false => simp [hm]
end
end Go.RX
namespace Go.RX
theorem gu {n : Int} {m : Nat} : inR n m = true ↔ 0 ≤ n ∧ n < (m : Int) := by simp [inR]
theorem py {a b : Int} {c : ByteArray} : j6 a b c = true ↔ a = 0 ∧ b = 0 ∧ c = noB := by simp [j6, and_assoc]
theorem qh3 {op num : Int} {n : Nat} (h3 : ¬ op ≤ 3) (ha : isAgg op = false) (es : List Expr) (hl : es.length = n) (vk vi : Int) (vt a b : ByteArray) (at_ : Int) :
    (l9 (.mk op num vk vi vt a b es at_) && qqr (.mk op num vk vi vt a b es at_)) = (mq op num && gv op n && decide (op ≤ 14)) := by
  subst hl
  simp only [l9, qqr, mq, gv, Expr.kind, Expr.op, Expr.kids]
  simp only [h3, decide_false, Bool.and_false, cond_false]
  by_cases k4 : op = 4
  · subst k4; simp [Bool.and_comm]; try rfl
  by_cases k5 : op = 5
  · subst k5; simp [Bool.and_comm]; try rfl
  by_cases k6 : op = 6
  · subst k6; simp [Bool.and_comm]; try rfl
  by_cases k7 : op = 7
  · subst k7; simp [Bool.and_comm]; try rfl
  by_cases k8 : op = 8
  · subst k8; simp [Bool.and_comm]; try rfl
  by_cases k9 : op = 9
  · subst k9; simp [Bool.and_comm]; try rfl
  by_cases k10 : op = 10
  · subst k10; simp [Bool.and_comm]; try rfl
  simp only [isAgg, Bool.and_eq_false_iff, decide_eq_false_iff_not] at ha
  have k11 : ¬ op = 11 := by omega
  have k12 : ¬ op = 12 := by omega
  have k13 : ¬ op = 13 := by omega
  have k14 : ¬ op = 14 := by omega
  simp [k4, k5, k6, k7, k8, k9, k10, k11, k12, k13, k14]
theorem u0 {op : Int} {n : Nat} (h : gv op n = true) : n ≤ 8 := by
  simp only [gv] at h
  cases hA : (decide (op = 4) || decide (op = 7) || decide (op = 8) || decide (op = 12) || decide (op = 13) || decide (op = 14)) with
  | true => rw [hA] at h; simp only [cond_true, decide_eq_true_eq] at h; omega
  | false =>
    rw [hA] at h
    cases hB : (decide (op = 5) || decide (op = 6)) with
    | true => rw [hB] at h; simp only [cond_false, cond_true, decide_eq_true_eq] at h; omega
    | false =>
      rw [hB] at h
      cases hC : (decide (op = 9) || decide (op = 10)) with
      | true => rw [hC] at h; simp only [cond_false, cond_true, Bool.and_eq_true, decide_eq_true_eq] at h; omega
      | false => rw [hC] at h; simp only [cond_false, Bool.and_eq_true, decide_eq_true_eq] at h; omega
theorem ju (ps : List S_x7) (ts : List Table) (d : Nat) (op num ty vk vi : Int) (vt : ByteArray) (kids : List Term) : dw ps ts (d + 1) ⟨op, num, ty, vk, vi, vt, kids⟩ =
    if op = 2 then (if 0 ≤ num ∧ num < (ps.length : Int) then some (.mk 2 0 0 0 noB noB ((ps.getD num.toNat ⟨noB, 0⟩).Name) [] 0) else none)
    else if op = 3 then oh ts num
    else if kids.length > 8 then none
    else match fw (dw ps ts d) kids with
      | none => none
      | some es => some (.mk op num vk vi vt noB noB es 0) := rfl
theorem qc (ps : List S_x7) (cs : List S_x4) (op num ty vk vi : Int) (vt : ByteArray) (kids : List Term) : qbc ps cs ⟨op, num, ty, vk, vi, vt, kids⟩ =
    bif decide (op = 1) then qga vk vi vt && decide (num = 0) && decide (ty = vk)
    else bif decide (op = 2) then inR num ps.length && j6 vk vi vt && decide (ty = (ps.getD num.toNat ⟨noB, 0⟩).Type_)
    else bif decide (op = 3) then inR num cs.length && j6 vk vi vt && decide (ty = (cs.getD num.toNat ⟨noB, 0, false⟩).Type_)
    else false := rfl
theorem xj (q : xc) (d : Nat) (k o vk vi : Int) (vt tb nm : ByteArray) (es : List Expr) (a : Int) : qj q (d + 1) (.mk k o vk vi vt tb nm es a) =
    if k = 1 then .ok ⟨k, 0, vk, vk, vi, vt, []⟩
    else if k = 2 then match q.param nm with
      | some (i, t) => .ok ⟨k, i, t, 0, 0, noB, []⟩
      | none => .error (82, a)
    else if k = 3 then
      if (q.col tb nm).2.2 = 0 then .error (82, a)
      else if (q.col tb nm).2.2 > 1 then .error (81, a)
      else .ok ⟨k, (q.col tb nm).1, (q.col tb nm).2.1, 0, 0, noB, []⟩
    else match jm (qj q d) es with
      | .error f => .error f
      | .ok ks => match ly (m0 k) ks es with
        | some a => .error (11, a)
        | none => if k = 6 ∧ jq ks = true then .error (11, a) else .ok ⟨k, o, wc k ks, 0, 0, noB, ks⟩ := rfl
section
variable {ps : List S_x7} {ts tq : List Table} (C : TyC ps ts tq)
include C
theorem qh0 {d : Nat} {op num ty vk vi : Int} {vt : ByteArray} {kids : List Term} (h3 : ¬ op ≤ 3) (hk : kids.length ≤ 8)
    (hx : ∀ x ∈ kids, ∃ e, dw ps ts d x = some e ∧ cz d e = true ∧ qj (dp ps tq) d e = .ok x) (hw : ∀ x ∈ kids, qh7 (m0 op) x = true) (hu : ¬ (op = 6 ∧ jq kids = true)) (hv : j6 vk vi vt = true) (hty : ty = wc op kids) :
    ∃ es, dw ps ts (d + 1) ⟨op, num, ty, vk, vi, vt, kids⟩ = some (.mk op num vk vi vt noB noB es 0) ∧ es.length = kids.length ∧ (∀ e ∈ es, cz d e = true) ∧ ∀ n : Nat, n = d → qj (dp ps tq) (n + 1) (.mk op num vk vi vt noB noB es 0) = .ok ⟨op, num, ty, vk, vi, vt, kids⟩ := by
  obtain ⟨es, h1, h2, h4, h5⟩ := qcn hx
  obtain ⟨rfl, rfl, rfl⟩ := py.1 hv
  have n1 : ¬ op = 1 := by omega
  have n2 : ¬ op = 2 := by omega
  have n3 : ¬ op = 3 := by omega
  refine ⟨es, ?_, h2, h4, fun n hn => ?_⟩
  · rw [ju, if_neg n2, if_neg n3, if_neg (show ¬ kids.length > 8 by omega), h1]
  · subst hn
    have hb := (uf (w := m0 op) h2).2 hw
    rw [xj, if_neg n1, if_neg n2, if_neg n3, h5]
    simp only [hb, if_neg hu]
    rw [hty]
theorem qa0 {d : Nat} {e : Expr} {t : Term} (h3 : ¬ t.op ≤ 3) (h : dw ps ts (d + 1) t = some e) (hA : qj (dp ps tq) (d + 1) e = .ok t) (hr : ∀ x ∈ e.kids, cz d x = true) :
    ∃ es, e = .mk t.op t.num t.fa t.mi t.fq noB noB es 0 ∧ es.length = t.kids.length ∧ (∀ x ∈ t.kids, ∃ e, dw ps ts d x = some e ∧ cz d e = true ∧ qj (dp ps tq) d e = .ok x) ∧ (∀ x ∈ t.kids, qh7 (m0 t.op) x = true) ∧ ¬ (t.op = 6 ∧ jq t.kids = true) ∧ j6 t.fa t.mi t.fq = true ∧ t.cr = wc t.op t.kids := by
  obtain ⟨op, num, ty, vk, vi, vt, kids⟩ := t
  simp only [Term.op, Term.num, Term.cr, Term.fa, Term.mi, Term.fq, Term.kids] at h3 ⊢
  have n1 : ¬ op = 1 := by omega
  have n2 : ¬ op = 2 := by omega
  have n3 : ¬ op = 3 := by omega
  rw [ju, if_neg n2, if_neg n3] at h
  split at h
  · cases h
  split at h
  · cases h
  rename_i es hes
  simp only [Option.some.injEq] at h
  subst h
  rw [xj, if_neg n1, if_neg n2, if_neg n3] at hA
  split at hA
  · cases hA
  rename_i ks hks
  split at hA
  · cases hA
  rename_i hb
  split at hA
  · cases hA
  rename_i hu
  injection hA with hA
  injection hA with a1 a2 a3 a4 a5 a6 a7
  subst a7
  obtain ⟨hl, hx⟩ := ta hes hr hks
  exact ⟨es, rfl, hl, hx, (uf hl).1 hb, hu, py.2 ⟨a4.symm, a5.symm, a6.symm⟩, a3.symm⟩
theorem qpb {d : Nat} {t : Term} (h3 : t.op ≤ 3) (h : qbc ps (cm tq) t = true) (hk : t.kids.length = 0) : ∃ e, dw ps ts (d + 1) t = some e ∧ e.kind = t.op ∧ cz (d + 1) e = true ∧ qj (dp ps tq) (d + 1) e = .ok t := by
  obtain ⟨op, num, ty, vk, vi, vt, kids⟩ := t
  simp only [Term.op, Term.kids] at h3 hk
  obtain rfl := List.length_eq_zero_iff.1 hk
  rw [qc] at h
  by_cases h1 : op = 1
  · subst h1
    simp only [decide_true, cond_true, Bool.and_eq_true, decide_eq_true_eq, qga] at h
    obtain ⟨⟨⟨l1, l2⟩, rfl⟩, rfl⟩ := h
    refine ⟨.mk 1 0 ty vi vt noB noB [] 0, rfl, rfl, ?_, rfl⟩
    show (decide ((([] : List Expr).length) = 0) && decide ((0 : Int) = 0) && (decide (noB = noB) && decide (noB = noB) && qc5 ty vi vt && (!decide (ty = 1) || decide (0 ≤ vi))) && true) = true
    rw [l1, l2]
    simp
  by_cases h2 : op = 2
  · subst h2
    have d21 : decide ((2 : Int) = 1) = false := rfl
    simp only [d21, cond_false, decide_true, cond_true, Bool.and_eq_true, decide_eq_true_eq] at h
    obtain ⟨⟨l1, l2⟩, l3⟩ := h
    obtain ⟨rfl, rfl, rfl⟩ := py.1 l2
    rw [gu] at l1
    obtain ⟨j, rfl⟩ : ∃ j : Nat, num = j := ⟨num.toNat, by omega⟩
    have hj : j < ps.length := by omega
    have e : ps.getD j ⟨noB, 0⟩ = ps[j] := by simp [List.getD, hj]
    rw [Int.toNat_natCast, e] at l3
    have hp := qgk ps 0 j hj C.ponce
    rw [Nat.zero_add] at hp
    have hn := C.pnames _ (List.getElem_mem hj)
    refine ⟨.mk 2 0 0 0 noB noB ps[j].Name [] 0, ?_, rfl, ?_, ?_⟩
    · rw [ju, if_pos rfl, if_pos l1, Int.toNat_natCast, e]
    · simp [cz, l9, qqr, fe, Expr.kind, Expr.kids, Expr.op, Expr.name, Expr.table, Expr.fa, Expr.mi, Expr.fq, hn, j6]
    · rw [xj, if_neg (by decide), if_pos rfl]
      simp only [dp, hp]
      rw [l3]
  by_cases h5 : op = 3
  · subst h5
    have d1 : decide ((3 : Int) = 1) = false := rfl
    have d2 : decide ((3 : Int) = 2) = false := rfl
    simp only [d1, d2, cond_false, decide_true, cond_true, Bool.and_eq_true, decide_eq_true_eq] at h
    obtain ⟨⟨l1, l2⟩, l3⟩ := h
    obtain ⟨rfl, rfl, rfl⟩ := py.1 l2
    obtain ⟨e, c1, c2, c3, c4⟩ := qk5 C l1 d
    refine ⟨e, ?_, c2, c3, ?_⟩
    · rw [ju, if_neg (by decide), if_pos rfl]
      exact c1
    · rw [c4, l3]
  · rw [decide_eq_false h1, decide_eq_false h2, decide_eq_false h5] at h
    cases h
theorem qjp {d : Nat} {e : Expr} {t : Term} (h3 : t.op ≤ 3) (h : dw ps ts (d + 1) t = some e) (hR : cz (d + 1) e = true) (hA : qj (dp ps tq) (d + 1) e = .ok t) : qbc ps (cm tq) t = true ∧ t.kids.length = 0 := by
  obtain ⟨op, num, ty, vk, vi, vt, kids⟩ := t
  simp only [Term.op] at h3
  rw [qc]
  show _ ∧ kids.length = 0
  by_cases h2 : op = 2
  · subst h2
    rw [ju, if_pos rfl] at h
    split at h
    · rename_i hn
      obtain ⟨j, rfl⟩ : ∃ j : Nat, num = j := ⟨num.toNat, by omega⟩
      have hj : j < ps.length := by omega
      have e1 : ps.getD j ⟨noB, 0⟩ = ps[j] := by simp [List.getD, hj]
      have hp := qgk ps 0 j hj C.ponce
      rw [Nat.zero_add] at hp
      simp only [Option.some.injEq, Int.toNat_natCast, e1] at h
      subst h
      rw [xj, if_neg (by decide), if_pos rfl] at hA
      simp only [dp, hp] at hA
      injection hA with hA
      injection hA with a1 a2 a3 a4 a5 a6 a7
      subst a3 a4 a5 a6 a7
      have i1 : inR ((j : Nat) : Int) ps.length = true := gu.2 hn
      refine ⟨?_, rfl⟩
      show (inR _ _ && j6 0 0 noB && decide (_ = _)) = true
      rw [i1, Int.toNat_natCast, e1]
      simp [j6]
    · cases h
  by_cases h5 : op = 3
  · subst h5
    rw [ju, if_neg (by decide), if_pos rfl] at h
    obtain ⟨c1, c2⟩ := qhk C h hA
    injection c2 with a1 a2 a3 a4 a5 a6 a7
    subst a3 a4 a5 a6 a7
    simp [c1, j6]
  · rw [ju, if_neg h2, if_neg h5] at h
    split at h
    · cases h
    split at h
    · cases h
    rename_i es hes
    simp only [Option.some.injEq] at h
    subst h
    by_cases h1 : op = 1
    · subst h1
      rw [xj, if_pos rfl] at hA
      injection hA with hA
      injection hA with a1 a2 a3 a4 a5 a6 a7
      subst a7
      simp only [cz, Bool.and_eq_true, fe, qqr, Expr.kind, Expr.op, Expr.name, Expr.table, Expr.fa, Expr.mi, Expr.fq, Term.num, Term.fa, Term.mi, Term.fq, decide_true, cond_true] at hR
      obtain ⟨⟨⟨-, r1⟩, r2⟩, -⟩ := hR
      have r3 : num = 0 := a2.symm
      have q : (!decide (vk = 1) || decide (0 ≤ vi)) = true := r2.2
      simp [qga, r2.1.2, r3, ← a3]
      simpa using q
    · simp only [cz, Bool.and_eq_true, l9, Expr.kind, Expr.kids] at hR
      obtain ⟨⟨⟨r1, -⟩, -⟩, -⟩ := hR
      have k : ¬ 1 ≤ op := by omega
      have k4 : ¬ op = 4 := by omega
      have k5 : ¬ op = 5 := by omega
      have k6 : ¬ op = 6 := by omega
      have k7 : ¬ op = 7 := by omega
      have k8 : ¬ op = 8 := by omega
      have k9 : ¬ op = 9 := by omega
      have k10 : ¬ op = 10 := by omega
      simp [k, k4, k5, k6, k7, k8, k9, k10] at r1
theorem va : ∀ (d : Nat) (t : Term), rtE ps (cm tq) d false t = true → ∃ e, dw ps ts d t = some e ∧ e.kind = t.op ∧ cz d e = true ∧ qj (dp ps tq) d e = .ok t
  | 0, _, h => by cases h
  | d + 1, t, h => by
    simp only [rtE] at h
    by_cases h3 : t.op ≤ 3
    · rw [decide_eq_true h3] at h
      simp only [cond_true, Bool.and_eq_true, decide_eq_true_eq] at h
      exact qpb C h3 h.1 h.2
    · rw [decide_eq_false h3] at h
      simp only [cond_false, Bool.or_false, Bool.and_eq_true, Bool.not_eq_true', List.all_eq_true, Bool.and_eq_false_iff, decide_eq_true_eq] at h
      obtain ⟨⟨⟨⟨⟨⟨⟨ha, hn⟩, hk⟩, hv⟩, h14⟩, hx⟩, hu⟩, hty⟩ := h
      obtain ⟨es, e1, e2, e3, e4⟩ := qh0 C (d := d) (op := t.op) (num := t.num) (ty := t.cr) (vk := t.fa) (vi := t.mi) (vt := t.fq) (kids := t.kids) h3 (u0 hk) (fun x hx' => by
        obtain ⟨e, q1, q2, q3, q4⟩ := va d x (hx x hx').1
        exact ⟨e, q1, q3, q4⟩) (fun x hx' => (hx x hx').2) (fun hc => by rcases hu with hu | hu <;> simp_all) hv hty
      have et : (⟨t.op, t.num, t.cr, t.fa, t.mi, t.fq, t.kids⟩ : Term) = t := by cases t; rfl
      rw [et] at e1 e4
      refine ⟨_, e1, rfl, ?_, e4 d rfl⟩
      have kn := qh3 (num := t.num) h3 ha es e2 t.fa t.mi t.fq noB noB 0
      rw [hn, hk, decide_eq_true h14] at kn
      simp only [cz, kn, Bool.and_self, Bool.true_and, Bool.and_eq_true, Expr.kids, List.all_eq_true]
      refine ⟨?_, e3⟩
      have n1 : ¬ t.op = 1 := by omega
      have n2 : ¬ t.op = 2 := by omega
      have n3 : ¬ t.op = 3 := by omega
      simp [fe, Expr.kind, Expr.name, Expr.table, Expr.fa, Expr.mi, Expr.fq, n1, n2, n3, hv]
theorem nd : ∀ (d : Nat) (e : Expr) (t : Term), dw ps ts d t = some e → cz d e = true → qj (dp ps tq) d e = .ok t → rtE ps (cm tq) d false t = true
  | 0, _, _, h, _, _ => by cases h
  | d + 1, e, t, h, hR, hA => by
    simp only [rtE]
    by_cases h3 : t.op ≤ 3
    · rw [decide_eq_true h3]
      obtain ⟨p1, p2⟩ := qjp C h3 h hR hA
      simp [p1, p2]
    · rw [decide_eq_false h3]
      have hR' := hR
      simp only [cz, Bool.and_eq_true, List.all_eq_true] at hR'
      obtain ⟨⟨⟨r1, r2⟩, r3⟩, r4⟩ := hR'
      obtain ⟨es, rfl, e2, e3, e4, e5, e6, e7⟩ := qa0 C h3 h hA r4
      have ha : isAgg t.op = false := by
        cases hag : isAgg t.op with
        | false => rfl
        | true =>
          simp only [isAgg, Bool.and_eq_true, decide_eq_true_eq] at hag
          simp only [l9, Expr.kind] at r1
          have k1 : ¬ t.op ≤ 3 := by omega
          have k4 : ¬ t.op = 4 := by omega
          have k5 : ¬ t.op = 5 := by omega
          have k6 : ¬ t.op = 6 := by omega
          have k7 : ¬ t.op = 7 := by omega
          have k8 : ¬ t.op = 8 := by omega
          have k9 : ¬ t.op = 9 := by omega
          have k10 : ¬ t.op = 10 := by omega
          simp [k1, k4, k5, k6, k7, k8, k9, k10] at r1
      have kn := qh3 (num := t.num) h3 ha es e2 t.fa t.mi t.fq noB noB 0
      rw [r1, r2] at kn
      have kn' := kn.symm
      simp only [Bool.and_self, Bool.and_eq_true] at kn'
      obtain ⟨⟨k1, k2⟩, k3⟩ := kn'
      simp only [cond_false, Bool.or_false, ha, Bool.not_false, Bool.true_and, k1, k2, k3, e6, Bool.and_eq_true, List.all_eq_true, Bool.and_true, decide_eq_true e7]
      refine ⟨fun x hx => ⟨?_, e4 x hx⟩, ?_⟩
      · obtain ⟨e', q1, q2, q3⟩ := e3 x hx
        exact nd d e' x q1 q2 q3
      · cases hu : jq t.kids with
        | false => simp
        | true =>
          have : ¬ t.op = 6 := fun h6 => e5 ⟨h6, hu⟩
          simp [this]
end
end Go.RX
namespace Go.RX
theorem qdo : ∀ {ts : List Table} {a : Int} {e : Expr}, oh ts a = some e → e.kind = 3
  | [], _, _, h => by cases h
  | t :: r, a, e, h => by
    simp only [oh] at h
    split at h
    · simp only [Option.some.injEq] at h
      subst h; rfl
    · exact qdo h
theorem qax {ps : List S_x7} {ts : List Table} : ∀ {d : Nat} {t : Term} {e : Expr}, dw ps ts d t = some e → e.kind = t.op
  | 0, _, _, h => by cases h
  | d + 1, ⟨op, num, ty, vk, vi, vt, kids⟩, e, h => by
    rw [ju] at h
    show e.kind = op
    split at h
    · rename_i h2
      split at h
      · simp only [Option.some.injEq] at h
        subst h; exact h2.symm
      · cases h
    split at h
    · rename_i h3
      rw [h3]; exact qdo h
    split at h
    · cases h
    split at h
    · cases h
    simp only [Option.some.injEq] at h
    subst h; rfl
theorem qjh {e : Expr} (hg : (decide (11 ≤ e.kind) && decide (e.kind ≤ 14)) = true) (ho : e.op = 0) (hf : fe e = true) (hk : (e.kind = 11 ∧ e.kids = []) ∨ (e.kind ≠ 11 ∧ ∃ x, e.kids = [x] ∧ cz 15 x = true)) : jh e = true := by
  simp only [jh, hg, cond_true, hf, decide_eq_true ho, Bool.true_and]
  rcases hk with ⟨h1, h2⟩ | ⟨h1, x, h2, h3⟩
  · simp [h1, h2]
  · simp [h1, h2, h3]
section
variable {ps : List S_x7} {ts tq : List Table} (C : TyC ps ts tq)
include C
theorem qmg {d : Nat} {t : Term} (h : isAgg t.op = false) : rtE ps (cm tq) (d + 1) true t = rtE ps (cm tq) (d + 1) false t := by
  simp only [rtE, h]
  rfl
theorem qrr {t : Term} (h : rtE ps (cm tq) 16 true t = true) : ∃ e, dw ps ts 16 t = some e ∧ e.kind = t.op ∧ jh e = true ∧ qj (dp ps tq) 16 e = .ok t := by
  cases ha : isAgg t.op with
  | false =>
    rw [qmg C ha] at h
    obtain ⟨e, h1, h2, h3, h4⟩ := va C 16 t h
    refine ⟨e, h1, h2, ?_, h4⟩
    have : (decide (11 ≤ e.kind) && decide (e.kind ≤ 14)) = false := by rw [h2]; exact ha
    simp only [jh, this, cond_false]
    exact h3
  | true =>
    have ha' := ha
    simp only [isAgg, Bool.and_eq_true, decide_eq_true_eq] at ha'
    have h3 : ¬ t.op ≤ 3 := by omega
    rw [rtE] at h
    rw [decide_eq_false h3] at h
    simp only [cond_false, Bool.or_true, Bool.true_and, Bool.and_eq_true, Bool.not_eq_true', List.all_eq_true, Bool.and_eq_false_iff, decide_eq_true_eq] at h
    obtain ⟨⟨⟨⟨⟨⟨hn, hk⟩, hv⟩, h14⟩, hx⟩, hu⟩, hty⟩ := h
    obtain ⟨es, e1, e2, e3, e4⟩ := qh0 C (d := 15) (op := t.op) (num := t.num) (ty := t.cr) (vk := t.fa) (vi := t.mi) (vt := t.fq) (kids := t.kids) h3 (u0 hk) (fun x hx' => by
      obtain ⟨e, q1, q2, q3, q4⟩ := va C 15 x (hx x hx').1
      exact ⟨e, q1, q3, q4⟩) (fun x hx' => (hx x hx').2) (fun hc => by omega) hv hty
    have et : (⟨t.op, t.num, t.cr, t.fa, t.mi, t.fq, t.kids⟩ : Term) = t := by cases t; rfl
    rw [et] at e1 e4
    refine ⟨_, e1, rfl, ?_, e4 15 rfl⟩
    have n5 : ¬ t.op = 5 := by omega
    have n6 : ¬ t.op = 6 := by omega
    have n7 : ¬ t.op = 7 := by omega
    have n1 : ¬ t.op = 1 := by omega
    have n2 : ¬ t.op = 2 := by omega
    have n3 : ¬ t.op = 3 := by omega
    have n4 : ¬ t.op = 4 := by omega
    have n8 : ¬ t.op = 8 := by omega
    have n9 : ¬ t.op = 9 := by omega
    have n10 : ¬ t.op = 10 := by omega
    have hnum : t.num = 0 := by simpa [mq, n5, n6, n7] using hn
    have hf : fe (.mk t.op t.num t.fa t.mi t.fq noB noB es 0) = true := by
      simp [fe, Expr.kind, Expr.name, Expr.table, Expr.fa, Expr.mi, Expr.fq, n1, n2, n3, hv]
    have hg : (decide (11 ≤ (Expr.mk t.op t.num t.fa t.mi t.fq noB noB es 0).kind) && decide ((Expr.mk t.op t.num t.fa t.mi t.fq noB noB es 0).kind ≤ 14)) = true := ha
    refine qjh hg hnum hf ?_
    by_cases h11 : t.op = 11
    · refine .inl ⟨h11, ?_⟩
      show es = []
      refine List.length_eq_zero_iff.1 ?_
      rw [e2]
      simpa [gv, h11] using hk
    · refine .inr ⟨h11, ?_⟩
      have hl : es.length = 1 := by
        rw [e2]
        have : t.op = 12 ∨ t.op = 13 ∨ t.op = 14 := by omega
        rcases this with h | h | h <;> simpa [gv, h] using hk
      obtain ⟨x, rfl⟩ := List.length_eq_one_iff.1 hl
      exact ⟨x, rfl, e3 x (.head _)⟩
theorem qls {e : Expr} {t : Term} (h : dw ps ts 16 t = some e) (hR : jh e = true) (hA : qj (dp ps tq) 16 e = .ok t) : rtE ps (cm tq) 16 true t = true := by
  have hk := qax h
  cases ha : isAgg t.op with
  | false =>
    rw [qmg C ha]
    have : (decide (11 ≤ e.kind) && decide (e.kind ≤ 14)) = false := by rw [hk]; exact ha
    simp only [jh, this, cond_false] at hR
    exact nd C 16 e t h hR hA
  | true =>
    have ha' := ha
    simp only [isAgg, Bool.and_eq_true, decide_eq_true_eq] at ha'
    have h3 : ¬ t.op ≤ 3 := by omega
    have hg : (decide (11 ≤ e.kind) && decide (e.kind ≤ 14)) = true := by rw [hk]; exact ha
    simp only [jh, hg, cond_true, Bool.and_eq_true, decide_eq_true_eq] at hR
    obtain ⟨⟨r1, r2⟩, r3⟩ := hR
    have rk : (bif decide (t.op = 11) then decide (e.kids.length = 0) else match e.kids with | [x] => cz 15 x | _ => false) = true := by rw [← hk]; exact r3
    have r4 : (∀ x ∈ e.kids, cz 15 x = true) ∧ gv t.op e.kids.length = true := by
      by_cases h11 : t.op = 11
      · rw [decide_eq_true h11] at rk
        simp only [cond_true, decide_eq_true_eq] at rk
        refine ⟨fun x hx => ?_, by simp [gv, h11, rk]⟩
        rw [List.length_eq_zero_iff.1 rk] at hx
        cases hx
      · rw [decide_eq_false h11] at rk
        simp only [cond_false] at rk
        split at rk
        · rename_i x hx
          rw [hx]
          refine ⟨fun y hy => ?_, ?_⟩
          · cases hy with
            | head => exact rk
            | tail _ hy => cases hy
          · have : t.op = 12 ∨ t.op = 13 ∨ t.op = 14 := by omega
            rcases this with h | h | h <;> simp [gv, h]
        · cases rk
    obtain ⟨es, rfl, e2, e3, e4, e5, e6, e7⟩ := qa0 C h3 h hA r4.1
    have k2 : gv t.op t.kids.length = true := by rw [← e2]; exact r4.2
    have n5 : ¬ t.op = 5 := by omega
    have n6 : ¬ t.op = 6 := by omega
    have n7 : ¬ t.op = 7 := by omega
    have hnum : t.num = 0 := r1
    have k1 : mq t.op t.num = true := by simp [mq, n5, n6, n7, hnum]
    rw [rtE, decide_eq_false h3]
    have h14 : t.op ≤ 14 := ha'.2
    simp only [cond_false, Bool.or_true, Bool.true_and, k1, k2, e6, Bool.and_eq_true, List.all_eq_true, Bool.and_true, decide_eq_true e7, decide_eq_true h14, decide_eq_false n6, Bool.false_and, Bool.not_false]
    refine fun x hx => ⟨?_, e4 x hx⟩
    obtain ⟨e', q1, q2, q3⟩ := e3 x hx
    exact nd C 15 e' x q1 q2 q3
def qe0 (w : Int) (t : Term) : Bool := decide (t.cr = w) || decide (t.cr = 0)
omit C in
theorem qbb {q : xc} {w : Int} {e : Expr} {t : Term} : ofE q w e = .ok t ↔ qj q 16 e = .ok t ∧ qe0 w t = true := by
  simp only [ofE, qe0]
  cases qj q 16 e with
  | error f => simp
  | ok u =>
    simp only []
    constructor
    · intro h
      split at h
      · cases h
      · injection h with h
        subst h
        rename_i hc
        refine ⟨rfl, ?_⟩
        simp only [Bool.or_eq_true, decide_eq_true_eq]
        omega
    · intro ⟨h1, h2⟩
      injection h1 with h1
      subst h1
      simp only [Bool.or_eq_true, decide_eq_true_eq] at h2
      rw [if_neg (by omega)]
def ir (ps : List S_x7) (cs : List S_x4) (l : List Term) : Bool := l.all fun x => rtE ps cs 16 false x && qe0 2 x
theorem xa {l : List Term} (h : ir ps (cm tq) l = true) : ∃ es, fw (dw ps ts 16) l = some es ∧ es.length = l.length ∧ es.all (cz 16) = true ∧ jm (ofE (dp ps tq) 2) es = .ok l := by
  simp only [ir, List.all_eq_true, Bool.and_eq_true] at h
  obtain ⟨es, h1, h2, h3, h4⟩ := qcn (P := fun e => cz 16 e = true) (g := ofE (dp ps tq) 2) (f := dw ps ts 16) (l := l) fun x hx => by
    obtain ⟨e, q1, q2, q3, q4⟩ := va C 16 x (h x hx).1
    exact ⟨e, q1, q3, qbb.2 ⟨q4, (h x hx).2⟩⟩
  exact ⟨es, h1, h2, List.all_eq_true.2 h3, h4⟩
theorem qz {l : List Term} {es : List Expr} (h : fw (dw ps ts 16) l = some es) (hR : es.all (cz 16) = true) (hA : jm (ofE (dp ps tq) 2) es = .ok l) : ir ps (cm tq) l = true := by
  obtain ⟨-, h2⟩ := ta h (List.all_eq_true.1 hR) hA
  simp only [ir, List.all_eq_true, Bool.and_eq_true]
  intro x hx
  obtain ⟨e, q1, q2, q3⟩ := h2 x hx
  obtain ⟨q4, q5⟩ := qbb.1 q3
  exact ⟨nd C 16 e x q1 q2 q4, q5⟩
def kh (ps : List S_x7) (cs : List S_x4) : List Term → List Int → Bool
  | x :: l, w :: ws => rtE ps cs 16 false x && qe0 w x && kh ps cs l ws
  | [], [] => true
  | _, _ => false
theorem qli : ∀ {l : List Term} {cs : List S_x4}, kh ps (cm tq) l (cs.map (·.Type_)) = true → ∃ es, fw (dw ps ts 16) l = some es ∧ es.length = cs.length ∧ es.all (cz 16) = true ∧ qjg (dp ps tq) es cs = .ok l
  | [], [], _ => ⟨[], rfl, rfl, rfl, rfl⟩
  | [], c :: cs, h => by simp [kh] at h
  | x :: l, [], h => by simp [kh] at h
  | x :: l, c :: cs, h => by
    simp only [List.map_cons, kh, Bool.and_eq_true] at h
    obtain ⟨⟨h1, h2⟩, h3⟩ := h
    obtain ⟨e, q1, q2, q3, q4⟩ := va C 16 x h1
    obtain ⟨es, r1, r2, r3, r4⟩ := qli h3
    refine ⟨e :: es, by simp only [fw, q1, r1], by simp [r2], by simp only [List.all_cons, q3, r3, Bool.and_self], ?_⟩
    simp only [qjg, qbb.2 ⟨q4, h2⟩, r4]
theorem qdr : ∀ {l : List Term} {cs : List S_x4} {es : List Expr}, fw (dw ps ts 16) l = some es → es.length = cs.length → es.all (cz 16) = true → qjg (dp ps tq) es cs = .ok l → kh ps (cm tq) l (cs.map (·.Type_)) = true
  | [], cs, es, h, hl, _, _ => by
    simp only [fw, Option.some.injEq] at h
    subst h
    obtain rfl := List.length_eq_zero_iff.1 hl.symm
    rfl
  | x :: l, cs, es, h, hl, hR, hA => by
    simp only [fw] at h
    split at h
    · cases h
    rename_i y hy
    split at h
    · cases h
    rename_i ys hys
    simp only [Option.some.injEq] at h
    subst h
    match cs, hl with
    | c :: cs, hl =>
      simp only [List.all_cons, Bool.and_eq_true] at hR
      simp only [qjg] at hA
      split at hA
      · cases hA
      rename_i u hu
      split at hA
      · cases hA
      rename_i us hus
      injection hA with hA
      injection hA with a1 a2
      subst a1 a2
      obtain ⟨q1, q2⟩ := qbb.1 hu
      simp only [List.map_cons, kh, Bool.and_eq_true]
      exact ⟨⟨nd C 16 y _ hy hR.1 q1, q2⟩, qdr hys (by simpa using hl) hR.2 hus⟩
end
end Go.RX
namespace Go.RX
def qe7 : Table := ⟨noB, [], [], 0, []⟩
def wg : S_x4 := ⟨noB, 0, false⟩
def ez (c : bg) (ks : List Int) : Bool := (decide (ks.length = 1) || decide (ks.length = 2)) && ks.all (fun k => inR k c.tables.length)
def j9 (T : Table) : List Int → List Expr → Option (List qaf)
  | [], [] => some []
  | k :: ks, e :: es => if inR k T.columns.length = true then (match j9 T ks es with
      | some r => some (⟨(T.columns.getD k.toNat wg).Name, e, 0⟩ :: r)
      | none => none) else none
  | _, _ => none
def qep : Nat → List Term → Bool
  | _, [] => true
  | i, x :: r => decide (x.op = 3) && decide (x.num = (i : Int)) && qep (i + 1) r
def tw (ts : List Table) (l : List Term) : Bool := decide (8 < l.length) && qep 0 l && (oh ts (l.length : Nat)).isNone
def da (t : Typed) (ts : List Table) (on wh its gs : List Expr) (star : Bool) (ss : List qaf) : Stmt :=
  ⟨t.kind, (ts.getD 0 qe7).name, (if t.tables.length = 2 then (ts.getD 1 qe7).name else noB), on, wh, its, star, ss, gs, t.sorts, t.limit, 0, 0⟩
def mz (c : bg) (ps : List S_x7) (t : Typed) : Option Stmt :=
  if ez c t.tables = true then
    match fw (dw ps (ba c t.tables) 16) t.on with
    | none => none
    | some on => match fw (dw ps (ba c t.tables) 16) t.where_ with
      | none => none
      | some wh => match fw (dw ps (ba c t.tables) 16) t.items with
        | none => none
        | some its => match fw (oh (ba c t.tables)) t.groups with
          | none => none
          | some gs =>
            if t.kind = 2 then (match j9 ((ba c t.tables).getD 0 qe7) t.columns its with
              | none => none
              | some ss => some (da t (ba c t.tables) on wh [] gs false ss))
            else if t.kind = 4 ∧ tw (ba c t.tables) t.items = true then some (da t (ba c t.tables) on wh [] gs true [])
            else some (da t (ba c t.tables) on wh its gs false [])
  else none
def ni (l : List Term) (n : Nat) : Bool := qep 0 l && decide (l.length = n)
def ki (t : Typed) : Bool := decide (t.groups.length ≠ 0) || t.items.any fun x => isAgg x.op
def me (ps : List S_x7) (cs : List S_x4) (t : Typed) : Bool :=
  (t.grouped == ki t) && decide (t.groups.length ≤ 8) && decide (t.sorts.length ≤ 8) && decide (t.limit.length ≤ 1) && decide (t.columns.length = 0) && decide (1 ≤ t.items.length) &&
  (decide (t.items.length ≤ 8) || (ni t.items cs.length && !ki t && decide (t.items.length ≤ 16))) && okF (fun n => inR n cs.length) id [] t.groups &&
  t.items.all (fun x => rtE ps cs 16 true x && (!ki t || isAgg x.op || (decide (x.op = 3) && i5 x.num t.groups))) && decide (t.types = t.items.map (·.cr)) &&
  t.sorts.all (fun x => decide (1 ≤ x.Item) && decide (x.Item ≤ (t.items.length : Int)) && decide (x.At = 0)) && t.limit.all (within · qfn)
def iq (c : bg) (t : Typed) : Bool := t.tables.all (fun k => inR k c.tables.length) &&
  (bif decide (t.tables.length = 2) then decide (t.kind = 4) && !decide (t.tables.getD 0 0 = t.tables.getD 1 0) && decide (t.on.length = 1) else decide (t.tables.length = 1) && decide (t.on.length = 0))
def j3 (ps : List S_x7) (cs : List S_x4) (t : Typed) : Bool :=
  !t.grouped && decide (t.groups.length = 0) && decide (t.sorts.length = 0) && decide (t.limit.length = 0) && decide (t.types.length = 0) &&
  (bif decide (t.kind = 1) then decide (t.columns.length = 0) && decide (t.where_.length = 0) && kh ps [] t.items (cs.map (·.Type_))
   else bif decide (t.kind = 3) then decide (t.columns.length = 0) && decide (t.items.length = 0)
   else okF (fun n => inR n cs.length) id [] t.columns && decide (1 ≤ t.columns.length) && kh ps cs t.items (t.columns.map fun k => (cs.getD k.toNat wg).Type_))
def ib (c : bg) (ps : List S_x7) (t : Typed) : Bool :=
  dv c && dr ps && decide (1 ≤ t.kind) && decide (t.kind ≤ 4) && iq c t &&
  (ir ps (cm (ba c t.tables)) t.on && decide (t.on.length ≤ 1)) && (ir ps (cm (ba c t.tables)) t.where_ && decide (t.where_.length ≤ 1)) &&
  (bif decide (t.kind = 4) then me ps (cm (ba c t.tables)) t else j3 ps (cm (ba c t.tables)) t)
structure mj (T : Table) : Prop where
  name : isName T.name = true
  cols : ∀ c ∈ T.columns, isName c.Name = true
  least : 1 ≤ T.columns.length
  most : T.columns.length ≤ 16
  once : (T.columns.map (·.Name)).Nodup
theorem ql {c : bg} (h : dv c = true) : (∀ T ∈ c.tables, mj T) ∧ (c.tables.map (·.name)).Nodup := by
  simp only [dv, Bool.and_eq_true, lj] at h
  obtain ⟨⟨⟨h1, h2⟩, h3, h4, h5⟩, h6⟩ := h
  refine ⟨fun T hT => ?_, h4⟩
  have := h3 T hT
  simp only [qgy, iw, Bool.and_eq_true, lj, decide_eq_true_eq] at this
  obtain ⟨n, ⟨⟨⟨⟨⟨⟨⟨_, a1⟩, a2⟩, a3⟩, a4, a5, a6⟩, a7⟩, a8⟩, a9⟩, a10⟩ := this
  exact ⟨n, fun c hc => by have := a4 c hc; simp only [qja, Bool.and_eq_true] at this; exact this.1, a1, a2, a5⟩
theorem uo {α : Type} {key : α → ByteArray} : ∀ (l : List α) (i j : Nat) (h : i < l.length), (l.map key).Nodup → yb (fun x => decide (key x = key l[i])) j l = some (j + i)
  | [], _, _, h, _ => by simp at h
  | x :: l, 0, j, _, _ => by simp [yb]
  | x :: l, i + 1, j, h, hn => by
    simp only [List.map_cons, List.nodup_cons] at hn
    have hi : i < l.length := by simpa using h
    have : ¬ key x = key l[i] := fun e => hn.1 (by rw [e]; exact List.mem_map_of_mem (List.getElem_mem hi))
    simp only [List.getElem_cons_succ, yb, decide_eq_false this, cond_false]
    rw [uo l i (j + 1) hi hn.2]
    congr 1
    omega
theorem qy {c : bg} (h : (c.tables.map (·.name)).Nodup) {i : Nat} (hi : i < c.tables.length) : qc2 c c.tables[i].name = some i := by
  have := uo c.tables i 0 hi h
  rw [Nat.zero_add] at this
  exact this
theorem qhi {T : Table} (h : (T.columns.map (·.Name)).Nodup) {i : Nat} (hi : i < T.columns.length) : qk4 T T.columns[i].Name = some i := by
  have := uo (key := S_x4.Name) T.columns i 0 hi h
  rw [Nat.zero_add] at this
  exact this
theorem TyC.nil {ps : List S_x7} {ts : List Table} (C : TyC ps ts ts) : TyC ps ts [] := ⟨.inr rfl, C.names, C.once, C.pnames, C.ponce⟩
theorem qb {ps : List S_x7} (h : dr ps = true) : (∀ p ∈ ps, isName p.Name = true) ∧ (ps.map (·.Name)).Nodup := by
  simp only [dr, Bool.and_eq_true, lj] at h
  exact ⟨fun p hp => by have := h.1.1 p hp; simp only [u2, Bool.and_eq_true] at this; exact this.1, h.1.2.1⟩
theorem u3 {T : Table} (h : mj T) : ∀ x ∈ j8 T, isName x.1 = true ∧ isName x.2.Name = true := by
  intro x hx
  obtain ⟨c, hc, rfl⟩ := List.mem_map.1 hx
  exact ⟨h.name, h.cols c hc⟩
theorem ze {T : Table} (h : mj T) : ((j8 T).map fun x => (x.1, x.2.Name)).Nodup := by
  have e : ((j8 T).map fun x => (x.1, x.2.Name)) = (T.columns.map (·.Name)).map fun n => (T.name, n) := by simp [j8, Function.comp_def]
  rw [e]
  unfold List.Nodup
  rw [List.pairwise_map]
  exact h.once.imp fun hab e => hab (by injection e)
inductive q7k (c : bg) (t : Typed) : Prop where
  | one (i : Nat) (h : i < c.tables.length) (e : t.tables = [((i : Nat) : Int)])
  | two (i j : Nat) (h : i < c.tables.length) (h' : j < c.tables.length) (e : t.tables = [((i : Nat) : Int), ((j : Nat) : Int)])
theorem qc4 {c : bg} {t : Typed} (h : ez c t.tables = true) : q7k c t := by
  simp only [ez, Bool.and_eq_true, Bool.or_eq_true, decide_eq_true_eq, List.all_eq_true] at h
  obtain ⟨h1 | h1, h2⟩ := h
  · obtain ⟨a, ha⟩ := List.length_eq_one_iff.1 h1
    have := gu.1 (h2 a (by rw [ha]; exact .head _))
    exact .one a.toNat (by omega) (by rw [ha]; congr 1; omega)
  · match hl : t.tables, h1 with
    | [a, b], _ =>
      have ha := gu.1 (h2 a (by rw [hl]; exact .head _))
      have hb := gu.1 (h2 b (by rw [hl]; exact .tail _ (.head _)))
      exact .two a.toNat b.toNat (by omega) (by omega) (by rw [hl, Int.toNat_of_nonneg ha.1, Int.toNat_of_nonneg hb.1])
theorem qjn {c : bg} {i : Nat} (h : i < c.tables.length) : ez c [((i : Nat) : Int)] = true := by
  simp [ez, inR, h]
theorem qjo {c : bg} {i j : Nat} (h : i < c.tables.length) (h' : j < c.tables.length) : ez c [((i : Nat) : Int), ((j : Nat) : Int)] = true := by
  simp [ez, inR, h, h']
theorem qbs {c : bg} {i : Nat} (h : i < c.tables.length) : ba c [((i : Nat) : Int)] = [c.tables[i]] := by
  simp [ba, h]
theorem u9 {c : bg} {i j : Nat} (h : i < c.tables.length) (h' : j < c.tables.length) : ba c [((i : Nat) : Int), ((j : Nat) : Int)] = [c.tables[i], c.tables[j]] := by
  simp [ba, h, h']
theorem qsu {c : bg} (hc : dv c = true) {ps : List S_x7} (hp : dr ps = true) {i : Nat} (h : i < c.tables.length) : TyC ps [c.tables[i]] [c.tables[i]] := by
  have g := (ql hc).1 _ (List.getElem_mem h)
  have e : fh [c.tables[i]] = j8 c.tables[i] := by simp [fh]
  exact ⟨.inl rfl, by rw [e]; exact u3 g, by rw [e]; exact ze g, (qb hp).1, (qb hp).2⟩
theorem qsv {c : bg} (hc : dv c = true) {ps : List S_x7} (hp : dr ps = true) {i j : Nat} (h : i < c.tables.length) (h' : j < c.tables.length) (hij : i ≠ j) : TyC ps [c.tables[i], c.tables[j]] [c.tables[i], c.tables[j]] := by
  obtain ⟨g0, gn⟩ := ql hc
  have g := g0 _ (List.getElem_mem h)
  have g' := g0 _ (List.getElem_mem h')
  have e : fh [c.tables[i], c.tables[j]] = j8 c.tables[i] ++ j8 c.tables[j] := by simp [fh]
  have hne : c.tables[i].name ≠ c.tables[j].name := fun e => by
    have h1 := qy gn h
    have h2 := qy gn h'
    rw [e, h2] at h1
    injection h1 with h1
    exact hij h1.symm
  refine ⟨.inl rfl, ?_, ?_, (qb hp).1, (qb hp).2⟩
  · rw [e]
    intro x hx
    rcases List.mem_append.1 hx with hx | hx
    · exact u3 g x hx
    · exact u3 g' x hx
  · rw [e, List.map_append]
    refine List.nodup_append.2 ⟨ze g, ze g', fun a ha b hb e => ?_⟩
    subst e
    obtain ⟨x, hx, rfl⟩ := List.mem_map.1 ha
    obtain ⟨y, hy, hxy⟩ := List.mem_map.1 hb
    obtain ⟨c1, _, rfl⟩ := List.mem_map.1 hx
    obtain ⟨c2, _, rfl⟩ := List.mem_map.1 hy
    injection hxy with h1 h2
    exact hne h1.symm
end Go.RX
namespace Go.RX
def qlj (g : Bool) (gs : List Int) (t : Term) : Bool := !g || isAgg t.op || (decide (t.op = 3) && i5 t.num gs)
theorem qdy {q : xc} {g : Bool} {gs : List Int} {e : Expr} {t : Term} : uv q g gs e = .ok t ↔ qj q 16 e = .ok t ∧ qlj g gs t = true := by
  simp only [uv, qlj]
  cases qj q 16 e with
  | error f => simp
  | ok u =>
    simp only []
    constructor
    · intro h
      split at h
      · cases h
      · injection h with h
        subst h
        rename_i hc
        refine ⟨rfl, ?_⟩
        revert hc
        cases g <;> cases isAgg u.op <;> cases (decide (u.op = 3) && i5 u.num gs) <;> simp
    · intro ⟨h1, h2⟩
      injection h1 with h1
      subst h1
      rw [if_neg]
      revert h2
      cases g <;> cases isAgg u.op <;> cases (decide (u.op = 3) && i5 u.num gs) <;> simp
def qsn (n : Nat) (x : S_xd) : Bool := decide (1 ≤ x.Item) && decide (x.Item ≤ (n : Int)) && decide (x.At = 0)
theorem tv {n : Nat} : ∀ {l : List S_xd}, jm (wa n) l = .ok l ↔ l.all (qsn n) = true
  | [] => by simp [jm]
  | x :: l => by
    have ih := tv (n := n) (l := l)
    obtain ⟨I, D, A⟩ := x
    simp only [jm, wa, List.all_cons, qsn, Bool.and_eq_true, decide_eq_true_eq, ← ih]
    by_cases h : I < 1 ∨ I > (n : Int)
    · rw [if_pos h]
      simp only [reduceCtorEq, false_iff]
      omega
    · rw [if_neg h]
      simp only []
      cases hm : jm (wa n) l with
      | error f => simp
      | ok r =>
        simp only [Except.ok.injEq, List.cons.injEq, S_xd.mk.injEq, true_and]
        constructor
        · rintro ⟨h1, h2⟩; exact ⟨⟨by omega, h1.symm⟩, h2⟩
        · rintro ⟨⟨_, h1⟩, h2⟩; exact ⟨h1.symm, h2⟩
section
variable {ps : List S_x7} {ts : List Table} (C : TyC ps ts ts)
include C
theorem qlk : ∀ {l ns : List Int}, okF (fun n => inR n (cm ts).length) id ns l = true → ∃ es, fw (oh ts) l = some es ∧ es.length = l.length ∧ es.all ye = true ∧ qe9 (dp ps ts) ns es = .ok l
  | [], ns, _ => ⟨[], rfl, rfl, rfl, rfl⟩
  | a :: l, ns, h => by
    simp only [okF, Bool.and_eq_true, Bool.not_eq_true', id] at h
    obtain ⟨⟨h1, h2⟩, h3⟩ := h
    obtain ⟨e, q1, q2, q3, q4⟩ := qk5 C h1 15
    obtain ⟨es, r1, r2, r3, r4⟩ := qlk h3
    refine ⟨e :: es, by simp only [fw, q1, r1], by simp [r2], ?_, ?_⟩
    · simp only [List.all_cons, r3, Bool.and_true, ye, q2, decide_true, Bool.true_and]
      exact q3
    · simp only [qe9, q4, Term.num, h2, r4]
      simp
theorem qdv : ∀ {l ns : List Int} {es : List Expr}, fw (oh ts) l = some es → qe9 (dp ps ts) ns es = .ok l → okF (fun n => inR n (cm ts).length) id ns l = true
  | [], ns, es, _, _ => rfl
  | a :: l, ns, es, h, hA => by
    simp only [fw] at h
    split at h
    · cases h
    rename_i y hy
    split at h
    · cases h
    rename_i ys hys
    simp only [Option.some.injEq] at h
    subst h
    simp only [qe9] at hA
    split at hA
    · cases hA
    rename_i u hu
    split at hA
    · cases hA
    rename_i hm
    split at hA
    · cases hA
    rename_i gs hgs
    injection hA with hA
    injection hA with a1 a2
    subst a2
    obtain ⟨i1, i2⟩ := qhk C hy hu
    have hn : u.num = a := a1
    rw [hn] at hm hgs
    simp only [okF, Bool.and_eq_true, Bool.not_eq_true', id]
    exact ⟨⟨i1, by simpa using hm⟩, qdv hys hgs⟩
theorem qor {l : List Term} {g : Bool} {gs : List Int} (h : l.all (fun x => rtE ps (cm ts) 16 true x && qlj g gs x) = true) : ∃ es, fw (dw ps ts 16) l = some es ∧ es.length = l.length ∧ es.all jh = true ∧ jm (uv (dp ps ts) g gs) es = .ok l := by
  simp only [List.all_eq_true, Bool.and_eq_true] at h
  obtain ⟨es, h1, h2, h3, h4⟩ := qcn (P := fun e => jh e = true) (g := uv (dp ps ts) g gs) (f := dw ps ts 16) (l := l) fun x hx => by
    obtain ⟨e, q1, q2, q3, q4⟩ := qrr C (h x hx).1
    exact ⟨e, q1, q3, qdy.2 ⟨q4, (h x hx).2⟩⟩
  exact ⟨es, h1, h2, List.all_eq_true.2 h3, h4⟩
theorem qji {l : List Term} {es : List Expr} {g : Bool} {gs : List Int} (h : fw (dw ps ts 16) l = some es) (hR : es.all jh = true) (hA : jm (uv (dp ps ts) g gs) es = .ok l) : l.all (fun x => rtE ps (cm ts) 16 true x && qlj g gs x) = true := by
  obtain ⟨-, h2⟩ := ta h (List.all_eq_true.1 hR) hA
  simp only [List.all_eq_true, Bool.and_eq_true]
  intro x hx
  obtain ⟨e, q1, q2, q3⟩ := h2 x hx
  obtain ⟨q4, q5⟩ := qdy.1 q3
  exact ⟨qls C q1 q2 q4, q5⟩
omit C in
theorem qb4 : ∀ {l : List Term} {es : List Expr}, fw (dw ps ts 16) l = some es → (es.any fun e => isAgg e.kind) = l.any fun x => isAgg x.op
  | [], es, h => by
    simp only [fw, Option.some.injEq] at h
    subst h; rfl
  | x :: l, es, h => by
    simp only [fw] at h
    split at h
    · cases h
    rename_i y hy
    split at h
    · cases h
    rename_i ys hys
    simp only [Option.some.injEq] at h
    subst h
    simp only [List.any_cons, qax hy, qb4 hys]
omit C in
theorem je {α β : Type} {f : α → Option β} : ∀ {l : List α} {es : List β}, fw f l = some es → es.length = l.length
  | [], es, h => by
    simp only [fw, Option.some.injEq] at h
    subst h; rfl
  | x :: l, es, h => by
    simp only [fw] at h
    split at h
    · cases h
    split at h
    · cases h
    rename_i ys hys
    simp only [Option.some.injEq] at h
    subst h
    simp [je hys]
omit C in
theorem qmz : ∀ {l : List Term} {cs : List S_x4} {i : Nat} {all : List S_x4}, qep i l = true → l.length = cs.length → (∀ j, j < cs.length → all[i + j]? = cs[j]?) → l.all (fun x => rtE ps all 16 true x) = true → cv i cs = l
  | [], [], _, _, _, _, _, _ => rfl
  | [], _ :: _, _, _, _, h, _, _ => by simp at h
  | _ :: _, [], _, _, _, h, _, _ => by simp at h
  | x :: l, c :: cs, i, all, hs, hl, hc, hr => by
    simp only [qep, Bool.and_eq_true, decide_eq_true_eq] at hs
    obtain ⟨⟨s1, s2⟩, s3⟩ := hs
    simp only [List.all_cons, Bool.and_eq_true] at hr
    have ih := qmz (l := l) (cs := cs) (i := i + 1) (all := all) s3 (by simpa using hl) (fun j hj => by
      have := hc (j + 1) (by simpa using hj)
      rw [List.getElem?_cons_succ] at this
      rw [← this]; congr 1; omega) hr.2
    rw [cv, ih]
    have h0 := hc 0 (by simp)
    rw [Nat.add_zero, List.getElem?_cons_zero] at h0
    obtain ⟨op, num, ty, vk, vi, vt, kids⟩ := x
    obtain rfl : op = 3 := s1
    obtain rfl : num = (i : Int) := s2
    have hx := hr.1
    rw [rtE] at hx
    have d3 : decide ((Term.mk 3 (i : Int) ty vk vi vt kids).op ≤ 3) = true := rfl
    rw [d3, cond_true, qc] at hx
    have d1 : decide ((3 : Int) = 1) = false := rfl
    have d2 : decide ((3 : Int) = 2) = false := rfl
    simp only [d1, d2, cond_false, decide_true, cond_true, Bool.and_eq_true, decide_eq_true_eq] at hx
    obtain ⟨⟨⟨x1, x2⟩, x3⟩, x4⟩ := hx
    obtain ⟨rfl, rfl, rfl⟩ := py.1 x2
    have hk : kids = [] := List.length_eq_zero_iff.1 x4
    subst hk
    have e : all.getD (i : Int).toNat ⟨noB, 0, false⟩ = c := by simp [List.getD, h0]
    rw [e] at x3
    rw [x3]
omit C in
theorem qm0 : ∀ (cs : List S_x4) (i : Nat) (all : List S_x4), (∀ j, j < cs.length → all[i + j]? = cs[j]?) → (cv i cs).all (fun x => rtE ps all 16 true x) = true
  | [], _, _, _ => rfl
  | c :: cs, i, all, hc => by
    have h0 := hc 0 (by simp)
    rw [Nat.add_zero, List.getElem?_cons_zero] at h0
    have hi : i < all.length := (List.getElem?_eq_some_iff.1 h0).1
    have ih := qm0 cs (i + 1) all (fun j hj => by
      have := hc (j + 1) (by simpa using hj)
      rw [List.getElem?_cons_succ] at this
      rw [← this]; congr 1; omega)
    simp only [cv, List.all_cons, Bool.and_eq_true]
    refine ⟨?_, ih⟩
    rw [rtE]
    have d3 : decide ((Term.mk 3 (i : Int) c.Type_ 0 0 noB []).op ≤ 3) = true := rfl
    rw [d3, cond_true, qc]
    have d1 : decide ((3 : Int) = 1) = false := rfl
    have d2 : decide ((3 : Int) = 2) = false := rfl
    have e : all.getD (i : Int).toNat ⟨noB, 0, false⟩ = c := by simp [List.getD, h0]
    have hin : inR (i : Int) all.length = true := gu.2 (by omega)
    rw [e]
    simp [d1, d2, hin, j6, Term.kids]
end
end Go.RX
