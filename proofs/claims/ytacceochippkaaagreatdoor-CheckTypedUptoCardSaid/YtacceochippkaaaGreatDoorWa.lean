/- What the arguments read as; a world that holds what the row lists; the row. No condition. -/
import Derived.Test.YtacceochippkaaaGreatDoorTe
import Derived.Test.YtacceochippkaaaGreatDoorGz
import Derived.Test.YtacceochippkaaaGreatDoorRows
import Derived.ChangeArms
import Derived.SizedLaws
set_option linter.all false
set_option maxRecDepth 100000
namespace Go.RW
open Go.Proofs Go.RX
noncomputable section
def cx0 (w : World) : Cx := ⟨fun _ => .none, fun b => b < w.heap.size, w, fun _ => False, w.heap.size⟩
theorem yu {i : Nat} : ¬ Live (ct []) i := by
 rintro ⟨o, h, _⟩
 simp [ct] at h
theorem jaz (w : World) : HRl (cx0 w) [] :=
 ⟨⟨fun i o h => by simp [ct] at h, fun i _ _ h => (yu h).elim, fun i _ h => (yu h).elim, fun b h => h, fun i _ h => (yu h).elim, fun i _ h => (yu h).elim, Nat.le_refl _⟩, fun i => ⟨fun h => h.elim, fun h => absurd h (by simp)⟩⟩
def RdI (L : Nat → Prop) (m : Bool) (b : Nat) : Prop := m = false ∧ L b
theorem qzl {L : Nat → Prop} {w : World} (hL : ∀ b, L b → b < w.heap.size) {xs : List PV} {cs : List Value} (h : dx (RdI L) w xs cs) : dx (cx0 w).J (cx0 w).w xs cs :=
 dx.mono (fun m b hb => ⟨hL b hb.2, fun e => by rw [hb.1] at e; cases e⟩) (fun _ _ _ => rfl) xs cs h
theorem qzm {L : Nat → Prop} {w : World} (hL : ∀ b, L b → b < w.heap.size) {x : PV} {cs : List Value} (h : RoC (RdI L) w x cs) : RoC (cx0 w).J (cx0 w).w x cs :=
 RoC.mono (fun m b hb => ⟨hL b hb.2, fun e => by rw [hb.1] at e; cases e⟩) (fun _ _ _ => rfl) x cs h
structure Kp (w w' : World) : Prop where
 os : w'.os = w.os
 tape : w'.tape = w.tape
 output : w'.output = w.output
 size : w.heap.size ≤ w'.heap.size
 keep : ∀ b, b < w.heap.size → w'.heap[b]? = w.heap[b]?
def q7b : Exit → Act → World → Prop := fun _ _ _ => False
theorem qb8 {P : Program} {f : FuncId} {args : List AV} {r : AV} {h' : List AO} (hr : fj P f args [] r h') {w : World} {vals : Array Value} (hv : Vs (cx0 w) args vals.toList)
  {fn : Func} (hf : dk P f fn) {code : Code} (hcode : fn.body = some code) : Calls P f vals w fun e w' => ∃ v c', e = .returned v ∧ V c' r v ∧ c'.w = w' ∧ Kp w w' := by
 let a : Act := { tmps := #[undef], defers := [] }
 let o : Oper := { dst := some 0, op := .box 0 (.tmp 0), type := 0, pos := "", after := #[], guard := none }
 have h := hr (cx0 w) vals o a (fun a' w' => ∃ v c', a'.tmps = #[v] ∧ V c' r v ∧ c'.w = w' ∧ Kp w w') q7b hv (jaz w) fun v c' h1 h2 h3 _ _ =>
  ⟨v, c', rfl, h1, rfl, h3.os, h3.tape, h3.output, h3.size, fun b hb => h3.keep b hb fun i hi => (yu hi).elim⟩
 have hrun : (callFunc f vals).run P w = .ok (.enter f vals) w := by
  simp [callFunc, hf.at_, hf.ne, hcode]
 have hw : (cx0 w).w = w := rfl
 rw [hw, hrun, Oper.upon_enter] at h
 refine h.mono fun e w' he => ?_
 cases e with
 | returned v =>
  obtain ⟨v', c', h1, h2, h3, h4⟩ := he
  have : v' = v := by
   have : (#[v] : Array Value) = #[v'] := h1
   injection this with this
   injection this with this
   exact this.symm
  subst this
  exact ⟨_, c', rfl, h2, h3, h4⟩
 | panicked chain => exact he.elim
 | outgrown => obtain ⟨_, _, he⟩ := he; exact he.elim
end
end Go.RW
namespace Go.RW
open Go.RX Go.Proofs.YtacceochippkaaaGreatDoor
theorem one_le {H : Type} (d : DataW H) : 1 ≤ Rows.uptoBulk d := by
 cases d with
 | lit l => cases l <;> simp [Rows.uptoBulk]
 | nil => simp [Rows.uptoBulk]
 | ptr d => simp [Rows.uptoBulk]
 | slice elems spare => simp [Rows.uptoBulk]
 | agg parts => simp [Rows.uptoBulk]
 | iface t d => simp [Rows.uptoBulk]
 | map entries => simp [Rows.uptoBulk]
 | held h => simp [Rows.uptoBulk]
theorem ql9 {H : Type} {d : DataW H} {l : List (DataW H)} (h : d ∈ l) : Rows.uptoBulk d ≤ Rows.uptoBulkAll l := by
 induction l with
 | nil => cases h
 | cons x r ih =>
  simp only [Rows.uptoBulkAll]
  cases List.mem_cons.1 h with
  | inl e => subst e; omega
  | inr e => have := ih e; omega
theorem length_le {H : Type} (l : List (DataW H)) : l.length ≤ Rows.uptoBulkAll l := by
 induction l with
 | nil => simp [Rows.uptoBulkAll]
 | cons x r ih => have := one_le x; simp only [Rows.uptoBulkAll, List.length_cons]; omega
def qqs {α : Type} (μ : α → Nat) : List α → Nat
 | [] => 0
 | x :: r => μ x + qqs μ r
theorem qqt {H α : Type} {μ : α → Nat} : ∀ (l : List α) (E : List (DataW H)), l.length = E.length → (∀ (i : Nat) (h : i < l.length) (h' : i < E.length), μ l[i] ≤ Rows.uptoBulk E[i]) → qqs μ l ≤ Rows.uptoBulkAll E
 | [], _, _, _ => Nat.zero_le _
 | x :: l, [], h, _ => by simp at h
 | x :: l, e :: E, h, hi => by
  have h0 := hi 0 (by simp) (by simp)
  have := qqt l E (by simpa using h) fun i a b => hi (i + 1) (by simpa using a) (by simpa using b)
  simp only [qqs, Rows.uptoBulkAll]
  simp only [List.getElem_cons_zero] at h0
  omega
section
variable {H : Type} {enc : TypeId × Value → H} {P : Program} {w : World}
def Rdb (enc : TypeId × Value → H) (P : Program) (w : World) (R n : Nat) (t : TypeId) (cs : List Value) : Prop :=
 ∃ (d : DataW H) (ps : List MemPlace), DataW.trod enc P w 0 (fun _ => true) true n t cs = some (d, ps) ∧ Rows.uptoBulk d ≤ R
variable {R n : Nat} {t e : TypeId} {cs : List Value}
theorem ma {k : IntKind} (h : Rdb enc P w R n t cs) (hu : P.underlying t = some (.int k)) : ∃ i, cs = [.int k i] ∧ (Lit.int k i).wf = true := by
 obtain ⟨d, ps, h, _⟩ := h
 obtain ⟨i, h1, _, h2⟩ := DataW.trod_int hu h
 exact ⟨i, h1, h2⟩
theorem wf_i64 {n : Int} (h : (Lit.int .i64 n).wf = true) : i64 n := by
 simp [Lit.wf] at h
 have e : IntKind.min .i64 = -9223372036854775808 := by decide
 rw [e] at h
 exact ⟨h.1, by omega⟩
theorem qcp (h : Rdb enc P w R n t cs) (hu : P.underlying t = some .bool) : ∃ b, cs = [.bool b] := by
 obtain ⟨d, ps, h, _⟩ := h
 obtain ⟨i, h1, _⟩ := DataW.trod_bool hu h
 exact ⟨i, h1⟩
theorem yx (h : Rdb enc P w R n t cs) (hu : P.underlying t = some .string) : ∃ s : ByteArray, cs = [.string s] ∧ s.size ≤ R := by
 obtain ⟨d, ps, h, hw⟩ := h
 obtain ⟨s, h1, h2, _⟩ := DataW.trod_string hu h
 injection h2 with h2
 subst h2
 refine ⟨s, h1, ?_⟩
 simp only [Rows.uptoBulk] at hw
 simp at hw
 omega
theorem ql7 {fs : Array Field} (h : Rdb enc P w R n t cs) (hu : P.underlying t = some (.struct fs)) :
  ∃ m R', n = m + 1 ∧ R = R' + 1 ∧ cs.length = P.cellsOf t ∧ ∀ (i : Nat) (f : Field), fs[i]? = some f → Rdb enc P w R' m f.type ((cs.drop f.offset).take (P.cellsOf f.type)) := by
 obtain ⟨d, ps, h, hw⟩ := h
 obtain ⟨xs, m, h1, h2, h3, h4, h5⟩ := DataW.trod_struct hu h
 injection h2 with h2 _
 subst h2
 simp only [Rows.uptoBulk] at hw
 refine ⟨m, R - 1, h1, by omega, h3, fun i f hf => ?_⟩
 have hi : i < fs.size := (Array.getElem?_eq_some_iff.1 hf).1
 have hx : xs[i]? = some xs[i] := List.getElem?_eq_getElem (by omega)
 refine ⟨xs[i].1, xs[i].2, by rw [h5 i f hf, hx], ?_⟩
 have := ql9 (d := xs[i].1) (l := xs.map (·.1)) (List.mem_map.2 ⟨_, List.getElem_mem _, rfl⟩)
 omega
theorem qo8 {sz : Nat} (h : Rdb enc P w R n t cs) (hu : P.underlying t = some (.slice e)) (hc : P.cellsOf e = sz) (hsz : 0 < sz) :
  ∃ m, n = m + 1 ∧ ∃ a len cap, cs = [.slice a len cap] ∧ (len ≤ cap ∧ len ≤ maxLen) ∧ ∃ E : List (DataW H), E.length = len ∧ Rows.uptoBulkAll E + 1 ≤ R ∧ (0 < len → ∃ b off, a = some ⟨b, off, none⟩ ∧ b < w.heap.size ∧
   ∀ (i : Nat) (hi : i < E.length), ∃ es, es.length = sz ∧ (∀ j, j < sz → w.cell? ⟨b, off + i * sz + j, none⟩ = es[j]?) ∧ ∃ ps, DataW.trod enc P w 0 (fun _ => true) true m e es = some (E[i], ps)) := by
 obtain ⟨d, ps, h, hw⟩ := h
 rcases DataW.trod_slice hu h with ⟨rfl, h2⟩ | ⟨a, len, cap, elems, rest, m, h1, rfl, h2, _, h3, h4, h5, h6, _, _⟩
 ·cases n with
  | zero => simp [DataW.trod] at h
  | succ m => exact ⟨m, rfl, none, 0, 0, rfl, ⟨Nat.le_refl _, Nat.zero_le _⟩, [], rfl, by have := one_le d; simp only [Rows.uptoBulkAll]; omega, fun h => absurd h (by omega)⟩
 ·injection h2 with h2 _
  subst h2
  simp only [Rows.uptoBulk] at hw
  have cell : ∀ (i : Nat) (hi : i < len), ∃ es, es.length = sz ∧ (∀ j, j < sz → w.cell? ((a.add (i * sz)).add j) = es[j]?) ∧ ∃ (h' : i < elems.length) (ps : List MemPlace), DataW.trod enc P w 0 (fun _ => true) true m e es = some (elems[i].1, ps) := fun i hi => by
   have hx : elems[i]? = some elems[i] := List.getElem?_eq_getElem (by omega)
   have := h6 i hi
   rw [hx, hc, Option.bind_eq_some_iff] at this
   obtain ⟨es, he, ht⟩ := this
   simp only [World.cells?, Nat.zero_le, if_true] at he
   refine ⟨es, by simpa using mapM_some_length he, fun j hj => ?_, by omega, elems[i].2, ht⟩
   exact mapM_some_get he j j (by simp [hj])
  refine ⟨m, h1, some a, len, cap, rfl, ⟨h3, by omega⟩, elems.map (·.1), by simp; omega, by omega, fun h0 => ?_⟩
  obtain ⟨es, e1, e2, e3⟩ := cell 0 h0
  have hc0 := e2 0 hsz
  have hsp : a.spot = none ∧ a.block < w.heap.size := by
   rw [List.getElem?_eq_getElem (by omega)] at hc0
   unfold World.cell? at hc0
   split at hc0
   ·rename_i c tt fr hh
    constructor
    ·cases hs : a.spot with
     | none => rfl
     | some x => simp [Addr.add, hs] at hc0
    ·have := (Array.getElem?_eq_some_iff.1 hh).1
     simpa [Addr.add] using this
   ·cases hc0
  obtain ⟨b, off, sp⟩ := a
  obtain ⟨rfl, hbs⟩ := hsp
  refine ⟨b, off, rfl, hbs, fun i hi => ?_⟩
  obtain ⟨es, e1, e2, h', ps', e3⟩ := cell i (by simp at hi; omega)
  refine ⟨es, e1, fun j hj => ?_, ps', by simpa using e3⟩
  have := e2 j hj
  rw [kf, kf] at this
  exact this
theorem qed {α : Type} {Q : Nat → α → Prop} : ∀ {n : Nat}, (∀ i, i < n → ∃ x, Q i x) → ∃ l : List α, l.length = n ∧ ∀ (i : Nat) (hi : i < l.length), Q i l[i]
 | 0, _ => ⟨[], rfl, fun i hi => absurd hi (by simp)⟩
 | n + 1, h => by
  obtain ⟨l, h1, h2⟩ := qed (n := n) fun i hi => h i (by omega)
  obtain ⟨x, hx⟩ := h n (by omega)
  refine ⟨l ++ [x], by simp [h1], fun i hi => ?_⟩
  by_cases hl : i < l.length
  ·rw [List.getElem_append_left hl]
   exact h2 i hl
  ·have : i = l.length := by simp at hi; omega
   subst this
   rw [List.getElem_append_right (Nat.le_refl _)]
   simpa [h1] using hx
def old (w : World) (b : Nat) : Prop := b < w.heap.size
theorem qr8 {α : Type} {f : α → PV} {Pr : α → Prop} (μ : α → Nat) {sz : Nat} (h : Rdb enc P w R n t cs) (hu : P.underlying t = some (.slice e)) (hc : P.cellsOf e = sz) (hsz : 0 < sz)
  (hel : ∀ m es R', m < n → R' < R → Rdb enc P w R' m e es → ∃ x : α, Pr x ∧ μ x ≤ R' ∧ RoC (RdI (old w)) w (f x) es) :
  ∃ l : List α, (∀ x ∈ l, Pr x) ∧ l.length < R ∧ qqs μ l < R ∧ RoC (RdI (old w)) w (.arr false (l.map f).length fun j => (l.map f).getD j .nilp) cs := by
 obtain ⟨m, hm, a, len, cap, rfl, h1, E, hE, hB, h3⟩ := qo8 h hu hc hsz
 by_cases h0 : 0 < len
 ·obtain ⟨b, off, rfl, hbs, h4⟩ := h3 h0
  obtain ⟨l, hl, hq⟩ := qed (Q := fun i (x : α) => Pr x ∧ (∀ h' : i < E.length, μ x ≤ Rows.uptoBulk E[i]) ∧ ∃ es : List Value, es.length = sz ∧ RoC (RdI (old w)) w (f x) es ∧ ∀ j, j < sz → w.cell? ⟨b, off + i * sz + j, none⟩ = es[j]?) (n := len) fun i hi => by
   obtain ⟨es, e1, e2, ps, e3⟩ := h4 i (by omega)
   have := ql9 (d := E[i]) (l := E) (List.getElem_mem _)
   obtain ⟨x, hx, hmu, hr⟩ := hel m es (Rows.uptoBulk E[i]) (by omega) (by omega) ⟨_, ps, e3, Nat.le_refl _⟩
   exact ⟨x, hx, fun _ => hmu, es, e1, hr, e2⟩
  refine ⟨l, fun x hx => ?_, by have := length_le E; omega, Nat.lt_of_le_of_lt (qqt l E (by omega) fun i a b => (hq i a).2.1 b) (by omega), ?_⟩
  ·obtain ⟨i, hi, rfl⟩ := List.mem_iff_getElem.1 hx
   exact (hq i hi).1
  ·simp only [RoC, List.length_map]
   refine ⟨_, cap, by rw [hl], by omega, fun _ => ⟨b, off, sz, rfl, ⟨rfl, hbs⟩, hsz, fun h => (by cases h), fun i hi => ?_⟩⟩
   obtain ⟨_, _, es, e1, e2, e3⟩ := hq i hi
   refine ⟨es, e1, ?_, e3⟩
   simpa [List.getD, hi] using e2
 ·have : len = 0 := by omega
  subst this
  refine ⟨[], fun x hx => (by cases hx), by simp; omega, by simp only [qqs]; omega, ?_⟩
  simp only [RoC, List.map_nil, List.length_nil]
  exact ⟨a, cap, rfl, ⟨Nat.zero_le _, Nat.zero_le _⟩, fun h => absurd h (by omega)⟩
end
end Go.RW
set_option maxRecDepth 100000
namespace Go.RW
open Go.Proofs Go.RX
noncomputable section
def qhs (P : Program) (t : TypeId) : Option (List (TypeId × Nat × Nat)) := match P.underlying t with
 | some (.struct fs) => some (fs.toList.map fun f => (f.type, f.offset, P.cellsOf f.type))
 | _ => none
section
variable {H : Type} {enc : TypeId × Value → H} {w : World} {R n : Nat} {t : TypeId} {cs : List Value}
theorem mu {P : Program} {l : List (TypeId × Nat × Nat)} (h : Rdb enc P w R n t cs) (hf : qhs P t = some l) :
  ∃ m R', n = m + 1 ∧ R = R' + 1 ∧ cs.length = P.cellsOf t ∧ ∀ x ∈ l, Rdb enc P w R' m x.1 ((cs.drop x.2.1).take x.2.2) := by
 unfold qhs at hf
 split at hf
 ·rename_i fs hu
  injection hf with hf
  subst hf
  obtain ⟨m, R', h1, hR, h2, h3⟩ := ql7 h hu
  refine ⟨m, R', h1, hR, h2, fun x hx => ?_⟩
  obtain ⟨f, hf, rfl⟩ := List.mem_map.1 hx
  obtain ⟨i, hi, rfl⟩ := List.mem_iff_getElem.1 hf
  exact h3 i _ (by simp)
 ·cases hf
theorem v9 : Tryz.prog.underlying 9 = some .string := by kernel_rfl
theorem v3 : Tryz.prog.underlying 3 = some (.int .i64) := by kernel_rfl
theorem v4 : Tryz.prog.underlying 4 = some .bool := by kernel_rfl
theorem v22 : Tryz.prog.underlying 22 = some (.slice 49) := by kernel_rfl
theorem v46 : Tryz.prog.underlying 46 = some (.slice 51) := by kernel_rfl
theorem v27 : Tryz.prog.underlying 27 = some (.slice 3) := by kernel_rfl
theorem v47 : Tryz.prog.underlying 47 = some (.slice 190) := by kernel_rfl
theorem v23 : Tryz.prog.underlying 23 = some (.slice 142) := by kernel_rfl
theorem v26 : Tryz.prog.underlying 26 = some (.slice 53) := by kernel_rfl
theorem v138 : Tryz.prog.underlying 138 = some (.slice 9) := by kernel_rfl
theorem v28 : Tryz.prog.underlying 28 = some (.slice 64) := by kernel_rfl
theorem v29 : Tryz.prog.underlying 29 = some (.slice 110) := by kernel_rfl
theorem q7m : Tryz.prog.cellsOf 49 = 5 := by kernel_rfl
theorem q7n : Tryz.prog.cellsOf 51 = 3 := by kernel_rfl
theorem cl3 : Tryz.prog.cellsOf 3 = 1 := by kernel_rfl
theorem qtp : Tryz.prog.cellsOf 190 = 3 := by kernel_rfl
theorem qto : Tryz.prog.cellsOf 142 = 5 := by kernel_rfl
theorem q7o : Tryz.prog.cellsOf 53 = 2 := by kernel_rfl
theorem cl9 : Tryz.prog.cellsOf 9 = 1 := by kernel_rfl
theorem q19 : Tryz.prog.cellsOf 64 = 7 := by kernel_rfl
theorem qtn : Tryz.prog.cellsOf 110 = 3 := by kernel_rfl
theorem q9a : Tryz.prog.cellsOf 25 = 2 := by kernel_rfl
theorem q9b : Tryz.prog.cellsOf 31 = 11 := by kernel_rfl
theorem q9l : qhs Tryz.prog 51 = some [(9, 0, 1), (3, 1, 1), (4, 2, 1)] := by kernel_rfl
theorem q48 : qhs Tryz.prog 190 = some [(9, 0, 1), (27, 1, 1), (4, 2, 1)] := by kernel_rfl
theorem q9k : qhs Tryz.prog 49 = some [(9, 0, 1), (46, 1, 1), (27, 2, 1), (3, 3, 1), (47, 4, 1)] := by kernel_rfl
theorem q9m : qhs Tryz.prog 53 = some [(9, 0, 1), (3, 1, 1)] := by kernel_rfl
theorem q47 : qhs Tryz.prog 142 = some [(9, 0, 1), (26, 1, 1), (138, 2, 1), (3, 3, 1), (3, 4, 1)] := by kernel_rfl
theorem q7q : qhs Tryz.prog 25 = some [(22, 0, 1), (23, 1, 1)] := by kernel_rfl
theorem q46 : qhs Tryz.prog 110 = some [(3, 0, 1), (4, 1, 1), (3, 2, 1)] := by kernel_rfl
theorem q9n : qhs Tryz.prog 62 = some [(3, 0, 1), (3, 1, 1), (9, 2, 1)] := by kernel_rfl
theorem q9o : qhs Tryz.prog 64 = some [(3, 0, 1), (3, 1, 1), (3, 2, 1), (62, 3, 3), (28, 6, 1)] := by kernel_rfl
theorem q7r : qhs Tryz.prog 31 = some [(3, 0, 1), (27, 1, 1), (28, 2, 1), (28, 3, 1), (28, 4, 1), (27, 5, 1), (4, 6, 1), (27, 7, 1), (29, 8, 1), (27, 9, 1), (27, 10, 1)] := by kernel_rfl
abbrev B : Nat := 1048576
theorem ml {α : Type} {f : α → PV} {Pr : α → Prop} (μ : α → Nat) {e : TypeId} {sz : Nat} (h : Rdb enc Tryz.prog w R n t cs) (hu : Tryz.prog.underlying t = some (.slice e)) (hc : Tryz.prog.cellsOf e = sz) (hsz : 0 < sz)
  (hel : ∀ m es R', m < n → R' < R → Rdb enc Tryz.prog w R' m e es → ∃ x : α, Pr x ∧ μ x ≤ R' ∧ RoC (RdI (old w)) w (f x) es) :
  ∃ l : List α, (∀ x ∈ l, Pr x) ∧ l.length < R ∧ qqs μ l < R ∧ RoC (RdI (old w)) w (.arr false (l.map f).length fun j => (l.map f).getD j .nilp) cs :=
 qr8 μ h hu hc hsz hel
theorem o27 (hR : R ≤ B) (h : Rdb enc Tryz.prog w R n 27 cs) : ∃ l : List Int, (∀ x ∈ l, i64 x) ∧ l.length ≤ B ∧ RoC (RdI (old w)) w (.arr false (l.map eI).length fun j => (l.map eI).getD j .nilp) cs := by
 obtain ⟨l, h0, h1, _, h2⟩ := ml (f := eI) (Pr := i64) (fun _ => 0) h v27 cl3 (by decide) fun m es d' _ _ he => by
  obtain ⟨i, rfl, hw⟩ := ma he v3
  exact ⟨i, wf_i64 hw, Nat.zero_le _, by simp [eI, RoC]⟩
 exact ⟨l, h0, by omega, h2⟩
theorem ja5 (hR : R ≤ B) (h : Rdb enc Tryz.prog w R n 138 cs) : ∃ l : List ByteArray, l.length ≤ B ∧ RoC (RdI (old w)) w (.arr false (l.map eS).length fun j => (l.map eS).getD j .nilp) cs := by
 obtain ⟨l, _, h1, _, h2⟩ := ml (f := eS) (Pr := fun _ => True) (fun _ => 0) h v138 cl9 (by decide) fun m es d' _ _ he => by
  obtain ⟨i, rfl, _⟩ := yx he v9
  exact ⟨i, trivial, Nat.zero_le _, by simp [eS, RoC]⟩
 exact ⟨l, by omega, h2⟩
theorem o51 (hR : R ≤ B) (h : Rdb enc Tryz.prog w R n 51 cs) : ∃ x : S_x4, (True) ∧ RoC (RdI (old w)) w (gj x) cs := by
 obtain ⟨m, R', rfl, rfl, hl, hf⟩ := mu h q9l
 have hR' : R' ≤ B := by omega
 rw [q7n] at hl
 match cs, hl with
 | [y0, y1, y2], _ =>
  have h0 := hf (9, 0, 1) (by decide)
  simp only [List.drop_succ_cons, List.drop_zero, List.take_succ_cons, List.take_zero] at h0
  obtain ⟨f0, e0, z0⟩ := yx h0 v9
  replace z0 := Nat.le_trans z0 hR'
  simp only [List.cons.injEq, and_true] at e0
  subst e0
  have h1 := hf (3, 1, 1) (by decide)
  simp only [List.drop_succ_cons, List.drop_zero, List.take_succ_cons, List.take_zero] at h1
  obtain ⟨f1, e1, y1'⟩ := ma h1 v3
  simp only [List.cons.injEq, and_true] at e1
  subst e1
  have h2 := hf (4, 2, 1) (by decide)
  simp only [List.drop_succ_cons, List.drop_zero, List.take_succ_cons, List.take_zero] at h2
  obtain ⟨f2, e2⟩ := qcp h2 v4
  simp only [List.cons.injEq, and_true] at e2
  subst e2
  refine ⟨⟨f0, f1, f2⟩, trivial, ?_⟩
  show dx (RdI (old w)) w _ _
  exact ⟨_, _, rfl, (by simp [RoC, ij, bm, ev, bj]), _, _, rfl, (by simp [RoC, ij, bm, ev, bj]), _, _, rfl, (by simp [RoC, ij, bm, ev, bj]), rfl⟩
theorem o46 (hR : R ≤ B) (h : Rdb enc Tryz.prog w R n 46 cs) : ∃ l : List S_x4, (∀ x ∈ l, True) ∧ l.length ≤ B ∧ RoC (RdI (old w)) w (.arr false (l.map gj).length fun j => (l.map gj).getD j .nilp) cs := by
 obtain ⟨l, h1, h2, _, h3⟩ := ml (f := gj) (Pr := fun x => True) (fun _ => 0) h v46 q7n (by decide) fun m es d' _ hlt he => by
  obtain ⟨x, hx, hr⟩ := o51 (by omega) he
  exact ⟨x, hx, Nat.zero_le _, hr⟩
 exact ⟨l, h1, by omega, h3⟩
theorem ja7 (hR : R ≤ B) (h : Rdb enc Tryz.prog w R n 190 cs) : ∃ x : Index, (x.columns.length ≤ B) ∧ RoC (RdI (old w)) w (jy false x) cs := by
 obtain ⟨m, R', rfl, rfl, hl, hf⟩ := mu h q48
 have hR' : R' ≤ B := by omega
 rw [qtp] at hl
 match cs, hl with
 | [y0, y1, y2], _ =>
  have h0 := hf (9, 0, 1) (by decide)
  simp only [List.drop_succ_cons, List.drop_zero, List.take_succ_cons, List.take_zero] at h0
  obtain ⟨f0, e0, z0⟩ := yx h0 v9
  replace z0 := Nat.le_trans z0 hR'
  simp only [List.cons.injEq, and_true] at e0
  subst e0
  have h1 := hf (27, 1, 1) (by decide)
  simp only [List.drop_succ_cons, List.drop_zero, List.take_succ_cons, List.take_zero] at h1
  obtain ⟨f1, p1, z1, r1⟩ := o27 hR' h1
  have h2 := hf (4, 2, 1) (by decide)
  simp only [List.drop_succ_cons, List.drop_zero, List.take_succ_cons, List.take_zero] at h2
  obtain ⟨f2, e2⟩ := qcp h2 v4
  simp only [List.cons.injEq, and_true] at e2
  subst e2
  refine ⟨⟨f0, f1, f2⟩, z1, ?_⟩
  show dx (RdI (old w)) w _ _
  exact ⟨_, _, rfl, (by simp [RoC, ij, bm, ev, bj]), _, _, rfl, r1, _, _, rfl, (by simp [RoC, ij, bm, ev, bj]), rfl⟩
theorem o47 (hR : R ≤ B) (h : Rdb enc Tryz.prog w R n 47 cs) : ∃ l : List Index, (∀ x ∈ l, x.columns.length ≤ B) ∧ l.length ≤ B ∧ RoC (RdI (old w)) w (.arr false (l.map (jy false)).length fun j => (l.map (jy false)).getD j .nilp) cs := by
 obtain ⟨l, h1, h2, _, h3⟩ := ml (f := (jy false)) (Pr := fun x => x.columns.length ≤ B) (fun _ => 0) h v47 qtp (by decide) fun m es d' _ hlt he => by
  obtain ⟨x, hx, hr⟩ := ja7 (by omega) he
  exact ⟨x, hx, Nat.zero_le _, hr⟩
 exact ⟨l, h1, by omega, h3⟩
theorem o49 (hR : R ≤ B) (h : Rdb enc Tryz.prog w R n 49 cs) : ∃ x : Table, (Table.Fits B x ∧ x.columns.length ≤ B) ∧ RoC (RdI (old w)) w (bp false x) cs := by
 obtain ⟨m, R', rfl, rfl, hl, hf⟩ := mu h q9k
 have hR' : R' ≤ B := by omega
 rw [q7m] at hl
 match cs, hl with
 | [y0, y1, y2, y3, y4], _ =>
  have h0 := hf (9, 0, 1) (by decide)
  simp only [List.drop_succ_cons, List.drop_zero, List.take_succ_cons, List.take_zero] at h0
  obtain ⟨f0, e0, z0⟩ := yx h0 v9
  replace z0 := Nat.le_trans z0 hR'
  simp only [List.cons.injEq, and_true] at e0
  subst e0
  have h1 := hf (46, 1, 1) (by decide)
  simp only [List.drop_succ_cons, List.drop_zero, List.take_succ_cons, List.take_zero] at h1
  obtain ⟨f1, p1, z1, r1⟩ := o46 hR' h1
  have h2 := hf (27, 2, 1) (by decide)
  simp only [List.drop_succ_cons, List.drop_zero, List.take_succ_cons, List.take_zero] at h2
  obtain ⟨f2, p2, z2, r2⟩ := o27 hR' h2
  have h3 := hf (3, 3, 1) (by decide)
  simp only [List.drop_succ_cons, List.drop_zero, List.take_succ_cons, List.take_zero] at h3
  obtain ⟨f3, e3, y3'⟩ := ma h3 v3
  simp only [List.cons.injEq, and_true] at e3
  subst e3
  have h4 := hf (47, 4, 1) (by decide)
  simp only [List.drop_succ_cons, List.drop_zero, List.take_succ_cons, List.take_zero] at h4
  obtain ⟨f4, p4, z4, r4⟩ := o47 hR' h4
  refine ⟨⟨f0, f1, f2, f3, f4⟩, ⟨⟨z2, p4⟩, z1⟩, ?_⟩
  show dx (RdI (old w)) w _ _
  exact ⟨_, _, rfl, (by simp [RoC, ij, bm, ev, bj]), _, _, rfl, r1, _, _, rfl, r2, _, _, rfl, (by simp [RoC, ij, bm, ev, bj]), _, _, rfl, r4, rfl⟩
theorem o22 (hR : R ≤ B) (h : Rdb enc Tryz.prog w R n 22 cs) : ∃ l : List Table, (∀ x ∈ l, Table.Fits B x ∧ x.columns.length ≤ B) ∧ l.length ≤ B ∧ RoC (RdI (old w)) w (.arr false (l.map (bp false)).length fun j => (l.map (bp false)).getD j .nilp) cs := by
 obtain ⟨l, h1, h2, _, h3⟩ := ml (f := (bp false)) (Pr := fun x => Table.Fits B x ∧ x.columns.length ≤ B) (fun _ => 0) h v22 q7m (by decide) fun m es d' _ hlt he => by
  obtain ⟨x, hx, hr⟩ := o49 (by omega) he
  exact ⟨x, hx, Nat.zero_le _, hr⟩
 exact ⟨l, h1, by omega, h3⟩
theorem o53 (hR : R ≤ B) (h : Rdb enc Tryz.prog w R n 53 cs) : ∃ x : S_x7, (x.Name.size ≤ B) ∧ RoC (RdI (old w)) w (b8 x) cs := by
 obtain ⟨m, R', rfl, rfl, hl, hf⟩ := mu h q9m
 have hR' : R' ≤ B := by omega
 rw [q7o] at hl
 match cs, hl with
 | [y0, y1], _ =>
  have h0 := hf (9, 0, 1) (by decide)
  simp only [List.drop_succ_cons, List.drop_zero, List.take_succ_cons, List.take_zero] at h0
  obtain ⟨f0, e0, z0⟩ := yx h0 v9
  replace z0 := Nat.le_trans z0 hR'
  simp only [List.cons.injEq, and_true] at e0
  subst e0
  have h1 := hf (3, 1, 1) (by decide)
  simp only [List.drop_succ_cons, List.drop_zero, List.take_succ_cons, List.take_zero] at h1
  obtain ⟨f1, e1, y1'⟩ := ma h1 v3
  simp only [List.cons.injEq, and_true] at e1
  subst e1
  refine ⟨⟨f0, f1⟩, z0, ?_⟩
  show dx (RdI (old w)) w _ _
  exact ⟨_, _, rfl, (by simp [RoC, ij, bm, ev, bj]), _, _, rfl, (by simp [RoC, ij, bm, ev, bj]), rfl⟩
theorem o26 (hR : R ≤ B) (h : Rdb enc Tryz.prog w R n 26 cs) : ∃ l : List S_x7, (∀ x ∈ l, x.Name.size ≤ B) ∧ l.length ≤ B ∧ RoC (RdI (old w)) w (.arr false (l.map b8).length fun j => (l.map b8).getD j .nilp) cs := by
 obtain ⟨l, h1, h2, _, h3⟩ := ml (f := b8) (Pr := fun x => x.Name.size ≤ B) (fun _ => 0) h v26 q7o (by decide) fun m es d' _ hlt he => by
  obtain ⟨x, hx, hr⟩ := o53 (by omega) he
  exact ⟨x, hx, Nat.zero_le _, hr⟩
 exact ⟨l, h1, by omega, h3⟩
theorem ja6 (hR : R ≤ B) (h : Rdb enc Tryz.prog w R n 142 cs) : ∃ x : qfb, (True) ∧ RoC (RdI (old w)) w (gz false x) cs := by
 obtain ⟨m, R', rfl, rfl, hl, hf⟩ := mu h q47
 have hR' : R' ≤ B := by omega
 rw [qto] at hl
 match cs, hl with
 | [y0, y1, y2, y3, y4], _ =>
  have h0 := hf (9, 0, 1) (by decide)
  simp only [List.drop_succ_cons, List.drop_zero, List.take_succ_cons, List.take_zero] at h0
  obtain ⟨f0, e0, z0⟩ := yx h0 v9
  replace z0 := Nat.le_trans z0 hR'
  simp only [List.cons.injEq, and_true] at e0
  subst e0
  have h1 := hf (26, 1, 1) (by decide)
  simp only [List.drop_succ_cons, List.drop_zero, List.take_succ_cons, List.take_zero] at h1
  obtain ⟨f1, p1, z1, r1⟩ := o26 hR' h1
  have h2 := hf (138, 2, 1) (by decide)
  simp only [List.drop_succ_cons, List.drop_zero, List.take_succ_cons, List.take_zero] at h2
  obtain ⟨f2, z2, r2⟩ := ja5 hR' h2
  have h3 := hf (3, 3, 1) (by decide)
  simp only [List.drop_succ_cons, List.drop_zero, List.take_succ_cons, List.take_zero] at h3
  obtain ⟨f3, e3, y3'⟩ := ma h3 v3
  simp only [List.cons.injEq, and_true] at e3
  subst e3
  have h4 := hf (3, 4, 1) (by decide)
  simp only [List.drop_succ_cons, List.drop_zero, List.take_succ_cons, List.take_zero] at h4
  obtain ⟨f4, e4, y4'⟩ := ma h4 v3
  simp only [List.cons.injEq, and_true] at e4
  subst e4
  refine ⟨⟨f0, f1, f2, f3, f4⟩, trivial, ?_⟩
  show dx (RdI (old w)) w _ _
  exact ⟨_, _, rfl, (by simp [RoC, ij, bm, ev, bj]), _, _, rfl, r1, _, _, rfl, r2, _, _, rfl, (by simp [RoC, ij, bm, ev, bj]), _, _, rfl, (by simp [RoC, ij, bm, ev, bj]), rfl⟩
theorem o23 (hR : R ≤ B) (h : Rdb enc Tryz.prog w R n 23 cs) : ∃ l : List qfb, (∀ x ∈ l, True) ∧ l.length ≤ B ∧ RoC (RdI (old w)) w (.arr false (l.map (gz false)).length fun j => (l.map (gz false)).getD j .nilp) cs := by
 obtain ⟨l, h1, h2, _, h3⟩ := ml (f := (gz false)) (Pr := fun x => True) (fun _ => 0) h v23 qto (by decide) fun m es d' _ hlt he => by
  obtain ⟨x, hx, hr⟩ := ja6 (by omega) he
  exact ⟨x, hx, Nat.zero_le _, hr⟩
 exact ⟨l, h1, by omega, h3⟩
theorem o25 (hR : R ≤ B) (h : Rdb enc Tryz.prog w R n 25 cs) : ∃ x : bg, (bg.Fits B x ∧ x.tables.length ≤ B ∧ ∀ t ∈ x.tables, t.columns.length ≤ B) ∧ dx (RdI (old w)) w (p_x1 (bh false x)) cs := by
 obtain ⟨m, R', rfl, rfl, hl, hf⟩ := mu h q7q
 have hR' : R' ≤ B := by omega
 rw [q9a] at hl
 match cs, hl with
 | [y0, y1], _ =>
  have h0 := hf (22, 0, 1) (by decide)
  simp only [List.drop_succ_cons, List.drop_zero, List.take_succ_cons, List.take_zero] at h0
  obtain ⟨f0, p0, z0, r0⟩ := o22 hR' h0
  have h1 := hf (23, 1, 1) (by decide)
  simp only [List.drop_succ_cons, List.drop_zero, List.take_succ_cons, List.take_zero] at h1
  obtain ⟨f1, p1, z1, r1⟩ := o23 hR' h1
  refine ⟨⟨f0, f1⟩, ⟨fun t ht => (p0 t ht).1, z0, fun t ht => (p0 t ht).2⟩, ?_⟩
  show dx (RdI (old w)) w _ _
  exact ⟨_, _, rfl, r0, _, _, rfl, r1, rfl⟩
theorem ja4 (hR : R ≤ B) (h : Rdb enc Tryz.prog w R n 110 cs) : ∃ x : S_xd, (True) ∧ RoC (RdI (old w)) w (eu x) cs := by
 obtain ⟨m, R', rfl, rfl, hl, hf⟩ := mu h q46
 have hR' : R' ≤ B := by omega
 rw [qtn] at hl
 match cs, hl with
 | [y0, y1, y2], _ =>
  have h0 := hf (3, 0, 1) (by decide)
  simp only [List.drop_succ_cons, List.drop_zero, List.take_succ_cons, List.take_zero] at h0
  obtain ⟨f0, e0, y0'⟩ := ma h0 v3
  simp only [List.cons.injEq, and_true] at e0
  subst e0
  have h1 := hf (4, 1, 1) (by decide)
  simp only [List.drop_succ_cons, List.drop_zero, List.take_succ_cons, List.take_zero] at h1
  obtain ⟨f1, e1⟩ := qcp h1 v4
  simp only [List.cons.injEq, and_true] at e1
  subst e1
  have h2 := hf (3, 2, 1) (by decide)
  simp only [List.drop_succ_cons, List.drop_zero, List.take_succ_cons, List.take_zero] at h2
  obtain ⟨f2, e2, y2'⟩ := ma h2 v3
  simp only [List.cons.injEq, and_true] at e2
  subst e2
  refine ⟨⟨f0, f1, f2⟩, trivial, ?_⟩
  show dx (RdI (old w)) w _ _
  exact ⟨_, _, rfl, (by simp [RoC, ij, bm, ev, bj]), _, _, rfl, (by simp [RoC, ij, bm, ev, bj]), _, _, rfl, (by simp [RoC, ij, bm, ev, bj]), rfl⟩
theorem o29 (hR : R ≤ B) (h : Rdb enc Tryz.prog w R n 29 cs) : ∃ l : List S_xd, (∀ x ∈ l, True) ∧ l.length ≤ B ∧ RoC (RdI (old w)) w (.arr false (l.map eu).length fun j => (l.map eu).getD j .nilp) cs := by
 obtain ⟨l, h1, h2, _, h3⟩ := ml (f := eu) (Pr := fun x => True) (fun _ => 0) h v29 qtn (by decide) fun m es d' _ hlt he => by
  obtain ⟨x, hx, hr⟩ := ja4 (by omega) he
  exact ⟨x, hx, Nat.zero_le _, hr⟩
 exact ⟨l, h1, by omega, h3⟩
theorem qm3 : ∀ l : List Term, qqs zT l = zTs l
 | [] => rfl
 | x :: r => by rw [qqs, zTs, qm3 r]
theorem o64 : ∀ (n R : Nat) (cs : List Value), R ≤ B → Rdb enc Tryz.prog w R n 64 cs → ∃ x : Term, qfa x ∧ zT x ≤ R ∧ RoC (RdI (old w)) w (bb false x) cs := by
 intro n
 induction n using Nat.strongRecOn with
 | _ n ih =>
  intro R cs hR h
  obtain ⟨m, R', rfl, rfl, hl, hf⟩ := mu h q9o
  have hR' : R' ≤ B := by omega
  rw [q19] at hl
  match cs, hl with
  | [y0, y1, y2, y3, y4, y5, y6], _ =>
   have h0 := hf (3, 0, 1) (by decide)
   simp only [List.drop_succ_cons, List.drop_zero, List.take_succ_cons, List.take_zero] at h0
   obtain ⟨f0, e0, w0⟩ := ma h0 v3
   simp only [List.cons.injEq, and_true] at e0
   subst e0
   have h1 := hf (3, 1, 1) (by decide)
   simp only [List.drop_succ_cons, List.drop_zero, List.take_succ_cons, List.take_zero] at h1
   obtain ⟨f1, e1, w1⟩ := ma h1 v3
   simp only [List.cons.injEq, and_true] at e1
   subst e1
   have h2 := hf (3, 2, 1) (by decide)
   simp only [List.drop_succ_cons, List.drop_zero, List.take_succ_cons, List.take_zero] at h2
   obtain ⟨f2, e2, w2⟩ := ma h2 v3
   simp only [List.cons.injEq, and_true] at e2
   subst e2
   have h3 := hf (62, 3, 3) (by decide)
   simp only [List.drop_succ_cons, List.drop_zero, List.take_succ_cons, List.take_zero] at h3
   have h4 := hf (28, 6, 1) (by decide)
   simp only [List.drop_succ_cons, List.drop_zero, List.take_succ_cons, List.take_zero] at h4
   obtain ⟨m2, R2, rfl, rfl, _, hg⟩ := mu h3 q9n
   have g0 := hg (3, 0, 1) (by decide)
   have g1 := hg (3, 1, 1) (by decide)
   have g2 := hg (9, 2, 1) (by decide)
   simp only [List.drop_succ_cons, List.drop_zero, List.take_succ_cons, List.take_zero] at g0 g1 g2
   obtain ⟨i0, e0', _⟩ := ma g0 v3
   obtain ⟨i1, e1', _⟩ := ma g1 v3
   obtain ⟨i2, e2', _⟩ := yx g2 v9
   simp only [List.cons.injEq, and_true] at e0' e1' e2'
   subst e0' e1' e2'
   obtain ⟨kids, pk, zk, sk, rk⟩ := ml (f := bb false) (Pr := qfa) zT h4 v28 q19 (by decide) fun m es d' hm hlt he => ih m (by omega) d' es (by omega) he
   rw [qm3] at sk
   refine ⟨⟨f0, f1, f2, i0, i1, i2, kids⟩, by rw [qfa, yv]; exact ⟨wf_i64 w1, pk⟩, by rw [zT]; omega, ?_⟩
   rw [qcf]
   show dx (RdI (old w)) w _ _
   exact ⟨_, _, rfl, (by simp [RoC, dd, Term.op]), _, _, rfl, (by simp [RoC, dd, Term.num]), _, _, rfl, (by simp [RoC, dd, Term.cr]), _, _, rfl, (by simp [RoC, dd, Term.fa]), _, _, rfl, (by simp [RoC, dd, Term.mi]), _, _, rfl, (by simp [RoC, dd, Term.fq]), _, _, rfl, rk, rfl⟩
theorem o28 (hR : R ≤ B) (h : Rdb enc Tryz.prog w R n 28 cs) : ∃ l : List Term, (∀ x ∈ l, qfa x) ∧ l.length ≤ B ∧ zTs l ≤ B ∧ RoC (RdI (old w)) w (.arr false (l.map (bb false)).length fun j => (l.map (bb false)).getD j .nilp) cs := by
 obtain ⟨l, h1, h2, h3, h4⟩ := ml (f := bb false) (Pr := qfa) zT h v28 q19 (by decide) fun m es d' _ hlt he => o64 m d' es (by omega) he
 rw [qm3] at h3
 exact ⟨l, h1, by omega, by omega, h4⟩
theorem o31 (hR : R ≤ B) (h : Rdb enc Tryz.prog w R n 31 cs) : ∃ x : Typed, (qi x ∧ sb x) ∧ dx (RdI (old w)) w (p_x9 (bj false x)) cs := by
 obtain ⟨m, R', rfl, rfl, hl, hf⟩ := mu h q7r
 have hR' : R' ≤ B := by omega
 rw [q9b] at hl
 match cs, hl with
 | [y0, y1, y2, y3, y4, y5, y6, y7, y8, y9, y10], _ =>
  have h0 := hf (3, 0, 1) (by decide)
  simp only [List.drop_succ_cons, List.drop_zero, List.take_succ_cons, List.take_zero] at h0
  obtain ⟨f0, e0, y0'⟩ := ma h0 v3
  simp only [List.cons.injEq, and_true] at e0
  subst e0
  have h1 := hf (27, 1, 1) (by decide)
  simp only [List.drop_succ_cons, List.drop_zero, List.take_succ_cons, List.take_zero] at h1
  obtain ⟨f1, p1, z1, r1⟩ := o27 hR' h1
  have h2 := hf (28, 2, 1) (by decide)
  simp only [List.drop_succ_cons, List.drop_zero, List.take_succ_cons, List.take_zero] at h2
  obtain ⟨f2, p2, z2, q2, r2⟩ := o28 hR' h2
  have h3 := hf (28, 3, 1) (by decide)
  simp only [List.drop_succ_cons, List.drop_zero, List.take_succ_cons, List.take_zero] at h3
  obtain ⟨f3, p3, z3, q3, r3⟩ := o28 hR' h3
  have h4 := hf (28, 4, 1) (by decide)
  simp only [List.drop_succ_cons, List.drop_zero, List.take_succ_cons, List.take_zero] at h4
  obtain ⟨f4, p4, z4, q4, r4⟩ := o28 hR' h4
  have h5 := hf (27, 5, 1) (by decide)
  simp only [List.drop_succ_cons, List.drop_zero, List.take_succ_cons, List.take_zero] at h5
  obtain ⟨f5, p5, z5, r5⟩ := o27 hR' h5
  have h6 := hf (4, 6, 1) (by decide)
  simp only [List.drop_succ_cons, List.drop_zero, List.take_succ_cons, List.take_zero] at h6
  obtain ⟨f6, e6⟩ := qcp h6 v4
  simp only [List.cons.injEq, and_true] at e6
  subst e6
  have h7 := hf (27, 7, 1) (by decide)
  simp only [List.drop_succ_cons, List.drop_zero, List.take_succ_cons, List.take_zero] at h7
  obtain ⟨f7, p7, z7, r7⟩ := o27 hR' h7
  have h8 := hf (29, 8, 1) (by decide)
  simp only [List.drop_succ_cons, List.drop_zero, List.take_succ_cons, List.take_zero] at h8
  obtain ⟨f8, p8, z8, r8⟩ := o29 hR' h8
  have h9 := hf (27, 9, 1) (by decide)
  simp only [List.drop_succ_cons, List.drop_zero, List.take_succ_cons, List.take_zero] at h9
  obtain ⟨f9, p9, z9, r9⟩ := o27 hR' h9
  have h10 := hf (27, 10, 1) (by decide)
  simp only [List.drop_succ_cons, List.drop_zero, List.take_succ_cons, List.take_zero] at h10
  obtain ⟨f10, p10, z10, r10⟩ := o27 hR' h10
  refine ⟨⟨f0, f1, f2, f3, f4, f5, f6, f7, f8, f9, f10⟩, ⟨⟨⟨z1, z2, z3, z4, z5, z7, z8⟩, z9, p2, p3, p4, p7⟩, ⟨z9, z10, q2, q3, q4⟩⟩, ?_⟩
  show dx (RdI (old w)) w _ _
  exact ⟨_, _, rfl, (by simp [RoC, ij, bm, ev, bj]), _, _, rfl, r1, _, _, rfl, r2, _, _, rfl, r3, _, _, rfl, r4, _, _, rfl, r5, _, _, rfl, (by simp [RoC, ij, bm, ev, bj]), _, _, rfl, r7, _, _, rfl, r8, _, _, rfl, r9, _, _, rfl, r10, rfl⟩
end
end
end Go.RW
