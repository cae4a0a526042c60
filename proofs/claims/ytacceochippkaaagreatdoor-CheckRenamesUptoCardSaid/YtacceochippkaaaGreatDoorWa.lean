/- What the arguments read as; a world that holds what the row lists; the row. No condition. -/
import Derived.Test.YtacceochippkaaaGreatDoorPf
import Derived.Test.YtacceochippkaaaGreatDoorGz
import Derived.Test.YtacceochippkaaaGreatDoorRows
import Derived.ChangeArms
import Derived.SizedLaws
set_option linter.all false
set_option maxRecDepth 100000
namespace Go.RW
open Go.Proofs Go.RX
noncomputable section
def cx0 (w : World) : Cx := ⟨fun _ => .none, fun b => b < w.heap.size, w, fun _ => False, w.heap.size⟩
theorem no_live {i : Nat} : ¬ Live (hpOf []) i := by
  rintro ⟨o, h, _⟩
  simp [hpOf] at h
theorem hrl0 (w : World) : HRl (cx0 w) [] :=
  ⟨⟨fun i o h => by simp [hpOf] at h, fun i _ _ h => (no_live h).elim, fun i _ h => (no_live h).elim, fun b h => h, fun i _ h => (no_live h).elim, fun i _ h => (no_live h).elim, Nat.le_refl _⟩, fun i => ⟨fun h => h.elim, fun h => absurd h (by simp)⟩⟩
def RdI (L : Nat → Prop) (m : Bool) (b : Nat) : Prop := m = false ∧ L b
theorem rd_cx {L : Nat → Prop} {w : World} (hL : ∀ b, L b → b < w.heap.size) {xs : List PV} {cs : List Value} (h : RoCs (RdI L) w xs cs) : RoCs (cx0 w).J (cx0 w).w xs cs :=
  RoCs.mono (fun m b hb => ⟨hL b hb.2, fun e => by rw [hb.1] at e; cases e⟩) (fun _ _ _ => rfl) xs cs h
theorem rd_cx1 {L : Nat → Prop} {w : World} (hL : ∀ b, L b → b < w.heap.size) {x : PV} {cs : List Value} (h : RoC (RdI L) w x cs) : RoC (cx0 w).J (cx0 w).w x cs :=
  RoC.mono (fun m b hb => ⟨hL b hb.2, fun e => by rw [hb.1] at e; cases e⟩) (fun _ _ _ => rfl) x cs h
structure Kp (w w' : World) : Prop where
  os : w'.os = w.os
  tape : w'.tape = w.tape
  output : w'.output = w.output
  size : w.heap.size ≤ w'.heap.size
  keep : ∀ b, b < w.heap.size → w'.heap[b]? = w.heap[b]?
def pureQ : Exit → Act → World → Prop := fun _ _ _ => False
theorem calls_of_runs {P : Program} {f : FuncId} {args : List AV} {r : AV} {h' : List AO} (hr : RunsTo P f args [] r h') {w : World} {vals : Array Value} (hv : Vs (cx0 w) args vals.toList)
    {fn : Func} (hf : FnOK P f fn) {code : Code} (hcode : fn.body = some code) : Calls P f vals w fun e w' => ∃ v c', e = .returned v ∧ V c' r v ∧ c'.w = w' ∧ Kp w w' := by
  let a : Act := { tmps := #[undef], defers := [] }
  let o : Oper := { dst := some 0, op := .box 0 (.tmp 0), type := 0, pos := "", after := #[], guard := none }
  have h := hr (cx0 w) vals o a (fun a' w' => ∃ v c', a'.tmps = #[v] ∧ V c' r v ∧ c'.w = w' ∧ Kp w w') pureQ hv (hrl0 w) fun v c' h1 h2 h3 _ _ =>
    ⟨v, c', rfl, h1, rfl, h3.os, h3.tape, h3.output, h3.size, fun b hb => h3.keep b hb fun i hi => (no_live hi).elim⟩
  have hrun : (callFunc f vals).run P w = .ok (.enter f vals) w := by
    simp [callFunc, hf.at_, hf.ne, hcode]
  have hw : (cx0 w).w = w := rfl
  rw [hw, hrun, Oper.upon_enter] at h
  refine h.mono fun e w' he => ?_
  cases e with
  | returned v =>
    obtain ⟨v', c', h1, h2, h3, h4⟩ := he
    have : v' = v := by
      have : (#[v] : Array Value) = #[v'] := h1
      injection this with this
      injection this with this
      exact this.symm
    subst this
    exact ⟨_, c', rfl, h2, h3, h4⟩
  | panicked chain => exact he.elim
  | outgrown => obtain ⟨_, _, he⟩ := he; exact he.elim
end
end Go.RW
namespace Go.RW
open Go.RX Go.Proofs.YtacceochippkaaaGreatDoor
theorem one_le {H : Type} (d : DataW H) : 1 ≤ Rows.uptoBulk d := by
  cases d with
  | lit l => cases l <;> simp [Rows.uptoBulk]
  | nil => simp [Rows.uptoBulk]
  | ptr d => simp [Rows.uptoBulk]
  | slice elems spare => simp [Rows.uptoBulk]
  | agg parts => simp [Rows.uptoBulk]
  | iface t d => simp [Rows.uptoBulk]
  | map entries => simp [Rows.uptoBulk]
  | held h => simp [Rows.uptoBulk]
theorem part_le {H : Type} {d : DataW H} {l : List (DataW H)} (h : d ∈ l) : Rows.uptoBulk d ≤ Rows.uptoBulkAll l := by
  induction l with
  | nil => cases h
  | cons x r ih =>
    simp only [Rows.uptoBulkAll]
    cases List.mem_cons.1 h with
    | inl e => subst e; omega
    | inr e => have := ih e; omega
theorem length_le {H : Type} (l : List (DataW H)) : l.length ≤ Rows.uptoBulkAll l := by
  induction l with
  | nil => simp [Rows.uptoBulkAll]
  | cons x r ih => have := one_le x; simp only [Rows.uptoBulkAll, List.length_cons]; omega
def sumM {α : Type} (μ : α → Nat) : List α → Nat
  | [] => 0
  | x :: r => μ x + sumM μ r
theorem sum_le {H α : Type} {μ : α → Nat} : ∀ (l : List α) (E : List (DataW H)), l.length = E.length → (∀ (i : Nat) (h : i < l.length) (h' : i < E.length), μ l[i] ≤ Rows.uptoBulk E[i]) → sumM μ l ≤ Rows.uptoBulkAll E
  | [], _, _, _ => Nat.zero_le _
  | x :: l, [], h, _ => by simp at h
  | x :: l, e :: E, h, hi => by
    have h0 := hi 0 (by simp) (by simp)
    have := sum_le l E (by simpa using h) fun i a b => hi (i + 1) (by simpa using a) (by simpa using b)
    simp only [sumM, Rows.uptoBulkAll]
    simp only [List.getElem_cons_zero] at h0
    omega
section
variable {H : Type} {enc : TypeId × Value → H} {P : Program} {w : World}
def Rdb (enc : TypeId × Value → H) (P : Program) (w : World) (R n : Nat) (t : TypeId) (cs : List Value) : Prop :=
  ∃ (d : DataW H) (ps : List MemPlace), DataW.trod enc P w 0 (fun _ => true) true n t cs = some (d, ps) ∧ Rows.uptoBulk d ≤ R
variable {R n : Nat} {t e : TypeId} {cs : List Value}
theorem op_int {k : IntKind} (h : Rdb enc P w R n t cs) (hu : P.underlying t = some (.int k)) : ∃ i, cs = [.int k i] := by
  obtain ⟨d, ps, h, _⟩ := h
  obtain ⟨i, h1, _⟩ := DataW.trod_int hu h
  exact ⟨i, h1⟩
theorem op_bool (h : Rdb enc P w R n t cs) (hu : P.underlying t = some .bool) : ∃ b, cs = [.bool b] := by
  obtain ⟨d, ps, h, _⟩ := h
  obtain ⟨i, h1, _⟩ := DataW.trod_bool hu h
  exact ⟨i, h1⟩
theorem op_str (h : Rdb enc P w R n t cs) (hu : P.underlying t = some .string) : ∃ s : ByteArray, cs = [.string s] ∧ s.size ≤ R := by
  obtain ⟨d, ps, h, hw⟩ := h
  obtain ⟨s, h1, h2, _⟩ := DataW.trod_string hu h
  injection h2 with h2
  subst h2
  refine ⟨s, h1, ?_⟩
  simp only [Rows.uptoBulk] at hw
  simp at hw
  omega
theorem op_struct {fs : Array Field} (h : Rdb enc P w R n t cs) (hu : P.underlying t = some (.struct fs)) :
    ∃ m R', n = m + 1 ∧ R = R' + 1 ∧ cs.length = P.cellsOf t ∧ ∀ (i : Nat) (f : Field), fs[i]? = some f → Rdb enc P w R' m f.type ((cs.drop f.offset).take (P.cellsOf f.type)) := by
  obtain ⟨d, ps, h, hw⟩ := h
  obtain ⟨xs, m, h1, h2, h3, h4, h5⟩ := DataW.trod_struct hu h
  injection h2 with h2 _
  subst h2
  simp only [Rows.uptoBulk] at hw
  refine ⟨m, R - 1, h1, by omega, h3, fun i f hf => ?_⟩
  have hi : i < fs.size := (Array.getElem?_eq_some_iff.1 hf).1
  have hx : xs[i]? = some xs[i] := List.getElem?_eq_getElem (by omega)
  refine ⟨xs[i].1, xs[i].2, by rw [h5 i f hf, hx], ?_⟩
  have := part_le (d := xs[i].1) (l := xs.map (·.1)) (List.mem_map.2 ⟨_, List.getElem_mem _, rfl⟩)
  omega
theorem op_slice {sz : Nat} (h : Rdb enc P w R n t cs) (hu : P.underlying t = some (.slice e)) (hc : P.cellsOf e = sz) (hsz : 0 < sz) :
    ∃ m, n = m + 1 ∧ ∃ a len cap, cs = [.slice a len cap] ∧ (len ≤ cap ∧ len ≤ maxLen) ∧ ∃ E : List (DataW H), E.length = len ∧ Rows.uptoBulkAll E + 1 ≤ R ∧ (0 < len → ∃ b off, a = some ⟨b, off, none⟩ ∧ b < w.heap.size ∧
      ∀ (i : Nat) (hi : i < E.length), ∃ es, es.length = sz ∧ (∀ j, j < sz → w.cell? ⟨b, off + i * sz + j, none⟩ = es[j]?) ∧ ∃ ps, DataW.trod enc P w 0 (fun _ => true) true m e es = some (E[i], ps)) := by
  obtain ⟨d, ps, h, hw⟩ := h
  rcases DataW.trod_slice hu h with ⟨rfl, h2⟩ | ⟨a, len, cap, elems, rest, m, h1, rfl, h2, _, h3, h4, h5, h6, _, _⟩
  · cases n with
    | zero => simp [DataW.trod] at h
    | succ m => exact ⟨m, rfl, none, 0, 0, rfl, ⟨Nat.le_refl _, Nat.zero_le _⟩, [], rfl, by have := one_le d; simp only [Rows.uptoBulkAll]; omega, fun h => absurd h (by omega)⟩
  · injection h2 with h2 _
    subst h2
    simp only [Rows.uptoBulk] at hw
    have cell : ∀ (i : Nat) (hi : i < len), ∃ es, es.length = sz ∧ (∀ j, j < sz → w.cell? ((a.add (i * sz)).add j) = es[j]?) ∧ ∃ (h' : i < elems.length) (ps : List MemPlace), DataW.trod enc P w 0 (fun _ => true) true m e es = some (elems[i].1, ps) := fun i hi => by
      have hx : elems[i]? = some elems[i] := List.getElem?_eq_getElem (by omega)
      have := h6 i hi
      rw [hx, hc, Option.bind_eq_some_iff] at this
      obtain ⟨es, he, ht⟩ := this
      simp only [World.cells?, Nat.zero_le, if_true] at he
      refine ⟨es, by simpa using mapM_some_length he, fun j hj => ?_, by omega, elems[i].2, ht⟩
      exact mapM_some_get he j j (by simp [hj])
    refine ⟨m, h1, some a, len, cap, rfl, ⟨h3, by omega⟩, elems.map (·.1), by simp; omega, by omega, fun h0 => ?_⟩
    obtain ⟨es, e1, e2, e3⟩ := cell 0 h0
    have hc0 := e2 0 hsz
    have hsp : a.spot = none ∧ a.block < w.heap.size := by
      rw [List.getElem?_eq_getElem (by omega)] at hc0
      unfold World.cell? at hc0
      split at hc0
      · rename_i c tt fr hh
        constructor
        · cases hs : a.spot with
          | none => rfl
          | some x => simp [Addr.add, hs] at hc0
        · have := (Array.getElem?_eq_some_iff.1 hh).1
          simpa [Addr.add] using this
      · cases hc0
    obtain ⟨b, off, sp⟩ := a
    obtain ⟨rfl, hbs⟩ := hsp
    refine ⟨b, off, rfl, hbs, fun i hi => ?_⟩
    obtain ⟨es, e1, e2, h', ps', e3⟩ := cell i (by simp at hi; omega)
    refine ⟨es, e1, fun j hj => ?_, ps', by simpa using e3⟩
    have := e2 j hj
    rw [add_none, add_none] at this
    exact this
theorem pick_list {α : Type} {Q : Nat → α → Prop} : ∀ {n : Nat}, (∀ i, i < n → ∃ x, Q i x) → ∃ l : List α, l.length = n ∧ ∀ (i : Nat) (hi : i < l.length), Q i l[i]
  | 0, _ => ⟨[], rfl, fun i hi => absurd hi (by simp)⟩
  | n + 1, h => by
    obtain ⟨l, h1, h2⟩ := pick_list (n := n) fun i hi => h i (by omega)
    obtain ⟨x, hx⟩ := h n (by omega)
    refine ⟨l ++ [x], by simp [h1], fun i hi => ?_⟩
    by_cases hl : i < l.length
    · rw [List.getElem_append_left hl]
      exact h2 i hl
    · have : i = l.length := by simp at hi; omega
      subst this
      rw [List.getElem_append_right (Nat.le_refl _)]
      simpa [h1] using hx
def old (w : World) (b : Nat) : Prop := b < w.heap.size
theorem op_list {α : Type} {f : α → PV} {Pr : α → Prop} (μ : α → Nat) {sz : Nat} (h : Rdb enc P w R n t cs) (hu : P.underlying t = some (.slice e)) (hc : P.cellsOf e = sz) (hsz : 0 < sz)
    (hel : ∀ m es R', m < n → R' < R → Rdb enc P w R' m e es → ∃ x : α, Pr x ∧ μ x ≤ R' ∧ RoC (RdI (old w)) w (f x) es) :
    ∃ l : List α, (∀ x ∈ l, Pr x) ∧ l.length < R ∧ sumM μ l < R ∧ RoC (RdI (old w)) w (.arr false (l.map f).length fun j => (l.map f).getD j .nilp) cs := by
  obtain ⟨m, hm, a, len, cap, rfl, h1, E, hE, hB, h3⟩ := op_slice h hu hc hsz
  by_cases h0 : 0 < len
  · obtain ⟨b, off, rfl, hbs, h4⟩ := h3 h0
    obtain ⟨l, hl, hq⟩ := pick_list (Q := fun i (x : α) => Pr x ∧ (∀ h' : i < E.length, μ x ≤ Rows.uptoBulk E[i]) ∧ ∃ es : List Value, es.length = sz ∧ RoC (RdI (old w)) w (f x) es ∧ ∀ j, j < sz → w.cell? ⟨b, off + i * sz + j, none⟩ = es[j]?) (n := len) fun i hi => by
      obtain ⟨es, e1, e2, ps, e3⟩ := h4 i (by omega)
      have := part_le (d := E[i]) (l := E) (List.getElem_mem _)
      obtain ⟨x, hx, hmu, hr⟩ := hel m es (Rows.uptoBulk E[i]) (by omega) (by omega) ⟨_, ps, e3, Nat.le_refl _⟩
      exact ⟨x, hx, fun _ => hmu, es, e1, hr, e2⟩
    refine ⟨l, fun x hx => ?_, by have := length_le E; omega, Nat.lt_of_le_of_lt (sum_le l E (by omega) fun i a b => (hq i a).2.1 b) (by omega), ?_⟩
    · obtain ⟨i, hi, rfl⟩ := List.mem_iff_getElem.1 hx
      exact (hq i hi).1
    · simp only [RoC, List.length_map]
      refine ⟨_, cap, by rw [hl], by omega, fun _ => ⟨b, off, sz, rfl, ⟨rfl, hbs⟩, hsz, fun h => (by cases h), fun i hi => ?_⟩⟩
      obtain ⟨_, _, es, e1, e2, e3⟩ := hq i hi
      refine ⟨es, e1, ?_, e3⟩
      simpa [List.getD, hi] using e2
  · have : len = 0 := by omega
    subst this
    refine ⟨[], fun x hx => (by cases hx), by simp; omega, by simp only [sumM]; omega, ?_⟩
    simp only [RoC, List.map_nil, List.length_nil]
    exact ⟨a, cap, rfl, ⟨Nat.zero_le _, Nat.zero_le _⟩, fun h => absurd h (by omega)⟩
end
end Go.RW
set_option maxRecDepth 100000
namespace Go.RW
open Go.Proofs Go.RX
noncomputable section
def flds (P : Program) (t : TypeId) : Option (List (TypeId × Nat × Nat)) := match P.underlying t with
  | some (.struct fs) => some (fs.toList.map fun f => (f.type, f.offset, P.cellsOf f.type))
  | _ => none
section
variable {H : Type} {enc : TypeId × Value → H} {w : World} {R n : Nat} {t : TypeId} {cs : List Value}
theorem op_flds {P : Program} {l : List (TypeId × Nat × Nat)} (h : Rdb enc P w R n t cs) (hf : flds P t = some l) :
    ∃ m R', n = m + 1 ∧ R = R' + 1 ∧ cs.length = P.cellsOf t ∧ ∀ x ∈ l, Rdb enc P w R' m x.1 ((cs.drop x.2.1).take x.2.2) := by
  unfold flds at hf
  split at hf
  · rename_i fs hu
    injection hf with hf
    subst hf
    obtain ⟨m, R', h1, hR, h2, h3⟩ := op_struct h hu
    refine ⟨m, R', h1, hR, h2, fun x hx => ?_⟩
    obtain ⟨f, hf, rfl⟩ := List.mem_map.1 hx
    obtain ⟨i, hi, rfl⟩ := List.mem_iff_getElem.1 hf
    exact h3 i _ (by simp)
  · cases hf
theorem v9 : Tryz.prog.underlying 9 = some .string := by kernel_rfl
theorem v3 : Tryz.prog.underlying 3 = some (.int .i64) := by kernel_rfl
theorem v4 : Tryz.prog.underlying 4 = some .bool := by kernel_rfl
theorem v22 : Tryz.prog.underlying 22 = some (.slice 49) := by kernel_rfl
theorem v46 : Tryz.prog.underlying 46 = some (.slice 51) := by kernel_rfl
theorem v27 : Tryz.prog.underlying 27 = some (.slice 3) := by kernel_rfl
theorem v47 : Tryz.prog.underlying 47 = some (.slice 190) := by kernel_rfl
theorem v23 : Tryz.prog.underlying 23 = some (.slice 142) := by kernel_rfl
theorem v26 : Tryz.prog.underlying 26 = some (.slice 53) := by kernel_rfl
theorem v138 : Tryz.prog.underlying 138 = some (.slice 9) := by kernel_rfl
theorem v34 : Tryz.prog.underlying 34 = some (.slice 93) := by kernel_rfl
theorem v35 : Tryz.prog.underlying 35 = some (.slice 107) := by kernel_rfl
theorem v29 : Tryz.prog.underlying 29 = some (.slice 110) := by kernel_rfl
theorem cl49 : Tryz.prog.cellsOf 49 = 5 := by kernel_rfl
theorem cl51 : Tryz.prog.cellsOf 51 = 3 := by kernel_rfl
theorem cl3 : Tryz.prog.cellsOf 3 = 1 := by kernel_rfl
theorem cl190 : Tryz.prog.cellsOf 190 = 3 := by kernel_rfl
theorem cl142 : Tryz.prog.cellsOf 142 = 5 := by kernel_rfl
theorem cl53 : Tryz.prog.cellsOf 53 = 2 := by kernel_rfl
theorem cl9 : Tryz.prog.cellsOf 9 = 1 := by kernel_rfl
theorem cl93 : Tryz.prog.cellsOf 93 = 9 := by kernel_rfl
theorem cl107 : Tryz.prog.cellsOf 107 = 11 := by kernel_rfl
theorem cl110 : Tryz.prog.cellsOf 110 = 3 := by kernel_rfl
theorem cl25 : Tryz.prog.cellsOf 25 = 2 := by kernel_rfl
theorem cl37 : Tryz.prog.cellsOf 37 = 13 := by kernel_rfl
theorem cl62 : Tryz.prog.cellsOf 62 = 3 := by kernel_rfl
theorem fl51 : flds Tryz.prog 51 = some [(9, 0, 1), (3, 1, 1), (4, 2, 1)] := by kernel_rfl
theorem fl190 : flds Tryz.prog 190 = some [(9, 0, 1), (27, 1, 1), (4, 2, 1)] := by kernel_rfl
theorem fl49 : flds Tryz.prog 49 = some [(9, 0, 1), (46, 1, 1), (27, 2, 1), (3, 3, 1), (47, 4, 1)] := by kernel_rfl
theorem fl53 : flds Tryz.prog 53 = some [(9, 0, 1), (3, 1, 1)] := by kernel_rfl
theorem fl142 : flds Tryz.prog 142 = some [(9, 0, 1), (26, 1, 1), (138, 2, 1), (3, 3, 1), (3, 4, 1)] := by kernel_rfl
theorem fl25 : flds Tryz.prog 25 = some [(22, 0, 1), (23, 1, 1)] := by kernel_rfl
theorem fl110 : flds Tryz.prog 110 = some [(3, 0, 1), (4, 1, 1), (3, 2, 1)] := by kernel_rfl
theorem fl62 : flds Tryz.prog 62 = some [(3, 0, 1), (3, 1, 1), (9, 2, 1)] := by kernel_rfl
theorem fl93 : flds Tryz.prog 93 = some [(3, 0, 1), (3, 1, 1), (62, 2, 3), (9, 5, 1), (9, 6, 1), (34, 7, 1), (3, 8, 1)] := by kernel_rfl
theorem fl107 : flds Tryz.prog 107 = some [(9, 0, 1), (93, 1, 9), (3, 10, 1)] := by kernel_rfl
theorem fl37 : flds Tryz.prog 37 = some [(3, 0, 1), (9, 1, 1), (9, 2, 1), (34, 3, 1), (34, 4, 1), (34, 5, 1), (4, 6, 1), (35, 7, 1), (34, 8, 1), (29, 9, 1), (27, 10, 1), (3, 11, 1), (3, 12, 1)] := by kernel_rfl
abbrev B : Nat := 1048576
theorem list_of {α : Type} {f : α → PV} {Pr : α → Prop} (μ : α → Nat) {e : TypeId} {sz : Nat} (h : Rdb enc Tryz.prog w R n t cs) (hu : Tryz.prog.underlying t = some (.slice e)) (hc : Tryz.prog.cellsOf e = sz) (hsz : 0 < sz)
    (hel : ∀ m es R', m < n → R' < R → Rdb enc Tryz.prog w R' m e es → ∃ x : α, Pr x ∧ μ x ≤ R' ∧ RoC (RdI (old w)) w (f x) es) :
    ∃ l : List α, (∀ x ∈ l, Pr x) ∧ l.length < R ∧ sumM μ l < R ∧ RoC (RdI (old w)) w (.arr false (l.map f).length fun j => (l.map f).getD j .nilp) cs :=
  op_list μ h hu hc hsz hel
theorem o27 (hR : R ≤ B) (h : Rdb enc Tryz.prog w R n 27 cs) : ∃ l : List Int, l.length ≤ B ∧ RoC (RdI (old w)) w (.arr false (l.map eI).length fun j => (l.map eI).getD j .nilp) cs := by
  obtain ⟨l, _, h1, _, h2⟩ := list_of (f := eI) (Pr := fun _ => True) (fun _ => 0) h v27 cl3 (by decide) fun m es d' _ _ he => by
    obtain ⟨i, rfl⟩ := op_int he v3
    exact ⟨i, trivial, Nat.zero_le _, by simp [eI, RoC]⟩
  exact ⟨l, by omega, h2⟩
theorem o138 (hR : R ≤ B) (h : Rdb enc Tryz.prog w R n 138 cs) : ∃ l : List ByteArray, l.length ≤ B ∧ RoC (RdI (old w)) w (.arr false (l.map eS).length fun j => (l.map eS).getD j .nilp) cs := by
  obtain ⟨l, _, h1, _, h2⟩ := list_of (f := eS) (Pr := fun _ => True) (fun _ => 0) h v138 cl9 (by decide) fun m es d' _ _ he => by
    obtain ⟨i, rfl, _⟩ := op_str he v9
    exact ⟨i, trivial, Nat.zero_le _, by simp [eS, RoC]⟩
  exact ⟨l, by omega, h2⟩
theorem o51 (hR : R ≤ B) (h : Rdb enc Tryz.prog w R n 51 cs) : ∃ x : S_api_Column, (True) ∧ RoC (RdI (old w)) w (eCol x) cs := by
  obtain ⟨m, R', rfl, rfl, hl, hf⟩ := op_flds h fl51
  have hR' : R' ≤ B := by omega
  rw [cl51] at hl
  match cs, hl with
  | [y0, y1, y2], _ =>
    have h0 := hf (9, 0, 1) (by decide)
    simp only [List.drop_succ_cons, List.drop_zero, List.take_succ_cons, List.take_zero] at h0
    obtain ⟨f0, e0, z0⟩ := op_str h0 v9
    replace z0 := Nat.le_trans z0 hR'
    simp only [List.cons.injEq, and_true] at e0
    subst e0
    have h1 := hf (3, 1, 1) (by decide)
    simp only [List.drop_succ_cons, List.drop_zero, List.take_succ_cons, List.take_zero] at h1
    obtain ⟨f1, e1⟩ := op_int h1 v3
    simp only [List.cons.injEq, and_true] at e1
    subst e1
    have h2 := hf (4, 2, 1) (by decide)
    simp only [List.drop_succ_cons, List.drop_zero, List.take_succ_cons, List.take_zero] at h2
    obtain ⟨f2, e2⟩ := op_bool h2 v4
    simp only [List.cons.injEq, and_true] at e2
    subst e2
    refine ⟨⟨f0, f1, f2⟩, trivial, ?_⟩
    show RoCs (RdI (old w)) w _ _
    exact ⟨_, _, rfl, (by simp [RoC, sIndex, sTable, sProc, sStmt]), _, _, rfl, (by simp [RoC, sIndex, sTable, sProc, sStmt]), _, _, rfl, (by simp [RoC, sIndex, sTable, sProc, sStmt]), rfl⟩
theorem o46 (hR : R ≤ B) (h : Rdb enc Tryz.prog w R n 46 cs) : ∃ l : List S_api_Column, (∀ x ∈ l, True) ∧ l.length ≤ B ∧ RoC (RdI (old w)) w (.arr false (l.map eCol).length fun j => (l.map eCol).getD j .nilp) cs := by
  obtain ⟨l, h1, h2, _, h3⟩ := list_of (f := eCol) (Pr := fun x => True) (fun _ => 0) h v46 cl51 (by decide) fun m es d' _ hlt he => by
    obtain ⟨x, hx, hr⟩ := o51 (by omega) he
    exact ⟨x, hx, Nat.zero_le _, hr⟩
  exact ⟨l, h1, by omega, h3⟩
theorem o190 (hR : R ≤ B) (h : Rdb enc Tryz.prog w R n 190 cs) : ∃ x : Index, (x.columns.length ≤ B) ∧ RoC (RdI (old w)) w (eIndex false x) cs := by
  obtain ⟨m, R', rfl, rfl, hl, hf⟩ := op_flds h fl190
  have hR' : R' ≤ B := by omega
  rw [cl190] at hl
  match cs, hl with
  | [y0, y1, y2], _ =>
    have h0 := hf (9, 0, 1) (by decide)
    simp only [List.drop_succ_cons, List.drop_zero, List.take_succ_cons, List.take_zero] at h0
    obtain ⟨f0, e0, z0⟩ := op_str h0 v9
    replace z0 := Nat.le_trans z0 hR'
    simp only [List.cons.injEq, and_true] at e0
    subst e0
    have h1 := hf (27, 1, 1) (by decide)
    simp only [List.drop_succ_cons, List.drop_zero, List.take_succ_cons, List.take_zero] at h1
    obtain ⟨f1, z1, r1⟩ := o27 hR' h1
    have h2 := hf (4, 2, 1) (by decide)
    simp only [List.drop_succ_cons, List.drop_zero, List.take_succ_cons, List.take_zero] at h2
    obtain ⟨f2, e2⟩ := op_bool h2 v4
    simp only [List.cons.injEq, and_true] at e2
    subst e2
    refine ⟨⟨f0, f1, f2⟩, z1, ?_⟩
    show RoCs (RdI (old w)) w _ _
    exact ⟨_, _, rfl, (by simp [RoC, sIndex, sTable, sProc, sStmt]), _, _, rfl, r1, _, _, rfl, (by simp [RoC, sIndex, sTable, sProc, sStmt]), rfl⟩
theorem o47 (hR : R ≤ B) (h : Rdb enc Tryz.prog w R n 47 cs) : ∃ l : List Index, (∀ x ∈ l, x.columns.length ≤ B) ∧ l.length ≤ B ∧ RoC (RdI (old w)) w (.arr false (l.map (eIndex false)).length fun j => (l.map (eIndex false)).getD j .nilp) cs := by
  obtain ⟨l, h1, h2, _, h3⟩ := list_of (f := (eIndex false)) (Pr := fun x => x.columns.length ≤ B) (fun _ => 0) h v47 cl190 (by decide) fun m es d' _ hlt he => by
    obtain ⟨x, hx, hr⟩ := o190 (by omega) he
    exact ⟨x, hx, Nat.zero_le _, hr⟩
  exact ⟨l, h1, by omega, h3⟩
theorem o49 (hR : R ≤ B) (h : Rdb enc Tryz.prog w R n 49 cs) : ∃ x : Table, (Table.Fits B x ∧ x.columns.length ≤ B) ∧ RoC (RdI (old w)) w (eTable false x) cs := by
  obtain ⟨m, R', rfl, rfl, hl, hf⟩ := op_flds h fl49
  have hR' : R' ≤ B := by omega
  rw [cl49] at hl
  match cs, hl with
  | [y0, y1, y2, y3, y4], _ =>
    have h0 := hf (9, 0, 1) (by decide)
    simp only [List.drop_succ_cons, List.drop_zero, List.take_succ_cons, List.take_zero] at h0
    obtain ⟨f0, e0, z0⟩ := op_str h0 v9
    replace z0 := Nat.le_trans z0 hR'
    simp only [List.cons.injEq, and_true] at e0
    subst e0
    have h1 := hf (46, 1, 1) (by decide)
    simp only [List.drop_succ_cons, List.drop_zero, List.take_succ_cons, List.take_zero] at h1
    obtain ⟨f1, p1, z1, r1⟩ := o46 hR' h1
    have h2 := hf (27, 2, 1) (by decide)
    simp only [List.drop_succ_cons, List.drop_zero, List.take_succ_cons, List.take_zero] at h2
    obtain ⟨f2, z2, r2⟩ := o27 hR' h2
    have h3 := hf (3, 3, 1) (by decide)
    simp only [List.drop_succ_cons, List.drop_zero, List.take_succ_cons, List.take_zero] at h3
    obtain ⟨f3, e3⟩ := op_int h3 v3
    simp only [List.cons.injEq, and_true] at e3
    subst e3
    have h4 := hf (47, 4, 1) (by decide)
    simp only [List.drop_succ_cons, List.drop_zero, List.take_succ_cons, List.take_zero] at h4
    obtain ⟨f4, p4, z4, r4⟩ := o47 hR' h4
    refine ⟨⟨f0, f1, f2, f3, f4⟩, ⟨⟨z2, p4⟩, z1⟩, ?_⟩
    show RoCs (RdI (old w)) w _ _
    exact ⟨_, _, rfl, (by simp [RoC, sIndex, sTable, sProc, sStmt]), _, _, rfl, r1, _, _, rfl, r2, _, _, rfl, (by simp [RoC, sIndex, sTable, sProc, sStmt]), _, _, rfl, r4, rfl⟩
theorem o22 (hR : R ≤ B) (h : Rdb enc Tryz.prog w R n 22 cs) : ∃ l : List Table, (∀ x ∈ l, Table.Fits B x ∧ x.columns.length ≤ B) ∧ l.length ≤ B ∧ RoC (RdI (old w)) w (.arr false (l.map (eTable false)).length fun j => (l.map (eTable false)).getD j .nilp) cs := by
  obtain ⟨l, h1, h2, _, h3⟩ := list_of (f := (eTable false)) (Pr := fun x => Table.Fits B x ∧ x.columns.length ≤ B) (fun _ => 0) h v22 cl49 (by decide) fun m es d' _ hlt he => by
    obtain ⟨x, hx, hr⟩ := o49 (by omega) he
    exact ⟨x, hx, Nat.zero_le _, hr⟩
  exact ⟨l, h1, by omega, h3⟩
theorem o53 (hR : R ≤ B) (h : Rdb enc Tryz.prog w R n 53 cs) : ∃ x : S_api_Param, (x.Name.size ≤ B) ∧ RoC (RdI (old w)) w (eParam x) cs := by
  obtain ⟨m, R', rfl, rfl, hl, hf⟩ := op_flds h fl53
  have hR' : R' ≤ B := by omega
  rw [cl53] at hl
  match cs, hl with
  | [y0, y1], _ =>
    have h0 := hf (9, 0, 1) (by decide)
    simp only [List.drop_succ_cons, List.drop_zero, List.take_succ_cons, List.take_zero] at h0
    obtain ⟨f0, e0, z0⟩ := op_str h0 v9
    replace z0 := Nat.le_trans z0 hR'
    simp only [List.cons.injEq, and_true] at e0
    subst e0
    have h1 := hf (3, 1, 1) (by decide)
    simp only [List.drop_succ_cons, List.drop_zero, List.take_succ_cons, List.take_zero] at h1
    obtain ⟨f1, e1⟩ := op_int h1 v3
    simp only [List.cons.injEq, and_true] at e1
    subst e1
    refine ⟨⟨f0, f1⟩, z0, ?_⟩
    show RoCs (RdI (old w)) w _ _
    exact ⟨_, _, rfl, (by simp [RoC, sIndex, sTable, sProc, sStmt]), _, _, rfl, (by simp [RoC, sIndex, sTable, sProc, sStmt]), rfl⟩
theorem o26 (hR : R ≤ B) (h : Rdb enc Tryz.prog w R n 26 cs) : ∃ l : List S_api_Param, (∀ x ∈ l, x.Name.size ≤ B) ∧ l.length ≤ B ∧ RoC (RdI (old w)) w (.arr false (l.map eParam).length fun j => (l.map eParam).getD j .nilp) cs := by
  obtain ⟨l, h1, h2, _, h3⟩ := list_of (f := eParam) (Pr := fun x => x.Name.size ≤ B) (fun _ => 0) h v26 cl53 (by decide) fun m es d' _ hlt he => by
    obtain ⟨x, hx, hr⟩ := o53 (by omega) he
    exact ⟨x, hx, Nat.zero_le _, hr⟩
  exact ⟨l, h1, by omega, h3⟩
theorem o142 (hR : R ≤ B) (h : Rdb enc Tryz.prog w R n 142 cs) : ∃ x : Proc, (True) ∧ RoC (RdI (old w)) w (eProc false x) cs := by
  obtain ⟨m, R', rfl, rfl, hl, hf⟩ := op_flds h fl142
  have hR' : R' ≤ B := by omega
  rw [cl142] at hl
  match cs, hl with
  | [y0, y1, y2, y3, y4], _ =>
    have h0 := hf (9, 0, 1) (by decide)
    simp only [List.drop_succ_cons, List.drop_zero, List.take_succ_cons, List.take_zero] at h0
    obtain ⟨f0, e0, z0⟩ := op_str h0 v9
    replace z0 := Nat.le_trans z0 hR'
    simp only [List.cons.injEq, and_true] at e0
    subst e0
    have h1 := hf (26, 1, 1) (by decide)
    simp only [List.drop_succ_cons, List.drop_zero, List.take_succ_cons, List.take_zero] at h1
    obtain ⟨f1, p1, z1, r1⟩ := o26 hR' h1
    have h2 := hf (138, 2, 1) (by decide)
    simp only [List.drop_succ_cons, List.drop_zero, List.take_succ_cons, List.take_zero] at h2
    obtain ⟨f2, z2, r2⟩ := o138 hR' h2
    have h3 := hf (3, 3, 1) (by decide)
    simp only [List.drop_succ_cons, List.drop_zero, List.take_succ_cons, List.take_zero] at h3
    obtain ⟨f3, e3⟩ := op_int h3 v3
    simp only [List.cons.injEq, and_true] at e3
    subst e3
    have h4 := hf (3, 4, 1) (by decide)
    simp only [List.drop_succ_cons, List.drop_zero, List.take_succ_cons, List.take_zero] at h4
    obtain ⟨f4, e4⟩ := op_int h4 v3
    simp only [List.cons.injEq, and_true] at e4
    subst e4
    refine ⟨⟨f0, f1, f2, f3, f4⟩, trivial, ?_⟩
    show RoCs (RdI (old w)) w _ _
    exact ⟨_, _, rfl, (by simp [RoC, sIndex, sTable, sProc, sStmt]), _, _, rfl, r1, _, _, rfl, r2, _, _, rfl, (by simp [RoC, sIndex, sTable, sProc, sStmt]), _, _, rfl, (by simp [RoC, sIndex, sTable, sProc, sStmt]), rfl⟩
theorem o23 (hR : R ≤ B) (h : Rdb enc Tryz.prog w R n 23 cs) : ∃ l : List Proc, (∀ x ∈ l, True) ∧ l.length ≤ B ∧ RoC (RdI (old w)) w (.arr false (l.map (eProc false)).length fun j => (l.map (eProc false)).getD j .nilp) cs := by
  obtain ⟨l, h1, h2, _, h3⟩ := list_of (f := (eProc false)) (Pr := fun x => True) (fun _ => 0) h v23 cl142 (by decide) fun m es d' _ hlt he => by
    obtain ⟨x, hx, hr⟩ := o142 (by omega) he
    exact ⟨x, hx, Nat.zero_le _, hr⟩
  exact ⟨l, h1, by omega, h3⟩
theorem o25 (hR : R ≤ B) (h : Rdb enc Tryz.prog w R n 25 cs) : ∃ x : Catalog, (Catalog.Fits B x ∧ x.tables.length ≤ B ∧ ∀ t ∈ x.tables, t.columns.length ≤ B) ∧ RoCs (RdI (old w)) w (p_api_Catalog (sCatalog false x)) cs := by
  obtain ⟨m, R', rfl, rfl, hl, hf⟩ := op_flds h fl25
  have hR' : R' ≤ B := by omega
  rw [cl25] at hl
  match cs, hl with
  | [y0, y1], _ =>
    have h0 := hf (22, 0, 1) (by decide)
    simp only [List.drop_succ_cons, List.drop_zero, List.take_succ_cons, List.take_zero] at h0
    obtain ⟨f0, p0, z0, r0⟩ := o22 hR' h0
    have h1 := hf (23, 1, 1) (by decide)
    simp only [List.drop_succ_cons, List.drop_zero, List.take_succ_cons, List.take_zero] at h1
    obtain ⟨f1, p1, z1, r1⟩ := o23 hR' h1
    refine ⟨⟨f0, f1⟩, ⟨fun t ht => (p0 t ht).1, z0, fun t ht => (p0 t ht).2⟩, ?_⟩
    show RoCs (RdI (old w)) w _ _
    exact ⟨_, _, rfl, r0, _, _, rfl, r1, rfl⟩
theorem o110 (hR : R ≤ B) (h : Rdb enc Tryz.prog w R n 110 cs) : ∃ x : S_api_Sort, (True) ∧ RoC (RdI (old w)) w (eSort x) cs := by
  obtain ⟨m, R', rfl, rfl, hl, hf⟩ := op_flds h fl110
  have hR' : R' ≤ B := by omega
  rw [cl110] at hl
  match cs, hl with
  | [y0, y1, y2], _ =>
    have h0 := hf (3, 0, 1) (by decide)
    simp only [List.drop_succ_cons, List.drop_zero, List.take_succ_cons, List.take_zero] at h0
    obtain ⟨f0, e0⟩ := op_int h0 v3
    simp only [List.cons.injEq, and_true] at e0
    subst e0
    have h1 := hf (4, 1, 1) (by decide)
    simp only [List.drop_succ_cons, List.drop_zero, List.take_succ_cons, List.take_zero] at h1
    obtain ⟨f1, e1⟩ := op_bool h1 v4
    simp only [List.cons.injEq, and_true] at e1
    subst e1
    have h2 := hf (3, 2, 1) (by decide)
    simp only [List.drop_succ_cons, List.drop_zero, List.take_succ_cons, List.take_zero] at h2
    obtain ⟨f2, e2⟩ := op_int h2 v3
    simp only [List.cons.injEq, and_true] at e2
    subst e2
    refine ⟨⟨f0, f1, f2⟩, trivial, ?_⟩
    show RoCs (RdI (old w)) w _ _
    exact ⟨_, _, rfl, (by simp [RoC, sIndex, sTable, sProc, sStmt]), _, _, rfl, (by simp [RoC, sIndex, sTable, sProc, sStmt]), _, _, rfl, (by simp [RoC, sIndex, sTable, sProc, sStmt]), rfl⟩
theorem o29 (hR : R ≤ B) (h : Rdb enc Tryz.prog w R n 29 cs) : ∃ l : List S_api_Sort, (∀ x ∈ l, True) ∧ l.length ≤ B ∧ RoC (RdI (old w)) w (.arr false (l.map eSort).length fun j => (l.map eSort).getD j .nilp) cs := by
  obtain ⟨l, h1, h2, _, h3⟩ := list_of (f := eSort) (Pr := fun x => True) (fun _ => 0) h v29 cl110 (by decide) fun m es d' _ hlt he => by
    obtain ⟨x, hx, hr⟩ := o110 (by omega) he
    exact ⟨x, hx, Nat.zero_le _, hr⟩
  exact ⟨l, h1, by omega, h3⟩
theorem sum_eSz : ∀ l : List RX.Expr, sumM eSz l = eSzs l
  | [] => rfl
  | x :: r => by rw [sumM, eSzs, sum_eSz r]
theorem o93 : ∀ (n R : Nat) (cs : List Value), R ≤ B → Rdb enc Tryz.prog w R n 93 cs → ∃ x : RX.Expr, (∀ q, RX.Expr.Fits B q x) ∧ eSz x ≤ R ∧ RoC (RdI (old w)) w (eExpr false x) cs := by
  intro n
  induction n using Nat.strongRecOn with
  | _ n ih =>
    intro R cs hR h
    obtain ⟨m, R', rfl, rfl, hl, hf⟩ := op_flds h fl93
    have hR' : R' ≤ B := by omega
    rw [cl93] at hl
    match cs, hl with
    | [y0, y1, y2, y3, y4, y5, y6, y7, y8], _ =>
      have h0 := hf (3, 0, 1) (by decide)
      simp only [List.drop_succ_cons, List.drop_zero, List.take_succ_cons, List.take_zero] at h0
      obtain ⟨f0, e0⟩ := op_int h0 v3
      simp only [List.cons.injEq, and_true] at e0
      subst e0
      have h1 := hf (3, 1, 1) (by decide)
      simp only [List.drop_succ_cons, List.drop_zero, List.take_succ_cons, List.take_zero] at h1
      obtain ⟨f1, e1⟩ := op_int h1 v3
      simp only [List.cons.injEq, and_true] at e1
      subst e1
      have h2 := hf (62, 2, 3) (by decide)
      simp only [List.drop_succ_cons, List.drop_zero, List.take_succ_cons, List.take_zero] at h2
      have h3 := hf (9, 5, 1) (by decide)
      simp only [List.drop_succ_cons, List.drop_zero, List.take_succ_cons, List.take_zero] at h3
      obtain ⟨f3, e3, z3⟩ := op_str h3 v9
      replace z3 := Nat.le_trans z3 hR'
      simp only [List.cons.injEq, and_true] at e3
      subst e3
      have h4 := hf (9, 6, 1) (by decide)
      simp only [List.drop_succ_cons, List.drop_zero, List.take_succ_cons, List.take_zero] at h4
      obtain ⟨f4, e4, z4⟩ := op_str h4 v9
      replace z4 := Nat.le_trans z4 hR'
      simp only [List.cons.injEq, and_true] at e4
      subst e4
      have h5 := hf (34, 7, 1) (by decide)
      simp only [List.drop_succ_cons, List.drop_zero, List.take_succ_cons, List.take_zero] at h5
      have h6 := hf (3, 8, 1) (by decide)
      simp only [List.drop_succ_cons, List.drop_zero, List.take_succ_cons, List.take_zero] at h6
      obtain ⟨f6, e6⟩ := op_int h6 v3
      simp only [List.cons.injEq, and_true] at e6
      subst e6
      obtain ⟨m2, R2, rfl, rfl, _, hg⟩ := op_flds h2 fl62
      have g0 := hg (3, 0, 1) (by decide)
      have g1 := hg (3, 1, 1) (by decide)
      have g2 := hg (9, 2, 1) (by decide)
      simp only [List.drop_succ_cons, List.drop_zero, List.take_succ_cons, List.take_zero] at g0 g1 g2
      obtain ⟨i0, e0'⟩ := op_int g0 v3
      obtain ⟨i1, e1'⟩ := op_int g1 v3
      obtain ⟨i2, e2', _⟩ := op_str g2 v9
      simp only [List.cons.injEq, and_true] at e0' e1' e2'
      subst e0' e1' e2'
      obtain ⟨kids, pk, zk, sk, rk⟩ := list_of (f := eExpr false) (Pr := fun x => (∀ q, RX.Expr.Fits B q x)) eSz h5 v34 cl93 (by decide) fun m es d' hm hlt he => ih m (by omega) d' es (by omega) he
      rw [sum_eSz] at sk
      refine ⟨RX.Expr.mk f0 f1 i0 i1 i2 f3 f4 kids f6, fun q => ?_, by rw [eSz]; omega, ?_⟩
      · cases q with
        | zero => trivial
        | succ q => exact ⟨z4, z3, fun x hx => pk x hx q⟩
      · rw [eExpr_s]
        show RoCs (RdI (old w)) w _ _
        exact ⟨_, _, rfl, (by simp [RoC, sExpr, RX.Expr.kind]), _, _, rfl, (by simp [RoC, sExpr, RX.Expr.op]), _, _, rfl, (by simp [RoC, sExpr, RX.Expr.vkind]), _, _, rfl, (by simp [RoC, sExpr, RX.Expr.vint]), _, _, rfl, (by simp [RoC, sExpr, RX.Expr.vtext]), _, _, rfl, (by simp [RoC, sExpr, RX.Expr.table]), _, _, rfl, (by simp [RoC, sExpr, RX.Expr.name]), _, _, rfl, rk, _, _, rfl, (by simp [RoC, sExpr, RX.Expr.at_]), rfl⟩
theorem o34 (hR : R ≤ B) (h : Rdb enc Tryz.prog w R n 34 cs) : ∃ l : List RX.Expr, (∀ x ∈ l, ∀ q, RX.Expr.Fits B q x) ∧ l.length ≤ B ∧ eSzs l ≤ B ∧ RoC (RdI (old w)) w (.arr false (l.map (eExpr false)).length fun j => (l.map (eExpr false)).getD j .nilp) cs := by
  obtain ⟨l, h1, h2, h3, h4⟩ := list_of (f := eExpr false) (Pr := fun x => (∀ q, RX.Expr.Fits B q x)) eSz h v34 cl93 (by decide) fun m es d' _ hlt he => o93 m d' es (by omega) he
  rw [sum_eSz] at h3
  exact ⟨l, h1, by omega, by omega, h4⟩
theorem o107 (hR : R ≤ B) (h : Rdb enc Tryz.prog w R n 107 cs) : ∃ x : Set_, ((x.name.size ≤ B ∧ RX.Expr.Fits B 16 x.expr) ∧ eSz x.expr ≤ B) ∧ RoC (RdI (old w)) w (eSet false x) cs := by
  obtain ⟨m, R', rfl, rfl, hl, hf⟩ := op_flds h fl107
  have hR' : R' ≤ B := by omega
  rw [cl107] at hl
  match cs, hl with
  | [y0, y1, y2, y3, y4, y5, y6, y7, y8, y9, y10], _ =>
    have h0 := hf (9, 0, 1) (by decide)
    simp only [List.drop_succ_cons, List.drop_zero, List.take_succ_cons, List.take_zero] at h0
    obtain ⟨f0, e0, z0⟩ := op_str h0 v9
    replace z0 := Nat.le_trans z0 hR'
    simp only [List.cons.injEq, and_true] at e0
    subst e0
    have h1 := hf (93, 1, 9) (by decide)
    simp only [List.drop_succ_cons, List.drop_zero, List.take_succ_cons, List.take_zero] at h1
    obtain ⟨f1, p1, q1, r1⟩ := o93 _ _ _ hR' h1
    have h2 := hf (3, 10, 1) (by decide)
    simp only [List.drop_succ_cons, List.drop_zero, List.take_succ_cons, List.take_zero] at h2
    obtain ⟨f2, e2⟩ := op_int h2 v3
    simp only [List.cons.injEq, and_true] at e2
    subst e2
    refine ⟨⟨f0, f1, f2⟩, ⟨⟨z0, p1 16⟩, Nat.le_trans q1 hR'⟩, ?_⟩
    rw [eExpr_s] at r1
    have r1' : RoCs (RdI (old w)) w (p_api_Expr (sExpr false f1)) [y1, y2, y3, y4, y5, y6, y7, y8, y9] := r1
    obtain ⟨_, _, q0, a0, _, _, q1, a1, _, _, q2, a2, _, _, q3, a3, _, _, q4, a4, _, _, q5, a5, _, _, q6, a6, _, _, q7, a7, _, _, q8, a8, q9⟩ := r1'
    simp only [List.cons.injEq] at q0 q1 q2 q3 q4 q5 q6 q7 q8
    obtain ⟨rfl, rfl⟩ := q0
    obtain ⟨rfl, rfl⟩ := q1
    obtain ⟨rfl, rfl⟩ := q2
    obtain ⟨rfl, rfl⟩ := q3
    obtain ⟨rfl, rfl⟩ := q4
    obtain ⟨rfl, rfl⟩ := q5
    obtain ⟨rfl, rfl⟩ := q6
    obtain ⟨rfl, rfl⟩ := q7
    obtain ⟨rfl, rfl⟩ := q8
    show RoCs (RdI (old w)) w _ _
    exact ⟨_, _, rfl, (by simp [RoC, sSet]), _, _, rfl, a0, _, _, rfl, a1, _, _, rfl, a2, _, _, rfl, a3, _, _, rfl, a4, _, _, rfl, a5, _, _, rfl, a6, _, _, rfl, a7, _, _, rfl, a8, _, _, rfl, (by simp [RoC, sSet]), rfl⟩
theorem o35 (hR : R ≤ B) (h : Rdb enc Tryz.prog w R n 35 cs) : ∃ l : List Set_, (∀ x ∈ l, (x.name.size ≤ B ∧ RX.Expr.Fits B 16 x.expr) ∧ eSz x.expr ≤ B) ∧ l.length ≤ B ∧ RoC (RdI (old w)) w (.arr false (l.map (eSet false)).length fun j => (l.map (eSet false)).getD j .nilp) cs := by
  obtain ⟨l, h1, h2, _, h3⟩ := list_of (f := (eSet false)) (Pr := fun x => (x.name.size ≤ B ∧ RX.Expr.Fits B 16 x.expr) ∧ eSz x.expr ≤ B) (fun _ => 0) h v35 cl107 (by decide) fun m es d' _ hlt he => by
    obtain ⟨x, hx, hr⟩ := o107 (by omega) he
    exact ⟨x, hx, Nat.zero_le _, hr⟩
  exact ⟨l, h1, by omega, h3⟩
theorem o37 (hR : R ≤ B) (h : Rdb enc Tryz.prog w R n 37 cs) : ∃ x : RX.Stmt, (Stmt.Fits B x ∧ x.Small ∧ x.sorts.length ≤ B ∧ x.limit.length ≤ B) ∧ RoCs (RdI (old w)) w (p_api_Stmt (sStmt false x)) cs := by
  obtain ⟨m, R', rfl, rfl, hl, hf⟩ := op_flds h fl37
  have hR' : R' ≤ B := by omega
  rw [cl37] at hl
  match cs, hl with
  | [y0, y1, y2, y3, y4, y5, y6, y7, y8, y9, y10, y11, y12], _ =>
    have h0 := hf (3, 0, 1) (by decide)
    simp only [List.drop_succ_cons, List.drop_zero, List.take_succ_cons, List.take_zero] at h0
    obtain ⟨f0, e0⟩ := op_int h0 v3
    simp only [List.cons.injEq, and_true] at e0
    subst e0
    have h1 := hf (9, 1, 1) (by decide)
    simp only [List.drop_succ_cons, List.drop_zero, List.take_succ_cons, List.take_zero] at h1
    obtain ⟨f1, e1, z1⟩ := op_str h1 v9
    replace z1 := Nat.le_trans z1 hR'
    simp only [List.cons.injEq, and_true] at e1
    subst e1
    have h2 := hf (9, 2, 1) (by decide)
    simp only [List.drop_succ_cons, List.drop_zero, List.take_succ_cons, List.take_zero] at h2
    obtain ⟨f2, e2, z2⟩ := op_str h2 v9
    replace z2 := Nat.le_trans z2 hR'
    simp only [List.cons.injEq, and_true] at e2
    subst e2
    have h3 := hf (34, 3, 1) (by decide)
    simp only [List.drop_succ_cons, List.drop_zero, List.take_succ_cons, List.take_zero] at h3
    obtain ⟨f3, p3, z3, q3, r3⟩ := o34 hR' h3
    have h4 := hf (34, 4, 1) (by decide)
    simp only [List.drop_succ_cons, List.drop_zero, List.take_succ_cons, List.take_zero] at h4
    obtain ⟨f4, p4, z4, q4, r4⟩ := o34 hR' h4
    have h5 := hf (34, 5, 1) (by decide)
    simp only [List.drop_succ_cons, List.drop_zero, List.take_succ_cons, List.take_zero] at h5
    obtain ⟨f5, p5, z5, q5, r5⟩ := o34 hR' h5
    have h6 := hf (4, 6, 1) (by decide)
    simp only [List.drop_succ_cons, List.drop_zero, List.take_succ_cons, List.take_zero] at h6
    obtain ⟨f6, e6⟩ := op_bool h6 v4
    simp only [List.cons.injEq, and_true] at e6
    subst e6
    have h7 := hf (35, 7, 1) (by decide)
    simp only [List.drop_succ_cons, List.drop_zero, List.take_succ_cons, List.take_zero] at h7
    obtain ⟨f7, p7, z7, r7⟩ := o35 hR' h7
    have h8 := hf (34, 8, 1) (by decide)
    simp only [List.drop_succ_cons, List.drop_zero, List.take_succ_cons, List.take_zero] at h8
    obtain ⟨f8, p8, z8, q8, r8⟩ := o34 hR' h8
    have h9 := hf (29, 9, 1) (by decide)
    simp only [List.drop_succ_cons, List.drop_zero, List.take_succ_cons, List.take_zero] at h9
    obtain ⟨f9, p9, z9, r9⟩ := o29 hR' h9
    have h10 := hf (27, 10, 1) (by decide)
    simp only [List.drop_succ_cons, List.drop_zero, List.take_succ_cons, List.take_zero] at h10
    obtain ⟨f10, z10, r10⟩ := o27 hR' h10
    have h11 := hf (3, 11, 1) (by decide)
    simp only [List.drop_succ_cons, List.drop_zero, List.take_succ_cons, List.take_zero] at h11
    obtain ⟨f11, e11⟩ := op_int h11 v3
    simp only [List.cons.injEq, and_true] at e11
    subst e11
    have h12 := hf (3, 12, 1) (by decide)
    simp only [List.drop_succ_cons, List.drop_zero, List.take_succ_cons, List.take_zero] at h12
    obtain ⟨f12, e12⟩ := op_int h12 v3
    simp only [List.cons.injEq, and_true] at e12
    subst e12
    refine ⟨⟨f0, f1, f2, f3, f4, f5, f6, f7, f8, f9, f10, f11, f12⟩, ⟨⟨z1, z2, ⟨z3, fun e he => p3 e he 16⟩, ⟨z4, fun e he => p4 e he 16⟩, ⟨z5, fun e he => p5 e he 16⟩, ⟨z8, fun e he => p8 e he 16⟩, z7, fun x hx => (p7 x hx).1, z9, z10⟩, ⟨q3, q4, q5, q8, z7, fun x hx => (p7 x hx).2⟩, z9, z10⟩, ?_⟩
    show RoCs (RdI (old w)) w _ _
    exact ⟨_, _, rfl, (by simp [RoC, sIndex, sTable, sProc, sStmt]), _, _, rfl, (by simp [RoC, sIndex, sTable, sProc, sStmt]), _, _, rfl, (by simp [RoC, sIndex, sTable, sProc, sStmt]), _, _, rfl, r3, _, _, rfl, r4, _, _, rfl, r5, _, _, rfl, (by simp [RoC, sIndex, sTable, sProc, sStmt]), _, _, rfl, r7, _, _, rfl, r8, _, _, rfl, r9, _, _, rfl, r10, _, _, rfl, (by simp [RoC, sIndex, sTable, sProc, sStmt]), _, _, rfl, (by simp [RoC, sIndex, sTable, sProc, sStmt]), rfl⟩
end
end
end Go.RW
