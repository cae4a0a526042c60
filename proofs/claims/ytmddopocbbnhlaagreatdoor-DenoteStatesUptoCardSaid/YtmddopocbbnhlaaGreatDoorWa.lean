/- What the arguments read as; a world that holds what the row lists; the row. No condition. -/
import Derived.Test.YtmddopocbbnhlaaGreatDoorTb
import Derived.Test.YtmddopocbbnhlaaGreatDoorGz
import Derived.Test.YtmddopocbbnhlaaGreatDoorRows
import Derived.ChangeArms
import Derived.SizedLaws
set_option linter.all false
set_option maxRecDepth 100000
namespace Go.RW
open Go.Proofs Go.RX
noncomputable section
def cx0 (w : World) : Cx := ⟨fun _ => .none, fun b => b < w.heap.size, w, fun _ => False, w.heap.size⟩
theorem qu {i : Nat} : ¬ Live (bg []) i := by
 rintro ⟨o, h, _⟩
 simp [bg] at h
theorem quu (w : World) : HRl (cx0 w) [] :=
 ⟨⟨fun i o h => by simp [bg] at h, fun i _ _ h => (qu h).elim, fun i _ h => (qu h).elim, fun b h => h, fun i _ h => (qu h).elim, fun i _ h => (qu h).elim, Nat.le_refl _⟩, fun i => ⟨fun h => h.elim, fun h => absurd h (by simp)⟩⟩
def RdI (L : Nat → Prop) (m : Bool) (b : Nat) : Prop := m = false ∧ L b
theorem qmk {L : Nat → Prop} {w : World} (hL : ∀ b, L b → b < w.heap.size) {xs : List PV} {cs : List Value} (h : b9 (RdI L) w xs cs) : b9 (cx0 w).J (cx0 w).w xs cs :=
 b9.mono (fun m b hb => ⟨hL b hb.2, fun e => by rw [hb.1] at e; cases e⟩) (fun _ _ _ => rfl) xs cs h
structure Kp (w w' : World) : Prop where
 os : w'.os = w.os
 tape : w'.tape = w.tape
 output : w'.output = w.output
 size : w.heap.size ≤ w'.heap.size
 keep : ∀ b, b < w.heap.size → w'.heap[b]? = w.heap[b]?
def qq6 : Exit → Act → World → Prop := fun _ _ _ => False
theorem tr {P : Program} {f : FuncId} {args : List AV} {r : AV} {h' : List AO} (hr : ct P f args [] r h') {w : World} {vals : Array Value} (hv : Vs (cx0 w) args vals.toList)
  {fn : Func} (hf : cz P f fn) {code : Code} (hcode : fn.body = some code) : Calls P f vals w fun e w' => ∃ v c', e = .returned v ∧ V c' r v ∧ c'.w = w' ∧ Kp w w' := by
 let a : Act := { tmps := #[undef], defers := [] }
 let o : Oper := { dst := some 0, op := .box 0 (.tmp 0), type := 0, pos := "", after := #[], guard := none }
 have h := hr (cx0 w) vals o a (fun a' w' => ∃ v c', a'.tmps = #[v] ∧ V c' r v ∧ c'.w = w' ∧ Kp w w') qq6 hv (quu w) fun v c' h1 h2 h3 _ _ =>
  ⟨v, c', rfl, h1, rfl, h3.os, h3.tape, h3.output, h3.size, fun b hb => h3.keep b hb fun i hi => (qu hi).elim⟩
 have hrun : (callFunc f vals).run P w = .ok (.enter f vals) w := by
  simp [callFunc, hf.at_, hf.ne, hcode]
 have hw : (cx0 w).w = w := rfl
 rw [hw, hrun, Oper.upon_enter] at h
 refine h.mono fun e w' he => ?_
 cases e with
 | returned v =>
  obtain ⟨v', c', h1, h2, h3, h4⟩ := he
  have : v' = v := by
   have : (#[v] : Array Value) = #[v'] := h1
   injection this with this
   injection this with this
   exact this.symm
  subst this
  exact ⟨_, c', rfl, h2, h3, h4⟩
 | panicked chain => exact he.elim
 | outgrown => obtain ⟨_, _, he⟩ := he; exact he.elim
end
end Go.RW
namespace Go.RW
open Go.RX Go.Proofs.YtmddopocbbnhlaaGreatDoor
theorem one_le {H : Type} (d : DataW H) : 1 ≤ Rows.uptoBulk d := by
 cases d with
 | lit l => cases l <;> simp [Rows.uptoBulk]
 | nil => simp [Rows.uptoBulk]
 | ptr d => simp [Rows.uptoBulk]
 | slice elems spare => simp [Rows.uptoBulk]
 | agg parts => simp [Rows.uptoBulk]
 | iface t d => simp [Rows.uptoBulk]
 | map entries => simp [Rows.uptoBulk]
 | held h => simp [Rows.uptoBulk]
theorem qd2 {H : Type} {d : DataW H} {l : List (DataW H)} (h : d ∈ l) : Rows.uptoBulk d ≤ Rows.uptoBulkAll l := by
 induction l with
 | nil => cases h
 | cons x r ih =>
  simp only [Rows.uptoBulkAll]
  cases List.mem_cons.1 h with
  | inl e => subst e; omega
  | inr e => have := ih e; omega
theorem length_le {H : Type} (l : List (DataW H)) : l.length ≤ Rows.uptoBulkAll l := by
 induction l with
 | nil => simp [Rows.uptoBulkAll]
 | cons x r ih => have := one_le x; simp only [Rows.uptoBulkAll, List.length_cons]; omega
def qkp {α : Type} (μ : α → Nat) : List α → Nat
 | [] => 0
 | x :: r => μ x + qkp μ r
theorem qii {H α : Type} {μ : α → Nat} : ∀ (l : List α) (E : List (DataW H)), l.length = E.length → (∀ (i : Nat) (h : i < l.length) (h' : i < E.length), μ l[i] ≤ Rows.uptoBulk E[i]) → qkp μ l ≤ Rows.uptoBulkAll E
 | [], _, _, _ => Nat.zero_le _
 | x :: l, [], h, _ => by simp at h
 | x :: l, e :: E, h, hi => by
  have h0 := hi 0 (by simp) (by simp)
  have := qii l E (by simpa using h) fun i a b => hi (i + 1) (by simpa using a) (by simpa using b)
  simp only [qkp, Rows.uptoBulkAll]
  simp only [List.getElem_cons_zero] at h0
  omega
section
variable {H : Type} {enc : TypeId × Value → H} {P : Program} {w : World}
def Rdb (enc : TypeId × Value → H) (P : Program) (w : World) (R n : Nat) (t : TypeId) (cs : List Value) : Prop :=
 ∃ (d : DataW H) (ps : List MemPlace), DataW.trod enc P w 0 (fun _ => true) true n t cs = some (d, ps) ∧ Rows.uptoBulk d ≤ R
variable {R n : Nat} {t e : TypeId} {cs : List Value}
theorem ou {k : IntKind} (h : Rdb enc P w R n t cs) (hu : P.underlying t = some (.int k)) : ∃ i, cs = [.int k i] ∧ (Lit.int k i).wf = true := by
 obtain ⟨d, ps, h, _⟩ := h
 obtain ⟨i, h1, _, h2⟩ := DataW.trod_int hu h
 exact ⟨i, h1, h2⟩
theorem qdy (h : Rdb enc P w R n t cs) (hu : P.underlying t = some .bool) : ∃ b, cs = [.bool b] := by
 obtain ⟨d, ps, h, _⟩ := h
 obtain ⟨i, h1, _⟩ := DataW.trod_bool hu h
 exact ⟨i, h1⟩
theorem qv (h : Rdb enc P w R n t cs) (hu : P.underlying t = some .string) : ∃ s : ByteArray, cs = [.string s] ∧ s.size ≤ R := by
 obtain ⟨d, ps, h, hw⟩ := h
 obtain ⟨s, h1, h2, _⟩ := DataW.trod_string hu h
 injection h2 with h2
 subst h2
 refine ⟨s, h1, ?_⟩
 simp only [Rows.uptoBulk] at hw
 simp at hw
 omega
theorem qdz {fs : Array Field} (h : Rdb enc P w R n t cs) (hu : P.underlying t = some (.struct fs)) :
  ∃ m R', n = m + 1 ∧ R = R' + 1 ∧ cs.length = P.cellsOf t ∧ ∀ (i : Nat) (f : Field), fs[i]? = some f → Rdb enc P w R' m f.type ((cs.drop f.offset).take (P.cellsOf f.type)) := by
 obtain ⟨d, ps, h, hw⟩ := h
 obtain ⟨xs, m, h1, h2, h3, h4, h5⟩ := DataW.trod_struct hu h
 injection h2 with h2 _
 subst h2
 simp only [Rows.uptoBulk] at hw
 refine ⟨m, R - 1, h1, by omega, h3, fun i f hf => ?_⟩
 have hi : i < fs.size := (Array.getElem?_eq_some_iff.1 hf).1
 have hx : xs[i]? = some xs[i] := List.getElem?_eq_getElem (by omega)
 refine ⟨xs[i].1, xs[i].2, by rw [h5 i f hf, hx], ?_⟩
 have := qd2 (d := xs[i].1) (l := xs.map (·.1)) (List.mem_map.2 ⟨_, List.getElem_mem _, rfl⟩)
 omega
theorem qgx {sz : Nat} (h : Rdb enc P w R n t cs) (hu : P.underlying t = some (.slice e)) (hc : P.cellsOf e = sz) (hsz : 0 < sz) :
  ∃ m, n = m + 1 ∧ ∃ a len cap, cs = [.slice a len cap] ∧ (len ≤ cap ∧ len ≤ maxLen) ∧ ∃ E : List (DataW H), E.length = len ∧ Rows.uptoBulkAll E + 1 ≤ R ∧ (0 < len → ∃ b off, a = some ⟨b, off, none⟩ ∧ b < w.heap.size ∧
   ∀ (i : Nat) (hi : i < E.length), ∃ es, es.length = sz ∧ (∀ j, j < sz → w.cell? ⟨b, off + i * sz + j, none⟩ = es[j]?) ∧ ∃ ps, DataW.trod enc P w 0 (fun _ => true) true m e es = some (E[i], ps)) := by
 obtain ⟨d, ps, h, hw⟩ := h
 rcases DataW.trod_slice hu h with ⟨rfl, h2⟩ | ⟨a, len, cap, elems, rest, m, h1, rfl, h2, _, h3, h4, h5, h6, _, _⟩
 ·cases n with
  | zero => simp [DataW.trod] at h
  | succ m => exact ⟨m, rfl, none, 0, 0, rfl, ⟨Nat.le_refl _, Nat.zero_le _⟩, [], rfl, by have := one_le d; simp only [Rows.uptoBulkAll]; omega, fun h => absurd h (by omega)⟩
 ·injection h2 with h2 _
  subst h2
  simp only [Rows.uptoBulk] at hw
  have cell : ∀ (i : Nat) (hi : i < len), ∃ es, es.length = sz ∧ (∀ j, j < sz → w.cell? ((a.add (i * sz)).add j) = es[j]?) ∧ ∃ (h' : i < elems.length) (ps : List MemPlace), DataW.trod enc P w 0 (fun _ => true) true m e es = some (elems[i].1, ps) := fun i hi => by
   have hx : elems[i]? = some elems[i] := List.getElem?_eq_getElem (by omega)
   have := h6 i hi
   rw [hx, hc, Option.bind_eq_some_iff] at this
   obtain ⟨es, he, ht⟩ := this
   simp only [World.cells?, Nat.zero_le, if_true] at he
   refine ⟨es, by simpa using mapM_some_length he, fun j hj => ?_, by omega, elems[i].2, ht⟩
   exact mapM_some_get he j j (by simp [hj])
  refine ⟨m, h1, some a, len, cap, rfl, ⟨h3, by omega⟩, elems.map (·.1), by simp; omega, by omega, fun h0 => ?_⟩
  obtain ⟨es, e1, e2, e3⟩ := cell 0 h0
  have hc0 := e2 0 hsz
  have hsp : a.spot = none ∧ a.block < w.heap.size := by
   rw [List.getElem?_eq_getElem (by omega)] at hc0
   unfold World.cell? at hc0
   split at hc0
   ·rename_i c tt fr hh
    constructor
    ·cases hs : a.spot with
     | none => rfl
     | some x => simp [Addr.add, hs] at hc0
    ·have := (Array.getElem?_eq_some_iff.1 hh).1
     simpa [Addr.add] using this
   ·cases hc0
  obtain ⟨b, off, sp⟩ := a
  obtain ⟨rfl, hbs⟩ := hsp
  refine ⟨b, off, rfl, hbs, fun i hi => ?_⟩
  obtain ⟨es, e1, e2, h', ps', e3⟩ := cell i (by simp at hi; omega)
  refine ⟨es, e1, fun j hj => ?_, ps', by simpa using e3⟩
  have := e2 j hj
  rw [fv, fv] at this
  exact this
theorem we {α : Type} {Q : Nat → α → Prop} : ∀ {n : Nat}, (∀ i, i < n → ∃ x, Q i x) → ∃ l : List α, l.length = n ∧ ∀ (i : Nat) (hi : i < l.length), Q i l[i]
 | 0, _ => ⟨[], rfl, fun i hi => absurd hi (by simp)⟩
 | n + 1, h => by
  obtain ⟨l, h1, h2⟩ := we (n := n) fun i hi => h i (by omega)
  obtain ⟨x, hx⟩ := h n (by omega)
  refine ⟨l ++ [x], by simp [h1], fun i hi => ?_⟩
  by_cases hl : i < l.length
  ·rw [List.getElem_append_left hl]
   exact h2 i hl
  ·have : i = l.length := by simp at hi; omega
   subst this
   rw [List.getElem_append_right (Nat.le_refl _)]
   simpa [h1] using hx
def old (w : World) (b : Nat) : Prop := b < w.heap.size
theorem qjx {α : Type} {f : α → PV} {Pr : α → Prop} (μ : α → Nat) {sz : Nat} (h : Rdb enc P w R n t cs) (hu : P.underlying t = some (.slice e)) (hc : P.cellsOf e = sz) (hsz : 0 < sz)
  (hel : ∀ m es R', m < n → R' < R → Rdb enc P w R' m e es → ∃ x : α, Pr x ∧ μ x ≤ R' ∧ RoC (RdI (old w)) w (f x) es) :
  ∃ l : List α, (∀ x ∈ l, Pr x) ∧ l.length < R ∧ qkp μ l < R ∧ RoC (RdI (old w)) w (.arr false (l.map f).length fun j => (l.map f).getD j .nilp) cs := by
 obtain ⟨m, hm, a, len, cap, rfl, h1, E, hE, hB, h3⟩ := qgx h hu hc hsz
 by_cases h0 : 0 < len
 ·obtain ⟨b, off, rfl, hbs, h4⟩ := h3 h0
  obtain ⟨l, hl, hq⟩ := we (Q := fun i (x : α) => Pr x ∧ (∀ h' : i < E.length, μ x ≤ Rows.uptoBulk E[i]) ∧ ∃ es : List Value, es.length = sz ∧ RoC (RdI (old w)) w (f x) es ∧ ∀ j, j < sz → w.cell? ⟨b, off + i * sz + j, none⟩ = es[j]?) (n := len) fun i hi => by
   obtain ⟨es, e1, e2, ps, e3⟩ := h4 i (by omega)
   have := qd2 (d := E[i]) (l := E) (List.getElem_mem _)
   obtain ⟨x, hx, hmu, hr⟩ := hel m es (Rows.uptoBulk E[i]) (by omega) (by omega) ⟨_, ps, e3, Nat.le_refl _⟩
   exact ⟨x, hx, fun _ => hmu, es, e1, hr, e2⟩
  refine ⟨l, fun x hx => ?_, by have := length_le E; omega, Nat.lt_of_le_of_lt (qii l E (by omega) fun i a b => (hq i a).2.1 b) (by omega), ?_⟩
  ·obtain ⟨i, hi, rfl⟩ := List.mem_iff_getElem.1 hx
   exact (hq i hi).1
  ·simp only [RoC, List.length_map]
   refine ⟨_, cap, by rw [hl], by omega, fun _ => ⟨b, off, sz, rfl, ⟨rfl, hbs⟩, hsz, fun h => (by cases h), fun i hi => ?_⟩⟩
   obtain ⟨_, _, es, e1, e2, e3⟩ := hq i hi
   refine ⟨es, e1, ?_, e3⟩
   simpa [List.getD, hi] using e2
 ·have : len = 0 := by omega
  subst this
  refine ⟨[], fun x hx => (by cases hx), by simp; omega, by simp only [qkp]; omega, ?_⟩
  simp only [RoC, List.map_nil, List.length_nil]
  exact ⟨a, cap, rfl, ⟨Nat.zero_le _, Nat.zero_le _⟩, fun h => absurd h (by omega)⟩
end
end Go.RW
set_option maxRecDepth 100000
namespace Go.RW
open Go.Proofs Go.RX
noncomputable section
def qcd (P : Program) (t : TypeId) : Option (List (TypeId × Nat × Nat)) := match P.underlying t with
 | some (.struct fs) => some (fs.toList.map fun f => (f.type, f.offset, P.cellsOf f.type))
 | _ => none
section
variable {H : Type} {enc : TypeId × Value → H} {w : World} {R n : Nat} {t : TypeId} {cs : List Value}
theorem ko {P : Program} {l : List (TypeId × Nat × Nat)} (h : Rdb enc P w R n t cs) (hf : qcd P t = some l) :
  ∃ m R', n = m + 1 ∧ R = R' + 1 ∧ cs.length = P.cellsOf t ∧ ∀ x ∈ l, Rdb enc P w R' m x.1 ((cs.drop x.2.1).take x.2.2) := by
 unfold qcd at hf
 split at hf
 ·rename_i fs hu
  injection hf with hf
  subst hf
  obtain ⟨m, R', h1, hR, h2, h3⟩ := qdz h hu
  refine ⟨m, R', h1, hR, h2, fun x hx => ?_⟩
  obtain ⟨f, hf, rfl⟩ := List.mem_map.1 hx
  obtain ⟨i, hi, rfl⟩ := List.mem_iff_getElem.1 hf
  exact h3 i _ (by simp)
 ·cases hf
theorem v9 : Tryz.prog.underlying 9 = some .string := by kernel_rfl
theorem v3 : Tryz.prog.underlying 3 = some (.int .i64) := by kernel_rfl
theorem v4 : Tryz.prog.underlying 4 = some .bool := by kernel_rfl
theorem v22 : Tryz.prog.underlying 22 = some (.slice 49) := by kernel_rfl
theorem v45 : Tryz.prog.underlying 45 = some (.slice 57) := by kernel_rfl
theorem v46 : Tryz.prog.underlying 46 = some (.slice 3) := by kernel_rfl
theorem v47 : Tryz.prog.underlying 47 = some (.slice 126) := by kernel_rfl
theorem v23 : Tryz.prog.underlying 23 = some (.slice 80) := by kernel_rfl
theorem v58 : Tryz.prog.underlying 58 = some (.slice 128) := by kernel_rfl
theorem v78 : Tryz.prog.underlying 78 = some (.slice 9) := by kernel_rfl
theorem v26 : Tryz.prog.underlying 26 = some (.slice 35) := by kernel_rfl
theorem v35 : Tryz.prog.underlying 35 = some (.slice 41) := by kernel_rfl
theorem v41 : Tryz.prog.underlying 41 = some (.slice 43) := by kernel_rfl
theorem qrg : Tryz.prog.cellsOf 49 = 5 := by kernel_rfl
theorem qrh : Tryz.prog.cellsOf 57 = 3 := by kernel_rfl
theorem cl3 : Tryz.prog.cellsOf 3 = 1 := by kernel_rfl
theorem qk4 : Tryz.prog.cellsOf 126 = 3 := by kernel_rfl
theorem qri : Tryz.prog.cellsOf 80 = 5 := by kernel_rfl
theorem qk5 : Tryz.prog.cellsOf 128 = 2 := by kernel_rfl
theorem cl9 : Tryz.prog.cellsOf 9 = 1 := by kernel_rfl
theorem qsz : Tryz.prog.cellsOf 25 = 2 := by kernel_rfl
theorem qs0 : Tryz.prog.cellsOf 28 = 1 := by kernel_rfl
theorem qrf : Tryz.prog.cellsOf 43 = 3 := by kernel_rfl
theorem qs1 : Tryz.prog.cellsOf 35 = 1 := by kernel_rfl
theorem qs2 : Tryz.prog.cellsOf 41 = 1 := by kernel_rfl
theorem qtj : qcd Tryz.prog 57 = some [(9, 0, 1), (3, 1, 1), (4, 2, 1)] := by kernel_rfl
theorem qqe : qcd Tryz.prog 126 = some [(9, 0, 1), (46, 1, 1), (4, 2, 1)] := by kernel_rfl
theorem qti : qcd Tryz.prog 49 = some [(9, 0, 1), (45, 1, 1), (46, 2, 1), (3, 3, 1), (47, 4, 1)] := by kernel_rfl
theorem qqf : qcd Tryz.prog 128 = some [(9, 0, 1), (3, 1, 1)] := by kernel_rfl
theorem qtk : qcd Tryz.prog 80 = some [(9, 0, 1), (58, 1, 1), (78, 2, 1), (3, 3, 1), (3, 4, 1)] := by kernel_rfl
theorem qrk : qcd Tryz.prog 25 = some [(22, 0, 1), (23, 1, 1)] := by kernel_rfl
theorem qth : qcd Tryz.prog 43 = some [(3, 0, 1), (3, 1, 1), (9, 2, 1)] := by kernel_rfl
theorem qrl : qcd Tryz.prog 28 = some [(26, 0, 1)] := by kernel_rfl
abbrev B : Nat := 1048576
theorem iw {α : Type} {f : α → PV} {Pr : α → Prop} (μ : α → Nat) {e : TypeId} {sz : Nat} (h : Rdb enc Tryz.prog w R n t cs) (hu : Tryz.prog.underlying t = some (.slice e)) (hc : Tryz.prog.cellsOf e = sz) (hsz : 0 < sz)
  (hel : ∀ m es R', m < n → R' < R → Rdb enc Tryz.prog w R' m e es → ∃ x : α, Pr x ∧ μ x ≤ R' ∧ RoC (RdI (old w)) w (f x) es) :
  ∃ l : List α, (∀ x ∈ l, Pr x) ∧ l.length < R ∧ qkp μ l < R ∧ RoC (RdI (old w)) w (.arr false (l.map f).length fun j => (l.map f).getD j .nilp) cs :=
 qjx μ h hu hc hsz hel
theorem o46 (hR : R ≤ B) (h : Rdb enc Tryz.prog w R n 46 cs) : ∃ l : List Int, l.length ≤ B ∧ RoC (RdI (old w)) w (.arr false (l.map eI).length fun j => (l.map eI).getD j .nilp) cs := by
 obtain ⟨l, h0, h1, _, h2⟩ := iw (f := eI) (Pr := fun _ => True) (fun _ => 0) h v46 cl3 (by decide) fun m es d' _ _ he => by
  obtain ⟨i, rfl, hw⟩ := ou he v3
  exact ⟨i, trivial, Nat.zero_le _, by simp [eI, RoC]⟩
 exact ⟨l, by omega, h2⟩
theorem o78 (hR : R ≤ B) (h : Rdb enc Tryz.prog w R n 78 cs) : ∃ l : List ByteArray, l.length ≤ B ∧ RoC (RdI (old w)) w (.arr false (l.map eS).length fun j => (l.map eS).getD j .nilp) cs := by
 obtain ⟨l, _, h1, _, h2⟩ := iw (f := eS) (Pr := fun _ => True) (fun _ => 0) h v78 cl9 (by decide) fun m es d' _ _ he => by
  obtain ⟨i, rfl, _⟩ := qv he v9
  exact ⟨i, trivial, Nat.zero_le _, by simp [eS, RoC]⟩
 exact ⟨l, by omega, h2⟩
theorem o57 (hR : R ≤ B) (h : Rdb enc Tryz.prog w R n 57 cs) : ∃ x : S_x1, (True) ∧ RoC (RdI (old w)) w (xb x) cs := by
 obtain ⟨m, R', rfl, rfl, hl, hf⟩ := ko h qtj
 have hR' : R' ≤ B := by omega
 rw [qrh] at hl
 match cs, hl with
 | [y0, y1, y2], _ =>
  have h0 := hf (9, 0, 1) (by decide)
  simp only [List.drop_succ_cons, List.drop_zero, List.take_succ_cons, List.take_zero] at h0
  obtain ⟨f0, e0, z0⟩ := qv h0 v9
  replace z0 := Nat.le_trans z0 hR'
  simp only [List.cons.injEq, and_true] at e0
  subst e0
  have h1 := hf (3, 1, 1) (by decide)
  simp only [List.drop_succ_cons, List.drop_zero, List.take_succ_cons, List.take_zero] at h1
  obtain ⟨f1, e1, y1'⟩ := ou h1 v3
  simp only [List.cons.injEq, and_true] at e1
  subst e1
  have h2 := hf (4, 2, 1) (by decide)
  simp only [List.drop_succ_cons, List.drop_zero, List.take_succ_cons, List.take_zero] at h2
  obtain ⟨f2, e2⟩ := qdy h2 v4
  simp only [List.cons.injEq, and_true] at e2
  subst e2
  refine ⟨⟨f0, f1, f2⟩, trivial, ?_⟩
  show b9 (RdI (old w)) w _ _
  exact ⟨_, _, rfl, (by simp [RoC, dd, ak, cr]), _, _, rfl, (by simp [RoC, dd, ak, cr]), _, _, rfl, (by simp [RoC, dd, ak, cr]), rfl⟩
theorem o45 (hR : R ≤ B) (h : Rdb enc Tryz.prog w R n 45 cs) : ∃ l : List S_x1, (∀ x ∈ l, True) ∧ l.length ≤ B ∧ RoC (RdI (old w)) w (.arr false (l.map xb).length fun j => (l.map xb).getD j .nilp) cs := by
 obtain ⟨l, h1, h2, _, h3⟩ := iw (f := xb) (Pr := fun x => True) (fun _ => 0) h v45 qrh (by decide) fun m es d' _ hlt he => by
  obtain ⟨x, hx, hr⟩ := o57 (by omega) he
  exact ⟨x, hx, Nat.zero_le _, hr⟩
 exact ⟨l, h1, by omega, h3⟩
theorem quy (hR : R ≤ B) (h : Rdb enc Tryz.prog w R n 126 cs) : ∃ x : Index, (x.columns.length ≤ B) ∧ RoC (RdI (old w)) w (i3 false x) cs := by
 obtain ⟨m, R', rfl, rfl, hl, hf⟩ := ko h qqe
 have hR' : R' ≤ B := by omega
 rw [qk4] at hl
 match cs, hl with
 | [y0, y1, y2], _ =>
  have h0 := hf (9, 0, 1) (by decide)
  simp only [List.drop_succ_cons, List.drop_zero, List.take_succ_cons, List.take_zero] at h0
  obtain ⟨f0, e0, z0⟩ := qv h0 v9
  replace z0 := Nat.le_trans z0 hR'
  simp only [List.cons.injEq, and_true] at e0
  subst e0
  have h1 := hf (46, 1, 1) (by decide)
  simp only [List.drop_succ_cons, List.drop_zero, List.take_succ_cons, List.take_zero] at h1
  obtain ⟨f1, z1, r1⟩ := o46 hR' h1
  have h2 := hf (4, 2, 1) (by decide)
  simp only [List.drop_succ_cons, List.drop_zero, List.take_succ_cons, List.take_zero] at h2
  obtain ⟨f2, e2⟩ := qdy h2 v4
  simp only [List.cons.injEq, and_true] at e2
  subst e2
  refine ⟨⟨f0, f1, f2⟩, z1, ?_⟩
  show b9 (RdI (old w)) w _ _
  exact ⟨_, _, rfl, (by simp [RoC, dd, ak, cr]), _, _, rfl, r1, _, _, rfl, (by simp [RoC, dd, ak, cr]), rfl⟩
theorem o47 (hR : R ≤ B) (h : Rdb enc Tryz.prog w R n 47 cs) : ∃ l : List Index, (∀ x ∈ l, x.columns.length ≤ B) ∧ l.length ≤ B ∧ RoC (RdI (old w)) w (.arr false (l.map (i3 false)).length fun j => (l.map (i3 false)).getD j .nilp) cs := by
 obtain ⟨l, h1, h2, _, h3⟩ := iw (f := (i3 false)) (Pr := fun x => x.columns.length ≤ B) (fun _ => 0) h v47 qk4 (by decide) fun m es d' _ hlt he => by
  obtain ⟨x, hx, hr⟩ := quy (by omega) he
  exact ⟨x, hx, Nat.zero_le _, hr⟩
 exact ⟨l, h1, by omega, h3⟩
theorem o49 (hR : R ≤ B) (h : Rdb enc Tryz.prog w R n 49 cs) : ∃ x : Table, (Table.Fits B x ∧ x.columns.length ≤ B) ∧ RoC (RdI (old w)) w (i4 false x) cs := by
 obtain ⟨m, R', rfl, rfl, hl, hf⟩ := ko h qti
 have hR' : R' ≤ B := by omega
 rw [qrg] at hl
 match cs, hl with
 | [y0, y1, y2, y3, y4], _ =>
  have h0 := hf (9, 0, 1) (by decide)
  simp only [List.drop_succ_cons, List.drop_zero, List.take_succ_cons, List.take_zero] at h0
  obtain ⟨f0, e0, z0⟩ := qv h0 v9
  replace z0 := Nat.le_trans z0 hR'
  simp only [List.cons.injEq, and_true] at e0
  subst e0
  have h1 := hf (45, 1, 1) (by decide)
  simp only [List.drop_succ_cons, List.drop_zero, List.take_succ_cons, List.take_zero] at h1
  obtain ⟨f1, p1, z1, r1⟩ := o45 hR' h1
  have h2 := hf (46, 2, 1) (by decide)
  simp only [List.drop_succ_cons, List.drop_zero, List.take_succ_cons, List.take_zero] at h2
  obtain ⟨f2, z2, r2⟩ := o46 hR' h2
  have h3 := hf (3, 3, 1) (by decide)
  simp only [List.drop_succ_cons, List.drop_zero, List.take_succ_cons, List.take_zero] at h3
  obtain ⟨f3, e3, y3'⟩ := ou h3 v3
  simp only [List.cons.injEq, and_true] at e3
  subst e3
  have h4 := hf (47, 4, 1) (by decide)
  simp only [List.drop_succ_cons, List.drop_zero, List.take_succ_cons, List.take_zero] at h4
  obtain ⟨f4, p4, z4, r4⟩ := o47 hR' h4
  refine ⟨⟨f0, f1, f2, f3, f4⟩, ⟨⟨z2, p4⟩, z1⟩, ?_⟩
  show b9 (RdI (old w)) w _ _
  exact ⟨_, _, rfl, (by simp [RoC, dd, ak, cr]), _, _, rfl, r1, _, _, rfl, r2, _, _, rfl, (by simp [RoC, dd, ak, cr]), _, _, rfl, r4, rfl⟩
theorem o22 (hR : R ≤ B) (h : Rdb enc Tryz.prog w R n 22 cs) : ∃ l : List Table, (∀ x ∈ l, Table.Fits B x ∧ x.columns.length ≤ B) ∧ l.length ≤ B ∧ RoC (RdI (old w)) w (.arr false (l.map (i4 false)).length fun j => (l.map (i4 false)).getD j .nilp) cs := by
 obtain ⟨l, h1, h2, _, h3⟩ := iw (f := (i4 false)) (Pr := fun x => Table.Fits B x ∧ x.columns.length ≤ B) (fun _ => 0) h v22 qrg (by decide) fun m es d' _ hlt he => by
  obtain ⟨x, hx, hr⟩ := o49 (by omega) he
  exact ⟨x, hx, Nat.zero_le _, hr⟩
 exact ⟨l, h1, by omega, h3⟩
theorem quz (hR : R ≤ B) (h : Rdb enc Tryz.prog w R n 128 cs) : ∃ x : S_x3, (x.Name.size ≤ B) ∧ RoC (RdI (old w)) w (jv x) cs := by
 obtain ⟨m, R', rfl, rfl, hl, hf⟩ := ko h qqf
 have hR' : R' ≤ B := by omega
 rw [qk5] at hl
 match cs, hl with
 | [y0, y1], _ =>
  have h0 := hf (9, 0, 1) (by decide)
  simp only [List.drop_succ_cons, List.drop_zero, List.take_succ_cons, List.take_zero] at h0
  obtain ⟨f0, e0, z0⟩ := qv h0 v9
  replace z0 := Nat.le_trans z0 hR'
  simp only [List.cons.injEq, and_true] at e0
  subst e0
  have h1 := hf (3, 1, 1) (by decide)
  simp only [List.drop_succ_cons, List.drop_zero, List.take_succ_cons, List.take_zero] at h1
  obtain ⟨f1, e1, y1'⟩ := ou h1 v3
  simp only [List.cons.injEq, and_true] at e1
  subst e1
  refine ⟨⟨f0, f1⟩, z0, ?_⟩
  show b9 (RdI (old w)) w _ _
  exact ⟨_, _, rfl, (by simp [RoC, dd, ak, cr]), _, _, rfl, (by simp [RoC, dd, ak, cr]), rfl⟩
theorem o58 (hR : R ≤ B) (h : Rdb enc Tryz.prog w R n 58 cs) : ∃ l : List S_x3, (∀ x ∈ l, x.Name.size ≤ B) ∧ l.length ≤ B ∧ RoC (RdI (old w)) w (.arr false (l.map jv).length fun j => (l.map jv).getD j .nilp) cs := by
 obtain ⟨l, h1, h2, _, h3⟩ := iw (f := jv) (Pr := fun x => x.Name.size ≤ B) (fun _ => 0) h v58 qk5 (by decide) fun m es d' _ hlt he => by
  obtain ⟨x, hx, hr⟩ := quz (by omega) he
  exact ⟨x, hx, Nat.zero_le _, hr⟩
 exact ⟨l, h1, by omega, h3⟩
theorem o80 (hR : R ≤ B) (h : Rdb enc Tryz.prog w R n 80 cs) : ∃ x : zb, (True) ∧ RoC (RdI (old w)) w (o4 false x) cs := by
 obtain ⟨m, R', rfl, rfl, hl, hf⟩ := ko h qtk
 have hR' : R' ≤ B := by omega
 rw [qri] at hl
 match cs, hl with
 | [y0, y1, y2, y3, y4], _ =>
  have h0 := hf (9, 0, 1) (by decide)
  simp only [List.drop_succ_cons, List.drop_zero, List.take_succ_cons, List.take_zero] at h0
  obtain ⟨f0, e0, z0⟩ := qv h0 v9
  replace z0 := Nat.le_trans z0 hR'
  simp only [List.cons.injEq, and_true] at e0
  subst e0
  have h1 := hf (58, 1, 1) (by decide)
  simp only [List.drop_succ_cons, List.drop_zero, List.take_succ_cons, List.take_zero] at h1
  obtain ⟨f1, p1, z1, r1⟩ := o58 hR' h1
  have h2 := hf (78, 2, 1) (by decide)
  simp only [List.drop_succ_cons, List.drop_zero, List.take_succ_cons, List.take_zero] at h2
  obtain ⟨f2, z2, r2⟩ := o78 hR' h2
  have h3 := hf (3, 3, 1) (by decide)
  simp only [List.drop_succ_cons, List.drop_zero, List.take_succ_cons, List.take_zero] at h3
  obtain ⟨f3, e3, y3'⟩ := ou h3 v3
  simp only [List.cons.injEq, and_true] at e3
  subst e3
  have h4 := hf (3, 4, 1) (by decide)
  simp only [List.drop_succ_cons, List.drop_zero, List.take_succ_cons, List.take_zero] at h4
  obtain ⟨f4, e4, y4'⟩ := ou h4 v3
  simp only [List.cons.injEq, and_true] at e4
  subst e4
  refine ⟨⟨f0, f1, f2, f3, f4⟩, trivial, ?_⟩
  show b9 (RdI (old w)) w _ _
  exact ⟨_, _, rfl, (by simp [RoC, dd, ak, cr]), _, _, rfl, r1, _, _, rfl, r2, _, _, rfl, (by simp [RoC, dd, ak, cr]), _, _, rfl, (by simp [RoC, dd, ak, cr]), rfl⟩
theorem o23 (hR : R ≤ B) (h : Rdb enc Tryz.prog w R n 23 cs) : ∃ l : List zb, (∀ x ∈ l, True) ∧ l.length ≤ B ∧ RoC (RdI (old w)) w (.arr false (l.map (o4 false)).length fun j => (l.map (o4 false)).getD j .nilp) cs := by
 obtain ⟨l, h1, h2, _, h3⟩ := iw (f := (o4 false)) (Pr := fun x => True) (fun _ => 0) h v23 qri (by decide) fun m es d' _ hlt he => by
  obtain ⟨x, hx, hr⟩ := o80 (by omega) he
  exact ⟨x, hx, Nat.zero_le _, hr⟩
 exact ⟨l, h1, by omega, h3⟩
theorem o25 (hR : R ≤ B) (h : Rdb enc Tryz.prog w R n 25 cs) : ∃ x : cg, (cg.Fits B x ∧ x.tables.length ≤ B ∧ ∀ t ∈ x.tables, t.columns.length ≤ B) ∧ b9 (RdI (old w)) w (p_x0 (az false x)) cs := by
 obtain ⟨m, R', rfl, rfl, hl, hf⟩ := ko h qrk
 have hR' : R' ≤ B := by omega
 rw [qsz] at hl
 match cs, hl with
 | [y0, y1], _ =>
  have h0 := hf (22, 0, 1) (by decide)
  simp only [List.drop_succ_cons, List.drop_zero, List.take_succ_cons, List.take_zero] at h0
  obtain ⟨f0, p0, z0, r0⟩ := o22 hR' h0
  have h1 := hf (23, 1, 1) (by decide)
  simp only [List.drop_succ_cons, List.drop_zero, List.take_succ_cons, List.take_zero] at h1
  obtain ⟨f1, p1, z1, r1⟩ := o23 hR' h1
  refine ⟨⟨f0, f1⟩, ⟨fun t ht => (p0 t ht).1, z0, fun t ht => (p0 t ht).2⟩, ?_⟩
  show b9 (RdI (old w)) w _ _
  exact ⟨_, _, rfl, r0, _, _, rfl, r1, rfl⟩
theorem o43 (hR : R ≤ B) (h : Rdb enc Tryz.prog w R n 43 cs) : ∃ x : S_x6, (True) ∧ RoC (RdI (old w)) w (qi6 x) cs := by
 obtain ⟨m, R', rfl, rfl, hl, hf⟩ := ko h qth
 have hR' : R' ≤ B := by omega
 rw [qrf] at hl
 match cs, hl with
 | [y0, y1, y2], _ =>
  have h0 := hf (3, 0, 1) (by decide)
  simp only [List.drop_succ_cons, List.drop_zero, List.take_succ_cons, List.take_zero] at h0
  obtain ⟨f0, e0, y0'⟩ := ou h0 v3
  simp only [List.cons.injEq, and_true] at e0
  subst e0
  have h1 := hf (3, 1, 1) (by decide)
  simp only [List.drop_succ_cons, List.drop_zero, List.take_succ_cons, List.take_zero] at h1
  obtain ⟨f1, e1, y1'⟩ := ou h1 v3
  simp only [List.cons.injEq, and_true] at e1
  subst e1
  have h2 := hf (9, 2, 1) (by decide)
  simp only [List.drop_succ_cons, List.drop_zero, List.take_succ_cons, List.take_zero] at h2
  obtain ⟨f2, e2, z2⟩ := qv h2 v9
  replace z2 := Nat.le_trans z2 hR'
  simp only [List.cons.injEq, and_true] at e2
  subst e2
  refine ⟨⟨f0, f1, f2⟩, trivial, ?_⟩
  show b9 (RdI (old w)) w _ _
  exact ⟨_, _, rfl, (by simp [RoC, dd, ak, cr]), _, _, rfl, (by simp [RoC, dd, ak, cr]), _, _, rfl, (by simp [RoC, dd, ak, cr]), rfl⟩
theorem o41 (hR : R ≤ B) (h : Rdb enc Tryz.prog w R n 41 cs) : ∃ l : Row, RoC (RdI (old w)) w (qlr false l) cs := by
 obtain ⟨l, _, _, _, h3⟩ := iw (f := qi6) (Pr := fun _ => True) (fun _ => 0) h v41 qrf (by decide) fun m es d' _ hlt he => by
  obtain ⟨x, hx, hr⟩ := o43 (by omega) he
  exact ⟨x, hx, Nat.zero_le _, hr⟩
 exact ⟨l, h3⟩
theorem o35 (hR : R ≤ B) (h : Rdb enc Tryz.prog w R n 35 cs) : ∃ l : List Row, l.length ≤ B ∧ RoC (RdI (old w)) w (xq false l) cs := by
 obtain ⟨l, _, h2, _, h3⟩ := iw (f := qlr false) (Pr := fun _ => True) (fun _ => 0) h v35 qs2 (by decide) fun m es d' _ hlt he => by
  obtain ⟨x, hr⟩ := o41 (by omega) he
  exact ⟨x, trivial, Nat.zero_le _, hr⟩
 exact ⟨l, by omega, h3⟩
theorem o26 (hR : R ≤ B) (h : Rdb enc Tryz.prog w R n 26 cs) : ∃ s : List (List Row), (∀ l ∈ s, l.length ≤ B) ∧ s.length ≤ B ∧ RoC (RdI (old w)) w (.arr false (s.map (xq false)).length fun j => (s.map (xq false)).getD j .nilp) cs := by
 obtain ⟨l, h1, h2, _, h3⟩ := iw (f := xq false) (Pr := fun l => l.length ≤ B) (fun _ => 0) h v26 qs1 (by decide) fun m es d' _ hlt he => by
  obtain ⟨x, hl, hr⟩ := o35 (by omega) he
  exact ⟨x, hl, Nat.zero_le _, hr⟩
 exact ⟨l, h1, by omega, h3⟩
theorem o28 (hR : R ≤ B) (h : Rdb enc Tryz.prog w R n 28 cs) : ∃ s : List (List Row), ((∀ l ∈ s, l.length ≤ B) ∧ s.length ≤ B) ∧ b9 (RdI (old w)) w (p_x4 (de false s)) cs := by
 obtain ⟨m, R', rfl, rfl, hl, hf⟩ := ko h qrl
 rw [qs0] at hl
 match cs, hl with
 | [y0], _ =>
  have h0 := hf (26, 0, 1) (by decide)
  simp only [List.drop_succ_cons, List.drop_zero, List.take_succ_cons, List.take_zero] at h0
  obtain ⟨s, p0, z0, r0⟩ := o26 (by omega) h0
  exact ⟨s, ⟨p0, z0⟩, _, _, rfl, r0, rfl⟩
end
end
end Go.RW
