/- The law's own body, walked with whole values: what spoil turns, what the calls tell, and the row. No condition. -/
import Derived.Test.YtacceochippkaaaGreatSc
import Derived.ChangeArms
import Derived.SizedLaws
set_option linter.all false
namespace Go.SP
open Go.RX
section
variable {H : Type} {enc : TypeId × Value → H} {P : Program} {w : World}
def Rdb (enc : TypeId × Value → H) (P : Program) (w : World) (R n : Nat) (t : TypeId) (cs : List Value) (d : DataW H) : Prop :=
  (∃ ps, DataW.trod enc P w 0 (fun _ => true) true n t cs = some (d, ps)) ∧ ∀ x ∈ d.weights P t, x ≤ R
variable {R n : Nat} {t e : TypeId} {cs : List Value} {d : DataW H}
theorem op_int {k : IntKind} (h : Rdb enc P w R n t cs d) (hu : P.underlying t = some (.int k)) : ∃ i, cs = [.int k i] := by
  obtain ⟨⟨ps, h⟩, _⟩ := h
  obtain ⟨i, h1, _⟩ := DataW.trod_int hu h
  exact ⟨i, h1⟩
theorem op_bool (h : Rdb enc P w R n t cs d) (hu : P.underlying t = some .bool) : ∃ b, cs = [.bool b] := by
  obtain ⟨⟨ps, h⟩, _⟩ := h
  obtain ⟨i, h1, _⟩ := DataW.trod_bool hu h
  exact ⟨i, h1⟩
theorem op_str (h : Rdb enc P w R n t cs d) (hu : P.underlying t = some .string) : ∃ s : ByteArray, cs = [.string s] ∧ s.size ≤ R := by
  obtain ⟨⟨ps, h⟩, hw⟩ := h
  obtain ⟨s, h1, h2, _⟩ := DataW.trod_string hu h
  injection h2 with h2
  subst h2
  exact ⟨s, h1, by simpa [DataW.weights] using hw⟩
theorem mem_weightsAll : ∀ {l : List (DataW H)} {d : DataW H}, d ∈ l → ∀ x ∈ d.weights P e, x ∈ DataW.weightsAll P e l
  | y :: r, d, hd, x, hx => by
    rw [DataW.weightsAll, List.mem_append]
    rcases List.mem_cons.1 hd with rfl | hd
    · exact .inl hx
    · exact .inr (mem_weightsAll hd x hx)
theorem op_struct {fs : Array Field} (h : Rdb enc P w R n t cs d) (hu : P.underlying t = some (.struct fs)) :
    ∃ m, n = m + 1 ∧ cs.length = P.cellsOf t ∧ ∀ (i : Nat) (f : Field), fs[i]? = some f → ∃ d', Rdb enc P w R m f.type ((cs.drop f.offset).take (P.cellsOf f.type)) d' := by
  obtain ⟨⟨ps, h⟩, hw⟩ := h
  obtain ⟨xs, m, h1, h2, h3, h4, h5⟩ := DataW.trod_struct hu h
  injection h2 with h2 _
  subst h2
  refine ⟨m, h1, h3, fun i f hf => ?_⟩
  have hi : i < fs.size := (Array.getElem?_eq_some_iff.1 hf).1
  have hx : xs[i]? = some xs[i] := List.getElem?_eq_getElem (by omega)
  refine ⟨xs[i].1, ⟨xs[i].2, by rw [h5 i f hf, hx]⟩, fun x hxw => hw x ?_⟩
  rw [DataW.weights, hu]
  exact DataW.weights_mem_each (j := i) (t := f.type) (d := xs[i].1) (by simp [hf]) (by simp [hx]) x hxw
theorem op_slice {sz : Nat} (h : Rdb enc P w R n t cs d) (hu : P.underlying t = some (.slice e)) (hc : P.cellsOf e = sz) (hsz : 0 < sz) (hb : 0 < P.bytesOf e) :
    ∃ m, n = m + 1 ∧ ∃ a len cap, cs = [.slice a len cap] ∧ len ≤ maxLen ∧ len ≤ R ∧ (0 < len → ∃ b off, a = some ⟨b, off, none⟩ ∧ b < w.heap.size ∧
      ∀ i, i < len → ∃ es d', es.length = sz ∧ (∀ j, j < sz → w.cell? ⟨b, off + i * sz + j, none⟩ = es[j]?) ∧ Rdb enc P w R m e es d') := by
  obtain ⟨⟨ps, h⟩, hw⟩ := h
  rcases DataW.trod_slice hu h with ⟨rfl, _⟩ | ⟨a, len, cap, elems, rest, m, h1, rfl, h2, _, h3, h4, h5, h6, _, _⟩
  · cases n with
    | zero => simp [DataW.trod] at h
    | succ m => exact ⟨m, rfl, none, 0, 0, rfl, Nat.zero_le _, Nat.zero_le _, fun h => absurd h (by omega)⟩
  · injection h2 with h2 _
    subst h2
    have hws : ∀ x, x ∈ ((elems.map (·.1)).length + (rest.map (·.1)).length) * P.bytesOf e :: (DataW.weightsAll P e (elems.map (·.1)) ++ DataW.weightsAll P e (rest.map (·.1))) → x ≤ R := fun x hx => hw x (by rw [DataW.weights, hu]; exact hx)
    have hlen : len ≤ R := by
      have := hws _ (List.mem_cons_self)
      simp only [List.length_map] at this
      have h9 : (elems.length + rest.length) * 1 ≤ (elems.length + rest.length) * P.bytesOf e := Nat.mul_le_mul_left _ hb
      omega
    have cell : ∀ i, i < len → ∃ es d', es.length = sz ∧ (∀ j, j < sz → w.cell? ((a.add (i * sz)).add j) = es[j]?) ∧ Rdb enc P w R m e es d' := fun i hi => by
      have hx : elems[i]? = some elems[i] := List.getElem?_eq_getElem (by omega)
      have := h6 i hi
      rw [hx, hc, Option.bind_eq_some_iff] at this
      obtain ⟨es, he, ht⟩ := this
      simp only [World.cells?, Nat.zero_le, if_true] at he
      refine ⟨es, elems[i].1, by simpa using mapM_some_length he, fun j hj => ?_, ⟨elems[i].2, ht⟩, fun x hxw => hws x ?_⟩
      · exact mapM_some_get he j j (by simp [hj])
      · refine .tail _ (List.mem_append.2 (.inl (mem_weightsAll (d := elems[i].1) ?_ x hxw)))
        exact List.mem_map.2 ⟨elems[i], List.getElem_mem _, rfl⟩
    refine ⟨m, h1, some a, len, cap, rfl, by omega, hlen, fun h0 => ?_⟩
    obtain ⟨es, d', e1, e2, e3⟩ := cell 0 h0
    have hc0 := e2 0 hsz
    have hsp : a.spot = none ∧ a.block < w.heap.size := by
      rw [List.getElem?_eq_getElem (by omega)] at hc0
      unfold World.cell? at hc0
      split at hc0
      · rename_i c tt fr hh
        constructor
        · cases hs : a.spot with
          | none => rfl
          | some x => simp [Addr.add, hs] at hc0
        · have := (Array.getElem?_eq_some_iff.1 hh).1
          simpa [Addr.add] using this
      · cases hc0
    obtain ⟨b, off, sp⟩ := a
    obtain ⟨rfl, hbs⟩ := hsp
    refine ⟨b, off, rfl, hbs, fun i hi => ?_⟩
    obtain ⟨es, d', e1, e2, e3⟩ := cell i hi
    refine ⟨es, d', e1, fun j hj => ?_, e3⟩
    have := e2 j hj
    rw [add_none, add_none] at this
    exact this
theorem pick_list {α : Type} {Q : Nat → α → Prop} : ∀ {n : Nat}, (∀ i, i < n → ∃ x, Q i x) → ∃ l : List α, l.length = n ∧ ∀ (i : Nat) (hi : i < l.length), Q i l[i]
  | 0, _ => ⟨[], rfl, fun i hi => absurd hi (by simp)⟩
  | n + 1, h => by
    obtain ⟨l, h1, h2⟩ := pick_list (n := n) fun i hi => h i (by omega)
    obtain ⟨x, hx⟩ := h n (by omega)
    refine ⟨l ++ [x], by simp [h1], fun i hi => ?_⟩
    by_cases hl : i < l.length
    · rw [List.getElem_append_left hl]
      exact h2 i hl
    · have : i = l.length := by simp at hi; omega
      subst this
      rw [List.getElem_append_right (Nat.le_refl _)]
      simpa [h1] using hx
def old (w : World) (b : Nat) : Prop := b < w.heap.size
theorem op_list {α : Type} {f : α → PV} {Pr : α → Prop} {sz : Nat} (h : Rdb enc P w R n t cs d) (hu : P.underlying t = some (.slice e)) (hc : P.cellsOf e = sz) (hsz : 0 < sz) (hb : 0 < P.bytesOf e)
    (hel : ∀ m es d', m < n → Rdb enc P w R m e es d' → ∃ x : α, Pr x ∧ RoC (RdI (old w)) w (f x) es) :
    ∃ l : List α, (∀ x ∈ l, Pr x) ∧ l.length ≤ R ∧ RoC (RdI (old w)) w (.arr false (l.map f).length fun j => (l.map f).getD j .nilp) cs := by
  obtain ⟨m, hm, a, len, cap, rfl, h1, h2, h3⟩ := op_slice h hu hc hsz hb
  by_cases h0 : 0 < len
  · obtain ⟨b, off, rfl, hbs, h4⟩ := h3 h0
    obtain ⟨l, hl, hq⟩ := pick_list (Q := fun i (x : α) => Pr x ∧ ∃ es : List Value, es.length = sz ∧ RoC (RdI (old w)) w (f x) es ∧ ∀ j, j < sz → w.cell? ⟨b, off + i * sz + j, none⟩ = es[j]?) (n := len) fun i hi => by
      obtain ⟨es, d', e1, e2, e3⟩ := h4 i hi
      obtain ⟨x, hx, hr⟩ := hel m es d' (by omega) e3
      exact ⟨x, hx, es, e1, hr, e2⟩
    refine ⟨l, fun x hx => ?_, by omega, ?_⟩
    · obtain ⟨i, hi, rfl⟩ := List.mem_iff_getElem.1 hx
      exact (hq i hi).1
    · simp only [RoC, List.length_map]
      refine ⟨_, cap, by rw [hl], by omega, fun _ => ⟨b, off, sz, rfl, ⟨rfl, hbs⟩, hsz, fun h => (by cases h), fun i hi => ?_⟩⟩
      obtain ⟨_, es, e1, e2, e3⟩ := hq i hi
      refine ⟨es, e1, ?_, e3⟩
      simpa [List.getD, hi] using e2
  · have : len = 0 := by omega
    subst this
    refine ⟨[], fun x hx => (by cases hx), Nat.zero_le _, ?_⟩
    simp only [RoC, List.map_nil, List.length_nil]
    exact ⟨a, cap, rfl, Nat.zero_le _, fun h => absurd h (by omega)⟩
end
end Go.SP
set_option maxRecDepth 100000
namespace Go.SP
open Go.Proofs Go.RX
noncomputable section
def flds (P : Program) (t : TypeId) : Option (List (TypeId × Nat × Nat)) := match P.underlying t with
  | some (.struct fs) => some (fs.toList.map fun f => (f.type, f.offset, P.cellsOf f.type))
  | _ => none
section
variable {H : Type} {enc : TypeId × Value → H} {w : World} {R n : Nat} {t : TypeId} {cs : List Value} {d : DataW H}
theorem op_flds {P : Program} {l : List (TypeId × Nat × Nat)} (h : Rdb enc P w R n t cs d) (hf : flds P t = some l) :
    ∃ m, n = m + 1 ∧ cs.length = P.cellsOf t ∧ ∀ x ∈ l, ∃ d', Rdb enc P w R m x.1 ((cs.drop x.2.1).take x.2.2) d' := by
  unfold flds at hf
  split at hf
  · rename_i fs hu
    injection hf with hf
    subst hf
    obtain ⟨m, h1, h2, h3⟩ := op_struct h hu
    refine ⟨m, h1, h2, fun x hx => ?_⟩
    obtain ⟨f, hf, rfl⟩ := List.mem_map.1 hx
    obtain ⟨i, hi, rfl⟩ := List.mem_iff_getElem.1 hf
    exact h3 i _ (by simp)
  · cases hf
theorem v9 : Tryz.prog.underlying 9 = some .string := by kernel_rfl
theorem v3 : Tryz.prog.underlying 3 = some (.int .i64) := by kernel_rfl
theorem v4 : Tryz.prog.underlying 4 = some .bool := by kernel_rfl
theorem v22 : Tryz.prog.underlying 22 = some (.slice 65) := by kernel_rfl
theorem v62 : Tryz.prog.underlying 62 = some (.slice 109) := by kernel_rfl
theorem v30 : Tryz.prog.underlying 30 = some (.slice 3) := by kernel_rfl
theorem v63 : Tryz.prog.underlying 63 = some (.slice 135) := by kernel_rfl
theorem v23 : Tryz.prog.underlying 23 = some (.slice 98) := by kernel_rfl
theorem v26 : Tryz.prog.underlying 26 = some (.slice 80) := by kernel_rfl
theorem v94 : Tryz.prog.underlying 94 = some (.slice 9) := by kernel_rfl
theorem v27 : Tryz.prog.underlying 27 = some (.slice 101) := by kernel_rfl
theorem v28 : Tryz.prog.underlying 28 = some (.slice 103) := by kernel_rfl
theorem v29 : Tryz.prog.underlying 29 = some (.slice 72) := by kernel_rfl
theorem cl65 : Tryz.prog.cellsOf 65 = 5 := by kernel_rfl
theorem cl109 : Tryz.prog.cellsOf 109 = 3 := by kernel_rfl
theorem cl3 : Tryz.prog.cellsOf 3 = 1 := by kernel_rfl
theorem cl135 : Tryz.prog.cellsOf 135 = 3 := by kernel_rfl
theorem cl98 : Tryz.prog.cellsOf 98 = 5 := by kernel_rfl
theorem cl80 : Tryz.prog.cellsOf 80 = 2 := by kernel_rfl
theorem cl9 : Tryz.prog.cellsOf 9 = 1 := by kernel_rfl
theorem cl101 : Tryz.prog.cellsOf 101 = 9 := by kernel_rfl
theorem cl103 : Tryz.prog.cellsOf 103 = 11 := by kernel_rfl
theorem cl72 : Tryz.prog.cellsOf 72 = 3 := by kernel_rfl
theorem cl25 : Tryz.prog.cellsOf 25 = 2 := by kernel_rfl
theorem cl32 : Tryz.prog.cellsOf 32 = 13 := by kernel_rfl
theorem cl75 : Tryz.prog.cellsOf 75 = 3 := by kernel_rfl
theorem by3 : Nat.ble 1 (Tryz.prog.bytesOf 3) = true := by kernel_rfl
theorem by9 : Nat.ble 1 (Tryz.prog.bytesOf 9) = true := by kernel_rfl
theorem by65 : Nat.ble 1 (Tryz.prog.bytesOf 65) = true := by kernel_rfl
theorem by72 : Nat.ble 1 (Tryz.prog.bytesOf 72) = true := by kernel_rfl
theorem by80 : Nat.ble 1 (Tryz.prog.bytesOf 80) = true := by kernel_rfl
theorem by98 : Nat.ble 1 (Tryz.prog.bytesOf 98) = true := by kernel_rfl
theorem by101 : Nat.ble 1 (Tryz.prog.bytesOf 101) = true := by kernel_rfl
theorem by103 : Nat.ble 1 (Tryz.prog.bytesOf 103) = true := by kernel_rfl
theorem by109 : Nat.ble 1 (Tryz.prog.bytesOf 109) = true := by kernel_rfl
theorem by135 : Nat.ble 1 (Tryz.prog.bytesOf 135) = true := by kernel_rfl
theorem fl109 : flds Tryz.prog 109 = some [(9, 0, 1), (3, 1, 1), (4, 2, 1)] := by kernel_rfl
theorem fl135 : flds Tryz.prog 135 = some [(9, 0, 1), (30, 1, 1), (4, 2, 1)] := by kernel_rfl
theorem fl65 : flds Tryz.prog 65 = some [(9, 0, 1), (62, 1, 1), (30, 2, 1), (3, 3, 1), (63, 4, 1)] := by kernel_rfl
theorem fl80 : flds Tryz.prog 80 = some [(9, 0, 1), (3, 1, 1)] := by kernel_rfl
theorem fl98 : flds Tryz.prog 98 = some [(9, 0, 1), (26, 1, 1), (94, 2, 1), (3, 3, 1), (3, 4, 1)] := by kernel_rfl
theorem fl25 : flds Tryz.prog 25 = some [(22, 0, 1), (23, 1, 1)] := by kernel_rfl
theorem fl72 : flds Tryz.prog 72 = some [(3, 0, 1), (4, 1, 1), (3, 2, 1)] := by kernel_rfl
theorem fl75 : flds Tryz.prog 75 = some [(3, 0, 1), (3, 1, 1), (9, 2, 1)] := by kernel_rfl
theorem fl101 : flds Tryz.prog 101 = some [(3, 0, 1), (3, 1, 1), (75, 2, 3), (9, 5, 1), (9, 6, 1), (27, 7, 1), (3, 8, 1)] := by kernel_rfl
theorem fl103 : flds Tryz.prog 103 = some [(9, 0, 1), (101, 1, 9), (3, 10, 1)] := by kernel_rfl
theorem fl32 : flds Tryz.prog 32 = some [(3, 0, 1), (9, 1, 1), (9, 2, 1), (27, 3, 1), (27, 4, 1), (27, 5, 1), (4, 6, 1), (28, 7, 1), (27, 8, 1), (29, 9, 1), (30, 10, 1), (3, 11, 1), (3, 12, 1)] := by kernel_rfl
theorem list_of {α : Type} {f : α → PV} {Pr : α → Prop} {e : TypeId} {sz : Nat} (h : Rdb enc Tryz.prog w R n t cs d) (hu : Tryz.prog.underlying t = some (.slice e)) (hc : Tryz.prog.cellsOf e = sz) (hsz : 0 < sz) (hb : Nat.ble 1 (Tryz.prog.bytesOf e) = true)
    (hel : ∀ m es d', m < n → Rdb enc Tryz.prog w R m e es d' → ∃ x : α, Pr x ∧ RoC (RdI (old w)) w (f x) es) :
    ∃ l : List α, (∀ x ∈ l, Pr x) ∧ l.length ≤ R ∧ RoC (RdI (old w)) w (.arr false (l.map f).length fun j => (l.map f).getD j .nilp) cs :=
  op_list h hu hc hsz (Nat.le_of_ble_eq_true hb) hel
theorem o30 (h : Rdb enc Tryz.prog w R n 30 cs d) : ∃ l : List Int, l.length ≤ R ∧ RoC (RdI (old w)) w (.arr false (l.map eI).length fun j => (l.map eI).getD j .nilp) cs := by
  obtain ⟨l, _, h1, h2⟩ := list_of (f := eI) (Pr := fun _ => True) h v30 cl3 (by decide) by3 fun m es d' _ he => by
    obtain ⟨i, rfl⟩ := op_int he v3
    exact ⟨i, trivial, by simp [eI, RoC]⟩
  exact ⟨l, h1, h2⟩
theorem o94 (h : Rdb enc Tryz.prog w R n 94 cs d) : ∃ l : List ByteArray, l.length ≤ R ∧ RoC (RdI (old w)) w (.arr false (l.map eS).length fun j => (l.map eS).getD j .nilp) cs := by
  obtain ⟨l, _, h1, h2⟩ := list_of (f := eS) (Pr := fun _ => True) h v94 cl9 (by decide) by9 fun m es d' _ he => by
    obtain ⟨i, rfl, _⟩ := op_str he v9
    exact ⟨i, trivial, by simp [eS, RoC]⟩
  exact ⟨l, h1, h2⟩
theorem o109 (h : Rdb enc Tryz.prog w R n 109 cs d) : ∃ x : S_i_Column, (True) ∧ RoC (RdI (old w)) w (eCol x) cs := by
  obtain ⟨m, rfl, hl, hf⟩ := op_flds h fl109
  rw [cl109] at hl
  match cs, hl with
  | [y0, y1, y2], _ =>
    obtain ⟨d0, h0⟩ := hf (9, 0, 1) (by decide)
    simp only [List.drop_succ_cons, List.drop_zero, List.take_succ_cons, List.take_zero] at h0
    obtain ⟨f0, e0, z0⟩ := op_str h0 v9
    simp only [List.cons.injEq, and_true] at e0
    subst e0
    obtain ⟨d1, h1⟩ := hf (3, 1, 1) (by decide)
    simp only [List.drop_succ_cons, List.drop_zero, List.take_succ_cons, List.take_zero] at h1
    obtain ⟨f1, e1⟩ := op_int h1 v3
    simp only [List.cons.injEq, and_true] at e1
    subst e1
    obtain ⟨d2, h2⟩ := hf (4, 2, 1) (by decide)
    simp only [List.drop_succ_cons, List.drop_zero, List.take_succ_cons, List.take_zero] at h2
    obtain ⟨f2, e2⟩ := op_bool h2 v4
    simp only [List.cons.injEq, and_true] at e2
    subst e2
    refine ⟨⟨f0, f1, f2⟩, trivial, ?_⟩
    show RoCs (RdI (old w)) w _ _
    exact ⟨_, _, rfl, (by simp [RoC, sIndex, sTable, sProc, sStmt]), _, _, rfl, (by simp [RoC, sIndex, sTable, sProc, sStmt]), _, _, rfl, (by simp [RoC, sIndex, sTable, sProc, sStmt]), rfl⟩
theorem o62 (h : Rdb enc Tryz.prog w R n 62 cs d) : ∃ l : List S_i_Column, (∀ x ∈ l, True) ∧ l.length ≤ R ∧ RoC (RdI (old w)) w (.arr false (l.map eCol).length fun j => (l.map eCol).getD j .nilp) cs :=
  list_of (f := eCol) (Pr := fun x => True) h v62 cl109 (by decide) by109 fun m es d' _ he => o109 he
theorem o135 (h : Rdb enc Tryz.prog w R n 135 cs d) : ∃ x : Index, (x.columns.length ≤ R) ∧ RoC (RdI (old w)) w (eIndex false x) cs := by
  obtain ⟨m, rfl, hl, hf⟩ := op_flds h fl135
  rw [cl135] at hl
  match cs, hl with
  | [y0, y1, y2], _ =>
    obtain ⟨d0, h0⟩ := hf (9, 0, 1) (by decide)
    simp only [List.drop_succ_cons, List.drop_zero, List.take_succ_cons, List.take_zero] at h0
    obtain ⟨f0, e0, z0⟩ := op_str h0 v9
    simp only [List.cons.injEq, and_true] at e0
    subst e0
    obtain ⟨d1, h1⟩ := hf (30, 1, 1) (by decide)
    simp only [List.drop_succ_cons, List.drop_zero, List.take_succ_cons, List.take_zero] at h1
    obtain ⟨f1, z1, r1⟩ := o30 h1
    obtain ⟨d2, h2⟩ := hf (4, 2, 1) (by decide)
    simp only [List.drop_succ_cons, List.drop_zero, List.take_succ_cons, List.take_zero] at h2
    obtain ⟨f2, e2⟩ := op_bool h2 v4
    simp only [List.cons.injEq, and_true] at e2
    subst e2
    refine ⟨⟨f0, f1, f2⟩, z1, ?_⟩
    show RoCs (RdI (old w)) w _ _
    exact ⟨_, _, rfl, (by simp [RoC, sIndex, sTable, sProc, sStmt]), _, _, rfl, r1, _, _, rfl, (by simp [RoC, sIndex, sTable, sProc, sStmt]), rfl⟩
theorem o63 (h : Rdb enc Tryz.prog w R n 63 cs d) : ∃ l : List Index, (∀ x ∈ l, x.columns.length ≤ R) ∧ l.length ≤ R ∧ RoC (RdI (old w)) w (.arr false (l.map (eIndex false)).length fun j => (l.map (eIndex false)).getD j .nilp) cs :=
  list_of (f := (eIndex false)) (Pr := fun x => x.columns.length ≤ R) h v63 cl135 (by decide) by135 fun m es d' _ he => o135 he
theorem o65 (h : Rdb enc Tryz.prog w R n 65 cs d) : ∃ x : Table, (Table.Fits R x) ∧ RoC (RdI (old w)) w (eTable false x) cs := by
  obtain ⟨m, rfl, hl, hf⟩ := op_flds h fl65
  rw [cl65] at hl
  match cs, hl with
  | [y0, y1, y2, y3, y4], _ =>
    obtain ⟨d0, h0⟩ := hf (9, 0, 1) (by decide)
    simp only [List.drop_succ_cons, List.drop_zero, List.take_succ_cons, List.take_zero] at h0
    obtain ⟨f0, e0, z0⟩ := op_str h0 v9
    simp only [List.cons.injEq, and_true] at e0
    subst e0
    obtain ⟨d1, h1⟩ := hf (62, 1, 1) (by decide)
    simp only [List.drop_succ_cons, List.drop_zero, List.take_succ_cons, List.take_zero] at h1
    obtain ⟨f1, p1, z1, r1⟩ := o62 h1
    obtain ⟨d2, h2⟩ := hf (30, 2, 1) (by decide)
    simp only [List.drop_succ_cons, List.drop_zero, List.take_succ_cons, List.take_zero] at h2
    obtain ⟨f2, z2, r2⟩ := o30 h2
    obtain ⟨d3, h3⟩ := hf (3, 3, 1) (by decide)
    simp only [List.drop_succ_cons, List.drop_zero, List.take_succ_cons, List.take_zero] at h3
    obtain ⟨f3, e3⟩ := op_int h3 v3
    simp only [List.cons.injEq, and_true] at e3
    subst e3
    obtain ⟨d4, h4⟩ := hf (63, 4, 1) (by decide)
    simp only [List.drop_succ_cons, List.drop_zero, List.take_succ_cons, List.take_zero] at h4
    obtain ⟨f4, p4, z4, r4⟩ := o63 h4
    refine ⟨⟨f0, f1, f2, f3, f4⟩, ⟨z2, p4⟩, ?_⟩
    show RoCs (RdI (old w)) w _ _
    exact ⟨_, _, rfl, (by simp [RoC, sIndex, sTable, sProc, sStmt]), _, _, rfl, r1, _, _, rfl, r2, _, _, rfl, (by simp [RoC, sIndex, sTable, sProc, sStmt]), _, _, rfl, r4, rfl⟩
theorem o22 (h : Rdb enc Tryz.prog w R n 22 cs d) : ∃ l : List Table, (∀ x ∈ l, Table.Fits R x) ∧ l.length ≤ R ∧ RoC (RdI (old w)) w (.arr false (l.map (eTable false)).length fun j => (l.map (eTable false)).getD j .nilp) cs :=
  list_of (f := (eTable false)) (Pr := fun x => Table.Fits R x) h v22 cl65 (by decide) by65 fun m es d' _ he => o65 he
theorem o80 (h : Rdb enc Tryz.prog w R n 80 cs d) : ∃ x : S_i_Param, (x.Name.size ≤ R) ∧ RoC (RdI (old w)) w (eParam x) cs := by
  obtain ⟨m, rfl, hl, hf⟩ := op_flds h fl80
  rw [cl80] at hl
  match cs, hl with
  | [y0, y1], _ =>
    obtain ⟨d0, h0⟩ := hf (9, 0, 1) (by decide)
    simp only [List.drop_succ_cons, List.drop_zero, List.take_succ_cons, List.take_zero] at h0
    obtain ⟨f0, e0, z0⟩ := op_str h0 v9
    simp only [List.cons.injEq, and_true] at e0
    subst e0
    obtain ⟨d1, h1⟩ := hf (3, 1, 1) (by decide)
    simp only [List.drop_succ_cons, List.drop_zero, List.take_succ_cons, List.take_zero] at h1
    obtain ⟨f1, e1⟩ := op_int h1 v3
    simp only [List.cons.injEq, and_true] at e1
    subst e1
    refine ⟨⟨f0, f1⟩, z0, ?_⟩
    show RoCs (RdI (old w)) w _ _
    exact ⟨_, _, rfl, (by simp [RoC, sIndex, sTable, sProc, sStmt]), _, _, rfl, (by simp [RoC, sIndex, sTable, sProc, sStmt]), rfl⟩
theorem o26 (h : Rdb enc Tryz.prog w R n 26 cs d) : ∃ l : List S_i_Param, (∀ x ∈ l, x.Name.size ≤ R) ∧ l.length ≤ R ∧ RoC (RdI (old w)) w (.arr false (l.map eParam).length fun j => (l.map eParam).getD j .nilp) cs :=
  list_of (f := eParam) (Pr := fun x => x.Name.size ≤ R) h v26 cl80 (by decide) by80 fun m es d' _ he => o80 he
theorem o98 (h : Rdb enc Tryz.prog w R n 98 cs d) : ∃ x : Proc, (True) ∧ RoC (RdI (old w)) w (eProc false x) cs := by
  obtain ⟨m, rfl, hl, hf⟩ := op_flds h fl98
  rw [cl98] at hl
  match cs, hl with
  | [y0, y1, y2, y3, y4], _ =>
    obtain ⟨d0, h0⟩ := hf (9, 0, 1) (by decide)
    simp only [List.drop_succ_cons, List.drop_zero, List.take_succ_cons, List.take_zero] at h0
    obtain ⟨f0, e0, z0⟩ := op_str h0 v9
    simp only [List.cons.injEq, and_true] at e0
    subst e0
    obtain ⟨d1, h1⟩ := hf (26, 1, 1) (by decide)
    simp only [List.drop_succ_cons, List.drop_zero, List.take_succ_cons, List.take_zero] at h1
    obtain ⟨f1, p1, z1, r1⟩ := o26 h1
    obtain ⟨d2, h2⟩ := hf (94, 2, 1) (by decide)
    simp only [List.drop_succ_cons, List.drop_zero, List.take_succ_cons, List.take_zero] at h2
    obtain ⟨f2, z2, r2⟩ := o94 h2
    obtain ⟨d3, h3⟩ := hf (3, 3, 1) (by decide)
    simp only [List.drop_succ_cons, List.drop_zero, List.take_succ_cons, List.take_zero] at h3
    obtain ⟨f3, e3⟩ := op_int h3 v3
    simp only [List.cons.injEq, and_true] at e3
    subst e3
    obtain ⟨d4, h4⟩ := hf (3, 4, 1) (by decide)
    simp only [List.drop_succ_cons, List.drop_zero, List.take_succ_cons, List.take_zero] at h4
    obtain ⟨f4, e4⟩ := op_int h4 v3
    simp only [List.cons.injEq, and_true] at e4
    subst e4
    refine ⟨⟨f0, f1, f2, f3, f4⟩, trivial, ?_⟩
    show RoCs (RdI (old w)) w _ _
    exact ⟨_, _, rfl, (by simp [RoC, sIndex, sTable, sProc, sStmt]), _, _, rfl, r1, _, _, rfl, r2, _, _, rfl, (by simp [RoC, sIndex, sTable, sProc, sStmt]), _, _, rfl, (by simp [RoC, sIndex, sTable, sProc, sStmt]), rfl⟩
theorem o23 (h : Rdb enc Tryz.prog w R n 23 cs d) : ∃ l : List Proc, (∀ x ∈ l, True) ∧ l.length ≤ R ∧ RoC (RdI (old w)) w (.arr false (l.map (eProc false)).length fun j => (l.map (eProc false)).getD j .nilp) cs :=
  list_of (f := (eProc false)) (Pr := fun x => True) h v23 cl98 (by decide) by98 fun m es d' _ he => o98 he
theorem o25 (h : Rdb enc Tryz.prog w R n 25 cs d) : ∃ x : Catalog, (Catalog.Fits R x) ∧ RoCs (RdI (old w)) w (p_i_Catalog (sCatalog false x)) cs := by
  obtain ⟨m, rfl, hl, hf⟩ := op_flds h fl25
  rw [cl25] at hl
  match cs, hl with
  | [y0, y1], _ =>
    obtain ⟨d0, h0⟩ := hf (22, 0, 1) (by decide)
    simp only [List.drop_succ_cons, List.drop_zero, List.take_succ_cons, List.take_zero] at h0
    obtain ⟨f0, p0, z0, r0⟩ := o22 h0
    obtain ⟨d1, h1⟩ := hf (23, 1, 1) (by decide)
    simp only [List.drop_succ_cons, List.drop_zero, List.take_succ_cons, List.take_zero] at h1
    obtain ⟨f1, p1, z1, r1⟩ := o23 h1
    refine ⟨⟨f0, f1⟩, p0, ?_⟩
    show RoCs (RdI (old w)) w _ _
    exact ⟨_, _, rfl, r0, _, _, rfl, r1, rfl⟩
theorem o72 (h : Rdb enc Tryz.prog w R n 72 cs d) : ∃ x : S_i_Sort, (True) ∧ RoC (RdI (old w)) w (eSort x) cs := by
  obtain ⟨m, rfl, hl, hf⟩ := op_flds h fl72
  rw [cl72] at hl
  match cs, hl with
  | [y0, y1, y2], _ =>
    obtain ⟨d0, h0⟩ := hf (3, 0, 1) (by decide)
    simp only [List.drop_succ_cons, List.drop_zero, List.take_succ_cons, List.take_zero] at h0
    obtain ⟨f0, e0⟩ := op_int h0 v3
    simp only [List.cons.injEq, and_true] at e0
    subst e0
    obtain ⟨d1, h1⟩ := hf (4, 1, 1) (by decide)
    simp only [List.drop_succ_cons, List.drop_zero, List.take_succ_cons, List.take_zero] at h1
    obtain ⟨f1, e1⟩ := op_bool h1 v4
    simp only [List.cons.injEq, and_true] at e1
    subst e1
    obtain ⟨d2, h2⟩ := hf (3, 2, 1) (by decide)
    simp only [List.drop_succ_cons, List.drop_zero, List.take_succ_cons, List.take_zero] at h2
    obtain ⟨f2, e2⟩ := op_int h2 v3
    simp only [List.cons.injEq, and_true] at e2
    subst e2
    refine ⟨⟨f0, f1, f2⟩, trivial, ?_⟩
    show RoCs (RdI (old w)) w _ _
    exact ⟨_, _, rfl, (by simp [RoC, sIndex, sTable, sProc, sStmt]), _, _, rfl, (by simp [RoC, sIndex, sTable, sProc, sStmt]), _, _, rfl, (by simp [RoC, sIndex, sTable, sProc, sStmt]), rfl⟩
theorem o29 (h : Rdb enc Tryz.prog w R n 29 cs d) : ∃ l : List S_i_Sort, (∀ x ∈ l, True) ∧ l.length ≤ R ∧ RoC (RdI (old w)) w (.arr false (l.map eSort).length fun j => (l.map eSort).getD j .nilp) cs :=
  list_of (f := eSort) (Pr := fun x => True) h v29 cl72 (by decide) by72 fun m es d' _ he => o72 he
theorem o101 : ∀ (n : Nat) (cs : List Value) (d : DataW H), Rdb enc Tryz.prog w R n 101 cs d → ∃ x : RX.Expr, (∀ q, RX.Expr.Fits R q x) ∧ RoC (RdI (old w)) w (eExpr false x) cs := by
  intro n
  induction n using Nat.strongRecOn with
  | _ n ih =>
    intro cs d h
    obtain ⟨m, rfl, hl, hf⟩ := op_flds h fl101
    rw [cl101] at hl
    match cs, hl with
    | [y0, y1, y2, y3, y4, y5, y6, y7, y8], _ =>
      obtain ⟨d0, h0⟩ := hf (3, 0, 1) (by decide)
      simp only [List.drop_succ_cons, List.drop_zero, List.take_succ_cons, List.take_zero] at h0
      obtain ⟨f0, e0⟩ := op_int h0 v3
      simp only [List.cons.injEq, and_true] at e0
      subst e0
      obtain ⟨d1, h1⟩ := hf (3, 1, 1) (by decide)
      simp only [List.drop_succ_cons, List.drop_zero, List.take_succ_cons, List.take_zero] at h1
      obtain ⟨f1, e1⟩ := op_int h1 v3
      simp only [List.cons.injEq, and_true] at e1
      subst e1
      obtain ⟨d2, h2⟩ := hf (75, 2, 3) (by decide)
      simp only [List.drop_succ_cons, List.drop_zero, List.take_succ_cons, List.take_zero] at h2
      obtain ⟨d3, h3⟩ := hf (9, 5, 1) (by decide)
      simp only [List.drop_succ_cons, List.drop_zero, List.take_succ_cons, List.take_zero] at h3
      obtain ⟨f3, e3, z3⟩ := op_str h3 v9
      simp only [List.cons.injEq, and_true] at e3
      subst e3
      obtain ⟨d4, h4⟩ := hf (9, 6, 1) (by decide)
      simp only [List.drop_succ_cons, List.drop_zero, List.take_succ_cons, List.take_zero] at h4
      obtain ⟨f4, e4, z4⟩ := op_str h4 v9
      simp only [List.cons.injEq, and_true] at e4
      subst e4
      obtain ⟨d5, h5⟩ := hf (27, 7, 1) (by decide)
      simp only [List.drop_succ_cons, List.drop_zero, List.take_succ_cons, List.take_zero] at h5
      obtain ⟨d6, h6⟩ := hf (3, 8, 1) (by decide)
      simp only [List.drop_succ_cons, List.drop_zero, List.take_succ_cons, List.take_zero] at h6
      obtain ⟨f6, e6⟩ := op_int h6 v3
      simp only [List.cons.injEq, and_true] at e6
      subst e6
      obtain ⟨m2, rfl, _, hg⟩ := op_flds h2 fl75
      obtain ⟨_, g0⟩ := hg (3, 0, 1) (by decide)
      obtain ⟨_, g1⟩ := hg (3, 1, 1) (by decide)
      obtain ⟨_, g2⟩ := hg (9, 2, 1) (by decide)
      simp only [List.drop_succ_cons, List.drop_zero, List.take_succ_cons, List.take_zero] at g0 g1 g2
      obtain ⟨i0, e0'⟩ := op_int g0 v3
      obtain ⟨i1, e1'⟩ := op_int g1 v3
      obtain ⟨i2, e2', _⟩ := op_str g2 v9
      simp only [List.cons.injEq, and_true] at e0' e1' e2'
      subst e0' e1' e2'
      obtain ⟨kids, pk, zk, rk⟩ := list_of (f := eExpr false) (Pr := fun x => ∀ q, RX.Expr.Fits R q x) h5 v27 cl101 (by decide) by101 fun m es d' hm he => ih m (by omega) es d' he
      refine ⟨RX.Expr.mk f0 f1 i0 i1 i2 f3 f4 kids f6, fun q => ?_, ?_⟩
      · cases q with
        | zero => trivial
        | succ q => exact ⟨z4, z3, fun x hx => pk x hx q⟩
      · rw [eExpr_s]
        show RoCs (RdI (old w)) w _ _
        exact ⟨_, _, rfl, (by simp [RoC, sExpr, RX.Expr.kind]), _, _, rfl, (by simp [RoC, sExpr, RX.Expr.op]), _, _, rfl, (by simp [RoC, sExpr, RX.Expr.vkind]), _, _, rfl, (by simp [RoC, sExpr, RX.Expr.vint]), _, _, rfl, (by simp [RoC, sExpr, RX.Expr.vtext]), _, _, rfl, (by simp [RoC, sExpr, RX.Expr.table]), _, _, rfl, (by simp [RoC, sExpr, RX.Expr.name]), _, _, rfl, rk, _, _, rfl, (by simp [RoC, sExpr, RX.Expr.at_]), rfl⟩
theorem o27 (h : Rdb enc Tryz.prog w R n 27 cs d) : ∃ l : List RX.Expr, (∀ x ∈ l, ∀ q, RX.Expr.Fits R q x) ∧ l.length ≤ R ∧ RoC (RdI (old w)) w (.arr false (l.map (eExpr false)).length fun j => (l.map (eExpr false)).getD j .nilp) cs :=
  list_of (f := eExpr false) (Pr := fun x => ∀ q, RX.Expr.Fits R q x) h v27 cl101 (by decide) by101 fun m es d' _ he => o101 m es d' he
theorem o103 (h : Rdb enc Tryz.prog w R n 103 cs d) : ∃ x : Set_, (x.name.size ≤ R ∧ RX.Expr.Fits R 16 x.expr) ∧ RoC (RdI (old w)) w (eSet false x) cs := by
  obtain ⟨m, rfl, hl, hf⟩ := op_flds h fl103
  rw [cl103] at hl
  match cs, hl with
  | [y0, y1, y2, y3, y4, y5, y6, y7, y8, y9, y10], _ =>
    obtain ⟨d0, h0⟩ := hf (9, 0, 1) (by decide)
    simp only [List.drop_succ_cons, List.drop_zero, List.take_succ_cons, List.take_zero] at h0
    obtain ⟨f0, e0, z0⟩ := op_str h0 v9
    simp only [List.cons.injEq, and_true] at e0
    subst e0
    obtain ⟨d1, h1⟩ := hf (101, 1, 9) (by decide)
    simp only [List.drop_succ_cons, List.drop_zero, List.take_succ_cons, List.take_zero] at h1
    obtain ⟨f1, p1, r1⟩ := o101 _ _ _ h1
    obtain ⟨d2, h2⟩ := hf (3, 10, 1) (by decide)
    simp only [List.drop_succ_cons, List.drop_zero, List.take_succ_cons, List.take_zero] at h2
    obtain ⟨f2, e2⟩ := op_int h2 v3
    simp only [List.cons.injEq, and_true] at e2
    subst e2
    refine ⟨⟨f0, f1, f2⟩, ⟨z0, p1 16⟩, ?_⟩
    rw [eExpr_s] at r1
    have r1' : RoCs (RdI (old w)) w (p_i_Expr (sExpr false f1)) [y1, y2, y3, y4, y5, y6, y7, y8, y9] := r1
    obtain ⟨_, _, q0, a0, _, _, q1, a1, _, _, q2, a2, _, _, q3, a3, _, _, q4, a4, _, _, q5, a5, _, _, q6, a6, _, _, q7, a7, _, _, q8, a8, q9⟩ := r1'
    simp only [List.cons.injEq] at q0 q1 q2 q3 q4 q5 q6 q7 q8
    obtain ⟨rfl, rfl⟩ := q0
    obtain ⟨rfl, rfl⟩ := q1
    obtain ⟨rfl, rfl⟩ := q2
    obtain ⟨rfl, rfl⟩ := q3
    obtain ⟨rfl, rfl⟩ := q4
    obtain ⟨rfl, rfl⟩ := q5
    obtain ⟨rfl, rfl⟩ := q6
    obtain ⟨rfl, rfl⟩ := q7
    obtain ⟨rfl, rfl⟩ := q8
    show RoCs (RdI (old w)) w _ _
    exact ⟨_, _, rfl, (by simp [RoC, sSet]), _, _, rfl, a0, _, _, rfl, a1, _, _, rfl, a2, _, _, rfl, a3, _, _, rfl, a4, _, _, rfl, a5, _, _, rfl, a6, _, _, rfl, a7, _, _, rfl, a8, _, _, rfl, (by simp [RoC, sSet]), rfl⟩
theorem o28 (h : Rdb enc Tryz.prog w R n 28 cs d) : ∃ l : List Set_, (∀ x ∈ l, x.name.size ≤ R ∧ RX.Expr.Fits R 16 x.expr) ∧ l.length ≤ R ∧ RoC (RdI (old w)) w (.arr false (l.map (eSet false)).length fun j => (l.map (eSet false)).getD j .nilp) cs :=
  list_of (f := (eSet false)) (Pr := fun x => x.name.size ≤ R ∧ RX.Expr.Fits R 16 x.expr) h v28 cl103 (by decide) by103 fun m es d' _ he => o103 he
theorem o32 (h : Rdb enc Tryz.prog w R n 32 cs d) : ∃ x : RX.Stmt, (Stmt.Fits R x) ∧ RoCs (RdI (old w)) w (p_i_Stmt (sStmt false x)) cs := by
  obtain ⟨m, rfl, hl, hf⟩ := op_flds h fl32
  rw [cl32] at hl
  match cs, hl with
  | [y0, y1, y2, y3, y4, y5, y6, y7, y8, y9, y10, y11, y12], _ =>
    obtain ⟨d0, h0⟩ := hf (3, 0, 1) (by decide)
    simp only [List.drop_succ_cons, List.drop_zero, List.take_succ_cons, List.take_zero] at h0
    obtain ⟨f0, e0⟩ := op_int h0 v3
    simp only [List.cons.injEq, and_true] at e0
    subst e0
    obtain ⟨d1, h1⟩ := hf (9, 1, 1) (by decide)
    simp only [List.drop_succ_cons, List.drop_zero, List.take_succ_cons, List.take_zero] at h1
    obtain ⟨f1, e1, z1⟩ := op_str h1 v9
    simp only [List.cons.injEq, and_true] at e1
    subst e1
    obtain ⟨d2, h2⟩ := hf (9, 2, 1) (by decide)
    simp only [List.drop_succ_cons, List.drop_zero, List.take_succ_cons, List.take_zero] at h2
    obtain ⟨f2, e2, z2⟩ := op_str h2 v9
    simp only [List.cons.injEq, and_true] at e2
    subst e2
    obtain ⟨d3, h3⟩ := hf (27, 3, 1) (by decide)
    simp only [List.drop_succ_cons, List.drop_zero, List.take_succ_cons, List.take_zero] at h3
    obtain ⟨f3, p3, z3, r3⟩ := o27 h3
    obtain ⟨d4, h4⟩ := hf (27, 4, 1) (by decide)
    simp only [List.drop_succ_cons, List.drop_zero, List.take_succ_cons, List.take_zero] at h4
    obtain ⟨f4, p4, z4, r4⟩ := o27 h4
    obtain ⟨d5, h5⟩ := hf (27, 5, 1) (by decide)
    simp only [List.drop_succ_cons, List.drop_zero, List.take_succ_cons, List.take_zero] at h5
    obtain ⟨f5, p5, z5, r5⟩ := o27 h5
    obtain ⟨d6, h6⟩ := hf (4, 6, 1) (by decide)
    simp only [List.drop_succ_cons, List.drop_zero, List.take_succ_cons, List.take_zero] at h6
    obtain ⟨f6, e6⟩ := op_bool h6 v4
    simp only [List.cons.injEq, and_true] at e6
    subst e6
    obtain ⟨d7, h7⟩ := hf (28, 7, 1) (by decide)
    simp only [List.drop_succ_cons, List.drop_zero, List.take_succ_cons, List.take_zero] at h7
    obtain ⟨f7, p7, z7, r7⟩ := o28 h7
    obtain ⟨d8, h8⟩ := hf (27, 8, 1) (by decide)
    simp only [List.drop_succ_cons, List.drop_zero, List.take_succ_cons, List.take_zero] at h8
    obtain ⟨f8, p8, z8, r8⟩ := o27 h8
    obtain ⟨d9, h9⟩ := hf (29, 9, 1) (by decide)
    simp only [List.drop_succ_cons, List.drop_zero, List.take_succ_cons, List.take_zero] at h9
    obtain ⟨f9, p9, z9, r9⟩ := o29 h9
    obtain ⟨d10, h10⟩ := hf (30, 10, 1) (by decide)
    simp only [List.drop_succ_cons, List.drop_zero, List.take_succ_cons, List.take_zero] at h10
    obtain ⟨f10, z10, r10⟩ := o30 h10
    obtain ⟨d11, h11⟩ := hf (3, 11, 1) (by decide)
    simp only [List.drop_succ_cons, List.drop_zero, List.take_succ_cons, List.take_zero] at h11
    obtain ⟨f11, e11⟩ := op_int h11 v3
    simp only [List.cons.injEq, and_true] at e11
    subst e11
    obtain ⟨d12, h12⟩ := hf (3, 12, 1) (by decide)
    simp only [List.drop_succ_cons, List.drop_zero, List.take_succ_cons, List.take_zero] at h12
    obtain ⟨f12, e12⟩ := op_int h12 v3
    simp only [List.cons.injEq, and_true] at e12
    subst e12
    refine ⟨⟨f0, f1, f2, f3, f4, f5, f6, f7, f8, f9, f10, f11, f12⟩, ⟨z1, z2, ⟨z3, fun e he => p3 e he 16⟩, ⟨z4, fun e he => p4 e he 16⟩, ⟨z5, fun e he => p5 e he 16⟩, ⟨z8, fun e he => p8 e he 16⟩, z7, p7, z9, z10⟩, ?_⟩
    show RoCs (RdI (old w)) w _ _
    exact ⟨_, _, rfl, (by simp [RoC, sIndex, sTable, sProc, sStmt]), _, _, rfl, (by simp [RoC, sIndex, sTable, sProc, sStmt]), _, _, rfl, (by simp [RoC, sIndex, sTable, sProc, sStmt]), _, _, rfl, r3, _, _, rfl, r4, _, _, rfl, r5, _, _, rfl, (by simp [RoC, sIndex, sTable, sProc, sStmt]), _, _, rfl, r7, _, _, rfl, r8, _, _, rfl, r9, _, _, rfl, r10, _, _, rfl, (by simp [RoC, sIndex, sTable, sProc, sStmt]), _, _, rfl, (by simp [RoC, sIndex, sTable, sProc, sStmt]), rfl⟩
end
end
end Go.SP
