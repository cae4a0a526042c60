/- A verified interpreter of the model's Code: what it makes of a function, the model does. No condition. -/
import Derived.Test.YtacceochippkaaaGreatDoorRa
import Derived.Maps.AppendAt
import Derived.Laws.Slices
import Derived.Lib.AppendZeros
import Derived.Laws.Cover3
import Derived.LoopN
import Derived.Scope
import Derived.Laws.Sem
set_option linter.all false
namespace Go.RX
section
variable {P : Program} {ρ : Operand → AV} {rd : Nat → AO} {fresh : Nat} {dst : Option Tmp} {ty : TypeId} {pos : String} {after : Array Edge} {guard : Option (Nat × Bool)}
theorem run_part' {t : TypeId} {agg : Bool} {n : Nat} (ha : isAggT P t = some agg) (hn : sizeT P t = some n) (h1 : agg = false → n = 1) {C : Array Value} {off : Nat} (hl : off + n ≤ C.size) (w : World) :
    (part t C off).run P w = .ok (outV agg ((C.toList.drop off).take n)) w := by
  cases agg with
  | true =>
    simp only [part, Sem.run_bind, run_isAgg' ha, Result.andThen_ok, if_true, run_sizeOf' hn, Sem.run_pure, outV]
    congr 2
    apply Array.ext'
    rw [Array.toList_extract]
    simp [List.extract]
  | false =>
    have := h1 rfl
    subst this
    have hlt : off < C.size := by omega
    have h2 : (C.toList.drop off).take 1 = [C[off]] := by
      rw [List.drop_eq_getElem_cons (by simpa using hlt)]
      simp
    simp [part, run_isAgg' ha, hlt, outV, h2]
theorem sem_field (t : TypeId) (x : Operand) (f : Nat) (cs : List AV) (fs : List (Nat × TypeId × Bool)) (hx : ρ x = .agg cs) (hf : fieldsT P t = some fs) (off : Nat) (ft : TypeId) (b : Bool) (hff : fs[f]? = some (off, ft, b))
    (agg : Bool) (n : Nat) (hs : shapeT P ft = some (agg, n)) (hl : off + n ≤ cs.length) : OpSem P ⟨dst, .field t x f, ty, pos, after, guard⟩ ρ rd fresh (ofCells agg (cut cs off n)) [] :=
  OpSem.pure fun c h a hv _ _ => by
    obtain ⟨ha, hn, hone⟩ := shapeT_some hs
    have e1 := hv x (by simp [Op.operands])
    rw [hx] at e1
    simp only [V] at e1
    obtain ⟨C, h1, h2, h3⟩ := e1
    have hC : C.size = cs.length := by simpa using h2.length
    unfold fieldsT at hf
    cases hu : P.underlying t with
    | none => simp [hu] at hf
    | some d =>
      cases d <;> simp [hu] at hf
      rename_i fields
      subst hf
      simp only [List.getElem?_map, Option.map_eq_some_iff, Array.getElem?_toList] at hff
      obtain ⟨fd, h4, h5⟩ := hff
      simp at h5
      obtain ⟨rfl, rfl, _⟩ := h5
      refine ⟨outV agg ((C.toList.drop fd.offset).take n), ?_, V_ofCells ((h2.drop _).take _) (fun u hu => h3 u (List.mem_of_mem_drop (List.mem_of_mem_take hu))) fun e => by simp [cut]; have := hone e; omega⟩
      simp [execOp, Instr.field, run_underlying hu, h1, asAgg, h4, run_part' ha hn hone (show fd.offset + n ≤ C.size by omega)]
theorem foldl_splice (off : Nat) : ∀ (l : List Value) (k : Nat) (C : Array Value), off + k + l.length ≤ C.size →
    ((l.zipIdx k).foldl (fun cs (x : Value × Nat) => cs.setIfInBounds (off + x.2) x.1) C).toList = C.toList.take (off + k) ++ l ++ C.toList.drop (off + k + l.length)
  | [], k, C, _ => by simp
  | v :: l, k, C, h => by
    simp only [List.length_cons] at h
    simp only [List.zipIdx_cons, List.foldl_cons]
    rw [foldl_splice off l (k + 1) _ (by simp; omega)]
    have hlt : off + k < C.toList.length := by simp; omega
    simp only [Array.toList_setIfInBounds]
    have e1 : (C.toList.set (off + k) v).take (off + (k + 1)) = C.toList.take (off + k) ++ [v] := by
      rw [← Nat.add_assoc, List.take_succ_eq_append_getElem (by simpa using hlt), List.take_set_of_le (Nat.le_refl _)]
      simp
    have e2 : (C.toList.set (off + k) v).drop (off + (k + 1) + l.length) = C.toList.drop (off + k + (l.length + 1)) := by
      rw [List.drop_set_of_lt (by omega)]
      congr 1
      omega
    rw [e1, e2]
    simp
def Par (c : Cx) : List (Nat × AV) → List (Nat × Value) → Prop
  | [], ys => ys = []
  | x :: xs, ys => ∃ v r, ys = (x.1, v) :: r ∧ V c x.2 v ∧ Par c xs r
theorem fill_ok (at_ : Nat → Option (Nat × Nat)) {c : Cx} : ∀ (parts : List (Nat × AV)) (vals : List (Nat × Value)) (cs cs' : List AV) (C : Array Value),
    Par c parts vals → fillA at_ cs parts = some cs' → Vs c cs C.toList → (∀ u ∈ C.toList, u.oneCell' = true) →
      ∃ C', Instr.fill at_ C vals = some C' ∧ Vs c cs' C'.toList ∧ ∀ u ∈ C'.toList, u.oneCell' = true
  | [], vals, cs, cs', C, hf, h, hV, h1 => by
    simp [Par] at hf
    subst hf
    simp [fillA] at h
    subst h
    exact ⟨C, rfl, hV, h1⟩
  | (i, x) :: parts, vals, cs, cs', C, hf, h, hV, h1 => by
    obtain ⟨v, vals, rfl, hv, hf⟩ := hf
    simp only at hv
    simp only [fillA] at h
    split at h
    · rename_i off size hat
      split at h
      · rename_i us hus
        split at h
        · rename_i hc
          simp only [Bool.and_eq_true] at hc
          have hc1 := Nat.eq_of_beq_eq_true hc.1
          have hc2 := Nat.le_of_ble_eq_true hc.2
          have hvc := V_cells hv hus
          have hl := hvc.1.length
          have hC : C.size = cs.length := by simpa using hV.length
          have hvs : v.cells.size = size := by simpa [hc1] using hl
          have hfold := foldl_splice off v.cells.toList 0 C (by simp; omega)
          simp only [Nat.add_zero, Array.length_toList] at hfold
          let C2 := v.cells.zipIdx.foldl (fun cs (x : Value × Nat) => cs.setIfInBounds (off + x.2) x.1) C
          have hC2 : C2.toList = C.toList.take off ++ v.cells.toList ++ C.toList.drop (off + v.cells.size) := by
            rw [← hfold]
            simp only [C2]
            rw [← Array.foldl_toList, Array.toList_zipIdx]
          have hV2 : Vs c (splice cs off us) C2.toList := by
            rw [hC2, hvs, ← hc1]
            exact Vs.splice hV hvc.1 off
          obtain ⟨C', h3, h4, h5⟩ := fill_ok at_ parts vals _ cs' C2 hf h hV2 (by
            rw [hC2]
            intro u hu
            simp only [List.mem_append] at hu
            rcases hu with (hu | hu) | hu
            · exact h1 u (List.mem_of_mem_take hu)
            · exact hvc.2 u hu
            · exact h1 u (List.mem_of_mem_drop hu))
          refine ⟨C', ?_, h4, h5⟩
          simp only [Instr.fill, hat]
          rw [if_neg (by simp; omega)]
          exact h3
        · cases h
      · cases h
    · cases h
theorem parts_rel {c : Cx} {a : Act} : ∀ (l : List (Nat × Operand)), (∀ x ∈ l, V c (ρ x.2) (a.eval x.2)) →
    Par c (l.map fun x => (x.1, ρ x.2)) (l.map fun x => (x.1, a.eval x.2))
  | [], _ => rfl
  | x :: l, h => ⟨_, _, rfl, h x (by simp), parts_rel l fun y hy => h y (by simp [hy])⟩
theorem sem_build (t : TypeId) (parts : Array (Nat × Operand)) (zs : List PV) (at_ : Nat → Option (Nat × Nat)) (hz : zeroCells P t = some zs) (hat : placesT P t = some at_) (cs : List AV)
    (hf : fillA at_ (zs.map .p) (parts.toList.map fun x => (x.1, ρ x.2)) = some cs) : OpSem P ⟨dst, .build t parts, ty, pos, after, guard⟩ ρ rd fresh (.agg cs) [] :=
  OpSem.pure fun c h a hv _ _ => by
    obtain ⟨z, h1, h2⟩ := zeroCells_C hz
    have hz0 := h2 c.J c.w
    obtain ⟨C', h3, h4, h5⟩ := fill_ok at_ _ _ _ cs z.cells (parts_rel (ρ := ρ) (c := c) (a := a) parts.toList fun x hx => hv x.2 (by
      simp only [Op.operands, List.mem_toArray, List.mem_map]
      exact ⟨x, hx, rfl⟩)) hf ((Vs_map_p _ _).2 hz0) (RoCs.ones _ _ hz0)
    refine ⟨.agg C', ?_, by simp only [V]; exact ⟨C', rfl, h4, h5⟩⟩
    have hb : P.built t (parts.map fun (i, x) => (i, a.eval x)).toList = some C' := by
      unfold zeroT at h1
      unfold placesT at hat
      unfold Program.built
      cases hi : P.info? t with
      | none => simp [hi] at h1
      | some it =>
        simp [hi] at h1
        cases hu : P.underlying t with
        | none => simp [hu] at hat
        | some d =>
          cases d <;> simp only [hu] at hat
          case struct fields =>
            rw [Option.map_eq_some_iff] at hat
            obtain ⟨l, h6, rfl⟩ := hat
            simp only [h1, h6]
            simpa using h3
          case array n e =>
            rw [Option.map_eq_some_iff] at hat
            obtain ⟨k, h6, rfl⟩ := hat
            unfold sizeT at h6
            cases hie : P.info? e with
            | none => simp [hie] at h6
            | some ie =>
              simp [hie] at h6
              subst h6
              simp only [h1, hie]
              simpa using h3
          all_goals cases hat
    simp [execOp, run_build c.w t _ C' hb]
theorem RoV_cells {I : Bool → Nat → Prop} {w : World} {x : PV} {v : Value} (h : RoV I w x v) : RoC I w x v.cells.toList ∧ v.cells.size = pvSize x := by
  rcases h with ⟨xs, C, rfl, rfl, h⟩ | ⟨hx, h⟩
  · exact ⟨by simpa [RoC, Value.cells] using h, by simpa [pvSize, Value.cells] using h.length⟩
  · have h1 := RoC.one x v h
    have hc : v.cells = #[v] := by cases v <;> simp [Value.oneCell'] at h1 <;> rfl
    rw [hc]
    refine ⟨h, ?_⟩
    cases x <;> first | rfl | exact absurd rfl (hx _)
theorem fill_row {c : Cx} {sz : Nat} : ∀ (parts : List (Nat × AV)) (vals : List (Nat × Value)) (xs xs' : List PV) (C : Array Value),
    Par c parts vals → elemsA sz xs parts = some xs' → RoRow c.J c.w sz xs C.toList →
      ∃ C', Instr.fill (fun i => some (i * sz, sz)) C vals = some C' ∧ RoRow c.J c.w sz xs' C'.toList ∧ xs'.length = xs.length
  | [], vals, xs, xs', C, hf, h, hr => by
    simp [Par] at hf
    subst hf
    simp [elemsA] at h
    subst h
    exact ⟨C, rfl, hr, rfl⟩
  | (i, x) :: parts, vals, xs, xs', C, hf, h, hr => by
    obtain ⟨v, vals, rfl, hv, hf⟩ := hf
    simp only at hv
    simp only [elemsA] at h
    split at h
    · rename_i y hy
      split at h
      · rename_i hc
        simp only [Bool.and_eq_true] at hc
        have hc1 := Nat.eq_of_beq_eq_true hc.1
        have hc2 : i < xs.length := by
          have := hc.2
          simp [Nat.blt] at this
          omega
        have hrv := RoV_pure (V_weak hv) hy
        obtain ⟨h1, h2⟩ := RoV_cells hrv
        have hC := hr.length
        have hC' : C.size = xs.length * sz := by simpa using hC
        have hle : i * sz + sz ≤ C.size := by
          rw [hC']
          have : (i + 1) * sz ≤ xs.length * sz := Nat.mul_le_mul_right _ hc2
          rw [Nat.add_mul] at this
          omega
        have hvs : v.cells.size = sz := by omega
        have hfold := foldl_splice (i * sz) v.cells.toList 0 C (by simp; omega)
        simp only [Nat.add_zero, Array.length_toList] at hfold
        let C2 := v.cells.zipIdx.foldl (fun cs (x : Value × Nat) => cs.setIfInBounds (i * sz + x.2) x.1) C
        have hC2 : C2.toList = C.toList.take (i * sz) ++ v.cells.toList ++ C.toList.drop (i * sz + sz) := by
          rw [← hvs] at hfold ⊢
          rw [← hfold]
          simp only [C2]
          rw [← Array.foldl_toList, Array.toList_zipIdx, hvs]
        have hr2 : RoRow c.J c.w sz (xs.set i y) C2.toList := by
          rw [hC2]
          exact RoRow.set_ i y _ hr hc2 h1 (by simpa using hvs)
        obtain ⟨C', h3, h4, h5⟩ := fill_row parts vals _ xs' C2 hf h hr2
        refine ⟨C', ?_, h4, by simpa using h5⟩
        simp only [Instr.fill]
        rw [if_neg (by simp; omega)]
        exact h3
      · cases h
    · cases h
theorem RoRow_zeros {I : Bool → Nat → Prop} {w : World} {sz : Nat} {z : PV} {v : Value} (h : RoV I w z v) (hz : pvSize z = sz) (hsz : 0 < sz) : ∀ n : Nat,
    RoRow I w sz (List.replicate n z) ((Array.range (n * sz)).map (v.cells[· % v.cells.size]!)).toList
  | 0 => by simp [RoRow]
  | n + 1 => by
    obtain ⟨h1, h2⟩ := RoV_cells h
    have ih := RoRow_zeros h hz hsz n
    have hs : v.cells.size = sz := by omega
    simp only [List.replicate_succ, RoRow]
    refine ⟨v.cells.toList, _, ?_, by simpa using hs, h1, ih⟩
    apply List.ext_getElem?
    intro j
    simp only [Array.toList_map, Array.toList_range, List.getElem?_map, List.getElem?_append, Array.length_toList]
    by_cases hj : j < v.cells.size
    · have h3 : j < (n + 1) * sz := by rw [Nat.add_mul]; omega
      rw [if_pos hj, List.getElem?_range h3]
      simp [Nat.mod_eq_of_lt hj, hj]
    · rw [if_neg hj]
      by_cases h3 : j < (n + 1) * sz
      · have h4 : j - v.cells.size < n * sz := by rw [Nat.add_mul] at h3; omega
        rw [List.getElem?_range h3, List.getElem?_range h4]
        simp only [Option.map_some]
        congr 2
        rw [Nat.mod_eq_sub_mod (by omega)]
      · have h4 : ¬ j - v.cells.size < n * sz := by rw [Nat.add_mul] at h3; omega
        rw [List.getElem?_eq_none (by simpa using h3), List.getElem?_eq_none (by simpa using h4)]
theorem RoRow.ones {I : Bool → Nat → Prop} {w : World} {sz : Nat} : ∀ {xs : List PV} {cells : List Value}, RoRow I w sz xs cells → (∀ x ∈ xs, ∀ es, RoC I w x es → ∀ u ∈ es, u.oneCell' = true) → ∀ u ∈ cells, u.oneCell' = true
  | [], _, h, _ => by simp [RoRow] at h; subst h; simp
  | x :: xs, cells, h, h1 => by
    obtain ⟨es, r, rfl, _, h2, h3⟩ := h
    intro u hu
    rcases List.mem_append.1 hu with hu | hu
    · exact h1 x (by simp) es h2 u hu
    · exact RoRow.ones h3 (fun y hy => h1 y (by simp [hy])) u hu
theorem RoC.ones' {I : Bool → Nat → Prop} {w : World} {x : PV} {es : List Value} (h : RoC I w x es) : ∀ u ∈ es, u.oneCell' = true := by
  cases x with
  | agg xs => exact RoCs.ones xs es (by simpa [RoC] using h)
  | arr n g =>
    have h0 := h
    simp only [RoC] at h0
    obtain ⟨a, c, rfl, _⟩ := h0
    simp [Value.oneCell']
  | _ =>
    simp only [RoC] at h
    subst h
    simp [Value.oneCell']
theorem sem_buildSlice (t e : TypeId) (len sz : Nat) (parts : Array (Nat × Operand)) (z : PV) (ht : P.underlying t = some (.slice e)) (hn : sizeT P e = some sz) (hz : zeroPV P e = some z) (h24 : len * sz ≤ 16777216) (hsz : 0 < sz) (hzs : pvSize z = sz)
    (xs : List PV) (hf : elemsA sz (List.replicate len z) (parts.toList.map fun x => (x.1, ρ x.2)) = some xs) :
    OpSem P ⟨dst, .buildSlice t len parts, ty, pos, after, guard⟩ ρ rd fresh (.row fresh) [(fresh, .row e sz xs)] :=
  OpSem.grow fun c h a hv _ hh hb => by
    obtain ⟨zv, h1, h2⟩ := RoV_zero hz c.J c.w
    have hr := RoRow_zeros h2 hzs hsz len
    obtain ⟨C', h3, h4, h5⟩ := fill_row _ _ _ xs _ (parts_rel (ρ := ρ) (c := c) (a := a) parts.toList fun x hx => hv x.2 (by
      simp only [Op.operands, List.mem_toArray, List.mem_map]
      exact ⟨x, hx, rfl⟩)) hf hr
    have hlen : xs.length = len := by simpa using h5
    have hCs : C'.size = len * sz := by have := h4.length; rw [hlen] at this; simpa using this
    refine ⟨.slice (some ⟨c.w.heap.size, 0, none⟩) len len, .cells C' e, .rowv (.slice (some ⟨c.w.heap.size, 0, none⟩) len len) sz, ?_, .inl rfl, ?_, ?_⟩
    · have hgt : ¬ 16777216 < len * sz := by omega
      have hr0 : Array.range 0 = #[] := by apply Array.ext'; simp
      by_cases h0 : len * sz = 0
      · have h3' : Instr.fill (fun i => some (i * sz, sz)) #[] (parts.toList.map fun x => (x.1, a.eval x.2)) = some C' := by
          rw [h0, hr0, Array.map_empty] at h3
          exact h3
        have hl0 : len = 0 := by
          rcases Nat.mul_eq_zero.1 h0 with h | h
          · exact h
          · omega
        subst hl0
        simp [execOp, Instr.buildSlice, run_underlying ht, run_sizeOf' hn, hr0, h3', newRow]
      · have h3' : Instr.fill (fun i => some (i * sz, sz)) (Array.map (fun x => zv.cells[x % zv.cells.size]!) (Array.range (len * sz))) (parts.toList.map fun x => (x.1, a.eval x.2)) = some C' := h3
        have hz1 : (zeroValue e).run P c.w = .ok zv c.w := run_zeroValue' h1 _
        simp only [execOp, Instr.buildSlice, Sem.run_bind, run_underlying ht, Result.andThen_ok, run_sizeOf' hn]
        rw [if_neg (by simpa using hgt)]
        simp only [h0, if_false, Sem.run_bind, Sem.run_pure, hz1, Result.andThen_ok]
        simp [h3', newRow]
    · simp only [V]
      exact ⟨.inr rfl, _, _, _, sz, rfl, if_pos rfl⟩
    · simp only [OR]
      refine ⟨trivial, hsz, C'.toList, ?_, RoRow.mono (grow_ext hh _ hb _).J (grow_ext hh _ hb _).jb _ _ h4⟩
      rw [hlen]
      refine ⟨by simpa using hCs, .inr ⟨c.w.heap.size, len, C', rfl, Nat.zero_le _, heap_alloc_new _ _, Nat.le_refl _, ?_, hCs, ?_⟩⟩
      · have : len ≤ len * sz := Nat.le_mul_of_pos_right _ hsz
        unfold maxLen
        omega
      · exact List.take_of_length_le (by rw [Array.length_toList, hCs]; exact Nat.le_refl _)
theorem run_append_call (a : Act) (w : World) (s x : Operand) (t t' : TypeId) :
    (execOp a.eval ⟨dst, .call { callee := .builtin .append, args := #[s, x], argTypes := #[t, t'] }, ty, pos, after, guard⟩).run P w =
      ((Builtin.append_ #[t, t'] ty #[a.eval s, a.eval x]).run P w).andThen fun u w' => .ok (.value u) w' := by
  simp [execOp, resolve, invoke, builtin]
theorem RoC.size {I : Bool → Nat → Prop} {w : World} {x : PV} {es : List Value} (h : RoC I w x es) : es.length = pvSize x := by
  cases x with
  | agg xs =>
    simp only [RoC] at h
    exact h.length
  | arr n g =>
    simp only [RoC] at h
    obtain ⟨a, c, rfl, _⟩ := h
    rfl
  | _ =>
    simp only [RoC] at h
    subst h
    rfl
theorem row_of_arr {I : Bool → Nat → Prop} {w : World} {sz b off : Nat} (g : Nat → PV) : ∀ (n k : Nat),
    (∀ i, i < n → ∃ es : List Value, es.length = sz ∧ RoC I w (g (k + i)) es ∧ ∀ j, j < sz → w.cell? ⟨b, off + (k + i) * sz + j, none⟩ = es[j]?) →
    ∃ cells, RoRow I w sz ((List.range n).map fun i => g (k + i)) cells ∧ ∀ j v, cells[j]? = some v → w.cell? ⟨b, off + k * sz + j, none⟩ = some v
  | 0, k, _ => ⟨[], by simp [RoRow], fun j v h => by simp at h⟩
  | n + 1, k, h => by
    obtain ⟨es, h1, h2, h3⟩ := h 0 (by omega)
    obtain ⟨cells, h4, h5⟩ := row_of_arr g n (k + 1) fun i hi => by
      obtain ⟨es, k1, k2, k3⟩ := h (i + 1) (by omega)
      have e : k + (i + 1) = k + 1 + i := by omega
      rw [e] at k2 k3
      exact ⟨es, k1, k2, k3⟩
    refine ⟨es ++ cells, ?_, fun j v hj => ?_⟩
    · rw [List.range_succ_eq_map, List.map_cons, List.map_map]
      simp only [RoRow]
      refine ⟨es, cells, rfl, h1, by simpa using h2, ?_⟩
      have e : ((fun i => g (k + i)) ∘ Nat.succ) = fun i => g (k + 1 + i) := by
        funext i
        simp only [Function.comp]
        congr 1
        omega
      rw [e]
      exact h4
    · rw [List.getElem?_append] at hj
      split at hj
      · rename_i hlt
        have := h3 j (by omega)
        simp only [Nat.add_zero] at this
        rw [this, hj]
      · rename_i hge
        have := h5 (j - es.length) v hj
        rw [← this]
        congr 2
        rw [Nat.add_mul]
        omega
theorem add_plain (ad : Addr) (h : ad.spot = none) (j : Nat) : ad.add j = ⟨ad.block, ad.off + j, none⟩ := by
  obtain ⟨b, o, s⟩ := ad
  simp only at h
  subst h
  exact add_none b o j
theorem more_cells {sz : Nat} (hsz : 0 < sz) {x : AV} {K : List PV → Prop} (h : moreA rd sz x K) :
    ∃ ys, K ys ∧ ∀ (c : Cx) (hp : HP) (u : Value), V c x u → (∀ i, rd i ≠ .dead → hp i = some (rd i)) → HR c hp →
      ∃ a cp cells, u = .slice a ys.length cp ∧ RoRow c.J c.w sz ys cells ∧ (0 < ys.length → ∃ ad, a = some ad ∧ ∀ j v, cells[j]? = some v → c.w.cell? (ad.add j) = some v) := by
  have arr : ∀ (m : Bool) (n : Nat) (g : Nat → PV), (∀ i, i < n → pvSize (g i) = sz) → ∀ (c : Cx) (u : Value), RoC c.J c.w (.arr m n g) [u] →
      ∃ a cp cells, u = .slice a ((List.range n).map g).length cp ∧ RoRow c.J c.w sz ((List.range n).map g) cells ∧ (0 < ((List.range n).map g).length → ∃ ad, a = some ad ∧ ∀ j v, cells[j]? = some v → c.w.cell? (ad.add j) = some v) := by
    intro m n g hg c u h
    simp only [RoC] at h
    obtain ⟨a, cp, h1, _, h2⟩ := h
    simp at h1
    simp only [List.length_map, List.length_range]
    by_cases hn : 0 < n
    · obtain ⟨b, off, s, rfl, hI, hs, _, h3⟩ := h2 hn
      have hss : s = sz := by
        obtain ⟨es, k1, k2, _⟩ := h3 0 hn
        rw [← k1, k2.size, hg 0 hn]
      subst hss
      obtain ⟨cells, h4, h5⟩ := row_of_arr (I := c.J) (w := c.w) (sz := s) (b := b) (off := off) g n 0 fun i hi => by simpa using h3 i hi
      refine ⟨_, cp, cells, h1, by simpa using h4, fun _ => ⟨_, rfl, fun j v hj => ?_⟩⟩
      rw [add_none]
      simpa using h5 j v hj
    · have : n = 0 := by omega
      subst this
      exact ⟨a, cp, [], h1, by simp [RoRow], fun h => absurd h (by omega)⟩
  unfold moreA at h
  split at h
  · refine ⟨[], h, fun c hp u hu _ _ => ⟨none, 0, [], ?_, by simp [RoRow], fun h => absurd h (by simp)⟩⟩
    simpa using V_nils hu
  · rename_i m n g
    exact ⟨_, h.2, fun c hp u hu _ _ => arr m n g h.1 c u (by simpa only [V] using hu)⟩
  · rename_i id
    split at h
    · rename_i e sz' xs hr
      split at h
      · rename_i hb
        have := Nat.eq_of_beq_eq_true hb
        subst this
        refine ⟨xs, h, fun c hp u hu hrd hh => ?_⟩
        simp only [V] at hu
        obtain ⟨_, a, n, cp, s, rfl, h4⟩ := hu
        have h6 := (hh.obj id _ (hrd id (by rw [hr]; simp))).2
        rw [hr, h4] at h6
        simp only [OR] at h6
        obtain ⟨rfl, _, cells, h7, h8⟩ := h6
        rcases h7.2 with ⟨he, h9⟩ | ⟨g, cap, cur, he, _⟩
        · simp at he
          obtain ⟨rfl, rfl, rfl⟩ := he
          exact ⟨none, 0, cells, by rw [h9], h8, fun h => absurd h (by omega)⟩
        · simp at he
          obtain ⟨rfl, rfl, rfl⟩ := he
          refine ⟨_, cp, cells, rfl, h8, fun _ => ⟨_, rfl, fun j v hj => ?_⟩⟩
          exact h7.cells (g := g) rfl j v hj
      · exact h.elim
    · rename_i sz' xs hr
      refine ⟨xs, h.2, fun c hp u hu hrd hh => ?_⟩
      simp only [V] at hu
      obtain ⟨_, a, n, cp, s, rfl, h4⟩ := hu
      have h6 := (hh.obj id _ (hrd id (by rw [hr]; simp))).2
      rw [hr, h4] at h6
      simp only [OR] at h6
      obtain ⟨a', cp', cells, h7, h8, h9⟩ := arr true xs.length (fun j => xs.getD j .nilp) h.1 c _ h6
      have e : (List.range xs.length).map (fun j => xs.getD j .nilp) = xs := by
        apply List.ext_getElem
        · simp
        · intro i h1 h2
          simp at h1
          simp [h1]
      rw [e] at h7 h8 h9
      exact ⟨a', cp', cells, h7, h8, h9⟩
    · exact h.elim
  · exact h.elim
theorem run_append_zero {t e : TypeId} {sz : Nat} (ht : P.underlying t = some (.slice e)) (hn : sizeT P e = some sz) {b : Option Addr} {n cp : Nat} (h : n ≤ cp) (a : Option Addr) (c : Nat) (w : World) :
    (Builtin.append_ #[t, t] ty #[.slice b n cp, .slice a 0 c]).run P w = .ok (.slice b n cp) w := by
  cases a <;> cases b <;> simp [Builtin.append_, run_underlying ht, run_sizeOf' hn, Builtin.lenOf, Builtin.firstCells, loadCells, loadCellsFrom, storeCells, h]
end
end Go.RX
namespace Go.RX
def appCx (c : Cx) (w' : World) (fresh : Nat) (v' : Value) (sz : Nat) : Cx := ⟨fun j => if j = fresh then .rowv v' sz else c.β j, c.I, w', fun j => c.born j ∨ j = fresh, c.base⟩
def appH (h : HP) (fresh : Nat) (old : Option Nat) (ao : AO) : HP := fun j => if j = fresh then some ao else if old = some j then some .dead else h j
theorem app_core {c : Cx} {h : HP} (hh : HR c h) {fresh : Nat} (hf : ¬ c.born fresh) {w' : World} {row : Option Nat} (hg : c.w.grownBy w' row) (old : Option Nat)
    (hold : (old = none ∧ row = none) ∨ ∃ i, old = some i ∧ Live h i ∧ (c.β i).block = row) {v' : Value} {e sz : Nat} {xs : List PV} {cells : List Value} (hsz : 0 < sz) (hown : w'.ownsRow 0 e sz v' xs.length cells)
    (hrow : RoRow c.J c.w sz xs cells) (hblk : v'.ownBlock = row ∨ v'.ownBlock = some c.w.heap.size ∨ v'.ownBlock = none) :
    HR (appCx c w' fresh v' sz) (appH h fresh old (.row e sz xs)) ∧ Ext c (appCx c w' fresh v' sz) ∧ Fr c h (appCx c w' fresh v' sz) (appH h fresh old (.row e sz xs)) := by
  have hβ : ∀ j, j ≠ fresh → (appCx c w' fresh v' sz).β j = c.β j := fun j hj => if_neg hj
  have hβf : (appCx c w' fresh v' sz).β fresh = .rowv v' sz := if_pos rfl
  have hfl : ¬ Live h fresh := fun ⟨o, h1, _⟩ => hf (hh.obj fresh o h1).1
  have hIrow : ∀ b, c.I b → some b ≠ row := by
    intro b hb e
    rcases hold with ⟨_, h2⟩ | ⟨i, _, hl, h2⟩
    · rw [h2] at e; cases e
    · exact hh.apart i b hl (h2.trans e.symm) hb
  have ext : Ext c (appCx c w' fresh v' sz) :=
    ⟨fun j hj => .inl hj, fun j hj => hβ j (fun e => hf (e ▸ hj)), fun _ h => h, fun b hb => hg.block b (hh.bound b hb) (hIrow b hb), rfl⟩
  have live : ∀ j, Live (appH h fresh old (.row e sz xs)) j → j = fresh ∨ (j ≠ fresh ∧ old ≠ some j ∧ Live h j) := by
    rintro j ⟨o, h1, h2⟩
    simp only [appH] at h1
    by_cases e1 : j = fresh
    · exact .inl e1
    · rw [if_neg e1] at h1
      by_cases e2 : old = some j
      · rw [if_pos e2] at h1
        injection h1 with h1
        subst h1
        simp [liveO] at h2
      · rw [if_neg e2] at h1
        exact .inr ⟨e1, e2, o, h1, h2⟩
  have other : ∀ j b, old ≠ some j → Live h j → (c.β j).block = some b → some b ≠ row := by
    intro j b h1 h2 h3 h4
    rcases hold with ⟨_, h5⟩ | ⟨i, h5, hl, h6⟩
    · rw [h5] at h4; cases h4
    · have := hh.inj j i b h2 hl h3 (h6.trans h4.symm)
      exact h1 (this ▸ h5)
  have newb : ∀ b, v'.ownBlock = some b → some b = row ∨ b = c.w.heap.size := by
    intro b hb
    rcases hblk with h1 | h1 | h1
    · exact .inl (hb.symm.trans h1)
    · rw [h1] at hb; injection hb with hb; exact .inr hb.symm
    · rw [h1] at hb; cases hb
  have hrowlt : ∀ b, row = some b → b < c.w.heap.size := by
    intro b hb
    rcases hold with ⟨_, h5⟩ | ⟨i, _, hl, h6⟩
    · rw [h5] at hb; cases hb
    · exact hh.size i b hl (h6.trans hb)
  refine ⟨⟨fun j o ho => ?_, fun j k b hj hk hjb hkb => ?_, fun j b hj hjb => ?_, fun b hb => Nat.lt_of_lt_of_le (hh.bound b hb) hg.size, fun j b hj hjb => ?_, fun j b hj hjb => ?_, Nat.le_trans hh.base hg.size⟩, ext, ⟨hg.os, hg.tape, hg.output, hg.size, fun b hb hn => ?_, fun _ h => h, fun _ h => .inl h, fun j b hj hjb => ?_, rfl⟩⟩
  · simp only [appH] at ho
    by_cases e1 : j = fresh
    · rw [if_pos e1] at ho
      injection ho with ho
      subst ho e1
      refine ⟨.inr rfl, ?_⟩
      rw [hβf]
      simp only [OR]
      exact ⟨trivial, hsz, cells, hown, RoRow.mono ext.J ext.jb _ _ hrow⟩
    · rw [if_neg e1] at ho
      by_cases e2 : old = some j
      · rw [if_pos e2] at ho
        injection ho with ho
        subst ho
        rcases hold with ⟨h5, _⟩ | ⟨i, h5, ⟨o, hl, _⟩, _⟩
        · rw [h5] at e2; cases e2
        · rw [h5] at e2
          injection e2 with e2
          subst e2
          exact ⟨.inl (hh.obj i o hl).1, by simp only [OR]⟩
      · rw [if_neg e2] at ho
        obtain ⟨h1, h2⟩ := hh.obj j o ho
        refine ⟨.inl h1, ?_⟩
        rw [hβ j e1]
        cases hlv : liveO o with
        | false => exact h2.mono_dead ext hlv
        | true => exact h2.mono ext fun b hb => hg.block b (hh.size j b ⟨o, ho, hlv⟩ hb) (other j b e2 ⟨o, ho, hlv⟩ hb)
  · rcases live j hj with e1 | ⟨e1, e2, hj'⟩ <;> rcases live k hk with f1 | ⟨f1, f2, hk'⟩
    · rw [e1, f1]
    · subst e1
      rw [hβf] at hjb
      rw [hβ k f1] at hkb
      rcases newb b hjb with h1 | h1
      · exact absurd h1 (other k b f2 hk' hkb)
      · have := hh.size k b hk' hkb
        omega
    · subst f1
      rw [hβf] at hkb
      rw [hβ j e1] at hjb
      rcases newb b hkb with h1 | h1
      · exact absurd h1 (other j b e2 hj' hjb)
      · have := hh.size j b hj' hjb
        omega
    · rw [hβ j e1] at hjb
      rw [hβ k f1] at hkb
      exact hh.inj j k b hj' hk' hjb hkb
  · rcases live j hj with e1 | ⟨e1, e2, hj'⟩
    · subst e1
      rw [hβf] at hjb
      intro hI
      rcases newb b hjb with h1 | h1
      · exact hIrow b hI h1
      · have := hh.bound b hI
        omega
    · rw [hβ j e1] at hjb
      exact hh.apart j b hj' hjb
  · rcases live j hj with e1 | ⟨e1, e2, hj'⟩
    · subst e1
      rw [hβf] at hjb
      rcases hown.2 with ⟨rfl, _⟩ | ⟨g, cap, cur, rfl, _, hgg, _⟩
      · simp [Loc.block, Value.ownBlock] at hjb
      · simp [Loc.block, Value.ownBlock] at hjb
        subst hjb
        exact (Array.getElem?_eq_some_iff.1 hgg).1
    · rw [hβ j e1] at hjb
      exact Nat.lt_of_lt_of_le (hh.size j b hj' hjb) hg.size
  · rcases live j hj with e1 | ⟨e1, e2, hj'⟩
    · subst e1
      rw [hβf] at hjb
      show c.base ≤ b
      rcases newb b hjb with h1 | h1
      · rcases hold with ⟨_, h5⟩ | ⟨i, _, hl, h6⟩
        · rw [h5] at h1; cases h1
        · exact hh.low i b hl (h6.trans h1.symm)
      · rw [h1]; exact hh.base
    · rw [hβ j e1] at hjb
      exact hh.low j b hj' hjb
  · refine hg.block b hb fun e1 => ?_
    rcases hold with ⟨_, h5⟩ | ⟨i, _, hl, h6⟩
    · rw [h5] at e1; cases e1
    · exact hn i hl (h6.trans e1.symm)
  · rcases live j hj with e1 | ⟨e1, e2, hj'⟩
    · subst e1
      rw [hβf] at hjb
      rcases newb b hjb with h1 | h1
      · rcases hold with ⟨_, h5⟩ | ⟨i, _, hl, h6⟩
        · rw [h5] at h1; cases h1
        · exact .inr ⟨i, hl, h6.trans h1.symm⟩
      · exact .inl (by omega)
    · rw [hβ j e1] at hjb
      exact .inr ⟨j, hj', hjb⟩
section
variable {P : Program} {ρ : Operand → AV} {rd : Nat → AO} {fresh : Nat} {dst : Option Tmp} {ty : TypeId} {pos : String} {after : Array Edge} {guard : Option (Nat × Bool)}
theorem RoRow.append {I : Bool → Nat → Prop} {w : World} {sz : Nat} : ∀ {xs ys : List PV} {a b : List Value}, RoRow I w sz xs a → RoRow I w sz ys b → RoRow I w sz (xs ++ ys) (a ++ b)
  | [], ys, a, b, h, k => by simp [RoRow] at h; subst h; simpa using k
  | x :: xs, ys, a, b, h, k => by
    obtain ⟨es, r, rfl, h1, h2, h3⟩ := h
    exact ⟨es, r ++ b, by simp, h1, h2, RoRow.append h3 k⟩
theorem sem_append (t : TypeId) (s x : Operand) {K : KA} (h : appendA P rd fresh t (ρ s) (ρ x) K) :
    ∃ v wr, K v wr ∧ OpSem P ⟨dst, .call { callee := .builtin .append, args := #[s, x], argTypes := #[t, t] }, ty, pos, after, guard⟩ ρ rd fresh v wr := by
  unfold appendA at h
  split at h
  · rename_i e ht
    split at h
    · rename_i sz by_ z hn hby hz
      split at h
      · rename_i hchk
        simp only [Bool.and_eq_true] at hchk
        have hsz : 0 < sz := by have := hchk.1.1; simp [Nat.blt] at this; omega
        have hby0 : 0 < by_ := by have := hchk.1.2; simp [Nat.blt] at this; omega
        have hzs : pvSize z = sz := Nat.eq_of_beq_eq_true hchk.2
        obtain ⟨ys, hk, hmore⟩ := more_cells hsz h
        have info : ∃ i zv, P.info? e = some i ∧ i.zero = some zv ∧ i.size = sz ∧ i.bytes = by_ ∧ zv.cells.size = sz := by
          unfold sizeT at hn
          unfold bytesT at hby
          cases hi : P.info? e with
          | none => simp [hi] at hn
          | some i =>
            simp [hi] at hn hby
            obtain ⟨zv, h1, h2⟩ := RoV_zero hz (fun _ _ => True) ⟨#[], fun _ _ => 0, 0, default, #[]⟩
            unfold zeroT at h1
            simp [hi] at h1
            exact ⟨i, zv, rfl, h1, hn, hby, by have := (RoV_cells h2).2; omega⟩
        obtain ⟨i, zv, hi, hzv, his, hib, hzc⟩ := info
        have run : ∀ (c : Cx) (hp : HP) (a : Act), V c (ρ x) (a.eval x) → (∀ i, rd i ≠ .dead → hp i = some (rd i)) → HR c hp → ∀ (v : Value) (xs : List PV) (cells : List Value), a.eval s = v → c.w.ownsRow 0 e sz v xs.length cells → RoRow c.J c.w sz xs cells → (xs.length + ys.length) * by_ ≤ 140737488355328 →
            ∃ v' w' cells', (execOp a.eval ⟨dst, .call { callee := .builtin .append, args := #[s, x], argTypes := #[t, t] }, ty, pos, after, guard⟩).run P c.w = .ok (.value v') w' ∧ c.w.grownBy w' v.ownBlock ∧
              w'.ownsRow 0 e sz v' (xs ++ ys).length cells' ∧ RoRow c.J c.w sz (xs ++ ys) cells' ∧ (v'.ownBlock = v.ownBlock ∨ v'.ownBlock = some c.w.heap.size ∨ v'.ownBlock = none) ∧ ∃ b n cp, v' = .slice b n cp := by
          intro c hp a hx hrd hh v xs cells hs hown hrow hle
          obtain ⟨ax, cx, news, hu, hnews, hmem⟩ := hmore c hp _ hx hrd hh
          have shape : ∀ {w : World} {u : Value} {n : Nat} {cs : List Value}, w.ownsRow 0 e sz u n cs → ∃ b m cp, u = .slice b m cp := by
            intro w u n cs ho
            rcases ho.2 with ⟨rfl, _⟩ | ⟨g, cap, cur, rfl, _⟩
            · exact ⟨_, _, _, rfl⟩
            · exact ⟨_, _, _, rfl⟩
          by_cases hm : 0 < ys.length
          · obtain ⟨ad, rfl, hcell⟩ := hmem hm
            have hnl : news.length = ys.length * sz := hnews.length
            have hlen : xs.length + ys.length ≤ 140737488355328 := Nat.le_trans (Nat.le_mul_of_pos_right _ hby0) hle
            obtain ⟨v', w', h1, h2, h3, _, h5⟩ := run_append_own_at (P := P) c.w 0 t ty e i zv sz by_ ht hi hzv his hib hzc hsz v xs.length cells hown ad ys.length cx news hnl hcell
              (RoRow.ones hnews fun y _ es he => RoC.ones' he) (by simp only [maxLen]; omega) hle (Nat.zero_le _)
            refine ⟨v', w', cells ++ news, ?_, h3, by rw [List.length_append]; exact h2, RoRow.append hrow hnews, h5.elim .inl (fun h => .inr (.inl h)), shape h2⟩
            rw [run_append_call, hs, hu, h1]
            rfl
          · have hy : ys = [] := List.eq_nil_of_length_eq_zero (by omega)
            subst hy
            obtain ⟨b, m, cp, rfl⟩ := shape hown
            have hmc : m ≤ cp := by
              rcases hown.2 with ⟨he, _⟩ | ⟨g, cap, cur, he, _, _, hnc, _⟩
              · simp at he; omega
              · simp at he; omega
            refine ⟨.slice b m cp, c.w, cells, ?_, ⟨rfl, rfl, rfl, Nat.le_refl _, fun _ _ _ => rfl⟩, by simpa using hown, by simpa using hrow, .inl rfl, b, m, cp, rfl⟩
            rw [run_append_call, hs, hu]
            simp only [List.length_nil]
            rw [run_append_zero ht hn hmc]
            rfl
        split at hk
        · rename_i hx
          obtain ⟨hle, hK⟩ := hk
          refine ⟨_, _, hK, fun c hp a next Q hv hrd hf hh hnext => ?_⟩
          have hb : ¬ c.born fresh := hf fresh (Nat.le_refl _) ⟨_, List.mem_singleton.2 rfl⟩
          have e1 := hv s (by simp [Op.operands, Call.operands])
          rw [hx] at e1
          have e2 := V_nils e1
          obtain ⟨v', w', cells', h1, h2, h3, h4, h5, b, n, cp, h6⟩ := run c hp a (hv x (by simp [Op.operands, Call.operands])) hrd hh _ [] [] e2 (World.ownsRow_nil _ _ _ _) (by simp [RoRow]) (by simpa using hle)
          obtain ⟨k1, k2, k3⟩ := app_core hh hb h2 none (.inl ⟨rfl, rfl⟩) hsz h3 h4 h5
          have hupd : updH hp [(fresh, .row e sz ys)] = appH hp fresh none (.row e sz ([] ++ ys)) := by
            funext j
            simp [updH, appH]
          simp only [Oper.wp, h1, Oper.upon_value]
          refine hnext v' _ ?_ (hupd ▸ k1) k2 (hupd ▸ k3) fun j hj => ?_
          · simp only [V]
            exact ⟨.inr rfl, b, n, cp, sz, h6, if_pos rfl⟩
          · rcases hj with hj | hj
            · exact .inl hj
            · exact .inr ⟨.row e sz ys, by rw [hj]; simp⟩
        · rename_i id hx
          split at hk
          · rename_i e' sz' xs hr
            split at hk
            · rename_i hb
              simp only [Bool.and_eq_true] at hb
              have q1 := Nat.eq_of_beq_eq_true hb.1
              have q2 := Nat.eq_of_beq_eq_true hb.2
              subst q1 q2
              obtain ⟨hle, hK⟩ := hk
              refine ⟨_, _, hK, fun c hp a next Q hv hrd hf hh hnext => ?_⟩
              have hbn : ¬ c.born fresh := hf fresh (Nat.le_refl _) ⟨_, List.mem_cons_of_mem _ (List.mem_singleton.2 rfl)⟩
              have e1 := hv s (by simp [Op.operands, Call.operands])
              rw [hx] at e1
              simp only [V] at e1
              obtain ⟨hbi, b0, n0, cp0, s0, e2, e3⟩ := e1
              have hpi : hp id = some (rd id) := hrd id (by rw [hr]; simp)
              have e4 := (hh.obj id _ hpi).2
              rw [hr, e3] at e4
              simp only [OR] at e4
              obtain ⟨rfl, _, cells, e5, e6⟩ := e4
              obtain ⟨v', w', cells', h1, h2, h3, h4, h5, b, n, cp, h6⟩ := run c hp a (hv x (by simp [Op.operands, Call.operands])) hrd hh _ xs cells rfl e5 e6 hle
              have hlive : Live hp id := ⟨_, hpi, by rw [hr]; rfl⟩
              obtain ⟨k1, k2, k3⟩ := app_core hh hbn h2 (some id) (.inr ⟨id, rfl, hlive, by rw [e3]; rfl⟩) hsz h3 h4 h5
              have hne : id ≠ fresh := fun e => hbn (e ▸ hbi)
              have hupd : updH hp [(id, .dead), (fresh, .row e s0 (xs ++ ys))] = appH hp fresh (some id) (.row e s0 (xs ++ ys)) := by
                funext j
                simp only [updH, appH]
                by_cases h7 : j = fresh
                · rw [if_pos h7, if_pos h7]
                · rw [if_neg h7, if_neg h7]
                  by_cases h8 : j = id
                  · rw [if_pos h8, if_pos (by rw [h8])]
                  · rw [if_neg h8, if_neg (fun h9 => h8 (Option.some.inj h9).symm)]
              simp only [Oper.wp, h1, Oper.upon_value]
              refine hnext v' _ ?_ (hupd ▸ k1) k2 (hupd ▸ k3) fun j hj => ?_
              · simp only [V]
                exact ⟨.inr rfl, b, n, cp, s0, h6, if_pos rfl⟩
              · rcases hj with hj | hj
                · exact .inl hj
                · exact .inr ⟨.row e s0 (xs ++ ys), by rw [hj]; simp⟩
            · exact hk.elim
          · exact hk.elim
        · exact hk.elim
      · exact h.elim
    · exact h.elim
  · exact h.elim
end
end Go.RX
namespace Go.RX
section
variable {P : Program} {ρ : Operand → AV} {rd : Nat → AO} {fresh : Nat} {dst : Option Tmp} {ty : TypeId} {pos : String} {after : Array Edge} {guard : Option (Nat × Bool)}
theorem boundA_inv {x : Option AV} {d : Int} {K : Int → Prop} (h : boundA x d K) : (x = none ∧ K d) ∨ ∃ k n, x = some (.p (.int k n)) ∧ K n := by
  unfold boundA at h
  split at h
  · exact .inl ⟨rfl, h⟩
  · exact .inr ⟨_, _, rfl, h⟩
  · exact h.elim
theorem run_bounds {b : Bool} {len cap : Nat} (hlc : len ≤ cap) {lo hi : Option Value} {l h : Int} (hl : (lo = none ∧ l = 0) ∨ ∃ k, lo = some (.int k l)) (hh : (hi = none ∧ h = len) ∨ ∃ k, hi = some (.int k h)) (h0 : 0 ≤ l) (h1 : l ≤ h) (h2 : h ≤ len) (w : World) :
    (Instr.sliceBounds b len cap lo hi none).run P w = .ok (l.toNat, h.toNat, cap) w := by
  have e : ((h.toNat : Nat) : Int) = h := by omega
  have s1 : ∀ (k : IntKind) (c : BoundsCode), (Instr.sliceBound (.int k h) cap c).run P w = .ok h.toNat w := fun k c => run_sliceBound w k h cap c (by omega) (by omega)
  have s2 : ∀ (k : IntKind) (c : BoundsCode), (Instr.sliceBound (.int k l) h.toNat c).run P w = .ok l.toNat w := fun k c => run_sliceBound w k l h.toNat c h0 (by omega)
  rcases hh with ⟨rfl, rfl⟩ | ⟨k, rfl⟩ <;> rcases hl with ⟨rfl, rfl⟩ | ⟨k', rfl⟩
  · simp [Instr.sliceBounds]
  · simp only [Int.toNat_natCast] at s2
    simp [Instr.sliceBounds, s2]
  · simp [Instr.sliceBounds, s1]
  · simp [Instr.sliceBounds, s1, s2]
theorem opt_int {c : Cx} {a : Act} {o : Option Operand} {k : IntKind} {n : Int} (h : o.map ρ = some (.p (.int k n))) (hv : ∀ x, o = some x → V c (ρ x) (a.eval x)) : o.map a.eval = some (.int k n) := by
  cases o with
  | none => simp at h
  | some x =>
    simp only [Option.map_some, Option.some.injEq] at h ⊢
    have := hv x rfl
    rw [h] at this
    exact V_int this
theorem sem_slice (t : TypeId) (x : Operand) (lo hi mx : Option Operand) {K : AV → Prop} (h : sliceA P t (ρ x) (lo.map ρ) (hi.map ρ) (mx.map ρ) K) :
    ∃ v, K v ∧ OpSem P ⟨dst, .slice t x lo hi mx, ty, pos, after, guard⟩ ρ rd fresh v [] := by
  have opn : ∀ (c : Cx) (a : Act), (∀ y ∈ (Op.slice t x lo hi mx).operands, V c (ρ y) (a.eval y)) → V c (ρ x) (a.eval x) ∧ (∀ y, lo = some y → V c (ρ y) (a.eval y)) ∧ (∀ y, hi = some y → V c (ρ y) (a.eval y)) := fun c a hv =>
    ⟨hv x (by simp [Op.operands]), fun y hy => hv y (by subst hy; simp [Op.operands]), fun y hy => hv y (by subst hy; simp [Op.operands])⟩
  have low : ∀ (l : Int) (c : Cx) (a : Act), ((lo.map ρ = none ∧ l = 0) ∨ ∃ k n, lo.map ρ = some (.p (.int k n)) ∧ n = l) → (∀ y, lo = some y → V c (ρ y) (a.eval y)) → (lo.map a.eval = none ∧ l = 0) ∨ ∃ k, lo.map a.eval = some (.int k l) := by
    rintro l c a (⟨h1, h2⟩ | ⟨k, n, h1, rfl⟩) hv
    · exact .inl ⟨by cases lo <;> simp_all, h2⟩
    · exact .inr ⟨k, opt_int h1 hv⟩
  have hig : ∀ (d l : Int) (c : Cx) (a : Act), ((hi.map ρ = none ∧ l = d) ∨ ∃ k n, hi.map ρ = some (.p (.int k n)) ∧ n = l) → (∀ y, hi = some y → V c (ρ y) (a.eval y)) → (hi.map a.eval = none ∧ l = d) ∨ ∃ k, hi.map a.eval = some (.int k l) := by
    rintro d l c a (⟨h1, h2⟩ | ⟨k, n, h1, rfl⟩) hv
    · exact .inl ⟨by cases hi <;> simp_all, h2⟩
    · exact .inr ⟨k, opt_int h1 hv⟩
  unfold sliceA at h
  split at h
  · rename_i s hm ht hx
    have hmx : mx = none := by cases mx <;> simp_all
    subst hmx
    obtain ⟨hh, hhi, h⟩ : ∃ hh, ((hi.map ρ = none ∧ hh = (s.size : Int)) ∨ ∃ k n, hi.map ρ = some (.p (.int k n)) ∧ n = hh) ∧ boundA (lo.map ρ) 0 fun l => 0 ≤ l ∧ l ≤ hh ∧ hh ≤ s.size ∧ K (.p (.str (s.extract l.toNat hh.toNat))) := by
      rcases boundA_inv h with ⟨h1, h2⟩ | ⟨k, n, h1, h2⟩
      · exact ⟨_, .inl ⟨h1, rfl⟩, h2⟩
      · exact ⟨_, .inr ⟨k, n, h1, rfl⟩, h2⟩
    obtain ⟨ll, hlo, g0, g1, g2, hk⟩ : ∃ ll, ((lo.map ρ = none ∧ ll = 0) ∨ ∃ k n, lo.map ρ = some (.p (.int k n)) ∧ n = ll) ∧ 0 ≤ ll ∧ ll ≤ hh ∧ hh ≤ s.size ∧ K (.p (.str (s.extract ll.toNat hh.toNat))) := by
      rcases boundA_inv h with ⟨h1, h2⟩ | ⟨k, n, h1, h2⟩
      · exact ⟨_, .inl ⟨h1, rfl⟩, h2⟩
      · exact ⟨_, .inr ⟨k, n, h1, rfl⟩, h2⟩
    refine ⟨_, hk, OpSem.pure fun c hp a hv _ _ => ⟨.string (s.extract ll.toNat hh.toNat), ?_, V_str' _⟩⟩
    obtain ⟨e1, e2, e3⟩ := opn c a hv
    rw [hx] at e1
    have hb := run_bounds (P := P) (b := false) (Nat.le_refl s.size) (low ll c a hlo e2) (hig _ hh c a hhi e3) g0 g1 g2 c.w
    simp [execOp, V_str e1, Instr.sliceAt, Instr.slice, run_underlying ht, hb]
  · rename_i e m n g hm ht hx
    have hmx : mx = none := by cases mx <;> simp_all
    subst hmx
    obtain ⟨sz, hsz, hg, h⟩ : ∃ sz, sizeT P e = some sz ∧ (∀ i, i < n → pvSize (g i) = sz) ∧ boundA (hi.map ρ) n (fun h => boundA (lo.map ρ) 0 fun l => 0 ≤ l ∧ l ≤ h ∧ h ≤ n ∧ K (.p (.arr m (h.toNat - l.toNat) fun i => g (l.toNat + i)))) := by
      cases hs : sizeT P e with
      | none => rw [hs] at h; exact h.elim
      | some sz => rw [hs] at h; exact ⟨sz, rfl, h⟩
    obtain ⟨hh, hhi, h⟩ : ∃ hh, ((hi.map ρ = none ∧ hh = (n : Int)) ∨ ∃ k q, hi.map ρ = some (.p (.int k q)) ∧ q = hh) ∧ boundA (lo.map ρ) 0 fun l => 0 ≤ l ∧ l ≤ hh ∧ hh ≤ n ∧ K (.p (.arr m (hh.toNat - l.toNat) fun i => g (l.toNat + i))) := by
      rcases boundA_inv h with ⟨h1, h2⟩ | ⟨k, n, h1, h2⟩
      · exact ⟨_, .inl ⟨h1, rfl⟩, h2⟩
      · exact ⟨_, .inr ⟨k, _, h1, rfl⟩, h2⟩
    obtain ⟨ll, hlo, g0, g1, g2, hk⟩ : ∃ ll, ((lo.map ρ = none ∧ ll = 0) ∨ ∃ k q, lo.map ρ = some (.p (.int k q)) ∧ q = ll) ∧ 0 ≤ ll ∧ ll ≤ hh ∧ hh ≤ n ∧ K (.p (.arr m (hh.toNat - ll.toNat) fun i => g (ll.toNat + i))) := by
      rcases boundA_inv h with ⟨h1, h2⟩ | ⟨k, n, h1, h2⟩
      · exact ⟨_, .inl ⟨h1, rfl⟩, h2⟩
      · exact ⟨_, .inr ⟨k, _, h1, rfl⟩, h2⟩
    refine ⟨_, hk, OpSem.pure fun c hp a hv _ _ => ?_⟩
    obtain ⟨e1, e2, e3⟩ := opn c a hv
    rw [hx] at e1
    simp only [V, RoC] at e1
    obtain ⟨ad, cp, hu, ⟨hnc, hnm⟩, hel⟩ := e1
    simp only [List.cons.injEq, and_true] at hu
    have hb := run_bounds (P := P) (b := true) hnc (low ll c a hlo e2) (hig _ hh c a hhi e3) g0 g1 g2 c.w
    refine ⟨.slice (if cp = ll.toNat then ad else ad.map (·.add (ll.toNat * sz))) (hh.toNat - ll.toNat) (cp - ll.toNat), ?_, ?_⟩
    · simp [execOp, hu, Instr.sliceAt, Instr.slice, run_underlying ht, hb, run_sizeOf' hsz]
    · simp only [V, RoC]
      refine ⟨_, _, rfl, ⟨by omega, by omega⟩, fun h0 => ?_⟩
      have q1 : ¬ cp = ll.toNat := by omega
      have q2 : ∀ i, i < hh.toNat - ll.toNat → ll.toNat + i < n := fun i hi => by omega
      have q3 : 0 < n := by omega
      clear hb
      obtain ⟨b, off, s, rfl, hI, hs, hd, hcell⟩ := hel q3
      have hss : s = sz := by
        obtain ⟨es, k1, k2, _⟩ := hcell 0 q3
        rw [← k1, k2.size, hg 0 q3]
      subst hss
      refine ⟨b, off + ll.toNat * s, s, ?_, hI, hs, fun hm => Nat.dvd_add (hd hm) (Nat.dvd_mul_left s _), fun i hi => ?_⟩
      · rw [if_neg q1]
        simp [add_none]
      · obtain ⟨es, k1, k2, k3⟩ := hcell (ll.toNat + i) (q2 i hi)
        refine ⟨es, k1, k2, fun j hj => ?_⟩
        rw [← k3 j hj, Nat.add_mul]
        congr 2
        omega
  · exact h.elim
end
end Go.RX
namespace Go.RX
section
variable {P : Program} {ρ : Operand → AV} {rd : Nat → AO} {fresh : Nat} {dst : Option Tmp} {ty : TypeId} {pos : String} {after : Array Edge} {guard : Option (Nat × Bool)}
def isConst : Operand → Bool
  | .const _ => true
  | _ => false
def nilC (P : Program) (rd : Nat → AO) (t : TypeId) (lit : Bool) (x y : AV) : Option Bool :=
  match y with
  | .p .nils => match P.underlying t with
    | some (.slice _) => match x with
      | .p .nils => some true
      | .p (.arr _ n _) => match Nat.beq n 0 with | true => none | false => some false
      | .row id => match rd id with
        | .row _ _ (_ :: _) => some false
        | _ => none
      | _ => none
    | _ => none
  | .p .nili => match P.underlying t, lit, x with
    | some (.interface _), true, .p .nili => some true
    | some (.interface _), _, .iface _ _ => some false
    | _, _, _ => none
  | .p .nilp => match P.underlying t, x with
    | some (.pointer _), .p .nilp => some true
    | some (.pointer _), .ptr _ _ => some false
    | some (.pointer _), .rop _ => some false
    | some (.pointer _), .eptr _ _ _ => some false
    | _, _ => none
  | .p .nilf => match P.underlying t, x with
    | some (.func _ _ _), .p .nilf => some true
    | some (.func _ _ _), .func _ _ _ => some false
    | _, _ => none
  | _ => none
theorem run_equal_iface_nil {w : World} (d : Nat) (t : TypeId) {D : TypeDesc} (hd : ∃ ms, D = .interface ms) (h : P.underlying t = some D) : (Op.equalIn (d + 1) t .nilIface .nilIface).run P w = .ok true w := by
  obtain ⟨ms, rfl⟩ := hd
  simp [Op.equalIn, run_underlying h]
theorem run_equal_iface_non {w : World} (d : Nat) (t u : TypeId) (y : Value) {D : TypeDesc} (hd : ∃ ms, D = .interface ms) (h : P.underlying t = some D) : (Op.equalIn (d + 1) t (.iface u y) .nilIface).run P w = .ok false w := by
  obtain ⟨ms, rfl⟩ := hd
  simp [Op.equalIn, run_underlying h]
theorem run_equal_ptr_nil {w : World} (d : Nat) (t e : TypeId) (a : Option Addr) (h : P.underlying t = some (.pointer e)) : (Op.equalIn (d + 1) t (.pointer a) (.pointer none)).run P w = .ok a.isNone w := by
  cases a <;> simp [Op.equalIn, run_underlying h]
theorem run_equal_func_nil {w : World} (d : Nat) (t : TypeId) {D : TypeDesc} (hd : ∃ a b c, D = .func a b c) (h : P.underlying t = some D) : (Op.equalIn (d + 1) t .nilFunc .nilFunc).run P w = .ok true w := by
  obtain ⟨_, _, _, rfl⟩ := hd
  simp [Op.equalIn, run_underlying h]
theorem run_equal_func_non {w : World} (d : Nat) (t : TypeId) (f : Fn) (A B : Array Value) {D : TypeDesc} (hd : ∃ a b c, D = .func a b c) (h : P.underlying t = some D) : (Op.equalIn (d + 1) t (.func f A B) .nilFunc).run P w = .ok false w := by
  obtain ⟨_, _, _, rfl⟩ := hd
  simp [Op.equalIn, run_underlying h]
theorem nilC_run {t : TypeId} {lit : Bool} {x y : AV} {b : Bool} (h : nilC P rd t lit x y = some b) {c : Cx} {hp : HP} {X Y : Value} (hX : V c x X) (hY : V c y Y) (hr : ∀ i, rd i ≠ .dead → hp i = some (rd i)) (hh : HR c hp) :
    (Op.equal t X Y).run P c.w = .ok b c.w ∧ (∀ op ox oy, (lit = true → isConst oy = true) → (eqGuard op t ox oy X Y).run P c.w = .ok () c.w) ∧ (∀ k n, X ≠ .int k n) ∧ (∀ s, X ≠ .string s) ∧ (∀ k n, X ≠ .float k n) ∧ (∀ k n m, X ≠ .complex k n m) ∧ (∀ k n, Y ≠ .int k n) ∧ (∀ s, Y ≠ .string s) ∧ (∀ k n, Y ≠ .float k n) ∧ (∀ k n m, Y ≠ .complex k n m) := by
  have grd : ∀ {X Y : Value}, (X = .nilIface → Y = .nilIface → lit = true) → (∀ A, X ≠ .agg A) → ∀ op ox oy, (lit = true → isConst oy = true) → (eqGuard op t ox oy X Y).run P c.w = .ok () c.w := by
    intro X Y h1 h2 op ox oy h3
    unfold eqGuard
    cases op <;> simp
    all_goals
      split
      · have := h3 (h1 rfl rfl)
        cases oy <;> simp_all [isConst]
      · exact absurd rfl (h2 _)
      · rfl
  unfold nilC at h
  split at h
  · have e2 := V_nils hY
    subst e2
    split at h
    · rename_i e ht
      have go : ∀ (a : Option Addr) (l cp : Nat), a.isNone = b → X = .slice a l cp → _ := fun a l cp hb hx => (show (Op.equal t X (.slice none 0 0)).run P c.w = .ok b c.w ∧ (∀ op ox oy, (lit = true → isConst oy = true) → (eqGuard op t ox oy X (.slice none 0 0)).run P c.w = .ok () c.w) ∧ (∀ k n, X ≠ .int k n) ∧ (∀ s, X ≠ .string s) ∧ (∀ k n, X ≠ .float k n) ∧ (∀ k n m, X ≠ .complex k n m) ∧ (∀ k n, Value.slice none 0 0 ≠ .int k n) ∧ (∀ s, Value.slice none 0 0 ≠ .string s) ∧ (∀ k n, Value.slice none 0 0 ≠ .float k n) ∧ (∀ k n m, Value.slice none 0 0 ≠ .complex k n m) by
        subst hx hb
        exact ⟨run_equal_slice_nil _ t e a l cp ht, grd (by simp) (by simp), by simp, by simp, by simp, by simp, by simp, by simp, by simp, by simp⟩)
      split at h
      · injection h with h
        have e1 := V_nils hX
        exact go none 0 0 (by simpa using h) e1
      · rename_i m n g
        split at h
        · cases h
        · rename_i hn
          injection h with h
          simp only [V, RoC] at hX
          obtain ⟨a, cp, h1, _, h2⟩ := hX
          simp at h1
          have h0 : 0 < n := by
            rcases Nat.eq_zero_or_pos n with h0 | h0
            · subst h0; simp at hn
            · exact h0
          obtain ⟨bl, off, sz, h3, _⟩ := h2 h0
          exact go a n cp (by rw [h3]; simpa using h) h1
      · rename_i id
        split at h
        · rename_i e' sz x0 xs hrow
          injection h with h
          simp only [V] at hX
          obtain ⟨_, a, n, cp, sz', h1, h2⟩ := hX
          have h3 := (hh.obj id _ (hr id (by rw [hrow]; simp))).2
          rw [hrow, h2] at h3
          simp only [OR] at h3
          obtain ⟨_, hsz, cells, h4, _⟩ := h3
          rcases h4.2 with ⟨_, h5⟩ | ⟨g, cap, cur, h5, _⟩
          · simp at h5
          · rw [h1] at h5
            injection h5 with h5 h6 h7
            exact go a n cp (by rw [h5]; simpa using h) h1
        · cases h
      · cases h
    · cases h
  · simp only [V, RoC] at hY
    have e2 : Y = .nilIface := by simpa using hY
    subst e2
    split at h
    · rename_i ms ht
      injection h with h
      subst h
      simp only [V, RoC] at hX
      have e1 : X = .nilIface := by simpa using hX
      subst e1
      exact ⟨run_equal_iface_nil 9999 t ⟨_, rfl⟩ ht, grd (fun _ _ => rfl) (by simp), by simp, by simp, by simp, by simp, by simp, by simp, by simp, by simp⟩
    · rename_i ms u v ht
      injection h with h
      subst h
      simp only [V] at hX
      obtain ⟨y, rfl, _⟩ := hX
      exact ⟨run_equal_iface_non 9999 t _ _ ⟨_, rfl⟩ ht, grd (by simp) (by simp), by simp, by simp, by simp, by simp, by simp, by simp, by simp, by simp⟩
    · cases h
  · simp only [V, RoC] at hY
    have e2 : Y = .pointer none := by simpa using hY
    subst e2
    have go : ∀ (a : Option Addr), a.isNone = b → X = .pointer a → (∃ e, P.underlying t = some (.pointer e)) → (Op.equal t X (.pointer none)).run P c.w = .ok b c.w ∧ (∀ op ox oy, (lit = true → isConst oy = true) → (eqGuard op t ox oy X (.pointer none)).run P c.w = .ok () c.w) ∧ (∀ k n, X ≠ .int k n) ∧ (∀ s, X ≠ .string s) ∧ (∀ k n, X ≠ .float k n) ∧ (∀ k n m, X ≠ .complex k n m) ∧ (∀ k n, Value.pointer none ≠ .int k n) ∧ (∀ s, Value.pointer none ≠ .string s) ∧ (∀ k n, Value.pointer none ≠ .float k n) ∧ (∀ k n m, Value.pointer none ≠ .complex k n m) := by
      rintro a hb hx ⟨e, ht⟩
      subst hx hb
      exact ⟨run_equal_ptr_nil 9999 t e a ht, grd (by simp) (by simp), by simp, by simp, by simp, by simp, by simp, by simp, by simp, by simp⟩
    split at h
    · rename_i e ht
      injection h with h
      simp only [V, RoC] at hX
      exact go none (by simpa using h) (by simpa using hX) ⟨_, ht⟩
    · rename_i e i o ht
      injection h with h
      simp only [V] at hX
      obtain ⟨_, b', _, h1⟩ := hX
      exact go _ (by simpa using h) h1 ⟨_, ht⟩
    · rename_i e cs ht
      injection h with h
      simp only [V] at hX
      obtain ⟨b', o, h1, _⟩ := hX
      exact go _ (by simpa using h) h1 ⟨_, ht⟩
    · rename_i e i k o ht
      injection h with h
      simp only [V] at hX
      obtain ⟨_, b', n, cap, sz, _, _, h1⟩ := hX
      exact go _ (by simpa using h) h1 ⟨_, ht⟩
    · cases h
  · simp only [V, RoC] at hY
    have e2 : Y = .nilFunc := by simpa using hY
    subst e2
    split at h
    · rename_i ht
      injection h with h
      subst h
      simp only [V, RoC] at hX
      have e1 : X = .nilFunc := by simpa using hX
      subst e1
      exact ⟨run_equal_func_nil 9999 t ⟨_, _, _, rfl⟩ ht, grd (by simp) (by simp), by simp, by simp, by simp, by simp, by simp, by simp, by simp, by simp⟩
    · rename_i ht
      injection h with h
      subst h
      simp only [V] at hX
      obtain ⟨F, G, rfl, _⟩ := hX
      exact ⟨run_equal_func_non 9999 t _ _ _ ⟨_, _, _, rfl⟩ ht, grd (by simp) (by simp), by simp, by simp, by simp, by simp, by simp, by simp, by simp, by simp⟩
    · cases h
  · cases h
theorem run_bin_cmp {op : BinOp} {t : TypeId} {X Y : Value} {b : Bool} {w : World} (h : (Op.equal t X Y).run P w = .ok b w) (h1 : ∀ k n, X ≠ .int k n) (h2 : ∀ s, X ≠ .string s) (h3 : ∀ k n, X ≠ .float k n) (h4 : ∀ k n m, X ≠ .complex k n m)
    (k1 : ∀ k n, Y ≠ .int k n) (k2 : ∀ s, Y ≠ .string s) (k3 : ∀ k n, Y ≠ .float k n) (k4 : ∀ k n m, Y ≠ .complex k n m) :
    (op = .eql → (binOp op t X Y).run P w = .ok (.bool b) w) ∧ (op = .neq → (binOp op t X Y).run P w = .ok (.bool (!b)) w) := by
  refine ⟨fun e => ?_, fun e => ?_⟩
  · subst e
    cases X <;> first | exact absurd rfl (h1 _ _) | exact absurd rfl (h2 _) | exact absurd rfl (h3 _ _) | exact absurd rfl (h4 _ _ _) | skip
    all_goals
      cases Y <;> first | exact absurd rfl (k1 _ _) | exact absurd rfl (k2 _) | exact absurd rfl (k3 _ _) | exact absurd rfl (k4 _ _ _) | skip
    all_goals simp only [binOp, Sem.run_bind, h, Result.andThen_ok, Sem.run_pure]
  · subst e
    cases X <;> first | exact absurd rfl (h1 _ _) | exact absurd rfl (h2 _) | exact absurd rfl (h3 _ _) | exact absurd rfl (h4 _ _ _) | skip
    all_goals
      cases Y <;> first | exact absurd rfl (k1 _ _) | exact absurd rfl (k2 _) | exact absurd rfl (k3 _ _) | exact absurd rfl (k4 _ _ _) | skip
    all_goals simp only [binOp, Sem.run_bind, h, Result.andThen_ok, Sem.run_pure]
def flp (p b : Bool) : Bool := match p with
  | true => b
  | false => !b
theorem sem_nilC (op : BinOp) (t yt : TypeId) (x y : Operand) {p b : Bool} (hop : isEq op = some p) (h : nilC P rd t (isConst y) (ρ x) (ρ y) = some b) :
    OpSem P ⟨dst, .binOp op t x y yt, ty, pos, after, guard⟩ ρ rd fresh (.p (.bool (flp p b))) [] :=
  OpSem.pure fun c hp a hv hr hh => by
    obtain ⟨g1, g2, g3⟩ := nilC_run h (hv x (by simp [Op.operands])) (hv y (by simp [Op.operands])) hr hh
    have hg := g2 op x y (fun e => e)
    have hb := run_bin_cmp (op := op) g1 g3.1 g3.2.1 g3.2.2.1 g3.2.2.2.1 g3.2.2.2.2.1 g3.2.2.2.2.2.1 g3.2.2.2.2.2.2.1 g3.2.2.2.2.2.2.2
    rcases isEq_some hop with ⟨e, rfl⟩ | ⟨e, rfl⟩
    · exact ⟨_, by simp [execOp, hg, hb.1 e, flp], V_bool' _⟩
    · exact ⟨_, by simp [execOp, hg, hb.2 e, flp], V_bool' _⟩
theorem sem_capNil (ats : Array TypeId) (x : Operand) (t e : TypeId) (hat : ats[0]? = some t) (he : P.underlying t = some (.slice e)) (hx : ρ x = .p .nils) :
    OpSem P ⟨dst, .call { callee := .builtin .cap, args := #[x], argTypes := ats }, ty, pos, after, guard⟩ ρ rd fresh (.p (.int .i64 0)) [] :=
  OpSem.pure fun c hp a hv _ _ => by
    have e1 := hv x (by simp [Op.operands, Call.operands])
    rw [hx] at e1
    refine ⟨.int .i64 0, ?_, V_int' _ _⟩
    simp [execOp, resolve, invoke, builtin, V_nils e1, Builtin.cap_, hat, run_underlying he, goInt]
theorem sem_max (ats : Array TypeId) (x y : Operand) (k k' : IntKind) (m n : Int) (hx : ρ x = .p (.int k m)) (hy : ρ y = .p (.int k' n)) :
    OpSem P ⟨dst, .call { callee := .builtin .max, args := #[x, y], argTypes := ats }, ty, pos, after, guard⟩ ρ rd fresh (.p (.int k (if n > m then n else m))) [] :=
  OpSem.pure fun c hp a hv _ _ => by
    have e1 := hv x (by simp [Op.operands, Call.operands])
    have e2 := hv y (by simp [Op.operands, Call.operands])
    rw [hx] at e1
    rw [hy] at e2
    refine ⟨_, ?_, V_int' _ _⟩
    simp [execOp, resolve, invoke, builtin, V_int e1, V_int e2, Builtin.max_, Builtin.max2]
theorem sem_sliceNil (t e sz : Nat) (x : Operand) (hi : Option Operand) (he : P.underlying t = some (.slice e)) (hs : sizeT P e = some sz) (hx : ρ x = .p .nils) (hb : hi.map ρ = none ∨ ∃ k, hi.map ρ = some (.p (.int k 0))) :
    OpSem P ⟨dst, .slice t x none hi none, ty, pos, after, guard⟩ ρ rd fresh (.p .nils) [] :=
  OpSem.pure fun c hp a hv _ _ => by
    have e1 := hv x (by simp [Op.operands])
    rw [hx] at e1
    have h2 : (hi.map a.eval = none ∧ (0 : Int) = (0 : Nat)) ∨ ∃ k, hi.map a.eval = some (.int k 0) := by
      rcases hb with h | ⟨k, h⟩
      · exact .inl ⟨by cases hi <;> simp_all, rfl⟩
      · exact .inr ⟨k, opt_int h fun y hy => hv y (by subst hy; simp [Op.operands])⟩
    have hbd := run_bounds (P := P) (b := true) (len := 0) (cap := 0) (Nat.le_refl 0) (lo := none) (l := 0) (.inl ⟨rfl, rfl⟩) h2 (by omega) (by omega) (by omega) c.w
    refine ⟨.slice none 0 0, ?_, by simp [V, RoC]⟩
    simp [execOp, V_nils e1, Instr.sliceAt, Instr.slice, run_underlying he, hbd, run_sizeOf' hs]
theorem RoRow.take {I : Bool → Nat → Prop} {w : World} {sz : Nat} : ∀ (n : Nat) {xs : List PV} {cells : List Value}, RoRow I w sz xs cells → RoRow I w sz (xs.take n) (cells.take (n * sz))
  | 0, _, _, _ => by simp [RoRow]
  | n + 1, [], cells, h => by simp [RoRow] at h; subst h; simp [RoRow]
  | n + 1, x :: xs, cells, h => by
    obtain ⟨es, r, rfl, h1, h2, h3⟩ := h
    refine ⟨es, r.take (n * sz), ?_, h1, h2, RoRow.take n h3⟩
    rw [Nat.add_mul, Nat.one_mul, Nat.add_comm, ← h1, List.take_length_add_append]
theorem sem_sliceRow (t e e' n sz id : Nat) (x : Operand) (hi : Option Operand) (xs : List PV) (hh0 : Int) (he : P.underlying t = some (.slice e)) (hs : sizeT P e = some n) (hx : ρ x = .row id) (hrow : rd id = .row e' sz xs)
    (hb : (hi.map ρ = none ∧ hh0 = xs.length) ∨ ∃ k, hi.map ρ = some (.p (.int k hh0))) (h0 : 0 ≤ hh0) (h1 : hh0 ≤ xs.length) :
    OpSem P ⟨dst, .slice t x none hi none, ty, pos, after, guard⟩ ρ rd fresh (.row fresh) [(id, .dead), (fresh, .row e' sz (xs.take hh0.toNat))] := by
  intro c hp a next Q hv hrd hf hh hnext
  have hbn : ¬ c.born fresh := hf fresh (Nat.le_refl _) ⟨_, List.mem_cons_of_mem _ (List.mem_singleton.2 rfl)⟩
  have e1 := hv x (by simp [Op.operands])
  rw [hx] at e1
  simp only [V] at e1
  obtain ⟨hbi, b0, n0, cp0, s0, e2, e3⟩ := e1
  have hpi : hp id = some (rd id) := hrd id (by rw [hrow]; simp)
  have e4 := (hh.obj id _ hpi).2
  rw [hrow, e3] at e4
  simp only [OR] at e4
  obtain ⟨hss, hsz, cells, e5, e6⟩ := e4
  subst hss
  have hlive : Live hp id := ⟨_, hpi, by rw [hrow]; rfl⟩
  have h2 : (hi.map a.eval = none ∧ hh0 = (xs.length : Nat)) ∨ ∃ k, hi.map a.eval = some (.int k hh0) := by
    rcases hb with ⟨h, e⟩ | ⟨k, h⟩
    · exact .inl ⟨by cases hi <;> simp_all, e⟩
    · exact .inr ⟨k, opt_int h fun y hy => hv y (by subst hy; simp [Op.operands])⟩
  have hlen : (xs.take hh0.toNat).length = hh0.toNat := by rw [List.length_take]; omega
  have key : ∃ v', (execOp a.eval ⟨dst, .slice t x none hi none, ty, pos, after, guard⟩).run P c.w = .ok (.value v') c.w ∧ c.w.ownsRow 0 e' s0 v' (xs.take hh0.toNat).length (cells.take (hh0.toNat * s0)) ∧ v'.ownBlock = (Value.slice b0 n0 cp0).ownBlock ∧ ∃ b n cp, v' = .slice b n cp := by
    rcases e5.2 with ⟨hq, hz⟩ | ⟨g, cap, cur, hq, hg, hgg, hcap, hmax, hsize, htake⟩
    · rw [e2] at hq
      injection hq with q1 q2 q3
      subst q1 q2 q3
      have hx0 : hh0 = 0 := by omega
      subst hx0
      have hbd := run_bounds (P := P) (b := true) (len := 0) (cap := 0) (Nat.le_refl 0) (lo := none) (l := 0) (.inl ⟨rfl, rfl⟩) (hi := hi.map a.eval) (h := 0) (h2.elim (fun h => .inl ⟨h.1, rfl⟩) .inr) (by omega) (by omega) (by omega) c.w
      refine ⟨.slice none 0 0, ?_, ?_, rfl, _, _, _, rfl⟩
      · simp [execOp, e2, Instr.sliceAt, Instr.slice, run_underlying he, hbd, run_sizeOf' hs]
      · simp only [Int.toNat_zero, List.take_zero, List.length_nil, Nat.zero_mul]
        exact World.ownsRow_nil _ _ _ _
    · rw [e2] at hq
      injection hq with q1 q2 q3
      subst q1 q2 q3
      have hbd := run_bounds (P := P) (b := true) (len := xs.length) (cap := cp0) hcap (lo := none) (l := 0) (.inl ⟨rfl, rfl⟩) h2 (by omega) (by omega) (by omega) c.w
      refine ⟨.slice (some ⟨g, 0, none⟩) hh0.toNat cp0, ?_, ?_, rfl, _, _, _, rfl⟩
      · simp [execOp, e2, Instr.sliceAt, Instr.slice, run_underlying he, hbd, run_sizeOf' hs, add_none]
      · rw [hlen]
        refine ⟨?_, .inr ⟨g, cp0, cur, rfl, hg, hgg, by omega, hmax, hsize, ?_⟩⟩
        · rw [List.length_take, e5.1]
          have := Nat.mul_le_mul_right s0 (show hh0.toNat ≤ xs.length by omega)
          omega
        · rw [← htake, List.take_take]
          congr 1
          have := Nat.mul_le_mul_right s0 (show hh0.toNat ≤ xs.length by omega)
          omega
  obtain ⟨v', h3, h4, h5, b, n', cp, h6⟩ := key
  have hrow' : RoRow c.J c.w s0 (xs.take hh0.toNat) (cells.take (hh0.toNat * s0)) := RoRow.take _ e6
  obtain ⟨k1, k2, k3⟩ := app_core hh hbn (row := (Value.slice b0 n0 cp0).ownBlock) (w' := c.w) ⟨rfl, rfl, rfl, Nat.le_refl _, fun _ _ _ => rfl⟩ (some id) (.inr ⟨id, rfl, hlive, by rw [e3, e2]; rfl⟩) hsz h4 hrow' (.inl h5)
  have hne : id ≠ fresh := fun e => hbn (e ▸ hbi)
  have hupd : updH hp [(id, .dead), (fresh, .row e' s0 (xs.take hh0.toNat))] = appH hp fresh (some id) (.row e' s0 (xs.take hh0.toNat)) := by
    funext j
    simp only [updH, appH]
    by_cases h7 : j = fresh
    · rw [if_pos h7, if_pos h7]
    · rw [if_neg h7, if_neg h7]
      by_cases h8 : j = id
      · rw [if_pos h8, if_pos (by rw [h8])]
      · rw [if_neg h8, if_neg (fun h9 => h8 (Option.some.inj h9).symm)]
  simp only [Oper.wp, h3, Oper.upon_value]
  refine hnext v' (appCx c c.w fresh v' s0) ?_ (hupd ▸ k1) k2 (hupd ▸ k3) fun j hj => ?_
  · simp only [V]
    exact ⟨.inr rfl, b, n', cp, s0, h6, if_pos rfl⟩
  · rcases hj with hj | hj
    · exact .inl hj
    · exact .inr ⟨.row e' s0 (xs.take hh0.toNat), by rw [hj]; simp⟩
theorem sem_appendZeros (t tn e sz by_ : Nat) (kn k : IntKind) (s x : Operand) (n : Int) (z : PV) (he : P.underlying t = some (.slice e)) (htn : P.underlying tn = some (.int kn)) (hs : sizeT P e = some sz) (hby : bytesT P e = some by_) (hz : zeroPV P e = some z) (hsz : 0 < sz) (hzs : pvSize z = sz)
    (hx : ρ s = .p .nils) (hy : ρ x = .p (.int k n)) (h0 : 0 < n) (h1 : n ≤ 140737488355328) (h2 : n * by_ ≤ 140737488355328) :
    OpSem P ⟨dst, .call { callee := .builtin .append, args := #[s, x], argTypes := #[t, tn] }, ty, pos, after, guard⟩ ρ rd fresh (.row fresh) [(fresh, .row e sz (List.replicate n.toNat z))] := by
  intro c hp a next Q hv hrd hf hh hnext
  have hbn : ¬ c.born fresh := hf fresh (Nat.le_refl _) ⟨_, List.mem_singleton.2 rfl⟩
  have e1 := hv s (by simp [Op.operands, Call.operands])
  have e2 := hv x (by simp [Op.operands, Call.operands])
  rw [hx] at e1
  rw [hy] at e2
  have e3 := V_nils e1
  have e4 := V_int e2
  obtain ⟨zv, q1, q2⟩ := RoV_zero hz c.J c.w
  have info : ∃ i, P.info? e = some i ∧ i.zero = some zv ∧ i.size = sz ∧ i.bytes = by_ := by
    unfold sizeT at hs
    unfold bytesT at hby
    unfold zeroT at q1
    cases hi : P.info? e with
    | none => simp [hi] at hs
    | some i => simp [hi] at hs hby q1; exact ⟨i, rfl, q1, hs, hby⟩
  obtain ⟨i, hi, hzv, his, hib⟩ := info
  have hnn : ((n.toNat : Nat) : Int) = n := by omega
  have hnb : n.toNat * by_ ≤ 140737488355328 := by
    have : ((n.toNat * by_ : Nat) : Int) = n * by_ := by rw [Int.natCast_mul, hnn]
    omega
  have hrun := Lib.run_append_nil_zeros (P := P) c.w t tn ty e i zv k kn he htn hi hzv n.toNat (by omega) (by omega) (by omega) (by rw [hib]; omega)
  rw [hnn] at hrun
  have hzc : zv.cells.size = sz := by have := (RoV_cells q2).2; omega
  have hcap := grownCap_ge c.w n.toNat 0 e
  have hmax := grownCap_le_maxLen c.w n.toNat 0 e (by simp only [maxLen]; omega)
  have hrow : RoRow c.J c.w sz (List.replicate n.toNat z) (Builtin.zeroCells zv.cells n.toNat).toList := by
    have := RoRow_zeros q2 hzs hsz n.toNat
    unfold Builtin.zeroCells
    rw [hzc]
    rw [hzc] at this
    exact this
  have hsize : ∀ m, (Builtin.zeroCells zv.cells m).size = m * sz := fun m => by rw [size_zeroCells, hzc]
  have hown : (c.w.drew.alloc (.cells (Builtin.zeroCells zv.cells n.toNat ++ Builtin.zeroCells zv.cells (grownCap c.w n.toNat 0 e - n.toNat)) e)).ownsRow 0 e sz (.slice (some ⟨c.w.heap.size, 0, none⟩) n.toNat (grownCap c.w n.toNat 0 e)) (List.replicate n.toNat z).length (Builtin.zeroCells zv.cells n.toNat).toList := by
    rw [List.length_replicate]
    refine ⟨by simp [hsize], .inr ⟨c.w.heap.size, _, _, rfl, Nat.zero_le _, heap_alloc_new c.w.drew _, hcap, hmax, ?_, ?_⟩⟩
    · rw [Array.size_append, hsize, hsize, ← Nat.add_mul]
      congr 1
      omega
    · rw [Array.toList_append]
      have : n.toNat * sz = (Builtin.zeroCells zv.cells n.toNat).toList.length := by simp [hsize]
      rw [this]
      exact List.take_left
  have hg : c.w.grownBy (c.w.drew.alloc (.cells (Builtin.zeroCells zv.cells n.toNat ++ Builtin.zeroCells zv.cells (grownCap c.w n.toNat 0 e - n.toNat)) e)) none := ⟨rfl, rfl, rfl, by simp, fun k hk _ => heap_alloc_old c.w.drew _ k hk⟩
  obtain ⟨k1, k2, k3⟩ := app_core hh hbn hg none (.inl ⟨rfl, rfl⟩) hsz hown hrow (.inr (.inl rfl))
  have hupd : updH hp [(fresh, .row e sz (List.replicate n.toNat z))] = appH hp fresh none (.row e sz (List.replicate n.toNat z)) := by
    funext j
    simp [updH, appH]
  have hex : (execOp a.eval ⟨dst, .call { callee := .builtin .append, args := #[s, x], argTypes := #[t, tn] }, ty, pos, after, guard⟩).run P c.w = .ok (.value (.slice (some ⟨c.w.heap.size, 0, none⟩) n.toNat (grownCap c.w n.toNat 0 e))) (c.w.drew.alloc (.cells (Builtin.zeroCells zv.cells n.toNat ++ Builtin.zeroCells zv.cells (grownCap c.w n.toNat 0 e - n.toNat)) e)) := by
    simp only [execOp, resolve, invoke, builtin, Sem.run_bind, Sem.run_pure, Result.andThen_ok, List.map_toArray, List.map_cons, List.map_nil, e3, e4, hrun]
  simp only [Oper.wp, hex, Oper.upon_value]
  refine hnext _ _ ?_ (hupd ▸ k1) k2 (hupd ▸ k3) fun j hj => ?_
  · simp only [V]
    exact ⟨.inr rfl, _, _, _, sz, rfl, if_pos rfl⟩
  · rcases hj with hj | hj
    · exact .inl hj
    · exact .inr ⟨.row e sz (List.replicate n.toNat z), by rw [hj]; simp⟩
end
end Go.RX
namespace Go.RX
structure RenOK (f : Nat → Option Nat) (c c2 : Cx) : Prop where
  name : ∀ i j, f i = some j → c.born i → c2.born j ∧ c2.β j = c.β i
  I : ∀ b, c.I b → c2.I b
  blocks : ∀ b, c.I b → c2.w.heap[b]? = c.w.heap[b]?
  base : c2.base = c.base
theorem RenOK.J {f : Nat → Option Nat} {c c2 : Cx} (h : RenOK f c c2) (m : Bool) (b : Nat) (k : c.J m b) : c2.J m b := ⟨h.I b k.1, fun e => by rw [h.base, h.blocks b k.1]; exact k.2 e⟩
theorem RenOK.jb {f : Nat → Option Nat} {c c2 : Cx} (h : RenOK f c c2) (m : Bool) (b : Nat) (k : c.J m b) : c2.w.heap[b]? = c.w.heap[b]? := h.blocks b k.1
mutual
theorem V_ren {f : Nat → Option Nat} {c c2 : Cx} (h : RenOK f c c2) : ∀ (x : AV) (v : Value), V c x v → V c2 (renAV f x) v
  | .undef, _, _ => by simp only [renAV, V]
  | .p x, v, k => by
    simp only [renAV, V] at k ⊢
    exact RoC.mono h.J h.jb x [v] k
  | .rop cs, v, k => by
    simp only [renAV, V] at k ⊢
    obtain ⟨b, o, h1, hb, es, h2, h3⟩ := k
    refine ⟨b, o, h1, h.I b hb, es, RoCs.mono h.J h.jb cs es h2, fun j hj => ?_⟩
    rw [← h3 j hj]
    exact World.cell?_of_block (h.blocks b hb)
  | .ptr i o, v, k => by
    simp only [V] at k
    obtain ⟨hb, b, h1, h2⟩ := k
    simp only [renAV]
    cases hf : f i with
    | none => simp only [V]
    | some j =>
      simp only [V]
      obtain ⟨h3, h4⟩ := h.name i j hf hb
      exact ⟨h3, b, h4.trans h1, h2⟩
  | .eptr i l o, v, k => by
    simp only [V] at k
    obtain ⟨hb, b, n, cap, sz, h1, h2⟩ := k
    simp only [renAV]
    cases hf : f i with
    | none => simp only [V]
    | some j =>
      simp only [V]
      obtain ⟨h3, h4⟩ := h.name i j hf hb
      exact ⟨h3, b, n, cap, sz, h4.trans h1, h2⟩
  | .row i, v, k => by
    simp only [V] at k
    obtain ⟨hb, a, n, cp, sz, h0, h1⟩ := k
    simp only [renAV]
    cases hf : f i with
    | none => simp only [V]
    | some j =>
      simp only [V]
      obtain ⟨h3, h4⟩ := h.name i j hf hb
      exact ⟨h3, a, n, cp, sz, h0, h4.trans h1⟩
  | .map i, v, k => by
    simp only [V] at k
    obtain ⟨hb, b, h1, h2⟩ := k
    simp only [renAV]
    cases hf : f i with
    | none => simp only [V]
    | some j =>
      simp only [V]
      obtain ⟨h3, h4⟩ := h.name i j hf hb
      exact ⟨h3, b, h4.trans h1, h2⟩
  | .iter i, v, k => by
    simp only [V] at k
    obtain ⟨hb, b, h1, h2⟩ := k
    simp only [renAV]
    cases hf : f i with
    | none => simp only [V]
    | some j =>
      simp only [V]
      obtain ⟨h3, h4⟩ := h.name i j hf hb
      exact ⟨h3, b, h4.trans h1, h2⟩
  | .func fn a b, v, k => by
    simp only [renAV, V] at k ⊢
    obtain ⟨F, G, rfl, h1, h2⟩ := k
    exact ⟨F, G, rfl, Vs_ren h a _ h1, Vs_ren h b _ h2⟩
  | .agg cs, v, k => by
    simp only [renAV, V] at k ⊢
    obtain ⟨C, rfl, h1, h2⟩ := k
    exact ⟨C, rfl, Vs_ren h cs _ h1, h2⟩
  | .tup cs, v, k => by
    simp only [renAV, V] at k ⊢
    obtain ⟨C, rfl, h1⟩ := k
    exact ⟨C, rfl, Vs_ren h cs _ h1⟩
  | .iface t x, v, k => by
    simp only [renAV, V] at k ⊢
    obtain ⟨y, rfl, h1⟩ := k
    exact ⟨y, rfl, V_ren h x y h1⟩
theorem Vs_ren {f : Nat → Option Nat} {c c2 : Cx} (h : RenOK f c c2) : ∀ (xs : List AV) (vs : List Value), Vs c xs vs → Vs c2 (renAVs f xs) vs
  | [], _, k => by simpa [renAVs, Vs] using k
  | x :: xs, vs, k => by
    simp only [renAVs, Vs] at k ⊢
    obtain ⟨y, ys, rfl, h1, h2⟩ := k
    exact ⟨y, ys, rfl, V_ren h x y h1, Vs_ren h xs ys h2⟩
end
theorem liveO_ren (f : Nat → Option Nat) (o : AO) : liveO (renAO f o) = liveO o := by cases o <;> rfl
theorem OR_ren {f : Nat → Option Nat} {c c2 : Cx} (h : RenOK f c c2) {o : AO} {l : Loc} (hb : liveO o = true → ∀ b, l.block = some b → c2.w.heap[b]? = c.w.heap[b]?) (k : OR c o l) : OR c2 (renAO f o) l := by
  cases o <;> cases l <;> simp only [renAO, OR] at k ⊢
  · obtain ⟨C, t, h1, h2, h3⟩ := k
    exact ⟨C, t, (hb rfl _ rfl).trans h1, Vs_ren h _ _ h2, h3⟩
  · obtain ⟨h1, h2, cells, h3, h4⟩ := k
    exact ⟨h1, h2, cells, ownsRow_of_block h3 (hb rfl), RoRow.mono h.J h.jb _ _ h4⟩
  · exact RoC.mono h.J h.jb _ _ k
  · obtain ⟨E, cl, h1, h2⟩ := k
    exact ⟨E, cl, (hb rfl _ rfl).trans h1, RoMap.mono h.J h.jb _ _ h2⟩
  · exact (hb rfl _ rfl).trans k
def hpOf (h : List AO) : HP := fun i => h[i]?
structure HRl (c : Cx) (h : List AO) : Prop where
  hr : HR c (hpOf h)
  born : ∀ i, c.born i ↔ i < h.length
def RunsTo (P : Program) (f : FuncId) (args : List AV) (h : List AO) (r : AV) (h' : List AO) : Prop :=
  ∀ (c : Cx) (vals : Array Value) (o : Oper) (a : Act) (next : Act → World → Prop) (Q : Exit → Act → World → Prop), Vs c args vals.toList → HRl c h →
    (∀ v c', V c' r v → HRl c' h' → Fr c (hpOf h) c' (hpOf h') → h.length ≤ h'.length → (∀ i, i < h.length → c'.β i = c.β i) → next (a.put o.dst v) c'.w) →
    o.upon P a next Q ((callFunc f vals).run P c.w)
def CallOK (P : Program) (f : FuncId) (E : CallO) : Prop :=
  ∀ args h K, E args h K → ∃ r h', K r h' ∧ RunsTo P f args h r h'
theorem mem_iff {i : Nat} : ∀ {l : List Nat}, mem i l = true ↔ i ∈ l
  | [] => by simp [mem]
  | j :: r => by
    simp only [mem, List.mem_cons]
    cases h : Nat.beq i j with
    | true => simp [Nat.eq_of_beq_eq_true h]
    | false =>
      have hne : i ≠ j := fun e => by subst e; simp at h
      simp [hne, mem_iff (l := r)]
theorem nodup_iff : ∀ {l : List Nat}, nodup l = true ↔ l.Nodup
  | [] => by simp [nodup]
  | i :: r => by
    simp only [nodup, List.nodup_cons]
    cases h : mem i r with
    | true => simp [mem_iff.1 h]
    | false =>
      have : i ∉ r := fun e => by rw [mem_iff.2 e] at h; cases h
      simp [this, nodup_iff (l := r)]
theorem allBelow_iff {n : Nat} : ∀ {l : List Nat}, allBelow n l = true ↔ ∀ i ∈ l, i < n
  | [] => by simp [allBelow]
  | i :: r => by
    simp only [allBelow, List.mem_cons]
    cases h : Nat.blt i n with
    | true =>
      have h1 : i < n := by simp [Nat.blt] at h; omega
      rw [allBelow_iff (l := r)]
      exact ⟨fun k j hj => hj.elim (fun e => e ▸ h1) (k j), fun k j hj => k j (.inr hj)⟩
    | false =>
      have h1 : ¬ i < n := fun hlt => by
        have : Nat.blt i n = true := by unfold Nat.blt; rw [Nat.ble_eq]; exact hlt
        rw [this] at h
        cases h
      simp only [Bool.false_eq_true, false_iff]
      exact fun k => h1 (k i (.inl rfl))
theorem place_some : ∀ {L : List Nat} {i j : Nat}, place L i = some j → L[j]? = some i
  | [], i, j, h => by simp [place] at h
  | a :: r, i, j, h => by
    simp only [place] at h
    cases hb : Nat.beq a i with
    | true =>
      rw [hb] at h
      injection h with h
      subst h
      simp [Nat.eq_of_beq_eq_true hb]
    | false =>
      rw [hb] at h
      simp only [Option.map_eq_some_iff] at h
      obtain ⟨k, h1, rfl⟩ := h
      simpa using place_some h1
theorem renAOs_get (f : Nat → Option Nat) : ∀ (l : List AO) (i : Nat), (renAOs f l)[i]? = (l[i]?).map (renAO f)
  | [], i => by simp [renAOs]
  | o :: r, 0 => by simp [renAOs]
  | o :: r, i + 1 => by simp [renAOs, renAOs_get f r i]
theorem renAOs_length (f : Nat → Option Nat) : ∀ (l : List AO), (renAOs f l).length = l.length
  | [] => rfl
  | o :: r => by simp [renAOs, renAOs_length f r]
theorem updH_other : ∀ {wr : List (Nat × AO)} {h : HP} {i : Nat}, ¬ Names wr i → updH h wr i = h i
  | [], _, _, _ => rfl
  | (j, o) :: r, h, i, hn => by
    simp only [updH]
    rw [updH_other (fun ⟨o', h'⟩ => hn ⟨o', List.mem_cons_of_mem _ h'⟩)]
    rw [if_neg (fun e => hn ⟨o, by rw [e]; exact List.mem_cons_self⟩)]
theorem writesOf_names {L : List Nat} {fresh : Nat} : ∀ {l : List AO} {k i : Nat}, Names (writesOf L fresh k l) i ↔ ∃ j, j < l.length ∧ i = bk L fresh (k + j)
  | [], k, i => by simp [writesOf, Names]
  | o :: r, k, i => by
    simp only [writesOf]
    constructor
    · rintro ⟨o', h⟩
      rcases List.mem_cons.1 h with h | h
      · injection h with h1 h2
        exact ⟨0, by simp, h1⟩
      · obtain ⟨j, h1, h2⟩ := writesOf_names.1 ⟨o', h⟩
        exact ⟨j + 1, by simpa using h1, by rw [h2]; congr 1; omega⟩
    · rintro ⟨j, h1, h2⟩
      cases j with
      | zero => exact ⟨_, by rw [h2]; exact List.mem_cons_self⟩
      | succ j =>
        obtain ⟨o', h⟩ := writesOf_names.2 ⟨j, by simpa using h1, (by rw [h2]; congr 1; omega : i = bk L fresh (k + 1 + j))⟩
        exact ⟨o', List.mem_cons_of_mem _ h⟩
theorem bk_lt {L : List Nat} {fresh j : Nat} (h : j < L.length) : L[j]? = some (bk L fresh j) := by
  unfold bk
  rw [List.getElem?_eq_getElem h]
theorem bk_ge {L : List Nat} {fresh j : Nat} (h : L.length ≤ j) : bk L fresh j = fresh + (j - L.length) := by
  unfold bk
  rw [List.getElem?_eq_none h]
theorem bk_inj {L : List Nat} {fresh : Nat} (hn : L.Nodup) (hb : ∀ i ∈ L, i < fresh) {i j : Nat} (h : bk L fresh i = bk L fresh j) : i = j := by
  by_cases hi : i < L.length <;> by_cases hj : j < L.length
  · have h1 := bk_lt (fresh := fresh) hi
    have h2 := bk_lt (fresh := fresh) hj
    rw [h] at h1
    exact (List.getElem?_inj hi hn).1 (h1.trans h2.symm)
  · have h1 := hb _ (List.mem_of_getElem? (bk_lt (fresh := fresh) hi))
    have h2 := bk_ge (fresh := fresh) (Nat.le_of_not_lt hj)
    omega
  · have h1 := hb _ (List.mem_of_getElem? (bk_lt (fresh := fresh) hj))
    have h2 := bk_ge (fresh := fresh) (Nat.le_of_not_lt hi)
    omega
  · have h1 := bk_ge (fresh := fresh) (Nat.le_of_not_lt hi)
    have h2 := bk_ge (fresh := fresh) (Nat.le_of_not_lt hj)
    omega
theorem updH_writes {L : List Nat} {fresh : Nat} (hn : L.Nodup) (hb : ∀ i ∈ L, i < fresh) : ∀ {l : List AO} {h : HP} {k j : Nat} {o : AO}, l[j]? = some o → updH h (writesOf L fresh k l) (bk L fresh (k + j)) = some (renAO (back L fresh) o)
  | [], _, _, _, _, h => by simp at h
  | x :: r, h, k, 0, o, hj => by
    simp at hj
    subst hj
    simp only [writesOf, updH, Nat.add_zero]
    rw [updH_other fun hx => ?_]
    · simp
    · obtain ⟨j, _, h2⟩ := writesOf_names.1 hx
      have := bk_inj hn hb h2
      omega
  | x :: r, h, k, j + 1, o, hj => by
    simp only [writesOf, updH]
    have := updH_writes hn hb (l := r) (h := fun i => if i = bk L fresh k then some (renAO (back L fresh) x) else h i) (k := k + 1) (j := j) (o := o) (by simpa using hj)
    rw [show k + (j + 1) = k + 1 + j by omega]
    exact this
section
variable {P : Program} {ρ : Operand → AV} {rd : Nat → AO} {fresh : Nat} {dst : Option Tmp} {ty : TypeId} {pos : String} {after : Array Edge} {guard : Option (Nat × Bool)}
theorem map_rd_get {L : List Nat} {j i : Nat} (h : L[j]? = some i) : (renAOs (place L) (L.map rd))[j]? = some (renAO (place L) (rd i)) := by
  rw [renAOs_get, List.getElem?_map, h]
  rfl
def calleeCx (c : Cx) (L : List Nat) : Cx := ⟨fun j => c.β (bk L 0 j), c.I, c.w, fun j => j < L.length, c.base⟩
def Tells (c : Cx) (h : HP) (rd : Nat → AO) : Prop := ∀ i, rd i ≠ .dead → OR c (rd i) (c.β i) ∧ (liveO (rd i) = true → Live h i)
theorem tells_of {c : Cx} {h : HP} (hh : HR c h) (hrd : ∀ i, rd i ≠ .dead → h i = some (rd i)) : Tells c h rd :=
  fun i hi => ⟨(hh.obj i _ (hrd i hi)).2, fun hl => ⟨rd i, hrd i hi, hl⟩⟩
theorem tells_wk {c : Cx} {h : HP} (b : Bool) (ht : Tells c h rd) : Tells c h fun i => wkO b (rd i) := by
  intro i hi
  cases b with
  | false => exact ht i hi
  | true =>
    have hi' : rd i ≠ .dead := fun e => hi (by show wkO true (rd i) = .dead; rw [e]; rfl)
    obtain ⟨h1, h2⟩ := ht i hi'
    show OR c (wkO true (rd i)) _ ∧ (liveO (wkO true (rd i)) = true → _)
    cases ho : rd i with
    | box cs =>
      rw [ho] at h1 h2
      refine ⟨?_, fun _ => h2 rfl⟩
      simp only [wkO]
      cases hl : c.β i with
      | blk b =>
        rw [hl] at h1
        simp only [OR] at h1 ⊢
        obtain ⟨C, t, h3, h4, h5⟩ := h1
        exact ⟨C, t, h3, Vs_weak1 h4, h5⟩
      | none => rw [hl] at h1; simp only [OR] at h1
      | rowv _ _ => rw [hl] at h1; simp only [OR] at h1
    | _ => rw [ho] at h1 h2; exact ⟨h1, h2⟩
theorem callee_hr {c : Cx} {h : HP} (hh : HR c h) (hrd : Tells c h rd) {L : List Nat} (hn : L.Nodup) : HRl (calleeCx c L) (renAOs (place L) (L.map rd)) := by
  have hget : ∀ j o, hpOf (renAOs (place L) (L.map rd)) j = some o → ∃ i, L[j]? = some i ∧ bk L 0 j = i ∧ o = renAO (place L) (rd i) := by
    intro j o ho
    simp only [hpOf, renAOs_get, List.getElem?_map] at ho
    cases hL : L[j]? with
    | none => rw [hL] at ho; simp at ho
    | some i =>
      rw [hL] at ho
      simp at ho
      refine ⟨i, rfl, ?_, ho.symm⟩
      unfold bk
      rw [hL]
  have hlive : ∀ j, Live (hpOf (renAOs (place L) (L.map rd))) j → ∃ i, L[j]? = some i ∧ bk L 0 j = i ∧ Live h i := by
    rintro j ⟨o, h1, h2⟩
    obtain ⟨i, h3, h4, rfl⟩ := hget j o h1
    rw [liveO_ren] at h2
    exact ⟨i, h3, h4, (hrd i (fun e => by rw [e] at h2; simp [liveO] at h2)).2 h2⟩
  have ren : RenOK (place L) c (calleeCx c L) := by
    refine ⟨fun i j hf _ => ?_, fun _ h => h, fun _ _ => rfl, rfl⟩
    have h1 := place_some hf
    have hlt : j < L.length := (List.getElem?_eq_some_iff.1 h1).1
    refine ⟨hlt, ?_⟩
    show c.β (bk L 0 j) = c.β i
    unfold bk
    rw [h1]
  refine ⟨⟨fun j o ho => ?_, fun j k b hj hk hjb hkb => ?_, fun j b hj hjb => ?_, hh.bound, fun j b hj hjb => ?_, fun j b hj hjb => ?_, hh.base⟩, fun i => by rw [renAOs_length, List.length_map]; rfl⟩
  · obtain ⟨i, h3, h4, rfl⟩ := hget j o ho
    refine ⟨(List.getElem?_eq_some_iff.1 h3).1, ?_⟩
    show OR (calleeCx c L) _ (c.β (bk L 0 j))
    rw [h4]
    by_cases hd : rd i = .dead
    · rw [hd]; simp only [renAO, OR]
    · exact OR_ren ren (fun _ _ _ => rfl) (hrd i hd).1
  · obtain ⟨i, h3, h4, h5⟩ := hlive j hj
    obtain ⟨i', h3', h4', h5'⟩ := hlive k hk
    have e1 : (c.β i).block = some b := by rw [← h4]; exact hjb
    have e2 : (c.β i').block = some b := by rw [← h4']; exact hkb
    have := hh.inj i i' b h5 h5' e1 e2
    subst this
    exact (List.getElem?_inj (List.getElem?_eq_some_iff.1 h3).1 hn).1 (h3.trans h3'.symm)
  · obtain ⟨i, h3, h4, h5⟩ := hlive j hj
    exact hh.apart i b h5 (by rw [← h4]; exact hjb)
  · obtain ⟨i, h3, h4, h5⟩ := hlive j hj
    exact hh.size i b h5 (by rw [← h4]; exact hjb)
  · obtain ⟨i, h3, h4, h5⟩ := hlive j hj
    exact hh.low i b h5 (by rw [← h4]; exact hjb)
def backCx (c c' : Cx) (L : List Nat) (fresh n : Nat) : Cx :=
  ⟨fun i => if fresh ≤ i ∧ i < fresh + (n - L.length) then c'.β (L.length + (i - fresh)) else c.β i, c'.I, c'.w, fun i => c.born i ∨ ∃ j, j < n ∧ i = bk L fresh j, c.base⟩
theorem back_core {c : Cx} {h : HP} (hh : HR c h) (hrd : Tells c h rd) {L : List Nat} (hn : L.Nodup) (hb : ∀ i ∈ L, i < fresh) {h' : List AO} {c' : Cx}
    (hf : ∀ i, fresh ≤ i → Names (writesOf L fresh 0 h') i → ¬ c.born i) (hr' : HRl c' h') (hfr : Fr (calleeCx c L) (hpOf (renAOs (place L) (L.map rd))) c' (hpOf h'))
    (hle : L.length ≤ h'.length) (hβ : ∀ i, i < L.length → c'.β i = (calleeCx c L).β i) :
    RenOK (back L fresh) c' (backCx c c' L fresh h'.length) ∧ HR (backCx c c' L fresh h'.length) (updH h (writesOf L fresh 0 h')) ∧ Ext c (backCx c c' L fresh h'.length) ∧
      Fr c h (backCx c c' L fresh h'.length) (updH h (writesOf L fresh 0 h')) := by
  have hlive : ∀ j, Live (hpOf (renAOs (place L) (L.map rd))) j → ∃ i, L[j]? = some i ∧ Live h i ∧ (calleeCx c L).β j = c.β i := by
    rintro j ⟨o, h1, h2⟩
    simp only [hpOf, renAOs_get, List.getElem?_map] at h1
    cases hL : L[j]? with
    | none => rw [hL] at h1; simp at h1
    | some i =>
      rw [hL] at h1
      simp at h1
      subst h1
      rw [liveO_ren] at h2
      refine ⟨i, rfl, (hrd i (fun e => by rw [e] at h2; simp [liveO] at h2)).2 h2, ?_⟩
      show c.β (bk L 0 j) = c.β i
      unfold bk
      rw [hL]
  have hβb : ∀ j, j < h'.length → (backCx c c' L fresh h'.length).β (bk L fresh j) = c'.β j := by
    intro j hj
    simp only [backCx]
    by_cases hjL : j < L.length
    · have h1 := bk_lt (fresh := fresh) hjL
      have h2 := hb _ (List.mem_of_getElem? h1)
      rw [if_neg (by omega), hβ j hjL]
      show c.β (bk L fresh j) = c.β (bk L 0 j)
      unfold bk
      rw [List.getElem?_eq_getElem hjL]
    · have h1 := bk_ge (fresh := fresh) (Nat.le_of_not_lt hjL)
      rw [if_pos (by omega), h1]
      congr 1
      omega
  have names : ∀ i, Names (writesOf L fresh 0 h') i ↔ ∃ j, j < h'.length ∧ i = bk L fresh j := by
    intro i
    rw [writesOf_names]
    simp
  have hβo : ∀ i, c.born i → (backCx c c' L fresh h'.length).β i = c.β i := by
    intro i hi
    simp only [backCx]
    rw [if_neg]
    rintro ⟨h1, h2⟩
    refine hf i h1 ((names i).2 ⟨L.length + (i - fresh), by omega, ?_⟩) hi
    rw [bk_ge (by omega)]
    omega
  have hold : ∀ i, c.born i → ∀ j, j < h'.length → i = bk L fresh j → j < L.length := by
    intro i hi j hj e
    apply Classical.byContradiction
    intro hjL
    have h1 := bk_ge (L := L) (fresh := fresh) (Nat.le_of_not_lt hjL)
    exact hf i (by omega) ((names i).2 ⟨j, hj, e⟩) hi
  have ext : Ext c (backCx c c' L fresh h'.length) :=
    ⟨fun i hi => .inl hi, hβo, hfr.mono, fun b hb' => hfr.keep b (hh.bound b hb') fun i hi e => by
      obtain ⟨k, _, h2, h3⟩ := hlive i hi
      exact hh.apart k b h2 (h3 ▸ e) hb', rfl⟩
  have ren : RenOK (back L fresh) c' (backCx c c' L fresh h'.length) := by
    refine ⟨fun i j hij hi => ?_, fun _ h => h, fun _ _ => rfl, hfr.base.symm⟩
    injection hij with hij
    subst hij
    have hlt := (hr'.born i).1 hi
    exact ⟨.inr ⟨i, hlt, rfl⟩, hβb i hlt⟩
  have obj : ∀ i o, updH h (writesOf L fresh 0 h') i = some o → (∃ j o', j < h'.length ∧ i = bk L fresh j ∧ h'[j]? = some o' ∧ o = renAO (back L fresh) o') ∨ (¬ Names (writesOf L fresh 0 h') i ∧ h i = some o) := by
    intro i o ho
    by_cases hN : Names (writesOf L fresh 0 h') i
    · obtain ⟨j, hj, e⟩ := (names i).1 hN
      obtain ⟨o', ho'⟩ : ∃ o', h'[j]? = some o' := ⟨h'[j], by simp [hj]⟩
      have := updH_writes hn hb (h := h) (k := 0) ho'
      rw [Nat.zero_add, ← e, ho] at this
      injection this with this
      exact .inl ⟨j, o', hj, e, ho', this⟩
    · rw [updH_other hN] at ho
      exact .inr ⟨hN, ho⟩
  have live : ∀ i, Live (updH h (writesOf L fresh 0 h')) i → (∃ j, j < h'.length ∧ i = bk L fresh j ∧ Live (hpOf h') j) ∨ (¬ Names (writesOf L fresh 0 h') i ∧ Live h i) := by
    rintro i ⟨o, h1, h2⟩
    rcases obj i o h1 with ⟨j, o', hj, e, ho', rfl⟩ | ⟨hN, ho⟩
    · rw [liveO_ren] at h2
      exact .inl ⟨j, hj, e, o', ho', h2⟩
    · exact .inr ⟨hN, o, ho, h2⟩
  have notcallee : ∀ i b, ¬ Names (writesOf L fresh 0 h') i → Live h i → (c.β i).block = some b → ∀ k, Live (hpOf (renAOs (place L) (L.map rd))) k → ((calleeCx c L).β k).block ≠ some b := by
    intro i b hN hl hib k hk e
    obtain ⟨m, h1, h2, h3⟩ := hlive k hk
    rw [h3] at e
    have := hh.inj i m b hl h2 hib e
    subst this
    have hkL := (List.getElem?_eq_some_iff.1 h1).1
    refine hN ((names i).2 ⟨k, by omega, ?_⟩)
    have := bk_lt (fresh := fresh) hkL
    rw [h1] at this
    injection this
  refine ⟨ren, ⟨fun i o ho => ?_, fun i k b hi hk hib hkb => ?_, fun i b hi hib => ?_, hr'.hr.bound, fun i b hi hib => ?_, fun i b hi hib => ?_, Nat.le_trans hh.base hfr.size⟩, ext, ⟨hfr.os, hfr.tape, hfr.output, hfr.size, fun b hb' hnl => ?_, hfr.mono, fun b hb' => ?_, fun i b hi hib => ?_, rfl⟩⟩
  · rcases obj i o ho with ⟨j, o', hj, e, ho', rfl⟩ | ⟨hN, ho⟩
    · refine ⟨.inr ⟨j, hj, e⟩, ?_⟩
      rw [e, hβb j hj]
      exact OR_ren ren (fun _ _ _ => rfl) (hr'.hr.obj j o' ho').2
    · obtain ⟨h1, h2⟩ := hh.obj i o ho
      refine ⟨.inl h1, ?_⟩
      rw [hβo i h1]
      cases hlv : liveO o with
      | false => exact h2.mono_dead ext hlv
      | true => exact h2.mono ext fun b hb' => hfr.keep b (hh.size i b ⟨o, ho, hlv⟩ hb') (notcallee i b hN ⟨o, ho, hlv⟩ hb')
  · rcases live i hi with ⟨j, hj, e, hlj⟩ | ⟨hN, hl⟩ <;> rcases live k hk with ⟨m, hm, e', hlm⟩ | ⟨hN', hl'⟩
    · rw [e, hβb j hj] at hib
      rw [e', hβb m hm] at hkb
      rw [e, e', hr'.hr.inj j m b hlj hlm hib hkb]
    · obtain ⟨o, ho, _⟩ := id hl'
      rw [hβo k (hh.obj k o ho).1] at hkb
      rw [e, hβb j hj] at hib
      exfalso
      rcases hfr.live j b hlj hib with h1 | ⟨n, h1, h2⟩
      · have h9 : (calleeCx c L).w.heap.size = c.w.heap.size := rfl
        have := hh.size k b hl' hkb
        omega
      · exact notcallee k b hN' hl' hkb n h1 h2
    · obtain ⟨o, ho, _⟩ := id hl
      rw [hβo i (hh.obj i o ho).1] at hib
      rw [e', hβb m hm] at hkb
      exfalso
      rcases hfr.live m b hlm hkb with h1 | ⟨n, h1, h2⟩
      · have h9 : (calleeCx c L).w.heap.size = c.w.heap.size := rfl
        have := hh.size i b hl hib
        omega
      · exact notcallee i b hN hl hib n h1 h2
    · obtain ⟨o, ho, _⟩ := id hl
      obtain ⟨o', ho', _⟩ := id hl'
      rw [hβo i (hh.obj i o ho).1] at hib
      rw [hβo k (hh.obj k o' ho').1] at hkb
      exact hh.inj i k b hl hl' hib hkb
  · rcases live i hi with ⟨j, hj, e, hlj⟩ | ⟨hN, hl⟩
    · rw [e, hβb j hj] at hib
      exact hr'.hr.apart j b hlj hib
    · obtain ⟨o, ho, _⟩ := id hl
      rw [hβo i (hh.obj i o ho).1] at hib
      intro hI
      rcases hfr.new b hI with h1 | h1 | ⟨k, h1, h2⟩
      · exact hh.apart i b hl hib h1
      · have h9 : (calleeCx c L).w.heap.size = c.w.heap.size := rfl
        have := hh.size i b hl hib
        omega
      · exact notcallee i b hN hl hib k h1 h2
  · rcases live i hi with ⟨j, hj, e, hlj⟩ | ⟨hN, hl⟩
    · rw [e, hβb j hj] at hib
      exact hr'.hr.size j b hlj hib
    · obtain ⟨o, ho, _⟩ := id hl
      rw [hβo i (hh.obj i o ho).1] at hib
      exact Nat.lt_of_lt_of_le (hh.size i b hl hib) hfr.size
  · rcases live i hi with ⟨j, hj, e, hlj⟩ | ⟨hN, hl⟩
    · rw [e, hβb j hj] at hib
      have := hr'.hr.low j b hlj hib
      rw [hfr.base] at this
      exact this
    · obtain ⟨o, ho, _⟩ := id hl
      rw [hβo i (hh.obj i o ho).1] at hib
      exact hh.low i b hl hib
  · refine hfr.keep b hb' fun k hk e => ?_
    obtain ⟨m, _, h2, h3⟩ := hlive k hk
    exact hnl m h2 (h3 ▸ e)
  · rcases hfr.new b hb' with h1 | h1 | ⟨k, h1, h2⟩
    · exact .inl h1
    · exact .inr (.inl h1)
    · obtain ⟨m, _, h4, h5⟩ := hlive k h1
      exact .inr (.inr ⟨m, h4, h5 ▸ h2⟩)
  · rcases live i hi with ⟨j, hj, e, hlj⟩ | ⟨hN, hl⟩
    · rw [e, hβb j hj] at hib
      rcases hfr.live j b hlj hib with h1 | ⟨n, h1, h2⟩
      · exact .inl h1
      · obtain ⟨m, _, h4, h5⟩ := hlive n h1
        exact .inr ⟨m, h4, h5 ▸ h2⟩
    · obtain ⟨o, ho, _⟩ := id hl
      rw [hβo i (hh.obj i o ho).1] at hib
      exact .inr ⟨i, hl, hib⟩
theorem Vs_weakA {c : Cx} : ∀ {xs : List AV} {us : List Value}, Vs c xs us → Vs c (xs.map weakA) us
  | [], _, h => h
  | x :: xs, us, h => by
    simp only [Vs, List.map_cons] at h ⊢
    obtain ⟨y, r, rfl, h1, h2⟩ := h
    exact ⟨y, r, rfl, V_weak h1, Vs_weakA h2⟩
theorem Vs_all {c : Cx} {a : Act} : ∀ (l : List Operand), (∀ x ∈ l, V c (ρ x) (a.eval x)) → Vs c (l.map ρ) (l.map a.eval)
  | [], _ => by simp [Vs]
  | x :: l, h => by
    simp only [List.map_cons, Vs]
    exact ⟨_, _, rfl, h x (by simp), Vs_all l fun y hy => h y (by simp [hy])⟩
theorem Vs_wkArgs {c : Cx} (b : Bool) {xs : List AV} {us : List Value} (h : Vs c xs us) : Vs c (wkArgs b xs) us := by
  cases b
  · exact h
  · exact Vs_weakA h
theorem sem_call (env : Env) (hC : ∀ f, CallOK P f (env.C f)) (g : Operand) (as : Array Operand) (ats : Array TypeId) (f : FuncId) (first captured : List AV) (hg : ρ g = .func (.func f) first captured) {K : KA}
    (h : callA env rd fresh f (first ++ as.toList.map ρ ++ captured) K) :
    ∃ v wr, K v wr ∧ OpSem P ⟨dst, .call { callee := .value g, args := as, argTypes := ats }, ty, pos, after, guard⟩ ρ rd fresh v wr := by
  unfold callA at h
  simp only at h
  split at h
  · rename_i hchk
    simp only [Bool.and_eq_true] at hchk
    have hn := nodup_iff.1 hchk.1
    have hb := allBelow_iff.1 hchk.2
    generalize reach rd 1000 (idsAVs (first ++ as.toList.map ρ ++ captured)) [] = L at h hn hb
    obtain ⟨r, h', hk, hrun⟩ := hC f _ _ _ h
    split at hk
    · rename_i hle
      have hle' := Nat.le_of_ble_eq_true hle
      refine ⟨_, _, hk, fun c hp a next Q hv hrd hf hh hnext => ?_⟩
      have e1 := hv g (by simp [Op.operands, Call.operands])
      rw [hg] at e1
      simp only [V] at e1
      obtain ⟨F, G, e2, e3, e4⟩ := e1
      have hargs : Vs c (first ++ as.toList.map ρ ++ captured) (F ++ as.map a.eval ++ G).toList := by
        simp only [Array.toList_append, Array.toList_map]
        exact (e3.append (Vs_all as.toList fun x hx => hv x (by simp only [Op.operands, Call.operands, Array.mem_append]; exact .inr (by simpa using hx)))).append e4
      have ren : RenOK (place L) c (calleeCx c L) := by
        refine ⟨fun i j hf _ => ?_, fun _ h => h, fun _ _ => rfl, rfl⟩
        have h1 := place_some hf
        refine ⟨(List.getElem?_eq_some_iff.1 h1).1, ?_⟩
        show c.β (bk L 0 j) = c.β i
        unfold bk
        rw [h1]
      have hcal := hrun (calleeCx c L) (F ++ as.map a.eval ++ G) ⟨dst, .call { callee := .value g, args := as, argTypes := ats }, ty, pos, after, guard⟩ a next Q
        (Vs_ren ren _ _ (Vs_wkArgs _ hargs)) (callee_hr hh (tells_wk (env.weakB f) (tells_of hh hrd)) hn) (fun u c' hu hr' hfr hlen hβ => by
          obtain ⟨k1, k2, k3, k4⟩ := back_core hh (tells_wk (env.weakB f) (tells_of hh hrd)) hn hb hf hr' hfr hle' (fun i hi => hβ i (by rw [renAOs_length, List.length_map]; exact hi))
          refine hnext u (backCx c c' L fresh h'.length) (V_ren k1 _ _ hu) k2 k3 k4 fun i hi => ?_
          rcases hi with hi | ⟨j, hj, e⟩
          · exact .inl hi
          · exact .inr (writesOf_names.2 ⟨j, hj, by simpa using e⟩))
      have hexec : (execOp a.eval ⟨dst, .call { callee := .value g, args := as, argTypes := ats }, ty, pos, after, guard⟩).run P c.w = (callFunc f (F ++ as.map a.eval ++ G)).run P c.w := by
        simp [execOp, resolve, e2, Deferred.ofValue, invoke]
      show Oper.upon P _ a next Q ((execOp a.eval _).run P c.w)
      rw [hexec]
      exact hcal
    · exact hk.elim
  · exact h.elim
end
end Go.RX
namespace Go.RX
structure StepOK (env : Env) (plain : PlainT) : Prop where
  vw : VwOK env.P env.vw
  C : ∀ f, CallOK env.P f (env.C f)
  plain : PlainOK env.P plain
theorem boolOf_sound {v : AV} {K : Bool → Prop} (h : boolOf v K) : ∃ b, v = .p (.bool b) ∧ K b := by
  unfold boolOf at h
  split at h
  · exact ⟨true, rfl, h⟩
  · exact ⟨false, rfl, h⟩
  · exact h.elim
theorem callS_sound {env : Env} {plain : PlainT} (hE : StepOK env plain) (cl : Call) (ρ : Operand → AV) (rd : Nat → AO) (fresh : Nat) {dst : Option Tmp} {ty : TypeId} {pos : String} {after : Array Edge} {guard : Option (Nat × Bool)} {K : KA}
    (h : callS env rd fresh ρ cl K) : ∃ v wr, K v wr ∧ OpSem env.P ⟨dst, .call cl, ty, pos, after, guard⟩ ρ rd fresh v wr := by
  obtain ⟨callee, args, ats⟩ := cl
  unfold callS at h
  simp only at h
  split at h
  · split at h
    · rename_i x t hx hat
      have : args = #[x] := by
        apply Array.toList_inj.1
        exact hx
      subst this
      obtain ⟨v, h1, h2⟩ := sem_len _ _ t hat h
      exact ⟨v, [], h1, h2⟩
    · exact h.elim
  · split at h
    · rename_i s x t t' hx hat
      split at h
      · rename_i hb
        have := Nat.eq_of_beq_eq_true hb
        subst this
        have e1 : args = #[s, x] := Array.toList_inj.1 hx
        have e2 : ats = #[t, t] := Array.toList_inj.1 hat
        subst e1 e2
        exact sem_append _ _ _ h
      · exact h.elim
    · exact h.elim
  · split at h
    · rename_i f first captured hg
      exact sem_call env hE.C _ _ _ f first captured hg h
    · exact h.elim
  · exact h.elim
theorem step_sound {env : Env} {plain : PlainT} (hE : StepOK env plain) (o : Oper) (ρ : Operand → AV) (rd : Nat → AO) (fresh : Nat) {K : KA} (h : step env plain o ρ rd fresh K) :
    ∃ v wr, K v wr ∧ OpSem env.P o ρ rd fresh v wr := by
  obtain ⟨dst, op, ty, pos, after, guard⟩ := o
  unfold step at h
  simp only at h
  split at h
  · exact ⟨_, _, h, sem_move _⟩
  · exact ⟨_, _, h, sem_assign _⟩
  · rename_i c a b
    obtain ⟨t, h1, h2⟩ := boolOf_sound h
    cases t
    · exact ⟨_, _, h2, sem_pick c a b false h1⟩
    · exact ⟨_, _, h2, sem_pick c a b true h1⟩
  · split at h
    · rename_i zs hz
      exact ⟨_, _, h, sem_alloc _ zs hz⟩
    · exact h.elim
  · split at h
    · rename_i cs hc
      exact ⟨_, _, h, sem_box _ _ cs hc⟩
    · exact h.elim
  · split at h
    · rename_i zs at_ hz hat
      split at h
      · rename_i cs hf
        exact ⟨_, _, h, sem_build _ _ zs at_ hz hat cs hf⟩
      · exact h.elim
    · exact h.elim
  · split at h
    · rename_i e ht
      split at h
      · rename_i sz z hn hz
        split at h
        · rename_i xs hchk hf
          simp only [Bool.and_eq_true] at hchk
          exact ⟨_, _, h, sem_buildSlice _ e _ sz _ z ht hn hz (Nat.le_of_ble_eq_true hchk.1.1) (by have := hchk.1.2; simp [Nat.blt] at this; omega) (Nat.eq_of_beq_eq_true hchk.2) xs hf⟩
        · exact h.elim
      · exact h.elim
    · exact h.elim
  · obtain ⟨v, h1, h2⟩ := sem_load env rfl hE.vw _ _ h
    exact ⟨v, [], h1, h2⟩
  · obtain ⟨i, ao, h1, h2⟩ := sem_store env rfl hE.vw _ _ _ h
    exact ⟨_, _, h1, h2⟩
  · split at h
    · rename_i hx
      exact ⟨_, _, h, sem_nilCheck _ _ hx (.inl ⟨_, _, rfl⟩)⟩
    · rename_i hx
      exact ⟨_, _, h, sem_nilCheck _ _ hx (.inr (.inl ⟨_, _, _, rfl⟩))⟩
    · rename_i hx
      exact ⟨_, _, h, sem_nilCheck _ _ hx (.inr (.inr (.inl ⟨_, rfl⟩)))⟩
    · rename_i hx
      exact ⟨_, _, h, sem_nilCheck _ _ hx (.inr (.inr (.inr ⟨_, _, _, rfl⟩)))⟩
    · exact h.elim
  · obtain ⟨v, h1, h2⟩ := sem_bin hE.plain _ _ _ _ _ h
    exact ⟨v, [], h1, h2⟩
  · obtain ⟨v, h1, h2⟩ := sem_un _ _ _ h
    exact ⟨v, [], h1, h2⟩
  · obtain ⟨v, h1, h2⟩ := sem_conv _ _ _ h
    exact ⟨v, [], h1, h2⟩
  · exact ⟨_, _, h, sem_makeFunc _ _ _⟩
  · split at h
    · split at h
      · exact ⟨_, _, h, sem_makeMap _ _⟩
      · exact h.elim
    · exact h.elim
  · obtain ⟨v, h1, h2⟩ := sem_fieldAddr env rfl _ _ _ h
    exact ⟨v, [], h1, h2⟩
  · split at h
    · rename_i cs fs hx hf
      split at h
      · rename_i off ft b hff
        split at h
        · rename_i agg n hs
          split at h
          · rename_i hle
            exact ⟨_, _, h, sem_field _ _ _ cs fs hx hf off ft b hff agg n hs (Nat.le_of_ble_eq_true hle)⟩
          · exact h.elim
        · exact h.elim
      · exact h.elim
    · exact h.elim
  · split at h
    · rename_i k n hy
      obtain ⟨v, h1, h2⟩ := sem_indexAddr env rfl hE.vw _ _ _ k n hy h
      exact ⟨v, [], h1, h2⟩
    · exact h.elim
  · split at h
    · rename_i k n s hy hx ht
      exact ⟨_, _, h.2.2, sem_index _ _ _ k n s hy hx ht h.1 h.2.1⟩
    · exact h.elim
  · obtain ⟨v, h1, h2⟩ := sem_lookup env rfl hE.vw _ _ _ _ h
    exact ⟨v, [], h1, h2⟩
  · obtain ⟨i, ao, h1, h2⟩ := sem_mapSet env rfl _ _ _ _ h
    exact ⟨_, _, h1, h2⟩
  · split at h
    · rename_i s hx ht
      exact ⟨_, _, h, sem_range _ _ s hx ht⟩
    · exact h.elim
  · exact sem_next _ h
  · split at h
    · rename_i vs hx
      split at h
      · rename_i v hv
        exact ⟨_, _, h, sem_extract _ _ vs v hx hv⟩
      · exact h.elim
    · exact h.elim
  · obtain ⟨v, h1, h2⟩ := sem_slice _ _ _ _ _ h
    exact ⟨v, [], h1, h2⟩
  · exact callS_sound hE _ _ rd fresh h
  · exact h.elim
end Go.RX
namespace Go.RX
structure SR (nt : Nat) (D : List Deferred) (s : St) (c : Cx) (a : Act) : Prop where
  sl : ∀ t, V c (getSl s.sl t) (a.tmps.getD t undef)
  hp : HRl c s.hp
  size : a.tmps.size = nt
  defers : a.defers = D
structure Kept (n0 : Nat) (c : Cx) (h : HP) (c' : Cx) (h' : HP) : Prop where
  fr : Fr c h c' h'
  β : ∀ i, i < n0 → c.born i → c'.born i ∧ c'.β i = c.β i
theorem Kept.refl (n0 : Nat) (c : Cx) (h : HP) : Kept n0 c h c h := ⟨Fr.refl c h, fun _ _ h => ⟨h, rfl⟩⟩
theorem Kept.trans {n0 : Nat} {a b c : Cx} {h k l : HP} (x : Kept n0 a h b k) (y : Kept n0 b k c l) : Kept n0 a h c l :=
  ⟨x.fr.trans y.fr, fun i hi hb => ⟨(y.β i hi (x.β i hi hb).1).1, (y.β i hi (x.β i hi hb).1).2.trans (x.β i hi hb).2⟩⟩
theorem Kept.of_ext {n0 : Nat} {c c' : Cx} {h h' : HP} (x : Ext c c') (f : Fr c h c' h') : Kept n0 c h c' h' :=
  ⟨f, fun i _ hb => ⟨x.born i hb, x.β i hb⟩⟩
structure EnvOK (env : Env) (plain : PlainT) : Prop where
  S : ∀ (o : Oper) (ρ : Operand → AV) (rd : Nat → AO) (fresh : Nat) {K : KA}, env.S o ρ rd fresh K → ∃ v wr, K v wr ∧ OpSem env.P o ρ rd fresh v wr
  pre : ∀ (o : Oper) (s : St) (n0 : Nat) (D : List Deferred) (c : Cx) (a : Act), SR env.nt D s c a → ∃ c', c'.w = c.w ∧ SR env.nt D (env.pre o s) c' a ∧ Kept n0 c (hpOf s.hp) c' (hpOf (env.pre o s).hp)
theorem getSl_cons (t u : Nat) (v : AV) (sl : List (Nat × AV)) : getSl ((t, v) :: sl) u = if t = u then v else getSl sl u := by
  simp only [getSl]
  by_cases h : t = u
  · subst h; simp
  · have : Nat.beq t u = false := by
      cases hb : Nat.beq t u with
      | false => rfl
      | true => exact absurd (Nat.eq_of_beq_eq_true hb) h
    rw [this]; simp [h]
theorem getD_put {a : Act} {t : Nat} {u : Value} (ht : t < a.tmps.size) (x : Nat) : (a.put (some t) u).tmps.getD x undef = if t = x then u else a.tmps.getD x undef := by
  by_cases h : t = x
  · subst h; simp [Act.put, ht]
  · simp [Act.put, h, Array.getElem?_setIfInBounds_ne h]
theorem put_size (a : Act) (d : Option Tmp) (u : Value) : (a.put d u).tmps.size = a.tmps.size := by cases d <;> simp [Act.put]
theorem put_defers (a : Act) (d : Option Tmp) (u : Value) : (a.put d u).defers = a.defers := by cases d <;> rfl
theorem dstOk_lt {nt : Nat} {d : Option Tmp} (h : dstOk nt d = true) : ∀ t, d = some t → t < nt := by
  intro t ht
  subst ht
  unfold dstOk Nat.blt at h
  exact Nat.le_of_ble_eq_true h
theorem V_put {nt : Nat} {s : St} {c : Cx} {a : Act} {d : Option Tmp} {v : AV} {u : Value} (hd : dstOk nt d = true) (hs : a.tmps.size = nt)
    (hsl : ∀ t, V c (getSl s.sl t) (a.tmps.getD t undef)) (hv : V c v u) : ∀ t, V c (getSl (s.put d v).sl t) ((a.put d u).tmps.getD t undef) := by
  intro t
  cases d with
  | none => exact hsl t
  | some x =>
    have hx := dstOk_lt hd x rfl
    rw [getD_put (by rw [hs]; exact hx)]
    show V c (getSl ((x, v) :: s.sl) t) _
    rw [getSl_cons]
    by_cases e : x = t
    · rw [if_pos e, if_pos e]; exact hv
    · rw [if_neg e, if_neg e]; exact hsl t
theorem evalA_V {c : Cx} {a : Act} {sl : List (Nat × AV)} (hsl : ∀ t, V c (getSl sl t) (a.tmps.getD t undef)) (x : Operand) : V c (evalA sl x) (a.eval x) := by
  cases x with
  | tmp t => exact hsl t
  | const v => exact const_V c v
  | global g => simp [evalA, V]
  | func f => simp only [evalA, Act.eval, V]; exact ⟨#[], #[], rfl, rfl, rfl⟩
theorem getO_eq (h : List AO) (i : Nat) : getO h i = (h[i]?).getD .dead := by
  induction h generalizing i with
  | nil => simp [getO]
  | cons o r ih => cases i with
    | zero => simp [getO]
    | succ i => simp [getO, ih]
theorem getO_hp {h : List AO} {i : Nat} (hn : getO h i ≠ .dead) : hpOf h i = some (getO h i) := by
  rw [getO_eq] at hn ⊢
  simp only [hpOf]
  cases he : h[i]? with
  | none => rw [he] at hn; simp at hn
  | some o => simp
theorem setO_get : ∀ (h : List AO) (i : Nat) (o : AO) (j : Nat), i < h.length → (setO h i o)[j]? = if j = i then some o else h[j]?
  | [], i, o, j, hi => by simp at hi
  | x :: r, 0, o, j, _ => by cases j <;> simp [setO]
  | x :: r, i + 1, o, j, hi => by
    cases j with
    | zero => simp [setO]
    | succ j => simp [setO, setO_get r i o j (by simpa using hi)]
theorem setO_length : ∀ (h : List AO) (i : Nat) (o : AO), (setO h i o).length = h.length
  | [], _, _ => rfl
  | _ :: _, 0, _ => rfl
  | _ :: r, i + 1, o => by simp [setO, setO_length r i o]
theorem blt_false {i n : Nat} (h : Nat.blt i n = false) : n ≤ i := by
  apply Classical.byContradiction
  intro hn
  have : Nat.blt i n = true := by unfold Nat.blt; rw [Nat.ble_eq]; omega
  rw [this] at h; cases h
theorem blt_true {i n : Nat} (h : Nat.blt i n = true) : i < n := by
  unfold Nat.blt at h
  have := Nat.le_of_ble_eq_true h
  omega
theorem writeO_spec : ∀ (wr : List (Nat × AO)) (h : List AO), okWr h.length wr = true →
    hpOf (writeO h wr) = updH (hpOf h) wr ∧ h.length ≤ (writeO h wr).length ∧ (∀ i, Names wr i → i < (writeO h wr).length) ∧ (∀ i, i < (writeO h wr).length → i < h.length ∨ Names wr i)
  | [], h, _ => ⟨rfl, Nat.le_refl _, fun i ⟨_, hi⟩ => by simp at hi, fun i hi => .inl hi⟩
  | (i, o) :: r, h, hk => by
    simp only [okWr] at hk
    simp only [writeO, updH]
    cases hb : Nat.blt i h.length with
    | true =>
      rw [hb] at hk
      simp only at hk ⊢
      have hi := blt_true hb
      obtain ⟨h1, h2, h3, h4⟩ := writeO_spec r (setO h i o) (by rw [setO_length]; exact hk)
      rw [setO_length] at h2 h4
      refine ⟨?_, h2, fun j hj => ?_, fun j hj => ?_⟩
      · rw [h1]
        congr 1
        funext j
        simp only [hpOf, setO_get h i o j hi]
      · obtain ⟨o', hj⟩ := hj
        rcases List.mem_cons.1 hj with e | e
        · injection e with e1 e2; omega
        · exact h3 j ⟨o', e⟩
      · rcases h4 j hj with h5 | ⟨o', h5⟩
        · exact .inl h5
        · exact .inr ⟨o', List.mem_cons_of_mem _ h5⟩
    | false =>
      rw [hb] at hk
      simp only at hk ⊢
      cases hq : Nat.beq i h.length with
      | false => rw [hq] at hk; simp at hk
      | true =>
        rw [hq] at hk
        simp only at hk
        have hi := Nat.eq_of_beq_eq_true hq
        subst hi
        have hlen : (h ++ [o]).length = h.length + 1 := by simp
        obtain ⟨h1, h2, h3, h4⟩ := writeO_spec r (h ++ [o]) (by rw [hlen]; exact hk)
        rw [hlen] at h2 h4
        refine ⟨?_, by omega, fun j hj => ?_, fun j hj => ?_⟩
        · rw [h1]
          congr 1
          funext j
          simp only [hpOf]
          by_cases e : j = h.length
          · subst e; simp
          · rw [if_neg e]
            by_cases hlt : j < h.length
            · rw [List.getElem?_append_left hlt]
            · rw [List.getElem?_eq_none (by simp; omega), List.getElem?_eq_none (by omega)]
        · obtain ⟨o', hj⟩ := hj
          rcases List.mem_cons.1 hj with e | e
          · injection e with e1 e2; omega
          · exact h3 j ⟨o', e⟩
        · rcases h4 j hj with h5 | ⟨o', h5⟩
          · by_cases e : j = h.length
            · exact .inr ⟨o, by rw [e]; exact List.mem_cons_self⟩
            · exact .inl (by omega)
          · exact .inr ⟨o', List.mem_cons_of_mem _ h5⟩
theorem SR.hr {nt : Nat} {D : List Deferred} {s : St} {c : Cx} {a : Act} (h : SR nt D s c a) : HR c (hpOf s.hp) := h.hp.hr
theorem HRl.of {c c' : Cx} {h : List AO} (hl : HRl c h) {wr : List (Nat × AO)} (hok : okWr h.length wr = true) (hr : HR c' (updH (hpOf h) wr)) (he : Ext c c') (hb : ∀ i, c'.born i → c.born i ∨ Names wr i) : HRl c' (writeO h wr) := by
  obtain ⟨h1, h2, h3, h4⟩ := writeO_spec wr h hok
  refine ⟨by rw [h1]; exact hr, fun i => ⟨fun hi => ?_, fun hi => ?_⟩⟩
  · rcases hb i hi with h5 | h5
    · exact Nat.lt_of_lt_of_le ((hl.born i).1 h5) h2
    · exact h3 i h5
  · have : hpOf (writeO h wr) i = some ((writeO h wr)[i]) := by simp [hpOf, hi]
    rw [h1] at this
    exact (hr.obj i _ this).1
theorem guardA_sound {nt : Nat} {ops : Array Oper} {o : Oper} {s : St} {K : Bool → St → Prop} (h : guardA ops o s K) :
    ∃ w s1, K w s1 ∧ (∀ t, getSl s1.sl t = getSl s.sl t) ∧ s1.hp = s.hp ∧
      (∀ (c : Cx) (a : Act), (∀ t, t ∈ o.looksAt ops → V c (getSl s.sl t) (a.tmps.getD t undef)) → Region.wanted o (yielded ops a.tmps) = w) := by
  unfold guardA at h
  split at h
  · rename_i hg
    exact ⟨true, s, h, fun _ => rfl, rfl, fun c a _ => by simp [Region.wanted, hg]⟩
  · rename_i j want hg
    split at h
    · rename_i t ht
      have hlook : t ∈ o.looksAt ops := by
        unfold Oper.looksAt
        rw [hg]
        simp only [List.mem_append]
        right
        have : (ops[j]?).bind (·.dst) = some t := ht
        simp only [this]
        simp
      have hy : ∀ (c : Cx) (a : Act) (b : Bool), getSl s.sl t = .p (.bool b) → (∀ t, t ∈ o.looksAt ops → V c (getSl s.sl t) (a.tmps.getD t undef)) → yielded ops a.tmps j = some b := by
        intro c a b hb hv
        have h1 := hv t hlook
        rw [hb] at h1
        have h2 := V_bool h1
        have h3 : a.tmps[t]? = some (.bool b) := by
          simp only [Array.getD_eq_getD_getElem?] at h2
          cases he : a.tmps[t]? with
          | none => rw [he] at h2; simp [undef] at h2
          | some x => rw [he] at h2; simp at h2; rw [h2]
        have ht' : (ops[j]?).bind (·.dst) = some t := ht
        unfold yielded
        rw [ht']
        simp [h3]
      have hsame : ∀ (v : AV), getSl s.sl t = v → ∀ u, getSl ((t, v) :: s.sl) u = getSl s.sl u := by
        intro v hv u
        rw [getSl_cons]
        by_cases e : t = u
        · rw [if_pos e, ← hv, e]
        · rw [if_neg e]
      split at h
      · rename_i hb
        exact ⟨want, _, h, hsame _ hb, rfl, fun c a hv => by
          have := hy c a true hb hv
          simp only [Region.wanted, hg, this]
          cases want <;> rfl⟩
      · rename_i hb
        exact ⟨!want, _, h, hsame _ hb, rfl, fun c a hv => by
          have := hy c a false hb hv
          simp only [Region.wanted, hg, this]
          cases want <;> rfl⟩
      · rename_i hb
        refine ⟨false, s, h, fun _ => rfl, rfl, fun c a hv => ?_⟩
        have h1 := hv t hlook
        rw [hb] at h1
        obtain ⟨C, h2, h3⟩ := h1
        have h4 : C = #[] := Array.toList_inj.1 h3
        subst h4
        have ht' : (ops[j]?).bind (·.dst) = some t := ht
        have hnone : yielded ops a.tmps j = none := by
          unfold yielded
          rw [ht']
          simp only [Option.bind_some]
          simp only [Array.getD_eq_getD_getElem?] at h2
          cases he : a.tmps[t]? with
          | none => rfl
          | some x => rw [he] at h2; simp at h2; subst h2; rfl
        simp only [Region.wanted, hg, hnone]
        rfl
      · exact h.elim
    · exact h.elim
theorem wpOps_range {P : Program} {ops : Array Oper} {Q : Exit → Act → World → Prop} : ∀ (os pre : List Oper), ops.toList = pre ++ os → ∀ a w,
    wpOps P ops Q ((List.range ops.size).drop pre.length) a w ↔ wpOps P ops Q (List.range' pre.length os.length) a w := by
  intro os pre h a w
  have : ops.size = pre.length + os.length := by rw [← Array.length_toList, h]; simp
  rw [this, List.range_eq_range', List.drop_range']
  simp
theorem runOps_sound {env : Env} {plain : PlainT} (hE : EnvOK env plain) (ops : Array Oper) (n0 : Nat) : ∀ (os : List Oper) (pre : List Oper), ops.toList = pre ++ os → ∀ (s : St) (K : St → Prop), runOps env plain ops os s K →
    ∃ s', K s' ∧ ∀ (D : List Deferred) (c : Cx) (a : Act) (Q : Exit → Act → World → Prop), SR env.nt D s c a →
      (∀ c' a', SR env.nt D s' c' a' → Kept n0 c (hpOf s.hp) c' (hpOf s'.hp) → Q .normal a' c'.w) →
      wpOps env.P ops Q (List.range' pre.length os.length) a c.w
  | [], pre, _, s, K, h => ⟨s, h, fun D c a Q hs hq => by simpa [wpOps] using hq c a hs (Kept.refl n0 c _)⟩
  | o :: os, pre, hops, s, K, h => by
    simp only [runOps] at h
    split at h
    · exact h.elim
    · rename_i hd
      obtain ⟨wn, s1, h1, hsl, hhp, hw⟩ := guardA_sound (nt := env.nt) h
      have ho : ops[pre.length]? = some o := by
        rw [← Array.getElem?_toList, hops]
        simp
      have hops' : ops.toList = (pre ++ [o]) ++ os := by simpa using hops
      have hlen : (pre ++ [o]).length = pre.length + 1 := by simp
      have hsr1 : ∀ D c a, SR env.nt D s c a → SR env.nt D s1 c a := fun D c a hs => ⟨fun t => by rw [hsl t]; exact hs.sl t, by rw [hhp]; exact hs.hp, hs.size, hs.defers⟩
      cases wn with
      | true =>
        simp only at h1
        obtain ⟨v, wr, h2, h3⟩ := hE.S o _ _ _ h1
        split at h2
        · rename_i hok
          obtain ⟨s', h4, h5⟩ := runOps_sound hE ops n0 os (pre ++ [o]) hops' _ K h2
          refine ⟨s', h4, fun D c a Q hs hq => ?_⟩
          have hs1 := hsr1 D c a hs
          rw [List.length_cons, List.range'_succ]
          simp only [wpOps, ho]
          rw [hw c a fun t _ => hs.sl t]
          simp only [if_true]
          obtain ⟨c1, hw1, hs1, hk1⟩ := hE.pre o s1 n0 D c a hs1
          have hk1 : Kept n0 c (hpOf s.hp) c1 (hpOf (env.pre o s1).hp) := by rw [← hhp]; exact hk1
          rw [← hw1]
          refine .inl (h3 c1 (hpOf (env.pre o s1).hp) a _ Q (fun x _ => evalA_V hs1.sl x) (fun i hi => getO_hp hi) (fun i hi _ hb => ?_) hs1.hr fun u c' hu hr he hf hb => ?_)
          · have := (hs1.hp.born i).1 hb
            omega
          · rw [← hlen]
            have hr' : HRl c' (writeO (env.pre o s1).hp wr) := hs1.hp.of hok hr he hb
            refine h5 D c' _ Q ⟨V_put hd hs1.size (fun t => V.mono he _ _ (hs1.sl t)) hu, hr', by rw [put_size]; exact hs.size, by rw [put_defers]; exact hs.defers⟩ fun c2 a2 hs2 hk2 => ?_
            refine hq c2 a2 hs2 ((hk1.trans (Kept.of_ext he ?_)).trans hk2)
            have := (writeO_spec wr (env.pre o s1).hp hok).1
            show Fr c1 (hpOf (env.pre o s1).hp) c' (hpOf (writeO (env.pre o s1).hp wr))
            rw [this]
            exact hf
        · exact h2.elim
      | false =>
        simp only at h1
        obtain ⟨s', h4, h5⟩ := runOps_sound hE ops n0 os (pre ++ [o]) hops' _ K h1
        refine ⟨s', h4, fun D c a Q hs hq => ?_⟩
        have hs1 := hsr1 D c a hs
        rw [List.length_cons, List.range'_succ]
        simp only [wpOps, ho]
        rw [hw c a fun t _ => hs.sl t]
        simp only [Bool.false_eq_true, if_false]
        rw [← hlen]
        have hput : (s1.put o.dst (.tup [])).hp = s1.hp := by cases o.dst <;> rfl
        refine h5 D c _ Q ⟨V_put hd hs1.size hs1.sl (v := .tup []) ⟨#[], rfl, rfl⟩, by rw [hput]; exact hs1.hp, by rw [put_size]; exact hs.size, by rw [put_defers]; exact hs.defers⟩ fun c2 a2 hs2 hk2 => ?_
        rw [hput, hhp] at hk2
        exact hq c2 a2 hs2 hk2
end Go.RX
namespace Go.RX
structure Item where
  d : Did
  v : AV
  wr : List (Nat × AO)
  lo : Nat
  hi : Nat
def updS (σ : Nat → AV) (d : Option Tmp) (v : AV) : Nat → AV := fun t => if d = some t then v else σ t
def sD (D : Nat → Bool) : List Item → (Nat → AV) → (Nat → AV)
  | [], σ => σ
  | it :: r, σ => sD D r (if D it.d.i then updS σ it.d.dst it.v else σ)
def hD (D : Nat → Bool) : List Item → HP → HP
  | [], h => h
  | it :: r, h => hD D r (if D it.d.i then updH h it.wr else h)
def tt : Nat → Bool := fun _ => true
theorem updH_congr : ∀ {wr : List (Nat × AO)} {h h' : HP} {x : Nat}, (Names wr x ∨ h x = h' x) → updH h wr x = updH h' wr x
  | [], h, h', x, hx => by
    rcases hx with ⟨o, ho⟩ | hx
    · simp at ho
    · exact hx
  | (i, o) :: r, h, h', x, hx => by
    simp only [updH]
    refine updH_congr ?_
    by_cases e : x = i
    · exact .inr (by rw [if_pos e, if_pos e])
    · rcases hx with ⟨o', ho⟩ | hx
      · rcases List.mem_cons.1 ho with h1 | h1
        · injection h1 with h1 h2
          exact absurd h1 e
        · exact .inl ⟨o', h1⟩
      · exact .inr (by rw [if_neg e, if_neg e]; exact hx)
theorem sD_congr {D D' : Nat → Bool} {t : Nat} : ∀ {its : List Item} {σ σ' : Nat → AV}, (∀ it ∈ its, D it.d.i ≠ D' it.d.i → it.d.dst ≠ some t) → σ t = σ' t → sD D its σ t = sD D' its σ' t
  | [], _, _, _, h => h
  | it :: r, σ, σ', hd, h => by
    simp only [sD]
    refine sD_congr (fun x hx => hd x (List.mem_cons_of_mem _ hx)) ?_
    have h1 := hd it List.mem_cons_self
    by_cases hn : it.d.dst = some t
    · have : D it.d.i = D' it.d.i := by
        apply Classical.byContradiction
        exact fun e => h1 e hn
      rw [this]
      cases D' it.d.i
      · exact h
      · simp [updS, hn]
    · cases D it.d.i <;> cases D' it.d.i <;> simp [updS, hn, h]
theorem hD_congr {D D' : Nat → Bool} {x : Nat} : ∀ {its : List Item} {h h' : HP}, (∀ it ∈ its, D it.d.i ≠ D' it.d.i → ¬ Names it.wr x) → h x = h' x → hD D its h x = hD D' its h' x
  | [], _, _, _, h => h
  | it :: r, h, h', hd, hx => by
    simp only [hD]
    refine hD_congr (fun y hy => hd y (List.mem_cons_of_mem _ hy)) ?_
    have h1 := hd it List.mem_cons_self
    by_cases hn : Names it.wr x
    · have : D it.d.i = D' it.d.i := by
        apply Classical.byContradiction
        exact fun e => h1 e hn
      rw [this]
      cases D' it.d.i
      · exact hx
      · exact updH_congr (.inl hn)
    · cases D it.d.i <;> cases D' it.d.i <;> simp [updH_other hn, hx]
theorem sD_append {D : Nat → Bool} : ∀ (xs ys : List Item) (σ : Nat → AV), sD D (xs ++ ys) σ = sD D ys (sD D xs σ)
  | [], _, _ => rfl
  | x :: xs, ys, σ => by simp only [List.cons_append, sD]; exact sD_append xs ys _
theorem hD_append {D : Nat → Bool} : ∀ (xs ys : List Item) (h : HP), hD D (xs ++ ys) h = hD D ys (hD D xs h)
  | [], _, _ => rfl
  | x :: xs, ys, h => by simp only [List.cons_append, hD]; exact hD_append xs ys _
def ff : Nat → Bool := fun _ => false
theorem sD_ff : ∀ (its : List Item) (σ : Nat → AV), sD ff its σ = σ
  | [], _ => rfl
  | it :: r, σ => by simp only [sD, ff]; exact sD_ff r σ
theorem hD_ff : ∀ (its : List Item) (h : HP), hD ff its h = h
  | [], _ => rfl
  | it :: r, h => by simp only [hD, ff]; exact hD_ff r h
def evalF (σ : Nat → AV) : Operand → AV
  | .tmp t => σ t
  | .const v => constAV v
  | .global _ => .undef
  | .func f => .func (.func f) [] []
theorem evalA_eq (sl : List (Nat × AV)) : evalA sl = evalF (getSl sl) := by
  funext x
  cases x <;> rfl
def dsAt (its : List Item) (k : Nat) (ds : List Did) : List Did := ((its.take k).map (·.d)).reverse ++ ds
structure Info (env : Env) (ops : Array Oper) (n : Nat) (ds : List Did) (σ : Nat → AV) (h : HP) (len len' : Nat) (its : List Item) (k : Nat) (it : Item) (o : Oper) (w : Bool) : Prop where
  op : ops[n + k]? = some o
  i : it.d.i = n + k
  dst : it.d.dst = o.dst
  looks : it.d.looks = o.looksAt ops
  dok : dstOk env.nt o.dst = true
  edges : edgesOk (n + k) o.after.toList = true
  anc : it.d.anc = ancs (dsAt its k ds) o.after.toList
  clr : clear (dsAt its k ds) it.d = true
  names : it.d.names = namesOf it.wr
  len : len ≤ it.lo
  lohi : it.lo ≤ it.hi
  hi : ∀ i, Names it.wr i → i < it.hi
  len' : it.hi ≤ len'
  want : ∀ (c : Cx) (a : Act), (∀ t, t ∈ o.looksAt ops → V c (sD tt (its.take k) σ t) (a.tmps.getD t undef)) → Region.wanted o (yielded ops a.tmps) = w
  yes : w = true → OpSem env.P o (evalF (sD tt (its.take k) σ)) (only it.d.fp fun i => (hD tt (its.take k) h i).getD .dead) it.lo it.v it.wr
  no : w = false → it.v = .tup [] ∧ it.wr = []
theorem updS_put {s : St} {d : Option Tmp} {v : AV} {σ : Nat → AV} (h : ∀ t, getSl s.sl t = σ t) (t : Nat) : getSl (s.put d v).sl t = updS σ d v t := by
  cases d with
  | none => simp [St.put, updS, h]
  | some x =>
    show getSl ((x, v) :: s.sl) t = _
    rw [getSl_cons]
    simp only [updS, Option.some.injEq]
    rw [h]
theorem runAny_items {env : Env} {plain : PlainT} (hE : EnvOK env plain) (rid : Nat) (ops : Array Oper) : ∀ (os pre : List Oper), ops.toList = pre ++ os → ∀ (ds : List Did) (s : St) (K : St → Prop),
    runAny env plain rid ops os pre.length ds s K → ∃ its s', K s' ∧ its.length = os.length ∧ (∀ t, getSl s'.sl t = sD tt its (getSl s.sl) t) ∧ hpOf s'.hp = hD tt its (hpOf s.hp) ∧ s.hp.length ≤ s'.hp.length ∧
      (∀ k it, its[k]? = some it → ∃ o w, Info env ops pre.length ds (getSl s.sl) (hpOf s.hp) s.hp.length s'.hp.length its k it o w) ∧
      (∀ (j k : Nat) (x y : Item), j < k → its[j]? = some x → its[k]? = some y → x.hi ≤ y.lo)
  | [], pre, _, ds, s, K, h => ⟨[], s, h, rfl, fun _ => rfl, rfl, Nat.le_refl _, fun k it h => (by simp at h), fun j k x y _ h => (by simp at h)⟩
  | o :: os, pre, hops, ds, s, K, h => by
    simp only [runAny] at h
    split at h
    · exact h.elim
    · rename_i hd
      simp only [Bool.and_eq_true] at hd
      obtain ⟨wn, s1, h1, hsl, hhp, hw⟩ := guardA_sound (nt := env.nt) h
      have ho : ops[pre.length]? = some o := by
        rw [← Array.getElem?_toList, hops]
        simp
      have hops' : ops.toList = (pre ++ [o]) ++ os := by simpa using hops
      have hlen : (pre ++ [o]).length = pre.length + 1 := by simp
      have hfun : getSl s1.sl = getSl s.sl := funext hsl
      have close : ∀ (it : Item) (its : List Item) (s2 s' : St) (w : Bool), its.length = os.length → (∀ t, getSl s2.sl t = updS (getSl s.sl) it.d.dst it.v t) → hpOf s2.hp = updH (hpOf s.hp) it.wr →
          (∀ t, getSl s'.sl t = sD tt its (getSl s2.sl) t) → hpOf s'.hp = hD tt its (hpOf s2.hp) → s2.hp.length ≤ s'.hp.length →
          it.lo = s.hp.length → it.hi = s2.hp.length → s.hp.length ≤ s2.hp.length → (∀ i, Names it.wr i → i < s2.hp.length) →
          it.d.i = pre.length → it.d.dst = o.dst → it.d.looks = o.looksAt ops → it.d.anc = ancs ds o.after.toList → clear ds it.d = true → it.d.names = namesOf it.wr →
          (∀ (c : Cx) (a : Act), (∀ t, t ∈ o.looksAt ops → V c (getSl s.sl t) (a.tmps.getD t undef)) → Region.wanted o (yielded ops a.tmps) = w) →
          (w = true → OpSem env.P o (evalF (getSl s.sl)) (only it.d.fp fun i => (hpOf s.hp i).getD .dead) it.lo it.v it.wr) → (w = false → it.v = .tup [] ∧ it.wr = []) →
          (∀ k x, its[k]? = some x → ∃ o' w', Info env ops (pre ++ [o]).length (it.d :: ds) (getSl s2.sl) (hpOf s2.hp) s2.hp.length s'.hp.length its k x o' w') →
          (∀ (j k : Nat) (x y : Item), j < k → its[j]? = some x → its[k]? = some y → x.hi ≤ y.lo) →
          (∀ t, getSl s'.sl t = sD tt (it :: its) (getSl s.sl) t) ∧ hpOf s'.hp = hD tt (it :: its) (hpOf s.hp) ∧ s.hp.length ≤ s'.hp.length ∧
          (∀ k x, (it :: its)[k]? = some x → ∃ o w, Info env ops pre.length ds (getSl s.sl) (hpOf s.hp) s.hp.length s'.hp.length (it :: its) k x o w) ∧
          (∀ (j k : Nat) (x y : Item), j < k → (it :: its)[j]? = some x → (it :: its)[k]? = some y → x.hi ≤ y.lo) := by
        intro it its s2 s' w hl e1 e2 e3 e4 e5 e6 e7 e8 e9 f1 f2 f3 f4 f5 f6 f7 f8 f9 g1 g2
        have e1' : getSl s2.sl = updS (getSl s.sl) it.d.dst it.v := funext e1
        refine ⟨fun t => ?_, ?_, by omega, fun k x hx => ?_, fun j k x y hjk hx hy => ?_⟩
        · rw [e3 t, e1']; simp [sD, tt]
        · rw [e4, e2]; simp [hD, tt]
        · cases k with
          | zero =>
            simp at hx
            subst hx
            refine ⟨o, w, ⟨ho, f1, f2, f3, hd.1.1, hd.1.2, f4, f5, f6, by omega, by omega, fun i hi => by rw [e7]; exact e9 i hi, by omega, f7, f8, f9⟩⟩
          | succ k =>
            simp at hx
            obtain ⟨o', w', I⟩ := g1 k x hx
            have hds : dsAt (it :: its) (k + 1) ds = dsAt its k (it.d :: ds) := by simp [dsAt]
            have hsD : sD tt ((it :: its).take (k + 1)) (getSl s.sl) = sD tt (its.take k) (getSl s2.sl) := by simp [sD, tt, e1']
            have hhD : hD tt ((it :: its).take (k + 1)) (hpOf s.hp) = hD tt (its.take k) (hpOf s2.hp) := by simp [hD, tt, e2]
            refine ⟨o', w', ⟨?_, ?_, I.dst, I.looks, I.dok, ?_, ?_, ?_, I.names, by have := I.len; omega, I.lohi, I.hi, I.len', ?_, ?_, I.no⟩⟩
            · have := I.op; rw [hlen] at this; rw [← this]; congr 1; omega
            · have := I.i; rw [hlen] at this; omega
            · have := I.edges; rw [hlen] at this; rw [← this]; congr 1; omega
            · rw [hds]; exact I.anc
            · rw [hds]; exact I.clr
            · rw [hsD]; exact I.want
            · rw [hsD, hhD]; exact I.yes
        · cases j with
          | zero =>
            cases k with
            | zero => omega
            | succ k =>
              simp at hx hy
              subst hx
              obtain ⟨o', w', I⟩ := g1 k y hy
              rw [e7]
              exact I.len
          | succ j =>
            cases k with
            | zero => omega
            | succ k =>
              simp at hx hy
              exact g2 j k x y (by omega) hx hy
      cases wn with
      | true =>
        simp only at h1
        obtain ⟨v, wr, h2, h3⟩ := hE.S o _ _ _ h1
        split at h2
        · rename_i hok
          simp only [Bool.and_eq_true] at hok
          rw [← hlen] at h2
          obtain ⟨its, s', k1, k2, k3, k4, k5, k6, k7⟩ := runAny_items hE rid ops os (pre ++ [o]) hops' _ _ K h2
          obtain ⟨q1, q2, q3, q4⟩ := writeO_spec wr s1.hp hok.1
          have hget : getO s1.hp = fun i => (hpOf s.hp i).getD .dead := by
            funext i
            rw [getO_eq, hhp]
            rfl
          rw [hhp] at q1 q2
          refine ⟨⟨⟨pre.length, nth (env.anc rid) pre.length, o.dst, o.looksAt ops, fpA o (evalA s1.sl) (getO s1.hp), namesOf wr⟩, v, wr, s.hp.length, (writeO s1.hp wr).length⟩ :: its, s', k1, by simp [k2], ?_⟩
          refine close _ its ⟨(s1.put o.dst v).sl, writeO s1.hp wr⟩ s' true k2 (updS_put hsl) (by rw [hhp]; exact q1) k3 k4 k5 rfl rfl (by rw [hhp]; exact q2) (fun i hi => q3 i hi) rfl rfl rfl (Nat.eq_of_beq_eq_true hd.2) hok.2 rfl (fun c a hv => hw c a hv) (fun _ => ?_) (fun e => by cases e) k6 k7
          have h3' := h3
          rw [evalA_eq, hfun, hget, hhp] at h3'
          show OpSem env.P o (evalF (getSl s.sl)) (only (fpA o (evalA s1.sl) (getO s1.hp)) fun i => (hpOf s.hp i).getD .dead) s.hp.length v wr
          rw [evalA_eq, hfun, hget]
          exact h3'
        · exact h2.elim
      | false =>
        simp only at h1
        split at h1
        · rename_i hok
          rw [← hlen] at h1
          obtain ⟨its, s', k1, k2, k3, k4, k5, k6, k7⟩ := runAny_items hE rid ops os (pre ++ [o]) hops' _ _ K h1
          have hput : (s1.put o.dst (.tup [])).hp = s.hp := by
            rw [← hhp]
            cases o.dst <;> rfl
          refine ⟨⟨⟨pre.length, nth (env.anc rid) pre.length, o.dst, o.looksAt ops, [], []⟩, .tup [], [], s.hp.length, s.hp.length⟩ :: its, s', k1, by simp [k2], ?_⟩
          exact close _ its (s1.put o.dst (.tup [])) s' false k2 (updS_put hsl) (by rw [hput]; rfl) k3 k4 k5 rfl (by rw [hput]) (by rw [hput]; exact Nat.le_refl _) (fun i ⟨o', hi⟩ => by simp at hi) rfl rfl rfl (Nat.eq_of_beq_eq_true hd.2) hok rfl (fun c a hv => hw c a hv) (fun e => by cases e) (fun _ => ⟨rfl, rfl⟩) k6 k7
        · exact h1.elim
theorem edgesOk_mem {n : Nat} : ∀ {es : List Edge}, edgesOk n es = true → ∀ e ∈ es, Region.binds .any e = true → e.on < n
  | [], _, e, he, _ => by simp at he
  | x :: r, h, e, he, hb => by
    simp only [edgesOk] at h
    split at h
    · cases h
    · rename_i hx
      rcases List.mem_cons.1 he with rfl | he
      · apply Classical.byContradiction
        intro hn
        refine hx hb ?_
        cases hq : Nat.blt e.on n with
        | false => rfl
        | true => exact absurd (blt_true hq) hn
      · exact edgesOk_mem h e he hb
theorem hasBit_eq (m n : Nat) : hasBit m n = m.testBit n := by
  unfold hasBit
  have h1 : Nat.land (Nat.shiftRight m n) 1 = (m >>> n) &&& 1 := rfl
  rw [h1, Nat.testBit, Nat.and_comm 1]
  have h3 : m >>> n &&& 1 = (m >>> n) % 2 := Nat.and_one_is_mod _
  rw [h3]
  rcases Nat.mod_two_eq_zero_or_one (m >>> n) with h | h <;> rw [h] <;> rfl
theorem hasBit_zero (n : Nat) : hasBit 0 n = false := by rw [hasBit_eq]; simp
theorem hasBit_lor (a b n : Nat) : hasBit (Nat.lor a b) n = (hasBit a n || hasBit b n) := by
  rw [hasBit_eq, hasBit_eq, hasBit_eq]
  exact Nat.testBit_or a b n
theorem hasBit_one (k n : Nat) : hasBit (Nat.shiftLeft 1 k) n = true → n = k := by
  rw [hasBit_eq]
  intro h
  have h1 : Nat.shiftLeft 1 k = 2 ^ k := by show 1 <<< k = _; rw [Nat.shiftLeft_eq]; simp
  rw [h1, Nat.testBit_two_pow] at h
  have := of_decide_eq_true h
  exact this.symm
theorem ancAt_mem {j x : Nat} : ∀ {ds : List Did}, hasBit (ancAt ds j) x = true → ∃ d ∈ ds, d.i = j ∧ hasBit d.anc x = true
  | [], h => by simp [ancAt, hasBit_zero] at h
  | d :: r, h => by
    simp only [ancAt] at h
    cases hb : Nat.beq d.i j with
    | true =>
      rw [hb] at h
      exact ⟨d, List.mem_cons_self, Nat.eq_of_beq_eq_true hb, h⟩
    | false =>
      rw [hb] at h
      obtain ⟨d', h1, h2⟩ := ancAt_mem h
      exact ⟨d', List.mem_cons_of_mem _ h1, h2⟩
theorem ancs_mem {ds : List Did} {x : Nat} : ∀ {es : List Edge}, hasBit (ancs ds es) x = true → ∃ e ∈ es, Region.binds .any e = true ∧ (x = e.on ∨ hasBit (ancAt ds e.on) x = true)
  | [], h => by simp [ancs, hasBit_zero] at h
  | e :: r, h => by
    simp only [ancs] at h
    cases hb : Region.binds .any e with
    | true =>
      rw [hb] at h
      simp only [hasBit_lor, Bool.or_eq_true] at h
      rcases h with (h | h) | h
      · exact ⟨e, List.mem_cons_self, hb, .inl (hasBit_one _ _ h)⟩
      · exact ⟨e, List.mem_cons_self, hb, .inr h⟩
      · obtain ⟨e', h1, h2⟩ := ancs_mem h
        exact ⟨e', List.mem_cons_of_mem _ h1, h2⟩
    | false =>
      rw [hb] at h
      obtain ⟨e', h1, h2⟩ := ancs_mem h
      exact ⟨e', List.mem_cons_of_mem _ h1, h2⟩
theorem dsAt_mem {its : List Item} {k : Nat} {d : Did} (h : d ∈ dsAt its k []) : ∃ m x, m < k ∧ its[m]? = some x ∧ x.d = d := by
  simp only [dsAt, List.append_nil, List.mem_reverse, List.mem_map] at h
  obtain ⟨x, h1, h2⟩ := h
  obtain ⟨m, h3⟩ := List.getElem?_of_mem h1
  have hm : m < (its.take k).length := (List.getElem?_eq_some_iff.1 h3).1
  rw [List.length_take] at hm
  refine ⟨m, x, by omega, ?_, h2⟩
  rw [List.getElem?_take] at h3
  split at h3
  · exact h3
  · cases h3
theorem mem_dsAt {its : List Item} {k m : Nat} {x : Item} (hm : m < k) (h : its[m]? = some x) : x.d ∈ dsAt its k [] := by
  simp only [dsAt, List.append_nil, List.mem_reverse, List.mem_map]
  refine ⟨x, List.mem_of_getElem? (i := m) ?_, rfl⟩
  rw [List.getElem?_take, if_pos hm, h]
theorem clear_mem {e : Did} : ∀ {ds : List Did}, clear ds e = true → ∀ d ∈ ds, hasBit e.anc d.i = true ∨ clash d e = false
  | [], _, d, hd => by simp at hd
  | x :: r, h, d, hd => by
    simp only [clear] at h
    split at h
    · rename_i hx
      rcases List.mem_cons.1 hd with rfl | hd
      · simp only [Bool.or_eq_true, Bool.not_eq_true'] at hx
        rcases hx with hx | hx
        · exact .inl hx
        · exact .inr hx
      · exact clear_mem h d hd
    · cases h
theorem meet_false : ∀ {xs ys : List Nat}, meet xs ys = false → ∀ i ∈ xs, i ∉ ys
  | [], _, _, i, hi => by simp at hi
  | x :: r, ys, h, i, hi => by
    simp only [meet] at h
    split at h
    · cases h
    · rename_i hx
      rcases List.mem_cons.1 hi with rfl | hi
      · intro hc
        rw [mem_iff.2 hc] at hx
        cases hx
      · exact meet_false h i hi
structure Apart (x y : Did) : Prop where
  l1 : ∀ t, x.dst = some t → t ∉ y.looks
  l2 : ∀ t, y.dst = some t → t ∉ x.looks
  d : ∀ t, x.dst = some t → y.dst ≠ some t
  n1 : ∀ i ∈ x.names, i ∉ y.fp
  n2 : ∀ i ∈ y.names, i ∉ x.fp
  nn : ∀ i ∈ x.names, i ∉ y.names
theorem Apart.symm {x y : Did} (h : Apart x y) : Apart y x :=
  ⟨h.l2, h.l1, fun t h1 h2 => h.d t h2 h1, h.n2, h.n1, fun i h1 h2 => h.nn i h2 h1⟩
theorem memO_false {d : Option Tmp} {l : List Tmp} (h : memO d l = false) : ∀ t, d = some t → t ∉ l := by
  intro t ht hc
  subst ht
  simp only [memO] at h
  rw [mem_iff.2 hc] at h
  cases h
theorem clash_apart {x y : Did} (h : clash x y = false) : Apart x y := by
  simp only [clash, Bool.or_eq_false_iff] at h
  obtain ⟨⟨⟨⟨⟨h1, h2⟩, h3⟩, h4⟩, h5⟩, h6⟩ := h
  refine ⟨memO_false h1, memO_false h2, fun t ht hu => ?_, meet_false h4, meet_false h5, meet_false h6⟩
  rw [ht, hu] at h3
  simp [sameO] at h3
theorem namesOf_iff {i : Nat} : ∀ {wr : List (Nat × AO)}, i ∈ namesOf wr ↔ Names wr i
  | [] => by simp [namesOf, Names]
  | (j, o) :: r => by
    simp only [namesOf, List.mem_cons]
    rw [namesOf_iff (wr := r)]
    constructor
    · rintro (h | ⟨o', h⟩)
      · exact ⟨o, by simp [h]⟩
      · exact ⟨o', List.mem_cons_of_mem _ h⟩
    · rintro ⟨o', h⟩
      rcases List.mem_cons.1 h with h | h
      · injection h with h1 h2
        exact .inl h1
      · exact .inr ⟨o', h⟩
section
variable {env : Env} {ops : Array Oper} {σ : Nat → AV} {h0 : HP} {len len' : Nat} {its : List Item}
  (hI : ∀ k it, its[k]? = some it → ∃ o w, Info env ops 0 [] σ h0 len len' its k it o w)
def Closed (ops : Array Oper) (D : Nat → Bool) : Prop := ∀ k o, ops[k]? = some o → D k = true → ∀ e ∈ o.after.toList, Region.binds .any e = true → D e.on = true
include hI in
theorem anc_in {D : Nat → Bool} (hD : Closed ops D) : ∀ (k : Nat) (it : Item) (o : Oper), its[k]? = some it → ops[k]? = some o → (∀ e ∈ o.after.toList, Region.binds .any e = true → D e.on = true) → ∀ x, hasBit it.d.anc x = true → D x = true := by
  intro k
  induction k using Nat.strongRecOn with
  | _ k ih =>
    intro it o hit ho hpre x hx
    obtain ⟨o', w, I⟩ := hI k it hit
    have hoo : o' = o := by
      have := I.op
      rw [Nat.zero_add, ho] at this
      injection this with this
      exact this.symm
    subst hoo
    rw [I.anc] at hx
    obtain ⟨e, he, hb, h1⟩ := ancs_mem hx
    have hlt : e.on < k := by
      have := edgesOk_mem I.edges e he hb
      omega
    rcases h1 with h1 | h1
    · rw [h1]; exact hpre e he hb
    · obtain ⟨d, h2, h3, h4⟩ := ancAt_mem h1
      obtain ⟨m, y, h5, h6, h7⟩ := dsAt_mem h2
      obtain ⟨o2, w2, I2⟩ := hI m y h6
      have hm : m = e.on := by
        have := I2.i
        rw [h7, h3] at this
        omega
      subst hm
      have ho2 : ops[e.on]? = some o2 := by
        have := I2.op
        rwa [Nat.zero_add] at this
      exact ih e.on hlt y o2 h6 ho2 (fun e' he' hb' => hD e.on o2 ho2 (hpre e he hb) e' he' hb') x (h7 ▸ h4)
include hI in
theorem apart_of {D : Nat → Bool} (hD : Closed ops D) {k : Nat} {it : Item} {o : Oper} (hit : its[k]? = some it) (ho : ops[k]? = some o) (hk : D k = false)
    (hpre : ∀ e ∈ o.after.toList, Region.binds .any e = true → D e.on = true) {m : Nat} {x : Item} (hm : its[m]? = some x) (hne : m ≠ k) (hdiff : D m ≠ decide (m < k)) : Apart x.d it.d := by
  obtain ⟨o1, w1, I1⟩ := hI k it hit
  obtain ⟨o2, w2, I2⟩ := hI m x hm
  by_cases hlt : m < k
  · have hDm : D m = false := by
      cases hq : D m with
      | false => rfl
      | true => rw [hq] at hdiff; simp [hlt] at hdiff
    rcases clear_mem I1.clr x.d (mem_dsAt hlt hm) with h1 | h1
    · have := anc_in hI hD k it o hit ho hpre _ h1
      rw [I2.i, Nat.zero_add, hDm] at this
      cases this
    · exact clash_apart h1
  · have hDm : D m = true := by
      cases hq : D m with
      | true => rfl
      | false => rw [hq] at hdiff; simp [hlt] at hdiff
    have ho2 : ops[m]? = some o2 := by
      have := I2.op
      rwa [Nat.zero_add] at this
    rcases clear_mem I2.clr it.d (mem_dsAt (by omega) hit) with h1 | h1
    · have := anc_in hI hD m x o2 hm ho2 (hD m o2 ho2 hDm) _ h1
      rw [I1.i, Nat.zero_add, hk] at this
      cases this
    · exact (clash_apart h1).symm
include hI in
theorem its_i {m : Nat} {x : Item} (hm : its[m]? = some x) : x.d.i = m := by
  obtain ⟨o, w, I⟩ := hI m x hm
  have := I.i
  omega
include hI in
theorem sD_take (k : Nat) : sD tt (its.take k) σ = sD (fun m => decide (m < k)) its σ := by
  funext t
  conv => rhs; rw [← List.take_append_drop k its]
  rw [sD_append]
  have h2 : ∀ τ : Nat → AV, sD (fun m => decide (m < k)) (its.drop k) τ t = τ t := by
    intro τ
    refine (sD_congr (D' := ff) (σ' := τ) ?_ rfl).trans (congrFun (sD_ff _ τ) t)
    intro it hit hd
    exfalso
    apply hd
    obtain ⟨m, hm⟩ := List.getElem?_of_mem hit
    rw [List.getElem?_drop] at hm
    have := its_i hI hm
    simp [ff, this]
  rw [h2]
  refine sD_congr ?_ rfl
  intro it hit hd
  exfalso
  apply hd
  obtain ⟨m, hm⟩ := List.getElem?_of_mem hit
  rw [List.getElem?_take] at hm
  split at hm
  · rename_i hlt
    have := its_i hI hm
    simp [tt, this, hlt]
  · cases hm
include hI in
theorem hD_take (k : Nat) : hD tt (its.take k) h0 = hD (fun m => decide (m < k)) its h0 := by
  funext t
  conv => rhs; rw [← List.take_append_drop k its]
  rw [hD_append]
  have h2 : ∀ τ : HP, hD (fun m => decide (m < k)) (its.drop k) τ t = τ t := by
    intro τ
    refine (hD_congr (D' := ff) (h' := τ) ?_ rfl).trans (congrFun (hD_ff _ τ) t)
    intro it hit hd
    exfalso
    apply hd
    obtain ⟨m, hm⟩ := List.getElem?_of_mem hit
    rw [List.getElem?_drop] at hm
    have := its_i hI hm
    simp [ff, this]
  rw [h2]
  refine hD_congr ?_ rfl
  intro it hit hd
  exfalso
  apply hd
  obtain ⟨m, hm⟩ := List.getElem?_of_mem hit
  rw [List.getElem?_take] at hm
  split at hm
  · rename_i hlt
    have := its_i hI hm
    simp [tt, this, hlt]
  · cases hm
def addD (D : Nat → Bool) (k : Nat) : Nat → Bool := fun m => if m = k then true else D m
theorem split_at {k : Nat} {it : Item} (h : its[k]? = some it) : its = its.take k ++ it :: its.drop (k + 1) := by
  have := List.getElem?_eq_some_iff.1 h
  obtain ⟨hlt, he⟩ := this
  conv => lhs; rw [← List.take_append_drop k its, List.drop_eq_getElem_cons hlt, he]
include hI in
theorem sD_add {D : Nat → Bool} (hD : Closed ops D) {k : Nat} {it : Item} {o : Oper} (hit : its[k]? = some it) (ho : ops[k]? = some o) (hk : D k = false)
    (hpre : ∀ e ∈ o.after.toList, Region.binds .any e = true → D e.on = true) : sD (addD D k) its σ = updS (sD D its σ) it.d.dst it.v := by
  have hi := its_i hI hit
  funext t
  by_cases ht : it.d.dst = some t
  · have hs := split_at hit
    have e2 : updS (sD D its σ) it.d.dst it.v t = it.v := by simp [updS, ht]
    rw [e2]
    conv => lhs; rw [hs]
    rw [sD_append]
    simp only [sD]
    have : addD D k it.d.i = true := by simp [addD, hi]
    rw [if_pos this]
    refine (sD_congr (D' := ff) (σ' := updS (sD (addD D k) (its.take k) σ) it.d.dst it.v) ?_ rfl).trans ?_
    · intro x hx hd hdst
      obtain ⟨m, hm⟩ := List.getElem?_of_mem hx
      rw [List.getElem?_drop] at hm
      have hxi := its_i hI hm
      rw [hxi] at hd
      have hDm : D (k + 1 + m) = true := by
        simp only [addD, ff] at hd
        rw [if_neg (by omega)] at hd
        simpa using hd
      have := apart_of hI hD hit ho hk hpre hm (by omega) (by rw [hDm]; simp; omega)
      exact this.d t hdst ht
    · rw [sD_ff]
      simp [updS, ht]
  · have : updS (sD D its σ) it.d.dst it.v t = sD D its σ t := by simp [updS, ht]
    rw [this]
    refine sD_congr ?_ rfl
    intro x hx hd
    obtain ⟨m, hm⟩ := List.getElem?_of_mem hx
    have hxi := its_i hI hm
    rw [hxi] at hd
    have hmk : m = k := by
      apply Classical.byContradiction
      intro hne
      exact hd (by simp [addD, hne])
    subst hmk
    rw [hit] at hm
    injection hm with hm
    rw [← hm]
    exact ht
include hI in
theorem hD_add {D : Nat → Bool} (hD' : Closed ops D) {k : Nat} {it : Item} {o : Oper} (hit : its[k]? = some it) (ho : ops[k]? = some o) (hk : D k = false)
    (hpre : ∀ e ∈ o.after.toList, Region.binds .any e = true → D e.on = true) : hD (addD D k) its h0 = updH (hD D its h0) it.wr := by
  have hi := its_i hI hit
  obtain ⟨o1, w1, I1⟩ := hI k it hit
  funext t
  by_cases ht : Names it.wr t
  · have hs := split_at hit
    rw [updH_congr (h' := hD (addD D k) (its.take k) h0) (.inl ht)]
    conv => lhs; rw [hs]
    rw [hD_append]
    simp only [hD]
    have : addD D k it.d.i = true := by simp [addD, hi]
    rw [if_pos this]
    refine (hD_congr (D' := ff) (h' := updH (hD (addD D k) (its.take k) h0) it.wr) ?_ rfl).trans ?_
    · intro x hx hd hdst
      obtain ⟨m, hm⟩ := List.getElem?_of_mem hx
      rw [List.getElem?_drop] at hm
      have hxi := its_i hI hm
      rw [hxi] at hd
      have hDm : D (k + 1 + m) = true := by
        simp only [addD, ff] at hd
        rw [if_neg (by omega)] at hd
        simpa using hd
      have := apart_of hI hD' hit ho hk hpre hm (by omega) (by rw [hDm]; simp; omega)
      obtain ⟨o2, w2, I2⟩ := hI _ x hm
      exact this.nn t (by rw [I2.names]; exact namesOf_iff.2 hdst) (by rw [I1.names]; exact namesOf_iff.2 ht)
    · rw [hD_ff]
  · rw [updH_other ht]
    refine hD_congr ?_ rfl
    intro x hx hd
    obtain ⟨m, hm⟩ := List.getElem?_of_mem hx
    have hxi := its_i hI hm
    rw [hxi] at hd
    have hmk : m = k := by
      apply Classical.byContradiction
      intro hne
      exact hd (by simp [addD, hne])
    subst hmk
    rw [hit] at hm
    injection hm with hm
    rw [← hm]
    exact ht
include hI in
theorem sD_looks {D : Nat → Bool} (hD : Closed ops D) {k : Nat} {it : Item} {o : Oper} (hit : its[k]? = some it) (ho : ops[k]? = some o) (hk : D k = false)
    (hpre : ∀ e ∈ o.after.toList, Region.binds .any e = true → D e.on = true) {t : Nat} (ht : t ∈ it.d.looks) : sD tt (its.take k) σ t = sD D its σ t := by
  rw [sD_take hI]
  refine sD_congr ?_ rfl
  intro x hx hd hdst
  obtain ⟨m, hm⟩ := List.getElem?_of_mem hx
  have hxi := its_i hI hm
  rw [hxi] at hd
  by_cases e : m = k
  · subst e
    simp [hk] at hd
  · exact (apart_of hI hD hit ho hk hpre hm e (Ne.symm hd)).l1 t hdst ht
include hI in
theorem hD_fp {D : Nat → Bool} (hD' : Closed ops D) {k : Nat} {it : Item} {o : Oper} (hit : its[k]? = some it) (ho : ops[k]? = some o) (hk : D k = false)
    (hpre : ∀ e ∈ o.after.toList, Region.binds .any e = true → D e.on = true) {t : Nat} (ht : t ∈ it.d.fp) : hD tt (its.take k) h0 t = hD D its h0 t := by
  rw [hD_take hI]
  refine hD_congr ?_ rfl
  intro x hx hd hdst
  obtain ⟨m, hm⟩ := List.getElem?_of_mem hx
  have hxi := its_i hI hm
  rw [hxi] at hd
  by_cases e : m = k
  · subst e
    simp [hk] at hd
  · obtain ⟨o2, w2, I2⟩ := hI _ x hm
    exact (apart_of hI hD' hit ho hk hpre hm e (Ne.symm hd)).n1 t (by rw [I2.names]; exact namesOf_iff.2 hdst) ht
end
end Go.RX
namespace Go.RX
def unl (listed : Array Bool) : Nat → Nat
  | 0 => 0
  | n + 1 => unl listed n + (if listed.getD n true = false then 1 else 0)
theorem unl_le (listed : Array Bool) : ∀ n, unl listed n ≤ n
  | 0 => Nat.le_refl _
  | n + 1 => by
    simp only [unl]
    have := unl_le listed n
    split <;> omega
theorem unl_same {listed : Array Bool} {i : Nat} : ∀ {n : Nat}, n ≤ i → unl (listed.setIfInBounds i true) n = unl listed n
  | 0, _ => rfl
  | n + 1, h => by
    simp only [unl]
    rw [unl_same (by omega), getD_set_ne true (by omega : i ≠ n)]
theorem unl_set {listed : Array Bool} {i : Nat} (hi : listed.getD i true = false) : ∀ {n : Nat}, i < n → unl (listed.setIfInBounds i true) n + 1 = unl listed n
  | 0, h => by omega
  | n + 1, h => by
    simp only [unl]
    by_cases e : i = n
    · subst e
      rw [unl_same (Nat.le_refl _), if_pos hi]
      have : ((listed.setIfInBounds i true).getD i true) = true := by
        rcases Nat.lt_or_ge i listed.size with h' | h'
        · simp [h']
        · simp [Array.getElem?_eq_none h'] at hi
      rw [this]
      simp
    · rw [getD_set_ne true e]
      have := unl_set hi (n := n) (by omega)
      omega
theorem unl_zero {listed : Array Bool} : ∀ {n : Nat}, unl listed n = 0 → ∀ j, j < n → listed.getD j true = true
  | 0, _, j, hj => by omega
  | n + 1, h, j, hj => by
    simp only [unl] at h
    by_cases e : j = n
    · subst e
      cases hq : listed.getD j true with
      | true => rfl
      | false => rw [if_pos hq] at h; omega
    · exact unl_zero (n := n) (by omega) j (by omega)
section
variable {env : Env} {ops : Array Oper} {σ : Nat → AV} {h0 : HP} {len len' : Nat} {its : List Item}
structure Inv (Df : List Deferred) (env : Env) (σ : Nat → AV) (h0 : HP) (its : List Item) (c0 : Cx) (D : Nat → Bool) (c : Cx) (a : Act) : Prop where
  hr : HR c (hD D its h0)
  sl : ∀ t, V c (sD D its σ t) (a.tmps.getD t undef)
  size : a.tmps.size = env.nt
  defers : a.defers = Df
  born : ∀ i, c.born i → c0.born i ∨ ∃ m x, its[m]? = some x ∧ D m = true ∧ Names x.wr i
  ext : Ext c0 c
  fr : Fr c0 h0 c (hD D its h0)
def inL (listed : Array Bool) : Nat → Bool := fun m => listed.getD m false
theorem inL_false {listed : Array Bool} {k : Nat} (h : listed.getD k true = false) : inL listed k = false := by
  unfold inL
  rcases Nat.lt_or_ge k listed.size with h' | h'
  · simp [h'] at h ⊢; exact h
  · simp [Array.getElem?_eq_none h'] at h
theorem inL_true {listed : Array Bool} {k : Nat} (hk : k < listed.size) (h : listed.getD k true = true) : inL listed k = true := by
  unfold inL
  simp [hk] at h ⊢; exact h
theorem inL_add {listed : Array Bool} {k : Nat} (h : listed.getD k true = false) : inL (listed.setIfInBounds k true) = addD (inL listed) k := by
  funext m
  unfold inL addD
  by_cases e : m = k
  · subst e
    rw [if_pos rfl]
    rcases Nat.lt_or_ge m listed.size with h' | h'
    · simp [h']
    · simp [Array.getElem?_eq_none h'] at h
  · rw [if_neg e, getD_set_ne false (Ne.symm e)]
theorem closed_add {D : Nat → Bool} (hD : Closed ops D) {k : Nat} {o : Oper} (ho : ops[k]? = some o) (hpre : ∀ e ∈ o.after.toList, Region.binds .any e = true → D e.on = true) : Closed ops (addD D k) := by
  intro m o' hm hDm e he hb
  have h1 : D e.on = true := by
    by_cases hk : m = k
    · subst hk
      rw [ho] at hm
      injection hm with hm
      subst hm
      exact hpre e he hb
    · simp only [addD, if_neg hk] at hDm
      exact hD m o' hm hDm e he hb
  simp only [addD]
  split
  · rfl
  · exact h1
variable (hI : ∀ k it, its[k]? = some it → ∃ o w, Info env ops 0 [] σ h0 len len' its k it o w)
  (hp : ∀ (j k : Nat) (x y : Item), j < k → its[j]? = some x → its[k]? = some y → x.hi ≤ y.lo) (hlen : its.length = ops.size)
include hI hlen in
theorem all_listed {listed : Array Bool} (hs : listed.size = ops.size) (hr : Region.ready .any ops listed = []) : ∀ j, j < ops.size → listed.getD j true = true := by
  intro j
  induction j using Nat.strongRecOn with
  | _ j ih =>
    intro hj
    cases hq : listed.getD j true with
    | true => rfl
    | false =>
      exfalso
      obtain ⟨it, hit⟩ : ∃ it, its[j]? = some it := ⟨its[j]'(by omega), by simp [hlen, hj]⟩
      obtain ⟨o, w, I⟩ := hI j it hit
      have ho : ops[j]? = some o := by
        have := I.op
        rwa [Nat.zero_add] at this
      have : j ∈ Region.ready .any ops listed := by
        rw [mem_ready]
        refine ⟨hq, o, ho, fun e he hb => ?_⟩
        have hlt := edgesOk_mem I.edges e (by simpa using he) hb
        rw [Nat.zero_add] at hlt
        have h1 := ih e.on hlt (by omega)
        exact inL_true (by omega) h1
      rw [hr] at this
      cases this
include hI hp hlen in
theorem any_core {Df : List Deferred} {c0 : Cx} (hc0 : ∀ i, c0.born i → i < len) {Q : Exit → Act → World → Prop} (hq : ∀ c a, Inv Df env σ h0 its c0 tt c a → Q .normal a c.w) :
    ∀ (fuel : Nat) (listed : Array Bool) (a : Act) (c : Cx), listed.size = ops.size → unl listed ops.size ≤ fuel → Closed ops (inL listed) → Inv Df env σ h0 its c0 (inL listed) c a →
      wpAny env.P .any ops Q fuel listed a c.w := by
  have done : ∀ (listed : Array Bool) (a : Act) (c : Cx), listed.size = ops.size → (∀ j, j < ops.size → listed.getD j true = true) → Inv Df env σ h0 its c0 (inL listed) c a → Q .normal a c.w := by
    intro listed a c hs hall hv
    refine hq c a ?_
    have hDall : ∀ it ∈ its, inL listed it.d.i = true := by
      intro it hit
      obtain ⟨m, hm⟩ := List.getElem?_of_mem hit
      have hlt : m < its.length := (List.getElem?_eq_some_iff.1 hm).1
      rw [its_i hI hm]
      exact inL_true (by omega) (hall m (by omega))
    have e1 : hD (inL listed) its h0 = hD tt its h0 := by
      funext x
      exact hD_congr (fun it hit hd => absurd (hDall it hit) (by simpa [tt] using hd)) rfl
    have e2 : sD (inL listed) its σ = sD tt its σ := by
      funext x
      exact sD_congr (fun it hit hd => absurd (hDall it hit) (by simpa [tt] using hd)) rfl
    exact ⟨e1 ▸ hv.hr, e2 ▸ hv.sl, hv.size, hv.defers, fun i hi => (hv.born i hi).imp id fun ⟨m, x, h1, _, h3⟩ => ⟨m, x, h1, rfl, h3⟩, hv.ext, e1 ▸ hv.fr⟩
  intro fuel
  induction fuel with
  | zero =>
    intro listed a c hs hu _ hv
    have hall := unl_zero (Nat.le_zero.1 hu)
    refine ⟨?_, done listed a c hs hall hv⟩
    cases hr : Region.ready .any ops listed with
    | nil => rfl
    | cons i r =>
      exfalso
      have hi : i ∈ Region.ready .any ops listed := by rw [hr]; exact List.mem_cons_self
      obtain ⟨h1, o, ho, _⟩ := mem_ready.1 hi
      have := hall i (Array.getElem?_eq_some_iff.1 ho).1
      rw [h1] at this
      cases this
  | succ fuel ih =>
    intro listed a c hs hu hcl hv
    refine ⟨fun hr => done listed a c hs (all_listed hI hlen hs hr) hv, fun k hk => ?_⟩
    obtain ⟨h1, o, ho, hpre'⟩ := mem_ready.1 hk
    have hk0 := inL_false h1
    have hklt : k < ops.size := (Array.getElem?_eq_some_iff.1 ho).1
    have hpre : ∀ e ∈ o.after.toList, Region.binds .any e = true → inL listed e.on = true := fun e he hb => hpre' e (by simpa using he) hb
    obtain ⟨it, hit⟩ : ∃ it, its[k]? = some it := ⟨its[k]'(by omega), by simp [hlen, hklt]⟩
    obtain ⟨o', w, I⟩ := hI k it hit
    have hoo : o' = o := by
      have := I.op
      rw [Nat.zero_add, ho] at this
      injection this with this
      exact this.symm
    subst hoo
    have hcl' : Closed ops (inL (listed.setIfInBounds k true)) := by rw [inL_add h1]; exact closed_add hcl ho hpre
    have hu' : unl (listed.setIfInBounds k true) ops.size ≤ fuel := by
      have := unl_set h1 (n := ops.size) hklt
      omega
    have hlook : ∀ t, t ∈ o'.looksAt ops → sD tt (its.take k) σ t = sD (inL listed) its σ t := fun t ht => sD_looks hI hcl hit ho hk0 hpre (by rw [I.looks]; exact ht)
    have hwant : Region.wanted o' (yielded ops a.tmps) = w := I.want c a fun t ht => by rw [hlook t ht]; exact hv.sl t
    have hslV : ∀ (c' : Cx) (v : AV) (u : Value), (∀ t, V c' (sD (inL listed) its σ t) (a.tmps.getD t undef)) → V c' v u → ∀ t, V c' (updS (sD (inL listed) its σ) o'.dst v t) ((a.put o'.dst u).tmps.getD t undef) := by
      intro c' v u h2 h3 t
      cases hd : o'.dst with
      | none => simpa [updS, Act.put] using h2 t
      | some x =>
        have hx := dstOk_lt I.dok x hd
        rw [getD_put (by rw [hv.size]; exact hx)]
        by_cases e : x = t
        · subst e; simp [updS]; exact h3
        · rw [if_neg e]
          have : updS (sD (inL listed) its σ) (some x) v t = sD (inL listed) its σ t := by simp [updS, e]
          rw [this]; exact h2 t
    unfold wpOp
    simp only [ho]
    rw [hwant]
    have hsD := sD_add hI hcl hit ho hk0 hpre
    have hhD := hD_add hI hcl hit ho hk0 hpre
    rw [I.dst] at hsD
    cases w with
    | true =>
      simp only [if_true]
      refine .inl (I.yes rfl c (hD (inL listed) its h0) a _ Q (fun x hx => ?_) (fun i hi => ?_) (fun i hi hn hb => ?_) hv.hr fun u c' hu2 hr he hf hb => ?_)
      · cases x with
        | tmp t =>
          have ht : t ∈ o'.looksAt ops := List.mem_append_left _ (List.mem_filterMap.2 ⟨.tmp t, by simpa using hx, rfl⟩)
          show V c (sD tt (its.take k) σ t) _
          rw [hlook t ht]
          exact hv.sl t
        | const v => exact const_V c v
        | global g => simp [evalF, V]
        | func f => simp only [evalF, Act.eval, V]; exact ⟨#[], #[], rfl, rfl, rfl⟩
      · have hfp : i ∈ it.d.fp := by
          apply Classical.byContradiction
          intro hn
          apply hi
          unfold only
          cases hm : mem i it.d.fp with
          | false => rfl
          | true => exact absurd (mem_iff.1 hm) hn
        have hm : mem i it.d.fp = true := mem_iff.2 hfp
        simp only [only, hm] at hi ⊢
        rw [hD_fp hI hcl hit ho hk0 hpre hfp] at hi ⊢
        cases hq : hD (inL listed) its h0 i with
        | none => rw [hq] at hi; simp at hi
        | some x => simp
      · rcases hv.born i hb with h2 | ⟨m, x, h2, h3, h4⟩
        · have := hc0 i h2
          have := I.len
          omega
        · obtain ⟨o2, w2, I2⟩ := hI m x h2
          have hmk : m ≠ k := by
            intro e
            subst e
            rw [hk0] at h3
            cases h3
          by_cases hlt : m < k
          · have := hp m k x it hlt h2 hit
            have := I2.hi i h4
            omega
          · have := apart_of hI hcl hit ho hk0 hpre h2 hmk (by rw [h3]; simp [hlt])
            exact this.nn i (by rw [I2.names]; exact namesOf_iff.2 h4) (by rw [I.names]; exact namesOf_iff.2 hn)
      · refine ih (listed.setIfInBounds k true) _ c' (by simpa using hs) hu' hcl' ?_
        rw [inL_add h1]
        refine ⟨by rw [hhD]; exact hr, by rw [hsD]; exact hslV c' it.v u (fun t => V.mono he _ _ (hv.sl t)) hu2, by rw [put_size]; exact hv.size, by rw [put_defers]; exact hv.defers, fun i hi => ?_, hv.ext.trans he, by rw [hhD]; exact hv.fr.trans hf⟩
        rcases hb i hi with h2 | h2
        · rcases hv.born i h2 with h3 | ⟨m, x, h3, h4, h5⟩
          · exact .inl h3
          · refine .inr ⟨m, x, h3, ?_, h5⟩
            simp only [addD]
            split
            · rfl
            · exact h4
        · exact .inr ⟨k, it, hit, by simp [addD], h2⟩
    | false =>
      obtain ⟨hv0, hwr0⟩ := I.no rfl
      simp only [Bool.false_eq_true, if_false]
      refine ih (listed.setIfInBounds k true) _ c (by simpa using hs) hu' hcl' ?_
      rw [inL_add h1]
      rw [hwr0] at hhD
      rw [hv0] at hsD
      refine ⟨by rw [hhD]; exact hv.hr, by rw [hsD]; exact hslV c (.tup []) undef hv.sl ⟨#[], rfl, rfl⟩, by rw [put_size]; exact hv.size, by rw [put_defers]; exact hv.defers, fun i hi => ?_, hv.ext, by rw [hhD]; exact hv.fr⟩
      rcases hv.born i hi with h3 | ⟨m, x, h3, h4, h5⟩
      · exact .inl h3
      · refine .inr ⟨m, x, h3, ?_, h5⟩
        simp only [addD]
        split
        · rfl
        · exact h4
end
def Cx.draw (c : Cx) : Cx := { c with w := { c.w with drawn := c.w.drawn + 1 } }
theorem draw_ext (c : Cx) : Ext c c.draw := ⟨fun _ h => h, fun _ _ => rfl, fun _ h => h, fun _ _ => rfl, rfl⟩
theorem draw_fr (c : Cx) (h : HP) : Fr c h c.draw h :=
  ⟨rfl, rfl, rfl, Nat.le_refl _, fun _ _ _ => rfl, fun _ h => h, fun _ h => .inl h, fun i _ hi hb => .inr ⟨i, hi, hb⟩, rfl⟩
theorem draw_hr {c : Cx} {h : HP} (hh : HR c h) : HR c.draw h := by
  refine ⟨fun i o ho => ?_, hh.inj, hh.apart, hh.bound, hh.size, hh.low, hh.base⟩
  obtain ⟨h1, h2⟩ := hh.obj i o ho
  exact ⟨h1, h2.mono (draw_ext c) fun _ _ => rfl⟩
theorem region_sound {env : Env} {plain : PlainT} (hE : EnvOK env plain) (hm : env.P.follows .mixedOrders = true) (id : Nat) (ops : Array Oper) (n0 : Nat) {s : St} {K : St → Prop} (h : runAny env plain id ops ops.toList 0 [] s K) :
    ∃ s', K s' ∧ ∀ (D : List Deferred) (c : Cx) (a : Act) (Q : Exit → Act → World → Prop), SR env.nt D s c a →
      (∀ c' a', SR env.nt D s' c' a' → Kept n0 c (hpOf s.hp) c' (hpOf s'.hp) → Q .normal a' c'.w) → (Code.region id ops true).wp env.P Q a c.w := by
  obtain ⟨its, s', h1, h2, h3, h4, h5, h6, h7⟩ := runAny_items hE id ops ops.toList [] rfl [] s K h
  refine ⟨s', h1, fun D c a Q hs hq => wp_region_any hm ?_⟩
  have hlen : its.length = ops.size := by rw [h2]; simp
  have h0 : ∀ j, inL (Array.replicate ops.size false) j = false := by
    intro j
    unfold inL
    rcases Nat.lt_or_ge j ops.size with h' | h'
    · simp [h']
    · simp [h']
  refine any_core (Df := D) h6 h7 hlen (c0 := c) (fun i hi => (hs.hp.born i).1 hi) (Q := Q) (fun c' a' hv => ?_) ops.size _ a c.draw (by simp) (unl_le _ _) (fun k o _ hk => by rw [h0] at hk; cases hk) ?_
  · refine hq c' a' ⟨fun t => by rw [h3 t]; exact hv.sl t, ⟨by rw [h4]; exact hv.hr, fun i => ⟨fun hi => ?_, fun hi => ?_⟩⟩, hv.size, hv.defers⟩ (Kept.of_ext hv.ext (by rw [h4]; exact hv.fr))
    · rcases hv.born i hi with hb | ⟨m, x, hb, _, hn⟩
      · exact Nat.lt_of_lt_of_le ((hs.hp.born i).1 hb) h5
      · obtain ⟨o, w, I⟩ := h6 m x hb
        exact Nat.lt_of_lt_of_le (I.hi i hn) I.len'
    · have : hpOf s'.hp i = some (s'.hp[i]) := by simp [hpOf, hi]
      rw [h4] at this
      exact (hv.hr.obj i _ this).1
  · have e1 : hD (inL (Array.replicate ops.size false)) its (hpOf s.hp) = hpOf s.hp := by
      funext x
      exact (hD_congr (D' := ff) (fun it _ hd => absurd (h0 it.d.i) (by simpa [ff] using hd)) rfl).trans (congrFun (hD_ff _ _) x)
    have e2 : sD (inL (Array.replicate ops.size false)) its (getSl s.sl) = getSl s.sl := by
      funext x
      exact (sD_congr (D' := ff) (fun it _ hd => absurd (h0 it.d.i) (by simpa [ff] using hd)) rfl).trans (congrFun (sD_ff _ _) x)
    exact ⟨by rw [e1]; exact draw_hr hs.hr, fun t => by rw [e2]; exact V.mono (draw_ext c) _ _ (hs.sl t), hs.size, hs.defers, fun i hi => .inl hi, draw_ext c, by rw [e1]; exact draw_fr c _⟩
end Go.RX
namespace Go.RX
theorem eqB_eq : ∀ {a b : List UInt8}, eqB a b = true → a = b
  | [], [], _ => rfl
  | [], _ :: _, h => by simp [eqB] at h
  | _ :: _, [], h => by simp [eqB] at h
  | x :: xs, y :: ys, h => by
    simp only [eqB] at h
    split at h
    · rename_i hb
      rw [UInt8.toNat_inj.1 (Nat.eq_of_beq_eq_true hb), eqB_eq h]
    · cases h
theorem eqB_str {a b : ByteArray} (h : eqB a.data.toList b.data.toList = true) : a = b := by
  apply ByteArray.ext
  exact Array.toList_inj.1 (eqB_eq h)
theorem allBl_get {f : Nat → Bool} : ∀ {n : Nat}, allBl f n = true → ∀ i, i < n → f i = true
  | 0, _, i, hi => by omega
  | n + 1, h, i, hi => by
    simp only [allBl] at h
    split at h
    · rename_i hn
      rcases Nat.lt_or_ge i n with hi' | hi'
      · exact allBl_get h i hi'
      · have : i = n := by omega
        rw [this]; exact hn
    · cases h
mutual
theorem lePV_ok {I : Bool → Nat → Prop} {w : World} (hI : ∀ b, I true b → I false b) : ∀ {x y : PV} {cs : List Value}, lePV x y = true → RoC I w y cs → RoC I w x cs
  | .bool a, y, cs, h, k => by cases y <;> simp [lePV] at h; subst h; exact k
  | .int q a, y, cs, h, k => by cases y <;> simp [lePV] at h; obtain ⟨rfl, rfl⟩ := h; exact k
  | .str a, y, cs, h, k => by cases y <;> simp [lePV] at h; rw [eqB_str h]; exact k
  | .nilp, y, cs, h, k => by cases y <;> simp [lePV] at h; exact k
  | .nils, y, cs, h, k => by cases y <;> simp [lePV] at h; exact k
  | .nilm, y, cs, h, k => by cases y <;> simp [lePV] at h; exact k
  | .nilf, y, cs, h, k => by cases y <;> simp [lePV] at h; exact k
  | .nili, y, cs, h, k => by cases y <;> simp [lePV] at h; exact k
  | .arr m n g, y, cs, h, k => by
    cases y with
    | arr m' n' g' =>
      simp only [lePV, Bool.and_eq_true] at h
      obtain ⟨⟨hm, hn⟩, hg⟩ := h
      have := Nat.eq_of_beq_eq_true hn
      subst this
      simp only [RoC] at k ⊢
      obtain ⟨a, c, e1, e2, e3⟩ := k
      refine ⟨a, c, e1, e2, fun h0 => ?_⟩
      obtain ⟨b, off, sz, k1, k2, k3, k4, k5⟩ := e3 h0
      have hmm : m = m' ∨ (m = false ∧ m' = true) := by cases m <;> cases m' <;> simp at hm ⊢
      refine ⟨b, off, sz, k1, ?_, k3, fun e => k4 ?_, fun i hi => ?_⟩
      · rcases hmm with rfl | ⟨rfl, rfl⟩
        · exact k2
        · exact hI b k2
      · rcases hmm with rfl | ⟨rfl, rfl⟩
        · exact e
        · rfl
      · obtain ⟨es, q1, q2, q3⟩ := k5 i hi
        exact ⟨es, q1, lePV_ok hI (allBl_get hg i hi) q2, q3⟩
    | _ => simp [lePV] at h
  | .agg xs, y, cs, h, k => by
    cases y with
    | agg ys =>
      simp only [lePV] at h
      simp only [RoC] at k ⊢
      exact lePVs_ok hI h k
    | _ => simp [lePV] at h
theorem lePVs_ok {I : Bool → Nat → Prop} {w : World} (hI : ∀ b, I true b → I false b) : ∀ {xs ys : List PV} {cs : List Value}, lePVs xs ys = true → RoCs I w ys cs → RoCs I w xs cs
  | [], ys, cs, h, k => by cases ys <;> simp [lePVs] at h; exact k
  | x :: xs, ys, cs, h, k => by
    cases ys with
    | nil => simp [lePVs] at h
    | cons y ys =>
      simp only [lePVs, Bool.and_eq_true] at h
      simp only [RoCs] at k ⊢
      obtain ⟨u, us, rfl, k1, k2⟩ := k
      exact ⟨u, us, rfl, lePV_ok hI h.1 k1, lePVs_ok hI h.2 k2⟩
end
theorem Cx.J_weak (c : Cx) : ∀ b, c.J true b → c.J false b := fun _ h => ⟨h.1, fun e => by cases e⟩
theorem leRow_ok {I : Bool → Nat → Prop} {w : World} (hI : ∀ b, I true b → I false b) {sz : Nat} : ∀ {xs ys : List PV} {cs : List Value}, lePVs xs ys = true → RoRow I w sz ys cs → RoRow I w sz xs cs
  | [], ys, cs, h, k => by cases ys <;> simp [lePVs] at h; exact k
  | x :: xs, ys, cs, h, k => by
    cases ys with
    | nil => simp [lePVs] at h
    | cons y ys =>
      simp only [lePVs, Bool.and_eq_true] at h
      simp only [RoRow] at k ⊢
      obtain ⟨es, r, rfl, k1, k2, k3⟩ := k
      exact ⟨es, r, rfl, k1, lePV_ok hI h.1 k2, leRow_ok hI h.2 k3⟩
theorem lePVs_length : ∀ {xs ys : List PV}, lePVs xs ys = true → xs.length = ys.length
  | [], ys, h => by cases ys <;> simp [lePVs] at h; rfl
  | x :: xs, ys, h => by
    cases ys with
    | nil => simp [lePVs] at h
    | cons y ys =>
      simp only [lePVs, Bool.and_eq_true] at h
      simp [lePVs_length h.2]
theorem lePVs_get : ∀ {xs ys : List PV}, lePVs xs ys = true → ∀ i, i < xs.length → lePV (xs.getD i .nilp) (ys.getD i .nilp) = true
  | [], _, _, i, hi => by simp at hi
  | x :: xs, ys, h, i, hi => by
    cases ys with
    | nil => simp [lePVs] at h
    | cons y ys =>
      simp only [lePVs, Bool.and_eq_true] at h
      cases i with
      | zero => simpa using h.1
      | succ i => simpa using lePVs_get h.2 i (by simpa using hi)
mutual
theorem leAV_ok {c : Cx} : ∀ {x y : AV} {v : Value}, leAV x y = true → V c y v → V c x v
  | .undef, _, _, _, _ => by simp only [V]
  | .p x, y, v, h, k => by
    cases y <;> simp only [leAV] at h <;> first | (exact absurd h Bool.false_ne_true) | skip
    simp only [V] at k ⊢
    exact lePV_ok c.J_weak h k
  | .ptr i o, y, v, h, k => by
    cases y <;> simp only [leAV, Bool.and_eq_true] at h <;> first | (exact absurd h Bool.false_ne_true) | skip
    rw [Nat.eq_of_beq_eq_true h.1, Nat.eq_of_beq_eq_true h.2]; exact k
  | .eptr i j o, y, v, h, k => by
    cases y <;> simp only [leAV, Bool.and_eq_true] at h <;> first | (exact absurd h Bool.false_ne_true) | skip
    rw [Nat.eq_of_beq_eq_true h.1.1, Nat.eq_of_beq_eq_true h.1.2, Nat.eq_of_beq_eq_true h.2]; exact k
  | .rop cs, y, v, h, k => by
    cases y <;> simp only [leAV] at h <;> first | (exact absurd h Bool.false_ne_true) | skip
    simp only [V] at k ⊢
    obtain ⟨b, o, k1, k2, es, k3, k4⟩ := k
    exact ⟨b, o, k1, k2, es, lePVs_ok c.J_weak h k3, k4⟩
  | .row i, y, v, h, k => by
    cases y <;> simp only [leAV] at h <;> first | (exact absurd h Bool.false_ne_true) | skip
    rw [Nat.eq_of_beq_eq_true h]; exact k
  | .map i, y, v, h, k => by
    cases y <;> simp only [leAV] at h <;> first | (exact absurd h Bool.false_ne_true) | skip
    rw [Nat.eq_of_beq_eq_true h]; exact k
  | .iter i, y, v, h, k => by
    cases y <;> simp only [leAV] at h <;> first | (exact absurd h Bool.false_ne_true) | skip
    rw [Nat.eq_of_beq_eq_true h]; exact k
  | .func f a b, y, v, h, k => by
    cases f with
    | func f =>
      cases y with
      | func g c' d =>
        cases g with
        | func g =>
          simp only [leAV, Bool.and_eq_true] at h
          simp only [V] at k ⊢
          obtain ⟨F, G, rfl, k1, k2⟩ := k
          exact ⟨F, G, by rw [Nat.eq_of_beq_eq_true h.1.1], leAVs_ok h.1.2 k1, leAVs_ok h.2 k2⟩
        | _ => simp [leAV] at h
      | _ => simp [leAV] at h
    | _ => simp [leAV] at h
  | .agg cs, y, v, h, k => by
    cases y <;> simp only [leAV] at h <;> first | (exact absurd h Bool.false_ne_true) | skip
    simp only [V] at k ⊢
    obtain ⟨C, rfl, k1, k2⟩ := k
    exact ⟨C, rfl, leAVs_ok h k1, k2⟩
  | .tup cs, y, v, h, k => by
    cases y <;> simp only [leAV] at h <;> first | (exact absurd h Bool.false_ne_true) | skip
    simp only [V] at k ⊢
    obtain ⟨C, rfl, k1⟩ := k
    exact ⟨C, rfl, leAVs_ok h k1⟩
  | .iface t x, y, v, h, k => by
    cases y <;> simp only [leAV, Bool.and_eq_true] at h <;> first | (exact absurd h Bool.false_ne_true) | skip
    simp only [V] at k ⊢
    obtain ⟨u, rfl, k1⟩ := k
    exact ⟨u, by rw [Nat.eq_of_beq_eq_true h.1], leAV_ok h.2 k1⟩
theorem leAVs_ok {c : Cx} : ∀ {xs ys : List AV} {vs : List Value}, leAVs xs ys = true → Vs c ys vs → Vs c xs vs
  | [], ys, vs, h, k => by cases ys <;> simp [leAVs] at h; exact k
  | x :: xs, ys, vs, h, k => by
    cases ys with
    | nil => simp [leAVs] at h
    | cons y ys =>
      simp only [leAVs, Bool.and_eq_true] at h
      simp only [Vs] at k ⊢
      obtain ⟨u, us, rfl, k1, k2⟩ := k
      exact ⟨u, us, rfl, leAV_ok h.1 k1, leAVs_ok h.2 k2⟩
end
theorem leAO_ok {c : Cx} {x y : AO} {l : Loc} (h : leAO x y = true) (k : OR c y l) : OR c x l ∧ (liveO x = true → liveO y = true) := by
  cases x with
  | dead => exact ⟨by cases l <;> simp only [OR], fun e => by simp [liveO] at e⟩
  | box cs =>
    cases y <;> simp only [leAO] at h <;> first | (exact absurd h Bool.false_ne_true) | skip
    refine ⟨?_, fun _ => rfl⟩
    cases l <;> simp only [OR] at k ⊢
    obtain ⟨C, t, k1, k2, k3⟩ := k
    exact ⟨C, t, k1, leAVs_ok h k2, k3⟩
  | row e sz xs =>
    cases y <;> simp only [leAO, Bool.and_eq_true] at h <;> first | (exact absurd h Bool.false_ne_true) | skip
    rename_i e' sz' ys
    obtain ⟨⟨h1, h2⟩, h3⟩ := h
    have q1 := Nat.eq_of_beq_eq_true h1
    have q2 := Nat.eq_of_beq_eq_true h2
    subst q1 q2
    refine ⟨?_, fun _ => rfl⟩
    cases l <;> simp only [OR] at k ⊢
    obtain ⟨k1, k2, cells, k3, k4⟩ := k
    exact ⟨k1, k2, cells, by rw [lePVs_length h3]; exact k3, leRow_ok c.J_weak h3 k4⟩
  | ice sz xs =>
    cases y <;> simp only [leAO, Bool.and_eq_true] at h <;> first | (exact absurd h Bool.false_ne_true) | skip
    rename_i sz' ys
    obtain ⟨h1, h3⟩ := h
    refine ⟨?_, fun e => by simp [liveO] at e⟩
    cases l <;> simp only [OR] at k ⊢
    refine lePV_ok c.J_weak ?_ k
    simp only [lePV, Bool.and_eq_true]
    refine ⟨⟨rfl, by rw [lePVs_length h3, Nat.beq_refl]⟩, ?_⟩
    have key : ∀ n, n ≤ xs.length → allBl (fun i => lePV (xs.getD i .nilp) (ys.getD i .nilp)) n = true := by
      intro n
      induction n with
      | zero => intro _; rfl
      | succ n ih =>
        intro hn
        simp only [allBl]
        rw [lePVs_get h3 n (by omega)]
        exact ih (by omega)
    exact key _ (Nat.le_refl _)
  | map kk es => cases y <;> simp [leAO] at h
  | iter s p =>
    cases y <;> simp only [leAO, Bool.and_eq_true] at h <;> first | (exact absurd h Bool.false_ne_true) | skip
    rename_i s' p'
    refine ⟨?_, fun _ => rfl⟩
    have := eqB_str h.1
    subst this
    have := Nat.eq_of_beq_eq_true h.2
    subst this
    exact k
theorem leAOs_get : ∀ {xs ys : List AO}, leAOs xs ys = true → xs.length = ys.length ∧ ∀ (i : Nat) (x : AO), xs[i]? = some x → ∃ y, ys[i]? = some y ∧ leAO x y = true
  | [], ys, h => by cases ys <;> simp [leAOs] at h; exact ⟨rfl, fun i x hx => by simp at hx⟩
  | x :: xs, ys, h => by
    cases ys with
    | nil => simp [leAOs] at h
    | cons y ys =>
      simp only [leAOs] at h
      split at h
      · rename_i h1
        obtain ⟨k1, k2⟩ := leAOs_get h
        refine ⟨by simp [k1], fun i z hz => ?_⟩
        cases i with
        | zero => simp at hz; subst hz; exact ⟨y, rfl, h1⟩
        | succ i => simpa using k2 i z (by simpa using hz)
      · cases h
theorem meet_left {c : Cx} {v : Value} {t : Nat} : ∀ {xs ys : List (Nat × AV)}, V c (getSl xs t) v → V c (getSl (meetSl xs ys) t) v
  | [], ys, _ => by cases ys <;> simp [meetSl, getSl, V]
  | (u, x) :: xs, [], _ => by simp [meetSl, getSl, V]
  | (u, x) :: xs, (u', y) :: ys, k => by
    simp only [meetSl]
    split
    · split
      · rw [getSl_cons] at k ⊢
        by_cases hu : u = t
        · rw [if_pos hu] at k ⊢; exact k
        · rw [if_neg hu] at k ⊢; exact meet_left k
      · rw [getSl_cons] at k ⊢
        by_cases hu : u = t
        · rw [if_pos hu]; simp only [V]
        · rw [if_neg hu] at k ⊢; exact meet_left k
    · simp [getSl, V]
theorem meet_right {c : Cx} {v : Value} {t : Nat} : ∀ {xs ys : List (Nat × AV)}, V c (getSl ys t) v → V c (getSl (meetSl xs ys) t) v
  | [], ys, _ => by cases ys <;> simp [meetSl, getSl, V]
  | (u, x) :: xs, [], _ => by simp [meetSl, getSl, V]
  | (u, x) :: xs, (u', y) :: ys, k => by
    simp only [meetSl]
    split
    · rename_i hb
      have := Nat.eq_of_beq_eq_true hb
      subst this
      split
      · rename_i hle
        rw [getSl_cons] at k ⊢
        by_cases hu : u = t
        · rw [if_pos hu] at k ⊢; exact leAV_ok hle k
        · rw [if_neg hu] at k ⊢; exact meet_right k
      · rw [getSl_cons] at k ⊢
        by_cases hu : u = t
        · rw [if_pos hu]; simp only [V]
        · rw [if_neg hu] at k ⊢; exact meet_right k
    · simp [getSl, V]
theorem leSt_left {nt : Nat} {D : List Deferred} {s : St} (ys : List (Nat × AV)) {c : Cx} {a : Act} (hs : SR nt D s c a) : SR nt D ⟨meetSl s.sl ys, s.hp⟩ c a :=
  ⟨fun t => meet_left (hs.sl t), hs.hp, hs.size, hs.defers⟩
theorem leSt_ok {nt : Nat} {D : List Deferred} {s t : St} (h : leSt s t = true) {c : Cx} {a : Act} (hs : SR nt D t c a) {n0 : Nat} {c0 : Cx} {h0 : HP} (hk : Kept n0 c0 h0 c (hpOf t.hp)) :
    SR nt D ⟨meetSl s.sl t.sl, s.hp⟩ c a ∧ Kept n0 c0 h0 c (hpOf s.hp) := by
  simp only [leSt, Bool.and_eq_true] at h
  obtain ⟨h1, h2⟩ := h
  obtain ⟨k1, k2⟩ := leAOs_get h2
  have live : ∀ i, Live (hpOf s.hp) i → Live (hpOf t.hp) i := by
    rintro i ⟨o, q1, q2⟩
    obtain ⟨y, q3, q4⟩ := k2 i o q1
    exact ⟨y, q3, (leAO_ok q4 ((hs.hp.hr.obj i y q3).2)).2 q2⟩
  refine ⟨⟨fun t => meet_right (hs.sl t), ⟨⟨fun i o ho => ?_, fun i j b hi hj => hs.hp.hr.inj i j b (live i hi) (live j hj), fun i b hi => hs.hp.hr.apart i b (live i hi), hs.hp.hr.bound, fun i b hi => hs.hp.hr.size i b (live i hi), fun i b hi => hs.hp.hr.low i b (live i hi), hs.hp.hr.base⟩, fun i => by show c.born i ↔ i < s.hp.length; rw [k1]; exact hs.hp.born i⟩, hs.size, hs.defers⟩, ⟨⟨hk.fr.os, hk.fr.tape, hk.fr.output, hk.fr.size, hk.fr.keep, hk.fr.mono, hk.fr.new, fun i b hi => hk.fr.live i b (live i hi), hk.fr.base⟩, hk.β⟩⟩
  obtain ⟨y, q3, q4⟩ := k2 i o ho
  obtain ⟨q5, q6⟩ := hs.hp.hr.obj i y q3
  exact ⟨q5, (leAO_ok q4 q6).1⟩
theorem sameEx_eq {a b : Ex} (h : sameEx a b = true) : a = b := by
  cases a <;> cases b <;> simp only [sameEx] at h <;> first | rfl | cases h | (rw [Nat.eq_of_beq_eq_true h])
theorem after_op {nt : Nat} {s : St} {D : List Deferred} {n0 : Nat} {o : Oper} {c c' : Cx} {a : Act} {u : Value} {v : AV} {wr : List (Nat × AO)} (hd : dstOk nt o.dst = true) (hok : okWr s.hp.length wr = true) (hs : SR nt D s c a)
    (hu : V c' v u) (hr : HR c' (updH (hpOf s.hp) wr)) (he : Ext c c') (hf : Fr c (hpOf s.hp) c' (updH (hpOf s.hp) wr)) (hb : ∀ i, c'.born i → c.born i ∨ Names wr i) :
    SR nt D ⟨(s.put o.dst v).sl, writeO s.hp wr⟩ c' (a.put o.dst u) ∧ Kept n0 c (hpOf s.hp) c' (hpOf (writeO s.hp wr)) := by
  refine ⟨⟨V_put hd hs.size (fun t => V.mono he _ _ (hs.sl t)) hu, hs.hp.of hok hr he hb, by rw [put_size]; exact hs.size, by rw [put_defers]; exact hs.defers⟩, Kept.of_ext he ?_⟩
  have := (writeO_spec wr s.hp hok).1
  show Fr c (hpOf s.hp) c' (hpOf (writeO s.hp wr))
  rw [this]
  exact hf
theorem wanted_none {o : Oper} (h : o.guard = none) (f : Nat → Option Bool) : Region.wanted o f = true := by simp [Region.wanted, h]
theorem runList_sound {env : Env} {plain : PlainT} (hE : EnvOK env plain) (ops : Array Oper) (n0 : Nat) : ∀ (l : List Nat) (s : St) (K : St → Prop), runList env ops l s K →
    ∃ s', K s' ∧ ∀ (D : List Deferred) (c : Cx) (a : Act) (Q : Exit → Act → World → Prop), SR env.nt D s c a →
      (∀ c' a', SR env.nt D s' c' a' → Kept n0 c (hpOf s.hp) c' (hpOf s'.hp) → Q .normal a' c'.w) → wpOps env.P ops Q l a c.w
  | [], s, K, h => ⟨s, h, fun D c a Q hs hq => by simpa [wpOps] using hq c a hs (Kept.refl n0 c _)⟩
  | i :: r, s, K, h => by
    simp only [runList] at h
    split at h
    · rename_i o ho
      split at h
      · rename_i hg hd
        obtain ⟨v, wr, h2, h3⟩ := hE.S o _ _ _ h
        split at h2
        · rename_i hok
          obtain ⟨s', h4, h5⟩ := runList_sound hE ops n0 r _ K h2
          refine ⟨s', h4, fun D c a Q hs hq => ?_⟩
          simp only [wpOps, ho]
          rw [wanted_none hg]
          simp only [if_true]
          refine .inl (h3 c (hpOf s.hp) a _ Q (fun x _ => evalA_V hs.sl x) (fun i hi => getO_hp hi) (fun i hi _ hb => ?_) hs.hr fun u c' hu hr he hf hb => ?_)
          · have := (hs.hp.born i).1 hb
            omega
          · obtain ⟨k1, k2⟩ := after_op (n0 := n0) hd hok hs hu hr he hf hb
            exact h5 D c' _ Q k1 fun c2 a2 hs2 hk2 => hq c2 a2 hs2 (Kept.trans k2 hk2)
        · exact h2.elim
      · exact h.elim
    · exact h.elim
theorem eqNats_eq : ∀ {a b : List Nat}, eqNats a b = true → a = b
  | [], [], _ => rfl
  | [], _ :: _, h => by simp [eqNats] at h
  | _ :: _, [], h => by simp [eqNats] at h
  | x :: xs, y :: ys, h => by
    simp only [eqNats] at h
    split at h
    · rename_i hb
      rw [Nat.eq_of_beq_eq_true hb, eqNats_eq h]
    · cases h
theorem both_alloc {P : Program} {ops : Array Oper} {Q : Exit → Act → World → Prop} {i : Nat} {o : Oper} {T : TypeId} (ho : ops[i]? = some o) (hop : o.op = .alloc T) {K1 K2 : Act → World → Prop} {a : Act} {w : World}
    (h1 : wpOp P ops Q i K1 a w) (h2 : wpOp P ops Q i K2 a w) : wpOp P ops Q i (fun a w => K1 a w ∧ K2 a w) a w := by
  unfold wpOp at *
  simp only [ho] at *
  split
  · rename_i hw
    simp only [hw, if_true] at h1 h2
    rcases h1 with h1 | h1
    · rcases h2 with h2 | h2
      · refine .inl ?_
        unfold Oper.wp at *
        have e : (execOp a.eval o).run P w = ((Instr.alloc T true (.tuple #[])).run P w).andThen fun u w' => .ok (.value u) w' := by
          unfold execOp
          rw [hop]
          simp
        rw [e] at h1 h2 ⊢
        cases hr : (Instr.alloc T true (.tuple #[])).run P w with
        | ok u w' =>
          rw [hr] at h1 h2
          exact ⟨h1, h2⟩
        | halt x w' =>
          rw [hr] at h1 h2
          cases x <;> first | exact h1 | exact h1.elim
      · exact .inr h2
    · exact .inr h1
  · rename_i hw
    simp only [hw] at h1 h2
    exact ⟨h1, h2⟩
theorem choice_wp {P : Program} {ops : Array Oper} {q : Tmp} (h : isChoice ops q = true) {Q : Exit → Act → World → Prop} {a : Act} {w : World} (h1 : wpOps P ops Q [0, 1, 2, 3] a w) (h2 : wpOps P ops Q [0, 2, 1, 3] a w) :
    wpAny P .any ops Q ops.size (Array.replicate ops.size false) a w := by
  unfold isChoice at h
  split at h
  · rename_i p T _ _ _ _ _ _ _ _ _ _ _ _ _ _ _ _ _ _ _ _ _ _ _ _ hl
    simp only [Bool.and_eq_true] at h
    obtain ⟨⟨⟨⟨⟨⟨⟨⟨⟨_, g0⟩, g1⟩, g2⟩, g3⟩, g4⟩, g5⟩, g6⟩, g7⟩, g8⟩ := h
    have e0 := Nat.eq_of_beq_eq_true g0
    have e1 := eqNats_eq g1
    have e2 := eqNats_eq g2
    have e3 := eqNats_eq g3
    have e4 := eqNats_eq g4
    have e5 := eqNats_eq g5
    have e6 := eqNats_eq g6
    have e7 := eqNats_eq g7
    have e8 := eqNats_eq g8
    have hz : ∃ o T, ops[0]? = some o ∧ o.op = .alloc T := by
      rw [← Array.getElem?_toList, hl]
      exact ⟨_, _, rfl, rfl⟩
    obtain ⟨o, T, ho, hop⟩ := hz
    rw [e0]
    simp only [wpOps_cons] at h1 h2
    have hb := both_alloc ho hop h1 h2
    simp only [wpAny, e1]
    refine ⟨fun e => (by cases e), fun i hi => ?_⟩
    have : i = 0 := by simpa using hi
    subst this
    refine wpOp_mono (fun a w hk => ?_) hb
    simp only [e2]
    refine ⟨fun e => (by cases e), fun i hi => ?_⟩
    have : i = 1 ∨ i = 2 := by simpa using hi
    rcases this with rfl | rfl
    · refine wpOp_mono (fun a w hk => ?_) hk.1
      simp only [e3]
      refine ⟨fun e => (by cases e), fun i hi => ?_⟩
      have : i = 2 := by simpa using hi
      subst this
      refine wpOp_mono (fun a w hk => ?_) hk
      simp only [e5]
      refine ⟨fun e => (by cases e), fun i hi => ?_⟩
      have : i = 3 := by simpa using hi
      subst this
      refine wpOp_mono (fun a w hk => ?_) hk
      exact ⟨e7, by simpa [wpOps] using hk⟩
    · refine wpOp_mono (fun a w hk => ?_) hk.2
      simp only [e4]
      refine ⟨fun e => (by cases e), fun i hi => ?_⟩
      have : i = 1 := by simpa using hi
      subst this
      refine wpOp_mono (fun a w hk => ?_) hk
      simp only [e6]
      refine ⟨fun e => (by cases e), fun i hi => ?_⟩
      have : i = 3 := by simpa using hi
      subst this
      refine wpOp_mono (fun a w hk => ?_) hk
      exact ⟨e8, by simpa [wpOps] using hk⟩
  · cases h
end Go.RX
namespace Go.RX
def toExit : Ex → Exit
  | .normal => .normal
  | .exit id => .exit id
  | .ret => .ret
  | .goto l => .goto l
def jumps (P : Program) (c : Code) (Q : Exit → Act → World → Prop) : Nat → Nat → Act → World → Prop
  | 0, _, _, _ => False
  | n + 1, l, a, w => ∃ rest, findLabel c l = some rest ∧ rest.wp P (fun e a w => match e with
    | .goto l' => jumps P c Q n l' a w
    | e => Q e a w) a w
def onGoto (J : Nat → Act → World → Prop) (Q : Exit → Act → World → Prop) : Exit → Act → World → Prop
  | .goto l, a, w => J l a w
  | e, a, w => Q e a w
theorem wp_scope_gotos {P : Program} {a : Act} {w : World} {Q : Exit → Act → World → Prop} {c : Code} (h : c.wp P (onGoto (fun l a w => ∃ n, jumps P c Q n l a w) Q) a w) : (Code.scope c).wp P Q a w := by
  intro b k cs
  have key : ∀ n l a w, jumps P c Q n l a w → ∃ rest, findLabel c l = some rest ∧ ∃ e a' w', Q e a' w' ∧ Arrives P (lone (b.at a (.code rest :: .inScope c :: k)) cs w) b k cs e a' w' := by
    intro n
    induction n with
    | zero => intro l a w h; exact h.elim
    | succ n ih =>
      intro l a w h
      obtain ⟨rest, hf, h⟩ := h
      refine ⟨rest, hf, ?_⟩
      obtain ⟨e, a₁, w₁, hq, harr⟩ := h b (.inScope c :: k) cs
      cases e with
      | normal => exact ⟨.normal, a₁, w₁, hq, Steps.trans harr (.one step_inScope)⟩
      | exit id => exact ⟨.exit id, a₁, w₁, hq, fun k' hk => harr k' (by simp [exitTo, hk])⟩
      | goto l' =>
        obtain ⟨rest', hf', e₂, a₂, w₂, hq₂, harr₂⟩ := ih l' a₁ w₁ hq
        exact ⟨e₂, a₂, w₂, hq₂, .of_steps (harr _ (by simp [gotoIn, hf'])) harr₂⟩
      | ret => exact ⟨_, a₁, w₁, hq, harr⟩
      | panic ch => exact ⟨_, a₁, w₁, hq, harr⟩
      | outgrown => exact ⟨_, a₁, w₁, hq, harr⟩
  obtain ⟨e, a₁, w₁, hq, harr⟩ := h b (.inScope c :: k) cs
  cases e with
  | normal => exact ⟨.normal, a₁, w₁, hq, .head step_scope (Steps.trans harr (.one step_inScope))⟩
  | exit id => exact ⟨.exit id, a₁, w₁, hq, fun k' hk => .head step_scope (harr k' (by simp [exitTo, hk]))⟩
  | goto l' =>
    obtain ⟨n, hq⟩ := hq
    obtain ⟨rest', hf', e₂, a₂, w₂, hq₂, harr₂⟩ := key n l' a₁ w₁ hq
    exact ⟨e₂, a₂, w₂, hq₂, .of_steps (.head step_scope (harr _ (by simp [gotoIn, hf']))) harr₂⟩
  | ret => exact ⟨_, a₁, w₁, hq, .of_steps (.one step_scope) harr⟩
  | panic ch => exact ⟨_, a₁, w₁, hq, .of_steps (.one step_scope) harr⟩
  | outgrown => exact ⟨_, a₁, w₁, hq, .of_steps (.one step_scope) harr⟩
theorem jumps_mono {P : Program} {c : Code} {Q Q' : Exit → Act → World → Prop} (hq : ∀ e a w, Q e a w → Q' e a w) : ∀ {n l : Nat} {a : Act} {w : World}, jumps P c Q n l a w → jumps P c Q' n l a w
  | 0, _, _, _, h => h.elim
  | n + 1, l, a, w, h => by
    obtain ⟨rest, hf, h⟩ := h
    refine ⟨rest, hf, wp_mono h fun e a' w' he => ?_⟩
    cases e with
    | goto l' => exact jumps_mono hq he
    | _ => exact hq _ _ _ he
def Post (D : List Deferred) (env : Env) (s' : St) (ex : Ex) (c0 : Cx) (h0 : HP) : Exit → Act → World → Prop := fun e a w =>
  e = toExit ex ∧ ∃ c', c'.w = w ∧ SR env.nt D s' c' a ∧ Kept env.n0 c0 h0 c' (hpOf s'.hp)
def Goes (env : Env) (code : Code) (s : St) (ex : Ex) (s' : St) : Prop :=
  ∀ (D : List Deferred) (c : Cx) (a : Act), SR env.nt D s c a → code.wp env.P (Post D env s' ex c (hpOf s.hp)) a c.w
def LoopOK (env : Env) (c : Code) (L : LoopO) : Prop := ∀ s K, L s K → ∃ n ex s', K ex s' ∧ ∀ (D : List Deferred) (c0 : Cx) (a : Act), SR env.nt D s c0 a → Code.rounds env.P c (Post D env s' ex c0 (hpOf s.hp)) n a c0.w
def GotoOK (env : Env) (c : Code) (G : Nat → LoopO) : Prop := ∀ l s K, G l s K → ∃ n ex s', K ex s' ∧ ∀ (D : List Deferred) (c0 : Cx) (a : Act), SR env.nt D s c0 a → jumps env.P c (Post D env s' ex c0 (hpOf s.hp)) n l a c0.w
theorem no_goto {env : Env} (h : ∀ l s K, ¬ env.G l s K) (c : Code) : GotoOK env c env.G := fun l s K hk => absurd hk (h l s K)
theorem rounds_mono {P : Program} {c : Code} {Q Q' : Exit → Act → World → Prop} (hq : ∀ e a w, Q e a w → Q' e a w) : ∀ {n : Nat} {a : Act} {w : World}, Code.rounds P c Q n a w → Code.rounds P c Q' n a w
  | 0, _, _, h => h.elim
  | n + 1, a, w, h => by
    rw [rounds_succ] at h ⊢
    refine wp_mono h fun e a' w' he => ?_
    cases e with
    | normal => exact rounds_mono hq he
    | _ => exact hq _ _ _ he
theorem getSl_ren (f : Nat → Option Nat) : ∀ (sl : List (Nat × AV)) (t : Nat), getSl (renSl f sl) t = renAV f (getSl sl t)
  | [], t => by simp [renSl, getSl, renAV]
  | (u, v) :: r, t => by
    simp only [renSl]
    rw [getSl_cons, getSl_cons]
    split
    · rfl
    · exact getSl_ren f r t
theorem keepSl_V {c : Cx} {sl : List (Nat × AV)} {f : Nat → Value} (h : ∀ t, V c (getSl sl t) (f t)) : ∀ (l : List Nat) (t : Nat), V c (getSl (keepSl sl l) t) (f t)
  | [], t => by simp [keepSl, getSl, V]
  | u :: r, t => by
    simp only [keepSl]
    rw [getSl_cons]
    split
    · rename_i e; rw [← e]; exact h u
    · exact keepSl_V h r t
theorem pick_map (h : List AO) : ∀ L : List Nat, pick h L = L.map (getO h)
  | [] => rfl
  | i :: r => by simp [pick, pick_map h r]
theorem prefixIs_get : ∀ {n : Nat} {L : List Nat} {a : Nat}, prefixIs n L a = true → ∀ i, i < n → L[i]? = some (a + i)
  | 0, _, _, _, i, hi => by omega
  | n + 1, [], _, h, _, _ => by simp [prefixIs] at h
  | n + 1, j :: r, a, h, i, hi => by
    simp only [prefixIs] at h
    cases hb : Nat.beq j a with
    | false => rw [hb] at h; cases h
    | true =>
      rw [hb] at h
      have hj := Nat.eq_of_beq_eq_true hb
      cases i with
      | zero => simp [hj]
      | succ i =>
        have := prefixIs_get h i (by omega)
        rw [List.getElem?_cons_succ, this]
        congr 1
        omega
theorem ren_callee (c : Cx) (L : List Nat) : RenOK (place L) c (calleeCx c L) := by
  refine ⟨fun i j hf _ => ?_, fun _ h => h, fun _ _ => rfl, rfl⟩
  have h1 := place_some hf
  refine ⟨(List.getElem?_eq_some_iff.1 h1).1, ?_⟩
  show c.β (bk L 0 j) = c.β i
  unfold bk
  rw [h1]
theorem callee_kept {c : Cx} {h : List AO} {L : List Nat} {n0 : Nat} (hp : prefixIs n0 L 0 = true) : Kept n0 c (hpOf h) (calleeCx c L) (hpOf (renAOs (place L) (L.map (getO h)))) := by
  refine ⟨⟨rfl, rfl, rfl, Nat.le_refl _, fun _ _ _ => rfl, fun _ h => h, fun _ h => .inl h, fun j b hj hb => .inr ?_, rfl⟩, fun i hi _ => ?_⟩
  · obtain ⟨o, h1, h2⟩ := hj
    simp only [hpOf, renAOs_get, List.getElem?_map] at h1
    cases hL : L[j]? with
    | none => rw [hL] at h1; simp at h1
    | some i =>
      rw [hL] at h1
      simp at h1
      subst h1
      rw [liveO_ren] at h2
      refine ⟨i, ⟨getO h i, getO_hp (fun e => by rw [e] at h2; simp [liveO] at h2), h2⟩, ?_⟩
      rw [← hb]
      show _ = (c.β (bk L 0 j)).block
      unfold bk
      rw [hL]
  · have := prefixIs_get hp i hi
    rw [Nat.zero_add] at this
    refine ⟨(List.getElem?_eq_some_iff.1 this).1, ?_⟩
    show c.β (bk L 0 i) = c.β i
    unfold bk
    rw [this]
theorem canon_sound {nt n0 : Nat} {s : St} {K : St → Prop} (h : canon n0 s K) : ∃ s', K s' ∧ ∀ D c a, SR nt D s c a → ∃ c', c'.w = c.w ∧ SR nt D s' c' a ∧ Kept n0 c (hpOf s.hp) c' (hpOf s'.hp) := by
  unfold canon at h
  simp only at h
  split at h
  · rename_i hchk
    simp only [Bool.and_eq_true] at hchk
    obtain ⟨⟨h1, h2⟩, h3⟩ := hchk
    generalize reach (getO s.hp) 1000 (idsOfs (getO s.hp) (upto n0) ++ idsAVs (slVals s.sl)) (upto n0) = L at h h1 h2 h3
    rw [pick_map] at h
    refine ⟨_, h, fun D c a hs => ⟨calleeCx c L, rfl, ⟨fun t => ?_, ?_, hs.size, hs.defers⟩, callee_kept h2⟩⟩
    · rw [getSl_ren]
      exact V_ren (ren_callee c L) _ _ (hs.sl t)
    · exact callee_hr hs.hp.hr (tells_of hs.hp.hr fun i hi => getO_hp hi) (nodup_iff.1 h1)
  · exact h.elim
theorem blt_self (n : Nat) : Nat.blt n n = false := by
  cases h : Nat.blt n n with
  | false => rfl
  | true => exact absurd (blt_true h) (Nat.lt_irrefl n)
def thawCx (c : Cx) (n sz : Nat) : Cx := ⟨fun j => if j = n then .rowv (.slice none 0 0) sz else c.β j, c.I, c.w, fun j => c.born j ∨ j = n, c.base⟩
theorem thaw_ext {c : Cx} {n : Nat} (hn : ¬ c.born n) (sz : Nat) : Ext c (thawCx c n sz) :=
  ⟨fun _ h => .inl h, fun i hi => if_neg (fun e : i = n => hn (e ▸ hi)), fun _ h => h, fun _ _ => rfl, rfl⟩
theorem thaw_hr {c : Cx} {h : HP} (hh : HR c h) {n : Nat} (hn : ¬ c.born n) {e sz : Nat} (hsz : 0 < sz) :
    HR (thawCx c n sz) (updH h [(n, .row e sz [])]) ∧ Fr c h (thawCx c n sz) (updH h [(n, .row e sz [])]) := by
  have hext := thaw_ext hn sz
  have hβ : ∀ j, j ≠ n → (thawCx c n sz).β j = c.β j := fun j hj => if_neg hj
  have hβn : (thawCx c n sz).β n = .rowv (.slice none 0 0) sz := if_pos rfl
  have hnone : ((thawCx c n sz).β n).block = none := by rw [hβn]; rfl
  have live : ∀ j b, Live (updH h [(n, .row e sz [])]) j → ((thawCx c n sz).β j).block = some b → j ≠ n ∧ Live h j ∧ (c.β j).block = some b := by
    intro j b hj hb
    rcases live_upd1 hj with ⟨e1, _⟩ | ⟨e1, hj'⟩
    · subst e1; rw [hnone] at hb; cases hb
    · exact ⟨e1, hj', by rw [← hβ j e1]; exact hb⟩
  refine ⟨⟨fun j x hx => ?_, fun j k b hj hk hjb hkb => ?_, fun j b hj hjb => ?_, hh.bound, fun j b hj hjb => ?_, fun j b hj hjb => ?_, hh.base⟩, ⟨rfl, rfl, rfl, Nat.le_refl _, fun _ _ _ => rfl, fun _ h => h, fun _ h => .inl h, fun j b hj hjb => ?_, rfl⟩⟩
  · simp only [updH] at hx
    by_cases e1 : j = n
    · rw [if_pos e1] at hx
      injection hx with hx
      subst hx e1
      refine ⟨.inr rfl, ?_⟩
      rw [hβn]
      refine ⟨rfl, hsz, [], World.ownsRow_nil _ _ _ _, rfl⟩
    · rw [if_neg e1] at hx
      obtain ⟨h1, h2⟩ := hh.obj j x hx
      refine ⟨.inl h1, ?_⟩
      rw [hβ j e1]
      exact h2.mono hext fun _ _ => rfl
  · obtain ⟨_, h1, h2⟩ := live j b hj hjb
    obtain ⟨_, h3, h4⟩ := live k b hk hkb
    exact hh.inj j k b h1 h3 h2 h4
  · obtain ⟨_, h1, h2⟩ := live j b hj hjb
    exact hh.apart j b h1 h2
  · obtain ⟨_, h1, h2⟩ := live j b hj hjb
    exact hh.size j b h1 h2
  · obtain ⟨_, h1, h2⟩ := live j b hj hjb
    exact hh.low j b h1 h2
  · obtain ⟨_, h1, h2⟩ := live j b hj hjb
    exact .inr ⟨j, h1, h2⟩
theorem retell_hr {c : Cx} {h : HP} (hh : HR c h) {i : Nat} {o o' : AO} (hi : h i = some o) (hl : liveO o = true) (ho : OR c o' (c.β i)) :
    HR c (updH h [(i, o')]) ∧ Fr c h c (updH h [(i, o')]) := by
  have live : ∀ j, Live (updH h [(i, o')]) j → Live h j := by
    intro j hj
    rcases live_upd1 hj with ⟨e1, _⟩ | ⟨e1, hj'⟩
    · subst e1; exact ⟨o, hi, hl⟩
    · exact hj'
  refine ⟨⟨fun j x hx => ?_, fun j k b hj hk hjb hkb => hh.inj j k b (live j hj) (live k hk) hjb hkb, fun j b hj hjb => hh.apart j b (live j hj) hjb, hh.bound, fun j b hj hjb => hh.size j b (live j hj) hjb, fun j b hj hjb => hh.low j b (live j hj) hjb, hh.base⟩,
    ⟨rfl, rfl, rfl, Nat.le_refl _, fun _ _ _ => rfl, fun _ h => h, fun _ h => .inl h, fun j b hj hjb => .inr ⟨j, live j hj, hjb⟩, rfl⟩⟩
  simp only [updH] at hx
  by_cases e1 : j = i
  · rw [if_pos e1] at hx
    injection hx with hx
    subst hx e1
    exact ⟨(hh.obj j o hi).1, ho⟩
  · rw [if_neg e1] at hx
    exact hh.obj j x hx
theorem Vs.set_ {c : Cx} : ∀ {cs : List AV} {C : List Value} (i : Nat) (x : AV), Vs c cs C → (∀ u, C[i]? = some u → V c x u) → Vs c (cs.set i x) C
  | [], C, i, x, h, _ => h
  | y :: r, C, 0, x, h, hx => by
    simp only [Vs, List.set_cons_zero] at h ⊢
    obtain ⟨u, us, rfl, h1, h2⟩ := h
    exact ⟨u, us, rfl, hx u rfl, h2⟩
  | y :: r, C, i + 1, x, h, hx => by
    simp only [Vs, List.set_cons_succ] at h ⊢
    obtain ⟨u, us, rfl, h1, h2⟩ := h
    exact ⟨u, us, rfl, h1, Vs.set_ i x h2 fun v hv => hx v (by simpa using hv)⟩
theorem thawAt_sound {P : Program} {nt n0 : Nat} (e : Nat) (s : St) (x : Nat × Option Nat) : ∀ D c a, SR nt D s c a → ∃ c', c'.w = c.w ∧ SR nt D (thawAt P e s x) c' a ∧ Kept n0 c (hpOf s.hp) c' (hpOf (thawAt P e s x).hp) := by
  intro D c a hs
  have same : ∀ s', s' = s → ∃ c', c'.w = c.w ∧ SR nt D s' c' a ∧ Kept n0 c (hpOf s.hp) c' (hpOf s'.hp) := fun s' e => ⟨c, rfl, e ▸ hs, by rw [e]; exact Kept.refl n0 c _⟩
  have hnb : ¬ c.born s.hp.length := fun h => by have := (hs.hp.born _).1 h; omega
  have hpush : ∀ (h : List AO) (o : AO), hpOf (h ++ [o]) = updH (hpOf h) [(h.length, o)] := by
    intro h o
    have := (writeO_spec [(h.length, o)] h (by simp [okWr, blt_self])).1
    rw [← this]
    simp [writeO, blt_self]
  obtain ⟨t, cell⟩ := x
  cases cell with
  | none =>
    unfold thawAt
    split
    · rename_i heq
      injection heq with e1 e2
      subst e1
      split
      · rename_i hv
        split
        · rename_i sz hsz
          split
          · rename_i hpos
            obtain ⟨k1, k2⟩ := thaw_hr hs.hp.hr hnb (e := e) (sz := sz) (blt_true hpos)
            refine ⟨thawCx c s.hp.length sz, rfl, ⟨fun u => ?_, ⟨by rw [hpush]; exact k1, fun i => ?_⟩, hs.size, hs.defers⟩, Kept.of_ext (thaw_ext hnb sz) (by rw [hpush]; exact k2)⟩
            · rw [getSl_cons]
              split
              · rename_i et
                subst et
                have h1 := hs.sl t
                rw [hv] at h1
                have h2 := V_nils h1
                rw [h2]
                exact ⟨.inr rfl, none, 0, 0, sz, rfl, if_pos rfl⟩
              · exact V.mono (thaw_ext hnb sz) _ _ (hs.sl u)
            · simp only [thawCx, List.length_append, List.length_singleton]
              rw [hs.hp.born i]
              omega
          · exact same _ rfl
        · exact same _ rfl
      · exact same _ rfl
    · rename_i heq; cases heq
  | some k =>
    unfold thawAt
    split
    · rename_i heq; cases heq
    · rename_i heq
      injection heq with e1 e2
      injection e2 with e2
      subst e1 e2
      split
      · rename_i id off hv
        split
        · rename_i cs hbox
          split
          · rename_i hc
            split
            · rename_i sz hsz
              split
              · rename_i hpos
                have hid : hpOf s.hp id = some (.box cs) := by rw [← hbox]; exact getO_hp (by rw [hbox]; simp)
                have hidlt : id < s.hp.length := (List.getElem?_eq_some_iff.1 hid).1
                obtain ⟨k1, k2⟩ := thaw_hr hs.hp.hr hnb (e := e) (sz := sz) (blt_true hpos)
                have hext := thaw_ext hnb sz
                have hne : id ≠ s.hp.length := by omega
                have hid' : updH (hpOf s.hp) [(s.hp.length, .row e sz [])] id = some (.box cs) := by
                  simp only [updH]
                  rw [if_neg hne]; exact hid
                obtain ⟨k3, k4⟩ := retell_hr k1 hid' rfl (o' := .box (cs.set k (.row s.hp.length))) (by
                  have := (k1.obj id _ hid').2
                  cases hl : (thawCx c s.hp.length sz).β id with
                  | none => rw [hl] at this; simp only [OR] at this
                  | rowv _ _ => rw [hl] at this; simp only [OR] at this
                  | blk b =>
                    rw [hl] at this
                    simp only [OR] at this ⊢
                    obtain ⟨C, ty, h1, h2, h3⟩ := this
                    refine ⟨C, ty, h1, Vs.set_ k _ h2 fun u hu => ?_, h3⟩
                    obtain ⟨u', h4, h5⟩ := h2.get k _ hc
                    rw [hu] at h4
                    injection h4 with h4
                    subst h4
                    have := V_nils h5
                    rw [this]
                    exact ⟨.inr rfl, none, 0, 0, sz, rfl, if_pos rfl⟩)
                have hheap : hpOf (setO s.hp id (.box (cs.set k (.row s.hp.length))) ++ [.row e sz []]) = updH (updH (hpOf s.hp) [(s.hp.length, .row e sz [])]) [(id, .box (cs.set k (.row s.hp.length)))] := by
                  rw [hpush, setO_length]
                  funext j
                  simp only [updH, hpOf, setO_get s.hp id _ j hidlt]
                  by_cases ej : j = s.hp.length
                  · rw [if_pos ej, if_neg (by omega), if_pos ej]
                  · rw [if_neg ej]
                    split
                    · rfl
                    · rfl
                refine ⟨thawCx c s.hp.length sz, rfl, ⟨fun u => V.mono hext _ _ (hs.sl u), ⟨by rw [hheap]; exact k3, fun i => ?_⟩, hs.size, hs.defers⟩, Kept.of_ext hext (by rw [hheap]; exact k2.trans k4)⟩
                simp only [thawCx, List.length_append, List.length_singleton, setO_length]
                rw [hs.hp.born i]
                omega
              · exact same _ rfl
            · exact same _ rfl
          · exact same _ rfl
        · exact same _ rfl
      · exact same _ rfl
theorem thawAll_sound {P : Program} {nt n0 : Nat} : ∀ (l : List (Nat × (Nat × Option Nat))) (s : St) D c a, SR nt D s c a → ∃ c', c'.w = c.w ∧ SR nt D (thawAll P l s) c' a ∧ Kept n0 c (hpOf s.hp) c' (hpOf (thawAll P l s).hp)
  | [], s, D, c, a, hs => ⟨c, rfl, hs, Kept.refl n0 c _⟩
  | (e, x) :: r, s, D, c, a, hs => by
    obtain ⟨c1, h1, h2, h3⟩ := thawAt_sound (P := P) (n0 := n0) e s x D c a hs
    obtain ⟨c2, h4, h5, h6⟩ := thawAll_sound r _ D c1 a h2
    exact ⟨c2, h4.trans h1, h5, h3.trans h6⟩
theorem keep_SR {nt : Nat} {D : List Deferred} {s : St} {c : Cx} {a : Act} (h : SR nt D s c a) (l : List Nat) : SR nt D { s with sl := keepSl s.sl l } c a :=
  ⟨keepSl_V h.sl l, h.hp, h.size, h.defers⟩
theorem norm_sound {env : Env} {b : Nat} {e : Ex} {s : St} {K : St → Prop} (h : norm env b e s K) : ∃ s', K s' ∧ ∀ D c a, SR env.nt D s c a → ∃ c', c'.w = c.w ∧ SR env.nt D s' c' a ∧ Kept env.n0 c (hpOf s.hp) c' (hpOf s'.hp) := by
  unfold norm at h
  split at h
  · obtain ⟨s', h1, h2⟩ := canon_sound (nt := env.nt) h
    refine ⟨s', h1, fun D c a hs => ?_⟩
    obtain ⟨c1, h3, h4, h5⟩ := thawAll_sound (P := env.P) (n0 := env.n0) (env.thaw b) s D c a hs
    obtain ⟨c2, h6, h7, h8⟩ := h2 D c1 a (keep_SR h4 _)
    exact ⟨c2, h6.trans h3, h7, h5.trans h8⟩
  · obtain ⟨s', h1, h2⟩ := canon_sound (nt := env.nt) h
    exact ⟨s', h1, fun D c a hs => h2 D c a (keep_SR hs _)⟩
  · obtain ⟨s', h1, h2⟩ := canon_sound (nt := env.nt) h
    exact ⟨s', h1, fun D c a hs => h2 D c a (keep_SR hs _)⟩
  · exact h.elim
theorem Post.mono {D : List Deferred} {env : Env} {s' : St} {ex : Ex} {c0 c1 : Cx} {h0 h1 : HP} (hk : Kept env.n0 c0 h0 c1 h1) {e : Exit} {a : Act} {w : World} (h : Post D env s' ex c1 h1 e a w) : Post D env s' ex c0 h0 e a w := by
  obtain ⟨h2, c', h3, h4, h5⟩ := h
  exact ⟨h2, c', h3, h4, hk.trans h5⟩
theorem known_SR {nt : Nat} {D : List Deferred} {s : St} {c : Cx} {a : Act} (h : SR nt D s c a) (x : Operand) (b : Bool) (hx : evalA s.sl x = .p (.bool b)) : SR nt D (known x b s) c a := by
  cases x with
  | tmp t =>
    refine ⟨fun u => ?_, h.hp, h.size, h.defers⟩
    show V c (getSl ((t, _) :: s.sl) u) _
    rw [getSl_cons]
    split
    · rename_i e
      subst e
      have := h.sl t
      have hx' : getSl s.sl t = .p (.bool b) := hx
      rw [hx'] at this
      exact this
    · exact h.sl u
  | _ => exact h
theorem known_hp (x : Operand) (b : Bool) (s : St) : (known x b s).hp = s.hp := by cases x <;> rfl
theorem exec_sound {env : Env} {plain : PlainT} (hE : EnvOK env plain) (hm : env.P.follows .mixedOrders = true) : ∀ (code : Code) (b : Nat), (∀ p ∈ loopsIn b code, LoopOK env p.2 (env.L p.1)) → (∀ c ∈ scopesIn code, GotoOK env c env.G) →
    ∀ (s : St) (K : Ex → St → Prop), exec env plain b code s K → ∃ ex s', K ex s' ∧ Goes env code s ex s' := by
  intro code
  induction code with
  | skip =>
    intro b _ _ s K h
    simp only [exec] at h
    exact ⟨.normal, s, h, fun D c a hs => wp_skip ⟨rfl, c, rfl, hs, Kept.refl _ _ _⟩⟩
  | region id ops draw =>
    intro b _ _ s K h
    cases draw with
    | false =>
      simp only [exec] at h
      obtain ⟨s', h1, h2⟩ := runOps_sound hE ops env.n0 ops.toList [] rfl s _ h
      refine ⟨.normal, s', h1, fun D c a hs => wp_region ?_⟩
      have := h2 D c a (Post D env s' .normal c (hpOf s.hp)) hs fun c' a' hs' hk => ⟨rfl, c', rfl, hs', hk⟩
      rw [List.range_eq_range', ← Array.length_toList]
      exact this
    | true =>
      simp only [exec] at h
      obtain ⟨s', h1, h2⟩ := region_sound hE hm id ops env.n0 h
      exact ⟨.normal, s', h1, fun D c a hs => h2 D c a _ hs fun c' a' hs' hk => ⟨rfl, c', rfl, hs', hk⟩⟩
  | seq x y ihx ihy =>
    intro b hl hg s K h
    simp only [exec] at h
    cases hch : choiceOf x y with
    | some ops =>
      rw [hch] at h
      simp only at h
      have hxy : ∃ id q cA cB, x = .region id ops true ∧ y = .cond (.tmp q) cA cB ∧ isChoice ops q = true := by
        unfold choiceOf at hch
        split at hch
        · split at hch
          · rename_i hc
            injection hch with hch
            subst hch
            exact ⟨_, _, _, _, rfl, rfl, hc⟩
          · cases hch
        · cases hch
      obtain ⟨id, q, cA, cB, ex, ey, hcho⟩ := hxy
      have ihy' := ihy b (fun p hp => hl p (by simp only [loopsIn, List.mem_append]; exact .inr hp)) (fun p hp => hg p (by simp only [scopesIn, List.mem_append]; exact .inr hp))
      obtain ⟨s1, k1, r1⟩ := runList_sound hE ops env.n0 _ s _ h
      obtain ⟨e1, z1, k2, g1⟩ := ihy' s1 _ k1
      obtain ⟨y1, k3, c1⟩ := canon_sound (nt := env.nt) k2
      obtain ⟨s2, k4, r2⟩ := runList_sound hE ops env.n0 _ s _ k3
      obtain ⟨e2, z2, k5, g2⟩ := ihy' s2 _ k4
      obtain ⟨y2, k6, c2⟩ := canon_sound (nt := env.nt) k5
      split at k6
      · rename_i hsame
        simp only [Bool.and_eq_true] at hsame
        have e12 := sameEx_eq hsame.1
        subst e12
        refine ⟨e1, ⟨meetSl y1.sl y2.sl, y1.hp⟩, k6, fun D c a hs => ?_⟩
        rw [ex]
        have way1 : ∀ (c0 : Cx) (a : Act), SR env.nt D s c0 a → Kept env.n0 c (hpOf s.hp) c0 (hpOf s.hp) → wpOps env.P ops (Exit.then (y.wp env.P (Post D env ⟨meetSl y1.sl y2.sl, y1.hp⟩ e1 c (hpOf s.hp))) (Post D env ⟨meetSl y1.sl y2.sl, y1.hp⟩ e1 c (hpOf s.hp))) [0, 1, 2, 3] a c0.w := fun c0 a hs0 hk0 => by
          refine r1 D c0 a _ hs0 fun c' a' hs' hk => ?_
          show y.wp env.P _ a' c'.w
          refine wp_mono (g1 D c' a' hs') fun e a2 w2 he => ?_
          obtain ⟨q1, c3, rfl, hs3, hk3⟩ := he
          obtain ⟨c4, q2, hs4, hk4⟩ := c1 D c3 a2 (keep_SR hs3 _)
          exact ⟨q1, c4, q2, leSt_left _ hs4, ((hk0.trans hk).trans hk3).trans hk4⟩
        have way2 : ∀ (c0 : Cx) (a : Act), SR env.nt D s c0 a → Kept env.n0 c (hpOf s.hp) c0 (hpOf s.hp) → wpOps env.P ops (Exit.then (y.wp env.P (Post D env ⟨meetSl y1.sl y2.sl, y1.hp⟩ e1 c (hpOf s.hp))) (Post D env ⟨meetSl y1.sl y2.sl, y1.hp⟩ e1 c (hpOf s.hp))) [0, 2, 1, 3] a c0.w := fun c0 a hs0 hk0 => by
          refine r2 D c0 a _ hs0 fun c' a' hs' hk => ?_
          show y.wp env.P _ a' c'.w
          refine wp_mono (g2 D c' a' hs') fun e a2 w2 he => ?_
          obtain ⟨q1, c3, rfl, hs3, hk3⟩ := he
          obtain ⟨c4, q2, hs4, hk4⟩ := c2 D c3 a2 (keep_SR hs3 _)
          obtain ⟨q3, q4⟩ := leSt_ok hsame.2 hs4 (((hk0.trans hk).trans hk3).trans hk4)
          exact ⟨q1, c4, q2, q3, q4⟩
        have hsd : SR env.nt D s c.draw a := ⟨fun t => V.mono (draw_ext c) _ _ (hs.sl t), ⟨draw_hr hs.hp.hr, hs.hp.born⟩, hs.size, hs.defers⟩
        have hkd : Kept env.n0 c (hpOf s.hp) c.draw (hpOf s.hp) := Kept.of_ext (draw_ext c) (draw_fr c _)
        exact wp_seq (wp_region_any hm (choice_wp hcho (way1 c.draw a hsd hkd) (way2 c.draw a hsd hkd)))
      · exact k6.elim
    | none =>
    rw [hch] at h
    simp only at h
    obtain ⟨ex, s1, h1, h2⟩ := ihx b (fun p hp => hl p (by simp only [loopsIn, List.mem_append]; exact .inl hp)) (fun p hp => hg p (by simp only [scopesIn, List.mem_append]; exact .inl hp)) s _ h
    cases ex with
    | normal =>
      obtain ⟨ex2, s2, h3, h4⟩ := ihy b (fun p hp => hl p (by simp only [loopsIn, List.mem_append]; exact .inr hp)) (fun p hp => hg p (by simp only [scopesIn, List.mem_append]; exact .inr hp)) s1 K h1
      refine ⟨ex2, s2, h3, fun D c a hs => wp_seq (wp_mono (h2 D c a hs) fun e a' w' he => ?_)⟩
      obtain ⟨rfl, c', rfl, hs', hk⟩ := he
      exact wp_mono (h4 D c' a' hs') fun _ _ _ hp => hp.mono hk
    | exit id =>
      refine ⟨.exit id, s1, h1, fun D c a hs => wp_seq (wp_mono (h2 D c a hs) fun e a' w' he => ?_)⟩
      obtain ⟨e1, r⟩ := he
      subst e1
      exact ⟨rfl, r⟩
    | ret =>
      refine ⟨.ret, s1, h1, fun D c a hs => wp_seq (wp_mono (h2 D c a hs) fun e a' w' he => ?_)⟩
      obtain ⟨e1, r⟩ := he
      subst e1
      exact ⟨rfl, r⟩
    | goto l =>
      refine ⟨.goto l, s1, h1, fun D c a hs => wp_seq (wp_mono (h2 D c a hs) fun e a' w' he => ?_)⟩
      obtain ⟨e1, r⟩ := he
      subst e1
      exact ⟨rfl, r⟩
  | cond c x y ihx ihy =>
    intro b hl hg s K h
    simp only [exec] at h
    obtain ⟨t, ht, h1⟩ := boolOf_sound h
    cases t with
    | true =>
      obtain ⟨ex, s', h2, h3⟩ := ihx b (fun p hp => hl p (by simp only [loopsIn, List.mem_append]; exact .inl hp)) (fun p hp => hg p (by simp only [scopesIn, List.mem_append]; exact .inl hp)) _ K h1
      refine ⟨ex, s', h2, fun D cx a hs => ?_⟩
      have hb := V_bool (by have := evalA_V hs.sl c; rw [ht] at this; exact this)
      have := h3 D cx a (known_SR hs c true ht)
      rw [known_hp] at this
      exact wp_cond_true hb this
    | false =>
      obtain ⟨ex, s', h2, h3⟩ := ihy b (fun p hp => hl p (by simp only [loopsIn, List.mem_append]; exact .inr hp)) (fun p hp => hg p (by simp only [scopesIn, List.mem_append]; exact .inr hp)) _ K h1
      refine ⟨ex, s', h2, fun D cx a hs => ?_⟩
      have hb := V_bool (by have := evalA_V hs.sl c; rw [ht] at this; exact this)
      have := h3 D cx a (known_SR hs c false ht)
      rw [known_hp] at this
      exact wp_cond_false hb this
  | block id c ih =>
    intro b hl hg s K h
    simp only [exec] at h
    obtain ⟨ex, s', h1, h2⟩ := ih id (fun p hp => hl p (by simpa only [loopsIn] using hp)) (fun p hp => hg p (by simpa only [scopesIn] using hp)) s _ h
    cases ex with
    | normal =>
      refine ⟨.normal, s', h1, fun D cx a hs => wp_block (wp_mono (h2 D cx a hs) fun e a' w' he => ?_)⟩
      obtain ⟨e1, r⟩ := he
      subst e1
      exact ⟨rfl, r⟩
    | ret =>
      refine ⟨.ret, s', h1, fun D cx a hs => wp_block (wp_mono (h2 D cx a hs) fun e a' w' he => ?_)⟩
      obtain ⟨e1, r⟩ := he
      subst e1
      exact ⟨rfl, r⟩
    | goto l =>
      refine ⟨.goto l, s', h1, fun D cx a hs => wp_block (wp_mono (h2 D cx a hs) fun e a' w' he => ?_)⟩
      obtain ⟨e1, r⟩ := he
      subst e1
      exact ⟨rfl, r⟩
    | exit id' =>
      simp only at h1
      split at h1
      · rename_i hb
        have := Nat.eq_of_beq_eq_true hb
        subst this
        refine ⟨.normal, s', h1, fun D cx a hs => wp_block (wp_mono (h2 D cx a hs) fun e a' w' he => ?_)⟩
        obtain ⟨e1, r⟩ := he
        subst e1
        show Exit.inBlock id' _ (.exit id') a' w'
        simp only [Exit.inBlock, if_true]
        exact ⟨rfl, r⟩
      · rename_i hb
        have hne : id' ≠ id := fun e => by subst e; simp at hb
        refine ⟨.exit id', s', h1, fun D cx a hs => wp_block (wp_mono (h2 D cx a hs) fun e a' w' he => ?_)⟩
        obtain ⟨e1, r⟩ := he
        subst e1
        show Exit.inBlock id _ (.exit id') a' w'
        simp only [Exit.inBlock, if_neg hne]
        exact ⟨rfl, r⟩
  | loop c ih =>
    intro b hl hg s K h
    simp only [exec] at h
    obtain ⟨s1, h1, h2⟩ := norm_sound h
    obtain ⟨n, ex, s', h3, h4⟩ := hl (b, c) (by simp [loopsIn]) s1 K h1
    refine ⟨ex, s', h3, fun D cx a hs => wp_loop_rounds n ?_⟩
    obtain ⟨c', h5, h6, h7⟩ := h2 D cx a hs
    have := h4 D c' a h6
    rw [h5] at this
    exact rounds_mono (fun _ _ _ hp => hp.mono h7) this
  | exit id =>
    intro b _ _ s K h
    simp only [exec] at h
    exact ⟨.exit id, s, h, fun D c a hs => wp_exit ⟨rfl, c, rfl, hs, Kept.refl _ _ _⟩⟩
  | ret =>
    intro b _ _ s K h
    simp only [exec] at h
    exact ⟨.ret, s, h, fun D c a hs => wp_ret ⟨rfl, c, rfl, hs, Kept.refl _ _ _⟩⟩
  | label l =>
    intro b _ _ s K h
    simp only [exec] at h
    exact ⟨.normal, s, h, fun D c a hs => wp_label ⟨rfl, c, rfl, hs, Kept.refl _ _ _⟩⟩
  | goto l =>
    intro b _ _ s K h
    simp only [exec] at h
    exact ⟨.goto l, s, h, fun D c a hs => wp_goto ⟨rfl, c, rfl, hs, Kept.refl _ _ _⟩⟩
  | scope c ih =>
    intro b hl hg s K h
    simp only [exec] at h
    obtain ⟨ex, s1, h1, h2⟩ := ih b (fun p hp => hl p (by simpa only [loopsIn] using hp)) (fun p hp => hg p (by simp only [scopesIn]; exact List.mem_cons_of_mem _ hp)) s _ h
    have nog : (∀ l, ex ≠ .goto l) → K ex s1 → ∃ ex s', K ex s' ∧ Goes env (.scope c) s ex s' := fun hne hk => ⟨ex, s1, hk, fun D cx a hs => wp_scope_gotos (wp_mono (h2 D cx a hs) fun e a' w' he => by
      obtain ⟨e1, r⟩ := he
      cases ex with
      | goto l => exact absurd rfl (hne l)
      | _ => subst e1; exact ⟨rfl, r⟩)⟩
    cases ex with
    | goto l =>
      obtain ⟨n, ex2, s2, h3, h4⟩ := hg c (by simp [scopesIn]) l s1 K h1
      refine ⟨ex2, s2, h3, fun D cx a hs => wp_scope_gotos (wp_mono (h2 D cx a hs) fun e a' w' he => ?_)⟩
      obtain ⟨e1, c', rfl, hs', hk⟩ := he
      subst e1
      exact ⟨n, jumps_mono (fun _ _ _ hp => hp.mono hk) (h4 D c' a' hs')⟩
    | normal => exact nog (fun _ e => by cases e) h1
    | exit id => exact nog (fun _ e => by cases e) h1
    | ret => exact nog (fun _ e => by cases e) h1
  | _ =>
    intro b _ _ s K h
    simp only [exec] at h
theorem round_sound {env : Env} {plain : PlainT} (hE : EnvOK env plain) (hm : env.P.follows .mixedOrders = true) {b : Nat} {c : Code} (hl : ∀ p ∈ loopsIn b c, LoopOK env p.2 (env.L p.1)) {R : LoopO} (hR : LoopOK env c R) (hG : ∀ c, GotoOK env c env.G) :
    LoopOK env c (roundA env plain b c R) := by
  intro s K h
  unfold roundA at h
  obtain ⟨ex, s1, h1, h2⟩ := exec_sound hE hm c b hl (fun c _ => hG c) s _ h
  obtain ⟨s2, h3, h4⟩ := norm_sound h1
  cases ex with
  | normal =>
    obtain ⟨n, ex2, s3, h5, h6⟩ := hR s2 K h3
    refine ⟨n + 1, ex2, s3, h5, fun D cx a hs => ?_⟩
    rw [rounds_succ]
    refine wp_mono (h2 D cx a hs) fun e a' w' he => ?_
    obtain ⟨rfl, c', rfl, hs', hk⟩ := he
    obtain ⟨c2, h7, h8, h9⟩ := h4 D c' a' hs'
    have := h6 D c2 a' h8
    rw [h7] at this
    exact rounds_mono (fun _ _ _ hp => (hp.mono h9).mono hk) this
  | exit id =>
    refine ⟨1, .exit id, s2, h3, fun D cx a hs => ?_⟩
    rw [rounds_succ]
    refine wp_mono (h2 D cx a hs) fun e a' w' he => ?_
    obtain ⟨rfl, c', rfl, hs', hk⟩ := he
    obtain ⟨c2, h7, h8, h9⟩ := h4 D c' a' hs'
    exact ⟨rfl, c2, h7, h8, hk.trans h9⟩
  | ret =>
    refine ⟨1, .ret, s2, h3, fun D cx a hs => ?_⟩
    rw [rounds_succ]
    refine wp_mono (h2 D cx a hs) fun e a' w' he => ?_
    obtain ⟨rfl, c', rfl, hs', hk⟩ := he
    obtain ⟨c2, h7, h8, h9⟩ := h4 D c' a' hs'
    exact ⟨rfl, c2, h7, h8, hk.trans h9⟩
  | goto l =>
    refine ⟨1, .goto l, s2, h3, fun D cx a hs => ?_⟩
    rw [rounds_succ]
    refine wp_mono (h2 D cx a hs) fun e a' w' he => ?_
    obtain ⟨rfl, c', rfl, hs', hk⟩ := he
    obtain ⟨c2, h7, h8, h9⟩ := h4 D c' a' hs'
    exact ⟨rfl, c2, h7, h8, hk.trans h9⟩
theorem loop_sound {env : Env} {plain : PlainT} (hE : EnvOK env plain) (hm : env.P.follows .mixedOrders = true) {b : Nat} {c : Code} (hl : ∀ p ∈ loopsIn b c, LoopOK env p.2 (env.L p.1)) (Q : Nat → LoopO)
    (h0 : ∀ s K, ¬ Q 0 s K) (h1 : ∀ n s K, Q (n + 1) s K → roundA env plain b c (Q n) s K) (hG : ∀ c, GotoOK env c env.G) : ∀ n, LoopOK env c (Q n)
  | 0 => fun s K h => absurd h (h0 s K)
  | n + 1 => fun s K h => round_sound hE hm hl (loop_sound hE hm hl Q h0 h1 hG n) hG s K (h1 n s K h)
end Go.RX
namespace Go.RX
def resStep (tmps : Array Value) : ResultVar → Sem Value
  | .tmp t => pure (tmps.getD t undef)
  | .cell a t => do loadVar t (← asAddr (tmps.getD a undef))
theorem results_eq (fn : Func) (tmps : Array Value) : results fn tmps = (do
    let vs ← fn.results.mapM (resStep tmps)
    pure (if h : vs.size = 1 then vs[0] else .tuple vs)) := rfl
theorem resultsA_sound {env : Env} {s : St} : ∀ (res : List ResultVar) (K : List AV → Prop), resultsA env s res K → ∃ vs, K vs ∧ ∀ D c a, SR env.nt D s c a →
    ∃ us : List Value, (res.mapM (resStep a.tmps)).run env.P c.w = .ok us c.w ∧ Vs c vs us
  | [], K, h => ⟨[], h, fun D c a hs => ⟨[], rfl, rfl⟩⟩
  | .tmp t :: r, K, h => by
    obtain ⟨vs, h1, h2⟩ := resultsA_sound r _ h
    refine ⟨_, h1, fun D c a hs => ?_⟩
    obtain ⟨us, h3, h4⟩ := h2 D c a hs
    refine ⟨a.tmps.getD t undef :: us, ?_, _, _, rfl, hs.sl t, h4⟩
    simp only [List.mapM_cons, resStep, Sem.run_bind, Sem.run_pure, Result.andThen_ok]
    rw [h3]
    simp only [Result.andThen_ok]
  | .cell b t :: r, K, h => by
    simp only [resultsA] at h
    split at h
    · rename_i agg n id off hshape hb
      obtain ⟨ha, hn, hone⟩ := shapeT_some hshape
      split at h
      · rename_i cs hr
        split at h
        · rename_i hle
          have hle' : off + n ≤ cs.length := Nat.le_of_ble_eq_true hle
          obtain ⟨vs, h1, h2⟩ := resultsA_sound r _ h
          refine ⟨_, h1, fun D c a hs => ?_⟩
          obtain ⟨us, h3, h4⟩ := h2 D c a hs
          have e1 := hs.sl b
          rw [hb] at e1
          simp only [V] at e1
          obtain ⟨hbn, g, h5, h6⟩ := e1
          have h7 := (hs.hp.hr.obj id _ (getO_hp (by rw [hr]; simp))).2
          rw [hr, h5] at h7
          simp only [OR] at h7
          obtain ⟨C, t', h8, h9, h10⟩ := h7
          have h11 : C.size = cs.length := by simpa using h9.length
          have hV : V c (ofCells agg (cut cs off n)) (outV agg ((C.toList.drop off).take n)) := V_ofCells ((h9.drop off).take n) (fun u hu => h10 u (List.mem_of_mem_drop (List.mem_of_mem_take hu))) (fun e => by
            have := hone e
            simp [cut]
            omega)
          have hload := run_loadVar' ha hn (w := c.w) (b := g) (o := off) (es := (C.toList.drop off).take n) (by simp; omega) (fun j hj => by
            rw [cell_of_row c.w g (off + j) C t' (0, 0) h8, List.getElem?_take, if_pos hj, List.getElem?_drop]
            simp) hone
          refine ⟨_ :: us, ?_, _, _, rfl, hV, h4⟩
          simp only [List.mapM_cons, resStep, Sem.run_bind, h6, show asAddr (.pointer (some ⟨g, off, none⟩)) = pure ⟨g, off, none⟩ from rfl, Sem.run_pure, Result.andThen_ok, hload]
          rw [h3]
          simp only [Result.andThen_ok]
        · exact h.elim
      · exact h.elim
    · exact h.elim
theorem results_sound {env : Env} {s : St} {fn : Func} {K : List AV → Prop} (h : resultsA env s fn.results.toList K) : ∃ vs, K vs ∧ ∀ D c a, SR env.nt D s c a →
    ∃ v, (results fn a.tmps).run env.P c.w = .ok v c.w ∧ V c (oneOrTup vs) v := by
  obtain ⟨vs, h1, h2⟩ := resultsA_sound _ _ h
  refine ⟨vs, h1, fun D c a hs => ?_⟩
  obtain ⟨us, h3, h4⟩ := h2 D c a hs
  refine ⟨if h : us.toArray.size = 1 then us.toArray[0] else .tuple us.toArray, ?_, ?_⟩
  · rw [results_eq, Array.mapM_eq_mapM_toList]
    simp only [Sem.run_bind, map_eq_pure_bind]
    rw [h3]
    simp only [Result.andThen_ok, Sem.run_pure]
  · match vs, us, h4 with
    | [], us, h4 =>
      simp only [Vs] at h4
      subst h4
      exact ⟨#[], rfl, rfl⟩
    | [x], us, h4 =>
      simp only [Vs] at h4
      obtain ⟨y, ys, rfl, h5, rfl⟩ := h4
      simpa [oneOrTup] using h5
    | x :: x' :: r, us, h4 =>
      have hl := h4.length
      simp at hl
      rw [dif_neg (by simp; omega)]
      exact ⟨us.toArray, rfl, h4⟩
theorem iceO_iceO (o : AO) : iceO (iceO o) = iceO o := by cases o <;> rfl
theorem iceAll_length : ∀ (rows : List Nat) (h : List AO), (iceAll h rows).length = h.length
  | [], _ => rfl
  | i :: r, h => by simp only [iceAll]; rw [iceAll_length r, setO_length]
theorem iceAll_get : ∀ (rows : List Nat) (h : List AO) (j : Nat), (iceAll h rows)[j]? = if j ∈ rows then (h[j]?).map iceO else h[j]?
  | [], h, j => by simp [iceAll]
  | i :: r, h, j => by
    simp only [iceAll]
    rw [iceAll_get r]
    have hset : (setO h i (iceO (getO h i)))[j]? = if j = i then (h[j]?).map iceO else h[j]? := by
      by_cases hi : i < h.length
      · rw [setO_get h i _ j hi]
        split
        · rename_i e
          subst e
          rw [getO_eq]
          simp [hi]
        · rfl
      · have : setO h i (iceO (getO h i)) = h := by
          clear iceAll_get
          generalize iceO (getO h i) = x
          revert i
          induction h with
          | nil => intro i _; rfl
          | cons o r ih =>
            intro i hi
            cases i with
            | zero => simp at hi
            | succ i => simp only [setO]; rw [ih i (by simpa using hi)]
        rw [this]
        split
        · rename_i e
          subst e
          simp [hi]
        · rfl
    rw [hset]
    simp only [List.mem_cons]
    by_cases e : j = i
    · subst e
      simp only [true_or, if_true]
      split
      · cases h[j]? <;> simp [iceO_iceO]
      · rfl
    · simp [e]
def iceCx (c : Cx) (h : List AO) (rows : List Nat) : Cx := { c with I := fun b => c.I b ∨ ∃ i ∈ rows, (∃ e sz xs, h[i]? = some (.row e sz xs)) ∧ (c.β i).block = some b }
theorem ice_ext (c : Cx) (h : List AO) (rows : List Nat) : Ext c (iceCx c h rows) := ⟨fun _ h => h, fun _ _ => rfl, fun _ h => .inl h, fun _ _ => rfl, rfl⟩
theorem arr_of_row {I I' : Bool → Nat → Prop} {w : World} (hI : ∀ m b, I m b → I' m b) {e sz : Nat} {v : Value} {xs : List PV} {cells : List Value} (hsz : 0 < sz) (h : w.ownsRow 0 e sz v xs.length cells) (hr : RoRow I w sz xs cells)
    (hb : ∀ b, v.ownBlock = some b → (∃ C e, w.heap[b]? = some (.cells C e (0, 0))) → I' true b) : RoC I' w (.arr true xs.length fun j => xs.getD j .nilp) [v] := by
  simp only [RoC]
  have h0 := h
  rcases h.2 with ⟨rfl, hn⟩ | ⟨g, cap, cur, rfl, hg, hh, hcap, hmax, hsize, htake⟩
  · exact ⟨none, 0, by rw [hn], by omega, fun h0 => by omega⟩
  · refine ⟨_, _, rfl, ⟨hcap, Nat.le_trans hcap hmax⟩, fun _ => ⟨g, 0, sz, rfl, hb g rfl ⟨_, _, hh⟩, hsz, fun _ => Nat.dvd_zero _, fun i hi => ?_⟩⟩
    obtain ⟨es, h1, h2, h3⟩ := hr.at_ i hi
    refine ⟨es, h2, RoC.mono hI (fun _ _ _ => rfl) _ _ h1, fun j hj => ?_⟩
    rw [← h3 j hj, Nat.zero_add]
    refine ownsRow_cell h0 rfl _ ?_
    rw [hr.length]
    have := Nat.mul_le_mul_right sz (Nat.succ_le_of_lt hi)
    rw [Nat.succ_mul] at this
    omega
theorem ice_hr {c : Cx} {h : List AO} (hh : HR c (hpOf h)) (rows : List Nat) : HR (iceCx c h rows) (hpOf (iceAll h rows)) ∧ Fr c (hpOf h) (iceCx c h rows) (hpOf (iceAll h rows)) := by
  have live : ∀ j, Live (hpOf (iceAll h rows)) j → Live (hpOf h) j ∧ ((∃ e sz xs, h[j]? = some (.row e sz xs)) → j ∉ rows) := by
    rintro j ⟨o, h1, h2⟩
    simp only [hpOf, iceAll_get] at h1
    split at h1
    · rename_i hm
      cases hj : h[j]? with
      | none => rw [hj] at h1; simp at h1
      | some x =>
        rw [hj] at h1
        simp at h1
        subst h1
        refine ⟨⟨x, hj, by cases x <;> simp_all [iceO, liveO]⟩, ?_⟩
        rintro ⟨e, sz, xs, h3⟩
        injection h3 with h3
        subst h3
        simp [iceO, liveO] at h2
    · rename_i hm
      exact ⟨⟨o, h1, h2⟩, fun _ => hm⟩
  refine ⟨⟨fun j o ho => ?_, fun i j b hi hj hib hjb => hh.inj i j b (live i hi).1 (live j hj).1 hib hjb, fun i b hi hib hI => ?_, fun b hb => ?_, fun i b hi hib => hh.size i b (live i hi).1 hib, fun i b hi hib => hh.low i b (live i hi).1 hib, hh.base⟩,
    ⟨rfl, rfl, rfl, Nat.le_refl _, fun _ _ _ => rfl, fun _ h => .inl h, fun b hb => ?_, fun i b hi hib => .inr ⟨i, (live i hi).1, hib⟩, rfl⟩⟩
  · simp only [hpOf, iceAll_get] at ho
    split at ho
    · rename_i hm
      cases hj : h[j]? with
      | none => rw [hj] at ho; simp at ho
      | some x =>
        rw [hj] at ho
        simp at ho
        subst ho
        obtain ⟨h1, h2⟩ := hh.obj j x hj
        refine ⟨h1, ?_⟩
        show OR _ _ (c.β j)
        cases x with
        | row e sz xs =>
          cases hl : c.β j with
          | none => rw [hl] at h2; simp only [OR] at h2
          | blk _ => rw [hl] at h2; simp only [OR] at h2
          | rowv v sz' =>
            rw [hl] at h2
            simp only [OR, iceO] at h2 ⊢
            obtain ⟨_, hsz, cells, h3, h4⟩ := h2
            exact arr_of_row (I' := (iceCx c h rows).J) (ice_ext c h rows).J hsz h3 h4 fun b hb hc => ⟨.inr ⟨j, hm, ⟨e, sz, xs, hj⟩, by rw [hl]; exact hb⟩, fun _ => ⟨hh.low j b ⟨_, hj, rfl⟩ (by rw [hl]; exact hb), hc⟩⟩
        | _ => exact h2.mono (ice_ext c h rows) fun _ _ => rfl
    · obtain ⟨h1, h2⟩ := hh.obj j o ho
      exact ⟨h1, h2.mono (ice_ext c h rows) fun _ _ => rfl⟩
  · rcases hI with hI | ⟨k, hk, ⟨e, sz, xs, h1⟩, h2⟩
    · exact hh.apart i b (live i hi).1 hib hI
    · have := hh.inj i k b (live i hi).1 ⟨_, h1, rfl⟩ hib h2
      subst this
      exact (live i hi).2 ⟨e, sz, xs, h1⟩ hk
  · rcases hb with hb | ⟨k, hk, ⟨e, sz, xs, h1⟩, h2⟩
    · exact hh.bound b hb
    · exact hh.size k b ⟨_, h1, rfl⟩ h2
  · rcases hb with hb | ⟨k, hk, ⟨e, sz, xs, h1⟩, h2⟩
    · exact .inl hb
    · exact .inr (.inr ⟨k, ⟨_, h1, rfl⟩, h2⟩)
theorem V_fz1 {c : Cx} {h : List AO} (hh : HR c (hpOf h)) {rows : List Nat} {x : AV} {u : Value} (hx : V c x u) (hr : ∀ i ∈ rowsOf1 x, i ∈ rows) : V (iceCx c h rows) (fz1 (getO h) x) u := by
  have base := V.mono (ice_ext c h rows) _ _ hx
  cases x with
  | row i =>
    have him : i ∈ rows := hr i (by simp [rowsOf1])
    simp only [fz1, icy]
    simp only [V] at hx
    obtain ⟨hb, a, n, cp, sz, rfl, h1⟩ := hx
    cases hi : getO h i with
    | row e sz' xs =>
      simp only
      have hi' : hpOf h i = some (.row e sz' xs) := by rw [← hi]; exact getO_hp (by rw [hi]; simp)
      have h2 := (hh.obj i _ hi').2
      rw [h1] at h2
      simp only [OR] at h2
      obtain ⟨_, hsz, cells, h3, h4⟩ := h2
      simp only [V]
      exact arr_of_row (I' := (iceCx c h rows).J) (ice_ext c h rows).J hsz h3 h4 fun b hb hc => ⟨.inr ⟨i, him, ⟨e, sz', xs, hi'⟩, by rw [h1]; exact hb⟩, fun _ => ⟨hh.low i b ⟨_, hi', rfl⟩ (by rw [h1]; exact hb), hc⟩⟩
    | ice sz' xs =>
      simp only
      have hi' : hpOf h i = some (.ice sz' xs) := by rw [← hi]; exact getO_hp (by rw [hi]; simp)
      have h2 := (hh.obj i _ hi').2
      rw [h1] at h2
      simp only [OR] at h2
      simp only [V]
      exact RoC.mono (ice_ext c h rows).J (ice_ext c h rows).jb _ _ h2
    | _ => exact base
  | _ => exact base
theorem rowsOf1_weak (x : AV) : rowsOf1 (weak1 x) = rowsOf1 x := by
  cases x with
  | p y => cases y <;> rfl
  | _ => rfl
theorem Vs_fz1 {c : Cx} {h : List AO} (hh : HR c (hpOf h)) {rows : List Nat} : ∀ {xs : List AV} {us : List Value}, Vs c xs us → (∀ i ∈ xs.flatMap rowsOf1, i ∈ rows) → Vs (iceCx c h rows) (xs.map fun x => fz1 (getO h) (weak1 x)) us
  | [], _, hv, _ => hv
  | x :: xs, us, hv, hr => by
    simp only [Vs, List.map_cons] at hv ⊢
    obtain ⟨y, ys, rfl, h1, h2⟩ := hv
    simp only [List.flatMap_cons, List.mem_append] at hr
    refine ⟨y, ys, rfl, V_fz1 hh (V_weak1 h1) (fun i hi => hr i (.inl ?_)), Vs_fz1 hh h2 fun i hi => hr i (.inr hi)⟩
    rwa [rowsOf1_weak] at hi
theorem fz1_weakA (rd : Nat → AO) (c : AV) (h : ∀ cs, c ≠ .agg cs) : weakA c = weak1 c := by
  cases c <;> first | rfl | exact absurd rfl (h _)
theorem one_not_agg {c : Cx} {x : AV} {u : Value} (hv : V c x u) (h1 : u.oneCell' = true) : ∀ cs, x ≠ .agg cs := by
  intro cs e
  subst e
  simp only [V] at hv
  obtain ⟨C, rfl, _⟩ := hv
  simp [Value.oneCell'] at h1
theorem V_fzAV {c : Cx} {h : List AO} (hh : HR c (hpOf h)) {rows : List Nat} {x : AV} {u : Value} (hx : V c x u) (hr : ∀ i ∈ rowsOf x, i ∈ rows) : V (iceCx c h rows) (fzAV (getO h) x) u := by
  have scalar : (∀ cs, x ≠ .agg cs) → (∀ i ∈ rowsOf1 x, i ∈ rows) → V (iceCx c h rows) (fz1 (getO h) (weakA x)) u := by
    intro ha hr
    rw [fz1_weakA (getO h) x ha]
    exact V_fz1 hh (V_weak1 hx) (fun i hi => hr i (by rwa [rowsOf1_weak] at hi))
  cases x with
  | agg cs =>
    simp only [V] at hx
    obtain ⟨C, rfl, h1, h2⟩ := hx
    simp only [fzAV, V]
    refine ⟨C, rfl, ?_, h2⟩
    have hmap : ∀ {xs : List AV} {us : List Value}, Vs c xs us → (∀ u ∈ us, u.oneCell' = true) → (xs.map fun x => fz1 (getO h) (weakA x)) = xs.map fun x => fz1 (getO h) (weak1 x) := by
      intro xs
      induction xs with
      | nil => intros; rfl
      | cons y ys ih =>
        intro us hv ho
        simp only [Vs] at hv
        obtain ⟨z, zs, rfl, h3, h4⟩ := hv
        simp only [List.map_cons]
        rw [ih h4 (fun u hu => ho u (List.mem_cons_of_mem _ hu)), fz1_weakA (getO h) y (one_not_agg h3 (ho z List.mem_cons_self))]
    rw [hmap h1 h2]
    exact Vs_fz1 hh h1 hr
  | _ => exact scalar (by intro cs e; cases e) hr
theorem V_fzTop {c : Cx} {h : List AO} (hh : HR c (hpOf h)) {x : AV} {u : Value} (hx : V c x u) : V (iceCx c h (rowsTop x)) (fzTop (getO h) x) u := by
  cases x with
  | tup vs =>
    simp only [V] at hx
    obtain ⟨C, rfl, h1⟩ := hx
    simp only [fzTop, V]
    refine ⟨C, rfl, ?_⟩
    have : ∀ {xs : List AV} {us : List Value} (rows : List Nat), Vs c xs us → (∀ i ∈ xs.flatMap rowsOf, i ∈ rows) → Vs (iceCx c h rows) (xs.map (fzAV (getO h))) us := by
      intro xs
      induction xs with
      | nil => intro us rows hv _; exact hv
      | cons y ys ih =>
        intro us rows hv hr
        simp only [Vs, List.map_cons] at hv ⊢
        obtain ⟨z, zs, rfl, h3, h4⟩ := hv
        simp only [List.flatMap_cons, List.mem_append] at hr
        exact ⟨z, zs, rfl, V_fzAV hh h3 (fun i hi => hr i (.inl hi)), ih rows h4 fun i hi => hr i (.inr hi)⟩
    exact this _ h1 fun i hi => hi
  | _ => exact V_fzAV hh hx fun i hi => hi
theorem ret_core {env : Env} {fn : Func} {s : St} {K : AV → List AO → Prop} {v' : AV} {hh : List AO}
    (frozen : ∀ D c a, SR env.nt D s c a → ∃ v c1, c1.w = c.w ∧ (results fn a.tmps).run env.P c.w = .ok v c.w ∧ V c1 v' v ∧ HRl c1 hh ∧ Kept env.n0 c (hpOf s.hp) c1 (hpOf hh))
    (h : match nodup (reach (getO hh) 1000 (idsOfs (getO hh) (upto env.n0) ++ idsAV v') (upto env.n0)) && prefixIs env.n0 (reach (getO hh) 1000 (idsOfs (getO hh) (upto env.n0) ++ idsAV v') (upto env.n0)) 0 && allBelow hh.length (reach (getO hh) 1000 (idsOfs (getO hh) (upto env.n0) ++ idsAV v') (upto env.n0)) with
      | true => K (renAV (place (reach (getO hh) 1000 (idsOfs (getO hh) (upto env.n0) ++ idsAV v') (upto env.n0))) v') (renAOs (place (reach (getO hh) 1000 (idsOfs (getO hh) (upto env.n0) ++ idsAV v') (upto env.n0))) (pick hh (reach (getO hh) 1000 (idsOfs (getO hh) (upto env.n0) ++ idsAV v') (upto env.n0))))
      | false => False) :
    ∃ r h', K r h' ∧ ∀ D c a, SR env.nt D s c a → ∃ v c', c'.w = c.w ∧ (results fn a.tmps).run env.P c.w = .ok v c.w ∧ V c' r v ∧ HRl c' h' ∧ Kept env.n0 c (hpOf s.hp) c' (hpOf h') ∧ env.n0 ≤ h'.length := by
  generalize reach (getO hh) 1000 (idsOfs (getO hh) (upto env.n0) ++ idsAV v') (upto env.n0) = L at h
  split at h
  · rename_i hchk
    simp only [Bool.and_eq_true] at hchk
    obtain ⟨⟨hn, hp⟩, hb⟩ := hchk
    rw [pick_map] at h
    refine ⟨_, _, h, fun D c a hs => ?_⟩
    obtain ⟨v, c1, e1, h3, h4, h5, h6⟩ := frozen D c a hs
    refine ⟨v, calleeCx c1 L, e1, h3, V_ren (ren_callee c1 L) _ _ h4, callee_hr h5.hr (tells_of h5.hr fun i hi => getO_hp hi) (nodup_iff.1 hn), h6.trans (callee_kept hp), ?_⟩
    rw [renAOs_length, List.length_map]
    rcases Nat.eq_zero_or_pos env.n0 with e | e
    · omega
    · have := prefixIs_get hp (env.n0 - 1) (by omega)
      have := (List.getElem?_eq_some_iff.1 this).1
      omega
  · exact h.elim
theorem retA_sound {env : Env} {soft : Bool} {fn : Func} {s : St} {K : AV → List AO → Prop} (h : retA env soft fn.results.toList s K) :
    ∃ r h', K r h' ∧ ∀ D c a, SR env.nt D s c a → ∃ v c', c'.w = c.w ∧ (results fn a.tmps).run env.P c.w = .ok v c.w ∧ V c' r v ∧ HRl c' h' ∧ Kept env.n0 c (hpOf s.hp) c' (hpOf h') ∧ env.n0 ≤ h'.length := by
  unfold retA at h
  obtain ⟨vs, h1, h2⟩ := results_sound h
  cases soft with
  | false =>
    refine ret_core (v' := oneOrTup vs) (hh := s.hp) (fun D c a hs => ?_) h1
    obtain ⟨v, h3, h4⟩ := h2 D c a hs
    exact ⟨v, c, rfl, h3, h4, hs.hp, Kept.refl _ _ _⟩
  | true =>
    refine ret_core (v' := fzTop (getO s.hp) (oneOrTup vs)) (hh := iceAll s.hp (rowsTop (oneOrTup vs))) (fun D c a hs => ?_) h1
    obtain ⟨v, h3, h4⟩ := h2 D c a hs
    obtain ⟨k1, k2⟩ := ice_hr hs.hp.hr (rowsTop (oneOrTup vs))
    refine ⟨v, iceCx c s.hp (rowsTop (oneOrTup vs)), rfl, h3, V_fzTop hs.hp.hr h4, ⟨k1, fun i => ?_⟩, Kept.of_ext (ice_ext c _ _) k2⟩
    rw [iceAll_length]
    exact hs.hp.born i
theorem getSl_number : ∀ (args : List AV) (i t : Nat), getSl (number i args) (i + t) = (args[t]?).getD .undef
  | [], i, t => by simp [number, getSl]
  | x :: r, i, t => by
    simp only [number]
    rw [getSl_cons]
    cases t with
    | zero => simp
    | succ t =>
      rw [if_neg (by omega)]
      have := getSl_number r (i + 1) t
      rw [show i + (t + 1) = i + 1 + t by omega, this]
      simp
structure FnOK (P : Program) (f : FuncId) (fn : Func) : Prop where
  at_ : P.funcs[f]? = some fn
  name : (fn.name == "runtime.NumGoroutine") = false
theorem FnOK.ne {P : Program} {f : FuncId} {fn : Func} (h : FnOK P f fn) : fn.name ≠ "runtime.NumGoroutine" := by simpa using h.name
theorem call_one {env : Env} {plain : PlainT} (hE : EnvOK env plain) (hm : env.P.follows .mixedOrders = true) {f : FuncId} {fn : Func} (hf : FnOK env.P f fn) {code : Code} (hcode : fn.body = some code)
    (hl : ∀ p ∈ loopsIn 0 code, LoopOK env p.2 (env.L p.1)) (hG : ∀ c ∈ scopesIn code, GotoOK env c env.G) (soft : Bool) {args : List AV} {hp : List AO} {K : AV → List AO → Prop} (hb : body env plain soft fn args hp K) : ∃ r h', K r h' ∧ RunsTo env.P f args hp r h' := by
  unfold body at hb
  rw [hcode] at hb
  split at hb
  · rename_i code' hc hchk
    injection hc with hc
    subst hc
    simp only [Bool.and_eq_true] at hchk
    obtain ⟨⟨h1, h2⟩, h3⟩ := hchk
    have e1 := Nat.eq_of_beq_eq_true h1
    have e2 := Nat.le_of_ble_eq_true h2
    have e3 := Nat.eq_of_beq_eq_true h3
    obtain ⟨ex, s', h4, h5⟩ := exec_sound hE hm code 0 hl hG _ _ hb
    have key : ∀ (r : AV) (h' : List AO), (ex = .normal ∨ ex = .ret) → K r h' → (∀ D c a, SR env.nt D s' c a → ∃ v c', c'.w = c.w ∧ (results fn a.tmps).run env.P c.w = .ok v c.w ∧ V c' r v ∧ HRl c' h' ∧ Kept env.n0 c (hpOf s'.hp) c' (hpOf h') ∧ env.n0 ≤ h'.length) →
        ∃ r h', K r h' ∧ RunsTo env.P f args hp r h' := by
      intro r h' hex hkr hret
      refine ⟨r, h', hkr, fun c vals o a next Q hv hr hnext => ?_⟩
      have hrun : (callFunc f vals).run env.P c.w = .ok (.enter f vals) c.w := by
        simp [callFunc, hf.at_, hf.ne, hcode]
      rw [hrun, Oper.upon_enter]
      have hvl : vals.size = args.length := by simpa using hv.length
      refine calls_of_wp hf.at_ hcode ?_
      refine wp_mono (h5 [] c { tmps := vals ++ Array.replicate (fn.ntmps - vals.size) undef, defers := [] } ⟨fun t => ?_, hr, by simp; omega, rfl⟩) fun e a' w' he => ?_
      · have := getSl_number args 0 t
        rw [Nat.zero_add] at this
        rw [this]
        cases ha : args[t]? with
        | none => simp [V]
        | some x =>
          obtain ⟨u, h6, h7⟩ := hv.get t x ha
          have hlt : t < vals.size := by
            have := (List.getElem?_eq_some_iff.1 h6).1
            simpa using this
          have h8 : vals[t]? = some u := by simpa using h6
          have h9 : (vals ++ Array.replicate (fn.ntmps - vals.size) undef).getD t undef = u := by
            simp only [Array.getD_eq_getD_getElem?]
            rw [Array.getElem?_append_left hlt, h8]
            rfl
          show V c ((some x).getD .undef) _
          rw [h9]
          exact h7
      · obtain ⟨e4, c', rfl, hs', hk'⟩ := he
        obtain ⟨v, c2, h6, h7, h8, h9, h10, h11⟩ := hret [] c' a' hs'
        have hpost : bodyPost env.P fn (fun e w'' => match e with
            | .returned v => next (a.put o.dst v) w''
            | .panicked chain => Q (.panic chain) a w''
            | .outgrown => LetsOut Q) e a' c'.w := by
          have hK := hk'.trans h10
          have hnx : next (a.put o.dst v) c'.w := by
            rw [← h6]
            refine hnext v c2 h8 h9 hK.fr (by rw [e3]; exact h11) fun i hi => ?_
            exact (hK.β i (by rw [← e3]; exact hi) ((hr.born i).2 hi)).2
          rcases hex with rfl | rfl
          · subst e4
            exact ⟨hs'.defers, v, h7, hnx⟩
          · subst e4
            exact ⟨hs'.defers, v, h7, hnx⟩
        exact hpost
    cases ex with
    | normal =>
      simp only at h4
      obtain ⟨r, h', h6, h7⟩ := retA_sound h4
      exact key r h' (.inl rfl) h6 h7
    | ret =>
      simp only at h4
      obtain ⟨r, h', h6, h7⟩ := retA_sound h4
      exact key r h' (.inr rfl) h6 h7
    | exit id => exact h4.elim
    | goto l => exact h4.elim
  · exact hb.elim
theorem tab_all {α : Type} {p : Nat → α → Prop} {d : α} (hd : ∀ i, p i d) : ∀ {l : List (Nat × α)}, (∀ x ∈ l, p x.1 x.2) → ∀ i, p i (tab d l i)
  | [], _, i => hd i
  | (j, x) :: r, h, i => by
    simp only [tab]
    cases hb : Nat.beq j i with
    | true =>
      have := Nat.eq_of_beq_eq_true hb
      subst this
      exact h (j, x) List.mem_cons_self
    | false => exact tab_all hd (fun y hy => h y (List.mem_cons_of_mem _ hy)) i
theorem noCall_ok (P : Program) (f : FuncId) : CallOK P f noCall := fun _ _ _ h => h.elim
theorem loopOf_keys {a b : Nat} : ∀ {code : Code}, b ∉ keys (loopsIn a code) → loopOf b a code = none := by
  intro code
  induction code generalizing a with
  | seq x y ihx ihy =>
    intro h
    have hk : ∀ {l m : List (Nat × Code)}, keys (l ++ m) = keys l ++ keys m := by
      intro l m
      induction l with
      | nil => rfl
      | cons p r ih => obtain ⟨i, c⟩ := p; simp [keys, ih]
    simp only [loopsIn, hk, List.mem_append, not_or] at h
    simp only [loopOf, ihx h.1, ihy h.2]
  | cond c x y ihx ihy =>
    intro h
    have hk : ∀ {l m : List (Nat × Code)}, keys (l ++ m) = keys l ++ keys m := by
      intro l m
      induction l with
      | nil => rfl
      | cons p r ih => obtain ⟨i, c⟩ := p; simp [keys, ih]
    simp only [loopsIn, hk, List.mem_append, not_or] at h
    simp only [loopOf, ihx h.1, ihy h.2]
  | block id c ih => intro h; simp only [loopsIn] at h; simp only [loopOf, ih h]
  | loop c ih =>
    intro h
    simp only [loopsIn, keys, List.mem_cons, not_or] at h
    have : Nat.beq a b = false := by
      cases hb : Nat.beq a b with
      | false => rfl
      | true => exact absurd (Nat.eq_of_beq_eq_true hb).symm h.1
    simp only [loopOf, this, ih h.2]
  | scope c ih => intro h; simp only [loopsIn] at h; simp only [loopOf, ih h]
  | _ => intro _; rfl
theorem keys_append : ∀ {α : Type} (l m : List (Nat × α)), keys (l ++ m) = keys l ++ keys m
  | _, [], _ => rfl
  | _, (i, c) :: r, m => by simp [keys, keys_append r m]
theorem mem_keys {α : Type} : ∀ {l : List (Nat × α)} {b : Nat} {c : α}, (b, c) ∈ l → b ∈ keys l
  | [], _, _, h => by simp at h
  | (i, x) :: r, b, c, h => by
    simp only [keys, List.mem_cons]
    rcases List.mem_cons.1 h with h | h
    · injection h with h1 h2; exact .inl h1
    · exact .inr (mem_keys h)
theorem loopOf_mem {a b : Nat} {c : Code} : ∀ {code : Code}, (keys (loopsIn a code)).Nodup → (b, c) ∈ loopsIn a code → loopOf b a code = some c := by
  intro code
  induction code generalizing a with
  | seq x y ihx ihy =>
    intro hn h
    simp only [loopsIn, keys_append] at hn h
    rw [List.nodup_append] at hn
    rcases List.mem_append.1 h with h | h
    · simp only [loopOf, ihx hn.1 h]
    · have : b ∉ keys (loopsIn a x) := fun hb => hn.2.2 b hb b (mem_keys h) rfl
      simp only [loopOf, loopOf_keys this, ihy hn.2.1 h]
  | cond d x y ihx ihy =>
    intro hn h
    simp only [loopsIn, keys_append] at hn h
    rw [List.nodup_append] at hn
    rcases List.mem_append.1 h with h | h
    · simp only [loopOf, ihx hn.1 h]
    · have : b ∉ keys (loopsIn a x) := fun hb => hn.2.2 b hb b (mem_keys h) rfl
      simp only [loopOf, loopOf_keys this, ihy hn.2.1 h]
  | block id d ih => intro hn h; simp only [loopsIn] at hn h; simp only [loopOf, ih hn h]
  | loop d ih =>
    intro hn h
    simp only [loopsIn, keys, List.nodup_cons] at hn
    simp only [loopsIn, List.mem_cons] at h
    rcases h with h | h
    · injection h with h1 h2
      subst h1 h2
      simp [loopOf]
    · have hne : a ≠ b := fun e => by subst e; exact hn.1 (mem_keys h)
      have : Nat.beq a b = false := by
        cases hb : Nat.beq a b with
        | false => rfl
        | true => exact absurd (Nat.eq_of_beq_eq_true hb) hne
      simp only [loopOf, this, ih hn.2 h]
  | scope d ih => intro hn h; simp only [loopsIn] at hn h; simp only [loopOf, ih hn h]
  | _ => intro _ h; simp [loopsIn] at h
theorem tab_cons {P : Program} {i : FuncId} {x : CallO} {r : List (Nat × CallO)} (h : CallOK P i x) (hr : ∀ f, CallOK P f (tab noCall r f)) : ∀ f, CallOK P f (tab noCall ((i, x) :: r) f) := by
  intro f
  simp only [tab]
  cases hb : Nat.beq i f with
  | true =>
    have := Nat.eq_of_beq_eq_true hb
    subst this
    exact h
  | false => exact hr f
theorem loopsIn_trans {a b : Nat} {c : Code} : ∀ {code : Code}, (b, c) ∈ loopsIn a code → ∀ p ∈ loopsIn b c, p ∈ loopsIn a code := by
  intro code
  induction code generalizing a with
  | seq x y ihx ihy =>
    intro h p hp
    simp only [loopsIn, List.mem_append] at h ⊢
    exact h.imp (fun h => ihx h p hp) (fun h => ihy h p hp)
  | cond d x y ihx ihy =>
    intro h p hp
    simp only [loopsIn, List.mem_append] at h ⊢
    exact h.imp (fun h => ihx h p hp) (fun h => ihy h p hp)
  | block id d ih => intro h p hp; simp only [loopsIn] at h ⊢; exact ih h p hp
  | loop d ih =>
    intro h p hp
    simp only [loopsIn, List.mem_cons] at h ⊢
    rcases h with h | h
    · injection h with h1 h2
      subst h1 h2
      exact .inr hp
    · exact .inr (ih h p hp)
  | scope d ih => intro h p hp; simp only [loopsIn] at h ⊢; exact ih h p hp
  | _ => intro h; simp [loopsIn] at h
theorem loopsIn_size {a b : Nat} {c : Code} : ∀ {code : Code}, (b, c) ∈ loopsIn a code → SizeOf.sizeOf c < SizeOf.sizeOf code := by
  intro code
  induction code generalizing a with
  | seq x y ihx ihy =>
    intro h
    simp only [loopsIn, List.mem_append] at h
    simp only [Code.seq.sizeOf_spec]
    rcases h with h | h
    · have := ihx h; omega
    · have := ihy h; omega
  | cond d x y ihx ihy =>
    intro h
    simp only [loopsIn, List.mem_append] at h
    simp only [Code.cond.sizeOf_spec]
    rcases h with h | h
    · have := ihx h; omega
    · have := ihy h; omega
  | block id d ih => intro h; simp only [loopsIn] at h; have := ih h; simp only [Code.block.sizeOf_spec]; omega
  | loop d ih =>
    intro h
    simp only [loopsIn, List.mem_cons] at h
    simp only [Code.loop.sizeOf_spec]
    rcases h with h | h
    · injection h with h1 h2
      subst h2
      omega
    · have := ih h; omega
  | scope d ih => intro h; simp only [loopsIn] at h; have := ih h; simp only [Code.scope.sizeOf_spec]; omega
  | _ => intro h; simp [loopsIn] at h
theorem loops_all {env : Env} {code : Code} (h : ∀ b c, (b, c) ∈ loopsIn 0 code → (∀ p ∈ loopsIn b c, LoopOK env p.2 (env.L p.1)) → LoopOK env c (env.L b)) :
    ∀ p ∈ loopsIn 0 code, LoopOK env p.2 (env.L p.1) := by
  have key : ∀ n b c, SizeOf.sizeOf c ≤ n → (b, c) ∈ loopsIn 0 code → LoopOK env c (env.L b) := by
    intro n
    induction n with
    | zero =>
      intro b c hs _
      cases c <;> simp at hs
    | succ n ih =>
      intro b c hs hm
      refine h b c hm fun p hp => ?_
      obtain ⟨b', c'⟩ := p
      have := loopsIn_size hp
      exact ih b' c' (by omega) (loopsIn_trans hm _ hp)
  intro p hp
  exact key _ p.1 p.2 (Nat.le_refl _) hp
def codeOf (b : Nat) (fn : Func) : Option Code := match fn.body with
  | some x => loopOf b 0 x
  | none => none
def keysOf (fn : Func) : List Nat := match fn.body with
  | some x => keys (loopsIn 0 x)
  | none => []
theorem loops_ok {env : Env} {fn : Func} {code : Code} (hcode : fn.body = some code) {ks : List Nat} (hk : keysOf fn = ks) (hn : nodup ks = true)
    (h : ∀ b ∈ ks, ∀ c, codeOf b fn = some c → (∀ p ∈ loopsIn b c, LoopOK env p.2 (env.L p.1)) → LoopOK env c (env.L b)) : ∀ p ∈ loopsIn 0 code, LoopOK env p.2 (env.L p.1) := by
  unfold keysOf at hk
  rw [hcode] at hk
  simp only at hk
  refine loops_all fun b c hm hin => h b (by rw [← hk]; exact mem_keys hm) c ?_ hin
  unfold codeOf
  rw [hcode]
  exact loopOf_mem (by rw [hk]; exact nodup_iff.1 hn) hm
end Go.RX
