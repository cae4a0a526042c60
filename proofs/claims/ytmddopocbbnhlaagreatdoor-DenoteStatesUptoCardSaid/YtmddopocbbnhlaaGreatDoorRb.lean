/- A verified interpreter of the model's Code: what it makes of a function, the model does. No condition. -/
import Derived.Test.YtmddopocbbnhlaaGreatDoorRa
import Derived.Maps.AppendAt
import Derived.Laws.Slices
import Derived.Laws.OwnMore
import Derived.Lib.AppendZeros
import Derived.Laws.Cover3
import Derived.Lib.SliceRun
import Derived.Lib.ConvBytes
import Derived.LoopN
import Derived.Scope
import Derived.Laws.Sem
set_option linter.all false
namespace Go.RX
section
variable {P : Program} {ρ : Operand → AV} {rd : Nat → AO} {fresh : Nat} {dst : Option Tmp} {ty : TypeId} {pos : String} {after : Array Edge} {guard : Option (Nat × Bool)}
theorem qea {t : TypeId} {agg : Bool} {n : Nat} (ha : b7 P t = some agg) (hn : bx P t = some n) (h1 : agg = false → n = 1) {C : Array Value} {off : Nat} (hl : off + n ≤ C.size) (w : World) :
  (part t C off).run P w = .ok (qd0 agg ((C.toList.drop off).take n)) w := by
 cases agg with
 | true =>
  simp only [part, Sem.run_bind, i7 ha, Result.andThen_ok, if_true, bz hn, Sem.run_pure, qd0]
  congr 2
  apply Array.ext'
  rw [Array.toList_extract]
  simp [List.extract]
 | false =>
  have := h1 rfl
  subst this
  have hlt : off < C.size := by omega
  have h2 : (C.toList.drop off).take 1 = [C[off]] := by
   rw [List.drop_eq_getElem_cons (by simpa using hlt)]
   simp
  simp [part, i7 ha, hlt, qd0, h2]
theorem qen (t : TypeId) (x : Operand) (f : Nat) (cs : List AV) (fs : List (Nat × TypeId × Bool)) (hx : ρ x = .agg cs) (hf : qe P t = some fs) (off : Nat) (ft : TypeId) (b : Bool) (hff : fs[f]? = some (off, ft, b))
  (agg : Bool) (n : Nat) (hs : re P ft = some (agg, n)) (hl : off + n ≤ cs.length) : ay P ⟨dst, .field t x f, ty, pos, after, guard⟩ ρ rd fresh (dh agg (cut cs off n)) [] :=
 ay.pure fun c h a hv _ _ => by
  obtain ⟨ha, hn, hone⟩ := gv hs
  have e1 := hv x (by simp [Op.operands])
  rw [hx] at e1
  simp only [V] at e1
  obtain ⟨C, h1, h2, h3⟩ := e1
  have hC : C.size = cs.length := by simpa using h2.length
  unfold qe at hf
  cases hu : P.underlying t with
  | none => simp [hu] at hf
  | some d =>
   cases d <;> simp [hu] at hf
   rename_i fields
   subst hf
   simp only [List.getElem?_map, Option.map_eq_some_iff, Array.getElem?_toList] at hff
   obtain ⟨fd, h4, h5⟩ := hff
   simp at h5
   obtain ⟨rfl, rfl, _⟩ := h5
   refine ⟨qd0 agg ((C.toList.drop fd.offset).take n), ?_, pw ((h2.drop _).take _) (fun u hu => h3 u (List.mem_of_mem_drop (List.mem_of_mem_take hu))) fun e => by simp [cut]; have := hone e; omega⟩
   simp [execOp, Instr.field, run_underlying hu, h1, asAgg, h4, qea ha hn hone (show fd.offset + n ≤ C.size by omega)]
theorem kb (off : Nat) : ∀ (l : List Value) (k : Nat) (C : Array Value), off + k + l.length ≤ C.size →
  ((l.zipIdx k).foldl (fun cs (x : Value × Nat) => cs.setIfInBounds (off + x.2) x.1) C).toList = C.toList.take (off + k) ++ l ++ C.toList.drop (off + k + l.length)
 | [], k, C, _ => by simp
 | v :: l, k, C, h => by
  simp only [List.length_cons] at h
  simp only [List.zipIdx_cons, List.foldl_cons]
  rw [kb off l (k + 1) _ (by simp; omega)]
  have hlt : off + k < C.toList.length := by simp; omega
  simp only [Array.toList_setIfInBounds]
  have e1 : (C.toList.set (off + k) v).take (off + (k + 1)) = C.toList.take (off + k) ++ [v] := by
   rw [← Nat.add_assoc, List.take_succ_eq_append_getElem (by simpa using hlt), List.take_set_of_le (Nat.le_refl _)]
   simp
  have e2 : (C.toList.set (off + k) v).drop (off + (k + 1) + l.length) = C.toList.drop (off + k + (l.length + 1)) := by
   rw [List.drop_set_of_lt (by omega)]
   congr 1
   omega
  rw [e1, e2]
  simp
def Par (c : Cx) : List (Nat × AV) → List (Nat × Value) → Prop
 | [], ys => ys = []
 | x :: xs, ys => ∃ v r, ys = (x.1, v) :: r ∧ V c x.2 v ∧ Par c xs r
theorem qdb (at_ : Nat → Option (Nat × Nat)) {c : Cx} : ∀ (parts : List (Nat × AV)) (vals : List (Nat × Value)) (cs cs' : List AV) (C : Array Value),
  Par c parts vals → qbq at_ cs parts = some cs' → Vs c cs C.toList → (∀ u ∈ C.toList, u.oneCell' = true) →
   ∃ C', Instr.fill at_ C vals = some C' ∧ Vs c cs' C'.toList ∧ ∀ u ∈ C'.toList, u.oneCell' = true
 | [], vals, cs, cs', C, hf, h, hV, h1 => by
  simp [Par] at hf
  subst hf
  simp [qbq] at h
  subst h
  exact ⟨C, rfl, hV, h1⟩
 | (i, x) :: parts, vals, cs, cs', C, hf, h, hV, h1 => by
  obtain ⟨v, vals, rfl, hv, hf⟩ := hf
  simp only at hv
  simp only [qbq] at h
  split at h
  ·rename_i off size hat
   split at h
   ·rename_i us hus
    split at h
    ·rename_i hc
     simp only [Bool.and_eq_true] at hc
     have hc1 := Nat.eq_of_beq_eq_true hc.1
     have hc2 := Nat.le_of_ble_eq_true hc.2
     have hvc := ti hv hus
     have hl := hvc.1.length
     have hC : C.size = cs.length := by simpa using hV.length
     have hvs : v.cells.size = size := by simpa [hc1] using hl
     have hfold := kb off v.cells.toList 0 C (by simp; omega)
     simp only [Nat.add_zero, Array.length_toList] at hfold
     let C2 := v.cells.zipIdx.foldl (fun cs (x : Value × Nat) => cs.setIfInBounds (off + x.2) x.1) C
     have hC2 : C2.toList = C.toList.take off ++ v.cells.toList ++ C.toList.drop (off + v.cells.size) := by
      rw [← hfold]
      simp only [C2]
      rw [← Array.foldl_toList, Array.toList_zipIdx]
     have hV2 : Vs c (rh cs off us) C2.toList := by
      rw [hC2, hvs, ← hc1]
      exact Vs.rh hV hvc.1 off
     obtain ⟨C', h3, h4, h5⟩ := qdb at_ parts vals _ cs' C2 hf h hV2 (by
      rw [hC2]
      intro u hu
      simp only [List.mem_append] at hu
      rcases hu with (hu | hu) | hu
      ·exact h1 u (List.mem_of_mem_take hu)
      ·exact hvc.2 u hu
      ·exact h1 u (List.mem_of_mem_drop hu))
     refine ⟨C', ?_, h4, h5⟩
     simp only [Instr.fill, hat]
     rw [if_neg (by simp; omega)]
     exact h3
    ·cases h
   ·cases h
  ·cases h
theorem qw {c : Cx} {a : Act} : ∀ (l : List (Nat × Operand)), (∀ x ∈ l, V c (ρ x.2) (a.eval x.2)) →
  Par c (l.map fun x => (x.1, ρ x.2)) (l.map fun x => (x.1, a.eval x.2))
 | [], _ => rfl
 | x :: l, h => ⟨_, _, rfl, h x (by simp), qw l fun y hy => h y (by simp [hy])⟩
theorem qel (t : TypeId) (parts : Array (Nat × Operand)) (zs : List PV) (at_ : Nat → Option (Nat × Nat)) (hz : zeroCells P t = some zs) (hat : yp P t = some at_) (cs : List AV)
  (hf : qbq at_ (zs.map .p) (parts.toList.map fun x => (x.1, ρ x.2)) = some cs) : ay P ⟨dst, .build t parts, ty, pos, after, guard⟩ ρ rd fresh (.agg cs) [] :=
 ay.pure fun c h a hv _ _ => by
  obtain ⟨z, h1, h2⟩ := rn hz
  have hz0 := h2 c.J c.w
  obtain ⟨C', h3, h4, h5⟩ := qdb at_ _ _ _ cs z.cells (qw (ρ := ρ) (c := c) (a := a) parts.toList fun x hx => hv x.2 (by
   simp only [Op.operands, List.mem_toArray, List.mem_map]
   exact ⟨x, hx, rfl⟩)) hf ((c6 _ _).2 hz0) (b9.yo _ _ hz0)
  refine ⟨.agg C', ?_, by simp only [V]; exact ⟨C', rfl, h4, h5⟩⟩
  have hb : P.built t (parts.map fun (i, x) => (i, a.eval x)).toList = some C' := by
   unfold r9 at h1
   unfold yp at hat
   unfold Program.built
   cases hi : P.info? t with
   | none => simp [hi] at h1
   | some it =>
    simp [hi] at h1
    cases hu : P.underlying t with
    | none => simp [hu] at hat
    | some d =>
     cases d <;> simp only [hu] at hat
     case struct fields =>
      rw [Option.map_eq_some_iff] at hat
      obtain ⟨l, h6, rfl⟩ := hat
      simp only [h1, h6]
      simpa using h3
     case array n e =>
      rw [Option.map_eq_some_iff] at hat
      obtain ⟨k, h6, rfl⟩ := hat
      unfold bx at h6
      cases hie : P.info? e with
      | none => simp [hie] at h6
      | some ie =>
       simp [hie] at h6
       subst h6
       simp only [h1, hie]
       simpa using h3
     all_goals cases hat
  simp [execOp, run_build c.w t _ C' hb]
theorem i2 {I : Bool → Nat → Prop} {w : World} {x : PV} {v : Value} (h : RoV I w x v) : RoC I w x v.cells.toList ∧ v.cells.size = cf x := by
 rcases h with ⟨xs, C, rfl, rfl, h⟩ | ⟨hx, h⟩
 ·exact ⟨by simpa [RoC, Value.cells] using h, by simpa [cf, Value.cells] using h.length⟩
 ·have h1 := RoC.one x v h
  have hc : v.cells = #[v] := by cases v <;> simp [Value.oneCell'] at h1 <;> rfl
  rw [hc]
  refine ⟨h, ?_⟩
  cases x <;> first | rfl | exact absurd rfl (hx _)
theorem z7 {c : Cx} {sz : Nat} : ∀ (parts : List (Nat × AV)) (vals : List (Nat × Value)) (xs xs' : List PV) (C : Array Value),
  Par c parts vals → sg sz xs parts = some xs' → bn c.J c.w sz xs C.toList →
   ∃ C', Instr.fill (fun i => some (i * sz, sz)) C vals = some C' ∧ bn c.J c.w sz xs' C'.toList ∧ xs'.length = xs.length
 | [], vals, xs, xs', C, hf, h, hr => by
  simp [Par] at hf
  subst hf
  simp [sg] at h
  subst h
  exact ⟨C, rfl, hr, rfl⟩
 | (i, x) :: parts, vals, xs, xs', C, hf, h, hr => by
  obtain ⟨v, vals, rfl, hv, hf⟩ := hf
  simp only at hv
  simp only [sg] at h
  split at h
  ·rename_i y hy
   split at h
   ·rename_i hc
    simp only [Bool.and_eq_true] at hc
    have hc1 := Nat.eq_of_beq_eq_true hc.1
    have hc2 : i < xs.length := by
     have := hc.2
     simp [Nat.blt] at this
     omega
    have hrv := o9 (qcn hv) hy
    obtain ⟨h1, h2⟩ := i2 hrv
    have hC := hr.length
    have hC' : C.size = xs.length * sz := by simpa using hC
    have hle : i * sz + sz ≤ C.size := by
     rw [hC']
     have : (i + 1) * sz ≤ xs.length * sz := Nat.mul_le_mul_right _ hc2
     rw [Nat.add_mul] at this
     omega
    have hvs : v.cells.size = sz := by omega
    have hfold := kb (i * sz) v.cells.toList 0 C (by simp; omega)
    simp only [Nat.add_zero, Array.length_toList] at hfold
    let C2 := v.cells.zipIdx.foldl (fun cs (x : Value × Nat) => cs.setIfInBounds (i * sz + x.2) x.1) C
    have hC2 : C2.toList = C.toList.take (i * sz) ++ v.cells.toList ++ C.toList.drop (i * sz + sz) := by
     rw [← hvs] at hfold ⊢
     rw [← hfold]
     simp only [C2]
     rw [← Array.foldl_toList, Array.toList_zipIdx, hvs]
    have hr2 : bn c.J c.w sz (xs.set i y) C2.toList := by
     rw [hC2]
     exact bn.qko i y _ hr hc2 h1 (by simpa using hvs)
    obtain ⟨C', h3, h4, h5⟩ := z7 parts vals _ xs' C2 hf h hr2
    refine ⟨C', ?_, h4, by simpa using h5⟩
    simp only [Instr.fill]
    rw [if_neg (by simp; omega)]
    exact h3
   ·cases h
  ·cases h
theorem gi {I : Bool → Nat → Prop} {w : World} {sz : Nat} {z : PV} {v : Value} (h : RoV I w z v) (hz : cf z = sz) (hsz : 0 < sz) : ∀ n : Nat,
  bn I w sz (List.replicate n z) ((Array.range (n * sz)).map (v.cells[· % v.cells.size]!)).toList
 | 0 => by simp [bn]
 | n + 1 => by
  obtain ⟨h1, h2⟩ := i2 h
  have ih := gi h hz hsz n
  have hs : v.cells.size = sz := by omega
  simp only [List.replicate_succ, bn]
  refine ⟨v.cells.toList, _, ?_, by simpa using hs, h1, ih⟩
  apply List.ext_getElem?
  intro j
  simp only [Array.toList_map, Array.toList_range, List.getElem?_map, List.getElem?_append, Array.length_toList]
  by_cases hj : j < v.cells.size
  ·have h3 : j < (n + 1) * sz := by rw [Nat.add_mul]; omega
   rw [if_pos hj, List.getElem?_range h3]
   simp [Nat.mod_eq_of_lt hj, hj]
  ·rw [if_neg hj]
   by_cases h3 : j < (n + 1) * sz
   ·have h4 : j - v.cells.size < n * sz := by rw [Nat.add_mul] at h3; omega
    rw [List.getElem?_range h3, List.getElem?_range h4]
    simp only [Option.map_some]
    congr 2
    rw [Nat.mod_eq_sub_mod (by omega)]
   ·have h4 : ¬ j - v.cells.size < n * sz := by rw [Nat.add_mul] at h3; omega
    rw [List.getElem?_eq_none (by simpa using h3), List.getElem?_eq_none (by simpa using h4)]
theorem bn.yo {I : Bool → Nat → Prop} {w : World} {sz : Nat} : ∀ {xs : List PV} {cells : List Value}, bn I w sz xs cells → (∀ x ∈ xs, ∀ es, RoC I w x es → ∀ u ∈ es, u.oneCell' = true) → ∀ u ∈ cells, u.oneCell' = true
 | [], _, h, _ => by simp [bn] at h; subst h; simp
 | x :: xs, cells, h, h1 => by
  obtain ⟨es, r, rfl, _, h2, h3⟩ := h
  intro u hu
  rcases List.mem_append.1 hu with hu | hu
  ·exact h1 x (by simp) es h2 u hu
  ·exact bn.yo h3 (fun y hy => h1 y (by simp [hy])) u hu
theorem RoC.qmg {I : Bool → Nat → Prop} {w : World} {x : PV} {es : List Value} (h : RoC I w x es) : ∀ u ∈ es, u.oneCell' = true := by
 cases x with
 | agg xs => exact b9.yo xs es (by simpa [RoC] using h)
 | arr n g =>
  have h0 := h
  simp only [RoC] at h0
  obtain ⟨a, c, rfl, _⟩ := h0
  simp [Value.oneCell']
 | _ =>
  simp only [RoC] at h
  subst h
  simp [Value.oneCell']
theorem r8 (t e : TypeId) (len sz : Nat) (parts : Array (Nat × Operand)) (z : PV) (ht : P.underlying t = some (.slice e)) (hn : bx P e = some sz) (hz : jc P e = some z) (h24 : len * sz ≤ 16777216) (hsz : 0 < sz) (hzs : cf z = sz)
  (xs : List PV) (hf : sg sz (List.replicate len z) (parts.toList.map fun x => (x.1, ρ x.2)) = some xs) :
  ay P ⟨dst, .buildSlice t len parts, ty, pos, after, guard⟩ ρ rd fresh (.row fresh) [(fresh, .row e sz xs)] :=
 ay.grow fun c h a hv _ hh hb => by
  obtain ⟨zv, h1, h2⟩ := ky hz c.J c.w
  have hr := gi h2 hzs hsz len
  obtain ⟨C', h3, h4, h5⟩ := z7 _ _ _ xs _ (qw (ρ := ρ) (c := c) (a := a) parts.toList fun x hx => hv x.2 (by
   simp only [Op.operands, List.mem_toArray, List.mem_map]
   exact ⟨x, hx, rfl⟩)) hf hr
  have hlen : xs.length = len := by simpa using h5
  have hCs : C'.size = len * sz := by have := h4.length; rw [hlen] at this; simpa using this
  refine ⟨.slice (some ⟨c.w.heap.size, 0, none⟩) len len, .cells C' e, .rowv (.slice (some ⟨c.w.heap.size, 0, none⟩) len len) sz, ?_, .inl rfl, ?_, ?_⟩
  ·have hgt : ¬ 16777216 < len * sz := by omega
   have hr0 : Array.range 0 = #[] := by apply Array.ext'; simp
   by_cases h0 : len * sz = 0
   ·have h3' : Instr.fill (fun i => some (i * sz, sz)) #[] (parts.toList.map fun x => (x.1, a.eval x.2)) = some C' := by
     rw [h0, hr0, Array.map_empty] at h3
     exact h3
    have hl0 : len = 0 := by
     rcases Nat.mul_eq_zero.1 h0 with h | h
     ·exact h
     ·omega
    subst hl0
    simp [execOp, Instr.buildSlice, run_underlying ht, bz hn, hr0, h3', newRow]
   ·have h3' : Instr.fill (fun i => some (i * sz, sz)) (Array.map (fun x => zv.cells[x % zv.cells.size]!) (Array.range (len * sz))) (parts.toList.map fun x => (x.1, a.eval x.2)) = some C' := h3
    have hz1 : (zeroValue e).run P c.w = .ok zv c.w := ev h1 _
    simp only [execOp, Instr.buildSlice, Sem.run_bind, run_underlying ht, Result.andThen_ok, bz hn]
    rw [if_neg (by simpa using hgt)]
    simp only [h0, if_false, Sem.run_bind, Sem.run_pure, hz1, Result.andThen_ok]
    simp [h3', newRow]
  ·simp only [V]
   exact ⟨.inr rfl, _, _, _, sz, rfl, if_pos rfl⟩
  ·simp only [OR]
   refine ⟨trivial, hsz, C'.toList, ?_, bn.mono (mv hh _ hb _).J (mv hh _ hb _).jb _ _ h4⟩
   rw [hlen]
   refine ⟨by simpa using hCs, .inr ⟨c.w.heap.size, len, C', rfl, Nat.zero_le _, heap_alloc_new _ _, Nat.le_refl _, ?_, hCs, ?_⟩⟩
   ·have : len ≤ len * sz := Nat.le_mul_of_pos_right _ hsz
    unfold maxLen
    omega
   ·exact List.take_of_length_le (by rw [Array.length_toList, hCs]; exact Nat.le_refl _)
theorem kv (a : Act) (w : World) (s x : Operand) (t t' : TypeId) :
  (execOp a.eval ⟨dst, .call { callee := .builtin .append, args := #[s, x], argTypes := #[t, t'] }, ty, pos, after, guard⟩).run P w =
   ((Builtin.append_ #[t, t'] ty #[a.eval s, a.eval x]).run P w).andThen fun u w' => .ok (.value u) w' := by
 simp [execOp, resolve, invoke, builtin]
theorem RoC.size {I : Bool → Nat → Prop} {w : World} {x : PV} {es : List Value} (h : RoC I w x es) : es.length = cf x := by
 cases x with
 | agg xs =>
  simp only [RoC] at h
  exact h.length
 | arr n g =>
  simp only [RoC] at h
  obtain ⟨a, c, rfl, _⟩ := h
  rfl
 | _ =>
  simp only [RoC] at h
  subst h
  rfl
theorem td {I : Bool → Nat → Prop} {w : World} {sz b off : Nat} (g : Nat → PV) : ∀ (n k : Nat),
  (∀ i, i < n → ∃ es : List Value, es.length = sz ∧ RoC I w (g (k + i)) es ∧ ∀ j, j < sz → w.cell? ⟨b, off + (k + i) * sz + j, none⟩ = es[j]?) →
  ∃ cells, bn I w sz ((List.range n).map fun i => g (k + i)) cells ∧ ∀ j v, cells[j]? = some v → w.cell? ⟨b, off + k * sz + j, none⟩ = some v
 | 0, k, _ => ⟨[], by simp [bn], fun j v h => by simp at h⟩
 | n + 1, k, h => by
  obtain ⟨es, h1, h2, h3⟩ := h 0 (by omega)
  obtain ⟨cells, h4, h5⟩ := td g n (k + 1) fun i hi => by
   obtain ⟨es, k1, k2, k3⟩ := h (i + 1) (by omega)
   have e : k + (i + 1) = k + 1 + i := by omega
   rw [e] at k2 k3
   exact ⟨es, k1, k2, k3⟩
  refine ⟨es ++ cells, ?_, fun j v hj => ?_⟩
  ·rw [List.range_succ_eq_map, List.map_cons, List.map_map]
   simp only [bn]
   refine ⟨es, cells, rfl, h1, by simpa using h2, ?_⟩
   have e : ((fun i => g (k + i)) ∘ Nat.succ) = fun i => g (k + 1 + i) := by
    funext i
    simp only [Function.comp]
    congr 1
    omega
   rw [e]
   exact h4
  ·rw [List.getElem?_append] at hj
   split at hj
   ·rename_i hlt
    have := h3 j (by omega)
    simp only [Nat.add_zero] at this
    rw [this, hj]
   ·rename_i hge
    have := h5 (j - es.length) v hj
    rw [← this]
    congr 2
    rw [Nat.add_mul]
    omega
theorem qbx {sz : Nat} (hsz : 0 < sz) {x : AV} {K : List PV → Prop} (h : qt rd sz x K) :
  ∃ ys, K ys ∧ ∀ (c : Cx) (hp : HP) (u : Value), V c x u → (∀ i, rd i ≠ .dead → hp i = some (rd i)) → HR c hp →
   ∃ a cp cells, u = .slice a ys.length cp ∧ bn c.J c.w sz ys cells ∧ (0 < ys.length → ∃ ad, a = some ad ∧ ∀ j v, cells[j]? = some v → c.w.cell? (ad.add j) = some v) := by
 have arr : ∀ (m : Bool) (n : Nat) (g : Nat → PV), (∀ i, i < n → cf (g i) = sz) → ∀ (c : Cx) (u : Value), RoC c.J c.w (.arr m n g) [u] →
   ∃ a cp cells, u = .slice a ((List.range n).map g).length cp ∧ bn c.J c.w sz ((List.range n).map g) cells ∧ (0 < ((List.range n).map g).length → ∃ ad, a = some ad ∧ ∀ j v, cells[j]? = some v → c.w.cell? (ad.add j) = some v) := by
  intro m n g hg c u h
  simp only [RoC] at h
  obtain ⟨a, cp, h1, _, h2⟩ := h
  simp at h1
  simp only [List.length_map, List.length_range]
  by_cases hn : 0 < n
  ·obtain ⟨b, off, s, rfl, hI, hs, _, h3⟩ := h2 hn
   have hss : s = sz := by
    obtain ⟨es, k1, k2, _⟩ := h3 0 hn
    rw [← k1, k2.size, hg 0 hn]
   subst hss
   obtain ⟨cells, h4, h5⟩ := td (I := c.J) (w := c.w) (sz := s) (b := b) (off := off) g n 0 fun i hi => by simpa using h3 i hi
   refine ⟨_, cp, cells, h1, by simpa using h4, fun _ => ⟨_, rfl, fun j v hj => ?_⟩⟩
   rw [fv]
   simpa using h5 j v hj
  ·have : n = 0 := by omega
   subst this
   exact ⟨a, cp, [], h1, by simp [bn], fun h => absurd h (by omega)⟩
 unfold qt at h
 split at h
 ·refine ⟨[], h, fun c hp u hu _ _ => ⟨none, 0, [], ?_, by simp [bn], fun h => absurd h (by simp)⟩⟩
  simpa using j6 hu
 ·rename_i m n g
  exact ⟨_, h.2, fun c hp u hu _ _ => arr m n g h.1 c u (by simpa only [V] using hu)⟩
 ·rename_i id
  split at h
  ·rename_i e sz' xs hr
   split at h
   ·rename_i hb
    have := Nat.eq_of_beq_eq_true hb
    subst this
    refine ⟨xs, h, fun c hp u hu hrd hh => ?_⟩
    simp only [V] at hu
    obtain ⟨_, a, n, cp, s, rfl, h4⟩ := hu
    have h6 := (hh.obj id _ (hrd id (by rw [hr]; simp))).2
    rw [hr, h4] at h6
    simp only [OR] at h6
    obtain ⟨rfl, _, cells, h7, h8⟩ := h6
    rcases h7.2 with ⟨he, h9⟩ | ⟨g, cap, cur, he, _⟩
    ·simp at he
     obtain ⟨rfl, rfl, rfl⟩ := he
     exact ⟨none, 0, cells, by rw [h9], h8, fun h => absurd h (by omega)⟩
    ·simp at he
     obtain ⟨rfl, rfl, rfl⟩ := he
     refine ⟨_, cp, cells, rfl, h8, fun _ => ⟨_, rfl, fun j v hj => ?_⟩⟩
     exact h7.cells (g := g) rfl j v hj
   ·exact h.elim
  ·rename_i sz' xs hr
   refine ⟨xs, h.2, fun c hp u hu hrd hh => ?_⟩
   simp only [V] at hu
   obtain ⟨_, a, n, cp, s, rfl, h4⟩ := hu
   have h6 := (hh.obj id _ (hrd id (by rw [hr]; simp))).2
   rw [hr, h4] at h6
   simp only [OR] at h6
   obtain ⟨a', cp', cells, h7, h8, h9⟩ := arr true xs.length (fun j => xs.getD j .nilp) h.1 c _ h6
   have e : (List.range xs.length).map (fun j => xs.getD j .nilp) = xs := by
    apply List.ext_getElem
    ·simp
    ·intro i h1 h2
     simp at h1
     simp [h1]
   rw [e] at h7 h8 h9
   exact ⟨a', cp', cells, h7, h8, h9⟩
  ·exact h.elim
 ·exact h.elim
theorem gu {t e : TypeId} {sz : Nat} (ht : P.underlying t = some (.slice e)) (hn : bx P e = some sz) {b : Option Addr} {n cp : Nat} (h : n ≤ cp) (a : Option Addr) (c : Nat) (w : World) :
  (Builtin.append_ #[t, t] ty #[.slice b n cp, .slice a 0 c]).run P w = .ok (.slice b n cp) w := by
 cases a <;> cases b <;> simp [Builtin.append_, run_underlying ht, bz hn, Builtin.lenOf, Builtin.firstCells, loadCells, loadCellsFrom, storeCells, h]
end
end Go.RX
namespace Go.RX
def xf (c : Cx) (w' : World) (fresh : Nat) (v' : Value) (sz : Nat) : Cx := ⟨fun j => if j = fresh then .rowv v' sz else c.β j, c.I, w', fun j => c.born j ∨ j = fresh, c.base⟩
def xg (h : HP) (fresh : Nat) (old : Option Nat) (ao : AO) : HP := fun j => if j = fresh then some ao else if old = some j then some .dead else h j
theorem ml {c : Cx} {h : HP} (hh : HR c h) {fresh : Nat} (hf : ¬ c.born fresh) {w' : World} {row : Option Nat} (hg : c.w.grownBy w' row) (old : Option Nat)
  (hold : (old = none ∧ row = none) ∨ ∃ i, old = some i ∧ Live h i ∧ (c.β i).block = row) {v' : Value} {e sz : Nat} {xs : List PV} {cells : List Value} (hsz : 0 < sz) (hown : w'.ownsRow 0 e sz v' xs.length cells)
  (hrow : bn c.J c.w sz xs cells) (hblk : v'.ownBlock = row ∨ v'.ownBlock = some c.w.heap.size ∨ v'.ownBlock = none) :
  HR (xf c w' fresh v' sz) (xg h fresh old (.row e sz xs)) ∧ Ext c (xf c w' fresh v' sz) ∧ Fr c h (xf c w' fresh v' sz) (xg h fresh old (.row e sz xs)) := by
 have hβ : ∀ j, j ≠ fresh → (xf c w' fresh v' sz).β j = c.β j := fun j hj => if_neg hj
 have hβf : (xf c w' fresh v' sz).β fresh = .rowv v' sz := if_pos rfl
 have hfl : ¬ Live h fresh := fun ⟨o, h1, _⟩ => hf (hh.obj fresh o h1).1
 have hIrow : ∀ b, c.I b → some b ≠ row := by
  intro b hb e
  rcases hold with ⟨_, h2⟩ | ⟨i, _, hl, h2⟩
  ·rw [h2] at e; cases e
  ·exact hh.apart i b hl (h2.trans e.symm) hb
 have ext : Ext c (xf c w' fresh v' sz) :=
  ⟨fun j hj => .inl hj, fun j hj => hβ j (fun e => hf (e ▸ hj)), fun _ h => h, fun b hb => hg.block b (hh.bound b hb) (hIrow b hb), rfl⟩
 have live : ∀ j, Live (xg h fresh old (.row e sz xs)) j → j = fresh ∨ (j ≠ fresh ∧ old ≠ some j ∧ Live h j) := by
  rintro j ⟨o, h1, h2⟩
  simp only [xg] at h1
  by_cases e1 : j = fresh
  ·exact .inl e1
  ·rw [if_neg e1] at h1
   by_cases e2 : old = some j
   ·rw [if_pos e2] at h1
    injection h1 with h1
    subst h1
    simp [dz] at h2
   ·rw [if_neg e2] at h1
    exact .inr ⟨e1, e2, o, h1, h2⟩
 have other : ∀ j b, old ≠ some j → Live h j → (c.β j).block = some b → some b ≠ row := by
  intro j b h1 h2 h3 h4
  rcases hold with ⟨_, h5⟩ | ⟨i, h5, hl, h6⟩
  ·rw [h5] at h4; cases h4
  ·have := hh.inj j i b h2 hl h3 (h6.trans h4.symm)
   exact h1 (this ▸ h5)
 have newb : ∀ b, v'.ownBlock = some b → some b = row ∨ b = c.w.heap.size := by
  intro b hb
  rcases hblk with h1 | h1 | h1
  ·exact .inl (hb.symm.trans h1)
  ·rw [h1] at hb; injection hb with hb; exact .inr hb.symm
  ·rw [h1] at hb; cases hb
 have hrowlt : ∀ b, row = some b → b < c.w.heap.size := by
  intro b hb
  rcases hold with ⟨_, h5⟩ | ⟨i, _, hl, h6⟩
  ·rw [h5] at hb; cases hb
  ·exact hh.size i b hl (h6.trans hb)
 refine ⟨⟨fun j o ho => ?_, fun j k b hj hk hjb hkb => ?_, fun j b hj hjb => ?_, fun b hb => Nat.lt_of_lt_of_le (hh.bound b hb) hg.size, fun j b hj hjb => ?_, fun j b hj hjb => ?_, Nat.le_trans hh.base hg.size⟩, ext, ⟨hg.os, hg.tape, hg.output, hg.size, fun b hb hn => ?_, fun _ h => h, fun _ h => .inl h, fun j b hj hjb => ?_, rfl⟩⟩
 ·simp only [xg] at ho
  by_cases e1 : j = fresh
  ·rw [if_pos e1] at ho
   injection ho with ho
   subst ho e1
   refine ⟨.inr rfl, ?_⟩
   rw [hβf]
   simp only [OR]
   exact ⟨trivial, hsz, cells, hown, bn.mono ext.J ext.jb _ _ hrow⟩
  ·rw [if_neg e1] at ho
   by_cases e2 : old = some j
   ·rw [if_pos e2] at ho
    injection ho with ho
    subst ho
    rcases hold with ⟨h5, _⟩ | ⟨i, h5, ⟨o, hl, _⟩, _⟩
    ·rw [h5] at e2; cases e2
    ·rw [h5] at e2
     injection e2 with e2
     subst e2
     exact ⟨.inl (hh.obj i o hl).1, by simp only [OR]⟩
   ·rw [if_neg e2] at ho
    obtain ⟨h1, h2⟩ := hh.obj j o ho
    refine ⟨.inl h1, ?_⟩
    rw [hβ j e1]
    cases hlv : dz o with
    | false => exact h2.kj ext hlv
    | true => exact h2.mono ext fun b hb => hg.block b (hh.size j b ⟨o, ho, hlv⟩ hb) (other j b e2 ⟨o, ho, hlv⟩ hb)
 ·rcases live j hj with e1 | ⟨e1, e2, hj'⟩ <;> rcases live k hk with f1 | ⟨f1, f2, hk'⟩
  ·rw [e1, f1]
  ·subst e1
   rw [hβf] at hjb
   rw [hβ k f1] at hkb
   rcases newb b hjb with h1 | h1
   ·exact absurd h1 (other k b f2 hk' hkb)
   ·have := hh.size k b hk' hkb
    omega
  ·subst f1
   rw [hβf] at hkb
   rw [hβ j e1] at hjb
   rcases newb b hkb with h1 | h1
   ·exact absurd h1 (other j b e2 hj' hjb)
   ·have := hh.size j b hj' hjb
    omega
  ·rw [hβ j e1] at hjb
   rw [hβ k f1] at hkb
   exact hh.inj j k b hj' hk' hjb hkb
 ·rcases live j hj with e1 | ⟨e1, e2, hj'⟩
  ·subst e1
   rw [hβf] at hjb
   intro hI
   rcases newb b hjb with h1 | h1
   ·exact hIrow b hI h1
   ·have := hh.bound b hI
    omega
  ·rw [hβ j e1] at hjb
   exact hh.apart j b hj' hjb
 ·rcases live j hj with e1 | ⟨e1, e2, hj'⟩
  ·subst e1
   rw [hβf] at hjb
   rcases hown.2 with ⟨rfl, _⟩ | ⟨g, cap, cur, rfl, _, hgg, _⟩
   ·simp [Loc.block, Value.ownBlock] at hjb
   ·simp [Loc.block, Value.ownBlock] at hjb
    subst hjb
    exact (Array.getElem?_eq_some_iff.1 hgg).1
  ·rw [hβ j e1] at hjb
   exact Nat.lt_of_lt_of_le (hh.size j b hj' hjb) hg.size
 ·rcases live j hj with e1 | ⟨e1, e2, hj'⟩
  ·subst e1
   rw [hβf] at hjb
   show c.base ≤ b
   rcases newb b hjb with h1 | h1
   ·rcases hold with ⟨_, h5⟩ | ⟨i, _, hl, h6⟩
    ·rw [h5] at h1; cases h1
    ·exact hh.low i b hl (h6.trans h1.symm)
   ·rw [h1]; exact hh.base
  ·rw [hβ j e1] at hjb
   exact hh.low j b hj' hjb
 ·refine hg.block b hb fun e1 => ?_
  rcases hold with ⟨_, h5⟩ | ⟨i, _, hl, h6⟩
  ·rw [h5] at e1; cases e1
  ·exact hn i hl (h6.trans e1.symm)
 ·rcases live j hj with e1 | ⟨e1, e2, hj'⟩
  ·subst e1
   rw [hβf] at hjb
   rcases newb b hjb with h1 | h1
   ·rcases hold with ⟨_, h5⟩ | ⟨i, _, hl, h6⟩
    ·rw [h5] at h1; cases h1
    ·exact .inr ⟨i, hl, h6.trans h1.symm⟩
   ·exact .inl (by omega)
  ·rw [hβ j e1] at hjb
   exact .inr ⟨j, hj', hjb⟩
section
variable {P : Program} {ρ : Operand → AV} {rd : Nat → AO} {fresh : Nat} {dst : Option Tmp} {ty : TypeId} {pos : String} {after : Array Edge} {guard : Option (Nat × Bool)}
theorem bn.append {I : Bool → Nat → Prop} {w : World} {sz : Nat} : ∀ {xs ys : List PV} {a b : List Value}, bn I w sz xs a → bn I w sz ys b → bn I w sz (xs ++ ys) (a ++ b)
 | [], ys, a, b, h, k => by simp [bn] at h; subst h; simpa using k
 | x :: xs, ys, a, b, h, k => by
  obtain ⟨es, r, rfl, h1, h2, h3⟩ := h
  exact ⟨es, r ++ b, by simp, h1, h2, bn.append h3 k⟩
theorem tf (t : TypeId) (s x : Operand) {K : KA} (h : py P rd fresh t (ρ s) (ρ x) K) :
  ∃ v wr, K v wr ∧ ay P ⟨dst, .call { callee := .builtin .append, args := #[s, x], argTypes := #[t, t] }, ty, pos, after, guard⟩ ρ rd fresh v wr := by
 unfold py at h
 split at h
 ·rename_i e ht
  split at h
  ·rename_i sz by_ z hn hby hz
   split at h
   ·rename_i hchk
    simp only [Bool.and_eq_true] at hchk
    have hsz : 0 < sz := by have := hchk.1.1; simp [Nat.blt] at this; omega
    have hby0 : 0 < by_ := by have := hchk.1.2; simp [Nat.blt] at this; omega
    have hzs : cf z = sz := Nat.eq_of_beq_eq_true hchk.2
    obtain ⟨ys, hk, hmore⟩ := qbx hsz h
    have info : ∃ i zv, P.info? e = some i ∧ i.zero = some zv ∧ i.size = sz ∧ i.bytes = by_ ∧ zv.cells.size = sz := by
     unfold bx at hn
     unfold mq at hby
     cases hi : P.info? e with
     | none => simp [hi] at hn
     | some i =>
      simp [hi] at hn hby
      obtain ⟨zv, h1, h2⟩ := ky hz (fun _ _ => True) ⟨#[], fun _ _ => 0, 0, default, #[]⟩
      unfold r9 at h1
      simp [hi] at h1
      exact ⟨i, zv, rfl, h1, hn, hby, by have := (i2 h2).2; omega⟩
    obtain ⟨i, zv, hi, hzv, his, hib, hzc⟩ := info
    have run : ∀ (c : Cx) (hp : HP) (a : Act), V c (ρ x) (a.eval x) → (∀ i, rd i ≠ .dead → hp i = some (rd i)) → HR c hp → ∀ (v : Value) (xs : List PV) (cells : List Value), a.eval s = v → c.w.ownsRow 0 e sz v xs.length cells → bn c.J c.w sz xs cells → (xs.length + ys.length) * by_ ≤ 140737488355328 →
      ∃ v' w' cells', (execOp a.eval ⟨dst, .call { callee := .builtin .append, args := #[s, x], argTypes := #[t, t] }, ty, pos, after, guard⟩).run P c.w = .ok (.value v') w' ∧ c.w.grownBy w' v.ownBlock ∧
       w'.ownsRow 0 e sz v' (xs ++ ys).length cells' ∧ bn c.J c.w sz (xs ++ ys) cells' ∧ (v'.ownBlock = v.ownBlock ∨ v'.ownBlock = some c.w.heap.size ∨ v'.ownBlock = none) ∧ ∃ b n cp, v' = .slice b n cp := by
     intro c hp a hx hrd hh v xs cells hs hown hrow hle
     obtain ⟨ax, cx, news, hu, hnews, hmem⟩ := hmore c hp _ hx hrd hh
     have shape : ∀ {w : World} {u : Value} {n : Nat} {cs : List Value}, w.ownsRow 0 e sz u n cs → ∃ b m cp, u = .slice b m cp := by
      intro w u n cs ho
      rcases ho.2 with ⟨rfl, _⟩ | ⟨g, cap, cur, rfl, _⟩
      ·exact ⟨_, _, _, rfl⟩
      ·exact ⟨_, _, _, rfl⟩
     by_cases hm : 0 < ys.length
     ·obtain ⟨ad, rfl, hcell⟩ := hmem hm
      have hnl : news.length = ys.length * sz := hnews.length
      have hlen : xs.length + ys.length ≤ 140737488355328 := Nat.le_trans (Nat.le_mul_of_pos_right _ hby0) hle
      obtain ⟨v', w', h1, h2, h3, _, h5⟩ := run_append_own_at (P := P) c.w 0 t ty e i zv sz by_ ht hi hzv his hib hzc hsz v xs.length cells hown ad ys.length cx news hnl hcell
       (bn.yo hnews fun y _ es he => RoC.qmg he) (by simp only [maxLen]; omega) hle (Nat.zero_le _)
      refine ⟨v', w', cells ++ news, ?_, h3, by rw [List.length_append]; exact h2, bn.append hrow hnews, h5.elim .inl (fun h => .inr (.inl h)), shape h2⟩
      rw [kv, hs, hu, h1]
      rfl
     ·have hy : ys = [] := List.eq_nil_of_length_eq_zero (by omega)
      subst hy
      obtain ⟨b, m, cp, rfl⟩ := shape hown
      have hmc : m ≤ cp := by
       rcases hown.2 with ⟨he, _⟩ | ⟨g, cap, cur, he, _, _, hnc, _⟩
       ·simp at he; omega
       ·simp at he; omega
      refine ⟨.slice b m cp, c.w, cells, ?_, ⟨rfl, rfl, rfl, Nat.le_refl _, fun _ _ _ => rfl⟩, by simpa using hown, by simpa using hrow, .inl rfl, b, m, cp, rfl⟩
      rw [kv, hs, hu]
      simp only [List.length_nil]
      rw [gu ht hn hmc]
      rfl
    split at hk
    ·rename_i hx
     obtain ⟨hle, hK⟩ := hk
     refine ⟨_, _, hK, fun c hp a next Q hv hrd hf hh hnext => ?_⟩
     have hb : ¬ c.born fresh := hf fresh (Nat.le_refl _) ⟨_, List.mem_singleton.2 rfl⟩
     have e1 := hv s (by simp [Op.operands, Call.operands])
     rw [hx] at e1
     have e2 := j6 e1
     obtain ⟨v', w', cells', h1, h2, h3, h4, h5, b, n, cp, h6⟩ := run c hp a (hv x (by simp [Op.operands, Call.operands])) hrd hh _ [] [] e2 (World.ownsRow_nil _ _ _ _) (by simp [bn]) (by simpa using hle)
     obtain ⟨k1, k2, k3⟩ := ml hh hb h2 none (.inl ⟨rfl, rfl⟩) hsz h3 h4 h5
     have hupd : dq hp [(fresh, .row e sz ys)] = xg hp fresh none (.row e sz ([] ++ ys)) := by
      funext j
      simp [dq, xg]
     simp only [Oper.wp, h1, Oper.upon_value]
     refine hnext v' _ ?_ (hupd ▸ k1) k2 (hupd ▸ k3) fun j hj => ?_
     ·simp only [V]
      exact ⟨.inr rfl, b, n, cp, sz, h6, if_pos rfl⟩
     ·rcases hj with hj | hj
      ·exact .inl hj
      ·exact .inr ⟨.row e sz ys, by rw [hj]; simp⟩
    ·rename_i id hx
     split at hk
     ·rename_i e' sz' xs hr
      split at hk
      ·rename_i hb
       simp only [Bool.and_eq_true] at hb
       have q1 := Nat.eq_of_beq_eq_true hb.1
       have q2 := Nat.eq_of_beq_eq_true hb.2
       subst q1 q2
       obtain ⟨hle, hK⟩ := hk
       refine ⟨_, _, hK, fun c hp a next Q hv hrd hf hh hnext => ?_⟩
       have hbn : ¬ c.born fresh := hf fresh (Nat.le_refl _) ⟨_, List.mem_cons_of_mem _ (List.mem_singleton.2 rfl)⟩
       have e1 := hv s (by simp [Op.operands, Call.operands])
       rw [hx] at e1
       simp only [V] at e1
       obtain ⟨hbi, b0, n0, cp0, s0, e2, e3⟩ := e1
       have hpi : hp id = some (rd id) := hrd id (by rw [hr]; simp)
       have e4 := (hh.obj id _ hpi).2
       rw [hr, e3] at e4
       simp only [OR] at e4
       obtain ⟨rfl, _, cells, e5, e6⟩ := e4
       obtain ⟨v', w', cells', h1, h2, h3, h4, h5, b, n, cp, h6⟩ := run c hp a (hv x (by simp [Op.operands, Call.operands])) hrd hh _ xs cells rfl e5 e6 hle
       have hlive : Live hp id := ⟨_, hpi, by rw [hr]; rfl⟩
       obtain ⟨k1, k2, k3⟩ := ml hh hbn h2 (some id) (.inr ⟨id, rfl, hlive, by rw [e3]; rfl⟩) hsz h3 h4 h5
       have hne : id ≠ fresh := fun e => hbn (e ▸ hbi)
       have hupd : dq hp [(id, .dead), (fresh, .row e s0 (xs ++ ys))] = xg hp fresh (some id) (.row e s0 (xs ++ ys)) := by
        funext j
        simp only [dq, xg]
        by_cases h7 : j = fresh
        ·rw [if_pos h7, if_pos h7]
        ·rw [if_neg h7, if_neg h7]
         by_cases h8 : j = id
         ·rw [if_pos h8, if_pos (by rw [h8])]
         ·rw [if_neg h8, if_neg (fun h9 => h8 (Option.some.inj h9).symm)]
       simp only [Oper.wp, h1, Oper.upon_value]
       refine hnext v' _ ?_ (hupd ▸ k1) k2 (hupd ▸ k3) fun j hj => ?_
       ·simp only [V]
        exact ⟨.inr rfl, b, n, cp, s0, h6, if_pos rfl⟩
       ·rcases hj with hj | hj
        ·exact .inl hj
        ·exact .inr ⟨.row e s0 (xs ++ ys), by rw [hj]; simp⟩
      ·exact hk.elim
     ·exact hk.elim
    ·exact hk.elim
   ·exact h.elim
  ·exact h.elim
 ·exact h.elim
end
end Go.RX
namespace Go.RX
section
variable {P : Program} {ρ : Operand → AV} {rd : Nat → AO} {fresh : Nat} {dst : Option Tmp} {ty : TypeId} {pos : String} {after : Array Edge} {guard : Option (Nat × Bool)}
theorem k9 {x : Option AV} {d : Int} {K : Int → Prop} (h : gy x d K) : (x = none ∧ K d) ∨ ∃ k n, x = some (.p (.int k n)) ∧ K n := by
 unfold gy at h
 split at h
 ·exact .inl ⟨rfl, h⟩
 ·exact .inr ⟨_, _, rfl, h⟩
 ·exact h.elim
theorem gh {b : Bool} {len cap : Nat} (hlc : len ≤ cap) {lo hi : Option Value} {l h : Int} (hl : (lo = none ∧ l = 0) ∨ ∃ k, lo = some (.int k l)) (hh : (hi = none ∧ h = len) ∨ ∃ k, hi = some (.int k h)) (h0 : 0 ≤ l) (h1 : l ≤ h) (h2 : h ≤ len) (w : World) :
  (Instr.sliceBounds b len cap lo hi none).run P w = .ok (l.toNat, h.toNat, cap) w := by
 have e : ((h.toNat : Nat) : Int) = h := by omega
 have s1 : ∀ (k : IntKind) (c : BoundsCode), (Instr.sliceBound (.int k h) cap c).run P w = .ok h.toNat w := fun k c => run_sliceBound w k h cap c (by omega) (by omega)
 have s2 : ∀ (k : IntKind) (c : BoundsCode), (Instr.sliceBound (.int k l) h.toNat c).run P w = .ok l.toNat w := fun k c => run_sliceBound w k l h.toNat c h0 (by omega)
 rcases hh with ⟨rfl, rfl⟩ | ⟨k, rfl⟩ <;> rcases hl with ⟨rfl, rfl⟩ | ⟨k', rfl⟩
 ·simp [Instr.sliceBounds]
 ·simp only [Int.toNat_natCast] at s2
  simp [Instr.sliceBounds, s2]
 ·simp [Instr.sliceBounds, s1]
 ·simp [Instr.sliceBounds, s1, s2]
theorem uf {c : Cx} {a : Act} {o : Option Operand} {k : IntKind} {n : Int} (h : o.map ρ = some (.p (.int k n))) (hv : ∀ x, o = some x → V c (ρ x) (a.eval x)) : o.map a.eval = some (.int k n) := by
 cases o with
 | none => simp at h
 | some x =>
  simp only [Option.map_some, Option.some.injEq] at h ⊢
  have := hv x rfl
  rw [h] at this
  exact mi this
theorem i9 (t : TypeId) (x : Operand) (lo hi mx : Option Operand) {K : AV → Prop} (h : ng P t (ρ x) (lo.map ρ) (hi.map ρ) (mx.map ρ) K) :
  ∃ v, K v ∧ ay P ⟨dst, .slice t x lo hi mx, ty, pos, after, guard⟩ ρ rd fresh v [] := by
 have opn : ∀ (c : Cx) (a : Act), (∀ y ∈ (Op.slice t x lo hi mx).operands, V c (ρ y) (a.eval y)) → V c (ρ x) (a.eval x) ∧ (∀ y, lo = some y → V c (ρ y) (a.eval y)) ∧ (∀ y, hi = some y → V c (ρ y) (a.eval y)) := fun c a hv =>
  ⟨hv x (by simp [Op.operands]), fun y hy => hv y (by subst hy; simp [Op.operands]), fun y hy => hv y (by subst hy; simp [Op.operands])⟩
 have low : ∀ (l : Int) (c : Cx) (a : Act), ((lo.map ρ = none ∧ l = 0) ∨ ∃ k n, lo.map ρ = some (.p (.int k n)) ∧ n = l) → (∀ y, lo = some y → V c (ρ y) (a.eval y)) → (lo.map a.eval = none ∧ l = 0) ∨ ∃ k, lo.map a.eval = some (.int k l) := by
  rintro l c a (⟨h1, h2⟩ | ⟨k, n, h1, rfl⟩) hv
  ·exact .inl ⟨by cases lo <;> simp_all, h2⟩
  ·exact .inr ⟨k, uf h1 hv⟩
 have hig : ∀ (d l : Int) (c : Cx) (a : Act), ((hi.map ρ = none ∧ l = d) ∨ ∃ k n, hi.map ρ = some (.p (.int k n)) ∧ n = l) → (∀ y, hi = some y → V c (ρ y) (a.eval y)) → (hi.map a.eval = none ∧ l = d) ∨ ∃ k, hi.map a.eval = some (.int k l) := by
  rintro d l c a (⟨h1, h2⟩ | ⟨k, n, h1, rfl⟩) hv
  ·exact .inl ⟨by cases hi <;> simp_all, h2⟩
  ·exact .inr ⟨k, uf h1 hv⟩
 unfold ng at h
 split at h
 ·rename_i s hm ht hx
  have hmx : mx = none := by cases mx <;> simp_all
  subst hmx
  obtain ⟨hh, hhi, h⟩ : ∃ hh, ((hi.map ρ = none ∧ hh = (s.size : Int)) ∨ ∃ k n, hi.map ρ = some (.p (.int k n)) ∧ n = hh) ∧ gy (lo.map ρ) 0 fun l => 0 ≤ l ∧ l ≤ hh ∧ hh ≤ s.size ∧ K (.p (.str (s.extract l.toNat hh.toNat))) := by
   rcases k9 h with ⟨h1, h2⟩ | ⟨k, n, h1, h2⟩
   ·exact ⟨_, .inl ⟨h1, rfl⟩, h2⟩
   ·exact ⟨_, .inr ⟨k, n, h1, rfl⟩, h2⟩
  obtain ⟨ll, hlo, g0, g1, g2, hk⟩ : ∃ ll, ((lo.map ρ = none ∧ ll = 0) ∨ ∃ k n, lo.map ρ = some (.p (.int k n)) ∧ n = ll) ∧ 0 ≤ ll ∧ ll ≤ hh ∧ hh ≤ s.size ∧ K (.p (.str (s.extract ll.toNat hh.toNat))) := by
   rcases k9 h with ⟨h1, h2⟩ | ⟨k, n, h1, h2⟩
   ·exact ⟨_, .inl ⟨h1, rfl⟩, h2⟩
   ·exact ⟨_, .inr ⟨k, n, h1, rfl⟩, h2⟩
  refine ⟨_, hk, ay.pure fun c hp a hv _ _ => ⟨.string (s.extract ll.toNat hh.toNat), ?_, qcm _⟩⟩
  obtain ⟨e1, e2, e3⟩ := opn c a hv
  rw [hx] at e1
  have hb := gh (P := P) (b := false) (Nat.le_refl s.size) (low ll c a hlo e2) (hig _ hh c a hhi e3) g0 g1 g2 c.w
  simp [execOp, u7 e1, Instr.sliceAt, Instr.slice, run_underlying ht, hb]
 ·rename_i e m n g hm ht hx
  have hmx : mx = none := by cases mx <;> simp_all
  subst hmx
  obtain ⟨sz, hsz, hg, h⟩ : ∃ sz, bx P e = some sz ∧ (∀ i, i < n → cf (g i) = sz) ∧ gy (hi.map ρ) n (fun h => gy (lo.map ρ) 0 fun l => 0 ≤ l ∧ l ≤ h ∧ h ≤ n ∧ K (.p (.arr m (h.toNat - l.toNat) fun i => g (l.toNat + i)))) := by
   cases hs : bx P e with
   | none => rw [hs] at h; exact h.elim
   | some sz => rw [hs] at h; exact ⟨sz, rfl, h⟩
  obtain ⟨hh, hhi, h⟩ : ∃ hh, ((hi.map ρ = none ∧ hh = (n : Int)) ∨ ∃ k q, hi.map ρ = some (.p (.int k q)) ∧ q = hh) ∧ gy (lo.map ρ) 0 fun l => 0 ≤ l ∧ l ≤ hh ∧ hh ≤ n ∧ K (.p (.arr m (hh.toNat - l.toNat) fun i => g (l.toNat + i))) := by
   rcases k9 h with ⟨h1, h2⟩ | ⟨k, n, h1, h2⟩
   ·exact ⟨_, .inl ⟨h1, rfl⟩, h2⟩
   ·exact ⟨_, .inr ⟨k, _, h1, rfl⟩, h2⟩
  obtain ⟨ll, hlo, g0, g1, g2, hk⟩ : ∃ ll, ((lo.map ρ = none ∧ ll = 0) ∨ ∃ k q, lo.map ρ = some (.p (.int k q)) ∧ q = ll) ∧ 0 ≤ ll ∧ ll ≤ hh ∧ hh ≤ n ∧ K (.p (.arr m (hh.toNat - ll.toNat) fun i => g (ll.toNat + i))) := by
   rcases k9 h with ⟨h1, h2⟩ | ⟨k, n, h1, h2⟩
   ·exact ⟨_, .inl ⟨h1, rfl⟩, h2⟩
   ·exact ⟨_, .inr ⟨k, _, h1, rfl⟩, h2⟩
  refine ⟨_, hk, ay.pure fun c hp a hv _ _ => ?_⟩
  obtain ⟨e1, e2, e3⟩ := opn c a hv
  rw [hx] at e1
  simp only [V, RoC] at e1
  obtain ⟨ad, cp, hu, ⟨hnc, hnm⟩, hel⟩ := e1
  simp only [List.cons.injEq, and_true] at hu
  have hb := gh (P := P) (b := true) hnc (low ll c a hlo e2) (hig _ hh c a hhi e3) g0 g1 g2 c.w
  refine ⟨.slice (if cp = ll.toNat then ad else ad.map (·.add (ll.toNat * sz))) (hh.toNat - ll.toNat) (cp - ll.toNat), ?_, ?_⟩
  ·simp [execOp, hu, Instr.sliceAt, Instr.slice, run_underlying ht, hb, bz hsz]
  ·simp only [V, RoC]
   refine ⟨_, _, rfl, ⟨by omega, by omega⟩, fun h0 => ?_⟩
   have q1 : ¬ cp = ll.toNat := by omega
   have q2 : ∀ i, i < hh.toNat - ll.toNat → ll.toNat + i < n := fun i hi => by omega
   have q3 : 0 < n := by omega
   clear hb
   obtain ⟨b, off, s, rfl, hI, hs, hd, hcell⟩ := hel q3
   have hss : s = sz := by
    obtain ⟨es, k1, k2, _⟩ := hcell 0 q3
    rw [← k1, k2.size, hg 0 q3]
   subst hss
   refine ⟨b, off + ll.toNat * s, s, ?_, hI, hs, fun hm => Nat.dvd_add (hd hm) (Nat.dvd_mul_left s _), fun i hi => ?_⟩
   ·rw [if_neg q1]
    simp [fv]
   ·obtain ⟨es, k1, k2, k3⟩ := hcell (ll.toNat + i) (q2 i hi)
    refine ⟨es, k1, k2, fun j hj => ?_⟩
    rw [← k3 j hj, Nat.add_mul]
    congr 2
    omega
 ·exact h.elim
end
end Go.RX
namespace Go.RX
theorem qhi {I : Bool → Nat → Prop} {w : World} {x : PV} {v : Value} (h : RoV I w x v) : RoV I w (qe2 x) v := by
 unfold qe2
 split
 ·rcases h with ⟨xs, C, e, _⟩ | ⟨_, h⟩
  ·cases e
  ·simp only [RoC, List.cons.injEq, and_true] at h
   subst h
   exact .inr ⟨fun xs e => (by cases e), (by simp only [RoC]; exact ⟨none, 0, rfl, ⟨Nat.le_refl _, Nat.zero_le _⟩, fun h => absurd h (Nat.lt_irrefl 0)⟩)⟩
 ·exact h
theorem qe3 (x : PV) : cf (qe2 x) = cf x := by
 unfold qe2
 split <;> rfl
section
variable {P : Program} {ρ : Operand → AV} {rd : Nat → AO} {fresh : Nat} {dst : Option Tmp} {ty : TypeId} {pos : String} {after : Array Edge} {guard : Option (Nat × Bool)}
theorem ux (t e sz by_ : Nat) (l cp : Operand) (k k' : IntKind) (n : Int) (z : PV) (he : P.underlying t = some (.slice e)) (hs : bx P e = some sz) (hby : mq P e = some by_) (hz : jc P e = some z) (hsz : 0 < sz) (hzs : cf z = sz)
  (hl : ρ l = .p (.int k n)) (hc : ρ cp = .p (.int k' n)) (h0 : 0 ≤ n) (h1 : n ≤ 140737488355328) (h2 : n * by_ ≤ 140737488355328) :
  ay P ⟨dst, .makeSlice t l cp, ty, pos, after, guard⟩ ρ rd fresh (.row fresh) [(fresh, .row e sz (List.replicate n.toNat (qe2 z)))] := by
 intro c hp a next Q hv hrd hf hh hnext
 have hbn : ¬ c.born fresh := hf fresh (Nat.le_refl _) ⟨_, List.mem_singleton.2 rfl⟩
 have e1 := hv l (by simp [Op.operands])
 have e2 := hv cp (by simp [Op.operands])
 rw [hl] at e1
 rw [hc] at e2
 have e3 := mi e1
 have e4 := mi e2
 obtain ⟨zv, q1, q2⟩ := ky hz c.J c.w
 have info : ∃ i, P.info? e = some i ∧ i.zero = some zv ∧ i.size = sz ∧ i.bytes = by_ := by
  unfold bx at hs
  unfold mq at hby
  unfold r9 at q1
  cases hi : P.info? e with
  | none => simp [hi] at hs
  | some i => simp [hi] at hs hby q1; exact ⟨i, rfl, q1, hs, hby⟩
 obtain ⟨i, hi, hzv, his, hib⟩ := info
 have hnn : ((n.toNat : Nat) : Int) = n := by omega
 have hnb : n.toNat * by_ ≤ 140737488355328 := by
  have : ((n.toNat * by_ : Nat) : Int) = n * by_ := by rw [Int.natCast_mul, hnn]
  omega
 have hzc : zv.cells.size = sz := by have := (i2 q2).2; omega
 obtain ⟨w', hrun, hown, hg⟩ := run_make_full (P := P) c.w 0 t e i zv sz he hi hzv his k k' n.toNat (by rw [hib, Nat.mul_comm]; omega) (by simp only [maxLen]; omega) (Nat.zero_le _)
 rw [hnn] at hrun
 have hrow : bn c.J c.w sz (List.replicate n.toNat (qe2 z)) (madeCells zv.cells (n.toNat * sz)).toList := by
  have := gi (qhi q2) ((qe3 z).trans hzs) hsz n.toNat
  unfold madeCells
  exact this
 obtain ⟨k1, k2, k3⟩ := ml hh hbn hg none (.inl ⟨rfl, rfl⟩) hsz (xs := List.replicate n.toNat (qe2 z)) (by rw [List.length_replicate]; exact hown) hrow (.inr (.inl rfl))
 have hupd : dq hp [(fresh, .row e sz (List.replicate n.toNat (qe2 z)))] = xg hp fresh none (.row e sz (List.replicate n.toNat (qe2 z))) := by
  funext j
  simp [dq, xg]
 have hex : (execOp a.eval ⟨dst, .makeSlice t l cp, ty, pos, after, guard⟩).run P c.w = .ok (.value (.slice (some ⟨c.w.heap.size, 0, none⟩) n.toNat n.toNat)) w' := by
  simp [execOp, e3, e4, hrun]
 simp only [Oper.wp, hex, Oper.upon_value]
 refine hnext _ _ ?_ (hupd ▸ k1) k2 (hupd ▸ k3) fun j hj => ?_
 ·simp only [V]
  exact ⟨.inr rfl, _, _, _, sz, rfl, if_pos rfl⟩
 ·rcases hj with hj | hj
  ·exact .inl hj
  ·exact .inr ⟨.row e sz (List.replicate n.toNat (qe2 z)), by rw [hj]; simp⟩
end
end Go.RX
namespace Go.RX
section
variable {P : Program} {ρ : Operand → AV} {rd : Nat → AO} {fresh : Nat} {dst : Option Tmp} {ty : TypeId} {pos : String} {after : Array Edge} {guard : Option (Nat × Bool)}
def isConst : Operand → Bool
 | .const _ => true
 | _ => false
def qm0 (P : Program) (rd : Nat → AO) (t : TypeId) (lit : Bool) (x y : AV) : Option Bool :=
 match y with
 | .p .nils => match P.underlying t with
  | some (.slice _) => match x with
   | .p .nils => some true
   | .p (.arr _ n _) => match Nat.beq n 0 with | true => none | false => some false
   | .row id => match rd id with
    | .row _ _ (_ :: _) => some false
    | _ => none
   | _ => none
  | _ => none
 | .p .nili => match P.underlying t, lit, x with
  | some (.interface _), true, .p .nili => some true
  | some (.interface _), _, .iface _ _ => some false
  | _, _, _ => none
 | .p .nilp => match P.underlying t, x with
  | some (.pointer _), .p .nilp => some true
  | some (.pointer _), .ptr _ _ => some false
  | some (.pointer _), .rop _ => some false
  | some (.pointer _), .eptr _ _ _ => some false
  | _, _ => none
 | .p .nilf => match P.underlying t, x with
  | some (.func _ _ _), .p .nilf => some true
  | some (.func _ _ _), .func _ _ _ => some false
  | _, _ => none
 | _ => none
theorem mc {w : World} (d : Nat) (t : TypeId) {D : TypeDesc} (hd : ∃ ms, D = .interface ms) (h : P.underlying t = some D) : (Op.equalIn (d + 1) t .nilIface .nilIface).run P w = .ok true w := by
 obtain ⟨ms, rfl⟩ := hd
 simp [Op.equalIn, run_underlying h]
theorem me {w : World} (d : Nat) (t u : TypeId) (y : Value) {D : TypeDesc} (hd : ∃ ms, D = .interface ms) (h : P.underlying t = some D) : (Op.equalIn (d + 1) t (.iface u y) .nilIface).run P w = .ok false w := by
 obtain ⟨ms, rfl⟩ := hd
 simp [Op.equalIn, run_underlying h]
theorem n7 {w : World} (d : Nat) (t e : TypeId) (a : Option Addr) (h : P.underlying t = some (.pointer e)) : (Op.equalIn (d + 1) t (.pointer a) (.pointer none)).run P w = .ok a.isNone w := by
 cases a <;> simp [Op.equalIn, run_underlying h]
theorem nb {w : World} (d : Nat) (t : TypeId) {D : TypeDesc} (hd : ∃ a b c, D = .func a b c) (h : P.underlying t = some D) : (Op.equalIn (d + 1) t .nilFunc .nilFunc).run P w = .ok true w := by
 obtain ⟨_, _, _, rfl⟩ := hd
 simp [Op.equalIn, run_underlying h]
theorem nc {w : World} (d : Nat) (t : TypeId) (f : Fn) (A B : Array Value) {D : TypeDesc} (hd : ∃ a b c, D = .func a b c) (h : P.underlying t = some D) : (Op.equalIn (d + 1) t (.func f A B) .nilFunc).run P w = .ok false w := by
 obtain ⟨_, _, _, rfl⟩ := hd
 simp [Op.equalIn, run_underlying h]
theorem qgu {t : TypeId} {lit : Bool} {x y : AV} {b : Bool} (h : qm0 P rd t lit x y = some b) {c : Cx} {hp : HP} {X Y : Value} (hX : V c x X) (hY : V c y Y) (hr : ∀ i, rd i ≠ .dead → hp i = some (rd i)) (hh : HR c hp) :
  (Op.equal t X Y).run P c.w = .ok b c.w ∧ (∀ op ox oy, (lit = true → isConst oy = true) → (eqGuard op t ox oy X Y).run P c.w = .ok () c.w) ∧ (∀ k n, X ≠ .int k n) ∧ (∀ s, X ≠ .string s) ∧ (∀ k n, X ≠ .float k n) ∧ (∀ k n m, X ≠ .complex k n m) ∧ (∀ k n, Y ≠ .int k n) ∧ (∀ s, Y ≠ .string s) ∧ (∀ k n, Y ≠ .float k n) ∧ (∀ k n m, Y ≠ .complex k n m) := by
 have grd : ∀ {X Y : Value}, (X = .nilIface → Y = .nilIface → lit = true) → (∀ A, X ≠ .agg A) → ∀ op ox oy, (lit = true → isConst oy = true) → (eqGuard op t ox oy X Y).run P c.w = .ok () c.w := by
  intro X Y h1 h2 op ox oy h3
  unfold eqGuard
  cases op <;> simp
  all_goals
   split
   ·have := h3 (h1 rfl rfl)
    cases oy <;> simp_all [isConst]
   ·exact absurd rfl (h2 _)
   ·rfl
 unfold qm0 at h
 split at h
 ·have e2 := j6 hY
  subst e2
  split at h
  ·rename_i e ht
   have go : ∀ (a : Option Addr) (l cp : Nat), a.isNone = b → X = .slice a l cp → _ := fun a l cp hb hx => (show (Op.equal t X (.slice none 0 0)).run P c.w = .ok b c.w ∧ (∀ op ox oy, (lit = true → isConst oy = true) → (eqGuard op t ox oy X (.slice none 0 0)).run P c.w = .ok () c.w) ∧ (∀ k n, X ≠ .int k n) ∧ (∀ s, X ≠ .string s) ∧ (∀ k n, X ≠ .float k n) ∧ (∀ k n m, X ≠ .complex k n m) ∧ (∀ k n, Value.slice none 0 0 ≠ .int k n) ∧ (∀ s, Value.slice none 0 0 ≠ .string s) ∧ (∀ k n, Value.slice none 0 0 ≠ .float k n) ∧ (∀ k n m, Value.slice none 0 0 ≠ .complex k n m) by
    subst hx hb
    exact ⟨run_equal_slice_nil _ t e a l cp ht, grd (by simp) (by simp), by simp, by simp, by simp, by simp, by simp, by simp, by simp, by simp⟩)
   split at h
   ·injection h with h
    have e1 := j6 hX
    exact go none 0 0 (by simpa using h) e1
   ·rename_i m n g
    split at h
    ·cases h
    ·rename_i hn
     injection h with h
     simp only [V, RoC] at hX
     obtain ⟨a, cp, h1, _, h2⟩ := hX
     simp at h1
     have h0 : 0 < n := by
      rcases Nat.eq_zero_or_pos n with h0 | h0
      ·subst h0; simp at hn
      ·exact h0
     obtain ⟨bl, off, sz, h3, _⟩ := h2 h0
     exact go a n cp (by rw [h3]; simpa using h) h1
   ·rename_i id
    split at h
    ·rename_i e' sz x0 xs hrow
     injection h with h
     simp only [V] at hX
     obtain ⟨_, a, n, cp, sz', h1, h2⟩ := hX
     have h3 := (hh.obj id _ (hr id (by rw [hrow]; simp))).2
     rw [hrow, h2] at h3
     simp only [OR] at h3
     obtain ⟨_, hsz, cells, h4, _⟩ := h3
     rcases h4.2 with ⟨_, h5⟩ | ⟨g, cap, cur, h5, _⟩
     ·simp at h5
     ·rw [h1] at h5
      injection h5 with h5 h6 h7
      exact go a n cp (by rw [h5]; simpa using h) h1
    ·cases h
   ·cases h
  ·cases h
 ·simp only [V, RoC] at hY
  have e2 : Y = .nilIface := by simpa using hY
  subst e2
  split at h
  ·rename_i ms ht
   injection h with h
   subst h
   simp only [V, RoC] at hX
   have e1 : X = .nilIface := by simpa using hX
   subst e1
   exact ⟨mc 9999 t ⟨_, rfl⟩ ht, grd (fun _ _ => rfl) (by simp), by simp, by simp, by simp, by simp, by simp, by simp, by simp, by simp⟩
  ·rename_i ms u v ht
   injection h with h
   subst h
   simp only [V] at hX
   obtain ⟨y, rfl, _⟩ := hX
   exact ⟨me 9999 t _ _ ⟨_, rfl⟩ ht, grd (by simp) (by simp), by simp, by simp, by simp, by simp, by simp, by simp, by simp, by simp⟩
  ·cases h
 ·simp only [V, RoC] at hY
  have e2 : Y = .pointer none := by simpa using hY
  subst e2
  have go : ∀ (a : Option Addr), a.isNone = b → X = .pointer a → (∃ e, P.underlying t = some (.pointer e)) → (Op.equal t X (.pointer none)).run P c.w = .ok b c.w ∧ (∀ op ox oy, (lit = true → isConst oy = true) → (eqGuard op t ox oy X (.pointer none)).run P c.w = .ok () c.w) ∧ (∀ k n, X ≠ .int k n) ∧ (∀ s, X ≠ .string s) ∧ (∀ k n, X ≠ .float k n) ∧ (∀ k n m, X ≠ .complex k n m) ∧ (∀ k n, Value.pointer none ≠ .int k n) ∧ (∀ s, Value.pointer none ≠ .string s) ∧ (∀ k n, Value.pointer none ≠ .float k n) ∧ (∀ k n m, Value.pointer none ≠ .complex k n m) := by
   rintro a hb hx ⟨e, ht⟩
   subst hx hb
   exact ⟨n7 9999 t e a ht, grd (by simp) (by simp), by simp, by simp, by simp, by simp, by simp, by simp, by simp, by simp⟩
  split at h
  ·rename_i e ht
   injection h with h
   simp only [V, RoC] at hX
   exact go none (by simpa using h) (by simpa using hX) ⟨_, ht⟩
  ·rename_i e i o ht
   injection h with h
   simp only [V] at hX
   obtain ⟨_, b', _, h1⟩ := hX
   exact go _ (by simpa using h) h1 ⟨_, ht⟩
  ·rename_i e cs ht
   injection h with h
   simp only [V] at hX
   obtain ⟨b', o, h1, _⟩ := hX
   exact go _ (by simpa using h) h1 ⟨_, ht⟩
  ·rename_i e i k o ht
   injection h with h
   simp only [V] at hX
   obtain ⟨_, b', n, cap, sz, _, _, h1⟩ := hX
   exact go _ (by simpa using h) h1 ⟨_, ht⟩
  ·cases h
 ·simp only [V, RoC] at hY
  have e2 : Y = .nilFunc := by simpa using hY
  subst e2
  split at h
  ·rename_i ht
   injection h with h
   subst h
   simp only [V, RoC] at hX
   have e1 : X = .nilFunc := by simpa using hX
   subst e1
   exact ⟨nb 9999 t ⟨_, _, _, rfl⟩ ht, grd (by simp) (by simp), by simp, by simp, by simp, by simp, by simp, by simp, by simp, by simp⟩
  ·rename_i ht
   injection h with h
   subst h
   simp only [V] at hX
   obtain ⟨F, G, rfl, _⟩ := hX
   exact ⟨nc 9999 t _ _ _ ⟨_, _, _, rfl⟩ ht, grd (by simp) (by simp), by simp, by simp, by simp, by simp, by simp, by simp, by simp, by simp⟩
  ·cases h
 ·cases h
theorem yu {op : BinOp} {t : TypeId} {X Y : Value} {b : Bool} {w : World} (h : (Op.equal t X Y).run P w = .ok b w) (h1 : ∀ k n, X ≠ .int k n) (h2 : ∀ s, X ≠ .string s) (h3 : ∀ k n, X ≠ .float k n) (h4 : ∀ k n m, X ≠ .complex k n m)
  (k1 : ∀ k n, Y ≠ .int k n) (k2 : ∀ s, Y ≠ .string s) (k3 : ∀ k n, Y ≠ .float k n) (k4 : ∀ k n m, Y ≠ .complex k n m) :
  (op = .eql → (binOp op t X Y).run P w = .ok (.bool b) w) ∧ (op = .neq → (binOp op t X Y).run P w = .ok (.bool (!b)) w) := by
 refine ⟨fun e => ?_, fun e => ?_⟩
 ·subst e
  cases X <;> first | exact absurd rfl (h1 _ _) | exact absurd rfl (h2 _) | exact absurd rfl (h3 _ _) | exact absurd rfl (h4 _ _ _) | skip
  all_goals
   cases Y <;> first | exact absurd rfl (k1 _ _) | exact absurd rfl (k2 _) | exact absurd rfl (k3 _ _) | exact absurd rfl (k4 _ _ _) | skip
  all_goals simp only [binOp, Sem.run_bind, h, Result.andThen_ok, Sem.run_pure]
 ·subst e
  cases X <;> first | exact absurd rfl (h1 _ _) | exact absurd rfl (h2 _) | exact absurd rfl (h3 _ _) | exact absurd rfl (h4 _ _ _) | skip
  all_goals
   cases Y <;> first | exact absurd rfl (k1 _ _) | exact absurd rfl (k2 _) | exact absurd rfl (k3 _ _) | exact absurd rfl (k4 _ _ _) | skip
  all_goals simp only [binOp, Sem.run_bind, h, Result.andThen_ok, Sem.run_pure]
def flp (p b : Bool) : Bool := match p with
 | true => b
 | false => !b
theorem qaz (op : BinOp) (t yt : TypeId) (x y : Operand) {p b : Bool} (hop : isEq op = some p) (h : qm0 P rd t (isConst y) (ρ x) (ρ y) = some b) :
  ay P ⟨dst, .binOp op t x y yt, ty, pos, after, guard⟩ ρ rd fresh (.p (.bool (flp p b))) [] :=
 ay.pure fun c hp a hv hr hh => by
  obtain ⟨g1, g2, g3⟩ := qgu h (hv x (by simp [Op.operands])) (hv y (by simp [Op.operands])) hr hh
  have hg := g2 op x y (fun e => e)
  have hb := yu (op := op) g1 g3.1 g3.2.1 g3.2.2.1 g3.2.2.2.1 g3.2.2.2.2.1 g3.2.2.2.2.2.1 g3.2.2.2.2.2.2.1 g3.2.2.2.2.2.2.2
  rcases kg hop with ⟨e, rfl⟩ | ⟨e, rfl⟩
  ·exact ⟨_, by simp [execOp, hg, hb.1 e, flp], cw _⟩
  ·exact ⟨_, by simp [execOp, hg, hb.2 e, flp], cw _⟩
theorem qb1 (ats : Array TypeId) (x : Operand) (t e : TypeId) (hat : ats[0]? = some t) (he : P.underlying t = some (.slice e)) (hx : ρ x = .p .nils) :
  ay P ⟨dst, .call { callee := .builtin .cap, args := #[x], argTypes := ats }, ty, pos, after, guard⟩ ρ rd fresh (.p (.int .i64 0)) [] :=
 ay.pure fun c hp a hv _ _ => by
  have e1 := hv x (by simp [Op.operands, Call.operands])
  rw [hx] at e1
  refine ⟨.int .i64 0, ?_, ee _ _⟩
  simp [execOp, resolve, invoke, builtin, j6 e1, Builtin.cap_, hat, run_underlying he, goInt]
theorem qka (ats : Array TypeId) (x y : Operand) (k k' : IntKind) (m n : Int) (hx : ρ x = .p (.int k m)) (hy : ρ y = .p (.int k' n)) :
  ay P ⟨dst, .call { callee := .builtin .max, args := #[x, y], argTypes := ats }, ty, pos, after, guard⟩ ρ rd fresh (.p (.int k (if n > m then n else m))) [] :=
 ay.pure fun c hp a hv _ _ => by
  have e1 := hv x (by simp [Op.operands, Call.operands])
  have e2 := hv y (by simp [Op.operands, Call.operands])
  rw [hx] at e1
  rw [hy] at e2
  refine ⟨_, ?_, ee _ _⟩
  simp [execOp, resolve, invoke, builtin, mi e1, mi e2, Builtin.max_, Builtin.max2]
theorem wv (t e sz : Nat) (x : Operand) (hi : Option Operand) (he : P.underlying t = some (.slice e)) (hs : bx P e = some sz) (hx : ρ x = .p .nils) (hb : hi.map ρ = none ∨ ∃ k, hi.map ρ = some (.p (.int k 0))) :
  ay P ⟨dst, .slice t x none hi none, ty, pos, after, guard⟩ ρ rd fresh (.p .nils) [] :=
 ay.pure fun c hp a hv _ _ => by
  have e1 := hv x (by simp [Op.operands])
  rw [hx] at e1
  have h2 : (hi.map a.eval = none ∧ (0 : Int) = (0 : Nat)) ∨ ∃ k, hi.map a.eval = some (.int k 0) := by
   rcases hb with h | ⟨k, h⟩
   ·exact .inl ⟨by cases hi <;> simp_all, rfl⟩
   ·exact .inr ⟨k, uf h fun y hy => hv y (by subst hy; simp [Op.operands])⟩
  have hbd := gh (P := P) (b := true) (len := 0) (cap := 0) (Nat.le_refl 0) (lo := none) (l := 0) (.inl ⟨rfl, rfl⟩) h2 (by omega) (by omega) (by omega) c.w
  refine ⟨.slice none 0 0, ?_, by simp [V, RoC]⟩
  simp [execOp, j6 e1, Instr.sliceAt, Instr.slice, run_underlying he, hbd, bz hs]
theorem bn.take {I : Bool → Nat → Prop} {w : World} {sz : Nat} : ∀ (n : Nat) {xs : List PV} {cells : List Value}, bn I w sz xs cells → bn I w sz (xs.take n) (cells.take (n * sz))
 | 0, _, _, _ => by simp [bn]
 | n + 1, [], cells, h => by simp [bn] at h; subst h; simp [bn]
 | n + 1, x :: xs, cells, h => by
  obtain ⟨es, r, rfl, h1, h2, h3⟩ := h
  refine ⟨es, r.take (n * sz), ?_, h1, h2, bn.take n h3⟩
  rw [Nat.add_mul, Nat.one_mul, Nat.add_comm, ← h1, List.take_length_add_append]
theorem wx (t e e' n sz id : Nat) (x : Operand) (hi : Option Operand) (xs : List PV) (hh0 : Int) (he : P.underlying t = some (.slice e)) (hs : bx P e = some n) (hx : ρ x = .row id) (hrow : rd id = .row e' sz xs)
  (hb : (hi.map ρ = none ∧ hh0 = xs.length) ∨ ∃ k, hi.map ρ = some (.p (.int k hh0))) (h0 : 0 ≤ hh0) (h1 : hh0 ≤ xs.length) :
  ay P ⟨dst, .slice t x none hi none, ty, pos, after, guard⟩ ρ rd fresh (.row fresh) [(id, .dead), (fresh, .row e' sz (xs.take hh0.toNat))] := by
 intro c hp a next Q hv hrd hf hh hnext
 have hbn : ¬ c.born fresh := hf fresh (Nat.le_refl _) ⟨_, List.mem_cons_of_mem _ (List.mem_singleton.2 rfl)⟩
 have e1 := hv x (by simp [Op.operands])
 rw [hx] at e1
 simp only [V] at e1
 obtain ⟨hbi, b0, n0, cp0, s0, e2, e3⟩ := e1
 have hpi : hp id = some (rd id) := hrd id (by rw [hrow]; simp)
 have e4 := (hh.obj id _ hpi).2
 rw [hrow, e3] at e4
 simp only [OR] at e4
 obtain ⟨hss, hsz, cells, e5, e6⟩ := e4
 subst hss
 have hlive : Live hp id := ⟨_, hpi, by rw [hrow]; rfl⟩
 have h2 : (hi.map a.eval = none ∧ hh0 = (xs.length : Nat)) ∨ ∃ k, hi.map a.eval = some (.int k hh0) := by
  rcases hb with ⟨h, e⟩ | ⟨k, h⟩
  ·exact .inl ⟨by cases hi <;> simp_all, e⟩
  ·exact .inr ⟨k, uf h fun y hy => hv y (by subst hy; simp [Op.operands])⟩
 have hlen : (xs.take hh0.toNat).length = hh0.toNat := by rw [List.length_take]; omega
 have key : ∃ v', (execOp a.eval ⟨dst, .slice t x none hi none, ty, pos, after, guard⟩).run P c.w = .ok (.value v') c.w ∧ c.w.ownsRow 0 e' s0 v' (xs.take hh0.toNat).length (cells.take (hh0.toNat * s0)) ∧ v'.ownBlock = (Value.slice b0 n0 cp0).ownBlock ∧ ∃ b n cp, v' = .slice b n cp := by
  rcases e5.2 with ⟨hq, hz⟩ | ⟨g, cap, cur, hq, hg, hgg, hcap, hmax, hsize, htake⟩
  ·rw [e2] at hq
   injection hq with q1 q2 q3
   subst q1 q2 q3
   have hx0 : hh0 = 0 := by omega
   subst hx0
   have hbd := gh (P := P) (b := true) (len := 0) (cap := 0) (Nat.le_refl 0) (lo := none) (l := 0) (.inl ⟨rfl, rfl⟩) (hi := hi.map a.eval) (h := 0) (h2.elim (fun h => .inl ⟨h.1, rfl⟩) .inr) (by omega) (by omega) (by omega) c.w
   refine ⟨.slice none 0 0, ?_, ?_, rfl, _, _, _, rfl⟩
   ·simp [execOp, e2, Instr.sliceAt, Instr.slice, run_underlying he, hbd, bz hs]
   ·simp only [Int.toNat_zero, List.take_zero, List.length_nil, Nat.zero_mul]
    exact World.ownsRow_nil _ _ _ _
  ·rw [e2] at hq
   injection hq with q1 q2 q3
   subst q1 q2 q3
   have hbd := gh (P := P) (b := true) (len := xs.length) (cap := cp0) hcap (lo := none) (l := 0) (.inl ⟨rfl, rfl⟩) h2 (by omega) (by omega) (by omega) c.w
   refine ⟨.slice (some ⟨g, 0, none⟩) hh0.toNat cp0, ?_, ?_, rfl, _, _, _, rfl⟩
   ·simp [execOp, e2, Instr.sliceAt, Instr.slice, run_underlying he, hbd, bz hs, fv]
   ·rw [hlen]
    refine ⟨?_, .inr ⟨g, cp0, cur, rfl, hg, hgg, by omega, hmax, hsize, ?_⟩⟩
    ·rw [List.length_take, e5.1]
     have := Nat.mul_le_mul_right s0 (show hh0.toNat ≤ xs.length by omega)
     omega
    ·rw [← htake, List.take_take]
     congr 1
     have := Nat.mul_le_mul_right s0 (show hh0.toNat ≤ xs.length by omega)
     omega
 obtain ⟨v', h3, h4, h5, b, n', cp, h6⟩ := key
 have hrow' : bn c.J c.w s0 (xs.take hh0.toNat) (cells.take (hh0.toNat * s0)) := bn.take _ e6
 obtain ⟨k1, k2, k3⟩ := ml hh hbn (row := (Value.slice b0 n0 cp0).ownBlock) (w' := c.w) ⟨rfl, rfl, rfl, Nat.le_refl _, fun _ _ _ => rfl⟩ (some id) (.inr ⟨id, rfl, hlive, by rw [e3, e2]; rfl⟩) hsz h4 hrow' (.inl h5)
 have hne : id ≠ fresh := fun e => hbn (e ▸ hbi)
 have hupd : dq hp [(id, .dead), (fresh, .row e' s0 (xs.take hh0.toNat))] = xg hp fresh (some id) (.row e' s0 (xs.take hh0.toNat)) := by
  funext j
  simp only [dq, xg]
  by_cases h7 : j = fresh
  ·rw [if_pos h7, if_pos h7]
  ·rw [if_neg h7, if_neg h7]
   by_cases h8 : j = id
   ·rw [if_pos h8, if_pos (by rw [h8])]
   ·rw [if_neg h8, if_neg (fun h9 => h8 (Option.some.inj h9).symm)]
 simp only [Oper.wp, h3, Oper.upon_value]
 refine hnext v' (xf c c.w fresh v' s0) ?_ (hupd ▸ k1) k2 (hupd ▸ k3) fun j hj => ?_
 ·simp only [V]
  exact ⟨.inr rfl, b, n', cp, s0, h6, if_pos rfl⟩
 ·rcases hj with hj | hj
  ·exact .inl hj
  ·exact .inr ⟨.row e' s0 (xs.take hh0.toNat), by rw [hj]; simp⟩
theorem ra (t tn e sz by_ : Nat) (kn k : IntKind) (s x : Operand) (n : Int) (z : PV) (he : P.underlying t = some (.slice e)) (htn : P.underlying tn = some (.int kn)) (hs : bx P e = some sz) (hby : mq P e = some by_) (hz : jc P e = some z) (hsz : 0 < sz) (hzs : cf z = sz)
  (hx : ρ s = .p .nils) (hy : ρ x = .p (.int k n)) (h0 : 0 < n) (h1 : n ≤ 140737488355328) (h2 : n * by_ ≤ 140737488355328) :
  ay P ⟨dst, .call { callee := .builtin .append, args := #[s, x], argTypes := #[t, tn] }, ty, pos, after, guard⟩ ρ rd fresh (.row fresh) [(fresh, .row e sz (List.replicate n.toNat z))] := by
 intro c hp a next Q hv hrd hf hh hnext
 have hbn : ¬ c.born fresh := hf fresh (Nat.le_refl _) ⟨_, List.mem_singleton.2 rfl⟩
 have e1 := hv s (by simp [Op.operands, Call.operands])
 have e2 := hv x (by simp [Op.operands, Call.operands])
 rw [hx] at e1
 rw [hy] at e2
 have e3 := j6 e1
 have e4 := mi e2
 obtain ⟨zv, q1, q2⟩ := ky hz c.J c.w
 have info : ∃ i, P.info? e = some i ∧ i.zero = some zv ∧ i.size = sz ∧ i.bytes = by_ := by
  unfold bx at hs
  unfold mq at hby
  unfold r9 at q1
  cases hi : P.info? e with
  | none => simp [hi] at hs
  | some i => simp [hi] at hs hby q1; exact ⟨i, rfl, q1, hs, hby⟩
 obtain ⟨i, hi, hzv, his, hib⟩ := info
 have hnn : ((n.toNat : Nat) : Int) = n := by omega
 have hnb : n.toNat * by_ ≤ 140737488355328 := by
  have : ((n.toNat * by_ : Nat) : Int) = n * by_ := by rw [Int.natCast_mul, hnn]
  omega
 have hrun := Lib.run_append_nil_zeros (P := P) c.w t tn ty e i zv k kn he htn hi hzv n.toNat (by omega) (by omega) (by omega) (by rw [hib]; omega)
 rw [hnn] at hrun
 have hzc : zv.cells.size = sz := by have := (i2 q2).2; omega
 have hcap := grownCap_ge c.w n.toNat 0 e
 have hmax := grownCap_le_maxLen c.w n.toNat 0 e (by simp only [maxLen]; omega)
 have hrow : bn c.J c.w sz (List.replicate n.toNat z) (Builtin.zeroCells zv.cells n.toNat).toList := by
  have := gi q2 hzs hsz n.toNat
  unfold Builtin.zeroCells
  rw [hzc]
  rw [hzc] at this
  exact this
 have hsize : ∀ m, (Builtin.zeroCells zv.cells m).size = m * sz := fun m => by rw [size_zeroCells, hzc]
 have hown : (c.w.drew.alloc (.cells (Builtin.zeroCells zv.cells n.toNat ++ Builtin.zeroCells zv.cells (grownCap c.w n.toNat 0 e - n.toNat)) e)).ownsRow 0 e sz (.slice (some ⟨c.w.heap.size, 0, none⟩) n.toNat (grownCap c.w n.toNat 0 e)) (List.replicate n.toNat z).length (Builtin.zeroCells zv.cells n.toNat).toList := by
  rw [List.length_replicate]
  refine ⟨by simp [hsize], .inr ⟨c.w.heap.size, _, _, rfl, Nat.zero_le _, heap_alloc_new c.w.drew _, hcap, hmax, ?_, ?_⟩⟩
  ·rw [Array.size_append, hsize, hsize, ← Nat.add_mul]
   congr 1
   omega
  ·rw [Array.toList_append]
   have : n.toNat * sz = (Builtin.zeroCells zv.cells n.toNat).toList.length := by simp [hsize]
   rw [this]
   exact List.take_left
 have hg : c.w.grownBy (c.w.drew.alloc (.cells (Builtin.zeroCells zv.cells n.toNat ++ Builtin.zeroCells zv.cells (grownCap c.w n.toNat 0 e - n.toNat)) e)) none := ⟨rfl, rfl, rfl, by simp, fun k hk _ => heap_alloc_old c.w.drew _ k hk⟩
 obtain ⟨k1, k2, k3⟩ := ml hh hbn hg none (.inl ⟨rfl, rfl⟩) hsz hown hrow (.inr (.inl rfl))
 have hupd : dq hp [(fresh, .row e sz (List.replicate n.toNat z))] = xg hp fresh none (.row e sz (List.replicate n.toNat z)) := by
  funext j
  simp [dq, xg]
 have hex : (execOp a.eval ⟨dst, .call { callee := .builtin .append, args := #[s, x], argTypes := #[t, tn] }, ty, pos, after, guard⟩).run P c.w = .ok (.value (.slice (some ⟨c.w.heap.size, 0, none⟩) n.toNat (grownCap c.w n.toNat 0 e))) (c.w.drew.alloc (.cells (Builtin.zeroCells zv.cells n.toNat ++ Builtin.zeroCells zv.cells (grownCap c.w n.toNat 0 e - n.toNat)) e)) := by
  simp only [execOp, resolve, invoke, builtin, Sem.run_bind, Sem.run_pure, Result.andThen_ok, List.map_toArray, List.map_cons, List.map_nil, e3, e4, hrun]
 simp only [Oper.wp, hex, Oper.upon_value]
 refine hnext _ _ ?_ (hupd ▸ k1) k2 (hupd ▸ k3) fun j hj => ?_
 ·simp only [V]
  exact ⟨.inr rfl, _, _, _, sz, rfl, if_pos rfl⟩
 ·rcases hj with hj | hj
  ·exact .inl hj
  ·exact .inr ⟨.row e sz (List.replicate n.toNat z), by rw [hj]; simp⟩
end
end Go.RX
namespace Go.RX
section
variable {P : Program} {ρ : Operand → AV} {rd : Nat → AO} {fresh : Nat} {dst : Option Tmp} {ty : TypeId} {pos : String} {after : Array Edge} {guard : Option (Nat × Bool)}
theorem qb7 (t e e' sz id : Nat) (x lo : Operand) (k : IntKind) (l : Int) (xs : List PV) (he : P.underlying t = some (.slice e)) (hs : bx P e = some sz) (hx : ρ x = .row id) (hrow : rd id = .row e' sz xs)
  (hlo : ρ lo = .p (.int k l)) (h0 : 0 ≤ l) (h1 : l < xs.length) :
  ay P ⟨dst, .slice t x (some lo) none none, ty, pos, after, guard⟩ ρ rd fresh (.sub id l.toNat) [] :=
 ay.pure fun c hp a hv hrd hh => by
  have e1 := hv x (by simp [Op.operands])
  have el := hv lo (by simp [Op.operands])
  rw [hx] at e1
  rw [hlo] at el
  simp only [V] at e1
  obtain ⟨hbi, b0, n0, cp0, s0, e2, e3⟩ := e1
  have hpi : hp id = some (rd id) := hrd id (by rw [hrow]; simp)
  have e4 := (hh.obj id _ hpi).2
  rw [hrow, e3] at e4
  simp only [OR] at e4
  obtain ⟨hss, hsz, cells, e5, e6⟩ := e4
  subst hss
  rcases e5.2 with ⟨hq, hz⟩ | ⟨g, cap, cur, hq, hg, hgg, hcap, hmax, hsize, htake⟩
  ·omega
  ·rw [e2] at hq
   injection hq with q1 q2 q3
   subst q1 q2 q3
   have hbd := gh (P := P) (b := true) (len := xs.length) (cap := cp0) hcap (lo := some (a.eval lo)) (l := l) (.inr ⟨k, by rw [mi el]⟩) (hi := none) (h := xs.length) (.inl ⟨rfl, rfl⟩) h0 (by omega) (by omega) c.w
   have hne : ¬ cp0 = l.toNat := by omega
   refine ⟨.slice (some ⟨g, l.toNat * s0, none⟩) (xs.length - l.toNat) (cp0 - l.toNat), ?_, ?_⟩
   ·simp [execOp, e2, Instr.sliceAt, Instr.slice, run_underlying he, hbd, bz hs, if_neg hne, Addr.add]
    exact fun h => h.symm
   ·simp only [V]
    exact ⟨hbi, g, xs.length, cp0, s0, by rw [e3, e2], by omega, rfl⟩
theorem qem (t e e' sz id lo : Nat) (x : Operand) (z : PV) (xs : List PV) (he : P.underlying t = some (.slice e)) (hz : jc P e = some z) (hzs : cf z = sz) (hx : ρ x = .sub id lo) (hrow : rd id = .row e' sz xs) :
  ay P ⟨dst, .call { callee := .builtin .clear, args := #[x], argTypes := #[t] }, ty, pos, after, guard⟩ ρ rd fresh (.tup []) [(id, .row e' sz (xs.take lo ++ List.replicate (xs.length - lo) z))] := by
 refine ay.set (by rw [hrow]; rfl) fun c hp a hv hrd hh hi => ?_
 have e1 := hv x (by simp [Op.operands, Call.operands])
 rw [hx] at e1
 simp only [V] at e1
 obtain ⟨_, b, n, cap, sz', h4, hk, h5⟩ := e1
 have h6 := (hh.obj id _ hi).2
 rw [hrow, h4] at h6
 simp only [OR] at h6
 obtain ⟨rfl, hsz0, cells, h7, h8⟩ := h6
 have hm : n = xs.length := by
  rcases h7.2 with ⟨he, _⟩ | ⟨g, cap, cur, he, _⟩
  ·simp at he
  ·simp at he
   exact he.2.1
 obtain ⟨zv, q1, q2⟩ := ky hz c.J c.w
 have hzc : zv.cells.size = sz' := by have := (i2 q2).2; omega
 have hcl := h8.length
 have hnew : (Builtin.zeroCells zv.cells (n - lo)).toList.length = (n - lo) * sz' := by simp [size_zeroCells, hzc]
 have hmul : lo * sz' + (n - lo) * sz' = n * sz' := by rw [← Nat.add_mul]; congr 1; omega
 obtain ⟨C, hC, hCl, hown⟩ := m8 h7 rfl (new := (Builtin.zeroCells zv.cells (n - lo)).toList) (off := lo * sz') (by rw [hnew, hcl, hmul, hm]; exact Nat.le_refl _)
 have hrow0 : bn c.J c.w sz' (List.replicate (n - lo) z) (Builtin.zeroCells zv.cells (n - lo)).toList := by
  have := gi q2 hzs hsz0 (n - lo)
  unfold Builtin.zeroCells
  rw [hzc]
  rw [hzc] at this
  exact this
 have hone : ∀ u ∈ (Builtin.zeroCells zv.cells (n - lo)).toList, u.oneCell' = true := bn.yo hrow0 fun y _ es he => RoC.qmg he
 have hst := run_storeCells_at P b (lo * sz') e' (Builtin.zeroCells zv.cells (n - lo)).toList 0 C c.w hC (by simpa using hCl) hone
 simp only [Nat.add_zero] at hst
 refine ⟨b, c.w.setRow b (C.toList.take (lo * sz') ++ (Builtin.zeroCells zv.cells (n - lo)).toList ++ C.toList.drop (lo * sz' + (Builtin.zeroCells zv.cells (n - lo)).toList.length)).toArray, by rw [h4]; rfl, setRow_os _ _ _, setRow_tape _ _ _, setRow_output _ _ _, by simp, fun k _ hk => setRow_other _ _ _ _ hk, ?_, .inr ⟨.tuple #[], ?_, fun _ => by simp [V, Vs]⟩⟩
 ·have ext : Ext c (c.with (c.w.setRow b (C.toList.take (lo * sz') ++ (Builtin.zeroCells zv.cells (n - lo)).toList ++ C.toList.drop (lo * sz' + (Builtin.zeroCells zv.cells (n - lo)).toList.length)).toArray)) :=
   oc hh ⟨_, hi, by rw [hrow]; rfl⟩ (b := b) (by rw [h4]; rfl) fun k _ hk => setRow_other _ _ _ _ hk
  rw [h4]
  simp only [OR]
  have hl : (xs.take lo ++ List.replicate (xs.length - lo) z).length = xs.length := by
   rw [List.length_append, List.length_take, List.length_replicate]; omega
  refine ⟨trivial, hsz0, _, by rw [hl]; exact hown, ?_⟩
  have hd : cells.drop (lo * sz' + (Builtin.zeroCells zv.cells (n - lo)).toList.length) = [] := by
   apply List.drop_eq_nil_of_le
   rw [hnew, hcl, hmul, hm]
   exact Nat.le_refl _
  rw [hd, List.append_nil, ← hm]
  exact bn.mono ext.J ext.jb _ _ (bn.append (bn.take lo h8) hrow0)
 ·obtain ⟨m, hm'⟩ : ∃ m, n - lo = m + 1 := ⟨n - lo - 1, by omega⟩
  rw [hm'] at hst ⊢
  simp [execOp, resolve, invoke, builtin, Builtin.clear_, h5, hm', run_underlying he, ev q1, hst]
theorem uv (s d e : TypeId) (x : Operand) (b : ByteArray) (hs : P.underlying s = some .string) (hd : P.underlying d = some (.slice e)) (he : P.underlying e = some (.int .u8)) (hx : ρ x = .p (.str b)) (hb : b.size ≤ 4294967296) :
  ay P ⟨dst, .convert s d x, ty, pos, after, guard⟩ ρ rd fresh (.p (.arr false b.size fun i => .int .u8 (bh b i))) [] := by
 intro c hp a next Q hv hrd hf hh hnext
 have e1 := hv x (by simp [Op.operands])
 rw [hx] at e1
 have hrun := Lib.run_convert_string_bytes (P := P) c.w s d e b hs hd he
 have hex : (execOp a.eval ⟨dst, .convert s d x, ty, pos, after, guard⟩).run P c.w = .ok (.value (.slice (some ⟨c.w.heap.size, 0, none⟩) b.size (grownCap c.w b.size 0 e))) (Lib.bytesWorld c.w e b) := by
  simp [execOp, u7 e1, hrun]
 simp only [Oper.wp, hex, Oper.upon_value]
 have hsz := Lib.bytesWorld_size c.w e b
 have hold := fun j hj => Lib.bytesWorld_at_old c.w e b j hj
 have ext : Ext c ⟨c.β, fun k => c.I k ∨ k = c.w.heap.size, Lib.bytesWorld c.w e b, c.born, c.base⟩ :=
  ⟨fun _ h => h, fun _ _ => rfl, fun _ h => .inl h, fun k hk => hold k (hh.bound k hk), rfl⟩
 refine hnext _ ⟨c.β, fun k => c.I k ∨ k = c.w.heap.size, Lib.bytesWorld c.w e b, c.born, c.base⟩ ?_ ⟨fun i o hi => ?_, hh.inj, fun i k hi hk => ?_, fun k hk => ?_, fun i k hi hk => ?_, hh.low, ?_⟩ ext ⟨rfl, rfl, rfl, ?_, fun k hk _ => hold k hk, fun _ h => .inl h, fun k hk => ?_, fun i k hi hk => .inr ⟨i, hi, hk⟩, rfl⟩ fun i hi => .inl hi
 ·simp only [V, RoC]
  refine ⟨_, _, rfl, ⟨grownCap_ge c.w b.size 0 e, by simp only [maxLen]; omega⟩, fun h0 => ⟨c.w.heap.size, 0, 1, rfl, ⟨.inr rfl, fun h => by cases h⟩, by omega, fun h => (by cases h), fun i hi => ⟨[.int .u8 (bh b i)], rfl, rfl, fun j hj => ?_⟩⟩⟩
  have : j = 0 := by omega
  subst this
  simp only [Nat.zero_add, Nat.mul_one, Nat.add_zero]
  rw [Lib.bytesWorld_cell c.w e b i hi]
  simp [bh, List.getD]
 ·obtain ⟨h1, h2⟩ := hh.obj i o hi
  refine ⟨h1, ?_⟩
  cases hlv : dz o with
  | false => exact h2.kj ext hlv
  | true => exact h2.mono ext fun k hk => hold k (hh.size i k ⟨o, hi, hlv⟩ hk)
 ·rintro (h | h)
  ·exact hh.apart i k hi hk h
  ·have := hh.size i k hi hk
   omega
 ·rw [hsz]
  rcases hk with hk | hk
  ·have := hh.bound k hk
   omega
  ·omega
 ·have := hh.size i k hi hk
  rw [hsz]
  omega
 ·have := hh.base
  rw [hsz]
  show c.base ≤ _
  omega
 ·show c.w.heap.size ≤ (Lib.bytesWorld c.w e b).heap.size
  rw [hsz]
  omega
 ·rcases hk with hk | hk
  ·exact .inl hk
  ·exact .inr (.inl (by omega))
end
end Go.RX
namespace Go.RX
structure o0 (f : Nat → Option Nat) (c c2 : Cx) : Prop where
 name : ∀ i j, f i = some j → c.born i → c2.born j ∧ c2.β j = c.β i
 I : ∀ b, c.I b → c2.I b
 blocks : ∀ b, c.I b → c2.w.heap[b]? = c.w.heap[b]?
 base : c2.base = c.base
theorem o0.J {f : Nat → Option Nat} {c c2 : Cx} (h : o0 f c c2) (m : Bool) (b : Nat) (k : c.J m b) : c2.J m b := ⟨h.I b k.1, fun e => by rw [h.base, h.blocks b k.1]; exact k.2 e⟩
theorem o0.jb {f : Nat → Option Nat} {c c2 : Cx} (h : o0 f c c2) (m : Bool) (b : Nat) (k : c.J m b) : c2.w.heap[b]? = c.w.heap[b]? := h.blocks b k.1
mutual
theorem qcl {f : Nat → Option Nat} {c c2 : Cx} (h : o0 f c c2) : ∀ (x : AV) (v : Value), V c x v → V c2 (gr f x) v
 | .undef, _, _ => by simp only [gr, V]
 | .p x, v, k => by
  simp only [gr, V] at k ⊢
  exact RoC.mono h.J h.jb x [v] k
 | .rop cs, v, k => by
  simp only [gr, V] at k ⊢
  obtain ⟨b, o, h1, hb, es, h2, h3⟩ := k
  refine ⟨b, o, h1, h.I b hb, es, b9.mono h.J h.jb cs es h2, fun j hj => ?_⟩
  rw [← h3 j hj]
  exact World.cell?_of_block (h.blocks b hb)
 | .ptr i o, v, k => by
  simp only [V] at k
  obtain ⟨hb, b, h1, h2⟩ := k
  simp only [gr]
  cases hf : f i with
  | none => simp only [V]
  | some j =>
   simp only [V]
   obtain ⟨h3, h4⟩ := h.name i j hf hb
   exact ⟨h3, b, h4.trans h1, h2⟩
 | .eptr i l o, v, k => by
  simp only [V] at k
  obtain ⟨hb, b, n, cap, sz, h1, h2⟩ := k
  simp only [gr]
  cases hf : f i with
  | none => simp only [V]
  | some j =>
   simp only [V]
   obtain ⟨h3, h4⟩ := h.name i j hf hb
   exact ⟨h3, b, n, cap, sz, h4.trans h1, h2⟩
 | .sub i l, v, k => by
  simp only [V] at k
  obtain ⟨hb, b, n, cap, sz, h1, h2⟩ := k
  simp only [gr]
  cases hf : f i with
  | none => simp only [V]
  | some j =>
   simp only [V]
   obtain ⟨h3, h4⟩ := h.name i j hf hb
   exact ⟨h3, b, n, cap, sz, h4.trans h1, h2⟩
 | .row i, v, k => by
  simp only [V] at k
  obtain ⟨hb, a, n, cp, sz, h0, h1⟩ := k
  simp only [gr]
  cases hf : f i with
  | none => simp only [V]
  | some j =>
   simp only [V]
   obtain ⟨h3, h4⟩ := h.name i j hf hb
   exact ⟨h3, a, n, cp, sz, h0, h4.trans h1⟩
 | .map i, v, k => by
  simp only [V] at k
  obtain ⟨hb, b, h1, h2⟩ := k
  simp only [gr]
  cases hf : f i with
  | none => simp only [V]
  | some j =>
   simp only [V]
   obtain ⟨h3, h4⟩ := h.name i j hf hb
   exact ⟨h3, b, h4.trans h1, h2⟩
 | .iter i, v, k => by
  simp only [V] at k
  obtain ⟨hb, b, h1, h2⟩ := k
  simp only [gr]
  cases hf : f i with
  | none => simp only [V]
  | some j =>
   simp only [V]
   obtain ⟨h3, h4⟩ := h.name i j hf hb
   exact ⟨h3, b, h4.trans h1, h2⟩
 | .func fn a b, v, k => by
  simp only [gr, V] at k ⊢
  obtain ⟨F, G, rfl, h1, h2⟩ := k
  exact ⟨F, G, rfl, px h a _ h1, px h b _ h2⟩
 | .agg cs, v, k => by
  simp only [gr, V] at k ⊢
  obtain ⟨C, rfl, h1, h2⟩ := k
  exact ⟨C, rfl, px h cs _ h1, h2⟩
 | .tup cs, v, k => by
  simp only [gr, V] at k ⊢
  obtain ⟨C, rfl, h1⟩ := k
  exact ⟨C, rfl, px h cs _ h1⟩
 | .iface t x, v, k => by
  simp only [gr, V] at k ⊢
  obtain ⟨y, rfl, h1⟩ := k
  exact ⟨y, rfl, qcl h x y h1⟩
theorem px {f : Nat → Option Nat} {c c2 : Cx} (h : o0 f c c2) : ∀ (xs : List AV) (vs : List Value), Vs c xs vs → Vs c2 (l5 f xs) vs
 | [], _, k => by simpa [l5, Vs] using k
 | x :: xs, vs, k => by
  simp only [l5, Vs] at k ⊢
  obtain ⟨y, ys, rfl, h1, h2⟩ := k
  exact ⟨y, ys, rfl, qcl h x y h1, px h xs ys h2⟩
end
theorem mz (f : Nat → Option Nat) (o : AO) : dz (qx f o) = dz o := by cases o <;> rfl
theorem qhj {f : Nat → Option Nat} {c c2 : Cx} (h : o0 f c c2) {o : AO} {l : Loc} (hb : dz o = true → ∀ b, l.block = some b → c2.w.heap[b]? = c.w.heap[b]?) (k : OR c o l) : OR c2 (qx f o) l := by
 cases o <;> cases l <;> simp only [qx, OR] at k ⊢
 ·obtain ⟨C, t, h1, h2, h3⟩ := k
  exact ⟨C, t, (hb rfl _ rfl).trans h1, px h _ _ h2, h3⟩
 ·obtain ⟨h1, h2, cells, h3, h4⟩ := k
  exact ⟨h1, h2, cells, jy h3 (hb rfl), bn.mono h.J h.jb _ _ h4⟩
 ·exact RoC.mono h.J h.jb _ _ k
 ·obtain ⟨E, cl, h1, h2⟩ := k
  exact ⟨E, cl, (hb rfl _ rfl).trans h1, ez.mono h.J h.jb _ _ h2⟩
 ·exact (hb rfl _ rfl).trans k
def bg (h : List AO) : HP := fun i => h[i]?
structure HRl (c : Cx) (h : List AO) : Prop where
 hr : HR c (bg h)
 born : ∀ i, c.born i ↔ i < h.length
def ct (P : Program) (f : FuncId) (args : List AV) (h : List AO) (r : AV) (h' : List AO) : Prop :=
 ∀ (c : Cx) (vals : Array Value) (o : Oper) (a : Act) (next : Act → World → Prop) (Q : Exit → Act → World → Prop), Vs c args vals.toList → HRl c h →
  (∀ v c', V c' r v → HRl c' h' → Fr c (bg h) c' (bg h') → h.length ≤ h'.length → (∀ i, i < h.length → c'.β i = c.β i) → next (a.put o.dst v) c'.w) →
  o.upon P a next Q ((callFunc f vals).run P c.w)
def ah (P : Program) (f : FuncId) (E : bb) : Prop :=
 ∀ args h K, E args h K → ∃ r h', K r h' ∧ ct P f args h r h'
theorem mem_iff {i : Nat} : ∀ {l : List Nat}, mem i l = true ↔ i ∈ l
 | [] => by simp [mem]
 | j :: r => by
  simp only [mem, List.mem_cons]
  cases h : Nat.beq i j with
  | true => simp [Nat.eq_of_beq_eq_true h]
  | false =>
   have hne : i ≠ j := fun e => by subst e; simp at h
   simp [hne, mem_iff (l := r)]
theorem nodup_iff : ∀ {l : List Nat}, nodup l = true ↔ l.Nodup
 | [] => by simp [nodup]
 | i :: r => by
  simp only [nodup, List.nodup_cons]
  cases h : mem i r with
  | true => simp [mem_iff.1 h]
  | false =>
   have : i ∉ r := fun e => by rw [mem_iff.2 e] at h; cases h
   simp [this, nodup_iff (l := r)]
theorem oi {n : Nat} : ∀ {l : List Nat}, fw n l = true ↔ ∀ i ∈ l, i < n
 | [] => by simp [fw]
 | i :: r => by
  simp only [fw, List.mem_cons]
  cases h : Nat.blt i n with
  | true =>
   have h1 : i < n := by simp [Nat.blt] at h; omega
   rw [oi (l := r)]
   exact ⟨fun k j hj => hj.elim (fun e => e ▸ h1) (k j), fun k j hj => k j (.inr hj)⟩
  | false =>
   have h1 : ¬ i < n := fun hlt => by
    have : Nat.blt i n = true := by unfold Nat.blt; rw [Nat.ble_eq]; exact hlt
    rw [this] at h
    cases h
   simp only [Bool.false_eq_true, false_iff]
   exact fun k => h1 (k i (.inl rfl))
theorem lj : ∀ {L : List Nat} {i j : Nat}, place L i = some j → L[j]? = some i
 | [], i, j, h => by simp [place] at h
 | a :: r, i, j, h => by
  simp only [place] at h
  cases hb : Nat.beq a i with
  | true =>
   rw [hb] at h
   injection h with h
   subst h
   simp [Nat.eq_of_beq_eq_true hb]
  | false =>
   rw [hb] at h
   simp only [Option.map_eq_some_iff] at h
   obtain ⟨k, h1, rfl⟩ := h
   simpa using lj h1
theorem ln (f : Nat → Option Nat) : ∀ (l : List AO) (i : Nat), (dy f l)[i]? = (l[i]?).map (qx f)
 | [], i => by simp [dy]
 | o :: r, 0 => by simp [dy]
 | o :: r, i + 1 => by simp [dy, ln f r i]
theorem gb (f : Nat → Option Nat) : ∀ (l : List AO), (dy f l).length = l.length
 | [] => rfl
 | o :: r => by simp [dy, gb f r]
theorem ja : ∀ {wr : List (Nat × AO)} {h : HP} {i : Nat}, ¬ Names wr i → dq h wr i = h i
 | [], _, _, _ => rfl
 | (j, o) :: r, h, i, hn => by
  simp only [dq]
  rw [ja (fun ⟨o', h'⟩ => hn ⟨o', List.mem_cons_of_mem _ h'⟩)]
  rw [if_neg (fun e => hn ⟨o, by rw [e]; exact List.mem_cons_self⟩)]
theorem dn {L : List Nat} {fresh : Nat} : ∀ {l : List AO} {k i : Nat}, Names (ck L fresh k l) i ↔ ∃ j, j < l.length ∧ i = bk L fresh (k + j)
 | [], k, i => by simp [ck, Names]
 | o :: r, k, i => by
  simp only [ck]
  constructor
  ·rintro ⟨o', h⟩
   rcases List.mem_cons.1 h with h | h
   ·injection h with h1 h2
    exact ⟨0, by simp, h1⟩
   ·obtain ⟨j, h1, h2⟩ := dn.1 ⟨o', h⟩
    exact ⟨j + 1, by simpa using h1, by rw [h2]; congr 1; omega⟩
  ·rintro ⟨j, h1, h2⟩
   cases j with
   | zero => exact ⟨_, by rw [h2]; exact List.mem_cons_self⟩
   | succ j =>
    obtain ⟨o', h⟩ := dn.2 ⟨j, by simpa using h1, (by rw [h2]; congr 1; omega : i = bk L fresh (k + 1 + j))⟩
    exact ⟨o', List.mem_cons_of_mem _ h⟩
theorem qbi {L : List Nat} {fresh j : Nat} (h : j < L.length) : L[j]? = some (bk L fresh j) := by
 unfold bk
 rw [List.getElem?_eq_getElem h]
theorem xi {L : List Nat} {fresh j : Nat} (h : L.length ≤ j) : bk L fresh j = fresh + (j - L.length) := by
 unfold bk
 rw [List.getElem?_eq_none h]
theorem qk2 {L : List Nat} {fresh : Nat} (hn : L.Nodup) (hb : ∀ i ∈ L, i < fresh) {i j : Nat} (h : bk L fresh i = bk L fresh j) : i = j := by
 by_cases hi : i < L.length <;> by_cases hj : j < L.length
 ·have h1 := qbi (fresh := fresh) hi
  have h2 := qbi (fresh := fresh) hj
  rw [h] at h1
  exact (List.getElem?_inj hi hn).1 (h1.trans h2.symm)
 ·have h1 := hb _ (List.mem_of_getElem? (qbi (fresh := fresh) hi))
  have h2 := xi (fresh := fresh) (Nat.le_of_not_lt hj)
  omega
 ·have h1 := hb _ (List.mem_of_getElem? (qbi (fresh := fresh) hj))
  have h2 := xi (fresh := fresh) (Nat.le_of_not_lt hi)
  omega
 ·have h1 := xi (fresh := fresh) (Nat.le_of_not_lt hi)
  have h2 := xi (fresh := fresh) (Nat.le_of_not_lt hj)
  omega
theorem rl {L : List Nat} {fresh : Nat} (hn : L.Nodup) (hb : ∀ i ∈ L, i < fresh) : ∀ {l : List AO} {h : HP} {k j : Nat} {o : AO}, l[j]? = some o → dq h (ck L fresh k l) (bk L fresh (k + j)) = some (qx (back L fresh) o)
 | [], _, _, _, _, h => by simp at h
 | x :: r, h, k, 0, o, hj => by
  simp at hj
  subst hj
  simp only [ck, dq, Nat.add_zero]
  rw [ja fun hx => ?_]
  ·simp
  ·obtain ⟨j, _, h2⟩ := dn.1 hx
   have := qk2 hn hb h2
   omega
 | x :: r, h, k, j + 1, o, hj => by
  simp only [ck, dq]
  have := rl hn hb (l := r) (h := fun i => if i = bk L fresh k then some (qx (back L fresh) x) else h i) (k := k + 1) (j := j) (o := o) (by simpa using hj)
  rw [show k + (j + 1) = k + 1 + j by omega]
  exact this
section
variable {P : Program} {ρ : Operand → AV} {rd : Nat → AO} {fresh : Nat} {dst : Option Tmp} {ty : TypeId} {pos : String} {after : Array Edge} {guard : Option (Nat × Bool)}
def cv (c : Cx) (L : List Nat) : Cx := ⟨fun j => c.β (bk L 0 j), c.I, c.w, fun j => j < L.length, c.base⟩
def qck (c : Cx) (h : HP) (rd : Nat → AO) : Prop := ∀ i, rd i ≠ .dead → OR c (rd i) (c.β i) ∧ (dz (rd i) = true → Live h i)
theorem pq {c : Cx} {h : HP} (hh : HR c h) (hrd : ∀ i, rd i ≠ .dead → h i = some (rd i)) : qck c h rd :=
 fun i hi => ⟨(hh.obj i _ (hrd i hi)).2, fun hl => ⟨rd i, hrd i hi, hl⟩⟩
theorem qa4 {c : Cx} {h : HP} (b : Bool) (ht : qck c h rd) : qck c h fun i => wkO b (rd i) := by
 intro i hi
 cases b with
 | false => exact ht i hi
 | true =>
  have hi' : rd i ≠ .dead := fun e => hi (by show wkO true (rd i) = .dead; rw [e]; rfl)
  obtain ⟨h1, h2⟩ := ht i hi'
  show OR c (wkO true (rd i)) _ ∧ (dz (wkO true (rd i)) = true → _)
  cases ho : rd i with
  | box cs =>
   rw [ho] at h1 h2
   refine ⟨?_, fun _ => h2 rfl⟩
   simp only [wkO]
   cases hl : c.β i with
   | blk b =>
    rw [hl] at h1
    simp only [OR] at h1 ⊢
    obtain ⟨C, t, h3, h4, h5⟩ := h1
    exact ⟨C, t, h3, pb h4, h5⟩
   | none => rw [hl] at h1; simp only [OR] at h1
   | rowv _ _ => rw [hl] at h1; simp only [OR] at h1
  | _ => rw [ho] at h1 h2; exact ⟨h1, h2⟩
theorem p5 {c : Cx} {h : HP} (hh : HR c h) (hrd : qck c h rd) {L : List Nat} (hn : L.Nodup) : HRl (cv c L) (dy (place L) (L.map rd)) := by
 have hget : ∀ j o, bg (dy (place L) (L.map rd)) j = some o → ∃ i, L[j]? = some i ∧ bk L 0 j = i ∧ o = qx (place L) (rd i) := by
  intro j o ho
  simp only [bg, ln, List.getElem?_map] at ho
  cases hL : L[j]? with
  | none => rw [hL] at ho; simp at ho
  | some i =>
   rw [hL] at ho
   simp at ho
   refine ⟨i, rfl, ?_, ho.symm⟩
   unfold bk
   rw [hL]
 have hlive : ∀ j, Live (bg (dy (place L) (L.map rd))) j → ∃ i, L[j]? = some i ∧ bk L 0 j = i ∧ Live h i := by
  rintro j ⟨o, h1, h2⟩
  obtain ⟨i, h3, h4, rfl⟩ := hget j o h1
  rw [mz] at h2
  exact ⟨i, h3, h4, (hrd i (fun e => by rw [e] at h2; simp [dz] at h2)).2 h2⟩
 have ren : o0 (place L) c (cv c L) := by
  refine ⟨fun i j hf _ => ?_, fun _ h => h, fun _ _ => rfl, rfl⟩
  have h1 := lj hf
  have hlt : j < L.length := (List.getElem?_eq_some_iff.1 h1).1
  refine ⟨hlt, ?_⟩
  show c.β (bk L 0 j) = c.β i
  unfold bk
  rw [h1]
 refine ⟨⟨fun j o ho => ?_, fun j k b hj hk hjb hkb => ?_, fun j b hj hjb => ?_, hh.bound, fun j b hj hjb => ?_, fun j b hj hjb => ?_, hh.base⟩, fun i => by rw [gb, List.length_map]; rfl⟩
 ·obtain ⟨i, h3, h4, rfl⟩ := hget j o ho
  refine ⟨(List.getElem?_eq_some_iff.1 h3).1, ?_⟩
  show OR (cv c L) _ (c.β (bk L 0 j))
  rw [h4]
  by_cases hd : rd i = .dead
  ·rw [hd]; simp only [qx, OR]
  ·exact qhj ren (fun _ _ _ => rfl) (hrd i hd).1
 ·obtain ⟨i, h3, h4, h5⟩ := hlive j hj
  obtain ⟨i', h3', h4', h5'⟩ := hlive k hk
  have e1 : (c.β i).block = some b := by rw [← h4]; exact hjb
  have e2 : (c.β i').block = some b := by rw [← h4']; exact hkb
  have := hh.inj i i' b h5 h5' e1 e2
  subst this
  exact (List.getElem?_inj (List.getElem?_eq_some_iff.1 h3).1 hn).1 (h3.trans h3'.symm)
 ·obtain ⟨i, h3, h4, h5⟩ := hlive j hj
  exact hh.apart i b h5 (by rw [← h4]; exact hjb)
 ·obtain ⟨i, h3, h4, h5⟩ := hlive j hj
  exact hh.size i b h5 (by rw [← h4]; exact hjb)
 ·obtain ⟨i, h3, h4, h5⟩ := hlive j hj
  exact hh.low i b h5 (by rw [← h4]; exact hjb)
def j7 (c c' : Cx) (L : List Nat) (fresh n : Nat) : Cx :=
 ⟨fun i => if fresh ≤ i ∧ i < fresh + (n - L.length) then c'.β (L.length + (i - fresh)) else c.β i, c'.I, c'.w, fun i => c.born i ∨ ∃ j, j < n ∧ i = bk L fresh j, c.base⟩
theorem qcu {c : Cx} {h : HP} (hh : HR c h) (hrd : qck c h rd) {L : List Nat} (hn : L.Nodup) (hb : ∀ i ∈ L, i < fresh) {h' : List AO} {c' : Cx}
  (hf : ∀ i, fresh ≤ i → Names (ck L fresh 0 h') i → ¬ c.born i) (hr' : HRl c' h') (hfr : Fr (cv c L) (bg (dy (place L) (L.map rd))) c' (bg h'))
  (hle : L.length ≤ h'.length) (hβ : ∀ i, i < L.length → c'.β i = (cv c L).β i) :
  o0 (back L fresh) c' (j7 c c' L fresh h'.length) ∧ HR (j7 c c' L fresh h'.length) (dq h (ck L fresh 0 h')) ∧ Ext c (j7 c c' L fresh h'.length) ∧
   Fr c h (j7 c c' L fresh h'.length) (dq h (ck L fresh 0 h')) := by
 have hlive : ∀ j, Live (bg (dy (place L) (L.map rd))) j → ∃ i, L[j]? = some i ∧ Live h i ∧ (cv c L).β j = c.β i := by
  rintro j ⟨o, h1, h2⟩
  simp only [bg, ln, List.getElem?_map] at h1
  cases hL : L[j]? with
  | none => rw [hL] at h1; simp at h1
  | some i =>
   rw [hL] at h1
   simp at h1
   subst h1
   rw [mz] at h2
   refine ⟨i, rfl, (hrd i (fun e => by rw [e] at h2; simp [dz] at h2)).2 h2, ?_⟩
   show c.β (bk L 0 j) = c.β i
   unfold bk
   rw [hL]
 have hβb : ∀ j, j < h'.length → (j7 c c' L fresh h'.length).β (bk L fresh j) = c'.β j := by
  intro j hj
  simp only [j7]
  by_cases hjL : j < L.length
  ·have h1 := qbi (fresh := fresh) hjL
   have h2 := hb _ (List.mem_of_getElem? h1)
   rw [if_neg (by omega), hβ j hjL]
   show c.β (bk L fresh j) = c.β (bk L 0 j)
   unfold bk
   rw [List.getElem?_eq_getElem hjL]
  ·have h1 := xi (fresh := fresh) (Nat.le_of_not_lt hjL)
   rw [if_pos (by omega), h1]
   congr 1
   omega
 have names : ∀ i, Names (ck L fresh 0 h') i ↔ ∃ j, j < h'.length ∧ i = bk L fresh j := by
  intro i
  rw [dn]
  simp
 have hβo : ∀ i, c.born i → (j7 c c' L fresh h'.length).β i = c.β i := by
  intro i hi
  simp only [j7]
  rw [if_neg]
  rintro ⟨h1, h2⟩
  refine hf i h1 ((names i).2 ⟨L.length + (i - fresh), by omega, ?_⟩) hi
  rw [xi (by omega)]
  omega
 have hold : ∀ i, c.born i → ∀ j, j < h'.length → i = bk L fresh j → j < L.length := by
  intro i hi j hj e
  apply Classical.byContradiction
  intro hjL
  have h1 := xi (L := L) (fresh := fresh) (Nat.le_of_not_lt hjL)
  exact hf i (by omega) ((names i).2 ⟨j, hj, e⟩) hi
 have ext : Ext c (j7 c c' L fresh h'.length) :=
  ⟨fun i hi => .inl hi, hβo, hfr.mono, fun b hb' => hfr.keep b (hh.bound b hb') fun i hi e => by
   obtain ⟨k, _, h2, h3⟩ := hlive i hi
   exact hh.apart k b h2 (h3 ▸ e) hb', rfl⟩
 have ren : o0 (back L fresh) c' (j7 c c' L fresh h'.length) := by
  refine ⟨fun i j hij hi => ?_, fun _ h => h, fun _ _ => rfl, hfr.base.symm⟩
  injection hij with hij
  subst hij
  have hlt := (hr'.born i).1 hi
  exact ⟨.inr ⟨i, hlt, rfl⟩, hβb i hlt⟩
 have obj : ∀ i o, dq h (ck L fresh 0 h') i = some o → (∃ j o', j < h'.length ∧ i = bk L fresh j ∧ h'[j]? = some o' ∧ o = qx (back L fresh) o') ∨ (¬ Names (ck L fresh 0 h') i ∧ h i = some o) := by
  intro i o ho
  by_cases hN : Names (ck L fresh 0 h') i
  ·obtain ⟨j, hj, e⟩ := (names i).1 hN
   obtain ⟨o', ho'⟩ : ∃ o', h'[j]? = some o' := ⟨h'[j], by simp [hj]⟩
   have := rl hn hb (h := h) (k := 0) ho'
   rw [Nat.zero_add, ← e, ho] at this
   injection this with this
   exact .inl ⟨j, o', hj, e, ho', this⟩
  ·rw [ja hN] at ho
   exact .inr ⟨hN, ho⟩
 have live : ∀ i, Live (dq h (ck L fresh 0 h')) i → (∃ j, j < h'.length ∧ i = bk L fresh j ∧ Live (bg h') j) ∨ (¬ Names (ck L fresh 0 h') i ∧ Live h i) := by
  rintro i ⟨o, h1, h2⟩
  rcases obj i o h1 with ⟨j, o', hj, e, ho', rfl⟩ | ⟨hN, ho⟩
  ·rw [mz] at h2
   exact .inl ⟨j, hj, e, o', ho', h2⟩
  ·exact .inr ⟨hN, o, ho, h2⟩
 have notcallee : ∀ i b, ¬ Names (ck L fresh 0 h') i → Live h i → (c.β i).block = some b → ∀ k, Live (bg (dy (place L) (L.map rd))) k → ((cv c L).β k).block ≠ some b := by
  intro i b hN hl hib k hk e
  obtain ⟨m, h1, h2, h3⟩ := hlive k hk
  rw [h3] at e
  have := hh.inj i m b hl h2 hib e
  subst this
  have hkL := (List.getElem?_eq_some_iff.1 h1).1
  refine hN ((names i).2 ⟨k, by omega, ?_⟩)
  have := qbi (fresh := fresh) hkL
  rw [h1] at this
  injection this
 refine ⟨ren, ⟨fun i o ho => ?_, fun i k b hi hk hib hkb => ?_, fun i b hi hib => ?_, hr'.hr.bound, fun i b hi hib => ?_, fun i b hi hib => ?_, Nat.le_trans hh.base hfr.size⟩, ext, ⟨hfr.os, hfr.tape, hfr.output, hfr.size, fun b hb' hnl => ?_, hfr.mono, fun b hb' => ?_, fun i b hi hib => ?_, rfl⟩⟩
 ·rcases obj i o ho with ⟨j, o', hj, e, ho', rfl⟩ | ⟨hN, ho⟩
  ·refine ⟨.inr ⟨j, hj, e⟩, ?_⟩
   rw [e, hβb j hj]
   exact qhj ren (fun _ _ _ => rfl) (hr'.hr.obj j o' ho').2
  ·obtain ⟨h1, h2⟩ := hh.obj i o ho
   refine ⟨.inl h1, ?_⟩
   rw [hβo i h1]
   cases hlv : dz o with
   | false => exact h2.kj ext hlv
   | true => exact h2.mono ext fun b hb' => hfr.keep b (hh.size i b ⟨o, ho, hlv⟩ hb') (notcallee i b hN ⟨o, ho, hlv⟩ hb')
 ·rcases live i hi with ⟨j, hj, e, hlj⟩ | ⟨hN, hl⟩ <;> rcases live k hk with ⟨m, hm, e', hlm⟩ | ⟨hN', hl'⟩
  ·rw [e, hβb j hj] at hib
   rw [e', hβb m hm] at hkb
   rw [e, e', hr'.hr.inj j m b hlj hlm hib hkb]
  ·obtain ⟨o, ho, _⟩ := id hl'
   rw [hβo k (hh.obj k o ho).1] at hkb
   rw [e, hβb j hj] at hib
   exfalso
   rcases hfr.live j b hlj hib with h1 | ⟨n, h1, h2⟩
   ·have h9 : (cv c L).w.heap.size = c.w.heap.size := rfl
    have := hh.size k b hl' hkb
    omega
   ·exact notcallee k b hN' hl' hkb n h1 h2
  ·obtain ⟨o, ho, _⟩ := id hl
   rw [hβo i (hh.obj i o ho).1] at hib
   rw [e', hβb m hm] at hkb
   exfalso
   rcases hfr.live m b hlm hkb with h1 | ⟨n, h1, h2⟩
   ·have h9 : (cv c L).w.heap.size = c.w.heap.size := rfl
    have := hh.size i b hl hib
    omega
   ·exact notcallee i b hN hl hib n h1 h2
  ·obtain ⟨o, ho, _⟩ := id hl
   obtain ⟨o', ho', _⟩ := id hl'
   rw [hβo i (hh.obj i o ho).1] at hib
   rw [hβo k (hh.obj k o' ho').1] at hkb
   exact hh.inj i k b hl hl' hib hkb
 ·rcases live i hi with ⟨j, hj, e, hlj⟩ | ⟨hN, hl⟩
  ·rw [e, hβb j hj] at hib
   exact hr'.hr.apart j b hlj hib
  ·obtain ⟨o, ho, _⟩ := id hl
   rw [hβo i (hh.obj i o ho).1] at hib
   intro hI
   rcases hfr.new b hI with h1 | h1 | ⟨k, h1, h2⟩
   ·exact hh.apart i b hl hib h1
   ·have h9 : (cv c L).w.heap.size = c.w.heap.size := rfl
    have := hh.size i b hl hib
    omega
   ·exact notcallee i b hN hl hib k h1 h2
 ·rcases live i hi with ⟨j, hj, e, hlj⟩ | ⟨hN, hl⟩
  ·rw [e, hβb j hj] at hib
   exact hr'.hr.size j b hlj hib
  ·obtain ⟨o, ho, _⟩ := id hl
   rw [hβo i (hh.obj i o ho).1] at hib
   exact Nat.lt_of_lt_of_le (hh.size i b hl hib) hfr.size
 ·rcases live i hi with ⟨j, hj, e, hlj⟩ | ⟨hN, hl⟩
  ·rw [e, hβb j hj] at hib
   have := hr'.hr.low j b hlj hib
   rw [hfr.base] at this
   exact this
  ·obtain ⟨o, ho, _⟩ := id hl
   rw [hβo i (hh.obj i o ho).1] at hib
   exact hh.low i b hl hib
 ·refine hfr.keep b hb' fun k hk e => ?_
  obtain ⟨m, _, h2, h3⟩ := hlive k hk
  exact hnl m h2 (h3 ▸ e)
 ·rcases hfr.new b hb' with h1 | h1 | ⟨k, h1, h2⟩
  ·exact .inl h1
  ·exact .inr (.inl h1)
  ·obtain ⟨m, _, h4, h5⟩ := hlive k h1
   exact .inr (.inr ⟨m, h4, h5 ▸ h2⟩)
 ·rcases live i hi with ⟨j, hj, e, hlj⟩ | ⟨hN, hl⟩
  ·rw [e, hβb j hj] at hib
   rcases hfr.live j b hlj hib with h1 | ⟨n, h1, h2⟩
   ·exact .inl h1
   ·obtain ⟨m, _, h4, h5⟩ := hlive n h1
    exact .inr ⟨m, h4, h5 ▸ h2⟩
  ·obtain ⟨o, ho, _⟩ := id hl
   rw [hβo i (hh.obj i o ho).1] at hib
   exact .inr ⟨i, hl, hib⟩
theorem zd {c : Cx} : ∀ {xs : List AV} {us : List Value}, Vs c xs us → Vs c (xs.map rm) us
 | [], _, h => h
 | x :: xs, us, h => by
  simp only [Vs, List.map_cons] at h ⊢
  obtain ⟨y, r, rfl, h1, h2⟩ := h
  exact ⟨y, r, rfl, qcn h1, zd h2⟩
theorem qhl {c : Cx} {a : Act} : ∀ (l : List Operand), (∀ x ∈ l, V c (ρ x) (a.eval x)) → Vs c (l.map ρ) (l.map a.eval)
 | [], _ => by simp [Vs]
 | x :: l, h => by
  simp only [List.map_cons, Vs]
  exact ⟨_, _, rfl, h x (by simp), qhl l fun y hy => h y (by simp [hy])⟩
theorem qcp {c : Cx} (b : Bool) {xs : List AV} {us : List Value} (h : Vs c xs us) : Vs c (qil b xs) us := by
 cases b
 ·exact h
 ·exact zd h
theorem qha (env : Env) (hC : ∀ f, ah P f (env.C f)) (g : Operand) (as : Array Operand) (ats : Array TypeId) (f : FuncId) (first captured : List AV) (hg : ρ g = .func (.func f) first captured) {K : KA}
  (h : qiz env rd fresh f (first ++ as.toList.map ρ ++ captured) K) :
  ∃ v wr, K v wr ∧ ay P ⟨dst, .call { callee := .value g, args := as, argTypes := ats }, ty, pos, after, guard⟩ ρ rd fresh v wr := by
 unfold qiz at h
 simp only at h
 split at h
 ·rename_i hchk
  simp only [Bool.and_eq_true] at hchk
  have hn := nodup_iff.1 hchk.1
  have hb := oi.1 hchk.2
  generalize reach rd 1000 (kd (first ++ as.toList.map ρ ++ captured)) [] = L at h hn hb
  obtain ⟨r, h', hk, hrun⟩ := hC f _ _ _ h
  split at hk
  ·rename_i hle
   have hle' := Nat.le_of_ble_eq_true hle
   refine ⟨_, _, hk, fun c hp a next Q hv hrd hf hh hnext => ?_⟩
   have e1 := hv g (by simp [Op.operands, Call.operands])
   rw [hg] at e1
   simp only [V] at e1
   obtain ⟨F, G, e2, e3, e4⟩ := e1
   have hargs : Vs c (first ++ as.toList.map ρ ++ captured) (F ++ as.map a.eval ++ G).toList := by
    simp only [Array.toList_append, Array.toList_map]
    exact (e3.append (qhl as.toList fun x hx => hv x (by simp only [Op.operands, Call.operands, Array.mem_append]; exact .inr (by simpa using hx)))).append e4
   have ren : o0 (place L) c (cv c L) := by
    refine ⟨fun i j hf _ => ?_, fun _ h => h, fun _ _ => rfl, rfl⟩
    have h1 := lj hf
    refine ⟨(List.getElem?_eq_some_iff.1 h1).1, ?_⟩
    show c.β (bk L 0 j) = c.β i
    unfold bk
    rw [h1]
   have hcal := hrun (cv c L) (F ++ as.map a.eval ++ G) ⟨dst, .call { callee := .value g, args := as, argTypes := ats }, ty, pos, after, guard⟩ a next Q
    (px ren _ _ (qcp _ hargs)) (p5 hh (qa4 (env.weakB f) (pq hh hrd)) hn) (fun u c' hu hr' hfr hlen hβ => by
     obtain ⟨k1, k2, k3, k4⟩ := qcu hh (qa4 (env.weakB f) (pq hh hrd)) hn hb hf hr' hfr hle' (fun i hi => hβ i (by rw [gb, List.length_map]; exact hi))
     refine hnext u (j7 c c' L fresh h'.length) (qcl k1 _ _ hu) k2 k3 k4 fun i hi => ?_
     rcases hi with hi | ⟨j, hj, e⟩
     ·exact .inl hi
     ·exact .inr (dn.2 ⟨j, hj, by simpa using e⟩))
   have hexec : (execOp a.eval ⟨dst, .call { callee := .value g, args := as, argTypes := ats }, ty, pos, after, guard⟩).run P c.w = (callFunc f (F ++ as.map a.eval ++ G)).run P c.w := by
    simp [execOp, resolve, e2, Deferred.ofValue, invoke]
   show Oper.upon P _ a next Q ((execOp a.eval _).run P c.w)
   rw [hexec]
   exact hcal
  ·exact hk.elim
 ·exact h.elim
end
end Go.RX
namespace Go.RX
structure og (env : Env) (plain : bf) : Prop where
 vw : qhn env.P env.vw
 C : ∀ f, ah env.P f (env.C f)
 plain : fl env.P plain
theorem j8 {v : AV} {K : Bool → Prop} (h : vc v K) : ∃ b, v = .p (.bool b) ∧ K b := by
 unfold vc at h
 split at h
 ·exact ⟨true, rfl, h⟩
 ·exact ⟨false, rfl, h⟩
 ·exact h.elim
theorem je {env : Env} {plain : bf} (hE : og env plain) (cl : Call) (ρ : Operand → AV) (rd : Nat → AO) (fresh : Nat) {dst : Option Tmp} {ty : TypeId} {pos : String} {after : Array Edge} {guard : Option (Nat × Bool)} {K : KA}
  (h : qbk env rd fresh ρ cl K) : ∃ v wr, K v wr ∧ ay env.P ⟨dst, .call cl, ty, pos, after, guard⟩ ρ rd fresh v wr := by
 obtain ⟨callee, args, ats⟩ := cl
 unfold qbk at h
 simp only at h
 split at h
 ·split at h
  ·rename_i x t hx hat
   have : args = #[x] := by
    apply Array.toList_inj.1
    exact hx
   subst this
   obtain ⟨v, h1, h2⟩ := qj9 _ _ t hat h
   exact ⟨v, [], h1, h2⟩
  ·exact h.elim
 ·split at h
  ·rename_i s x t t' hx hat
   split at h
   ·rename_i hb
    have := Nat.eq_of_beq_eq_true hb
    subst this
    have e1 : args = #[s, x] := Array.toList_inj.1 hx
    have e2 : ats = #[t, t] := Array.toList_inj.1 hat
    subst e1 e2
    exact tf _ _ _ h
   ·exact h.elim
  ·exact h.elim
 ·split at h
  ·rename_i f first captured hg
   exact qha env hE.C _ _ _ f first captured hg h
  ·exact h.elim
 ·exact h.elim
theorem lu {env : Env} {plain : bf} (hE : og env plain) (o : Oper) (ρ : Operand → AV) (rd : Nat → AO) (fresh : Nat) {K : KA} (h : step env plain o ρ rd fresh K) :
  ∃ v wr, K v wr ∧ ay env.P o ρ rd fresh v wr := by
 obtain ⟨dst, op, ty, pos, after, guard⟩ := o
 unfold step at h
 simp only at h
 split at h
 ·exact ⟨_, _, h, qhd _⟩
 ·exact ⟨_, _, h, qb0 _⟩
 ·rename_i c a b
  obtain ⟨t, h1, h2⟩ := j8 h
  cases t
  ·exact ⟨_, _, h2, qa0 c a b false h1⟩
  ·exact ⟨_, _, h2, qa0 c a b true h1⟩
 ·split at h
  ·rename_i zs hz
   exact ⟨_, _, h, qek _ zs hz⟩
  ·exact h.elim
 ·split at h
  ·rename_i cs hc
   exact ⟨_, _, h, qj8 _ _ cs hc⟩
  ·exact h.elim
 ·split at h
  ·rename_i zs at_ hz hat
   split at h
   ·rename_i cs hf
    exact ⟨_, _, h, qel _ _ zs at_ hz hat cs hf⟩
   ·exact h.elim
  ·exact h.elim
 ·split at h
  ·rename_i e ht
   split at h
   ·rename_i sz z hn hz
    split at h
    ·rename_i xs hchk hf
     simp only [Bool.and_eq_true] at hchk
     exact ⟨_, _, h, r8 _ e _ sz _ z ht hn hz (Nat.le_of_ble_eq_true hchk.1.1) (by have := hchk.1.2; simp [Nat.blt] at this; omega) (Nat.eq_of_beq_eq_true hchk.2) xs hf⟩
    ·exact h.elim
   ·exact h.elim
  ·exact h.elim
 ·obtain ⟨v, h1, h2⟩ := qhc env rfl hE.vw _ _ h
  exact ⟨v, [], h1, h2⟩
 ·obtain ⟨i, ao, h1, h2⟩ := qep env rfl hE.vw _ _ _ h
  exact ⟨_, _, h1, h2⟩
 ·split at h
  ·rename_i hx
   exact ⟨_, _, h, iq _ _ hx (.inl ⟨_, _, rfl⟩)⟩
  ·rename_i hx
   exact ⟨_, _, h, iq _ _ hx (.inr (.inl ⟨_, _, _, rfl⟩))⟩
  ·rename_i hx
   exact ⟨_, _, h, iq _ _ hx (.inr (.inr (.inl ⟨_, rfl⟩)))⟩
  ·rename_i hx
   exact ⟨_, _, h, iq _ _ hx (.inr (.inr (.inr ⟨_, _, _, rfl⟩)))⟩
  ·exact h.elim
 ·obtain ⟨v, h1, h2⟩ := rb hE.plain _ _ _ _ _ h
  exact ⟨v, [], h1, h2⟩
 ·obtain ⟨v, h1, h2⟩ := qmq _ _ _ h
  exact ⟨v, [], h1, h2⟩
 ·obtain ⟨v, h1, h2⟩ := qhb _ _ _ h
  exact ⟨v, [], h1, h2⟩
 ·exact ⟨_, _, h, wt _ _ _⟩
 ·split at h
  ·split at h
   ·exact ⟨_, _, h, yx _ _⟩
   ·exact h.elim
  ·exact h.elim
 ·obtain ⟨v, h1, h2⟩ := uw env rfl _ _ _ h
  exact ⟨v, [], h1, h2⟩
 ·split at h
  ·rename_i cs fs hx hf
   split at h
   ·rename_i off ft b hff
    split at h
    ·rename_i agg n hs
     split at h
     ·rename_i hle
      exact ⟨_, _, h, qen _ _ _ cs fs hx hf off ft b hff agg n hs (Nat.le_of_ble_eq_true hle)⟩
     ·exact h.elim
    ·exact h.elim
   ·exact h.elim
  ·exact h.elim
 ·split at h
  ·rename_i k n hy
   obtain ⟨v, h1, h2⟩ := nf env rfl hE.vw _ _ _ k n hy h
   exact ⟨v, [], h1, h2⟩
  ·exact h.elim
 ·split at h
  ·rename_i k n s hy hx ht
   exact ⟨_, _, h.2.2, wq _ _ _ k n s hy hx ht h.1 h.2.1⟩
  ·exact h.elim
 ·obtain ⟨v, h1, h2⟩ := qb3 env rfl hE.vw _ _ _ _ h
  exact ⟨v, [], h1, h2⟩
 ·obtain ⟨i, ao, h1, h2⟩ := qb4 env rfl _ _ _ _ h
  exact ⟨_, _, h1, h2⟩
 ·split at h
  ·rename_i s hx ht
   exact ⟨_, _, h, qeo _ _ s hx ht⟩
  ·exact h.elim
 ·exact qhe _ h
 ·split at h
  ·rename_i vs hx
   split at h
   ·rename_i v hv
    exact ⟨_, _, h, yw _ _ vs v hx hv⟩
   ·exact h.elim
  ·exact h.elim
 ·obtain ⟨v, h1, h2⟩ := i9 _ _ _ _ _ h
  exact ⟨v, [], h1, h2⟩
 ·split at h
  ·rename_i hl hc he
   split at h
   ·rename_i sz by_ z hs hby hz
    split at h
    ·rename_i hb
     simp only [Bool.and_eq_true] at hb
     obtain ⟨rfl, h0, h1, h2, h3⟩ := h
     exact ⟨_, _, h3, ux _ _ sz by_ _ _ _ _ _ z he hs hby hz (by have := hb.1; simp [Nat.blt] at this; omega) (Nat.eq_of_beq_eq_true hb.2) hl hc h0 h1 h2⟩
    ·exact h.elim
   ·exact h.elim
  ·exact h.elim
 ·exact je hE _ _ rd fresh h
 ·exact h.elim
end Go.RX
namespace Go.RX
structure SR (nt : Nat) (D : List Deferred) (s : St) (c : Cx) (a : Act) : Prop where
 sl : ∀ t, V c (bj s.sl t) (a.tmps.getD t undef)
 hp : HRl c s.hp
 size : a.tmps.size = nt
 defers : a.defers = D
structure Kept (n0 : Nat) (c : Cx) (h : HP) (c' : Cx) (h' : HP) : Prop where
 fr : Fr c h c' h'
 β : ∀ i, i < n0 → c.born i → c'.born i ∧ c'.β i = c.β i
theorem Kept.refl (n0 : Nat) (c : Cx) (h : HP) : Kept n0 c h c h := ⟨Fr.refl c h, fun _ _ h => ⟨h, rfl⟩⟩
theorem Kept.trans {n0 : Nat} {a b c : Cx} {h k l : HP} (x : Kept n0 a h b k) (y : Kept n0 b k c l) : Kept n0 a h c l :=
 ⟨x.fr.trans y.fr, fun i hi hb => ⟨(y.β i hi (x.β i hi hb).1).1, (y.β i hi (x.β i hi hb).1).2.trans (x.β i hi hb).2⟩⟩
theorem Kept.m7 {n0 : Nat} {c c' : Cx} {h h' : HP} (x : Ext c c') (f : Fr c h c' h') : Kept n0 c h c' h' :=
 ⟨f, fun i _ hb => ⟨x.born i hb, x.β i hb⟩⟩
structure j0 (env : Env) (plain : bf) : Prop where
 S : ∀ (o : Oper) (ρ : Operand → AV) (rd : Nat → AO) (fresh : Nat) {K : KA}, env.S o ρ rd fresh K → ∃ v wr, K v wr ∧ ay env.P o ρ rd fresh v wr
 pre : ∀ (o : Oper) (s : St) (n0 : Nat) (D : List Deferred) (c : Cx) (a : Act), SR env.nt D s c a → ∃ c', c'.w = c.w ∧ SR env.nt D (env.pre o s) c' a ∧ Kept n0 c (bg s.hp) c' (bg (env.pre o s).hp)
theorem b6 (t u : Nat) (v : AV) (sl : List (Nat × AV)) : bj ((t, v) :: sl) u = if t = u then v else bj sl u := by
 simp only [bj]
 by_cases h : t = u
 ·subst h; simp
 ·have : Nat.beq t u = false := by
   cases hb : Nat.beq t u with
   | false => rfl
   | true => exact absurd (Nat.eq_of_beq_eq_true hb) h
  rw [this]; simp [h]
theorem qaa {a : Act} {t : Nat} {u : Value} (ht : t < a.tmps.size) (x : Nat) : (a.put (some t) u).tmps.getD x undef = if t = x then u else a.tmps.getD x undef := by
 by_cases h : t = x
 ·subst h; simp [Act.put, ht]
 ·simp [Act.put, h, Array.getElem?_setIfInBounds_ne h]
theorem lk (a : Act) (d : Option Tmp) (u : Value) : (a.put d u).tmps.size = a.tmps.size := by cases d <;> simp [Act.put]
theorem put_defers (a : Act) (d : Option Tmp) (u : Value) : (a.put d u).defers = a.defers := by cases d <;> rfl
theorem zx {nt : Nat} {d : Option Tmp} (h : rv nt d = true) : ∀ t, d = some t → t < nt := by
 intro t ht
 subst ht
 unfold rv Nat.blt at h
 exact Nat.le_of_ble_eq_true h
theorem qfg {nt : Nat} {s : St} {c : Cx} {a : Act} {d : Option Tmp} {v : AV} {u : Value} (hd : rv nt d = true) (hs : a.tmps.size = nt)
  (hsl : ∀ t, V c (bj s.sl t) (a.tmps.getD t undef)) (hv : V c v u) : ∀ t, V c (bj (s.put d v).sl t) ((a.put d u).tmps.getD t undef) := by
 intro t
 cases d with
 | none => exact hsl t
 | some x =>
  have hx := zx hd x rfl
  rw [qaa (by rw [hs]; exact hx)]
  show V c (bj ((x, v) :: s.sl) t) _
  rw [b6]
  by_cases e : x = t
  ·rw [if_pos e, if_pos e]; exact hv
  ·rw [if_neg e, if_neg e]; exact hsl t
theorem ka {c : Cx} {a : Act} {sl : List (Nat × AV)} (hsl : ∀ t, V c (bj sl t) (a.tmps.getD t undef)) (x : Operand) : V c (j1 sl x) (a.eval x) := by
 cases x with
 | tmp t => exact hsl t
 | const v => exact qc3 c v
 | global g => simp [j1, V]
 | func f => simp only [j1, Act.eval, V]; exact ⟨#[], #[], rfl, rfl, rfl⟩
theorem x6 (h : List AO) (i : Nat) : df h i = (h[i]?).getD .dead := by
 induction h generalizing i with
 | nil => simp [df]
 | cons o r ih => cases i with
  | zero => simp [df]
  | succ i => simp [df, ih]
theorem gl {h : List AO} {i : Nat} (hn : df h i ≠ .dead) : bg h i = some (df h i) := by
 rw [x6] at hn ⊢
 simp only [bg]
 cases he : h[i]? with
 | none => rw [he] at hn; simp at hn
 | some o => simp
theorem po : ∀ (h : List AO) (i : Nat) (o : AO) (j : Nat), i < h.length → (yy h i o)[j]? = if j = i then some o else h[j]?
 | [], i, o, j, hi => by simp at hi
 | x :: r, 0, o, j, _ => by cases j <;> simp [yy]
 | x :: r, i + 1, o, j, hi => by
  cases j with
  | zero => simp [yy]
  | succ j => simp [yy, po r i o j (by simpa using hi)]
theorem er : ∀ (h : List AO) (i : Nat) (o : AO), (yy h i o).length = h.length
 | [], _, _ => rfl
 | _ :: _, 0, _ => rfl
 | _ :: r, i + 1, o => by simp [yy, er r i o]
theorem du {i n : Nat} (h : Nat.blt i n = true) : i < n := by
 unfold Nat.blt at h
 have := Nat.le_of_ble_eq_true h
 omega
theorem dr : ∀ (wr : List (Nat × AO)) (h : List AO), qcf h.length wr = true →
  bg (dg h wr) = dq (bg h) wr ∧ h.length ≤ (dg h wr).length ∧ (∀ i, Names wr i → i < (dg h wr).length) ∧ (∀ i, i < (dg h wr).length → i < h.length ∨ Names wr i)
 | [], h, _ => ⟨rfl, Nat.le_refl _, fun i ⟨_, hi⟩ => by simp at hi, fun i hi => .inl hi⟩
 | (i, o) :: r, h, hk => by
  simp only [qcf] at hk
  simp only [dg, dq]
  cases hb : Nat.blt i h.length with
  | true =>
   rw [hb] at hk
   simp only at hk ⊢
   have hi := du hb
   obtain ⟨h1, h2, h3, h4⟩ := dr r (yy h i o) (by rw [er]; exact hk)
   rw [er] at h2 h4
   refine ⟨?_, h2, fun j hj => ?_, fun j hj => ?_⟩
   ·rw [h1]
    congr 1
    funext j
    simp only [bg, po h i o j hi]
   ·obtain ⟨o', hj⟩ := hj
    rcases List.mem_cons.1 hj with e | e
    ·injection e with e1 e2; omega
    ·exact h3 j ⟨o', e⟩
   ·rcases h4 j hj with h5 | ⟨o', h5⟩
    ·exact .inl h5
    ·exact .inr ⟨o', List.mem_cons_of_mem _ h5⟩
  | false =>
   rw [hb] at hk
   simp only at hk ⊢
   cases hq : Nat.beq i h.length with
   | false => rw [hq] at hk; simp at hk
   | true =>
    rw [hq] at hk
    simp only at hk
    have hi := Nat.eq_of_beq_eq_true hq
    subst hi
    have hlen : (h ++ [o]).length = h.length + 1 := by simp
    obtain ⟨h1, h2, h3, h4⟩ := dr r (h ++ [o]) (by rw [hlen]; exact hk)
    rw [hlen] at h2 h4
    refine ⟨?_, by omega, fun j hj => ?_, fun j hj => ?_⟩
    ·rw [h1]
     congr 1
     funext j
     simp only [bg]
     by_cases e : j = h.length
     ·subst e; simp
     ·rw [if_neg e]
      by_cases hlt : j < h.length
      ·rw [List.getElem?_append_left hlt]
      ·rw [List.getElem?_eq_none (by simp; omega), List.getElem?_eq_none (by omega)]
    ·obtain ⟨o', hj⟩ := hj
     rcases List.mem_cons.1 hj with e | e
     ·injection e with e1 e2; omega
     ·exact h3 j ⟨o', e⟩
    ·rcases h4 j hj with h5 | ⟨o', h5⟩
     ·by_cases e : j = h.length
      ·exact .inr ⟨o, by rw [e]; exact List.mem_cons_self⟩
      ·exact .inl (by omega)
     ·exact .inr ⟨o', List.mem_cons_of_mem _ h5⟩
theorem SR.hr {nt : Nat} {D : List Deferred} {s : St} {c : Cx} {a : Act} (h : SR nt D s c a) : HR c (bg s.hp) := h.hp.hr
theorem HRl.of {c c' : Cx} {h : List AO} (hl : HRl c h) {wr : List (Nat × AO)} (hok : qcf h.length wr = true) (hr : HR c' (dq (bg h) wr)) (he : Ext c c') (hb : ∀ i, c'.born i → c.born i ∨ Names wr i) : HRl c' (dg h wr) := by
 obtain ⟨h1, h2, h3, h4⟩ := dr wr h hok
 refine ⟨by rw [h1]; exact hr, fun i => ⟨fun hi => ?_, fun hi => ?_⟩⟩
 ·rcases hb i hi with h5 | h5
  ·exact Nat.lt_of_lt_of_le ((hl.born i).1 h5) h2
  ·exact h3 i h5
 ·have : bg (dg h wr) i = some ((dg h wr)[i]) := by simp [bg, hi]
  rw [h1] at this
  exact (hr.obj i _ this).1
theorem oq {nt : Nat} {ops : Array Oper} {o : Oper} {s : St} {K : Bool → St → Prop} (h : qad ops o s K) :
  ∃ w s1, K w s1 ∧ (∀ t, bj s1.sl t = bj s.sl t) ∧ s1.hp = s.hp ∧
   (∀ (c : Cx) (a : Act), (∀ t, t ∈ o.looksAt ops → V c (bj s.sl t) (a.tmps.getD t undef)) → Region.wanted o (yielded ops a.tmps) = w) := by
 unfold qad at h
 split at h
 ·rename_i hg
  exact ⟨true, s, h, fun _ => rfl, rfl, fun c a _ => by simp [Region.wanted, hg]⟩
 ·rename_i j want hg
  split at h
  ·rename_i t ht
   have hlook : t ∈ o.looksAt ops := by
    unfold Oper.looksAt
    rw [hg]
    simp only [List.mem_append]
    right
    have : (ops[j]?).bind (·.dst) = some t := ht
    simp only [this]
    simp
   have hy : ∀ (c : Cx) (a : Act) (b : Bool), bj s.sl t = .p (.bool b) → (∀ t, t ∈ o.looksAt ops → V c (bj s.sl t) (a.tmps.getD t undef)) → yielded ops a.tmps j = some b := by
    intro c a b hb hv
    have h1 := hv t hlook
    rw [hb] at h1
    have h2 := mh h1
    have h3 : a.tmps[t]? = some (.bool b) := by
     simp only [Array.getD_eq_getD_getElem?] at h2
     cases he : a.tmps[t]? with
     | none => rw [he] at h2; simp [undef] at h2
     | some x => rw [he] at h2; simp at h2; rw [h2]
    have ht' : (ops[j]?).bind (·.dst) = some t := ht
    unfold yielded
    rw [ht']
    simp [h3]
   have hsame : ∀ (v : AV), bj s.sl t = v → ∀ u, bj ((t, v) :: s.sl) u = bj s.sl u := by
    intro v hv u
    rw [b6]
    by_cases e : t = u
    ·rw [if_pos e, ← hv, e]
    ·rw [if_neg e]
   split at h
   ·rename_i hb
    exact ⟨want, _, h, hsame _ hb, rfl, fun c a hv => by
     have := hy c a true hb hv
     simp only [Region.wanted, hg, this]
     cases want <;> rfl⟩
   ·rename_i hb
    exact ⟨!want, _, h, hsame _ hb, rfl, fun c a hv => by
     have := hy c a false hb hv
     simp only [Region.wanted, hg, this]
     cases want <;> rfl⟩
   ·rename_i hb
    refine ⟨false, s, h, fun _ => rfl, rfl, fun c a hv => ?_⟩
    have h1 := hv t hlook
    rw [hb] at h1
    obtain ⟨C, h2, h3⟩ := h1
    have h4 : C = #[] := Array.toList_inj.1 h3
    subst h4
    have ht' : (ops[j]?).bind (·.dst) = some t := ht
    have hnone : yielded ops a.tmps j = none := by
     unfold yielded
     rw [ht']
     simp only [Option.bind_some]
     simp only [Array.getD_eq_getD_getElem?] at h2
     cases he : a.tmps[t]? with
     | none => rfl
     | some x => rw [he] at h2; simp at h2; subst h2; rfl
    simp only [Region.wanted, hg, hnone]
    rfl
   ·exact h.elim
  ·exact h.elim
theorem ku {env : Env} {plain : bf} (hE : j0 env plain) (ops : Array Oper) (n0 : Nat) : ∀ (os : List Oper) (pre : List Oper), ops.toList = pre ++ os → ∀ (s : St) (K : St → Prop), wj env plain ops os s K →
  ∃ s', K s' ∧ ∀ (D : List Deferred) (c : Cx) (a : Act) (Q : Exit → Act → World → Prop), SR env.nt D s c a →
   (∀ c' a', SR env.nt D s' c' a' → Kept n0 c (bg s.hp) c' (bg s'.hp) → Q .normal a' c'.w) →
   wpOps env.P ops Q (List.range' pre.length os.length) a c.w
 | [], pre, _, s, K, h => ⟨s, h, fun D c a Q hs hq => by simpa [wpOps] using hq c a hs (Kept.refl n0 c _)⟩
 | o :: os, pre, hops, s, K, h => by
  simp only [wj] at h
  split at h
  ·exact h.elim
  ·rename_i hd
   obtain ⟨wn, s1, h1, hsl, hhp, hw⟩ := oq (nt := env.nt) h
   have ho : ops[pre.length]? = some o := by
    rw [← Array.getElem?_toList, hops]
    simp
   have hops' : ops.toList = (pre ++ [o]) ++ os := by simpa using hops
   have hlen : (pre ++ [o]).length = pre.length + 1 := by simp
   have hsr1 : ∀ D c a, SR env.nt D s c a → SR env.nt D s1 c a := fun D c a hs => ⟨fun t => by rw [hsl t]; exact hs.sl t, by rw [hhp]; exact hs.hp, hs.size, hs.defers⟩
   cases wn with
   | true =>
    simp only at h1
    obtain ⟨v, wr, h2, h3⟩ := hE.S o _ _ _ h1
    split at h2
    ·rename_i hok
     obtain ⟨s', h4, h5⟩ := ku hE ops n0 os (pre ++ [o]) hops' _ K h2
     refine ⟨s', h4, fun D c a Q hs hq => ?_⟩
     have hs1 := hsr1 D c a hs
     rw [List.length_cons, List.range'_succ]
     simp only [wpOps, ho]
     rw [hw c a fun t _ => hs.sl t]
     simp only [if_true]
     obtain ⟨c1, hw1, hs1, hk1⟩ := hE.pre o s1 n0 D c a hs1
     have hk1 : Kept n0 c (bg s.hp) c1 (bg (env.pre o s1).hp) := by rw [← hhp]; exact hk1
     rw [← hw1]
     refine .inl (h3 c1 (bg (env.pre o s1).hp) a _ Q (fun x _ => ka hs1.sl x) (fun i hi => gl hi) (fun i hi _ hb => ?_) hs1.hr fun u c' hu hr he hf hb => ?_)
     ·have := (hs1.hp.born i).1 hb
      omega
     ·rw [← hlen]
      have hr' : HRl c' (dg (env.pre o s1).hp wr) := hs1.hp.of hok hr he hb
      refine h5 D c' _ Q ⟨qfg hd hs1.size (fun t => V.mono he _ _ (hs1.sl t)) hu, hr', by rw [lk]; exact hs.size, by rw [put_defers]; exact hs.defers⟩ fun c2 a2 hs2 hk2 => ?_
      refine hq c2 a2 hs2 ((hk1.trans (Kept.m7 he ?_)).trans hk2)
      have := (dr wr (env.pre o s1).hp hok).1
      show Fr c1 (bg (env.pre o s1).hp) c' (bg (dg (env.pre o s1).hp wr))
      rw [this]
      exact hf
    ·exact h2.elim
   | false =>
    simp only at h1
    obtain ⟨s', h4, h5⟩ := ku hE ops n0 os (pre ++ [o]) hops' _ K h1
    refine ⟨s', h4, fun D c a Q hs hq => ?_⟩
    have hs1 := hsr1 D c a hs
    rw [List.length_cons, List.range'_succ]
    simp only [wpOps, ho]
    rw [hw c a fun t _ => hs.sl t]
    simp only [Bool.false_eq_true, if_false]
    rw [← hlen]
    have hput : (s1.put o.dst (.tup [])).hp = s1.hp := by cases o.dst <;> rfl
    refine h5 D c _ Q ⟨qfg hd hs1.size hs1.sl (v := .tup []) ⟨#[], rfl, rfl⟩, by rw [hput]; exact hs1.hp, by rw [lk]; exact hs.size, by rw [put_defers]; exact hs.defers⟩ fun c2 a2 hs2 hk2 => ?_
    rw [hput, hhp] at hk2
    exact hq c2 a2 hs2 hk2
end Go.RX
namespace Go.RX
structure Item where
 d : Did
 v : AV
 wr : List (Nat × AO)
 lo : Nat
 hi : Nat
def tg (σ : Nat → AV) (d : Option Tmp) (v : AV) : Nat → AV := fun t => if d = some t then v else σ t
def sD (D : Nat → Bool) : List Item → (Nat → AV) → (Nat → AV)
 | [], σ => σ
 | it :: r, σ => sD D r (if D it.d.i then tg σ it.d.dst it.v else σ)
def hD (D : Nat → Bool) : List Item → HP → HP
 | [], h => h
 | it :: r, h => hD D r (if D it.d.i then dq h it.wr else h)
def tt : Nat → Bool := fun _ => true
theorem od : ∀ {wr : List (Nat × AO)} {h h' : HP} {x : Nat}, (Names wr x ∨ h x = h' x) → dq h wr x = dq h' wr x
 | [], h, h', x, hx => by
  rcases hx with ⟨o, ho⟩ | hx
  ·simp at ho
  ·exact hx
 | (i, o) :: r, h, h', x, hx => by
  simp only [dq]
  refine od ?_
  by_cases e : x = i
  ·exact .inr (by rw [if_pos e, if_pos e])
  ·rcases hx with ⟨o', ho⟩ | hx
   ·rcases List.mem_cons.1 ho with h1 | h1
    ·injection h1 with h1 h2
     exact absurd h1 e
    ·exact .inl ⟨o', h1⟩
   ·exact .inr (by rw [if_neg e, if_neg e]; exact hx)
theorem im {D D' : Nat → Bool} {t : Nat} : ∀ {its : List Item} {σ σ' : Nat → AV}, (∀ it ∈ its, D it.d.i ≠ D' it.d.i → it.d.dst ≠ some t) → σ t = σ' t → sD D its σ t = sD D' its σ' t
 | [], _, _, _, h => h
 | it :: r, σ, σ', hd, h => by
  simp only [sD]
  refine im (fun x hx => hd x (List.mem_cons_of_mem _ hx)) ?_
  have h1 := hd it List.mem_cons_self
  by_cases hn : it.d.dst = some t
  ·have : D it.d.i = D' it.d.i := by
    apply Classical.byContradiction
    exact fun e => h1 e hn
   rw [this]
   cases D' it.d.i
   ·exact h
   ·simp [tg, hn]
  ·cases D it.d.i <;> cases D' it.d.i <;> simp [tg, hn, h]
theorem ic {D D' : Nat → Bool} {x : Nat} : ∀ {its : List Item} {h h' : HP}, (∀ it ∈ its, D it.d.i ≠ D' it.d.i → ¬ Names it.wr x) → h x = h' x → hD D its h x = hD D' its h' x
 | [], _, _, _, h => h
 | it :: r, h, h', hd, hx => by
  simp only [hD]
  refine ic (fun y hy => hd y (List.mem_cons_of_mem _ hy)) ?_
  have h1 := hd it List.mem_cons_self
  by_cases hn : Names it.wr x
  ·have : D it.d.i = D' it.d.i := by
    apply Classical.byContradiction
    exact fun e => h1 e hn
   rw [this]
   cases D' it.d.i
   ·exact hx
   ·exact od (.inl hn)
  ·cases D it.d.i <;> cases D' it.d.i <;> simp [ja hn, hx]
theorem q9 {D : Nat → Bool} : ∀ (xs ys : List Item) (σ : Nat → AV), sD D (xs ++ ys) σ = sD D ys (sD D xs σ)
 | [], _, _ => rfl
 | x :: xs, ys, σ => by simp only [List.cons_append, sD]; exact q9 xs ys _
theorem qg {D : Nat → Bool} : ∀ (xs ys : List Item) (h : HP), hD D (xs ++ ys) h = hD D ys (hD D xs h)
 | [], _, _ => rfl
 | x :: xs, ys, h => by simp only [List.cons_append, hD]; exact qg xs ys _
def ff : Nat → Bool := fun _ => false
theorem qg7 : ∀ (its : List Item) (σ : Nat → AV), sD ff its σ = σ
 | [], _ => rfl
 | it :: r, σ => by simp only [sD, ff]; exact qg7 r σ
theorem qge : ∀ (its : List Item) (h : HP), hD ff its h = h
 | [], _ => rfl
 | it :: r, h => by simp only [hD, ff]; exact qge r h
def qbp (σ : Nat → AV) : Operand → AV
 | .tmp t => σ t
 | .const v => tw v
 | .global _ => .undef
 | .func f => .func (.func f) [] []
theorem zz (sl : List (Nat × AV)) : j1 sl = qbp (bj sl) := by
 funext x
 cases x <;> rfl
def qf8 (its : List Item) (k : Nat) (ds : List Did) : List Did := ((its.take k).map (·.d)).reverse ++ ds
structure Info (env : Env) (ops : Array Oper) (n : Nat) (ds : List Did) (σ : Nat → AV) (h : HP) (len len' : Nat) (its : List Item) (k : Nat) (it : Item) (o : Oper) (w : Bool) : Prop where
 op : ops[n + k]? = some o
 i : it.d.i = n + k
 dst : it.d.dst = o.dst
 looks : it.d.looks = o.looksAt ops
 dok : rv env.nt o.dst = true
 edges : qb (n + k) o.after.toList = true
 anc : it.d.anc = qe4 (qf8 its k ds) o.after.toList
 clr : clear (qf8 its k ds) it.d = true
 names : it.d.names = ji it.wr
 len : len ≤ it.lo
 lohi : it.lo ≤ it.hi
 hi : ∀ i, Names it.wr i → i < it.hi
 len' : it.hi ≤ len'
 want : ∀ (c : Cx) (a : Act), (∀ t, t ∈ o.looksAt ops → V c (sD tt (its.take k) σ t) (a.tmps.getD t undef)) → Region.wanted o (yielded ops a.tmps) = w
 yes : w = true → ay env.P o (qbp (sD tt (its.take k) σ)) (only it.d.fp fun i => (hD tt (its.take k) h i).getD .dead) it.lo it.v it.wr
 no : w = false → it.v = .tup [] ∧ it.wr = []
theorem qa7 {s : St} {d : Option Tmp} {v : AV} {σ : Nat → AV} (h : ∀ t, bj s.sl t = σ t) (t : Nat) : bj (s.put d v).sl t = tg σ d v t := by
 cases d with
 | none => simp [St.put, tg, h]
 | some x =>
  show bj ((x, v) :: s.sl) t = _
  rw [b6]
  simp only [tg, Option.some.injEq]
  rw [h]
theorem kr {env : Env} {plain : bf} (hE : j0 env plain) (rid : Nat) (ops : Array Oper) : ∀ (os pre : List Oper), ops.toList = pre ++ os → ∀ (ds : List Did) (s : St) (K : St → Prop),
  te env plain rid ops os pre.length ds s K → ∃ its s', K s' ∧ its.length = os.length ∧ (∀ t, bj s'.sl t = sD tt its (bj s.sl) t) ∧ bg s'.hp = hD tt its (bg s.hp) ∧ s.hp.length ≤ s'.hp.length ∧
   (∀ k it, its[k]? = some it → ∃ o w, Info env ops pre.length ds (bj s.sl) (bg s.hp) s.hp.length s'.hp.length its k it o w) ∧
   (∀ (j k : Nat) (x y : Item), j < k → its[j]? = some x → its[k]? = some y → x.hi ≤ y.lo)
 | [], pre, _, ds, s, K, h => ⟨[], s, h, rfl, fun _ => rfl, rfl, Nat.le_refl _, fun k it h => (by simp at h), fun j k x y _ h => (by simp at h)⟩
 | o :: os, pre, hops, ds, s, K, h => by
  simp only [te] at h
  split at h
  ·exact h.elim
  ·rename_i hd
   simp only [Bool.and_eq_true] at hd
   obtain ⟨wn, s1, h1, hsl, hhp, hw⟩ := oq (nt := env.nt) h
   have ho : ops[pre.length]? = some o := by
    rw [← Array.getElem?_toList, hops]
    simp
   have hops' : ops.toList = (pre ++ [o]) ++ os := by simpa using hops
   have hlen : (pre ++ [o]).length = pre.length + 1 := by simp
   have hfun : bj s1.sl = bj s.sl := funext hsl
   have close : ∀ (it : Item) (its : List Item) (s2 s' : St) (w : Bool), its.length = os.length → (∀ t, bj s2.sl t = tg (bj s.sl) it.d.dst it.v t) → bg s2.hp = dq (bg s.hp) it.wr →
     (∀ t, bj s'.sl t = sD tt its (bj s2.sl) t) → bg s'.hp = hD tt its (bg s2.hp) → s2.hp.length ≤ s'.hp.length →
     it.lo = s.hp.length → it.hi = s2.hp.length → s.hp.length ≤ s2.hp.length → (∀ i, Names it.wr i → i < s2.hp.length) →
     it.d.i = pre.length → it.d.dst = o.dst → it.d.looks = o.looksAt ops → it.d.anc = qe4 ds o.after.toList → clear ds it.d = true → it.d.names = ji it.wr →
     (∀ (c : Cx) (a : Act), (∀ t, t ∈ o.looksAt ops → V c (bj s.sl t) (a.tmps.getD t undef)) → Region.wanted o (yielded ops a.tmps) = w) →
     (w = true → ay env.P o (qbp (bj s.sl)) (only it.d.fp fun i => (bg s.hp i).getD .dead) it.lo it.v it.wr) → (w = false → it.v = .tup [] ∧ it.wr = []) →
     (∀ k x, its[k]? = some x → ∃ o' w', Info env ops (pre ++ [o]).length (it.d :: ds) (bj s2.sl) (bg s2.hp) s2.hp.length s'.hp.length its k x o' w') →
     (∀ (j k : Nat) (x y : Item), j < k → its[j]? = some x → its[k]? = some y → x.hi ≤ y.lo) →
     (∀ t, bj s'.sl t = sD tt (it :: its) (bj s.sl) t) ∧ bg s'.hp = hD tt (it :: its) (bg s.hp) ∧ s.hp.length ≤ s'.hp.length ∧
     (∀ k x, (it :: its)[k]? = some x → ∃ o w, Info env ops pre.length ds (bj s.sl) (bg s.hp) s.hp.length s'.hp.length (it :: its) k x o w) ∧
     (∀ (j k : Nat) (x y : Item), j < k → (it :: its)[j]? = some x → (it :: its)[k]? = some y → x.hi ≤ y.lo) := by
    intro it its s2 s' w hl e1 e2 e3 e4 e5 e6 e7 e8 e9 f1 f2 f3 f4 f5 f6 f7 f8 f9 g1 g2
    have e1' : bj s2.sl = tg (bj s.sl) it.d.dst it.v := funext e1
    refine ⟨fun t => ?_, ?_, by omega, fun k x hx => ?_, fun j k x y hjk hx hy => ?_⟩
    ·rw [e3 t, e1']; simp [sD, tt]
    ·rw [e4, e2]; simp [hD, tt]
    ·cases k with
     | zero =>
      simp at hx
      subst hx
      refine ⟨o, w, ⟨ho, f1, f2, f3, hd.1.1, hd.1.2, f4, f5, f6, by omega, by omega, fun i hi => by rw [e7]; exact e9 i hi, by omega, f7, f8, f9⟩⟩
     | succ k =>
      simp at hx
      obtain ⟨o', w', I⟩ := g1 k x hx
      have hds : qf8 (it :: its) (k + 1) ds = qf8 its k (it.d :: ds) := by simp [qf8]
      have hsD : sD tt ((it :: its).take (k + 1)) (bj s.sl) = sD tt (its.take k) (bj s2.sl) := by simp [sD, tt, e1']
      have hhD : hD tt ((it :: its).take (k + 1)) (bg s.hp) = hD tt (its.take k) (bg s2.hp) := by simp [hD, tt, e2]
      refine ⟨o', w', ⟨?_, ?_, I.dst, I.looks, I.dok, ?_, ?_, ?_, I.names, by have := I.len; omega, I.lohi, I.hi, I.len', ?_, ?_, I.no⟩⟩
      ·have := I.op; rw [hlen] at this; rw [← this]; congr 1; omega
      ·have := I.i; rw [hlen] at this; omega
      ·have := I.edges; rw [hlen] at this; rw [← this]; congr 1; omega
      ·rw [hds]; exact I.anc
      ·rw [hds]; exact I.clr
      ·rw [hsD]; exact I.want
      ·rw [hsD, hhD]; exact I.yes
    ·cases j with
     | zero =>
      cases k with
      | zero => omega
      | succ k =>
       simp at hx hy
       subst hx
       obtain ⟨o', w', I⟩ := g1 k y hy
       rw [e7]
       exact I.len
     | succ j =>
      cases k with
      | zero => omega
      | succ k =>
       simp at hx hy
       exact g2 j k x y (by omega) hx hy
   cases wn with
   | true =>
    simp only at h1
    obtain ⟨v, wr, h2, h3⟩ := hE.S o _ _ _ h1
    split at h2
    ·rename_i hok
     simp only [Bool.and_eq_true] at hok
     rw [← hlen] at h2
     obtain ⟨its, s', k1, k2, k3, k4, k5, k6, k7⟩ := kr hE rid ops os (pre ++ [o]) hops' _ _ K h2
     obtain ⟨q1, q2, q3, q4⟩ := dr wr s1.hp hok.1
     have hget : df s1.hp = fun i => (bg s.hp i).getD .dead := by
      funext i
      rw [x6, hhp]
      rfl
     rw [hhp] at q1 q2
     refine ⟨⟨⟨pre.length, nth (env.anc rid) pre.length, o.dst, o.looksAt ops, fpA o (j1 s1.sl) (df s1.hp), ji wr⟩, v, wr, s.hp.length, (dg s1.hp wr).length⟩ :: its, s', k1, by simp [k2], ?_⟩
     refine close _ its ⟨(s1.put o.dst v).sl, dg s1.hp wr⟩ s' true k2 (qa7 hsl) (by rw [hhp]; exact q1) k3 k4 k5 rfl rfl (by rw [hhp]; exact q2) (fun i hi => q3 i hi) rfl rfl rfl (Nat.eq_of_beq_eq_true hd.2) hok.2 rfl (fun c a hv => hw c a hv) (fun _ => ?_) (fun e => by cases e) k6 k7
     have h3' := h3
     rw [zz, hfun, hget, hhp] at h3'
     show ay env.P o (qbp (bj s.sl)) (only (fpA o (j1 s1.sl) (df s1.hp)) fun i => (bg s.hp i).getD .dead) s.hp.length v wr
     rw [zz, hfun, hget]
     exact h3'
    ·exact h2.elim
   | false =>
    simp only at h1
    split at h1
    ·rename_i hok
     rw [← hlen] at h1
     obtain ⟨its, s', k1, k2, k3, k4, k5, k6, k7⟩ := kr hE rid ops os (pre ++ [o]) hops' _ _ K h1
     have hput : (s1.put o.dst (.tup [])).hp = s.hp := by
      rw [← hhp]
      cases o.dst <;> rfl
     refine ⟨⟨⟨pre.length, nth (env.anc rid) pre.length, o.dst, o.looksAt ops, [], []⟩, .tup [], [], s.hp.length, s.hp.length⟩ :: its, s', k1, by simp [k2], ?_⟩
     exact close _ its (s1.put o.dst (.tup [])) s' false k2 (qa7 hsl) (by rw [hput]; rfl) k3 k4 k5 rfl (by rw [hput]) (by rw [hput]; exact Nat.le_refl _) (fun i ⟨o', hi⟩ => by simp at hi) rfl rfl rfl (Nat.eq_of_beq_eq_true hd.2) hok rfl (fun c a hv => hw c a hv) (fun e => by cases e) (fun _ => ⟨rfl, rfl⟩) k6 k7
    ·exact h1.elim
theorem l9 {n : Nat} : ∀ {es : List Edge}, qb n es = true → ∀ e ∈ es, Region.binds .any e = true → e.on < n
 | [], _, e, he, _ => by simp at he
 | x :: r, h, e, he, hb => by
  simp only [qb] at h
  split at h
  ·cases h
  ·rename_i hx
   rcases List.mem_cons.1 he with rfl | he
   ·apply Classical.byContradiction
    intro hn
    refine hx hb ?_
    cases hq : Nat.blt e.on n with
    | false => rfl
    | true => exact absurd (du hq) hn
   ·exact l9 h e he hb
theorem kc (m n : Nat) : ig m n = m.testBit n := by
 unfold ig
 have h1 : Nat.land (Nat.shiftRight m n) 1 = (m >>> n) &&& 1 := rfl
 rw [h1, Nat.testBit, Nat.and_comm 1]
 have h3 : m >>> n &&& 1 = (m >>> n) % 2 := Nat.and_one_is_mod _
 rw [h3]
 rcases Nat.mod_two_eq_zero_or_one (m >>> n) with h | h <;> rw [h] <;> rfl
theorem qh (n : Nat) : ig 0 n = false := by rw [kc]; simp
theorem qbr (a b n : Nat) : ig (Nat.lor a b) n = (ig a n || ig b n) := by
 rw [kc, kc, kc]
 exact Nat.testBit_or a b n
theorem qbs (k n : Nat) : ig (Nat.shiftLeft 1 k) n = true → n = k := by
 rw [kc]
 intro h
 have h1 : Nat.shiftLeft 1 k = 2 ^ k := by show 1 <<< k = _; rw [Nat.shiftLeft_eq]; simp
 rw [h1, Nat.testBit_two_pow] at h
 have := of_decide_eq_true h
 exact this.symm
theorem va {j x : Nat} : ∀ {ds : List Did}, ig (qbg ds j) x = true → ∃ d ∈ ds, d.i = j ∧ ig d.anc x = true
 | [], h => by simp [qbg, qh] at h
 | d :: r, h => by
  simp only [qbg] at h
  cases hb : Nat.beq d.i j with
  | true =>
   rw [hb] at h
   exact ⟨d, List.mem_cons_self, Nat.eq_of_beq_eq_true hb, h⟩
  | false =>
   rw [hb] at h
   obtain ⟨d', h1, h2⟩ := va h
   exact ⟨d', List.mem_cons_of_mem _ h1, h2⟩
theorem tl {ds : List Did} {x : Nat} : ∀ {es : List Edge}, ig (qe4 ds es) x = true → ∃ e ∈ es, Region.binds .any e = true ∧ (x = e.on ∨ ig (qbg ds e.on) x = true)
 | [], h => by simp [qe4, qh] at h
 | e :: r, h => by
  simp only [qe4] at h
  cases hb : Region.binds .any e with
  | true =>
   rw [hb] at h
   simp only [qbr, Bool.or_eq_true] at h
   rcases h with (h | h) | h
   ·exact ⟨e, List.mem_cons_self, hb, .inl (qbs _ _ h)⟩
   ·exact ⟨e, List.mem_cons_self, hb, .inr h⟩
   ·obtain ⟨e', h1, h2⟩ := tl h
    exact ⟨e', List.mem_cons_of_mem _ h1, h2⟩
  | false =>
   rw [hb] at h
   obtain ⟨e', h1, h2⟩ := tl h
   exact ⟨e', List.mem_cons_of_mem _ h1, h2⟩
theorem qf9 {its : List Item} {k : Nat} {d : Did} (h : d ∈ qf8 its k []) : ∃ m x, m < k ∧ its[m]? = some x ∧ x.d = d := by
 simp only [qf8, List.append_nil, List.mem_reverse, List.mem_map] at h
 obtain ⟨x, h1, h2⟩ := h
 obtain ⟨m, h3⟩ := List.getElem?_of_mem h1
 have hm : m < (its.take k).length := (List.getElem?_eq_some_iff.1 h3).1
 rw [List.length_take] at hm
 refine ⟨m, x, by omega, ?_, h2⟩
 rw [List.getElem?_take] at h3
 split at h3
 ·exact h3
 ·cases h3
theorem qal {its : List Item} {k m : Nat} {x : Item} (hm : m < k) (h : its[m]? = some x) : x.d ∈ qf8 its k [] := by
 simp only [qf8, List.append_nil, List.mem_reverse, List.mem_map]
 refine ⟨x, List.mem_of_getElem? (i := m) ?_, rfl⟩
 rw [List.getElem?_take, if_pos hm, h]
theorem p9 {e : Did} : ∀ {ds : List Did}, clear ds e = true → ∀ d ∈ ds, ig e.anc d.i = true ∨ qf3 d e = false
 | [], _, d, hd => by simp at hd
 | x :: r, h, d, hd => by
  simp only [clear] at h
  split at h
  ·rename_i hx
   rcases List.mem_cons.1 hd with rfl | hd
   ·simp only [Bool.or_eq_true, Bool.not_eq_true'] at hx
    rcases hx with hx | hx
    ·exact .inl hx
    ·exact .inr hx
   ·exact p9 h d hd
  ·cases h
theorem lg : ∀ {xs ys : List Nat}, meet xs ys = false → ∀ i ∈ xs, i ∉ ys
 | [], _, _, i, hi => by simp at hi
 | x :: r, ys, h, i, hi => by
  simp only [meet] at h
  split at h
  ·cases h
  ·rename_i hx
   rcases List.mem_cons.1 hi with rfl | hi
   ·intro hc
    rw [mem_iff.2 hc] at hx
    cases hx
   ·exact lg h i hi
structure qcg (x y : Did) : Prop where
 l1 : ∀ t, x.dst = some t → t ∉ y.looks
 l2 : ∀ t, y.dst = some t → t ∉ x.looks
 d : ∀ t, x.dst = some t → y.dst ≠ some t
 n1 : ∀ i ∈ x.names, i ∉ y.fp
 n2 : ∀ i ∈ y.names, i ∉ x.fp
 nn : ∀ i ∈ x.names, i ∉ y.names
theorem qcg.symm {x y : Did} (h : qcg x y) : qcg y x :=
 ⟨h.l2, h.l1, fun t h1 h2 => h.d t h2 h1, h.n2, h.n1, fun i h1 h2 => h.nn i h2 h1⟩
theorem sv {d : Option Tmp} {l : List Tmp} (h : qmz d l = false) : ∀ t, d = some t → t ∉ l := by
 intro t ht hc
 subst ht
 simp only [qmz] at h
 rw [mem_iff.2 hc] at h
 cases h
theorem p8 {x y : Did} (h : qf3 x y = false) : qcg x y := by
 simp only [qf3, Bool.or_eq_false_iff] at h
 obtain ⟨⟨⟨⟨⟨h1, h2⟩, h3⟩, h4⟩, h5⟩, h6⟩ := h
 refine ⟨sv h1, sv h2, fun t ht hu => ?_, lg h4, lg h5, lg h6⟩
 rw [ht, hu] at h3
 simp [qmp] at h3
theorem ep {i : Nat} : ∀ {wr : List (Nat × AO)}, i ∈ ji wr ↔ Names wr i
 | [] => by simp [ji, Names]
 | (j, o) :: r => by
  simp only [ji, List.mem_cons]
  rw [ep (wr := r)]
  constructor
  ·rintro (h | ⟨o', h⟩)
   ·exact ⟨o, by simp [h]⟩
   ·exact ⟨o', List.mem_cons_of_mem _ h⟩
  ·rintro ⟨o', h⟩
   rcases List.mem_cons.1 h with h | h
   ·injection h with h1 h2
    exact .inl h1
   ·exact .inr ⟨o', h⟩
section
variable {env : Env} {ops : Array Oper} {σ : Nat → AV} {h0 : HP} {len len' : Nat} {its : List Item}
 (hI : ∀ k it, its[k]? = some it → ∃ o w, Info env ops 0 [] σ h0 len len' its k it o w)
def l0 (ops : Array Oper) (D : Nat → Bool) : Prop := ∀ k o, ops[k]? = some o → D k = true → ∀ e ∈ o.after.toList, Region.binds .any e = true → D e.on = true
include hI in
theorem qhq {D : Nat → Bool} (hD : l0 ops D) : ∀ (k : Nat) (it : Item) (o : Oper), its[k]? = some it → ops[k]? = some o → (∀ e ∈ o.after.toList, Region.binds .any e = true → D e.on = true) → ∀ x, ig it.d.anc x = true → D x = true := by
 intro k
 induction k using Nat.strongRecOn with
 | _ k ih =>
  intro it o hit ho hpre x hx
  obtain ⟨o', w, I⟩ := hI k it hit
  have hoo : o' = o := by
   have := I.op
   rw [Nat.zero_add, ho] at this
   injection this with this
   exact this.symm
  subst hoo
  rw [I.anc] at hx
  obtain ⟨e, he, hb, h1⟩ := tl hx
  have hlt : e.on < k := by
   have := l9 I.edges e he hb
   omega
  rcases h1 with h1 | h1
  ·rw [h1]; exact hpre e he hb
  ·obtain ⟨d, h2, h3, h4⟩ := va h1
   obtain ⟨m, y, h5, h6, h7⟩ := qf9 h2
   obtain ⟨o2, w2, I2⟩ := hI m y h6
   have hm : m = e.on := by
    have := I2.i
    rw [h7, h3] at this
    omega
   subst hm
   have ho2 : ops[e.on]? = some o2 := by
    have := I2.op
    rwa [Nat.zero_add] at this
   exact ih e.on hlt y o2 h6 ho2 (fun e' he' hb' => hD e.on o2 ho2 (hpre e he hb) e' he' hb') x (h7 ▸ h4)
include hI in
theorem mj {D : Nat → Bool} (hD : l0 ops D) {k : Nat} {it : Item} {o : Oper} (hit : its[k]? = some it) (ho : ops[k]? = some o) (hk : D k = false)
  (hpre : ∀ e ∈ o.after.toList, Region.binds .any e = true → D e.on = true) {m : Nat} {x : Item} (hm : its[m]? = some x) (hne : m ≠ k) (hdiff : D m ≠ decide (m < k)) : qcg x.d it.d := by
 obtain ⟨o1, w1, I1⟩ := hI k it hit
 obtain ⟨o2, w2, I2⟩ := hI m x hm
 by_cases hlt : m < k
 ·have hDm : D m = false := by
   cases hq : D m with
   | false => rfl
   | true => rw [hq] at hdiff; simp [hlt] at hdiff
  rcases p9 I1.clr x.d (qal hlt hm) with h1 | h1
  ·have := qhq hI hD k it o hit ho hpre _ h1
   rw [I2.i, Nat.zero_add, hDm] at this
   cases this
  ·exact p8 h1
 ·have hDm : D m = true := by
   cases hq : D m with
   | true => rfl
   | false => rw [hq] at hdiff; simp [hlt] at hdiff
  have ho2 : ops[m]? = some o2 := by
   have := I2.op
   rwa [Nat.zero_add] at this
  rcases p9 I2.clr it.d (qal (by omega) hit) with h1 | h1
  ·have := qhq hI hD m x o2 hm ho2 (hD m o2 ho2 hDm) _ h1
   rw [I1.i, Nat.zero_add, hk] at this
   cases this
  ·exact (p8 h1).symm
include hI in
theorem nv {m : Nat} {x : Item} (hm : its[m]? = some x) : x.d.i = m := by
 obtain ⟨o, w, I⟩ := hI m x hm
 have := I.i
 omega
include hI in
theorem qj4 (k : Nat) : sD tt (its.take k) σ = sD (fun m => decide (m < k)) its σ := by
 funext t
 conv => rhs; rw [← List.take_append_drop k its]
 rw [q9]
 have h2 : ∀ τ : Nat → AV, sD (fun m => decide (m < k)) (its.drop k) τ t = τ t := by
  intro τ
  refine (im (D' := ff) (σ' := τ) ?_ rfl).trans (congrFun (qg7 _ τ) t)
  intro it hit hd
  exfalso
  apply hd
  obtain ⟨m, hm⟩ := List.getElem?_of_mem hit
  rw [List.getElem?_drop] at hm
  have := nv hI hm
  simp [ff, this]
 rw [h2]
 refine im ?_ rfl
 intro it hit hd
 exfalso
 apply hd
 obtain ⟨m, hm⟩ := List.getElem?_of_mem hit
 rw [List.getElem?_take] at hm
 split at hm
 ·rename_i hlt
  have := nv hI hm
  simp [tt, this, hlt]
 ·cases hm
include hI in
theorem qjh (k : Nat) : hD tt (its.take k) h0 = hD (fun m => decide (m < k)) its h0 := by
 funext t
 conv => rhs; rw [← List.take_append_drop k its]
 rw [qg]
 have h2 : ∀ τ : HP, hD (fun m => decide (m < k)) (its.drop k) τ t = τ t := by
  intro τ
  refine (ic (D' := ff) (h' := τ) ?_ rfl).trans (congrFun (qge _ τ) t)
  intro it hit hd
  exfalso
  apply hd
  obtain ⟨m, hm⟩ := List.getElem?_of_mem hit
  rw [List.getElem?_drop] at hm
  have := nv hI hm
  simp [ff, this]
 rw [h2]
 refine ic ?_ rfl
 intro it hit hd
 exfalso
 apply hd
 obtain ⟨m, hm⟩ := List.getElem?_of_mem hit
 rw [List.getElem?_take] at hm
 split at hm
 ·rename_i hlt
  have := nv hI hm
  simp [tt, this, hlt]
 ·cases hm
def rr (D : Nat → Bool) (k : Nat) : Nat → Bool := fun m => if m = k then true else D m
theorem qa3 {k : Nat} {it : Item} (h : its[k]? = some it) : its = its.take k ++ it :: its.drop (k + 1) := by
 have := List.getElem?_eq_some_iff.1 h
 obtain ⟨hlt, he⟩ := this
 conv => lhs; rw [← List.take_append_drop k its, List.drop_eq_getElem_cons hlt, he]
include hI in
theorem qmo {D : Nat → Bool} (hD : l0 ops D) {k : Nat} {it : Item} {o : Oper} (hit : its[k]? = some it) (ho : ops[k]? = some o) (hk : D k = false)
  (hpre : ∀ e ∈ o.after.toList, Region.binds .any e = true → D e.on = true) : sD (rr D k) its σ = tg (sD D its σ) it.d.dst it.v := by
 have hi := nv hI hit
 funext t
 by_cases ht : it.d.dst = some t
 ·have hs := qa3 hit
  have e2 : tg (sD D its σ) it.d.dst it.v t = it.v := by simp [tg, ht]
  rw [e2]
  conv => lhs; rw [hs]
  rw [q9]
  simp only [sD]
  have : rr D k it.d.i = true := by simp [rr, hi]
  rw [if_pos this]
  refine (im (D' := ff) (σ' := tg (sD (rr D k) (its.take k) σ) it.d.dst it.v) ?_ rfl).trans ?_
  ·intro x hx hd hdst
   obtain ⟨m, hm⟩ := List.getElem?_of_mem hx
   rw [List.getElem?_drop] at hm
   have hxi := nv hI hm
   rw [hxi] at hd
   have hDm : D (k + 1 + m) = true := by
    simp only [rr, ff] at hd
    rw [if_neg (by omega)] at hd
    simpa using hd
   have := mj hI hD hit ho hk hpre hm (by omega) (by rw [hDm]; simp; omega)
   exact this.d t hdst ht
  ·rw [qg7]
   simp [tg, ht]
 ·have : tg (sD D its σ) it.d.dst it.v t = sD D its σ t := by simp [tg, ht]
  rw [this]
  refine im ?_ rfl
  intro x hx hd
  obtain ⟨m, hm⟩ := List.getElem?_of_mem hx
  have hxi := nv hI hm
  rw [hxi] at hd
  have hmk : m = k := by
   apply Classical.byContradiction
   intro hne
   exact hd (by simp [rr, hne])
  subst hmk
  rw [hit] at hm
  injection hm with hm
  rw [← hm]
  exact ht
include hI in
theorem qly {D : Nat → Bool} (hD' : l0 ops D) {k : Nat} {it : Item} {o : Oper} (hit : its[k]? = some it) (ho : ops[k]? = some o) (hk : D k = false)
  (hpre : ∀ e ∈ o.after.toList, Region.binds .any e = true → D e.on = true) : hD (rr D k) its h0 = dq (hD D its h0) it.wr := by
 have hi := nv hI hit
 obtain ⟨o1, w1, I1⟩ := hI k it hit
 funext t
 by_cases ht : Names it.wr t
 ·have hs := qa3 hit
  rw [od (h' := hD (rr D k) (its.take k) h0) (.inl ht)]
  conv => lhs; rw [hs]
  rw [qg]
  simp only [hD]
  have : rr D k it.d.i = true := by simp [rr, hi]
  rw [if_pos this]
  refine (ic (D' := ff) (h' := dq (hD (rr D k) (its.take k) h0) it.wr) ?_ rfl).trans ?_
  ·intro x hx hd hdst
   obtain ⟨m, hm⟩ := List.getElem?_of_mem hx
   rw [List.getElem?_drop] at hm
   have hxi := nv hI hm
   rw [hxi] at hd
   have hDm : D (k + 1 + m) = true := by
    simp only [rr, ff] at hd
    rw [if_neg (by omega)] at hd
    simpa using hd
   have := mj hI hD' hit ho hk hpre hm (by omega) (by rw [hDm]; simp; omega)
   obtain ⟨o2, w2, I2⟩ := hI _ x hm
   exact this.nn t (by rw [I2.names]; exact ep.2 hdst) (by rw [I1.names]; exact ep.2 ht)
  ·rw [qge]
 ·rw [ja ht]
  refine ic ?_ rfl
  intro x hx hd
  obtain ⟨m, hm⟩ := List.getElem?_of_mem hx
  have hxi := nv hI hm
  rw [hxi] at hd
  have hmk : m = k := by
   apply Classical.byContradiction
   intro hne
   exact hd (by simp [rr, hne])
  subst hmk
  rw [hit] at hm
  injection hm with hm
  rw [← hm]
  exact ht
include hI in
theorem qg8 {D : Nat → Bool} (hD : l0 ops D) {k : Nat} {it : Item} {o : Oper} (hit : its[k]? = some it) (ho : ops[k]? = some o) (hk : D k = false)
  (hpre : ∀ e ∈ o.after.toList, Region.binds .any e = true → D e.on = true) {t : Nat} (ht : t ∈ it.d.looks) : sD tt (its.take k) σ t = sD D its σ t := by
 rw [qj4 hI]
 refine im ?_ rfl
 intro x hx hd hdst
 obtain ⟨m, hm⟩ := List.getElem?_of_mem hx
 have hxi := nv hI hm
 rw [hxi] at hd
 by_cases e : m = k
 ·subst e
  simp [hk] at hd
 ·exact (mj hI hD hit ho hk hpre hm e (Ne.symm hd)).l1 t hdst ht
include hI in
theorem qqr {D : Nat → Bool} (hD' : l0 ops D) {k : Nat} {it : Item} {o : Oper} (hit : its[k]? = some it) (ho : ops[k]? = some o) (hk : D k = false)
  (hpre : ∀ e ∈ o.after.toList, Region.binds .any e = true → D e.on = true) {t : Nat} (ht : t ∈ it.d.fp) : hD tt (its.take k) h0 t = hD D its h0 t := by
 rw [qjh hI]
 refine ic ?_ rfl
 intro x hx hd hdst
 obtain ⟨m, hm⟩ := List.getElem?_of_mem hx
 have hxi := nv hI hm
 rw [hxi] at hd
 by_cases e : m = k
 ·subst e
  simp [hk] at hd
 ·obtain ⟨o2, w2, I2⟩ := hI _ x hm
  exact (mj hI hD' hit ho hk hpre hm e (Ne.symm hd)).n1 t (by rw [I2.names]; exact ep.2 hdst) ht
end
end Go.RX
namespace Go.RX
def unl (listed : Array Bool) : Nat → Nat
 | 0 => 0
 | n + 1 => unl listed n + (if listed.getD n true = false then 1 else 0)
theorem qik (listed : Array Bool) : ∀ n, unl listed n ≤ n
 | 0 => Nat.le_refl _
 | n + 1 => by
  simp only [unl]
  have := qik listed n
  split <;> omega
theorem qa5 {listed : Array Bool} {i : Nat} : ∀ {n : Nat}, n ≤ i → unl (listed.setIfInBounds i true) n = unl listed n
 | 0, _ => rfl
 | n + 1, h => by
  simp only [unl]
  rw [qa5 (by omega), getD_set_ne true (by omega : i ≠ n)]
theorem qe0 {listed : Array Bool} {i : Nat} (hi : listed.getD i true = false) : ∀ {n : Nat}, i < n → unl (listed.setIfInBounds i true) n + 1 = unl listed n
 | 0, h => by omega
 | n + 1, h => by
  simp only [unl]
  by_cases e : i = n
  ·subst e
   rw [qa5 (Nat.le_refl _), if_pos hi]
   have : ((listed.setIfInBounds i true).getD i true) = true := by
    rcases Nat.lt_or_ge i listed.size with h' | h'
    ·simp [h']
    ·simp [Array.getElem?_eq_none h'] at hi
   rw [this]
   simp
  ·rw [getD_set_ne true e]
   have := qe0 hi (n := n) (by omega)
   omega
theorem qa6 {listed : Array Bool} : ∀ {n : Nat}, unl listed n = 0 → ∀ j, j < n → listed.getD j true = true
 | 0, _, j, hj => by omega
 | n + 1, h, j, hj => by
  simp only [unl] at h
  by_cases e : j = n
  ·subst e
   cases hq : listed.getD j true with
   | true => rfl
   | false => rw [if_pos hq] at h; omega
  ·exact qa6 (n := n) (by omega) j (by omega)
section
variable {env : Env} {ops : Array Oper} {σ : Nat → AV} {h0 : HP} {len len' : Nat} {its : List Item}
structure Inv (Df : List Deferred) (env : Env) (σ : Nat → AV) (h0 : HP) (its : List Item) (c0 : Cx) (D : Nat → Bool) (c : Cx) (a : Act) : Prop where
 hr : HR c (hD D its h0)
 sl : ∀ t, V c (sD D its σ t) (a.tmps.getD t undef)
 size : a.tmps.size = env.nt
 defers : a.defers = Df
 born : ∀ i, c.born i → c0.born i ∨ ∃ m x, its[m]? = some x ∧ D m = true ∧ Names x.wr i
 ext : Ext c0 c
 fr : Fr c0 h0 c (hD D its h0)
def inL (listed : Array Bool) : Nat → Bool := fun m => listed.getD m false
theorem qdh {listed : Array Bool} {k : Nat} (h : listed.getD k true = false) : inL listed k = false := by
 unfold inL
 rcases Nat.lt_or_ge k listed.size with h' | h'
 ·simp [h'] at h ⊢; exact h
 ·simp [Array.getElem?_eq_none h'] at h
theorem qag {listed : Array Bool} {k : Nat} (hk : k < listed.size) (h : listed.getD k true = true) : inL listed k = true := by
 unfold inL
 simp [hk] at h ⊢; exact h
theorem yb {listed : Array Bool} {k : Nat} (h : listed.getD k true = false) : inL (listed.setIfInBounds k true) = rr (inL listed) k := by
 funext m
 unfold inL rr
 by_cases e : m = k
 ·subst e
  rw [if_pos rfl]
  rcases Nat.lt_or_ge m listed.size with h' | h'
  ·simp [h']
  ·simp [Array.getElem?_eq_none h'] at h
 ·rw [if_neg e, getD_set_ne false (Ne.symm e)]
theorem qbn {D : Nat → Bool} (hD : l0 ops D) {k : Nat} {o : Oper} (ho : ops[k]? = some o) (hpre : ∀ e ∈ o.after.toList, Region.binds .any e = true → D e.on = true) : l0 ops (rr D k) := by
 intro m o' hm hDm e he hb
 have h1 : D e.on = true := by
  by_cases hk : m = k
  ·subst hk
   rw [ho] at hm
   injection hm with hm
   subst hm
   exact hpre e he hb
  ·simp only [rr, if_neg hk] at hDm
   exact hD m o' hm hDm e he hb
 simp only [rr]
 split
 ·rfl
 ·exact h1
variable (hI : ∀ k it, its[k]? = some it → ∃ o w, Info env ops 0 [] σ h0 len len' its k it o w)
 (hp : ∀ (j k : Nat) (x y : Item), j < k → its[j]? = some x → its[k]? = some y → x.hi ≤ y.lo) (hlen : its.length = ops.size)
include hI hlen in
theorem qbf {listed : Array Bool} (hs : listed.size = ops.size) (hr : Region.ready .any ops listed = []) : ∀ j, j < ops.size → listed.getD j true = true := by
 intro j
 induction j using Nat.strongRecOn with
 | _ j ih =>
  intro hj
  cases hq : listed.getD j true with
  | true => rfl
  | false =>
   exfalso
   obtain ⟨it, hit⟩ : ∃ it, its[j]? = some it := ⟨its[j]'(by omega), by simp [hlen, hj]⟩
   obtain ⟨o, w, I⟩ := hI j it hit
   have ho : ops[j]? = some o := by
    have := I.op
    rwa [Nat.zero_add] at this
   have : j ∈ Region.ready .any ops listed := by
    rw [mem_ready]
    refine ⟨hq, o, ho, fun e he hb => ?_⟩
    have hlt := l9 I.edges e (by simpa using he) hb
    rw [Nat.zero_add] at hlt
    have h1 := ih e.on hlt (by omega)
    exact qag (by omega) h1
   rw [hr] at this
   cases this
include hI hp hlen in
theorem qfh {Df : List Deferred} {c0 : Cx} (hc0 : ∀ i, c0.born i → i < len) {Q : Exit → Act → World → Prop} (hq : ∀ c a, Inv Df env σ h0 its c0 tt c a → Q .normal a c.w) :
  ∀ (fuel : Nat) (listed : Array Bool) (a : Act) (c : Cx), listed.size = ops.size → unl listed ops.size ≤ fuel → l0 ops (inL listed) → Inv Df env σ h0 its c0 (inL listed) c a →
   wpAny env.P .any ops Q fuel listed a c.w := by
 have done : ∀ (listed : Array Bool) (a : Act) (c : Cx), listed.size = ops.size → (∀ j, j < ops.size → listed.getD j true = true) → Inv Df env σ h0 its c0 (inL listed) c a → Q .normal a c.w := by
  intro listed a c hs hall hv
  refine hq c a ?_
  have hDall : ∀ it ∈ its, inL listed it.d.i = true := by
   intro it hit
   obtain ⟨m, hm⟩ := List.getElem?_of_mem hit
   have hlt : m < its.length := (List.getElem?_eq_some_iff.1 hm).1
   rw [nv hI hm]
   exact qag (by omega) (hall m (by omega))
  have e1 : hD (inL listed) its h0 = hD tt its h0 := by
   funext x
   exact ic (fun it hit hd => absurd (hDall it hit) (by simpa [tt] using hd)) rfl
  have e2 : sD (inL listed) its σ = sD tt its σ := by
   funext x
   exact im (fun it hit hd => absurd (hDall it hit) (by simpa [tt] using hd)) rfl
  exact ⟨e1 ▸ hv.hr, e2 ▸ hv.sl, hv.size, hv.defers, fun i hi => (hv.born i hi).imp id fun ⟨m, x, h1, _, h3⟩ => ⟨m, x, h1, rfl, h3⟩, hv.ext, e1 ▸ hv.fr⟩
 intro fuel
 induction fuel with
 | zero =>
  intro listed a c hs hu _ hv
  have hall := qa6 (Nat.le_zero.1 hu)
  refine ⟨?_, done listed a c hs hall hv⟩
  cases hr : Region.ready .any ops listed with
  | nil => rfl
  | cons i r =>
   exfalso
   have hi : i ∈ Region.ready .any ops listed := by rw [hr]; exact List.mem_cons_self
   obtain ⟨h1, o, ho, _⟩ := mem_ready.1 hi
   have := hall i (Array.getElem?_eq_some_iff.1 ho).1
   rw [h1] at this
   cases this
 | succ fuel ih =>
  intro listed a c hs hu hcl hv
  refine ⟨fun hr => done listed a c hs (qbf hI hlen hs hr) hv, fun k hk => ?_⟩
  obtain ⟨h1, o, ho, hpre'⟩ := mem_ready.1 hk
  have hk0 := qdh h1
  have hklt : k < ops.size := (Array.getElem?_eq_some_iff.1 ho).1
  have hpre : ∀ e ∈ o.after.toList, Region.binds .any e = true → inL listed e.on = true := fun e he hb => hpre' e (by simpa using he) hb
  obtain ⟨it, hit⟩ : ∃ it, its[k]? = some it := ⟨its[k]'(by omega), by simp [hlen, hklt]⟩
  obtain ⟨o', w, I⟩ := hI k it hit
  have hoo : o' = o := by
   have := I.op
   rw [Nat.zero_add, ho] at this
   injection this with this
   exact this.symm
  subst hoo
  have hcl' : l0 ops (inL (listed.setIfInBounds k true)) := by rw [yb h1]; exact qbn hcl ho hpre
  have hu' : unl (listed.setIfInBounds k true) ops.size ≤ fuel := by
   have := qe0 h1 (n := ops.size) hklt
   omega
  have hlook : ∀ t, t ∈ o'.looksAt ops → sD tt (its.take k) σ t = sD (inL listed) its σ t := fun t ht => qg8 hI hcl hit ho hk0 hpre (by rw [I.looks]; exact ht)
  have hwant : Region.wanted o' (yielded ops a.tmps) = w := I.want c a fun t ht => by rw [hlook t ht]; exact hv.sl t
  have hslV : ∀ (c' : Cx) (v : AV) (u : Value), (∀ t, V c' (sD (inL listed) its σ t) (a.tmps.getD t undef)) → V c' v u → ∀ t, V c' (tg (sD (inL listed) its σ) o'.dst v t) ((a.put o'.dst u).tmps.getD t undef) := by
   intro c' v u h2 h3 t
   cases hd : o'.dst with
   | none => simpa [tg, Act.put] using h2 t
   | some x =>
    have hx := zx I.dok x hd
    rw [qaa (by rw [hv.size]; exact hx)]
    by_cases e : x = t
    ·subst e; simp [tg]; exact h3
    ·rw [if_neg e]
     have : tg (sD (inL listed) its σ) (some x) v t = sD (inL listed) its σ t := by simp [tg, e]
     rw [this]; exact h2 t
  unfold wpOp
  simp only [ho]
  rw [hwant]
  have hsD := qmo hI hcl hit ho hk0 hpre
  have hhD := qly hI hcl hit ho hk0 hpre
  rw [I.dst] at hsD
  cases w with
  | true =>
   simp only [if_true]
   refine .inl (I.yes rfl c (hD (inL listed) its h0) a _ Q (fun x hx => ?_) (fun i hi => ?_) (fun i hi hn hb => ?_) hv.hr fun u c' hu2 hr he hf hb => ?_)
   ·cases x with
    | tmp t =>
     have ht : t ∈ o'.looksAt ops := List.mem_append_left _ (List.mem_filterMap.2 ⟨.tmp t, by simpa using hx, rfl⟩)
     show V c (sD tt (its.take k) σ t) _
     rw [hlook t ht]
     exact hv.sl t
    | const v => exact qc3 c v
    | global g => simp [qbp, V]
    | func f => simp only [qbp, Act.eval, V]; exact ⟨#[], #[], rfl, rfl, rfl⟩
   ·have hfp : i ∈ it.d.fp := by
     apply Classical.byContradiction
     intro hn
     apply hi
     unfold only
     cases hm : mem i it.d.fp with
     | false => rfl
     | true => exact absurd (mem_iff.1 hm) hn
    have hm : mem i it.d.fp = true := mem_iff.2 hfp
    simp only [only, hm] at hi ⊢
    rw [qqr hI hcl hit ho hk0 hpre hfp] at hi ⊢
    cases hq : hD (inL listed) its h0 i with
    | none => rw [hq] at hi; simp at hi
    | some x => simp
   ·rcases hv.born i hb with h2 | ⟨m, x, h2, h3, h4⟩
    ·have := hc0 i h2
     have := I.len
     omega
    ·obtain ⟨o2, w2, I2⟩ := hI m x h2
     have hmk : m ≠ k := by
      intro e
      subst e
      rw [hk0] at h3
      cases h3
     by_cases hlt : m < k
     ·have := hp m k x it hlt h2 hit
      have := I2.hi i h4
      omega
     ·have := mj hI hcl hit ho hk0 hpre h2 hmk (by rw [h3]; simp [hlt])
      exact this.nn i (by rw [I2.names]; exact ep.2 h4) (by rw [I.names]; exact ep.2 hn)
   ·refine ih (listed.setIfInBounds k true) _ c' (by simpa using hs) hu' hcl' ?_
    rw [yb h1]
    refine ⟨by rw [hhD]; exact hr, by rw [hsD]; exact hslV c' it.v u (fun t => V.mono he _ _ (hv.sl t)) hu2, by rw [lk]; exact hv.size, by rw [put_defers]; exact hv.defers, fun i hi => ?_, hv.ext.trans he, by rw [hhD]; exact hv.fr.trans hf⟩
    rcases hb i hi with h2 | h2
    ·rcases hv.born i h2 with h3 | ⟨m, x, h3, h4, h5⟩
     ·exact .inl h3
     ·refine .inr ⟨m, x, h3, ?_, h5⟩
      simp only [rr]
      split
      ·rfl
      ·exact h4
    ·exact .inr ⟨k, it, hit, by simp [rr], h2⟩
  | false =>
   obtain ⟨hv0, hwr0⟩ := I.no rfl
   simp only [Bool.false_eq_true, if_false]
   refine ih (listed.setIfInBounds k true) _ c (by simpa using hs) hu' hcl' ?_
   rw [yb h1]
   rw [hwr0] at hhD
   rw [hv0] at hsD
   refine ⟨by rw [hhD]; exact hv.hr, by rw [hsD]; exact hslV c (.tup []) undef hv.sl ⟨#[], rfl, rfl⟩, by rw [lk]; exact hv.size, by rw [put_defers]; exact hv.defers, fun i hi => ?_, hv.ext, by rw [hhD]; exact hv.fr⟩
   rcases hv.born i hi with h3 | ⟨m, x, h3, h4, h5⟩
   ·exact .inl h3
   ·refine .inr ⟨m, x, h3, ?_, h5⟩
    simp only [rr]
    split
    ·rfl
    ·exact h4
end
def Cx.draw (c : Cx) : Cx := { c with w := { c.w with drawn := c.w.drawn + 1 } }
theorem mr (c : Cx) : Ext c c.draw := ⟨fun _ h => h, fun _ _ => rfl, fun _ h => h, fun _ _ => rfl, rfl⟩
theorem qc4 (c : Cx) (h : HP) : Fr c h c.draw h :=
 ⟨rfl, rfl, rfl, Nat.le_refl _, fun _ _ _ => rfl, fun _ h => h, fun _ h => .inl h, fun i _ hi hb => .inr ⟨i, hi, hb⟩, rfl⟩
theorem qc5 {c : Cx} {h : HP} (hh : HR c h) : HR c.draw h := by
 refine ⟨fun i o ho => ?_, hh.inj, hh.apart, hh.bound, hh.size, hh.low, hh.base⟩
 obtain ⟨h1, h2⟩ := hh.obj i o ho
 exact ⟨h1, h2.mono (mr c) fun _ _ => rfl⟩
theorem wi {env : Env} {plain : bf} (hE : j0 env plain) (hm : env.P.follows .mixedOrders = true) (id : Nat) (ops : Array Oper) (n0 : Nat) {s : St} {K : St → Prop} (h : te env plain id ops ops.toList 0 [] s K) :
  ∃ s', K s' ∧ ∀ (D : List Deferred) (c : Cx) (a : Act) (Q : Exit → Act → World → Prop), SR env.nt D s c a →
   (∀ c' a', SR env.nt D s' c' a' → Kept n0 c (bg s.hp) c' (bg s'.hp) → Q .normal a' c'.w) → (Code.region id ops true).wp env.P Q a c.w := by
 obtain ⟨its, s', h1, h2, h3, h4, h5, h6, h7⟩ := kr hE id ops ops.toList [] rfl [] s K h
 refine ⟨s', h1, fun D c a Q hs hq => wp_region_any hm ?_⟩
 have hlen : its.length = ops.size := by rw [h2]; simp
 have h0 : ∀ j, inL (Array.replicate ops.size false) j = false := by
  intro j
  unfold inL
  rcases Nat.lt_or_ge j ops.size with h' | h'
  ·simp [h']
  ·simp [h']
 refine qfh (Df := D) h6 h7 hlen (c0 := c) (fun i hi => (hs.hp.born i).1 hi) (Q := Q) (fun c' a' hv => ?_) ops.size _ a c.draw (by simp) (qik _ _) (fun k o _ hk => by rw [h0] at hk; cases hk) ?_
 ·refine hq c' a' ⟨fun t => by rw [h3 t]; exact hv.sl t, ⟨by rw [h4]; exact hv.hr, fun i => ⟨fun hi => ?_, fun hi => ?_⟩⟩, hv.size, hv.defers⟩ (Kept.m7 hv.ext (by rw [h4]; exact hv.fr))
  ·rcases hv.born i hi with hb | ⟨m, x, hb, _, hn⟩
   ·exact Nat.lt_of_lt_of_le ((hs.hp.born i).1 hb) h5
   ·obtain ⟨o, w, I⟩ := h6 m x hb
    exact Nat.lt_of_lt_of_le (I.hi i hn) I.len'
  ·have : bg s'.hp i = some (s'.hp[i]) := by simp [bg, hi]
   rw [h4] at this
   exact (hv.hr.obj i _ this).1
 ·have e1 : hD (inL (Array.replicate ops.size false)) its (bg s.hp) = bg s.hp := by
   funext x
   exact (ic (D' := ff) (fun it _ hd => absurd (h0 it.d.i) (by simpa [ff] using hd)) rfl).trans (congrFun (qge _ _) x)
  have e2 : sD (inL (Array.replicate ops.size false)) its (bj s.sl) = bj s.sl := by
   funext x
   exact (im (D' := ff) (fun it _ hd => absurd (h0 it.d.i) (by simpa [ff] using hd)) rfl).trans (congrFun (qg7 _ _) x)
  exact ⟨by rw [e1]; exact qc5 hs.hr, fun t => by rw [e2]; exact V.mono (mr c) _ _ (hs.sl t), hs.size, hs.defers, fun i hi => .inl hi, mr c, by rw [e1]; exact qc4 c _⟩
end Go.RX
namespace Go.RX
theorem qhu : ∀ {a b : List UInt8}, eqB a b = true → a = b
 | [], [], _ => rfl
 | [], _ :: _, h => by simp [eqB] at h
 | _ :: _, [], h => by simp [eqB] at h
 | x :: xs, y :: ys, h => by
  simp only [eqB] at h
  split at h
  ·rename_i hb
   rw [UInt8.toNat_inj.1 (Nat.eq_of_beq_eq_true hb), qhu h]
  ·cases h
theorem qc7 {a b : ByteArray} (h : eqB a.data.toList b.data.toList = true) : a = b := by
 apply ByteArray.ext
 exact Array.toList_inj.1 (qhu h)
theorem u9 {f : Nat → Bool} : ∀ {n : Nat}, qbe f n = true → ∀ i, i < n → f i = true
 | 0, _, i, hi => by omega
 | n + 1, h, i, hi => by
  simp only [qbe] at h
  split at h
  ·rename_i hn
   rcases Nat.lt_or_ge i n with hi' | hi'
   ·exact u9 h i hi'
   ·have : i = n := by omega
    rw [this]; exact hn
  ·cases h
mutual
theorem qm {I : Bool → Nat → Prop} {w : World} (hI : ∀ b, I true b → I false b) : ∀ {x y : PV} {cs : List Value}, so x y = true → RoC I w y cs → RoC I w x cs
 | .bool a, y, cs, h, k => by cases y <;> simp [so] at h; subst h; exact k
 | .int q a, y, cs, h, k => by cases y <;> simp [so] at h; obtain ⟨rfl, rfl⟩ := h; exact k
 | .str a, y, cs, h, k => by cases y <;> simp [so] at h; rw [qc7 h]; exact k
 | .nilp, y, cs, h, k => by cases y <;> simp [so] at h; exact k
 | .nils, y, cs, h, k => by cases y <;> simp [so] at h; exact k
 | .nilm, y, cs, h, k => by cases y <;> simp [so] at h; exact k
 | .nilf, y, cs, h, k => by cases y <;> simp [so] at h; exact k
 | .nili, y, cs, h, k => by cases y <;> simp [so] at h; exact k
 | .fnc a, y, cs, h, k => by cases y <;> simp [so] at h; subst h; exact k
 | .arr m n g, y, cs, h, k => by
  cases y with
  | arr m' n' g' =>
   simp only [so, Bool.and_eq_true] at h
   obtain ⟨⟨hm, hn⟩, hg⟩ := h
   have := Nat.eq_of_beq_eq_true hn
   subst this
   simp only [RoC] at k ⊢
   obtain ⟨a, c, e1, e2, e3⟩ := k
   refine ⟨a, c, e1, e2, fun h0 => ?_⟩
   obtain ⟨b, off, sz, k1, k2, k3, k4, k5⟩ := e3 h0
   have hmm : m = m' ∨ (m = false ∧ m' = true) := by cases m <;> cases m' <;> simp at hm ⊢
   refine ⟨b, off, sz, k1, ?_, k3, fun e => k4 ?_, fun i hi => ?_⟩
   ·rcases hmm with rfl | ⟨rfl, rfl⟩
    ·exact k2
    ·exact hI b k2
   ·rcases hmm with rfl | ⟨rfl, rfl⟩
    ·exact e
    ·rfl
   ·obtain ⟨es, q1, q2, q3⟩ := k5 i hi
    exact ⟨es, q1, qm hI (u9 hg i hi) q2, q3⟩
  | _ => simp [so] at h
 | .agg xs, y, cs, h, k => by
  cases y with
  | agg ys =>
   simp only [so] at h
   simp only [RoC] at k ⊢
   exact uc hI h k
  | _ => simp [so] at h
theorem uc {I : Bool → Nat → Prop} {w : World} (hI : ∀ b, I true b → I false b) : ∀ {xs ys : List PV} {cs : List Value}, i6 xs ys = true → b9 I w ys cs → b9 I w xs cs
 | [], ys, cs, h, k => by cases ys <;> simp [i6] at h; exact k
 | x :: xs, ys, cs, h, k => by
  cases ys with
  | nil => simp [i6] at h
  | cons y ys =>
   simp only [i6, Bool.and_eq_true] at h
   simp only [b9] at k ⊢
   obtain ⟨u, us, rfl, k1, k2⟩ := k
   exact ⟨u, us, rfl, qm hI h.1 k1, uc hI h.2 k2⟩
end
theorem Cx.u5 (c : Cx) : ∀ b, c.J true b → c.J false b := fun _ h => ⟨h.1, fun e => by cases e⟩
theorem qak {I : Bool → Nat → Prop} {w : World} (hI : ∀ b, I true b → I false b) {sz : Nat} : ∀ {xs ys : List PV} {cs : List Value}, i6 xs ys = true → bn I w sz ys cs → bn I w sz xs cs
 | [], ys, cs, h, k => by cases ys <;> simp [i6] at h; exact k
 | x :: xs, ys, cs, h, k => by
  cases ys with
  | nil => simp [i6] at h
  | cons y ys =>
   simp only [i6, Bool.and_eq_true] at h
   simp only [bn] at k ⊢
   obtain ⟨es, r, rfl, k1, k2, k3⟩ := k
   exact ⟨es, r, rfl, k1, qm hI h.1 k2, qak hI h.2 k3⟩
theorem ki : ∀ {xs ys : List PV}, i6 xs ys = true → xs.length = ys.length
 | [], ys, h => by cases ys <;> simp [i6] at h; rfl
 | x :: xs, ys, h => by
  cases ys with
  | nil => simp [i6] at h
  | cons y ys =>
   simp only [i6, Bool.and_eq_true] at h
   simp [ki h.2]
theorem vx : ∀ {xs ys : List PV}, i6 xs ys = true → ∀ i, i < xs.length → so (xs.getD i .nilp) (ys.getD i .nilp) = true
 | [], _, _, i, hi => by simp at hi
 | x :: xs, ys, h, i, hi => by
  cases ys with
  | nil => simp [i6] at h
  | cons y ys =>
   simp only [i6, Bool.and_eq_true] at h
   cases i with
   | zero => simpa using h.1
   | succ i => simpa using vx h.2 i (by simpa using hi)
mutual
theorem yg {c : Cx} : ∀ {x y : AV} {v : Value}, ub x y = true → V c y v → V c x v
 | .undef, _, _, _, _ => by simp only [V]
 | .p x, y, v, h, k => by
  cases y <;> simp only [ub] at h <;> first | (exact absurd h Bool.false_ne_true) | skip
  simp only [V] at k ⊢
  exact qm c.u5 h k
 | .ptr i o, y, v, h, k => by
  cases y <;> simp only [ub, Bool.and_eq_true] at h <;> first | (exact absurd h Bool.false_ne_true) | skip
  rw [Nat.eq_of_beq_eq_true h.1, Nat.eq_of_beq_eq_true h.2]; exact k
 | .eptr i j o, y, v, h, k => by
  cases y <;> simp only [ub, Bool.and_eq_true] at h <;> first | (exact absurd h Bool.false_ne_true) | skip
  rw [Nat.eq_of_beq_eq_true h.1.1, Nat.eq_of_beq_eq_true h.1.2, Nat.eq_of_beq_eq_true h.2]; exact k
 | .rop cs, y, v, h, k => by
  cases y <;> simp only [ub] at h <;> first | (exact absurd h Bool.false_ne_true) | skip
  simp only [V] at k ⊢
  obtain ⟨b, o, k1, k2, es, k3, k4⟩ := k
  exact ⟨b, o, k1, k2, es, uc c.u5 h k3, k4⟩
 | .row i, y, v, h, k => by
  cases y <;> simp only [ub] at h <;> first | (exact absurd h Bool.false_ne_true) | skip
  rw [Nat.eq_of_beq_eq_true h]; exact k
 | .map i, y, v, h, k => by
  cases y <;> simp only [ub] at h <;> first | (exact absurd h Bool.false_ne_true) | skip
  rw [Nat.eq_of_beq_eq_true h]; exact k
 | .iter i, y, v, h, k => by
  cases y <;> simp only [ub] at h <;> first | (exact absurd h Bool.false_ne_true) | skip
  rw [Nat.eq_of_beq_eq_true h]; exact k
 | .sub i j, y, v, h, k => by
  cases y <;> simp only [ub, Bool.and_eq_true] at h <;> first | (exact absurd h Bool.false_ne_true) | skip
  rw [Nat.eq_of_beq_eq_true h.1, Nat.eq_of_beq_eq_true h.2]; exact k
 | .func f a b, y, v, h, k => by
  cases f with
  | func f =>
   cases y with
   | func g c' d =>
    cases g with
    | func g =>
     simp only [ub, Bool.and_eq_true] at h
     simp only [V] at k ⊢
     obtain ⟨F, G, rfl, k1, k2⟩ := k
     exact ⟨F, G, by rw [Nat.eq_of_beq_eq_true h.1.1], jh h.1.2 k1, jh h.2 k2⟩
    | _ => simp [ub] at h
   | _ => simp [ub] at h
  | _ => simp [ub] at h
 | .agg cs, y, v, h, k => by
  cases y <;> simp only [ub] at h <;> first | (exact absurd h Bool.false_ne_true) | skip
  simp only [V] at k ⊢
  obtain ⟨C, rfl, k1, k2⟩ := k
  exact ⟨C, rfl, jh h k1, k2⟩
 | .tup cs, y, v, h, k => by
  cases y <;> simp only [ub] at h <;> first | (exact absurd h Bool.false_ne_true) | skip
  simp only [V] at k ⊢
  obtain ⟨C, rfl, k1⟩ := k
  exact ⟨C, rfl, jh h k1⟩
 | .iface t x, y, v, h, k => by
  cases y <;> simp only [ub, Bool.and_eq_true] at h <;> first | (exact absurd h Bool.false_ne_true) | skip
  simp only [V] at k ⊢
  obtain ⟨u, rfl, k1⟩ := k
  exact ⟨u, by rw [Nat.eq_of_beq_eq_true h.1], yg h.2 k1⟩
theorem jh {c : Cx} : ∀ {xs ys : List AV} {vs : List Value}, o6 xs ys = true → Vs c ys vs → Vs c xs vs
 | [], ys, vs, h, k => by cases ys <;> simp [o6] at h; exact k
 | x :: xs, ys, vs, h, k => by
  cases ys with
  | nil => simp [o6] at h
  | cons y ys =>
   simp only [o6, Bool.and_eq_true] at h
   simp only [Vs] at k ⊢
   obtain ⟨u, us, rfl, k1, k2⟩ := k
   exact ⟨u, us, rfl, yg h.1 k1, jh h.2 k2⟩
end
theorem qdk {c : Cx} {x y : AO} {l : Loc} (h : qh8 x y = true) (k : OR c y l) : OR c x l ∧ (dz x = true → dz y = true) := by
 cases x with
 | dead => exact ⟨by cases l <;> simp only [OR], fun e => by simp [dz] at e⟩
 | box cs =>
  cases y <;> simp only [qh8] at h <;> first | (exact absurd h Bool.false_ne_true) | skip
  refine ⟨?_, fun _ => rfl⟩
  cases l <;> simp only [OR] at k ⊢
  obtain ⟨C, t, k1, k2, k3⟩ := k
  exact ⟨C, t, k1, jh h k2, k3⟩
 | row e sz xs =>
  cases y <;> simp only [qh8, Bool.and_eq_true] at h <;> first | (exact absurd h Bool.false_ne_true) | skip
  rename_i e' sz' ys
  obtain ⟨⟨h1, h2⟩, h3⟩ := h
  have q1 := Nat.eq_of_beq_eq_true h1
  have q2 := Nat.eq_of_beq_eq_true h2
  subst q1 q2
  refine ⟨?_, fun _ => rfl⟩
  cases l <;> simp only [OR] at k ⊢
  obtain ⟨k1, k2, cells, k3, k4⟩ := k
  exact ⟨k1, k2, cells, by rw [ki h3]; exact k3, qak c.u5 h3 k4⟩
 | ice sz xs =>
  cases y <;> simp only [qh8, Bool.and_eq_true] at h <;> first | (exact absurd h Bool.false_ne_true) | skip
  rename_i sz' ys
  obtain ⟨h1, h3⟩ := h
  refine ⟨?_, fun e => by simp [dz] at e⟩
  cases l <;> simp only [OR] at k ⊢
  refine qm c.u5 ?_ k
  simp only [so, Bool.and_eq_true]
  refine ⟨⟨rfl, by rw [ki h3, Nat.beq_refl]⟩, ?_⟩
  have key : ∀ n, n ≤ xs.length → qbe (fun i => so (xs.getD i .nilp) (ys.getD i .nilp)) n = true := by
   intro n
   induction n with
   | zero => intro _; rfl
   | succ n ih =>
    intro hn
    simp only [qbe]
    rw [vx h3 n (by omega)]
    exact ih (by omega)
  exact key _ (Nat.le_refl _)
 | map kk es => cases y <;> simp [qh8] at h
 | iter s p =>
  cases y <;> simp only [qh8, Bool.and_eq_true] at h <;> first | (exact absurd h Bool.false_ne_true) | skip
  rename_i s' p'
  refine ⟨?_, fun _ => rfl⟩
  have := qc7 h.1
  subst this
  have := Nat.eq_of_beq_eq_true h.2
  subst this
  exact k
theorem vv : ∀ {xs ys : List AO}, qbu xs ys = true → xs.length = ys.length ∧ ∀ (i : Nat) (x : AO), xs[i]? = some x → ∃ y, ys[i]? = some y ∧ qh8 x y = true
 | [], ys, h => by cases ys <;> simp [qbu] at h; exact ⟨rfl, fun i x hx => by simp at hx⟩
 | x :: xs, ys, h => by
  cases ys with
  | nil => simp [qbu] at h
  | cons y ys =>
   simp only [qbu] at h
   split at h
   ·rename_i h1
    obtain ⟨k1, k2⟩ := vv h
    refine ⟨by simp [k1], fun i z hz => ?_⟩
    cases i with
    | zero => simp at hz; subst hz; exact ⟨y, rfl, h1⟩
    | succ i => simpa using k2 i z (by simpa using hz)
   ·cases h
theorem qq {c : Cx} {v : Value} {t : Nat} : ∀ {xs ys : List (Nat × AV)}, V c (bj xs t) v → V c (bj (ef xs ys) t) v
 | [], ys, _ => by cases ys <;> simp [ef, bj, V]
 | (u, x) :: xs, [], _ => by simp [ef, bj, V]
 | (u, x) :: xs, (u', y) :: ys, k => by
  simp only [ef]
  split
  ·split
   ·rw [b6] at k ⊢
    by_cases hu : u = t
    ·rw [if_pos hu] at k ⊢; exact k
    ·rw [if_neg hu] at k ⊢; exact qq k
   ·rw [b6] at k ⊢
    by_cases hu : u = t
    ·rw [if_pos hu]; simp only [V]
    ·rw [if_neg hu] at k ⊢; exact qq k
  ·simp [bj, V]
theorem ny {c : Cx} {v : Value} {t : Nat} : ∀ {xs ys : List (Nat × AV)}, V c (bj ys t) v → V c (bj (ef xs ys) t) v
 | [], ys, _ => by cases ys <;> simp [ef, bj, V]
 | (u, x) :: xs, [], _ => by simp [ef, bj, V]
 | (u, x) :: xs, (u', y) :: ys, k => by
  simp only [ef]
  split
  ·rename_i hb
   have := Nat.eq_of_beq_eq_true hb
   subst this
   split
   ·rename_i hle
    rw [b6] at k ⊢
    by_cases hu : u = t
    ·rw [if_pos hu] at k ⊢; exact yg hle k
    ·rw [if_neg hu] at k ⊢; exact ny k
   ·rw [b6] at k ⊢
    by_cases hu : u = t
    ·rw [if_pos hu]; simp only [V]
    ·rw [if_neg hu] at k ⊢; exact ny k
  ·simp [bj, V]
theorem qdl {nt : Nat} {D : List Deferred} {s : St} (ys : List (Nat × AV)) {c : Cx} {a : Act} (hs : SR nt D s c a) : SR nt D ⟨ef s.sl ys, s.hp⟩ c a :=
 ⟨fun t => qq (hs.sl t), hs.hp, hs.size, hs.defers⟩
theorem qjj {nt : Nat} {D : List Deferred} {s t : St} (h : qqw s t = true) {c : Cx} {a : Act} (hs : SR nt D t c a) {n0 : Nat} {c0 : Cx} {h0 : HP} (hk : Kept n0 c0 h0 c (bg t.hp)) :
  SR nt D ⟨ef s.sl t.sl, s.hp⟩ c a ∧ Kept n0 c0 h0 c (bg s.hp) := by
 simp only [qqw, Bool.and_eq_true] at h
 obtain ⟨h1, h2⟩ := h
 obtain ⟨k1, k2⟩ := vv h2
 have live : ∀ i, Live (bg s.hp) i → Live (bg t.hp) i := by
  rintro i ⟨o, q1, q2⟩
  obtain ⟨y, q3, q4⟩ := k2 i o q1
  exact ⟨y, q3, (qdk q4 ((hs.hp.hr.obj i y q3).2)).2 q2⟩
 refine ⟨⟨fun t => ny (hs.sl t), ⟨⟨fun i o ho => ?_, fun i j b hi hj => hs.hp.hr.inj i j b (live i hi) (live j hj), fun i b hi => hs.hp.hr.apart i b (live i hi), hs.hp.hr.bound, fun i b hi => hs.hp.hr.size i b (live i hi), fun i b hi => hs.hp.hr.low i b (live i hi), hs.hp.hr.base⟩, fun i => by show c.born i ↔ i < s.hp.length; rw [k1]; exact hs.hp.born i⟩, hs.size, hs.defers⟩, ⟨⟨hk.fr.os, hk.fr.tape, hk.fr.output, hk.fr.size, hk.fr.keep, hk.fr.mono, hk.fr.new, fun i b hi => hk.fr.live i b (live i hi), hk.fr.base⟩, hk.β⟩⟩
 obtain ⟨y, q3, q4⟩ := k2 i o ho
 obtain ⟨q5, q6⟩ := hs.hp.hr.obj i y q3
 exact ⟨q5, (qdk q4 q6).1⟩
theorem qec {a b : Ex} (h : qeb a b = true) : a = b := by
 cases a <;> cases b <;> simp only [qeb] at h <;> first | rfl | cases h | (rw [Nat.eq_of_beq_eq_true h])
theorem tk {nt : Nat} {s : St} {D : List Deferred} {n0 : Nat} {o : Oper} {c c' : Cx} {a : Act} {u : Value} {v : AV} {wr : List (Nat × AO)} (hd : rv nt o.dst = true) (hok : qcf s.hp.length wr = true) (hs : SR nt D s c a)
  (hu : V c' v u) (hr : HR c' (dq (bg s.hp) wr)) (he : Ext c c') (hf : Fr c (bg s.hp) c' (dq (bg s.hp) wr)) (hb : ∀ i, c'.born i → c.born i ∨ Names wr i) :
  SR nt D ⟨(s.put o.dst v).sl, dg s.hp wr⟩ c' (a.put o.dst u) ∧ Kept n0 c (bg s.hp) c' (bg (dg s.hp wr)) := by
 refine ⟨⟨qfg hd hs.size (fun t => V.mono he _ _ (hs.sl t)) hu, hs.hp.of hok hr he hb, by rw [lk]; exact hs.size, by rw [put_defers]; exact hs.defers⟩, Kept.m7 he ?_⟩
 have := (dr wr s.hp hok).1
 show Fr c (bg s.hp) c' (bg (dg s.hp wr))
 rw [this]
 exact hf
theorem gw {o : Oper} (h : o.guard = none) (f : Nat → Option Bool) : Region.wanted o f = true := by simp [Region.wanted, h]
theorem jo {env : Env} {plain : bf} (hE : j0 env plain) (ops : Array Oper) (n0 : Nat) : ∀ (l : List Nat) (s : St) (K : St → Prop), qz env ops l s K →
  ∃ s', K s' ∧ ∀ (D : List Deferred) (c : Cx) (a : Act) (Q : Exit → Act → World → Prop), SR env.nt D s c a →
   (∀ c' a', SR env.nt D s' c' a' → Kept n0 c (bg s.hp) c' (bg s'.hp) → Q .normal a' c'.w) → wpOps env.P ops Q l a c.w
 | [], s, K, h => ⟨s, h, fun D c a Q hs hq => by simpa [wpOps] using hq c a hs (Kept.refl n0 c _)⟩
 | i :: r, s, K, h => by
  simp only [qz] at h
  split at h
  ·rename_i o ho
   split at h
   ·rename_i hg hd
    obtain ⟨v, wr, h2, h3⟩ := hE.S o _ _ _ h
    split at h2
    ·rename_i hok
     obtain ⟨s', h4, h5⟩ := jo hE ops n0 r _ K h2
     refine ⟨s', h4, fun D c a Q hs hq => ?_⟩
     simp only [wpOps, ho]
     rw [gw hg]
     simp only [if_true]
     refine .inl (h3 c (bg s.hp) a _ Q (fun x _ => ka hs.sl x) (fun i hi => gl hi) (fun i hi _ hb => ?_) hs.hr fun u c' hu hr he hf hb => ?_)
     ·have := (hs.hp.born i).1 hb
      omega
     ·obtain ⟨k1, k2⟩ := tk (n0 := n0) hd hok hs hu hr he hf hb
      exact h5 D c' _ Q k1 fun c2 a2 hs2 hk2 => hq c2 a2 hs2 (Kept.trans k2 hk2)
    ·exact h2.elim
   ·exact h.elim
  ·exact h.elim
theorem dw : ∀ {a b : List Nat}, sj a b = true → a = b
 | [], [], _ => rfl
 | [], _ :: _, h => by simp [sj] at h
 | _ :: _, [], h => by simp [sj] at h
 | x :: xs, y :: ys, h => by
  simp only [sj] at h
  split at h
  ·rename_i hb
   rw [Nat.eq_of_beq_eq_true hb, dw h]
  ·cases h
theorem qbj {P : Program} {ops : Array Oper} {Q : Exit → Act → World → Prop} {i : Nat} {o : Oper} {T : TypeId} (ho : ops[i]? = some o) (hop : o.op = .alloc T) {K1 K2 : Act → World → Prop} {a : Act} {w : World}
  (h1 : wpOp P ops Q i K1 a w) (h2 : wpOp P ops Q i K2 a w) : wpOp P ops Q i (fun a w => K1 a w ∧ K2 a w) a w := by
 unfold wpOp at *
 simp only [ho] at *
 split
 ·rename_i hw
  simp only [hw, if_true] at h1 h2
  rcases h1 with h1 | h1
  ·rcases h2 with h2 | h2
   ·refine .inl ?_
    unfold Oper.wp at *
    have e : (execOp a.eval o).run P w = ((Instr.alloc T true (.tuple #[])).run P w).andThen fun u w' => .ok (.value u) w' := by
     unfold execOp
     rw [hop]
     simp
    rw [e] at h1 h2 ⊢
    cases hr : (Instr.alloc T true (.tuple #[])).run P w with
    | ok u w' =>
     rw [hr] at h1 h2
     exact ⟨h1, h2⟩
    | halt x w' =>
     rw [hr] at h1 h2
     cases x <;> first | exact h1 | exact h1.elim
   ·exact .inr h2
  ·exact .inr h1
 ·rename_i hw
  simp only [hw] at h1 h2
  exact ⟨h1, h2⟩
theorem qcz {P : Program} {ops : Array Oper} {q : Tmp} (h : ph ops q = true) {Q : Exit → Act → World → Prop} {a : Act} {w : World} (h1 : wpOps P ops Q [0, 1, 2, 3] a w) (h2 : wpOps P ops Q [0, 2, 1, 3] a w) :
  wpAny P .any ops Q ops.size (Array.replicate ops.size false) a w := by
 unfold ph at h
 split at h
 ·rename_i p T _ _ _ _ _ _ _ _ _ _ _ _ _ _ _ _ _ _ _ _ _ _ _ _ hl
  simp only [Bool.and_eq_true] at h
  obtain ⟨⟨⟨⟨⟨⟨⟨⟨⟨_, g0⟩, g1⟩, g2⟩, g3⟩, g4⟩, g5⟩, g6⟩, g7⟩, g8⟩ := h
  have e0 := Nat.eq_of_beq_eq_true g0
  have e1 := dw g1
  have e2 := dw g2
  have e3 := dw g3
  have e4 := dw g4
  have e5 := dw g5
  have e6 := dw g6
  have e7 := dw g7
  have e8 := dw g8
  have hz : ∃ o T, ops[0]? = some o ∧ o.op = .alloc T := by
   rw [← Array.getElem?_toList, hl]
   exact ⟨_, _, rfl, rfl⟩
  obtain ⟨o, T, ho, hop⟩ := hz
  rw [e0]
  simp only [wpOps_cons] at h1 h2
  have hb := qbj ho hop h1 h2
  simp only [wpAny, e1]
  refine ⟨fun e => (by cases e), fun i hi => ?_⟩
  have : i = 0 := by simpa using hi
  subst this
  refine wpOp_mono (fun a w hk => ?_) hb
  simp only [e2]
  refine ⟨fun e => (by cases e), fun i hi => ?_⟩
  have : i = 1 ∨ i = 2 := by simpa using hi
  rcases this with rfl | rfl
  ·refine wpOp_mono (fun a w hk => ?_) hk.1
   simp only [e3]
   refine ⟨fun e => (by cases e), fun i hi => ?_⟩
   have : i = 2 := by simpa using hi
   subst this
   refine wpOp_mono (fun a w hk => ?_) hk
   simp only [e5]
   refine ⟨fun e => (by cases e), fun i hi => ?_⟩
   have : i = 3 := by simpa using hi
   subst this
   refine wpOp_mono (fun a w hk => ?_) hk
   exact ⟨e7, by simpa [wpOps] using hk⟩
  ·refine wpOp_mono (fun a w hk => ?_) hk.2
   simp only [e4]
   refine ⟨fun e => (by cases e), fun i hi => ?_⟩
   have : i = 1 := by simpa using hi
   subst this
   refine wpOp_mono (fun a w hk => ?_) hk
   simp only [e6]
   refine ⟨fun e => (by cases e), fun i hi => ?_⟩
   have : i = 3 := by simpa using hi
   subst this
   refine wpOp_mono (fun a w hk => ?_) hk
   exact ⟨e8, by simpa [wpOps] using hk⟩
 ·cases h
end Go.RX
namespace Go.RX
def qmu : Ex → Exit
 | .normal => .normal
 | .exit id => .exit id
 | .ret => .ret
 | .goto l => .goto l
def jumps (P : Program) (c : Code) (Q : Exit → Act → World → Prop) : Nat → Nat → Act → World → Prop
 | 0, _, _, _ => False
 | n + 1, l, a, w => ∃ rest, findLabel c l = some rest ∧ rest.wp P (fun e a w => match e with
  | .goto l' => jumps P c Q n l' a w
  | e => Q e a w) a w
def qmf (J : Nat → Act → World → Prop) (Q : Exit → Act → World → Prop) : Exit → Act → World → Prop
 | .goto l, a, w => J l a w
 | e, a, w => Q e a w
theorem l8 {P : Program} {a : Act} {w : World} {Q : Exit → Act → World → Prop} {c : Code} (h : c.wp P (qmf (fun l a w => ∃ n, jumps P c Q n l a w) Q) a w) : (Code.scope c).wp P Q a w := by
 intro b k cs
 have key : ∀ n l a w, jumps P c Q n l a w → ∃ rest, findLabel c l = some rest ∧ ∃ e a' w', Q e a' w' ∧ Arrives P (lone (b.at a (.code rest :: .inScope c :: k)) cs w) b k cs e a' w' := by
  intro n
  induction n with
  | zero => intro l a w h; exact h.elim
  | succ n ih =>
   intro l a w h
   obtain ⟨rest, hf, h⟩ := h
   refine ⟨rest, hf, ?_⟩
   obtain ⟨e, a₁, w₁, hq, harr⟩ := h b (.inScope c :: k) cs
   cases e with
   | normal => exact ⟨.normal, a₁, w₁, hq, Steps.trans harr (.one step_inScope)⟩
   | exit id => exact ⟨.exit id, a₁, w₁, hq, fun k' hk => harr k' (by simp [exitTo, hk])⟩
   | goto l' =>
    obtain ⟨rest', hf', e₂, a₂, w₂, hq₂, harr₂⟩ := ih l' a₁ w₁ hq
    exact ⟨e₂, a₂, w₂, hq₂, .of_steps (harr _ (by simp [gotoIn, hf'])) harr₂⟩
   | ret => exact ⟨_, a₁, w₁, hq, harr⟩
   | panic ch => exact ⟨_, a₁, w₁, hq, harr⟩
   | outgrown => exact ⟨_, a₁, w₁, hq, harr⟩
 obtain ⟨e, a₁, w₁, hq, harr⟩ := h b (.inScope c :: k) cs
 cases e with
 | normal => exact ⟨.normal, a₁, w₁, hq, .head step_scope (Steps.trans harr (.one step_inScope))⟩
 | exit id => exact ⟨.exit id, a₁, w₁, hq, fun k' hk => .head step_scope (harr k' (by simp [exitTo, hk]))⟩
 | goto l' =>
  obtain ⟨n, hq⟩ := hq
  obtain ⟨rest', hf', e₂, a₂, w₂, hq₂, harr₂⟩ := key n l' a₁ w₁ hq
  exact ⟨e₂, a₂, w₂, hq₂, .of_steps (.head step_scope (harr _ (by simp [gotoIn, hf']))) harr₂⟩
 | ret => exact ⟨_, a₁, w₁, hq, .of_steps (.one step_scope) harr⟩
 | panic ch => exact ⟨_, a₁, w₁, hq, .of_steps (.one step_scope) harr⟩
 | outgrown => exact ⟨_, a₁, w₁, hq, .of_steps (.one step_scope) harr⟩
theorem nw {P : Program} {c : Code} {Q Q' : Exit → Act → World → Prop} (hq : ∀ e a w, Q e a w → Q' e a w) : ∀ {n l : Nat} {a : Act} {w : World}, jumps P c Q n l a w → jumps P c Q' n l a w
 | 0, _, _, _, h => h.elim
 | n + 1, l, a, w, h => by
  obtain ⟨rest, hf, h⟩ := h
  refine ⟨rest, hf, wp_mono h fun e a' w' he => ?_⟩
  cases e with
  | goto l' => exact nw hq he
  | _ => exact hq _ _ _ he
def xa (D : List Deferred) (env : Env) (s' : St) (ex : Ex) (c0 : Cx) (h0 : HP) : Exit → Act → World → Prop := fun e a w =>
 e = qmu ex ∧ ∃ c', c'.w = w ∧ SR env.nt D s' c' a ∧ Kept env.n0 c0 h0 c' (bg s'.hp)
def qnf (env : Env) (code : Code) (s : St) (ex : Ex) (s' : St) : Prop :=
 ∀ (D : List Deferred) (c : Cx) (a : Act), SR env.nt D s c a → code.wp env.P (xa D env s' ex c (bg s.hp)) a c.w
def dt (env : Env) (c : Code) (L : bp) : Prop := ∀ s K, L s K → ∃ n ex s', K ex s' ∧ ∀ (D : List Deferred) (c0 : Cx) (a : Act), SR env.nt D s c0 a → Code.rounds env.P c (xa D env s' ex c0 (bg s.hp)) n a c0.w
def oe (env : Env) (c : Code) (G : Nat → bp) : Prop := ∀ l s K, G l s K → ∃ n ex s', K ex s' ∧ ∀ (D : List Deferred) (c0 : Cx) (a : Act), SR env.nt D s c0 a → jumps env.P c (xa D env s' ex c0 (bg s.hp)) n l a c0.w
theorem jm {P : Program} {c : Code} {Q Q' : Exit → Act → World → Prop} (hq : ∀ e a w, Q e a w → Q' e a w) : ∀ {n : Nat} {a : Act} {w : World}, Code.rounds P c Q n a w → Code.rounds P c Q' n a w
 | 0, _, _, h => h.elim
 | n + 1, a, w, h => by
  rw [rounds_succ] at h ⊢
  refine wp_mono h fun e a' w' he => ?_
  cases e with
  | normal => exact jm hq he
  | _ => exact hq _ _ _ he
theorem vp (f : Nat → Option Nat) : ∀ (sl : List (Nat × AV)) (t : Nat), bj (qd4 f sl) t = gr f (bj sl t)
 | [], t => by simp [qd4, bj, gr]
 | (u, v) :: r, t => by
  simp only [qd4]
  rw [b6, b6]
  split
  ·rfl
  ·exact vp f r t
theorem qah {c : Cx} {sl : List (Nat × AV)} {f : Nat → Value} (h : ∀ t, V c (bj sl t) (f t)) : ∀ (l : List Nat) (t : Nat), V c (bj (gp sl l) t) (f t)
 | [], t => by simp [gp, bj, V]
 | u :: r, t => by
  simp only [gp]
  rw [b6]
  split
  ·rename_i e; rw [← e]; exact h u
  ·exact qah h r t
theorem uj (h : List AO) : ∀ L : List Nat, pick h L = L.map (df h)
 | [] => rfl
 | i :: r => by simp [pick, uj h r]
theorem kq : ∀ {n : Nat} {L : List Nat} {a : Nat}, ga n L a = true → ∀ i, i < n → L[i]? = some (a + i)
 | 0, _, _, _, i, hi => by omega
 | n + 1, [], _, h, _, _ => by simp [ga] at h
 | n + 1, j :: r, a, h, i, hi => by
  simp only [ga] at h
  cases hb : Nat.beq j a with
  | false => rw [hb] at h; cases h
  | true =>
   rw [hb] at h
   have hj := Nat.eq_of_beq_eq_true hb
   cases i with
   | zero => simp [hj]
   | succ i =>
    have := kq h i (by omega)
    rw [List.getElem?_cons_succ, this]
    congr 1
    omega
theorem ta (c : Cx) (L : List Nat) : o0 (place L) c (cv c L) := by
 refine ⟨fun i j hf _ => ?_, fun _ h => h, fun _ _ => rfl, rfl⟩
 have h1 := lj hf
 refine ⟨(List.getElem?_eq_some_iff.1 h1).1, ?_⟩
 show c.β (bk L 0 j) = c.β i
 unfold bk
 rw [h1]
theorem p6 {c : Cx} {h : List AO} {L : List Nat} {n0 : Nat} (hp : ga n0 L 0 = true) : Kept n0 c (bg h) (cv c L) (bg (dy (place L) (L.map (df h)))) := by
 refine ⟨⟨rfl, rfl, rfl, Nat.le_refl _, fun _ _ _ => rfl, fun _ h => h, fun _ h => .inl h, fun j b hj hb => .inr ?_, rfl⟩, fun i hi _ => ?_⟩
 ·obtain ⟨o, h1, h2⟩ := hj
  simp only [bg, ln, List.getElem?_map] at h1
  cases hL : L[j]? with
  | none => rw [hL] at h1; simp at h1
  | some i =>
   rw [hL] at h1
   simp at h1
   subst h1
   rw [mz] at h2
   refine ⟨i, ⟨df h i, gl (fun e => by rw [e] at h2; simp [dz] at h2), h2⟩, ?_⟩
   rw [← hb]
   show _ = (c.β (bk L 0 j)).block
   unfold bk
   rw [hL]
 ·have := kq hp i hi
  rw [Nat.zero_add] at this
  refine ⟨(List.getElem?_eq_some_iff.1 this).1, ?_⟩
  show c.β (bk L 0 i) = c.β i
  unfold bk
  rw [this]
theorem gk {nt n0 : Nat} {s : St} {K : St → Prop} (h : canon n0 s K) : ∃ s', K s' ∧ ∀ D c a, SR nt D s c a → ∃ c', c'.w = c.w ∧ SR nt D s' c' a ∧ Kept n0 c (bg s.hp) c' (bg s'.hp) := by
 unfold canon at h
 simp only at h
 split at h
 ·rename_i hchk
  simp only [Bool.and_eq_true] at hchk
  obtain ⟨⟨h1, h2⟩, h3⟩ := hchk
  generalize reach (df s.hp) 1000 (jw (df s.hp) (upto n0) ++ kd (qeq s.sl)) (upto n0) = L at h h1 h2 h3
  rw [uj] at h
  refine ⟨_, h, fun D c a hs => ⟨cv c L, rfl, ⟨fun t => ?_, ?_, hs.size, hs.defers⟩, p6 h2⟩⟩
  ·rw [vp]
   exact qcl (ta c L) _ _ (hs.sl t)
  ·exact p5 hs.hp.hr (pq hs.hp.hr fun i hi => gl hi) (nodup_iff.1 h1)
 ·exact h.elim
theorem zo (n : Nat) : Nat.blt n n = false := by
 cases h : Nat.blt n n with
 | false => rfl
 | true => exact absurd (du h) (Nat.lt_irrefl n)
def jz (c : Cx) (n sz : Nat) : Cx := ⟨fun j => if j = n then .rowv (.slice none 0 0) sz else c.β j, c.I, c.w, fun j => c.born j ∨ j = n, c.base⟩
theorem pr {c : Cx} {n : Nat} (hn : ¬ c.born n) (sz : Nat) : Ext c (jz c n sz) :=
 ⟨fun _ h => .inl h, fun i hi => if_neg (fun e : i = n => hn (e ▸ hi)), fun _ h => h, fun _ _ => rfl, rfl⟩
theorem qex {c : Cx} {h : HP} (hh : HR c h) {n : Nat} (hn : ¬ c.born n) {e sz : Nat} (hsz : 0 < sz) :
  HR (jz c n sz) (dq h [(n, .row e sz [])]) ∧ Fr c h (jz c n sz) (dq h [(n, .row e sz [])]) := by
 have hext := pr hn sz
 have hβ : ∀ j, j ≠ n → (jz c n sz).β j = c.β j := fun j hj => if_neg hj
 have hβn : (jz c n sz).β n = .rowv (.slice none 0 0) sz := if_pos rfl
 have hnone : ((jz c n sz).β n).block = none := by rw [hβn]; rfl
 have live : ∀ j b, Live (dq h [(n, .row e sz [])]) j → ((jz c n sz).β j).block = some b → j ≠ n ∧ Live h j ∧ (c.β j).block = some b := by
  intro j b hj hb
  rcases dm hj with ⟨e1, _⟩ | ⟨e1, hj'⟩
  ·subst e1; rw [hnone] at hb; cases hb
  ·exact ⟨e1, hj', by rw [← hβ j e1]; exact hb⟩
 refine ⟨⟨fun j x hx => ?_, fun j k b hj hk hjb hkb => ?_, fun j b hj hjb => ?_, hh.bound, fun j b hj hjb => ?_, fun j b hj hjb => ?_, hh.base⟩, ⟨rfl, rfl, rfl, Nat.le_refl _, fun _ _ _ => rfl, fun _ h => h, fun _ h => .inl h, fun j b hj hjb => ?_, rfl⟩⟩
 ·simp only [dq] at hx
  by_cases e1 : j = n
  ·rw [if_pos e1] at hx
   injection hx with hx
   subst hx e1
   refine ⟨.inr rfl, ?_⟩
   rw [hβn]
   refine ⟨rfl, hsz, [], World.ownsRow_nil _ _ _ _, rfl⟩
  ·rw [if_neg e1] at hx
   obtain ⟨h1, h2⟩ := hh.obj j x hx
   refine ⟨.inl h1, ?_⟩
   rw [hβ j e1]
   exact h2.mono hext fun _ _ => rfl
 ·obtain ⟨_, h1, h2⟩ := live j b hj hjb
  obtain ⟨_, h3, h4⟩ := live k b hk hkb
  exact hh.inj j k b h1 h3 h2 h4
 ·obtain ⟨_, h1, h2⟩ := live j b hj hjb
  exact hh.apart j b h1 h2
 ·obtain ⟨_, h1, h2⟩ := live j b hj hjb
  exact hh.size j b h1 h2
 ·obtain ⟨_, h1, h2⟩ := live j b hj hjb
  exact hh.low j b h1 h2
 ·obtain ⟨_, h1, h2⟩ := live j b hj hjb
  exact .inr ⟨j, h1, h2⟩
theorem qd5 {c : Cx} {h : HP} (hh : HR c h) {i : Nat} {o o' : AO} (hi : h i = some o) (hl : dz o = true) (ho : OR c o' (c.β i)) :
  HR c (dq h [(i, o')]) ∧ Fr c h c (dq h [(i, o')]) := by
 have live : ∀ j, Live (dq h [(i, o')]) j → Live h j := by
  intro j hj
  rcases dm hj with ⟨e1, _⟩ | ⟨e1, hj'⟩
  ·subst e1; exact ⟨o, hi, hl⟩
  ·exact hj'
 refine ⟨⟨fun j x hx => ?_, fun j k b hj hk hjb hkb => hh.inj j k b (live j hj) (live k hk) hjb hkb, fun j b hj hjb => hh.apart j b (live j hj) hjb, hh.bound, fun j b hj hjb => hh.size j b (live j hj) hjb, fun j b hj hjb => hh.low j b (live j hj) hjb, hh.base⟩,
  ⟨rfl, rfl, rfl, Nat.le_refl _, fun _ _ _ => rfl, fun _ h => h, fun _ h => .inl h, fun j b hj hjb => .inr ⟨j, live j hj, hjb⟩, rfl⟩⟩
 simp only [dq] at hx
 by_cases e1 : j = i
 ·rw [if_pos e1] at hx
  injection hx with hx
  subst hx e1
  exact ⟨(hh.obj j o hi).1, ho⟩
 ·rw [if_neg e1] at hx
  exact hh.obj j x hx
theorem Vs.qko {c : Cx} : ∀ {cs : List AV} {C : List Value} (i : Nat) (x : AV), Vs c cs C → (∀ u, C[i]? = some u → V c x u) → Vs c (cs.set i x) C
 | [], C, i, x, h, _ => h
 | y :: r, C, 0, x, h, hx => by
  simp only [Vs, List.set_cons_zero] at h ⊢
  obtain ⟨u, us, rfl, h1, h2⟩ := h
  exact ⟨u, us, rfl, hx u rfl, h2⟩
 | y :: r, C, i + 1, x, h, hx => by
  simp only [Vs, List.set_cons_succ] at h ⊢
  obtain ⟨u, us, rfl, h1, h2⟩ := h
  exact ⟨u, us, rfl, h1, Vs.qko i x h2 fun v hv => hx v (by simpa using hv)⟩
theorem wz {P : Program} {nt n0 : Nat} (e : Nat) (s : St) (x : Nat × Option Nat) : ∀ D c a, SR nt D s c a → ∃ c', c'.w = c.w ∧ SR nt D (wy P e s x) c' a ∧ Kept n0 c (bg s.hp) c' (bg (wy P e s x).hp) := by
 intro D c a hs
 have same : ∀ s', s' = s → ∃ c', c'.w = c.w ∧ SR nt D s' c' a ∧ Kept n0 c (bg s.hp) c' (bg s'.hp) := fun s' e => ⟨c, rfl, e ▸ hs, by rw [e]; exact Kept.refl n0 c _⟩
 have hnb : ¬ c.born s.hp.length := fun h => by have := (hs.hp.born _).1 h; omega
 have hpush : ∀ (h : List AO) (o : AO), bg (h ++ [o]) = dq (bg h) [(h.length, o)] := by
  intro h o
  have := (dr [(h.length, o)] h (by simp [qcf, zo])).1
  rw [← this]
  simp [dg, zo]
 obtain ⟨t, cell⟩ := x
 cases cell with
 | none =>
  unfold wy
  split
  ·rename_i heq
   injection heq with e1 e2
   subst e1
   split
   ·rename_i hv
    split
    ·rename_i sz hsz
     split
     ·rename_i hpos
      obtain ⟨k1, k2⟩ := qex hs.hp.hr hnb (e := e) (sz := sz) (du hpos)
      refine ⟨jz c s.hp.length sz, rfl, ⟨fun u => ?_, ⟨by rw [hpush]; exact k1, fun i => ?_⟩, hs.size, hs.defers⟩, Kept.m7 (pr hnb sz) (by rw [hpush]; exact k2)⟩
      ·rw [b6]
       split
       ·rename_i et
        subst et
        have h1 := hs.sl t
        rw [hv] at h1
        have h2 := j6 h1
        rw [h2]
        exact ⟨.inr rfl, none, 0, 0, sz, rfl, if_pos rfl⟩
       ·exact V.mono (pr hnb sz) _ _ (hs.sl u)
      ·simp only [jz, List.length_append, List.length_singleton]
       rw [hs.hp.born i]
       omega
     ·exact same _ rfl
    ·exact same _ rfl
   ·exact same _ rfl
  ·rename_i heq; cases heq
 | some k =>
  unfold wy
  split
  ·rename_i heq; cases heq
  ·rename_i heq
   injection heq with e1 e2
   injection e2 with e2
   subst e1 e2
   split
   ·rename_i id off hv
    split
    ·rename_i cs hbox
     split
     ·rename_i hc
      split
      ·rename_i sz hsz
       split
       ·rename_i hpos
        have hid : bg s.hp id = some (.box cs) := by rw [← hbox]; exact gl (by rw [hbox]; simp)
        have hidlt : id < s.hp.length := (List.getElem?_eq_some_iff.1 hid).1
        obtain ⟨k1, k2⟩ := qex hs.hp.hr hnb (e := e) (sz := sz) (du hpos)
        have hext := pr hnb sz
        have hne : id ≠ s.hp.length := by omega
        have hid' : dq (bg s.hp) [(s.hp.length, .row e sz [])] id = some (.box cs) := by
         simp only [dq]
         rw [if_neg hne]; exact hid
        obtain ⟨k3, k4⟩ := qd5 k1 hid' rfl (o' := .box (cs.set k (.row s.hp.length))) (by
         have := (k1.obj id _ hid').2
         cases hl : (jz c s.hp.length sz).β id with
         | none => rw [hl] at this; simp only [OR] at this
         | rowv _ _ => rw [hl] at this; simp only [OR] at this
         | blk b =>
          rw [hl] at this
          simp only [OR] at this ⊢
          obtain ⟨C, ty, h1, h2, h3⟩ := this
          refine ⟨C, ty, h1, Vs.qko k _ h2 fun u hu => ?_, h3⟩
          obtain ⟨u', h4, h5⟩ := h2.get k _ hc
          rw [hu] at h4
          injection h4 with h4
          subst h4
          have := j6 h5
          rw [this]
          exact ⟨.inr rfl, none, 0, 0, sz, rfl, if_pos rfl⟩)
        have hheap : bg (yy s.hp id (.box (cs.set k (.row s.hp.length))) ++ [.row e sz []]) = dq (dq (bg s.hp) [(s.hp.length, .row e sz [])]) [(id, .box (cs.set k (.row s.hp.length)))] := by
         rw [hpush, er]
         funext j
         simp only [dq, bg, po s.hp id _ j hidlt]
         by_cases ej : j = s.hp.length
         ·rw [if_pos ej, if_neg (by omega), if_pos ej]
         ·rw [if_neg ej]
          split
          ·rfl
          ·rfl
        refine ⟨jz c s.hp.length sz, rfl, ⟨fun u => V.mono hext _ _ (hs.sl u), ⟨by rw [hheap]; exact k3, fun i => ?_⟩, hs.size, hs.defers⟩, Kept.m7 hext (by rw [hheap]; exact k2.trans k4)⟩
        simp only [jz, List.length_append, List.length_singleton, er]
        rw [hs.hp.born i]
        omega
       ·exact same _ rfl
      ·exact same _ rfl
     ·exact same _ rfl
    ·exact same _ rfl
   ·exact same _ rfl
theorem nh {P : Program} {nt n0 : Nat} : ∀ (l : List (Nat × (Nat × Option Nat))) (s : St) D c a, SR nt D s c a → ∃ c', c'.w = c.w ∧ SR nt D (rj P l s) c' a ∧ Kept n0 c (bg s.hp) c' (bg (rj P l s).hp)
 | [], s, D, c, a, hs => ⟨c, rfl, hs, Kept.refl n0 c _⟩
 | (e, x) :: r, s, D, c, a, hs => by
  obtain ⟨c1, h1, h2, h3⟩ := wz (P := P) (n0 := n0) e s x D c a hs
  obtain ⟨c2, h4, h5, h6⟩ := nh r _ D c1 a h2
  exact ⟨c2, h4.trans h1, h5, h3.trans h6⟩
theorem nx {nt : Nat} {D : List Deferred} {s : St} {c : Cx} {a : Act} (h : SR nt D s c a) (l : List Nat) : SR nt D { s with sl := gp s.sl l } c a :=
 ⟨qah h.sl l, h.hp, h.size, h.defers⟩
theorem sy {env : Env} {b : Nat} {e : Ex} {s : St} {K : St → Prop} (h : norm env b e s K) : ∃ s', K s' ∧ ∀ D c a, SR env.nt D s c a → ∃ c', c'.w = c.w ∧ SR env.nt D s' c' a ∧ Kept env.n0 c (bg s.hp) c' (bg s'.hp) := by
 unfold norm at h
 split at h
 ·obtain ⟨s', h1, h2⟩ := gk (nt := env.nt) h
  refine ⟨s', h1, fun D c a hs => ?_⟩
  obtain ⟨c1, h3, h4, h5⟩ := nh (P := env.P) (n0 := env.n0) (env.thaw b) s D c a hs
  obtain ⟨c2, h6, h7, h8⟩ := h2 D c1 a (nx h4 _)
  exact ⟨c2, h6.trans h3, h7, h5.trans h8⟩
 ·obtain ⟨s', h1, h2⟩ := gk (nt := env.nt) h
  exact ⟨s', h1, fun D c a hs => h2 D c a (nx hs _)⟩
 ·obtain ⟨s', h1, h2⟩ := gk (nt := env.nt) h
  exact ⟨s', h1, fun D c a hs => h2 D c a (nx hs _)⟩
 ·exact h.elim
theorem xa.mono {D : List Deferred} {env : Env} {s' : St} {ex : Ex} {c0 c1 : Cx} {h0 h1 : HP} (hk : Kept env.n0 c0 h0 c1 h1) {e : Exit} {a : Act} {w : World} (h : xa D env s' ex c1 h1 e a w) : xa D env s' ex c0 h0 e a w := by
 obtain ⟨h2, c', h3, h4, h5⟩ := h
 exact ⟨h2, c', h3, h4, hk.trans h5⟩
theorem qai {nt : Nat} {D : List Deferred} {s : St} {c : Cx} {a : Act} (h : SR nt D s c a) (x : Operand) (b : Bool) (hx : j1 s.sl x = .p (.bool b)) : SR nt D (known x b s) c a := by
 cases x with
 | tmp t =>
  refine ⟨fun u => ?_, h.hp, h.size, h.defers⟩
  show V c (bj ((t, _) :: s.sl) u) _
  rw [b6]
  split
  ·rename_i e
   subst e
   have := h.sl t
   have hx' : bj s.sl t = .p (.bool b) := hx
   rw [hx'] at this
   exact this
  ·exact h.sl u
 | _ => exact h
theorem qaj (x : Operand) (b : Bool) (s : St) : (known x b s).hp = s.hp := by cases x <;> rfl
theorem ei {env : Env} {plain : bf} (hE : j0 env plain) (hm : env.P.follows .mixedOrders = true) : ∀ (code : Code) (b : Nat), (∀ p ∈ aj b code, dt env p.2 (env.L p.1)) → (∀ c ∈ av code, oe env c env.G) →
  ∀ (s : St) (K : Ex → St → Prop), exec env plain b code s K → ∃ ex s', K ex s' ∧ qnf env code s ex s' := by
 intro code
 induction code with
 | skip =>
  intro b _ _ s K h
  simp only [exec] at h
  exact ⟨.normal, s, h, fun D c a hs => wp_skip ⟨rfl, c, rfl, hs, Kept.refl _ _ _⟩⟩
 | region id ops draw =>
  intro b _ _ s K h
  cases draw with
  | false =>
   simp only [exec] at h
   obtain ⟨s', h1, h2⟩ := ku hE ops env.n0 ops.toList [] rfl s _ h
   refine ⟨.normal, s', h1, fun D c a hs => wp_region ?_⟩
   have := h2 D c a (xa D env s' .normal c (bg s.hp)) hs fun c' a' hs' hk => ⟨rfl, c', rfl, hs', hk⟩
   rw [List.range_eq_range', ← Array.length_toList]
   exact this
  | true =>
   simp only [exec] at h
   obtain ⟨s', h1, h2⟩ := wi hE hm id ops env.n0 h
   exact ⟨.normal, s', h1, fun D c a hs => h2 D c a _ hs fun c' a' hs' hk => ⟨rfl, c', rfl, hs', hk⟩⟩
 | seq x y ihx ihy =>
  intro b hl hg s K h
  simp only [exec] at h
  cases hch : ts x y with
  | some ops =>
   rw [hch] at h
   simp only at h
   have hxy : ∃ id q cA cB, x = .region id ops true ∧ y = .cond (.tmp q) cA cB ∧ ph ops q = true := by
    unfold ts at hch
    split at hch
    ·split at hch
     ·rename_i hc
      injection hch with hch
      subst hch
      exact ⟨_, _, _, _, rfl, rfl, hc⟩
     ·cases hch
    ·cases hch
   obtain ⟨id, q, cA, cB, ex, ey, hcho⟩ := hxy
   have ihy' := ihy b (fun p hp => hl p (by simp only [aj, List.mem_append]; exact .inr hp)) (fun p hp => hg p (by simp only [av, List.mem_append]; exact .inr hp))
   obtain ⟨s1, k1, r1⟩ := jo hE ops env.n0 _ s _ h
   obtain ⟨e1, z1, k2, g1⟩ := ihy' s1 _ k1
   obtain ⟨y1, k3, c1⟩ := gk (nt := env.nt) k2
   obtain ⟨s2, k4, r2⟩ := jo hE ops env.n0 _ s _ k3
   obtain ⟨e2, z2, k5, g2⟩ := ihy' s2 _ k4
   obtain ⟨y2, k6, c2⟩ := gk (nt := env.nt) k5
   split at k6
   ·rename_i hsame
    simp only [Bool.and_eq_true] at hsame
    have e12 := qec hsame.1
    subst e12
    refine ⟨e1, ⟨ef y1.sl y2.sl, y1.hp⟩, k6, fun D c a hs => ?_⟩
    rw [ex]
    have way1 : ∀ (c0 : Cx) (a : Act), SR env.nt D s c0 a → Kept env.n0 c (bg s.hp) c0 (bg s.hp) → wpOps env.P ops (Exit.then (y.wp env.P (xa D env ⟨ef y1.sl y2.sl, y1.hp⟩ e1 c (bg s.hp))) (xa D env ⟨ef y1.sl y2.sl, y1.hp⟩ e1 c (bg s.hp))) [0, 1, 2, 3] a c0.w := fun c0 a hs0 hk0 => by
     refine r1 D c0 a _ hs0 fun c' a' hs' hk => ?_
     show y.wp env.P _ a' c'.w
     refine wp_mono (g1 D c' a' hs') fun e a2 w2 he => ?_
     obtain ⟨q1, c3, rfl, hs3, hk3⟩ := he
     obtain ⟨c4, q2, hs4, hk4⟩ := c1 D c3 a2 (nx hs3 _)
     exact ⟨q1, c4, q2, qdl _ hs4, ((hk0.trans hk).trans hk3).trans hk4⟩
    have way2 : ∀ (c0 : Cx) (a : Act), SR env.nt D s c0 a → Kept env.n0 c (bg s.hp) c0 (bg s.hp) → wpOps env.P ops (Exit.then (y.wp env.P (xa D env ⟨ef y1.sl y2.sl, y1.hp⟩ e1 c (bg s.hp))) (xa D env ⟨ef y1.sl y2.sl, y1.hp⟩ e1 c (bg s.hp))) [0, 2, 1, 3] a c0.w := fun c0 a hs0 hk0 => by
     refine r2 D c0 a _ hs0 fun c' a' hs' hk => ?_
     show y.wp env.P _ a' c'.w
     refine wp_mono (g2 D c' a' hs') fun e a2 w2 he => ?_
     obtain ⟨q1, c3, rfl, hs3, hk3⟩ := he
     obtain ⟨c4, q2, hs4, hk4⟩ := c2 D c3 a2 (nx hs3 _)
     obtain ⟨q3, q4⟩ := qjj hsame.2 hs4 (((hk0.trans hk).trans hk3).trans hk4)
     exact ⟨q1, c4, q2, q3, q4⟩
    have hsd : SR env.nt D s c.draw a := ⟨fun t => V.mono (mr c) _ _ (hs.sl t), ⟨qc5 hs.hp.hr, hs.hp.born⟩, hs.size, hs.defers⟩
    have hkd : Kept env.n0 c (bg s.hp) c.draw (bg s.hp) := Kept.m7 (mr c) (qc4 c _)
    exact wp_seq (wp_region_any hm (qcz hcho (way1 c.draw a hsd hkd) (way2 c.draw a hsd hkd)))
   ·exact k6.elim
  | none =>
  rw [hch] at h
  simp only at h
  obtain ⟨ex, s1, h1, h2⟩ := ihx b (fun p hp => hl p (by simp only [aj, List.mem_append]; exact .inl hp)) (fun p hp => hg p (by simp only [av, List.mem_append]; exact .inl hp)) s _ h
  cases ex with
  | normal =>
   obtain ⟨ex2, s2, h3, h4⟩ := ihy b (fun p hp => hl p (by simp only [aj, List.mem_append]; exact .inr hp)) (fun p hp => hg p (by simp only [av, List.mem_append]; exact .inr hp)) s1 K h1
   refine ⟨ex2, s2, h3, fun D c a hs => wp_seq (wp_mono (h2 D c a hs) fun e a' w' he => ?_)⟩
   obtain ⟨rfl, c', rfl, hs', hk⟩ := he
   exact wp_mono (h4 D c' a' hs') fun _ _ _ hp => hp.mono hk
  | exit id =>
   refine ⟨.exit id, s1, h1, fun D c a hs => wp_seq (wp_mono (h2 D c a hs) fun e a' w' he => ?_)⟩
   obtain ⟨e1, r⟩ := he
   subst e1
   exact ⟨rfl, r⟩
  | ret =>
   refine ⟨.ret, s1, h1, fun D c a hs => wp_seq (wp_mono (h2 D c a hs) fun e a' w' he => ?_)⟩
   obtain ⟨e1, r⟩ := he
   subst e1
   exact ⟨rfl, r⟩
  | goto l =>
   refine ⟨.goto l, s1, h1, fun D c a hs => wp_seq (wp_mono (h2 D c a hs) fun e a' w' he => ?_)⟩
   obtain ⟨e1, r⟩ := he
   subst e1
   exact ⟨rfl, r⟩
 | cond c x y ihx ihy =>
  intro b hl hg s K h
  simp only [exec] at h
  obtain ⟨t, ht, h1⟩ := j8 h
  cases t with
  | true =>
   obtain ⟨ex, s', h2, h3⟩ := ihx b (fun p hp => hl p (by simp only [aj, List.mem_append]; exact .inl hp)) (fun p hp => hg p (by simp only [av, List.mem_append]; exact .inl hp)) _ K h1
   refine ⟨ex, s', h2, fun D cx a hs => ?_⟩
   have hb := mh (by have := ka hs.sl c; rw [ht] at this; exact this)
   have := h3 D cx a (qai hs c true ht)
   rw [qaj] at this
   exact wp_cond_true hb this
  | false =>
   obtain ⟨ex, s', h2, h3⟩ := ihy b (fun p hp => hl p (by simp only [aj, List.mem_append]; exact .inr hp)) (fun p hp => hg p (by simp only [av, List.mem_append]; exact .inr hp)) _ K h1
   refine ⟨ex, s', h2, fun D cx a hs => ?_⟩
   have hb := mh (by have := ka hs.sl c; rw [ht] at this; exact this)
   have := h3 D cx a (qai hs c false ht)
   rw [qaj] at this
   exact wp_cond_false hb this
 | block id c ih =>
  intro b hl hg s K h
  simp only [exec] at h
  obtain ⟨ex, s', h1, h2⟩ := ih id (fun p hp => hl p (by simpa only [aj] using hp)) (fun p hp => hg p (by simpa only [av] using hp)) s _ h
  cases ex with
  | normal =>
   refine ⟨.normal, s', h1, fun D cx a hs => wp_block (wp_mono (h2 D cx a hs) fun e a' w' he => ?_)⟩
   obtain ⟨e1, r⟩ := he
   subst e1
   exact ⟨rfl, r⟩
  | ret =>
   refine ⟨.ret, s', h1, fun D cx a hs => wp_block (wp_mono (h2 D cx a hs) fun e a' w' he => ?_)⟩
   obtain ⟨e1, r⟩ := he
   subst e1
   exact ⟨rfl, r⟩
  | goto l =>
   refine ⟨.goto l, s', h1, fun D cx a hs => wp_block (wp_mono (h2 D cx a hs) fun e a' w' he => ?_)⟩
   obtain ⟨e1, r⟩ := he
   subst e1
   exact ⟨rfl, r⟩
  | exit id' =>
   simp only at h1
   split at h1
   ·rename_i hb
    have := Nat.eq_of_beq_eq_true hb
    subst this
    refine ⟨.normal, s', h1, fun D cx a hs => wp_block (wp_mono (h2 D cx a hs) fun e a' w' he => ?_)⟩
    obtain ⟨e1, r⟩ := he
    subst e1
    show Exit.inBlock id' _ (.exit id') a' w'
    simp only [Exit.inBlock, if_true]
    exact ⟨rfl, r⟩
   ·rename_i hb
    have hne : id' ≠ id := fun e => by subst e; simp at hb
    refine ⟨.exit id', s', h1, fun D cx a hs => wp_block (wp_mono (h2 D cx a hs) fun e a' w' he => ?_)⟩
    obtain ⟨e1, r⟩ := he
    subst e1
    show Exit.inBlock id _ (.exit id') a' w'
    simp only [Exit.inBlock, if_neg hne]
    exact ⟨rfl, r⟩
 | loop c ih =>
  intro b hl hg s K h
  simp only [exec] at h
  obtain ⟨s1, h1, h2⟩ := sy h
  obtain ⟨n, ex, s', h3, h4⟩ := hl (b, c) (by simp [aj]) s1 K h1
  refine ⟨ex, s', h3, fun D cx a hs => wp_loop_rounds n ?_⟩
  obtain ⟨c', h5, h6, h7⟩ := h2 D cx a hs
  have := h4 D c' a h6
  rw [h5] at this
  exact jm (fun _ _ _ hp => hp.mono h7) this
 | exit id =>
  intro b _ _ s K h
  simp only [exec] at h
  exact ⟨.exit id, s, h, fun D c a hs => wp_exit ⟨rfl, c, rfl, hs, Kept.refl _ _ _⟩⟩
 | ret =>
  intro b _ _ s K h
  simp only [exec] at h
  exact ⟨.ret, s, h, fun D c a hs => wp_ret ⟨rfl, c, rfl, hs, Kept.refl _ _ _⟩⟩
 | label l =>
  intro b _ _ s K h
  simp only [exec] at h
  exact ⟨.normal, s, h, fun D c a hs => wp_label ⟨rfl, c, rfl, hs, Kept.refl _ _ _⟩⟩
 | goto l =>
  intro b _ _ s K h
  simp only [exec] at h
  exact ⟨.goto l, s, h, fun D c a hs => wp_goto ⟨rfl, c, rfl, hs, Kept.refl _ _ _⟩⟩
 | scope c ih =>
  intro b hl hg s K h
  simp only [exec] at h
  obtain ⟨ex, s1, h1, h2⟩ := ih b (fun p hp => hl p (by simpa only [aj] using hp)) (fun p hp => hg p (by simp only [av]; exact List.mem_cons_of_mem _ hp)) s _ h
  have nog : (∀ l, ex ≠ .goto l) → K ex s1 → ∃ ex s', K ex s' ∧ qnf env (.scope c) s ex s' := fun hne hk => ⟨ex, s1, hk, fun D cx a hs => l8 (wp_mono (h2 D cx a hs) fun e a' w' he => by
   obtain ⟨e1, r⟩ := he
   cases ex with
   | goto l => exact absurd rfl (hne l)
   | _ => subst e1; exact ⟨rfl, r⟩)⟩
  cases ex with
  | goto l =>
   obtain ⟨n, ex2, s2, h3, h4⟩ := hg c (by simp [av]) l s1 K h1
   refine ⟨ex2, s2, h3, fun D cx a hs => l8 (wp_mono (h2 D cx a hs) fun e a' w' he => ?_)⟩
   obtain ⟨e1, c', rfl, hs', hk⟩ := he
   subst e1
   exact ⟨n, nw (fun _ _ _ hp => hp.mono hk) (h4 D c' a' hs')⟩
  | normal => exact nog (fun _ e => by cases e) h1
  | exit id => exact nog (fun _ e => by cases e) h1
  | ret => exact nog (fun _ e => by cases e) h1
 | _ =>
  intro b _ _ s K h
  simp only [exec] at h
theorem yr {env : Env} {plain : bf} (hE : j0 env plain) (hm : env.P.follows .mixedOrders = true) {b : Nat} {c : Code} (hl : ∀ p ∈ aj b c, dt env p.2 (env.L p.1)) {R : bp} (hR : dt env c R) (hG : ∀ c, oe env c env.G) :
  dt env c (bm env plain b c R) := by
 intro s K h
 unfold bm at h
 obtain ⟨ex, s1, h1, h2⟩ := ei hE hm c b hl (fun c _ => hG c) s _ h
 obtain ⟨s2, h3, h4⟩ := sy h1
 cases ex with
 | normal =>
  obtain ⟨n, ex2, s3, h5, h6⟩ := hR s2 K h3
  refine ⟨n + 1, ex2, s3, h5, fun D cx a hs => ?_⟩
  rw [rounds_succ]
  refine wp_mono (h2 D cx a hs) fun e a' w' he => ?_
  obtain ⟨rfl, c', rfl, hs', hk⟩ := he
  obtain ⟨c2, h7, h8, h9⟩ := h4 D c' a' hs'
  have := h6 D c2 a' h8
  rw [h7] at this
  exact jm (fun _ _ _ hp => (hp.mono h9).mono hk) this
 | exit id =>
  refine ⟨1, .exit id, s2, h3, fun D cx a hs => ?_⟩
  rw [rounds_succ]
  refine wp_mono (h2 D cx a hs) fun e a' w' he => ?_
  obtain ⟨rfl, c', rfl, hs', hk⟩ := he
  obtain ⟨c2, h7, h8, h9⟩ := h4 D c' a' hs'
  exact ⟨rfl, c2, h7, h8, hk.trans h9⟩
 | ret =>
  refine ⟨1, .ret, s2, h3, fun D cx a hs => ?_⟩
  rw [rounds_succ]
  refine wp_mono (h2 D cx a hs) fun e a' w' he => ?_
  obtain ⟨rfl, c', rfl, hs', hk⟩ := he
  obtain ⟨c2, h7, h8, h9⟩ := h4 D c' a' hs'
  exact ⟨rfl, c2, h7, h8, hk.trans h9⟩
 | goto l =>
  refine ⟨1, .goto l, s2, h3, fun D cx a hs => ?_⟩
  rw [rounds_succ]
  refine wp_mono (h2 D cx a hs) fun e a' w' he => ?_
  obtain ⟨rfl, c', rfl, hs', hk⟩ := he
  obtain ⟨c2, h7, h8, h9⟩ := h4 D c' a' hs'
  exact ⟨rfl, c2, h7, h8, hk.trans h9⟩
theorem su {env : Env} {plain : bf} (hE : j0 env plain) (hm : env.P.follows .mixedOrders = true) {b : Nat} {c : Code} (hl : ∀ p ∈ aj b c, dt env p.2 (env.L p.1)) (Q : Nat → bp)
  (h0 : ∀ s K, ¬ Q 0 s K) (h1 : ∀ n s K, Q (n + 1) s K → bm env plain b c (Q n) s K) (hG : ∀ c, oe env c env.G) : ∀ n, dt env c (Q n)
 | 0 => fun s K h => absurd h (h0 s K)
 | n + 1 => fun s K h => yr hE hm hl (su hE hm hl Q h0 h1 hG n) hG s K (h1 n s K h)
end Go.RX
namespace Go.RX
def um (tmps : Array Value) : ResultVar → Sem Value
 | .tmp t => pure (tmps.getD t undef)
 | .cell a t => do loadVar t (← asAddr (tmps.getD a undef))
theorem qbz (fn : Func) (tmps : Array Value) : results fn tmps = (do
  let vs ← fn.results.mapM (um tmps)
  pure (if h : vs.size = 1 then vs[0] else .tuple vs)) := rfl
theorem i0 {env : Env} {s : St} : ∀ (res : List ResultVar) (K : List AV → Prop), jk env s res K → ∃ vs, K vs ∧ ∀ D c a, SR env.nt D s c a →
  ∃ us : List Value, (res.mapM (um a.tmps)).run env.P c.w = .ok us c.w ∧ Vs c vs us
 | [], K, h => ⟨[], h, fun D c a hs => ⟨[], rfl, rfl⟩⟩
 | .tmp t :: r, K, h => by
  obtain ⟨vs, h1, h2⟩ := i0 r _ h
  refine ⟨_, h1, fun D c a hs => ?_⟩
  obtain ⟨us, h3, h4⟩ := h2 D c a hs
  refine ⟨a.tmps.getD t undef :: us, ?_, _, _, rfl, hs.sl t, h4⟩
  simp only [List.mapM_cons, um, Sem.run_bind, Sem.run_pure, Result.andThen_ok]
  rw [h3]
  simp only [Result.andThen_ok]
 | .cell b t :: r, K, h => by
  simp only [jk] at h
  split at h
  ·rename_i agg n id off hshape hb
   obtain ⟨ha, hn, hone⟩ := gv hshape
   split at h
   ·rename_i cs hr
    split at h
    ·rename_i hle
     have hle' : off + n ≤ cs.length := Nat.le_of_ble_eq_true hle
     obtain ⟨vs, h1, h2⟩ := i0 r _ h
     refine ⟨_, h1, fun D c a hs => ?_⟩
     obtain ⟨us, h3, h4⟩ := h2 D c a hs
     have e1 := hs.sl b
     rw [hb] at e1
     simp only [V] at e1
     obtain ⟨hbn, g, h5, h6⟩ := e1
     have h7 := (hs.hp.hr.obj id _ (gl (by rw [hr]; simp))).2
     rw [hr, h5] at h7
     simp only [OR] at h7
     obtain ⟨C, t', h8, h9, h10⟩ := h7
     have h11 : C.size = cs.length := by simpa using h9.length
     have hV : V c (dh agg (cut cs off n)) (qd0 agg ((C.toList.drop off).take n)) := pw ((h9.drop off).take n) (fun u hu => h10 u (List.mem_of_mem_drop (List.mem_of_mem_take hu))) (fun e => by
      have := hone e
      simp [cut]
      omega)
     have hload := oz ha hn (w := c.w) (b := g) (o := off) (es := (C.toList.drop off).take n) (by simp; omega) (fun j hj => by
      rw [cell_of_row c.w g (off + j) C t' (0, 0) h8, List.getElem?_take, if_pos hj, List.getElem?_drop]
      simp) hone
     refine ⟨_ :: us, ?_, _, _, rfl, hV, h4⟩
     simp only [List.mapM_cons, um, Sem.run_bind, h6, show asAddr (.pointer (some ⟨g, off, none⟩)) = pure ⟨g, off, none⟩ from rfl, Sem.run_pure, Result.andThen_ok, hload]
     rw [h3]
     simp only [Result.andThen_ok]
    ·exact h.elim
   ·exact h.elim
  ·exact h.elim
theorem jl {env : Env} {s : St} {fn : Func} {K : List AV → Prop} (h : jk env s fn.results.toList K) : ∃ vs, K vs ∧ ∀ D c a, SR env.nt D s c a →
  ∃ v, (results fn a.tmps).run env.P c.w = .ok v c.w ∧ V c (c8 vs) v := by
 obtain ⟨vs, h1, h2⟩ := i0 _ _ h
 refine ⟨vs, h1, fun D c a hs => ?_⟩
 obtain ⟨us, h3, h4⟩ := h2 D c a hs
 refine ⟨if h : us.toArray.size = 1 then us.toArray[0] else .tuple us.toArray, ?_, ?_⟩
 ·rw [qbz, Array.mapM_eq_mapM_toList]
  simp only [Sem.run_bind, map_eq_pure_bind]
  rw [h3]
  simp only [Result.andThen_ok, Sem.run_pure]
 ·match vs, us, h4 with
  | [], us, h4 =>
   simp only [Vs] at h4
   subst h4
   exact ⟨#[], rfl, rfl⟩
  | [x], us, h4 =>
   simp only [Vs] at h4
   obtain ⟨y, ys, rfl, h5, rfl⟩ := h4
   simpa [c8] using h5
  | x :: x' :: r, us, h4 =>
   have hl := h4.length
   simp at hl
   rw [dif_neg (by simp; omega)]
   exact ⟨us.toArray, rfl, h4⟩
theorem qdc (o : AO) : qce (qce o) = qce o := by cases o <;> rfl
theorem fx : ∀ (rows : List Nat) (h : List AO), (gm h rows).length = h.length
 | [], _ => rfl
 | i :: r, h => by simp only [gm]; rw [fx r, er]
theorem lb : ∀ (rows : List Nat) (h : List AO) (j : Nat), (gm h rows)[j]? = if j ∈ rows then (h[j]?).map qce else h[j]?
 | [], h, j => by simp [gm]
 | i :: r, h, j => by
  simp only [gm]
  rw [lb r]
  have hset : (yy h i (qce (df h i)))[j]? = if j = i then (h[j]?).map qce else h[j]? := by
   by_cases hi : i < h.length
   ·rw [po h i _ j hi]
    split
    ·rename_i e
     subst e
     rw [x6]
     simp [hi]
    ·rfl
   ·have : yy h i (qce (df h i)) = h := by
     clear lb
     generalize qce (df h i) = x
     revert i
     induction h with
     | nil => intro i _; rfl
     | cons o r ih =>
      intro i hi
      cases i with
      | zero => simp at hi
      | succ i => simp only [yy]; rw [ih i (by simpa using hi)]
    rw [this]
    split
    ·rename_i e
     subst e
     simp [hi]
    ·rfl
  rw [hset]
  simp only [List.mem_cons]
  by_cases e : j = i
  ·subst e
   simp only [true_or, if_true]
   split
   ·cases h[j]? <;> simp [qdc]
   ·rfl
  ·simp [e]
def j3 (c : Cx) (h : List AO) (rows : List Nat) : Cx := { c with I := fun b => c.I b ∨ ∃ i ∈ rows, (∃ e sz xs, h[i]? = some (.row e sz xs)) ∧ (c.β i).block = some b }
theorem gn (c : Cx) (h : List AO) (rows : List Nat) : Ext c (j3 c h rows) := ⟨fun _ h => h, fun _ _ => rfl, fun _ h => .inl h, fun _ _ => rfl, rfl⟩
theorem nk {I I' : Bool → Nat → Prop} {w : World} (hI : ∀ m b, I m b → I' m b) {e sz : Nat} {v : Value} {xs : List PV} {cells : List Value} (hsz : 0 < sz) (h : w.ownsRow 0 e sz v xs.length cells) (hr : bn I w sz xs cells)
  (hb : ∀ b, v.ownBlock = some b → (∃ C e, w.heap[b]? = some (.cells C e (0, 0))) → I' true b) : RoC I' w (.arr true xs.length fun j => xs.getD j .nilp) [v] := by
 simp only [RoC]
 have h0 := h
 rcases h.2 with ⟨rfl, hn⟩ | ⟨g, cap, cur, rfl, hg, hh, hcap, hmax, hsize, htake⟩
 ·exact ⟨none, 0, by rw [hn], by omega, fun h0 => by omega⟩
 ·refine ⟨_, _, rfl, ⟨hcap, Nat.le_trans hcap hmax⟩, fun _ => ⟨g, 0, sz, rfl, hb g rfl ⟨_, _, hh⟩, hsz, fun _ => Nat.dvd_zero _, fun i hi => ?_⟩⟩
  obtain ⟨es, h1, h2, h3⟩ := hr.at_ i hi
  refine ⟨es, h2, RoC.mono hI (fun _ _ _ => rfl) _ _ h1, fun j hj => ?_⟩
  rw [← h3 j hj, Nat.zero_add]
  refine ov h0 rfl _ ?_
  rw [hr.length]
  have := Nat.mul_le_mul_right sz (Nat.succ_le_of_lt hi)
  rw [Nat.succ_mul] at this
  omega
theorem qdd {c : Cx} {h : List AO} (hh : HR c (bg h)) (rows : List Nat) : HR (j3 c h rows) (bg (gm h rows)) ∧ Fr c (bg h) (j3 c h rows) (bg (gm h rows)) := by
 have live : ∀ j, Live (bg (gm h rows)) j → Live (bg h) j ∧ ((∃ e sz xs, h[j]? = some (.row e sz xs)) → j ∉ rows) := by
  rintro j ⟨o, h1, h2⟩
  simp only [bg, lb] at h1
  split at h1
  ·rename_i hm
   cases hj : h[j]? with
   | none => rw [hj] at h1; simp at h1
   | some x =>
    rw [hj] at h1
    simp at h1
    subst h1
    refine ⟨⟨x, hj, by cases x <;> simp_all [qce, dz]⟩, ?_⟩
    rintro ⟨e, sz, xs, h3⟩
    injection h3 with h3
    subst h3
    simp [qce, dz] at h2
  ·rename_i hm
   exact ⟨⟨o, h1, h2⟩, fun _ => hm⟩
 refine ⟨⟨fun j o ho => ?_, fun i j b hi hj hib hjb => hh.inj i j b (live i hi).1 (live j hj).1 hib hjb, fun i b hi hib hI => ?_, fun b hb => ?_, fun i b hi hib => hh.size i b (live i hi).1 hib, fun i b hi hib => hh.low i b (live i hi).1 hib, hh.base⟩,
  ⟨rfl, rfl, rfl, Nat.le_refl _, fun _ _ _ => rfl, fun _ h => .inl h, fun b hb => ?_, fun i b hi hib => .inr ⟨i, (live i hi).1, hib⟩, rfl⟩⟩
 ·simp only [bg, lb] at ho
  split at ho
  ·rename_i hm
   cases hj : h[j]? with
   | none => rw [hj] at ho; simp at ho
   | some x =>
    rw [hj] at ho
    simp at ho
    subst ho
    obtain ⟨h1, h2⟩ := hh.obj j x hj
    refine ⟨h1, ?_⟩
    show OR _ _ (c.β j)
    cases x with
    | row e sz xs =>
     cases hl : c.β j with
     | none => rw [hl] at h2; simp only [OR] at h2
     | blk _ => rw [hl] at h2; simp only [OR] at h2
     | rowv v sz' =>
      rw [hl] at h2
      simp only [OR, qce] at h2 ⊢
      obtain ⟨_, hsz, cells, h3, h4⟩ := h2
      exact nk (I' := (j3 c h rows).J) (gn c h rows).J hsz h3 h4 fun b hb hc => ⟨.inr ⟨j, hm, ⟨e, sz, xs, hj⟩, by rw [hl]; exact hb⟩, fun _ => ⟨hh.low j b ⟨_, hj, rfl⟩ (by rw [hl]; exact hb), hc⟩⟩
    | _ => exact h2.mono (gn c h rows) fun _ _ => rfl
  ·obtain ⟨h1, h2⟩ := hh.obj j o ho
   exact ⟨h1, h2.mono (gn c h rows) fun _ _ => rfl⟩
 ·rcases hI with hI | ⟨k, hk, ⟨e, sz, xs, h1⟩, h2⟩
  ·exact hh.apart i b (live i hi).1 hib hI
  ·have := hh.inj i k b (live i hi).1 ⟨_, h1, rfl⟩ hib h2
   subst this
   exact (live i hi).2 ⟨e, sz, xs, h1⟩ hk
 ·rcases hb with hb | ⟨k, hk, ⟨e, sz, xs, h1⟩, h2⟩
  ·exact hh.bound b hb
  ·exact hh.size k b ⟨_, h1, rfl⟩ h2
 ·rcases hb with hb | ⟨k, hk, ⟨e, sz, xs, h1⟩, h2⟩
  ·exact .inl hb
  ·exact .inr (.inr ⟨k, ⟨_, h1, rfl⟩, h2⟩)
theorem qfe {c : Cx} {h : List AO} (hh : HR c (bg h)) {rows : List Nat} {x : AV} {u : Value} (hx : V c x u) (hr : ∀ i ∈ jn x, i ∈ rows) : V (j3 c h rows) (fz1 (df h) x) u := by
 have base := V.mono (gn c h rows) _ _ hx
 cases x with
 | row i =>
  have him : i ∈ rows := hr i (by simp [jn])
  simp only [fz1, icy]
  simp only [V] at hx
  obtain ⟨hb, a, n, cp, sz, rfl, h1⟩ := hx
  cases hi : df h i with
  | row e sz' xs =>
   simp only
   have hi' : bg h i = some (.row e sz' xs) := by rw [← hi]; exact gl (by rw [hi]; simp)
   have h2 := (hh.obj i _ hi').2
   rw [h1] at h2
   simp only [OR] at h2
   obtain ⟨_, hsz, cells, h3, h4⟩ := h2
   simp only [V]
   exact nk (I' := (j3 c h rows).J) (gn c h rows).J hsz h3 h4 fun b hb hc => ⟨.inr ⟨i, him, ⟨e, sz', xs, hi'⟩, by rw [h1]; exact hb⟩, fun _ => ⟨hh.low i b ⟨_, hi', rfl⟩ (by rw [h1]; exact hb), hc⟩⟩
  | ice sz' xs =>
   simp only
   have hi' : bg h i = some (.ice sz' xs) := by rw [← hi]; exact gl (by rw [hi]; simp)
   have h2 := (hh.obj i _ hi').2
   rw [h1] at h2
   simp only [OR] at h2
   simp only [V]
   exact RoC.mono (gn c h rows).J (gn c h rows).jb _ _ h2
  | _ => exact base
 | _ => exact base
theorem ow (x : AV) : jn (o7 x) = jn x := by
 cases x with
 | p y => cases y <;> rfl
 | _ => rfl
theorem qhm {c : Cx} {h : List AO} (hh : HR c (bg h)) {rows : List Nat} : ∀ {xs : List AV} {us : List Value}, Vs c xs us → (∀ i ∈ xs.flatMap jn, i ∈ rows) → Vs (j3 c h rows) (xs.map fun x => fz1 (df h) (o7 x)) us
 | [], _, hv, _ => hv
 | x :: xs, us, hv, hr => by
  simp only [Vs, List.map_cons] at hv ⊢
  obtain ⟨y, ys, rfl, h1, h2⟩ := hv
  simp only [List.flatMap_cons, List.mem_append] at hr
  refine ⟨y, ys, rfl, qfe hh (tj h1) (fun i hi => hr i (.inl ?_)), qhm hh h2 fun i hi => hr i (.inr hi)⟩
  rwa [ow] at hi
theorem vn (rd : Nat → AO) (c : AV) (h : ∀ cs, c ≠ .agg cs) : rm c = o7 c := by
 cases c <;> first | rfl | exact absurd rfl (h _)
theorem yn {c : Cx} {x : AV} {u : Value} (hv : V c x u) (h1 : u.oneCell' = true) : ∀ cs, x ≠ .agg cs := by
 intro cs e
 subst e
 simp only [V] at hv
 obtain ⟨C, rfl, _⟩ := hv
 simp [Value.oneCell'] at h1
theorem qhk {c : Cx} {h : List AO} (hh : HR c (bg h)) {rows : List Nat} {x : AV} {u : Value} (hx : V c x u) (hr : ∀ i ∈ rowsOf x, i ∈ rows) : V (j3 c h rows) (qlx (df h) x) u := by
 have scalar : (∀ cs, x ≠ .agg cs) → (∀ i ∈ jn x, i ∈ rows) → V (j3 c h rows) (fz1 (df h) (rm x)) u := by
  intro ha hr
  rw [vn (df h) x ha]
  exact qfe hh (tj hx) (fun i hi => hr i (by rwa [ow] at hi))
 cases x with
 | agg cs =>
  simp only [V] at hx
  obtain ⟨C, rfl, h1, h2⟩ := hx
  simp only [qlx, V]
  refine ⟨C, rfl, ?_, h2⟩
  have hmap : ∀ {xs : List AV} {us : List Value}, Vs c xs us → (∀ u ∈ us, u.oneCell' = true) → (xs.map fun x => fz1 (df h) (rm x)) = xs.map fun x => fz1 (df h) (o7 x) := by
   intro xs
   induction xs with
   | nil => intros; rfl
   | cons y ys ih =>
    intro us hv ho
    simp only [Vs] at hv
    obtain ⟨z, zs, rfl, h3, h4⟩ := hv
    simp only [List.map_cons]
    rw [ih h4 (fun u hu => ho u (List.mem_cons_of_mem _ hu)), vn (df h) y (yn h3 (ho z List.mem_cons_self))]
  rw [hmap h1 h2]
  exact qhm hh h1 hr
 | _ => exact scalar (by intro cs e; cases e) hr
theorem qis {c : Cx} {h : List AO} (hh : HR c (bg h)) {x : AV} {u : Value} (hx : V c x u) : V (j3 c h (i1 x)) (qgd (df h) x) u := by
 cases x with
 | tup vs =>
  simp only [V] at hx
  obtain ⟨C, rfl, h1⟩ := hx
  simp only [qgd, V]
  refine ⟨C, rfl, ?_⟩
  have : ∀ {xs : List AV} {us : List Value} (rows : List Nat), Vs c xs us → (∀ i ∈ xs.flatMap rowsOf, i ∈ rows) → Vs (j3 c h rows) (xs.map (qlx (df h))) us := by
   intro xs
   induction xs with
   | nil => intro us rows hv _; exact hv
   | cons y ys ih =>
    intro us rows hv hr
    simp only [Vs, List.map_cons] at hv ⊢
    obtain ⟨z, zs, rfl, h3, h4⟩ := hv
    simp only [List.flatMap_cons, List.mem_append] at hr
    exact ⟨z, zs, rfl, qhk hh h3 (fun i hi => hr i (.inl hi)), ih rows h4 fun i hi => hr i (.inr hi)⟩
  exact this _ h1 fun i hi => hi
 | _ => exact qhk hh hx fun i hi => hi
theorem pn {env : Env} {fn : Func} {s : St} {K : AV → List AO → Prop} {v' : AV} {hh : List AO}
  (frozen : ∀ D c a, SR env.nt D s c a → ∃ v c1, c1.w = c.w ∧ (results fn a.tmps).run env.P c.w = .ok v c.w ∧ V c1 v' v ∧ HRl c1 hh ∧ Kept env.n0 c (bg s.hp) c1 (bg hh))
  (h : match nodup (reach (df hh) 1000 (jw (df hh) (upto env.n0) ++ j4 v') (upto env.n0)) && ga env.n0 (reach (df hh) 1000 (jw (df hh) (upto env.n0) ++ j4 v') (upto env.n0)) 0 && fw hh.length (reach (df hh) 1000 (jw (df hh) (upto env.n0) ++ j4 v') (upto env.n0)) with
   | true => K (gr (place (reach (df hh) 1000 (jw (df hh) (upto env.n0) ++ j4 v') (upto env.n0))) v') (dy (place (reach (df hh) 1000 (jw (df hh) (upto env.n0) ++ j4 v') (upto env.n0))) (pick hh (reach (df hh) 1000 (jw (df hh) (upto env.n0) ++ j4 v') (upto env.n0))))
   | false => False) :
  ∃ r h', K r h' ∧ ∀ D c a, SR env.nt D s c a → ∃ v c', c'.w = c.w ∧ (results fn a.tmps).run env.P c.w = .ok v c.w ∧ V c' r v ∧ HRl c' h' ∧ Kept env.n0 c (bg s.hp) c' (bg h') ∧ env.n0 ≤ h'.length := by
 generalize reach (df hh) 1000 (jw (df hh) (upto env.n0) ++ j4 v') (upto env.n0) = L at h
 split at h
 ·rename_i hchk
  simp only [Bool.and_eq_true] at hchk
  obtain ⟨⟨hn, hp⟩, hb⟩ := hchk
  rw [uj] at h
  refine ⟨_, _, h, fun D c a hs => ?_⟩
  obtain ⟨v, c1, e1, h3, h4, h5, h6⟩ := frozen D c a hs
  refine ⟨v, cv c1 L, e1, h3, qcl (ta c1 L) _ _ h4, p5 h5.hr (pq h5.hr fun i hi => gl hi) (nodup_iff.1 hn), h6.trans (p6 hp), ?_⟩
  rw [gb, List.length_map]
  rcases Nat.eq_zero_or_pos env.n0 with e | e
  ·omega
  ·have := kq hp (env.n0 - 1) (by omega)
   have := (List.getElem?_eq_some_iff.1 this).1
   omega
 ·exact h.elim
theorem tb {env : Env} {soft : Bool} {fn : Func} {s : St} {K : AV → List AO → Prop} (h : qm4 env soft fn.results.toList s K) :
  ∃ r h', K r h' ∧ ∀ D c a, SR env.nt D s c a → ∃ v c', c'.w = c.w ∧ (results fn a.tmps).run env.P c.w = .ok v c.w ∧ V c' r v ∧ HRl c' h' ∧ Kept env.n0 c (bg s.hp) c' (bg h') ∧ env.n0 ≤ h'.length := by
 unfold qm4 at h
 obtain ⟨vs, h1, h2⟩ := jl h
 cases soft with
 | false =>
  refine pn (v' := c8 vs) (hh := s.hp) (fun D c a hs => ?_) h1
  obtain ⟨v, h3, h4⟩ := h2 D c a hs
  exact ⟨v, c, rfl, h3, h4, hs.hp, Kept.refl _ _ _⟩
 | true =>
  refine pn (v' := qgd (df s.hp) (c8 vs)) (hh := gm s.hp (i1 (c8 vs))) (fun D c a hs => ?_) h1
  obtain ⟨v, h3, h4⟩ := h2 D c a hs
  obtain ⟨k1, k2⟩ := qdd hs.hp.hr (i1 (c8 vs))
  refine ⟨v, j3 c s.hp (i1 (c8 vs)), rfl, h3, qis hs.hp.hr h4, ⟨k1, fun i => ?_⟩, Kept.m7 (gn c _ _) k2⟩
  rw [fx]
  exact hs.hp.born i
theorem ib : ∀ (args : List AV) (i t : Nat), bj (number i args) (i + t) = (args[t]?).getD .undef
 | [], i, t => by simp [number, bj]
 | x :: r, i, t => by
  simp only [number]
  rw [b6]
  cases t with
  | zero => simp
  | succ t =>
   rw [if_neg (by omega)]
   have := ib r (i + 1) t
   rw [show i + (t + 1) = i + 1 + t by omega, this]
   simp
structure cz (P : Program) (f : FuncId) (fn : Func) : Prop where
 at_ : P.funcs[f]? = some fn
 name : (fn.name == "runtime.NumGoroutine") = false
theorem cz.ne {P : Program} {f : FuncId} {fn : Func} (h : cz P f fn) : fn.name ≠ "runtime.NumGoroutine" := by simpa using h.name
theorem qfv {env : Env} {plain : bf} (hE : j0 env plain) (hm : env.P.follows .mixedOrders = true) {f : FuncId} {fn : Func} (hf : cz env.P f fn) {code : Code} (hcode : fn.body = some code)
  (hl : ∀ p ∈ aj 0 code, dt env p.2 (env.L p.1)) (hG : ∀ c ∈ av code, oe env c env.G) (soft : Bool) {args : List AV} {hp : List AO} {K : AV → List AO → Prop} (hb : body env plain soft fn args hp K) : ∃ r h', K r h' ∧ ct env.P f args hp r h' := by
 unfold body at hb
 rw [hcode] at hb
 split at hb
 ·rename_i code' hc hchk
  injection hc with hc
  subst hc
  simp only [Bool.and_eq_true] at hchk
  obtain ⟨⟨h1, h2⟩, h3⟩ := hchk
  have e1 := Nat.eq_of_beq_eq_true h1
  have e2 := Nat.le_of_ble_eq_true h2
  have e3 := Nat.eq_of_beq_eq_true h3
  obtain ⟨ex, s', h4, h5⟩ := ei hE hm code 0 hl hG _ _ hb
  have key : ∀ (r : AV) (h' : List AO), (ex = .normal ∨ ex = .ret) → K r h' → (∀ D c a, SR env.nt D s' c a → ∃ v c', c'.w = c.w ∧ (results fn a.tmps).run env.P c.w = .ok v c.w ∧ V c' r v ∧ HRl c' h' ∧ Kept env.n0 c (bg s'.hp) c' (bg h') ∧ env.n0 ≤ h'.length) →
    ∃ r h', K r h' ∧ ct env.P f args hp r h' := by
   intro r h' hex hkr hret
   refine ⟨r, h', hkr, fun c vals o a next Q hv hr hnext => ?_⟩
   have hrun : (callFunc f vals).run env.P c.w = .ok (.enter f vals) c.w := by
    simp [callFunc, hf.at_, hf.ne, hcode]
   rw [hrun, Oper.upon_enter]
   have hvl : vals.size = args.length := by simpa using hv.length
   refine calls_of_wp hf.at_ hcode ?_
   refine wp_mono (h5 [] c { tmps := vals ++ Array.replicate (fn.ntmps - vals.size) undef, defers := [] } ⟨fun t => ?_, hr, by simp; omega, rfl⟩) fun e a' w' he => ?_
   ·have := ib args 0 t
    rw [Nat.zero_add] at this
    rw [this]
    cases ha : args[t]? with
    | none => simp [V]
    | some x =>
     obtain ⟨u, h6, h7⟩ := hv.get t x ha
     have hlt : t < vals.size := by
      have := (List.getElem?_eq_some_iff.1 h6).1
      simpa using this
     have h8 : vals[t]? = some u := by simpa using h6
     have h9 : (vals ++ Array.replicate (fn.ntmps - vals.size) undef).getD t undef = u := by
      simp only [Array.getD_eq_getD_getElem?]
      rw [Array.getElem?_append_left hlt, h8]
      rfl
     show V c ((some x).getD .undef) _
     rw [h9]
     exact h7
   ·obtain ⟨e4, c', rfl, hs', hk'⟩ := he
    obtain ⟨v, c2, h6, h7, h8, h9, h10, h11⟩ := hret [] c' a' hs'
    have hpost : bodyPost env.P fn (fun e w'' => match e with
      | .returned v => next (a.put o.dst v) w''
      | .panicked chain => Q (.panic chain) a w''
      | .outgrown => LetsOut Q) e a' c'.w := by
     have hK := hk'.trans h10
     have hnx : next (a.put o.dst v) c'.w := by
      rw [← h6]
      refine hnext v c2 h8 h9 hK.fr (by rw [e3]; exact h11) fun i hi => ?_
      exact (hK.β i (by rw [← e3]; exact hi) ((hr.born i).2 hi)).2
     rcases hex with rfl | rfl
     ·subst e4
      exact ⟨hs'.defers, v, h7, hnx⟩
     ·subst e4
      exact ⟨hs'.defers, v, h7, hnx⟩
    exact hpost
  cases ex with
  | normal =>
   simp only at h4
   obtain ⟨r, h', h6, h7⟩ := tb h4
   exact key r h' (.inl rfl) h6 h7
  | ret =>
   simp only at h4
   obtain ⟨r, h', h6, h7⟩ := tb h4
   exact key r h' (.inr rfl) h6 h7
  | exit id => exact h4.elim
  | goto l => exact h4.elim
 ·exact hb.elim
theorem u0 {α : Type} {p : Nat → α → Prop} {d : α} (hd : ∀ i, p i d) : ∀ {l : List (Nat × α)}, (∀ x ∈ l, p x.1 x.2) → ∀ i, p i (tab d l i)
 | [], _, i => hd i
 | (j, x) :: r, h, i => by
  simp only [tab]
  cases hb : Nat.beq j i with
  | true =>
   have := Nat.eq_of_beq_eq_true hb
   subst this
   exact h (j, x) List.mem_cons_self
  | false => exact u0 hd (fun y hy => h y (List.mem_cons_of_mem _ hy)) i
theorem m5 (P : Program) (f : FuncId) : ah P f m4 := fun _ _ _ h => h.elim
theorem qp {a b : Nat} : ∀ {code : Code}, b ∉ keys (aj a code) → c7 b a code = none := by
 intro code
 induction code generalizing a with
 | seq x y ihx ihy =>
  intro h
  have hk : ∀ {l m : List (Nat × Code)}, keys (l ++ m) = keys l ++ keys m := by
   intro l m
   induction l with
   | nil => rfl
   | cons p r ih => obtain ⟨i, c⟩ := p; simp [keys, ih]
  simp only [aj, hk, List.mem_append, not_or] at h
  simp only [c7, ihx h.1, ihy h.2]
 | cond c x y ihx ihy =>
  intro h
  have hk : ∀ {l m : List (Nat × Code)}, keys (l ++ m) = keys l ++ keys m := by
   intro l m
   induction l with
   | nil => rfl
   | cons p r ih => obtain ⟨i, c⟩ := p; simp [keys, ih]
  simp only [aj, hk, List.mem_append, not_or] at h
  simp only [c7, ihx h.1, ihy h.2]
 | block id c ih => intro h; simp only [aj] at h; simp only [c7, ih h]
 | loop c ih =>
  intro h
  simp only [aj, keys, List.mem_cons, not_or] at h
  have : Nat.beq a b = false := by
   cases hb : Nat.beq a b with
   | false => rfl
   | true => exact absurd (Nat.eq_of_beq_eq_true hb).symm h.1
  simp only [c7, this, ih h.2]
 | scope c ih => intro h; simp only [aj] at h; simp only [c7, ih h]
 | _ => intro _; rfl
theorem ma : ∀ {α : Type} (l m : List (Nat × α)), keys (l ++ m) = keys l ++ keys m
 | _, [], _ => rfl
 | _, (i, c) :: r, m => by simp [keys, ma r m]
theorem mem_keys {α : Type} : ∀ {l : List (Nat × α)} {b : Nat} {c : α}, (b, c) ∈ l → b ∈ keys l
 | [], _, _, h => by simp at h
 | (i, x) :: r, b, c, h => by
  simp only [keys, List.mem_cons]
  rcases List.mem_cons.1 h with h | h
  ·injection h with h1 h2; exact .inl h1
  ·exact .inr (mem_keys h)
theorem ss {a b : Nat} {c : Code} : ∀ {code : Code}, (keys (aj a code)).Nodup → (b, c) ∈ aj a code → c7 b a code = some c := by
 intro code
 induction code generalizing a with
 | seq x y ihx ihy =>
  intro hn h
  simp only [aj, ma] at hn h
  rw [List.nodup_append] at hn
  rcases List.mem_append.1 h with h | h
  ·simp only [c7, ihx hn.1 h]
  ·have : b ∉ keys (aj a x) := fun hb => hn.2.2 b hb b (mem_keys h) rfl
   simp only [c7, qp this, ihy hn.2.1 h]
 | cond d x y ihx ihy =>
  intro hn h
  simp only [aj, ma] at hn h
  rw [List.nodup_append] at hn
  rcases List.mem_append.1 h with h | h
  ·simp only [c7, ihx hn.1 h]
  ·have : b ∉ keys (aj a x) := fun hb => hn.2.2 b hb b (mem_keys h) rfl
   simp only [c7, qp this, ihy hn.2.1 h]
 | block id d ih => intro hn h; simp only [aj] at hn h; simp only [c7, ih hn h]
 | loop d ih =>
  intro hn h
  simp only [aj, keys, List.nodup_cons] at hn
  simp only [aj, List.mem_cons] at h
  rcases h with h | h
  ·injection h with h1 h2
   subst h1 h2
   simp [c7]
  ·have hne : a ≠ b := fun e => by subst e; exact hn.1 (mem_keys h)
   have : Nat.beq a b = false := by
    cases hb : Nat.beq a b with
    | false => rfl
    | true => exact absurd (Nat.eq_of_beq_eq_true hb) hne
   simp only [c7, this, ih hn.2 h]
 | scope d ih => intro hn h; simp only [aj] at hn h; simp only [c7, ih hn h]
 | _ => intro _ h; simp [aj] at h
theorem af {P : Program} {i : FuncId} {x : bb} {r : List (Nat × bb)} (h : ah P i x) (hr : ∀ f, ah P f (tab m4 r f)) : ∀ f, ah P f (tab m4 ((i, x) :: r) f) := by
 intro f
 simp only [tab]
 cases hb : Nat.beq i f with
 | true =>
  have := Nat.eq_of_beq_eq_true hb
  subst this
  exact h
 | false => exact hr f
theorem m0 {a b : Nat} {c : Code} : ∀ {code : Code}, (b, c) ∈ aj a code → ∀ p ∈ aj b c, p ∈ aj a code := by
 intro code
 induction code generalizing a with
 | seq x y ihx ihy =>
  intro h p hp
  simp only [aj, List.mem_append] at h ⊢
  exact h.imp (fun h => ihx h p hp) (fun h => ihy h p hp)
 | cond d x y ihx ihy =>
  intro h p hp
  simp only [aj, List.mem_append] at h ⊢
  exact h.imp (fun h => ihx h p hp) (fun h => ihy h p hp)
 | block id d ih => intro h p hp; simp only [aj] at h ⊢; exact ih h p hp
 | loop d ih =>
  intro h p hp
  simp only [aj, List.mem_cons] at h ⊢
  rcases h with h | h
  ·injection h with h1 h2
   subst h1 h2
   exact .inr hp
  ·exact .inr (ih h p hp)
 | scope d ih => intro h p hp; simp only [aj] at h ⊢; exact ih h p hp
 | _ => intro h; simp [aj] at h
theorem vy {a b : Nat} {c : Code} : ∀ {code : Code}, (b, c) ∈ aj a code → SizeOf.sizeOf c < SizeOf.sizeOf code := by
 intro code
 induction code generalizing a with
 | seq x y ihx ihy =>
  intro h
  simp only [aj, List.mem_append] at h
  simp only [Code.seq.sizeOf_spec]
  rcases h with h | h
  ·have := ihx h; omega
  ·have := ihy h; omega
 | cond d x y ihx ihy =>
  intro h
  simp only [aj, List.mem_append] at h
  simp only [Code.cond.sizeOf_spec]
  rcases h with h | h
  ·have := ihx h; omega
  ·have := ihy h; omega
 | block id d ih => intro h; simp only [aj] at h; have := ih h; simp only [Code.block.sizeOf_spec]; omega
 | loop d ih =>
  intro h
  simp only [aj, List.mem_cons] at h
  simp only [Code.loop.sizeOf_spec]
  rcases h with h | h
  ·injection h with h1 h2
   subst h2
   omega
  ·have := ih h; omega
 | scope d ih => intro h; simp only [aj] at h; have := ih h; simp only [Code.scope.sizeOf_spec]; omega
 | _ => intro h; simp [aj] at h
theorem qdn {env : Env} {code : Code} (h : ∀ b c, (b, c) ∈ aj 0 code → (∀ p ∈ aj b c, dt env p.2 (env.L p.1)) → dt env c (env.L b)) :
  ∀ p ∈ aj 0 code, dt env p.2 (env.L p.1) := by
 have key : ∀ n b c, SizeOf.sizeOf c ≤ n → (b, c) ∈ aj 0 code → dt env c (env.L b) := by
  intro n
  induction n with
  | zero =>
   intro b c hs _
   cases c <;> simp at hs
  | succ n ih =>
   intro b c hs hm
   refine h b c hm fun p hp => ?_
   obtain ⟨b', c'⟩ := p
   have := vy hp
   exact ih b' c' (by omega) (m0 hm _ hp)
 intro p hp
 exact key _ p.1 p.2 (Nat.le_refl _) hp
def codeOf (b : Nat) (fn : Func) : Option Code := match fn.body with
 | some x => c7 b 0 x
 | none => none
def qh6 (fn : Func) : List Nat := match fn.body with
 | some x => keys (aj 0 x)
 | none => []
theorem aq {env : Env} {fn : Func} {code : Code} (hcode : fn.body = some code) {ks : List Nat} (hk : qh6 fn = ks) (hn : nodup ks = true)
  (h : ∀ b ∈ ks, ∀ c, codeOf b fn = some c → (∀ p ∈ aj b c, dt env p.2 (env.L p.1)) → dt env c (env.L b)) : ∀ p ∈ aj 0 code, dt env p.2 (env.L p.1) := by
 unfold qh6 at hk
 rw [hcode] at hk
 simp only at hk
 refine qdn fun b c hm hin => h b (by rw [← hk]; exact mem_keys hm) c ?_ hin
 unfold codeOf
 rw [hcode]
 exact ss (by rw [hk]; exact nodup_iff.1 hn) hm
end Go.RX
