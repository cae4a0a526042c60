/- The law's own body, walked with whole values: what spoil turns, what the calls tell, and the row. No condition. -/
import Derived.Test.YtacceochippkaaaGreatRb
import Derived.Test.YtacceochippkaaaGreatRc
set_option linter.all false
namespace Go.SP
open Go.RX
abbrev Tm := Nat → Value
def ev (T : Tm) : Operand → Value
  | .tmp t => T t
  | x => Act.eval ⟨#[], []⟩ x
def upT (T : Tm) : Option Tmp → Value → Tm
  | some t, v => fun u => if t = u then v else T u
  | none, _ => T
structure Is (nt : Nat) (a : Act) (T : Tm) : Prop where
  size : a.tmps.size = nt
  at_ : ∀ t, a.tmps.getD t undef = T t
  defers : a.defers = []
theorem Is.ev {nt : Nat} {a : Act} {T : Tm} (h : Is nt a T) : a.eval = ev T := by
  funext x
  cases x with
  | tmp t => exact h.at_ t
  | _ => rfl
theorem Is.put {nt : Nat} {a : Act} {T : Tm} (h : Is nt a T) {d : Option Tmp} (hd : dstOk nt d = true) (v : Value) : Is nt (a.put d v) (upT T d v) := by
  refine ⟨by rw [put_size]; exact h.size, fun t => ?_, by rw [put_defers]; exact h.defers⟩
  cases d with
  | none => exact h.at_ t
  | some x =>
    rw [getD_put (by rw [h.size]; exact dstOk_lt hd x rfl)]
    simp only [upT]
    split
    · rfl
    · exact h.at_ t
def OpTo (P : Program) (nt : Nat) (o : Oper) (T : Tm) (w : World) (R : Value → World → Prop) : Prop :=
  ∀ (a : Act) (next : Act → World → Prop) (Q : Exit → Act → World → Prop), Is nt a T → (∀ v w', R v w' → next (a.put o.dst v) w') → o.wp P a w next Q
def guardS (ops : Array Oper) (T : Tm) (o : Oper) : Prop := match o.guard with
  | none => True
  | some (j, b) => ∃ t, (ops[j]?).bind (·.dst) = some t ∧ T t = .bool b
def goS (P : Program) (nt : Nat) (ops : Array Oper) : List Oper → Tm → World → (Tm → World → Prop) → Prop
  | [], T, w, Q => Q T w
  | o :: os, T, w, Q => dstOk nt o.dst = true ∧ guardS ops T o ∧ ∃ R, OpTo P nt o T w R ∧ ∀ v w', R v w' → goS P nt ops os (upT T o.dst v) w' Q
theorem wanted_of {nt : Nat} {ops : Array Oper} {T : Tm} {a : Act} {o : Oper} (h : Is nt a T) (g : guardS ops T o) : Region.wanted o (yielded ops a.tmps) = true := by
  unfold guardS at g
  simp only [Region.wanted]
  split at g
  · rename_i hg
    rw [hg]
  · rename_i j b hg
    obtain ⟨t, h1, h2⟩ := g
    rw [hg]
    have h3 := h.at_ t
    rw [h2] at h3
    have h4 : a.tmps[t]? = some (.bool b) := by
      simp only [Array.getD_eq_getD_getElem?] at h3
      cases he : a.tmps[t]? with
      | none => rw [he] at h3; simp [undef] at h3
      | some x => rw [he] at h3; simp at h3; rw [h3]
    simp only [yielded, h1, Option.bind_some, h4]
    cases b <;> rfl
theorem goS_ops {P : Program} {nt : Nat} {ops : Array Oper} {Q : Tm → World → Prop} {E : Exit → Act → World → Prop} : ∀ (os pre : List Oper), ops.toList = pre ++ os → ∀ (T : Tm) (w : World) (a : Act), goS P nt ops os T w Q → Is nt a T →
    (∀ a' T' w', Is nt a' T' → Q T' w' → E .normal a' w') → wpOps P ops E (List.range' pre.length os.length) a w
  | [], pre, _, T, w, a, h, hi, hq => by simpa [wpOps] using hq a T w hi h
  | o :: os, pre, hops, T, w, a, h, hi, hq => by
    obtain ⟨h1, h2, R, h3, h4⟩ := h
    have ho : ops[pre.length]? = some o := by
      rw [← Array.getElem?_toList, hops]
      simp
    have hops' : ops.toList = (pre ++ [o]) ++ os := by simpa using hops
    have hlen : (pre ++ [o]).length = pre.length + 1 := by simp
    rw [List.length_cons, List.range'_succ]
    simp only [wpOps, ho, wanted_of hi h2, if_true]
    refine .inl (h3 a _ _ hi fun v w' hr => ?_)
    rw [← hlen]
    exact goS_ops os (pre ++ [o]) hops' _ _ _ (h4 v w' hr) (hi.put h1 v) hq
theorem region_ok {P : Program} {nt : Nat} {id : Nat} {ops : Array Oper} {Q : Tm → World → Prop} {E : Exit → Act → World → Prop} {T : Tm} {w : World} {a : Act} (hi : Is nt a T) (h : goS P nt ops ops.toList T w Q)
    (hq : ∀ a' T' w', Is nt a' T' → Q T' w' → E .normal a' w') : (Code.region id ops false).wp P E a w := by
  apply wp_region
  have := goS_ops (E := E) ops.toList [] rfl T w a h hi hq
  rw [List.range_eq_range']
  simpa using this
section
variable {P : Program} {nt : Nat} {ops : Array Oper} {os : List Oper} {T : Tm} {w : World} {Q : Tm → World → Prop} {dst : Option Tmp} {ty : TypeId} {pos : String} {after : Array Edge}
theorem goS_val {o : Oper} (hg : guardS ops T o) (hd : dstOk nt o.dst = true) {v : Value} {w' : World} (hr : (execOp (ev T) o).run P w = .ok (.value v) w') (h : goS P nt ops os (upT T o.dst v) w' Q) : goS P nt ops (o :: os) T w Q :=
  ⟨hd, hg, fun u x => u = v ∧ x = w', fun a next E hi hn => by
    unfold Oper.wp
    rw [hi.ev, hr]
    exact hn _ _ ⟨rfl, rfl⟩, by rintro _ _ ⟨rfl, rfl⟩; exact h⟩
theorem goS_skip {o : Oper} (hg : guardS ops T o) (hd : dstOk nt o.dst = true) {w' : World} (hr : (execOp (ev T) o).run P w = .ok .skip w') (h : goS P nt ops os (upT T o.dst undef) w' Q) : goS P nt ops (o :: os) T w Q :=
  ⟨hd, hg, fun u x => u = undef ∧ x = w', fun a next E hi hn => by
    unfold Oper.wp
    rw [hi.ev, hr]
    exact hn _ _ ⟨rfl, rfl⟩, by rintro _ _ ⟨rfl, rfl⟩; exact h⟩
theorem goS_move {x : Operand} {g : Option (Nat × Bool)} (hg : guardS ops T ⟨dst, .move x, ty, pos, after, g⟩) (hd : dstOk nt dst = true) (h : goS P nt ops os (upT T dst (ev T x)) w Q) : goS P nt ops (⟨dst, .move x, ty, pos, after, g⟩ :: os) T w Q :=
  goS_val hg hd rfl h
theorem goS_assign {x : Operand} {g : Option (Nat × Bool)} (hg : guardS ops T ⟨dst, .assign x, ty, pos, after, g⟩) (hd : dstOk nt dst = true) (h : goS P nt ops os (upT T dst (ev T x)) w Q) : goS P nt ops (⟨dst, .assign x, ty, pos, after, g⟩ :: os) T w Q :=
  goS_val hg hd rfl h
theorem goS_pick {c x y : Operand} {g : Option (Nat × Bool)} (hg : guardS ops T ⟨dst, .pick c x y, ty, pos, after, g⟩) (hd : dstOk nt dst = true) (hc : ev T c = .bool true) (h : goS P nt ops os (upT T dst (ev T x)) w Q) : goS P nt ops (⟨dst, .pick c x y, ty, pos, after, g⟩ :: os) T w Q :=
  goS_val hg hd (v := ev T x) (w' := w) (by simp [execOp, hc, asBool]) h
theorem goS_len {x : Operand} {at_ : TypeId} {e : TypeId} (hd : dstOk nt dst = true) (ha : P.underlying at_ = some (.slice e)) {b : Option Addr} {n c : Nat} (hx : ev T x = .slice b n c)
    (h : goS P nt ops os (upT T dst (.int .i64 n)) w Q) : goS P nt ops (⟨dst, .call { callee := .builtin .len, args := #[x], argTypes := #[at_] }, ty, pos, after, none⟩ :: os) T w Q :=
  goS_val (by trivial) hd (v := .int .i64 n) (w' := w) (by simp [execOp, resolve, invoke, builtin, hx, Builtin.len_, run_underlying ha, goInt]) h
theorem goS_fieldAddr {t : TypeId} {x : Operand} {f off n : Nat} (hd : dstOk nt dst = true) (hf : fieldAt P t f = some (off, n)) (hn : n ≠ 0) {b o : Nat} (hx : ev T x = .pointer (some ⟨b, o, none⟩))
    (h : goS P nt ops os (upT T dst (.pointer (some ⟨b, o + off, none⟩))) w Q) : goS P nt ops (⟨dst, .fieldAddr t x f, ty, pos, after, none⟩ :: os) T w Q := by
  obtain ⟨fs, fd, h1, h2, rfl, h3⟩ := fieldAt_run hf
  exact goS_val (by trivial) hd (v := .pointer (some ⟨b, o + fd.offset, none⟩)) (w' := w) (by simp [execOp, hx, Instr.fieldAt, run_underlying h1, h2, Instr.sureAddr, run_fieldPlace' h3 hn, add_none]) h
theorem goS_indexAddr {t e : TypeId} {x y : Operand} {n : Nat} (hd : dstOk nt dst = true) (ht : P.underlying t = some (.slice e)) (hn : sizeT P e = some n) {b o len cap : Nat} {k : IntKind} {i : Nat} (hx : ev T x = .slice (some ⟨b, o, none⟩) len cap) (hy : ev T y = .int k i) (h1 : i < len)
    (h : goS P nt ops os (upT T dst (.pointer (some ⟨b, o + i * n, none⟩))) w Q) : goS P nt ops (⟨dst, .indexAddr t x y, ty, pos, after, none⟩ :: os) T w Q := by
  have := run_indexAt_in (P := P) ht hn (b := b) (o := o) (cap := cap) (k := k) (i := i) (by omega) (show (i : Int) < (len : Int) by omega) w
  simp only [Int.toNat_natCast] at this
  exact goS_val (by trivial) hd (v := .pointer (some ⟨b, o + i * n, none⟩)) (by simp [execOp, hx, hy, this]) h
theorem goS_load1 {t : TypeId} {x : Operand} {g : Option (Nat × Bool)} (hg : guardS ops T ⟨dst, .load t x, ty, pos, after, g⟩) (hd : dstOk nt dst = true) (ha : isAggT P t = some false) (hn : sizeT P t = some 1) {b o : Nat} (hx : ev T x = .pointer (some ⟨b, o, none⟩)) {v : Value} (hv : w.cell? ⟨b, o, none⟩ = some v)
    (h : goS P nt ops os (upT T dst v) w Q) : goS P nt ops (⟨dst, .load t x, ty, pos, after, g⟩ :: os) T w Q := by
  have := run_loadVar' (P := P) ha hn (w := w) (b := b) (o := o) (es := [v]) rfl (fun j hj => by
    have : j = 0 := by omega
    subst this
    simpa using hv) (fun _ => rfl)
  exact goS_val hg hd (v := v) (by simp [execOp, hx, Instr.loadAt, Instr.sureAddr, this, outV]) h
theorem goS_loadA {t : TypeId} {n : Nat} {x : Operand} {g : Option (Nat × Bool)} (hg : guardS ops T ⟨dst, .load t x, ty, pos, after, g⟩) (hd : dstOk nt dst = true) (ha : isAggT P t = some true) (hn : sizeT P t = some n) {b o : Nat} (hx : ev T x = .pointer (some ⟨b, o, none⟩)) {es : List Value} (hl : es.length = n) (hv : ∀ j, j < n → w.cell? ⟨b, o + j, none⟩ = es[j]?)
    (h : goS P nt ops os (upT T dst (.agg es.toArray)) w Q) : goS P nt ops (⟨dst, .load t x, ty, pos, after, g⟩ :: os) T w Q := by
  have := run_loadVar' (P := P) ha hn (w := w) (b := b) (o := o) (es := es) hl hv (fun h => by simp at h)
  exact goS_val hg hd (v := .agg es.toArray) (by simp [execOp, hx, Instr.loadAt, Instr.sureAddr, this, outV]) h
theorem goS_store {t : TypeId} {n : Nat} {x y : Operand} (hn : sizeT P t = some n) {b off : Nat} {C : Array Value} {e : TypeId} {v : Value} (hx : ev T x = .pointer (some ⟨b, off, none⟩)) (hy : ev T y = v) (hc : v.cells.size = n) (h1 : ∀ u ∈ v.cells.toList, u.oneCell' = true)
    (hb : w.heap[b]? = some (.cells C e (0, 0))) (hl : off + n ≤ C.size)
    (h : goS P nt ops os T (w.setRow b (C.toList.take off ++ v.cells.toList ++ C.toList.drop (off + n)).toArray) Q) : goS P nt ops (⟨none, .store t x y, ty, pos, after, none⟩ :: os) T w Q := by
  refine goS_skip (by trivial) rfl (w' := w.setRow b (C.toList.take off ++ v.cells.toList ++ C.toList.drop (off + n)).toArray) ?_ h
  have := run_storeVar' (P := P) hn hc h1 hb hl
  simp [execOp, hx, hy, this]
theorem goS_build {t : TypeId} {parts : Array (Nat × Operand)} (hd : dstOk nt dst = true) {C : Array Value} (hb : P.built t (parts.map fun (i, x) => (i, ev T x)).toList = some C)
    (h : goS P nt ops os (upT T dst (.agg C)) w Q) : goS P nt ops (⟨dst, .build t parts, ty, pos, after, none⟩ :: os) T w Q :=
  goS_val (by trivial) hd (v := .agg C) (w' := w) (by simp [execOp, run_build w t _ C hb]) h
theorem goS_lss {x y : Operand} {i j : Int} (hd : dstOk nt dst = true) {t1 t2 : TypeId} (hx : ev T x = .int .i64 i) (hy : ev T y = .int .i64 j)
    (h : goS P nt ops os (upT T dst (.bool (decide (i < j)))) w Q) : goS P nt ops (⟨dst, .binOp .lss t1 x y t2, ty, pos, after, none⟩ :: os) T w Q := by
  refine goS_val (by trivial) hd (v := .bool (decide (i < j))) (w' := w) ?_ h
  simp [execOp, hx, hy, eqGuard, binOp, Op.intCmp]
theorem goS_add {x y : Operand} {i j : Int} (hd : dstOk nt dst = true) {t1 t2 : TypeId} (hx : ev T x = .int .i64 i) (hy : ev T y = .int .i64 j)
    (h : goS P nt ops os (upT T dst (.int .i64 (IntKind.i64.wrap (i + j)))) w Q) : goS P nt ops (⟨dst, .binOp .add t1 x y t2, ty, pos, after, none⟩ :: os) T w Q := by
  refine goS_val (by trivial) hd (v := .int .i64 (IntKind.i64.wrap (i + j))) (w' := w) ?_ h
  simp [execOp, hx, hy, eqGuard, binOp, Op.intArith]
theorem goS_box {t : TypeId} {x : Operand} (hd : dstOk nt dst = true) {v : Value} (hx : ev T x = v)
    (h : goS P nt ops os (upT T dst (.pointer (some ⟨w.heap.size, 0, none⟩))) (w.alloc (.cells v.cells t)) Q) : goS P nt ops (⟨dst, .box t x, ty, pos, after, none⟩ :: os) T w Q :=
  goS_val (by trivial) hd (v := .pointer (some ⟨w.heap.size, 0, none⟩)) (by simp [execOp, Instr.box, newVar, newRow, hx]) h
theorem goS_alloc {t : TypeId} (hd : dstOk nt dst = true) {z : Value} (hz : zeroT P t = some z)
    (h : goS P nt ops os (upT T dst (.pointer (some ⟨w.heap.size, 0, none⟩))) (w.alloc (.cells z.cells t)) Q) : goS P nt ops (⟨dst, .alloc t, ty, pos, after, none⟩ :: os) T w Q :=
  goS_val (by trivial) hd (v := .pointer (some ⟨w.heap.size, 0, none⟩)) (by simp [execOp, Instr.alloc, run_zeroValue' hz, newVar, newRow]) h
theorem goS_buildSlice {t e : TypeId} {len sz : Nat} {parts : Array (Nat × Operand)} {zv : Value} (hd : dstOk nt dst = true) (ht : P.underlying t = some (.slice e)) (hn : sizeT P e = some sz) (hz : zeroT P e = some zv) (h24 : len * sz ≤ 16777216) (h0 : len * sz ≠ 0) {C' : Array Value}
    (h3 : Instr.fill (fun i => some (i * sz, sz)) (Array.map (fun x => zv.cells[x % zv.cells.size]!) (Array.range (len * sz))) (parts.toList.map fun x => (x.1, ev T x.2)) = some C')
    (h : goS P nt ops os (upT T dst (.slice (some ⟨w.heap.size, 0, none⟩) len len)) (w.alloc (.cells C' e)) Q) : goS P nt ops (⟨dst, .buildSlice t len parts, ty, pos, after, none⟩ :: os) T w Q := by
  refine goS_val (by trivial) hd (v := .slice (some ⟨w.heap.size, 0, none⟩) len len) (w' := w.alloc (.cells C' e)) ?_ h
  have hgt : ¬ 16777216 < len * sz := by omega
  have hz1 : (zeroValue e).run P w = .ok zv w := run_zeroValue' hz _
  simp only [execOp, Instr.buildSlice, Sem.run_bind, run_underlying ht, Result.andThen_ok, run_sizeOf' hn]
  rw [if_neg (by simpa using hgt)]
  simp only [h0, if_false, Sem.run_bind, Sem.run_pure, hz1, Result.andThen_ok]
  simp [h3, newRow]
end
end Go.SP
namespace Go.SP
open Go.RX
theorem for_ok {P : Program} {id id2 : Nat} {cd : Operand} {head body step : Code} {Q : Exit → Act → World → Prop} (I J : Nat → Act → World → Prop) (B : Nat)
    (hh : ∀ n a w, I n a w → head.wp P (fun e a' w' => e = .normal ∧ ((a'.eval cd = .bool true ∧ n < B ∧ J n a' w') ∨ (a'.eval cd = .bool false ∧ Q .normal a' w'))) a w)
    (hb : ∀ n a w, J n a w → (Code.seq (Code.block id2 body) step).wp P (fun e a' w' => e = .normal ∧ I (n + 1) a' w') a w)
    {a : Act} {w : World} (h0 : I 0 a w) : (Code.block id (Code.loop (Code.seq (Code.seq head (Code.cond cd .skip (.exit id))) (Code.seq (Code.block id2 body) step)))).wp P Q a w := by
  apply wp_block
  have key : ∀ (r n : Nat), n + r = B + 1 → n ≤ B → ∀ a w, I n a w → Code.rounds P (Code.seq (Code.seq head (Code.cond cd .skip (.exit id))) (Code.seq (Code.block id2 body) step)) (Exit.inBlock id Q) r a w := by
    intro r
    induction r with
    | zero => intro n h1 h2; omega
    | succ r ih =>
      intro n h1 h2 a w hi
      rw [rounds_succ]
      refine wp_seq (wp_seq (wp_mono (hh n a w hi) ?_))
      rintro e a1 w1 ⟨rfl, h⟩
      rcases h with ⟨h3, h4, h5⟩ | ⟨h3, h5⟩
      · refine wp_cond_true h3 (wp_skip ?_)
        refine wp_mono (hb n a1 w1 h5) ?_
        rintro e a2 w2 ⟨rfl, h6⟩
        exact ih (n + 1) (by omega) (by omega) a2 w2 h6
      · refine wp_cond_false h3 (wp_exit ?_)
        simp only [Exit.then, Exit.inBlock, if_true]
        exact h5
  exact wp_loop_rounds (B + 1) (key (B + 1) 0 (by omega) (by omega) a w h0)
structure Sc (D : Nat → Prop) (w0 w : World) : Prop where
  os : w.os = w0.os
  tape : w.tape = w0.tape
  output : w.output = w0.output
  size : w0.heap.size ≤ w.heap.size
  keep : ∀ b, b < w0.heap.size → ¬ D b → w.heap[b]? = w0.heap[b]?
theorem Sc.refl (D : Nat → Prop) (w : World) : Sc D w w := ⟨rfl, rfl, rfl, Nat.le_refl _, fun _ _ _ => rfl⟩
theorem Sc.trans {D : Nat → Prop} {a b c : World} (h : Sc D a b) (k : Sc D b c) : Sc D a c :=
  ⟨k.os.trans h.os, k.tape.trans h.tape, k.output.trans h.output, Nat.le_trans h.size k.size, fun i hi hd => (k.keep i (Nat.lt_of_lt_of_le hi h.size) hd).trans (h.keep i hi hd)⟩
theorem Sc.alloc (D : Nat → Prop) (w : World) (o : Obj) : Sc D w (w.alloc o) :=
  ⟨rfl, rfl, rfl, by rw [World.size_alloc]; omega, fun b hb _ => heap_alloc_old w o b hb⟩
theorem Sc.row {D : Nat → Prop} (w : World) {b : Nat} (hd : D b) (X : Array Value) : Sc D w (w.setRow b X) :=
  ⟨rfl, rfl, rfl, by simp [World.setRow], fun k _ hk => setRow_other w b k X (fun e => hk (e ▸ hd))⟩
def SlOK (D : Nat → Prop) (w : World) (sz : Nat) (v : Value) : Prop :=
  ∃ a n c, v = .slice a n c ∧ n ≤ maxLen ∧ (0 < n → ∃ b off C e, a = some ⟨b, off, none⟩ ∧ D b ∧ sz ∣ off ∧ w.heap[b]? = some (.cells C e (0, 0)) ∧ off + n * sz ≤ C.size)
def TopOK (D : Nat → Prop) (w : World) (v : Value) : Prop :=
  ∃ a n c, v = .slice a n c ∧ n ≤ maxLen ∧ (0 < n → ∃ b off C e, a = some ⟨b, off, none⟩ ∧ D b ∧ 7 ∣ off ∧ w.heap[b]? = some (.cells C e (0, 0)) ∧ off + n * 7 ≤ C.size ∧
    ∀ k, k < n → ∃ u, C[off + k * 7 + 6]? = some u ∧ SlOK D w 7 u)
theorem TopOK.sl {D : Nat → Prop} {w : World} {v : Value} (h : TopOK D w v) : SlOK D w 7 v := by
  obtain ⟨a, n, c, h1, h2, h3⟩ := h
  refine ⟨a, n, c, h1, h2, fun h0 => ?_⟩
  obtain ⟨b, off, C, e, h4, h5, h6, h7, h8, _⟩ := h3 h0
  exact ⟨b, off, C, e, h4, h5, h6, h7, h8⟩
def Same (D : Nat → Prop) (w w' : World) : Prop := ∀ b C e, D b → w.heap[b]? = some (.cells C e (0, 0)) → ∃ C', w'.heap[b]? = some (.cells C' e (0, 0)) ∧ C'.size = C.size
theorem SlOK.same {D : Nat → Prop} {w w' : World} (hs : Same D w w') {sz : Nat} {v : Value} (h : SlOK D w sz v) : SlOK D w' sz v := by
  obtain ⟨a, n, c, h1, h2, h3⟩ := h
  refine ⟨a, n, c, h1, h2, fun h0 => ?_⟩
  obtain ⟨b, off, C, e, h4, h5, h6, h7, h8⟩ := h3 h0
  obtain ⟨C', h9, h10⟩ := hs b C e h5 h7
  exact ⟨b, off, C', e, h4, h5, h6, h9, by omega⟩
theorem Same.alloc {D : Nat → Prop} (w : World) (o : Obj) : Same D w (w.alloc o) := fun b C e _ h =>
  ⟨C, by rw [heap_alloc_old w o b (Array.getElem?_eq_some_iff.1 h).1]; exact h, rfl⟩
theorem TopOK.alloc {D : Nat → Prop} {w : World} {v : Value} (o : Obj) (h : TopOK D w v) : TopOK D (w.alloc o) v := by
  obtain ⟨a, n, c, h1, h2, h3⟩ := h
  refine ⟨a, n, c, h1, h2, fun h0 => ?_⟩
  obtain ⟨b, off, C, e, h4, h5, h6, h7, h8, h9⟩ := h3 h0
  refine ⟨b, off, C, e, h4, h5, h6, by rw [heap_alloc_old w o b (Array.getElem?_eq_some_iff.1 h7).1]; exact h7, h8, fun k hk => ?_⟩
  obtain ⟨u, hu, hs⟩ := h9 k hk
  exact ⟨u, hu, hs.same (Same.alloc w o)⟩
theorem Same.row {D : Nat → Prop} {w : World} {b : Nat} {C X : Array Value} {e : TypeId} (hb : w.heap[b]? = some (.cells C e (0, 0))) (hX : X.size = C.size) : Same D w (w.setRow b X) := fun k C1 e1 _ h => by
  by_cases hk : k = b
  · subst hk
    rw [hb] at h
    injection h with h
    injection h with h1 h2
    subst h1 h2
    exact ⟨X, setRow_heap w k _ X _ _ hb, hX⟩
  · exact ⟨C1, by rw [setRow_other w b k X hk]; exact h, rfl⟩
theorem TopOK.row {D : Nat → Prop} {w : World} {v : Value} (h : TopOK D w v) {b : Nat} {C : Array Value} {e : TypeId} (hb : w.heap[b]? = some (.cells C e (0, 0))) {q : Nat} (hq : 7 ∣ q) {z : List Value} (hz : z.length = 7) (h6 : z[6]? = some (.slice none 0 0))
    (hl : q + 7 ≤ C.size) : TopOK D (w.setRow b (C.toList.take q ++ z ++ C.toList.drop (q + 7)).toArray) v := by
  have hsz : (C.toList.take q ++ z ++ C.toList.drop (q + 7)).toArray.size = C.size := by
    simp only [List.size_toArray, List.length_append, List.length_take, List.length_drop, Array.length_toList, hz]
    omega
  have same : Same D w (w.setRow b (C.toList.take q ++ z ++ C.toList.drop (q + 7)).toArray) := Same.row hb hsz
  obtain ⟨a, n, c, h1, h2, h3⟩ := h
  refine ⟨a, n, c, h1, h2, fun h0 => ?_⟩
  obtain ⟨b', off, C', e', h4, h5, h6', h7, h8, h9⟩ := h3 h0
  by_cases hk : b' = b
  · subst hk
    rw [hb] at h7
    injection h7 with h7
    injection h7 with e1 e2
    subst e1 e2
    refine ⟨b', off, _, e, h4, h5, h6', setRow_heap w b' _ _ _ _ hb, by omega, fun k hk => ?_⟩
    obtain ⟨u, hu, hs⟩ := h9 k hk
    obtain ⟨p, rfl⟩ := hq
    obtain ⟨r, rfl⟩ := h6'
    have hlt := (Array.getElem?_eq_some_iff.1 hu).1
    have same' := same
    simp only [List.append_assoc] at same'
    simp only [List.getElem?_toArray, List.append_assoc]
    rcases Nat.lt_trichotomy (r + k) p with h | h | h
    · refine ⟨u, ?_, hs.same same'⟩
      rw [List.getElem?_append_left (by simp only [List.length_take, Array.length_toList]; omega), List.getElem?_take, if_pos (by omega)]
      simpa using hu
    · refine ⟨.slice none 0 0, ?_, none, 0, 0, rfl, Nat.zero_le _, fun h => absurd h (by omega)⟩
      rw [List.getElem?_append_right (by simp only [List.length_take, Array.length_toList]; omega), List.getElem?_append_left (by simp only [List.length_take, Array.length_toList]; omega)]
      rw [← h6]
      congr 1
      simp only [List.length_take, Array.length_toList]
      omega
    · refine ⟨u, ?_, hs.same same'⟩
      rw [List.getElem?_append_right (by simp only [List.length_take, Array.length_toList]; omega), List.getElem?_append_right (by simp only [List.length_take, Array.length_toList]; omega), List.getElem?_drop]
      have : 7 * p + 7 + (7 * r + k * 7 + 6 - (List.take (7 * p) C.toList).length - z.length) = 7 * r + k * 7 + 6 := by
        simp only [List.length_take, Array.length_toList]
        omega
      rw [this]
      simpa using hu
  · refine ⟨b', off, C', e', h4, h5, h6', by rw [setRow_other w b b' _ hk]; exact h7, h8, fun k hk => ?_⟩
    obtain ⟨u, hu, hs⟩ := h9 k hk
    exact ⟨u, hu, hs.same same⟩
end Go.SP
