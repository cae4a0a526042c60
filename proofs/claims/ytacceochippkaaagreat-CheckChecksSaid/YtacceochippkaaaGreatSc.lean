/- The law's own body, walked with whole values: what spoil turns, what the calls tell, and the row. No condition. -/
import Derived.Test.YtacceochippkaaaGreatSb
import Derived.Test.YtacceochippkaaaGreatPf
import Derived.Test.YtacceochippkaaaGreatPe
import Derived.Test.YtacceochippkaaaGreatGz
set_option linter.all false
set_option maxRecDepth 100000
namespace Go.SP
open Go.Proofs Go.RX
noncomputable section
def cx0 (w : World) : Cx := ⟨fun _ => .none, fun b => b < w.heap.size, w, fun _ => False, w.heap.size⟩
theorem no_live {i : Nat} : ¬ Live (hpOf []) i := by
  rintro ⟨o, h, _⟩
  simp [hpOf] at h
theorem hrl0 (w : World) : HRl (cx0 w) [] :=
  ⟨⟨fun i o h => by simp [hpOf] at h, fun i _ _ h => (no_live h).elim, fun i _ h => (no_live h).elim, fun b h => h, fun i _ h => (no_live h).elim, fun i _ h => (no_live h).elim, Nat.le_refl _⟩, fun i => ⟨fun h => h.elim, fun h => absurd h (by simp)⟩⟩
def RdI (L : Nat → Prop) (m : Bool) (b : Nat) : Prop := m = false ∧ L b
theorem rd_cx {L : Nat → Prop} {w : World} (hL : ∀ b, L b → b < w.heap.size) {xs : List PV} {cs : List Value} (h : RoCs (RdI L) w xs cs) : RoCs (cx0 w).J (cx0 w).w xs cs :=
  RoCs.mono (fun m b hb => ⟨hL b hb.2, fun e => by rw [hb.1] at e; cases e⟩) (fun _ _ _ => rfl) xs cs h
theorem rd_cx1 {L : Nat → Prop} {w : World} (hL : ∀ b, L b → b < w.heap.size) {x : PV} {cs : List Value} (h : RoC (RdI L) w x cs) : RoC (cx0 w).J (cx0 w).w x cs :=
  RoC.mono (fun m b hb => ⟨hL b hb.2, fun e => by rw [hb.1] at e; cases e⟩) (fun _ _ _ => rfl) x cs h
theorem rd_mono {L : Nat → Prop} {w w' : World} (hw : ∀ b, L b → w'.heap[b]? = w.heap[b]?) {xs : List PV} {cs : List Value} (h : RoCs (RdI L) w xs cs) : RoCs (RdI L) w' xs cs :=
  RoCs.mono (fun m b hb => hb) (fun _ b hb => hw b hb.2) xs cs h
theorem rd_mono1 {L : Nat → Prop} {w w' : World} (hw : ∀ b, L b → w'.heap[b]? = w.heap[b]?) {x : PV} {cs : List Value} (h : RoC (RdI L) w x cs) : RoC (RdI L) w' x cs :=
  RoC.mono (fun m b hb => hb) (fun _ b hb => hw b hb.2) x cs h
structure Kp (w w' : World) : Prop where
  os : w'.os = w.os
  tape : w'.tape = w.tape
  output : w'.output = w.output
  size : w.heap.size ≤ w'.heap.size
  keep : ∀ b, b < w.heap.size → w'.heap[b]? = w.heap[b]?
theorem upon_call {f : FuncId} {args : List AV} {r : AV} (hr : RunsTo Tryz.prog f args [] r []) {w : World} {vals : Array Value} (hv : Vs (cx0 w) args vals.toList) (o : Oper) (a : Act) (next : Act → World → Prop) (Q : Exit → Act → World → Prop)
    (hn : ∀ v c', V c' r v → HRl c' [] → c'.base = w.heap.size → Kp w c'.w → next (a.put o.dst v) c'.w) : o.upon Tryz.prog a next Q ((callFunc f vals).run Tryz.prog w) :=
  hr (cx0 w) vals o a next Q hv (hrl0 w) fun v c' h1 h2 h3 _ _ => hn v c' h1 h2 h3.base ⟨h3.os, h3.tape, h3.output, h3.size, fun b hb => h3.keep b hb fun i hi => (no_live hi).elim⟩
section
variable {J : Bool → Nat → Prop} {D : Nat → Prop} {w : World}
theorem arr_unm {n : Nat} {g g' : Nat → PV} {cs : List Value} (hJ : ∀ b, J true b → D b) (h : RoC J w (.arr true n g) cs) (hg : ∀ i, i < n → ∀ es, RoC J w (g i) es → RoC (RdI D) w (g' i) es) : RoC (RdI D) w (.arr false n g') cs := by
  simp only [RoC] at h ⊢
  obtain ⟨a, c, rfl, hn, h⟩ := h
  refine ⟨a, c, rfl, hn, fun h0 => ?_⟩
  obtain ⟨b, off, sz, rfl, hb, hsz, hd, h⟩ := h h0
  refine ⟨b, off, sz, rfl, ⟨rfl, hJ b hb⟩, hsz, fun e => (by cases e), fun i hi => ?_⟩
  obtain ⟨es, he, hr, hc⟩ := h i hi
  exact ⟨es, he, hg i hi es hr, hc⟩
theorem arr_len {m : Bool} {n : Nat} {g : Nat → PV} {cs : List Value} (h : RoC J w (.arr m n g) cs) : n ≤ 9223372036854775807 := by
  simp only [RoC] at h
  obtain ⟨a, c, rfl, hn, h⟩ := h
  rw [maxLen_eq] at hn
  exact hn
theorem arr_el {m : Bool} {n : Nat} {g : Nat → PV} {cs : List Value} (h : RoC J w (.arr m n g) cs) {i : Nat} (hi : i < n) : ∃ es, RoC J w (g i) es := by
  simp only [RoC] at h
  obtain ⟨a, c, rfl, hn, h⟩ := h
  obtain ⟨b, off, sz, rfl, hb, hsz, hd, h⟩ := h (by omega)
  obtain ⟨es, he, hr, hc⟩ := h i hi
  exact ⟨es, hr⟩
theorem getD_terms (m : Bool) (l : List Term) {i : Nat} (hi : i < l.length) : (eTerms m l).getD i .nilp = eTerm m l[i] := by
  rw [eTerms_map]
  simp [List.getD, hi]
theorem eTerms_len (m : Bool) (l : List Term) : (eTerms m l).length = l.length := by rw [eTerms_map]; simp
theorem term_cells {m : Bool} {k o ty vk vi : Int} {vt : ByteArray} {kids : List Term} {cs : List Value} (h : RoC J w (eTerm m (.mk k o ty vk vi vt kids)) cs) :
    ∃ u, cs = [.int .i64 k, .int .i64 o, .int .i64 ty, .int .i64 vk, .int .i64 vi, .string vt, u] ∧ RoC J w (.arr m kids.length fun j => (eTerms m kids).getD j .nilp) [u] := by
  rw [eTerm] at h
  simp only [p_i_Term, lst, RoC, RoCs] at h
  obtain ⟨y1, r1, rfl, e1, y2, r2, rfl, e2, y3, r3, rfl, e3, y4, r4, rfl, e4, y5, r5, rfl, e5, y6, r6, rfl, e6, y7, r7, rfl, e7, rfl⟩ := h
  simp only [List.cons.injEq, and_true] at e1 e2 e3 e4 e5 e6
  subst e1 e2 e3 e4 e5 e6
  refine ⟨y7, rfl, ?_⟩
  simp only [RoC]
  rw [eTerms_len] at e7
  exact e7
theorem term_of_cells {m : Bool} {k o ty vk vi : Int} {vt : ByteArray} {kids : List Term} {u : Value} (h : RoC J w (.arr m kids.length fun j => (eTerms m kids).getD j .nilp) [u]) :
    RoC J w (eTerm m (.mk k o ty vk vi vt kids)) [.int .i64 k, .int .i64 o, .int .i64 ty, .int .i64 vk, .int .i64 vi, .string vt, u] := by
  rw [eTerm]
  have h' : RoC J w (.arr m (eTerms m kids).length fun j => (eTerms m kids).getD j .nilp) [u] := by rw [eTerms_len]; exact h
  show RoC J w (.agg [.int .i64 k, .int .i64 o, .int .i64 ty, .int .i64 vk, .int .i64 vi, .str vt, .arr m (eTerms m kids).length fun j => (eTerms m kids).getD j .nilp]) _
  rw [RoC]
  refine ⟨_, _, rfl, by simp [RoC], _, _, rfl, by simp [RoC], _, _, rfl, by simp [RoC], _, _, rfl, by simp [RoC], _, _, rfl, by simp [RoC], _, _, rfl, by simp [RoC], _, _, rfl, h', rfl⟩
mutual
theorem term_unm (hJ : ∀ b, J true b → D b) : ∀ (t : Term) (cs : List Value), RoC J w (eTerm true t) cs → RoC (RdI D) w (eTerm false t) cs
  | .mk k o ty vk vi vt kids, cs, h => by
    obtain ⟨u, rfl, h2⟩ := term_cells h
    refine term_of_cells (arr_unm hJ h2 fun i hi es he => ?_)
    rw [getD_terms _ _ hi] at he ⊢
    exact terms_unm hJ kids i hi es he
theorem terms_unm (hJ : ∀ b, J true b → D b) : ∀ (l : List Term) (i : Nat) (hi : i < l.length) (cs : List Value), RoC J w (eTerm true l[i]) cs → RoC (RdI D) w (eTerm false l[i]) cs
  | [], i, hi, _, _ => absurd hi (by simp)
  | x :: r, 0, _, cs, h => term_unm hJ x cs h
  | x :: r, i + 1, hi, cs, h => terms_unm hJ r i (by simpa using hi) cs h
end
mutual
theorem term_ok {m : Bool} : ∀ (t : Term) (cs : List Value), RoC J w (eTerm m t) cs → tOk t
  | .mk k o ty vk vi vt kids, cs, h => by
    obtain ⟨u, rfl, h2⟩ := term_cells h
    rw [tOk]
    refine ⟨arr_len h2, terms_ok (m := m) kids fun i hi => ?_⟩
    obtain ⟨es, he⟩ := arr_el h2 hi
    rw [getD_terms _ _ hi] at he
    exact ⟨es, he⟩
theorem terms_ok {m : Bool} : ∀ (l : List Term), (∀ (i : Nat) (hi : i < l.length), ∃ cs, RoC J w (eTerm m l[i]) cs) → tsOk l
  | [], _ => by rw [tsOk]; trivial
  | x :: r, h => by
    rw [tsOk]
    obtain ⟨cs, hc⟩ := h 0 (by simp)
    exact ⟨term_ok x cs hc, terms_ok r fun i hi => h (i + 1) (by simpa using hi)⟩
end
theorem sl_of (hJ : ∀ b, J true b → D b ∧ ∃ C e, w.heap[b]? = some (.cells C e (0, 0))) {n sz : Nat} {g : Nat → PV} {x : Value} (hsz : 0 < sz) (hg : ∀ i, i < n → ∀ es, RoC J w (g i) es → es.length = sz) (h : RoC J w (.arr true n g) [x]) : SlOK D w sz x := by
  simp only [RoC] at h
  obtain ⟨a, c, h1, hn, h⟩ := h
  simp only [List.cons.injEq, and_true] at h1
  refine ⟨a, n, c, h1, hn, fun h0 => ?_⟩
  obtain ⟨b, off, s, rfl, hb, hs, hd, h⟩ := h h0
  obtain ⟨es, he, hr, hc⟩ := h (n - 1) (by omega)
  have : s = sz := by rw [← he]; exact hg _ (by omega) es hr
  subst this
  obtain ⟨hD, C, e, hC⟩ := hJ b hb
  refine ⟨b, off, C, e, rfl, hD, hd (by trivial), hC, ?_⟩
  have h1 := hc (s - 1) (by omega)
  rw [cell_at hC, List.getElem?_eq_getElem (by omega)] at h1
  have := (Array.getElem?_eq_some_iff.1 h1).1
  have h2 : n * s = (n - 1) * s + s := by rw [← Nat.succ_mul]; congr 1; omega
  omega
theorem top_of (hJ : ∀ b, J true b → D b ∧ ∃ C e, w.heap[b]? = some (.cells C e (0, 0))) {l : List Term} {x : Value} (h : RoC J w (.arr true l.length fun j => (eTerms true l).getD j .nilp) [x]) : TopOK D w x := by
  have tlen : ∀ (t : Term) (es : List Value), RoC J w (eTerm true t) es → es.length = 7 := by
    rintro ⟨⟩ es h
    obtain ⟨u, rfl, _⟩ := term_cells h
    rfl
  have hg : ∀ (l : List Term) (i : Nat), i < l.length → ∀ es, RoC J w ((eTerms true l).getD i .nilp) es → es.length = 7 := fun l i hi es h => by
    rw [getD_terms _ _ hi] at h
    exact tlen _ es h
  obtain ⟨a, n, c, h1, hn, hsl⟩ := sl_of hJ (by decide) (hg l) h
  subst h1
  have h' := h
  simp only [RoC] at h'
  obtain ⟨a', c', e1, _, h2⟩ := h'
  simp only [List.cons.injEq, Value.slice.injEq, and_true] at e1
  obtain ⟨rfl, rfl, rfl⟩ := e1
  refine ⟨a, l.length, c, rfl, hn, fun h0 => ?_⟩
  obtain ⟨b, off, C, e, rfl, hD, hd, hC, hsz⟩ := hsl h0
  refine ⟨b, off, C, e, rfl, hD, hd, hC, hsz, fun k hk => ?_⟩
  obtain ⟨b', off', s, e2, hb, hs, _, h3⟩ := h2 h0
  injection e2 with e2
  injection e2 with e2 e3
  subst e2 e3
  obtain ⟨es, he, hr, hc⟩ := h3 k hk
  have hs7 : s = 7 := by rw [← he]; exact hg l k hk es hr
  subst hs7
  rw [getD_terms _ _ hk] at hr
  cases ht : l[k] with
  | mk k1 o ty vk vi vt kids =>
    rw [ht] at hr
    obtain ⟨u, rfl, hu⟩ := term_cells hr
    have h6 := hc 6 (by decide)
    rw [cell_at hC] at h6
    exact ⟨u, h6, sl_of hJ (by decide) (hg kids) hu⟩
end
end
end Go.SP
set_option maxRecDepth 100000
namespace Go.SP
open Go.Proofs Go.RX
noncomputable section
structure Spoils (D : Nat → Prop) (w : World) (A : List Value) : Prop where
  at_ : ∃ c0 x1 x2 x3 x4 x5 c6 x7 c8 x9 x10, A = [c0, x1, x2, x3, x4, x5, c6, x7, c8, x9, x10] ∧ TopOK D w x2 ∧ TopOK D w x3 ∧ TopOK D w x4 ∧ SlOK D w 1 x1 ∧ SlOK D w 1 x5 ∧ SlOK D w 1 x7 ∧ SlOK D w 1 x9 ∧ SlOK D w 1 x10
section
variable {J : Bool → Nat → Prop} {D : Nat → Prop} {w : World}
theorem getD_ints (l : List Int) {i : Nat} (hi : i < l.length) : (l.map eI).getD i .nilp = .int .i64 l[i] := by
  simp [List.getD, hi]
  rfl
theorem getD_sorts (l : List S_i_Sort) {i : Nat} (hi : i < l.length) : (l.map eSort).getD i .nilp = eSort l[i] := by
  simp [List.getD, hi]
theorem ints_rd (hJ : ∀ b, J true b → D b) {l : List Int} {x : Value} (h : RoC J w (.arr true (l.map eI).length fun j => (l.map eI).getD j .nilp) [x]) : RoC (RdI D) w (.arr false (l.map eI).length fun j => (l.map eI).getD j .nilp) [x] :=
  arr_unm hJ h fun i hi es he => by
    rw [getD_ints _ (by simpa using hi)] at he ⊢
    simpa only [RoC] using he
theorem ints_sl (hJ : ∀ b, J true b → D b ∧ ∃ C e, w.heap[b]? = some (.cells C e (0, 0))) {l : List Int} {x : Value} (h : RoC J w (.arr true (l.map eI).length fun j => (l.map eI).getD j .nilp) [x]) : SlOK D w 1 x :=
  sl_of hJ (by decide) (fun i hi es he => by
    rw [getD_ints _ (by simpa using hi)] at he
    simp only [RoC] at he
    rw [he]; rfl) h
theorem sorts_rd (hJ : ∀ b, J true b → D b) {l : List S_i_Sort} {x : Value} (h : RoC J w (.arr true (l.map eSort).length fun j => (l.map eSort).getD j .nilp) [x]) : RoC (RdI D) w (.arr false (l.map eSort).length fun j => (l.map eSort).getD j .nilp) [x] :=
  arr_unm hJ h fun i hi es he => by
    rw [getD_sorts _ (by simpa using hi)] at he ⊢
    simpa only [RoC, RoCs, eSort, p_i_Sort] using he
theorem terms_rd (hJ : ∀ b, J true b → D b) {l : List Term} {x : Value} (h : RoC J w (.arr true (l.map (eTerm true)).length fun j => (l.map (eTerm true)).getD j .nilp) [x]) : RoC (RdI D) w (.arr false (l.map (eTerm false)).length fun j => (l.map (eTerm false)).getD j .nilp) [x] := by
  simp only [List.length_map] at h ⊢
  refine arr_unm hJ h fun i hi es he => ?_
  rw [← eTerms_map, getD_terms _ _ hi] at he ⊢
  exact term_unm hJ _ _ he
theorem terms_top (hJ : ∀ b, J true b → D b ∧ ∃ C e, w.heap[b]? = some (.cells C e (0, 0))) {l : List Term} {x : Value} (h : RoC J w (.arr true (l.map (eTerm true)).length fun j => (l.map (eTerm true)).getD j .nilp) [x]) : TopOK D w x := by
  simp only [List.length_map] at h
  rw [← eTerms_map] at h
  exact top_of hJ h
theorem terms_fit {m : Bool} {l : List Term} {x : Value} (h : RoC J w (.arr m (l.map (eTerm m)).length fun j => (l.map (eTerm m)).getD j .nilp) [x]) : l.length ≤ 9223372036854775807 ∧ tsOk l := by
  simp only [List.length_map] at h
  rw [← eTerms_map] at h
  refine ⟨arr_len h, terms_ok (J := J) (w := w) (m := m) l fun i hi => ?_⟩
  obtain ⟨es, he⟩ := arr_el h hi
  rw [getD_terms _ _ hi] at he
  exact ⟨es, he⟩
theorem map_len {α : Type} {m : Bool} {l : List α} {f : α → PV} {g : Nat → PV} {cs : List Value} (h : RoC J w (.arr m (l.map f).length g) cs) : l.length ≤ 9223372036854775807 := by
  simpa using arr_len h
theorem told_of (hJ : ∀ b, J true b → D b ∧ ∃ C e, w.heap[b]? = some (.cells C e (0, 0))) {t : Typed} {cs : List Value} (h : RoCs J w (p_i_Typed (sTyped true t)) cs) :
    RoCs (RdI D) w (p_i_Typed (sTyped false t)) cs ∧ t.Ok ∧ Spoils D w cs := by
  have hJ' : ∀ b, J true b → D b := fun b hb => (hJ b hb).1
  obtain ⟨c0, r0, rfl, e0, x1, r1, rfl, e1, x2, r2, rfl, e2, x3, r3, rfl, e3, x4, r4, rfl, e4, x5, r5, rfl, e5, c6, r6, rfl, e6, x7, r7, rfl, e7, c8, r8, rfl, e8, x9, r9, rfl, e9, x10, r10, rfl, e10, rfl⟩ := h
  refine ⟨⟨c0, _, rfl, ?_, x1, _, rfl, ints_rd hJ' e1, x2, _, rfl, terms_rd hJ' e2, x3, _, rfl, terms_rd hJ' e3, x4, _, rfl, terms_rd hJ' e4, x5, _, rfl, ints_rd hJ' e5, c6, _, rfl, ?_, x7, _, rfl, ints_rd hJ' e7, c8, _, rfl, sorts_rd hJ' e8, x9, _, rfl, ints_rd hJ' e9, x10, _, rfl, ints_rd hJ' e10, rfl⟩,
    ⟨map_len (f := eI) (l := t.tables) e1, terms_fit e2, terms_fit e3, terms_fit e4, map_len (f := eI) (l := t.columns) e5, map_len (f := eI) (l := t.groups) e7, map_len (f := eSort) (l := t.sorts) e8, map_len (f := eI) (l := t.limit) e9, map_len (f := eI) (l := t.types) e10⟩,
    ⟨c0, x1, x2, x3, x4, x5, c6, x7, c8, x9, x10, rfl, terms_top hJ e2, terms_top hJ e3, terms_top hJ e4, ints_sl hJ e1, ints_sl hJ e5, ints_sl hJ e7, ints_sl hJ e9, ints_sl hJ e10⟩⟩
  · simp only [RoC] at e0 ⊢
    exact e0
  · simp only [RoC] at e6 ⊢
    exact e6
end
def told (c : Catalog) (ps : List S_i_Param) (s : RX.Stmt) : Typed × Int × Int := match checkE c ps s with
  | .ok t => (t, 0, 0)
  | .error f => (zTyped, f.1, f.2)
def avC (c : Catalog) : AV := .agg ((p_i_Catalog (sCatalog false c)).map .p)
def avP (ps : List S_i_Param) : AV := .p (.arr false (ps.map eParam).length fun j => (ps.map eParam).getD j .nilp)
def avS (s : RX.Stmt) : AV := .agg ((p_i_Stmt (sStmt false s)).map .p)
def avT (m : Bool) (t : Typed) : AV := .agg ((p_i_Typed (sTyped m t)).map .p)
def avF (x a : Int) : AV := .agg [.p (.int .i64 x), .p (.int .i64 a)]
theorem call4 (k M : Nat) (hM : M < 1152921504606846976) (hk : M + 300 ≤ k) (c : Catalog) (hc : c.Fits M) (ps : List S_i_Param) (hp : ParsFit M ps) (s : RX.Stmt) (hs : s.Fits M) :
    RunsTo Tryz.prog 4 [avC c, avP ps, avS s] [] (.tup [avT true (told c ps s).1, avF (told c ps s).2.1 (told c ps s).2.2]) [] := by
  have h := allOK k 4 [avC c, avP ps, avS s] [] (fun r h' => r = .tup [avT true (told c ps s).1, avF (told c ps s).2.1 (told c ps s).2.2] ∧ h' = []) (by
    show (TT k).f_check_Check (sCatalog false c) (lst false (ps.map eParam)) (sStmt false s) _
    rw [S_check_Check k M hM hk false c hc ps hp s hs]
    unfold told
    cases checkE c ps s with
    | ok t => exact ⟨rfl, rfl⟩
    | error f => exact ⟨rfl, rfl⟩)
  obtain ⟨r, h', ⟨rfl, rfl⟩, h⟩ := h
  exact h
theorem call5 (k M : Nat) (hM : M < 1152921504606846976) (hk : M + 300 ≤ k) (c : Catalog) (hc : c.Fits M) (ps : List S_i_Param) (hp : ParsFit M ps) (s : RX.Stmt) (hs : s.Fits M) :
    RunsTo Tryz.prog 5 [avC c, avP ps, avS s] [] (.tup [avT true (told c ps s).1, avF (told c ps s).2.1 (told c ps s).2.2]) [] := by
  have h := allOK k 5 [avC c, avP ps, avS s] [] (fun r h' => r = .tup [avT true (told c ps s).1, avF (told c ps s).2.1 (told c ps s).2.2] ∧ h' = []) (by
    show (TT k).f_ref13_Check (sCatalog false c) (lst false (ps.map eParam)) (sStmt false s) _
    rw [S_ref13_Check k M hM hk false c hc ps hp s hs]
    unfold told
    cases checkE c ps s with
    | ok t => exact ⟨rfl, rfl⟩
    | error f => exact ⟨rfl, rfl⟩)
  obtain ⟨r, h', ⟨rfl, rfl⟩, h⟩ := h
  exact h
theorem call6 (t : Typed) (ht : t.Ok) : RunsTo Tryz.prog 6 [avT false t, avT false t] [] (.p (.bool true)) [] := by
  obtain ⟨k, hk⟩ : ∃ k, t.sz + 5 < k := ⟨t.sz + 6, by omega⟩
  have h := allOK k 6 [avT false t, avT false t] [] (fun r h' => r = .p (.bool true) ∧ h' = []) (by
    show (TT k).f_law13_same (sTyped false t) (sTyped false t) _
    rw [S_same false false k t hk ht]
    exact ⟨rfl, rfl⟩)
  obtain ⟨r, h', ⟨rfl, rfl⟩, h⟩ := h
  exact h
end
end Go.SP
set_option maxRecDepth 100000
namespace Go.SP
open Go.Proofs Go.RX
noncomputable section
section
variable {P : Program} {nt : Nat} {ops : Array Oper} {os : List Oper} {T : Tm} {w : World} {Q : Tm → World → Prop} {dst : Option Tmp} {ty : TypeId} {pos : String} {after : Array Edge}
theorem goS_callU {f : FuncId} {args : Array Operand} {ats : Array TypeId} (hd : dstOk nt dst = true) {vals : Array Value} (hx : args.map (ev T) = vals) (R : Value → World → Prop)
    (hc : ∀ (o : Oper) (a : Act) (next : Act → World → Prop) (E : Exit → Act → World → Prop), (∀ v w', R v w' → next (a.put o.dst v) w') → o.upon P a next E ((callFunc f vals).run P w))
    (h : ∀ v w', R v w' → goS P nt ops os (upT T dst v) w' Q) : goS P nt ops (⟨dst, .call { callee := .value (.func f), args := args, argTypes := ats }, ty, pos, after, none⟩ :: os) T w Q := by
  refine ⟨hd, by trivial, R, fun a next E hi hn => ?_, h⟩
  have hexec : (execOp a.eval ⟨dst, .call { callee := .value (.func f), args := args, argTypes := ats }, ty, pos, after, none⟩).run P w = (callFunc f vals).run P w := by
    have : args.map a.eval = vals := by rw [hi.ev]; exact hx
    simp [execOp, resolve, Act.eval, Deferred.ofValue, invoke, this]
  show Oper.upon P _ a next E ((execOp a.eval _).run P w)
  rw [hexec]
  exact hc _ a next E hn
theorem goS_extract {x : Operand} {i : Nat} (hd : dstOk nt dst = true) {C : Array Value} {v : Value} (hx : ev T x = .tuple C) (hv : C[i]? = some v)
    (h : goS P nt ops os (upT T dst v) w Q) : goS P nt ops (⟨dst, .extract x i, ty, pos, after, none⟩ :: os) T w Q :=
  goS_val (by trivial) hd (v := v) (w' := w) (by simp [execOp, Instr.extract, hx, hv]) h
theorem goS_storeAll {t : TypeId} {n : Nat} {x y : Operand} (hn : sizeT P t = some n) {b : Nat} {C A : Array Value} {e : TypeId} (hx : ev T x = .pointer (some ⟨b, 0, none⟩)) (hy : ev T y = .agg A) (hc : A.size = n) (h1 : ∀ u ∈ A.toList, u.oneCell' = true)
    (hb : w.heap[b]? = some (.cells C e (0, 0))) (hl : C.size = n)
    (h : goS P nt ops os T (w.setRow b A) Q) : goS P nt ops (⟨none, .store t x y, ty, pos, after, none⟩ :: os) T w Q := by
  refine goS_store hn hx hy hc h1 hb (by omega) ?_
  have e1 : (C.toList.take 0 ++ (Value.agg A).cells.toList ++ C.toList.drop (0 + n)).toArray = A := by
    have : C.toList.drop (0 + n) = [] := List.drop_eq_nil_of_le (by rw [Array.length_toList]; omega)
    rw [this]
    simp [Value.cells]
  rw [e1]
  exact h
end
theorem Kp.refl (w : World) : Kp w w := ⟨rfl, rfl, rfl, Nat.le_refl _, fun _ _ => rfl⟩
theorem Kp.trans {a b c : World} (h : Kp a b) (k : Kp b c) : Kp a c :=
  ⟨k.os.trans h.os, k.tape.trans h.tape, k.output.trans h.output, Nat.le_trans h.size k.size, fun i hi => (k.keep i (Nat.lt_of_lt_of_le hi h.size)).trans (h.keep i hi)⟩
theorem Kp.alloc (w : World) (o : Obj) : Kp w (w.alloc o) := ⟨rfl, rfl, rfl, by rw [World.size_alloc]; omega, fun b hb => heap_alloc_old w o b hb⟩
theorem size_setRow (w : World) (b : Nat) (X : Array Value) : (w.setRow b X).heap.size = w.heap.size := by simp [World.setRow]
theorem two_boxes (w : World) (zA zF A F : Array Value) :
    Kp w ((((w.alloc (.cells zA 35)).alloc (.cells zF 38)).setRow w.heap.size A).setRow (w.heap.size + 1) F) ∧
    ((((w.alloc (.cells zA 35)).alloc (.cells zF 38)).setRow w.heap.size A).setRow (w.heap.size + 1) F).heap[w.heap.size]? = some (.cells A 35 (0, 0)) ∧
    ((((w.alloc (.cells zA 35)).alloc (.cells zF 38)).setRow w.heap.size A).setRow (w.heap.size + 1) F).heap[w.heap.size + 1]? = some (.cells F 38 (0, 0)) ∧
    ((((w.alloc (.cells zA 35)).alloc (.cells zF 38)).setRow w.heap.size A).setRow (w.heap.size + 1) F).heap.size = w.heap.size + 2 := by
  have s1 : (w.alloc (.cells zA 35)).heap.size = w.heap.size + 1 := World.size_alloc _ _
  have s2 : ((w.alloc (.cells zA 35)).alloc (.cells zF 38)).heap.size = w.heap.size + 2 := (World.size_alloc _ _).trans (by rw [s1])
  have hA : ((w.alloc (.cells zA 35)).alloc (.cells zF 38)).heap[w.heap.size]? = some (.cells zA 35 (0, 0)) := (heap_alloc_old _ _ _ (by omega)).trans (heap_alloc_new _ _)
  have hF : ((w.alloc (.cells zA 35)).alloc (.cells zF 38)).heap[w.heap.size + 1]? = some (.cells zF 38 (0, 0)) := by rw [← s1]; exact heap_alloc_new _ _
  refine ⟨⟨rfl, rfl, rfl, by rw [size_setRow, size_setRow, s2]; omega, fun b hb => ?_⟩, ?_, ?_, by rw [size_setRow, size_setRow, s2]⟩
  · rw [setRow_other _ _ _ _ (by omega), setRow_other _ _ _ _ (by omega), heap_alloc_old _ _ _ (by omega), heap_alloc_old _ _ _ hb]
  · rw [setRow_other _ _ _ _ (by omega)]
    exact setRow_heap _ _ _ _ _ _ hA
  · refine setRow_heap _ _ zF _ _ _ ?_
    rw [setRow_other _ _ _ _ (by omega)]
    exact hF
theorem s25 : sizeT Tryz.prog 25 = some 2 := by kernel_rfl
theorem s32 : sizeT Tryz.prog 32 = some 13 := by kernel_rfl
theorem s38 : sizeT Tryz.prog 38 = some 2 := by kernel_rfl
theorem a25 : isAggT Tryz.prog 25 = some true := by kernel_rfl
theorem a32 : isAggT Tryz.prog 32 = some true := by kernel_rfl
theorem a35 : isAggT Tryz.prog 35 = some true := by kernel_rfl
theorem a38 : isAggT Tryz.prog 38 = some true := by kernel_rfl
def zT : Array Value := #[.int .i64 0, .slice none 0 0, .slice none 0 0, .slice none 0 0, .slice none 0 0, .slice none 0 0, .bool false, .slice none 0 0, .slice none 0 0, .slice none 0 0, .slice none 0 0]
def zF : Array Value := #[.int .i64 0, .int .i64 0]
theorem z35 : zeroT Tryz.prog 35 = some (.agg zT) := by kernel_rfl
theorem z38 : zeroT Tryz.prog 38 = some (.agg zF) := by kernel_rfl
theorem flat38 : flatT Tryz.prog 38 [.i .i64, .i .i64] = true := by kernel_rfl
end
end Go.SP
set_option maxRecDepth 100000
namespace Go.SP
open Go.Proofs Go.RX
noncomputable section
noncomputable def code3 : Code := match Tryz.f3.body with | some c => c | none => .skip
def lw0 : Code := sub code3 [false]
def lw1 : Code := sub code3 [true, false]
def lw2 : Code := sub code3 [true, true, false]
def lw3 : Code := sub code3 [true, true, true, false]
def lw4 : Code := sub code3 [true, true, true, true, false]
def lw5 : Code := sub code3 [true, true, true, true, true, false]
def lw6 : Code := sub code3 [true, true, true, true, true, true, false]
def lw7 : Code := sub code3 [true, true, true, true, true, true, true, false]
def lw8 : Code := sub code3 [true, true, true, true, true, true, true, true, false]
def lw9 : Code := sub code3 [true, true, true, true, true, true, true, true, true, false]
def lw10 : Code := sub code3 [true, true, true, true, true, true, true, true, true, true, false]
def Keep2 (p q : Nat) (T T' : Tm) : Prop := ∀ t, t < 22 → t ≠ p → t ≠ q → T' t = T t
theorem SlOK.move {D : Nat → Prop} {w w' : World} (hw : ∀ b, D b → w'.heap[b]? = w.heap[b]?) {sz : Nat} {v : Value} (h : SlOK D w sz v) : SlOK D w' sz v :=
  h.same fun b C e hd hb => ⟨C, by rw [hw b hd]; exact hb, rfl⟩
theorem TopOK.move {D : Nat → Prop} {w w' : World} (hw : ∀ b, D b → w'.heap[b]? = w.heap[b]?) {v : Value} (h : TopOK D w v) : TopOK D w' v := by
  obtain ⟨a, n, c, h1, h2, h3⟩ := h
  refine ⟨a, n, c, h1, h2, fun h0 => ?_⟩
  obtain ⟨b, off, C, e, h4, h5, h6, h7, h8, h9⟩ := h3 h0
  refine ⟨b, off, C, e, h4, h5, h6, by rw [hw b h5]; exact h7, h8, fun k hk => ?_⟩
  obtain ⟨u, hu, hs⟩ := h9 k hk
  exact ⟨u, hu, hs.move hw⟩
theorem Spoils.move {D : Nat → Prop} {w w' : World} (hw : ∀ b, D b → w'.heap[b]? = w.heap[b]?) {A : List Value} (h : Spoils D w A) : Spoils D w' A := by
  obtain ⟨c0, x1, x2, x3, x4, x5, c6, x7, c8, x9, x10, rfl, h2, h3, h4, h1, h5, h7, h9, h10⟩ := h
  exact ⟨c0, x1, x2, x3, x4, x5, c6, x7, c8, x9, x10, rfl, h2.move hw, h3.move hw, h4.move hw, h1.move hw, h5.move hw, h7.move hw, h9.move hw, h10.move hw⟩
theorem avT_inv {c : Cx} {m : Bool} {t : Typed} {v : Value} (h : V c (avT m t) v) : ∃ A, v = .agg A ∧ RoCs c.J c.w (p_i_Typed (sTyped m t)) A.toList ∧ ∀ u ∈ A.toList, u.oneCell' = true := by
  simp only [avT, V] at h
  obtain ⟨A, rfl, h1, h2⟩ := h
  exact ⟨A, rfl, (Vs_map_p _ _).1 h1, h2⟩
theorem tup_inv {c : Cx} {t : Typed} {x y : Int} {v : Value} (h : V c (.tup [avT true t, avF x y]) v) :
    ∃ A, v = .tuple #[.agg A, .agg #[.int .i64 x, .int .i64 y]] ∧ RoCs c.J c.w (p_i_Typed (sTyped true t)) A.toList ∧ ∀ u ∈ A.toList, u.oneCell' = true := by
  simp only [V, Vs] at h
  obtain ⟨C, rfl, v1, r1, hC, h1, v2, r2, rfl, h2, rfl⟩ := h
  obtain ⟨A, rfl, h3, h4⟩ := avT_inv h1
  simp only [avF, V, Vs, RoC] at h2
  obtain ⟨F, rfl, ⟨u1, s1, hF, e1, u2, s2, rfl, e2, rfl⟩, _⟩ := h2
  simp only [List.cons.injEq, and_true] at e1 e2
  subst e1 e2
  refine ⟨A, ?_, h3, h4⟩
  congr 1
  apply Array.toList_inj.1
  rw [hC]
  congr 2
  congr 1
  apply Array.toList_inj.1
  rw [hF]
theorem typed_size {J : Bool → Nat → Prop} {w : World} {m : Bool} {t : Typed} {A : Array Value} (h : RoCs J w (p_i_Typed (sTyped m t)) A.toList) : A.size = 11 := by
  have := h.length
  rw [Array.length_toList] at this
  exact this
theorem args_V {L : Nat → Prop} {w : World} (hL : ∀ b, L b → b < w.heap.size) {c : Catalog} {ps : List S_i_Param} {s : RX.Stmt} {CC SS : Array Value} {vP : Value} (hC : RoCs (RdI L) w (p_i_Catalog (sCatalog false c)) CC.toList)
    (hP : RoC (RdI L) w (.arr false (ps.map eParam).length fun j => (ps.map eParam).getD j .nilp) [vP]) (hS : RoCs (RdI L) w (p_i_Stmt (sStmt false s)) SS.toList) :
    Vs (cx0 w) [avC c, avP ps, avS s] (#[.agg CC, vP, .agg SS] : Array Value).toList := by
  simp only [Vs, V, avC, avP, avS]
  exact ⟨_, _, rfl, ⟨CC, rfl, (Vs_map_p _ _).2 (rd_cx hL hC), RoCs.ones _ _ hC⟩, _, _, rfl, rd_cx1 hL hP, _, _, rfl, ⟨SS, rfl, (Vs_map_p _ _).2 (rd_cx hL hS), RoCs.ones _ _ hS⟩, rfl⟩
section
variable {T : Tm} {a : Act} {w : World} {E : Exit → Act → World → Prop}
theorem chk1 (hi : Is 90 a T) {b4 b6 : Nat} {CC SS : Array Value} {L : Nat → Prop} {c : Catalog} {ps : List S_i_Param} {s : RX.Stmt} {t : Typed} {x y : Int} (h4 : T 4 = .pointer (some ⟨b4, 0, none⟩)) (h6 : T 6 = .pointer (some ⟨b6, 0, none⟩))
    (m4 : w.heap[b4]? = some (.cells CC 25 (0, 0))) (m6 : w.heap[b6]? = some (.cells SS 32 (0, 0))) (hL : ∀ b, L b → b < w.heap.size) (hC : RoCs (RdI L) w (p_i_Catalog (sCatalog false c)) CC.toList)
    (hP : RoC (RdI L) w (.arr false (ps.map eParam).length fun j => (ps.map eParam).getD j .nilp) [T 1]) (hS : RoCs (RdI L) w (p_i_Stmt (sStmt false s)) SS.toList)
    (hf : RunsTo Tryz.prog 4 [avC c, avP ps, avS s] [] (.tup [avT true t, avF x y]) [])
    (hq : ∀ a' T' w' (A : Array Value) (D : Nat → Prop) lo, Is 90 a' T' → Keep2 9 10 T T' → T' 9 = .pointer (some ⟨lo, 0, none⟩) → T' 10 = .pointer (some ⟨lo + 1, 0, none⟩) → Kp w w' → w'.heap[lo]? = some (.cells A 35 (0, 0)) → w'.heap[lo + 1]? = some (.cells #[.int .i64 x, .int .i64 y] 38 (0, 0)) →
      w'.heap.size = lo + 2 → w.heap.size ≤ lo → (∀ b, D b → w.heap.size ≤ b ∧ b < lo) → RoCs (RdI D) w' (p_i_Typed (sTyped false t)) A.toList → t.Ok → Spoils D w' A.toList → E .normal a' w') : lw1.wp Tryz.prog E a w := by
  refine region_ok (Q := fun T' w' => ∀ a', Is 90 a' T' → E .normal a' w') hi ?_ (fun a' T' w' h hq => hq a' h)
  refine goS_loadA (by trivial) (by rfl) a25 s25 (b := b4) (o := 0) (by simp [ev, upT, Act.eval, *]) (es := CC.toList) hC.length (fun j _ => by rw [cell_at m4]; simp) ?_
  refine goS_move (by trivial) (by rfl) ?_
  refine goS_loadA (by trivial) (by rfl) a32 s32 (b := b6) (o := 0) (by simp [ev, upT, Act.eval, *]) (es := SS.toList) hS.length (fun j _ => by rw [cell_at m6]; simp) ?_
  refine goS_callU (by rfl) (vals := #[.agg CC, T 1, .agg SS]) (by simp [ev, upT]) (fun v w1 => ∃ c', w1 = c'.w ∧ V c' (.tup [avT true t, avF x y]) v ∧ HRl c' [] ∧ c'.base = w.heap.size ∧ Kp w c'.w)
    (fun o a next E hn => upon_call hf (args_V hL hC hP hS) o a next E fun v c' h1 h2 h3 h4 => hn v _ ⟨c', rfl, h1, h2, h3, h4⟩) ?_
  rintro v w1 ⟨c', rfl, h1, h2, h3, hk⟩
  obtain ⟨A, rfl, hA, hones⟩ := tup_inv h1
  refine goS_move (by trivial) (by rfl) ?_
  refine goS_extract (by rfl) (C := #[.agg A, .agg #[.int .i64 x, .int .i64 y]]) (v := .agg A) (by simp [ev, upT, Act.eval, *]) rfl ?_
  refine goS_extract (by rfl) (C := #[.agg A, .agg #[.int .i64 x, .int .i64 y]]) (v := .agg #[.int .i64 x, .int .i64 y]) (by simp [ev, upT, Act.eval, *]) rfl ?_
  refine goS_alloc (by rfl) z35 ?_
  refine goS_alloc (by rfl) z38 ?_
  have hs1 : (c'.w.alloc (.cells zT 35)).heap.size = c'.w.heap.size + 1 := World.size_alloc _ _
  have hbA : ((c'.w.alloc (.cells zT 35)).alloc (.cells zF 38)).heap[c'.w.heap.size]? = some (.cells zT 35 (0, 0)) := (heap_alloc_old _ _ _ (by omega)).trans (heap_alloc_new _ _)
  have hbF : (((c'.w.alloc (.cells zT 35)).alloc (.cells zF 38)).setRow c'.w.heap.size A).heap[c'.w.heap.size + 1]? = some (.cells zF 38 (0, 0)) := by
    rw [setRow_other _ _ _ _ (by omega), ← hs1]
    exact heap_alloc_new _ _
  refine goS_storeAll s35 (b := c'.w.heap.size) (C := zT) (e := 35) (A := A) (by simp [ev, upT, Act.eval, *]) (by simp [ev, upT, Act.eval, *]) (typed_size hA) hones hbA rfl ?_
  refine goS_storeAll s38 (b := c'.w.heap.size + 1) (C := zF) (e := 38) (A := #[.int .i64 x, .int .i64 y]) (by simp only [ev, upT, Nat.reduceEqDiff, if_false, if_true, ← hs1]; rfl) (by simp [ev, upT, Act.eval, *]) rfl (by simp [Value.oneCell']) hbF rfl ?_
  intro a' hi'
  obtain ⟨tb1, tb2, tb3, tb4⟩ := two_boxes c'.w zT zF A #[.int .i64 x, .int .i64 y]
  obtain ⟨t1, t2, t3⟩ := told_of (D := fun b => w.heap.size ≤ b ∧ b < c'.w.heap.size) (fun b hb => ⟨⟨by rw [← h3]; exact (hb.2 rfl).1, h2.hr.bound b hb.1⟩, (hb.2 rfl).2⟩) hA
  exact hq a' _ _ A (fun b => w.heap.size ≤ b ∧ b < c'.w.heap.size) c'.w.heap.size hi' (by intro t ht hne hne2; simp only [upT]; (repeat (refine (if_neg ?_).trans ?_; (intro h; first | exact hne h.symm | exact hne2 h.symm | exact absurd ht (by rw [← h]; decide)))); rfl) rfl (by simp only [upT, Nat.reduceEqDiff, if_false, if_true, ← hs1]; rfl) (hk.trans tb1) tb2 tb3 tb4 hk.size (fun b hb => hb) (rd_mono (fun b hb => tb1.keep b hb.2) t1) t2 (t3.move fun b hb => tb1.keep b hb.2)
theorem chk2 (hi : Is 90 a T) {b4 b6 : Nat} {CC SS : Array Value} {L : Nat → Prop} {c : Catalog} {ps : List S_i_Param} {s : RX.Stmt} {t : Typed} {x y : Int} (h4 : T 4 = .pointer (some ⟨b4, 0, none⟩)) (h6 : T 6 = .pointer (some ⟨b6, 0, none⟩))
    (m4 : w.heap[b4]? = some (.cells CC 25 (0, 0))) (m6 : w.heap[b6]? = some (.cells SS 32 (0, 0))) (hL : ∀ b, L b → b < w.heap.size) (hC : RoCs (RdI L) w (p_i_Catalog (sCatalog false c)) CC.toList)
    (hP : RoC (RdI L) w (.arr false (ps.map eParam).length fun j => (ps.map eParam).getD j .nilp) [T 1]) (hS : RoCs (RdI L) w (p_i_Stmt (sStmt false s)) SS.toList)
    (hf : RunsTo Tryz.prog 5 [avC c, avP ps, avS s] [] (.tup [avT true t, avF x y]) [])
    (hq : ∀ a' T' w' (A : Array Value) (D : Nat → Prop) lo, Is 90 a' T' → Keep2 11 12 T T' → T' 11 = .pointer (some ⟨lo, 0, none⟩) → T' 12 = .pointer (some ⟨lo + 1, 0, none⟩) → Kp w w' → w'.heap[lo]? = some (.cells A 35 (0, 0)) → w'.heap[lo + 1]? = some (.cells #[.int .i64 x, .int .i64 y] 38 (0, 0)) →
      w'.heap.size = lo + 2 → w.heap.size ≤ lo → (∀ b, D b → w.heap.size ≤ b ∧ b < lo) → RoCs (RdI D) w' (p_i_Typed (sTyped false t)) A.toList → t.Ok → Spoils D w' A.toList → E .normal a' w') : lw2.wp Tryz.prog E a w := by
  refine region_ok (Q := fun T' w' => ∀ a', Is 90 a' T' → E .normal a' w') hi ?_ (fun a' T' w' h hq => hq a' h)
  refine goS_loadA (by trivial) (by rfl) a25 s25 (b := b4) (o := 0) (by simp [ev, upT, Act.eval, *]) (es := CC.toList) hC.length (fun j _ => by rw [cell_at m4]; simp) ?_
  refine goS_move (by trivial) (by rfl) ?_
  refine goS_loadA (by trivial) (by rfl) a32 s32 (b := b6) (o := 0) (by simp [ev, upT, Act.eval, *]) (es := SS.toList) hS.length (fun j _ => by rw [cell_at m6]; simp) ?_
  refine goS_callU (by rfl) (vals := #[.agg CC, T 1, .agg SS]) (by simp [ev, upT]) (fun v w1 => ∃ c', w1 = c'.w ∧ V c' (.tup [avT true t, avF x y]) v ∧ HRl c' [] ∧ c'.base = w.heap.size ∧ Kp w c'.w)
    (fun o a next E hn => upon_call hf (args_V hL hC hP hS) o a next E fun v c' h1 h2 h3 h4 => hn v _ ⟨c', rfl, h1, h2, h3, h4⟩) ?_
  rintro v w1 ⟨c', rfl, h1, h2, h3, hk⟩
  obtain ⟨A, rfl, hA, hones⟩ := tup_inv h1
  refine goS_move (by trivial) (by rfl) ?_
  refine goS_extract (by rfl) (C := #[.agg A, .agg #[.int .i64 x, .int .i64 y]]) (v := .agg A) (by simp [ev, upT, Act.eval, *]) rfl ?_
  refine goS_extract (by rfl) (C := #[.agg A, .agg #[.int .i64 x, .int .i64 y]]) (v := .agg #[.int .i64 x, .int .i64 y]) (by simp [ev, upT, Act.eval, *]) rfl ?_
  refine goS_alloc (by rfl) z35 ?_
  refine goS_alloc (by rfl) z38 ?_
  have hs1 : (c'.w.alloc (.cells zT 35)).heap.size = c'.w.heap.size + 1 := World.size_alloc _ _
  have hbA : ((c'.w.alloc (.cells zT 35)).alloc (.cells zF 38)).heap[c'.w.heap.size]? = some (.cells zT 35 (0, 0)) := (heap_alloc_old _ _ _ (by omega)).trans (heap_alloc_new _ _)
  have hbF : (((c'.w.alloc (.cells zT 35)).alloc (.cells zF 38)).setRow c'.w.heap.size A).heap[c'.w.heap.size + 1]? = some (.cells zF 38 (0, 0)) := by
    rw [setRow_other _ _ _ _ (by omega), ← hs1]
    exact heap_alloc_new _ _
  refine goS_storeAll s35 (b := c'.w.heap.size) (C := zT) (e := 35) (A := A) (by simp [ev, upT, Act.eval, *]) (by simp [ev, upT, Act.eval, *]) (typed_size hA) hones hbA rfl ?_
  refine goS_storeAll s38 (b := c'.w.heap.size + 1) (C := zF) (e := 38) (A := #[.int .i64 x, .int .i64 y]) (by simp only [ev, upT, Nat.reduceEqDiff, if_false, if_true, ← hs1]; rfl) (by simp [ev, upT, Act.eval, *]) rfl (by simp [Value.oneCell']) hbF rfl ?_
  intro a' hi'
  obtain ⟨tb1, tb2, tb3, tb4⟩ := two_boxes c'.w zT zF A #[.int .i64 x, .int .i64 y]
  obtain ⟨t1, t2, t3⟩ := told_of (D := fun b => w.heap.size ≤ b ∧ b < c'.w.heap.size) (fun b hb => ⟨⟨by rw [← h3]; exact (hb.2 rfl).1, h2.hr.bound b hb.1⟩, (hb.2 rfl).2⟩) hA
  exact hq a' _ _ A (fun b => w.heap.size ≤ b ∧ b < c'.w.heap.size) c'.w.heap.size hi' (by intro t ht hne hne2; simp only [upT]; (repeat (refine (if_neg ?_).trans ?_; (intro h; first | exact hne h.symm | exact hne2 h.symm | exact absurd ht (by rw [← h]; decide)))); rfl) rfl (by simp only [upT, Nat.reduceEqDiff, if_false, if_true, ← hs1]; rfl) (hk.trans tb1) tb2 tb3 tb4 hk.size (fun b hb => hb) (rd_mono (fun b hb => tb1.keep b hb.2) t1) t2 (t3.move fun b hb => tb1.keep b hb.2)
theorem chk5 (hi : Is 90 a T) {b4 b6 : Nat} {CC SS : Array Value} {L : Nat → Prop} {c : Catalog} {ps : List S_i_Param} {s : RX.Stmt} {t : Typed} {x y : Int} (h4 : T 4 = .pointer (some ⟨b4, 0, none⟩)) (h6 : T 7 = .pointer (some ⟨b6, 0, none⟩))
    (m4 : w.heap[b4]? = some (.cells CC 25 (0, 0))) (m6 : w.heap[b6]? = some (.cells SS 32 (0, 0))) (hL : ∀ b, L b → b < w.heap.size) (hC : RoCs (RdI L) w (p_i_Catalog (sCatalog false c)) CC.toList)
    (hP : RoC (RdI L) w (.arr false (ps.map eParam).length fun j => (ps.map eParam).getD j .nilp) [T 1]) (hS : RoCs (RdI L) w (p_i_Stmt (sStmt false s)) SS.toList)
    (hf : RunsTo Tryz.prog 4 [avC c, avP ps, avS s] [] (.tup [avT true t, avF x y]) [])
    (hq : ∀ a' T' w' (A : Array Value) (D : Nat → Prop) lo, Is 90 a' T' → Keep2 14 15 T T' → T' 14 = .pointer (some ⟨lo, 0, none⟩) → T' 15 = .pointer (some ⟨lo + 1, 0, none⟩) → Kp w w' → w'.heap[lo]? = some (.cells A 35 (0, 0)) → w'.heap[lo + 1]? = some (.cells #[.int .i64 x, .int .i64 y] 38 (0, 0)) →
      w'.heap.size = lo + 2 → w.heap.size ≤ lo → (∀ b, D b → w.heap.size ≤ b ∧ b < lo) → RoCs (RdI D) w' (p_i_Typed (sTyped false t)) A.toList → t.Ok → Spoils D w' A.toList → E .normal a' w') : lw5.wp Tryz.prog E a w := by
  refine region_ok (Q := fun T' w' => ∀ a', Is 90 a' T' → E .normal a' w') hi ?_ (fun a' T' w' h hq => hq a' h)
  refine goS_loadA (by trivial) (by rfl) a25 s25 (b := b4) (o := 0) (by simp [ev, upT, Act.eval, *]) (es := CC.toList) hC.length (fun j _ => by rw [cell_at m4]; simp) ?_
  refine goS_move (by trivial) (by rfl) ?_
  refine goS_loadA (by trivial) (by rfl) a32 s32 (b := b6) (o := 0) (by simp [ev, upT, Act.eval, *]) (es := SS.toList) hS.length (fun j _ => by rw [cell_at m6]; simp) ?_
  refine goS_callU (by rfl) (vals := #[.agg CC, T 1, .agg SS]) (by simp [ev, upT]) (fun v w1 => ∃ c', w1 = c'.w ∧ V c' (.tup [avT true t, avF x y]) v ∧ HRl c' [] ∧ c'.base = w.heap.size ∧ Kp w c'.w)
    (fun o a next E hn => upon_call hf (args_V hL hC hP hS) o a next E fun v c' h1 h2 h3 h4 => hn v _ ⟨c', rfl, h1, h2, h3, h4⟩) ?_
  rintro v w1 ⟨c', rfl, h1, h2, h3, hk⟩
  obtain ⟨A, rfl, hA, hones⟩ := tup_inv h1
  refine goS_move (by trivial) (by rfl) ?_
  refine goS_extract (by rfl) (C := #[.agg A, .agg #[.int .i64 x, .int .i64 y]]) (v := .agg A) (by simp [ev, upT, Act.eval, *]) rfl ?_
  refine goS_extract (by rfl) (C := #[.agg A, .agg #[.int .i64 x, .int .i64 y]]) (v := .agg #[.int .i64 x, .int .i64 y]) (by simp [ev, upT, Act.eval, *]) rfl ?_
  refine goS_alloc (by rfl) z35 ?_
  refine goS_alloc (by rfl) z38 ?_
  have hs1 : (c'.w.alloc (.cells zT 35)).heap.size = c'.w.heap.size + 1 := World.size_alloc _ _
  have hbA : ((c'.w.alloc (.cells zT 35)).alloc (.cells zF 38)).heap[c'.w.heap.size]? = some (.cells zT 35 (0, 0)) := (heap_alloc_old _ _ _ (by omega)).trans (heap_alloc_new _ _)
  have hbF : (((c'.w.alloc (.cells zT 35)).alloc (.cells zF 38)).setRow c'.w.heap.size A).heap[c'.w.heap.size + 1]? = some (.cells zF 38 (0, 0)) := by
    rw [setRow_other _ _ _ _ (by omega), ← hs1]
    exact heap_alloc_new _ _
  refine goS_storeAll s35 (b := c'.w.heap.size) (C := zT) (e := 35) (A := A) (by simp [ev, upT, Act.eval, *]) (by simp [ev, upT, Act.eval, *]) (typed_size hA) hones hbA rfl ?_
  refine goS_storeAll s38 (b := c'.w.heap.size + 1) (C := zF) (e := 38) (A := #[.int .i64 x, .int .i64 y]) (by simp only [ev, upT, Nat.reduceEqDiff, if_false, if_true, ← hs1]; rfl) (by simp [ev, upT, Act.eval, *]) rfl (by simp [Value.oneCell']) hbF rfl ?_
  intro a' hi'
  obtain ⟨tb1, tb2, tb3, tb4⟩ := two_boxes c'.w zT zF A #[.int .i64 x, .int .i64 y]
  obtain ⟨t1, t2, t3⟩ := told_of (D := fun b => w.heap.size ≤ b ∧ b < c'.w.heap.size) (fun b hb => ⟨⟨by rw [← h3]; exact (hb.2 rfl).1, h2.hr.bound b hb.1⟩, (hb.2 rfl).2⟩) hA
  exact hq a' _ _ A (fun b => w.heap.size ≤ b ∧ b < c'.w.heap.size) c'.w.heap.size hi' (by intro t ht hne hne2; simp only [upT]; (repeat (refine (if_neg ?_).trans ?_; (intro h; first | exact hne h.symm | exact hne2 h.symm | exact absurd ht (by rw [← h]; decide)))); rfl) rfl (by simp only [upT, Nat.reduceEqDiff, if_false, if_true, ← hs1]; rfl) (hk.trans tb1) tb2 tb3 tb4 hk.size (fun b hb => hb) (rd_mono (fun b hb => tb1.keep b hb.2) t1) t2 (t3.move fun b hb => tb1.keep b hb.2)
theorem chk6 (hi : Is 90 a T) {b4 b6 : Nat} {CC SS : Array Value} {L : Nat → Prop} {c : Catalog} {ps : List S_i_Param} {s : RX.Stmt} {t : Typed} {x y : Int} (h4 : T 4 = .pointer (some ⟨b4, 0, none⟩)) (h6 : T 7 = .pointer (some ⟨b6, 0, none⟩))
    (m4 : w.heap[b4]? = some (.cells CC 25 (0, 0))) (m6 : w.heap[b6]? = some (.cells SS 32 (0, 0))) (hL : ∀ b, L b → b < w.heap.size) (hC : RoCs (RdI L) w (p_i_Catalog (sCatalog false c)) CC.toList)
    (hP : RoC (RdI L) w (.arr false (ps.map eParam).length fun j => (ps.map eParam).getD j .nilp) [T 1]) (hS : RoCs (RdI L) w (p_i_Stmt (sStmt false s)) SS.toList)
    (hf : RunsTo Tryz.prog 5 [avC c, avP ps, avS s] [] (.tup [avT true t, avF x y]) [])
    (hq : ∀ a' T' w' (A : Array Value) (D : Nat → Prop) lo, Is 90 a' T' → Keep2 16 17 T T' → T' 16 = .pointer (some ⟨lo, 0, none⟩) → T' 17 = .pointer (some ⟨lo + 1, 0, none⟩) → Kp w w' → w'.heap[lo]? = some (.cells A 35 (0, 0)) → w'.heap[lo + 1]? = some (.cells #[.int .i64 x, .int .i64 y] 38 (0, 0)) →
      w'.heap.size = lo + 2 → w.heap.size ≤ lo → (∀ b, D b → w.heap.size ≤ b ∧ b < lo) → RoCs (RdI D) w' (p_i_Typed (sTyped false t)) A.toList → t.Ok → Spoils D w' A.toList → E .normal a' w') : lw6.wp Tryz.prog E a w := by
  refine region_ok (Q := fun T' w' => ∀ a', Is 90 a' T' → E .normal a' w') hi ?_ (fun a' T' w' h hq => hq a' h)
  refine goS_loadA (by trivial) (by rfl) a25 s25 (b := b4) (o := 0) (by simp [ev, upT, Act.eval, *]) (es := CC.toList) hC.length (fun j _ => by rw [cell_at m4]; simp) ?_
  refine goS_move (by trivial) (by rfl) ?_
  refine goS_loadA (by trivial) (by rfl) a32 s32 (b := b6) (o := 0) (by simp [ev, upT, Act.eval, *]) (es := SS.toList) hS.length (fun j _ => by rw [cell_at m6]; simp) ?_
  refine goS_callU (by rfl) (vals := #[.agg CC, T 1, .agg SS]) (by simp [ev, upT]) (fun v w1 => ∃ c', w1 = c'.w ∧ V c' (.tup [avT true t, avF x y]) v ∧ HRl c' [] ∧ c'.base = w.heap.size ∧ Kp w c'.w)
    (fun o a next E hn => upon_call hf (args_V hL hC hP hS) o a next E fun v c' h1 h2 h3 h4 => hn v _ ⟨c', rfl, h1, h2, h3, h4⟩) ?_
  rintro v w1 ⟨c', rfl, h1, h2, h3, hk⟩
  obtain ⟨A, rfl, hA, hones⟩ := tup_inv h1
  refine goS_move (by trivial) (by rfl) ?_
  refine goS_extract (by rfl) (C := #[.agg A, .agg #[.int .i64 x, .int .i64 y]]) (v := .agg A) (by simp [ev, upT, Act.eval, *]) rfl ?_
  refine goS_extract (by rfl) (C := #[.agg A, .agg #[.int .i64 x, .int .i64 y]]) (v := .agg #[.int .i64 x, .int .i64 y]) (by simp [ev, upT, Act.eval, *]) rfl ?_
  refine goS_alloc (by rfl) z35 ?_
  refine goS_alloc (by rfl) z38 ?_
  have hs1 : (c'.w.alloc (.cells zT 35)).heap.size = c'.w.heap.size + 1 := World.size_alloc _ _
  have hbA : ((c'.w.alloc (.cells zT 35)).alloc (.cells zF 38)).heap[c'.w.heap.size]? = some (.cells zT 35 (0, 0)) := (heap_alloc_old _ _ _ (by omega)).trans (heap_alloc_new _ _)
  have hbF : (((c'.w.alloc (.cells zT 35)).alloc (.cells zF 38)).setRow c'.w.heap.size A).heap[c'.w.heap.size + 1]? = some (.cells zF 38 (0, 0)) := by
    rw [setRow_other _ _ _ _ (by omega), ← hs1]
    exact heap_alloc_new _ _
  refine goS_storeAll s35 (b := c'.w.heap.size) (C := zT) (e := 35) (A := A) (by simp [ev, upT, Act.eval, *]) (by simp [ev, upT, Act.eval, *]) (typed_size hA) hones hbA rfl ?_
  refine goS_storeAll s38 (b := c'.w.heap.size + 1) (C := zF) (e := 38) (A := #[.int .i64 x, .int .i64 y]) (by simp only [ev, upT, Nat.reduceEqDiff, if_false, if_true, ← hs1]; rfl) (by simp [ev, upT, Act.eval, *]) rfl (by simp [Value.oneCell']) hbF rfl ?_
  intro a' hi'
  obtain ⟨tb1, tb2, tb3, tb4⟩ := two_boxes c'.w zT zF A #[.int .i64 x, .int .i64 y]
  obtain ⟨t1, t2, t3⟩ := told_of (D := fun b => w.heap.size ≤ b ∧ b < c'.w.heap.size) (fun b hb => ⟨⟨by rw [← h3]; exact (hb.2 rfl).1, h2.hr.bound b hb.1⟩, (hb.2 rfl).2⟩) hA
  exact hq a' _ _ A (fun b => w.heap.size ≤ b ∧ b < c'.w.heap.size) c'.w.heap.size hi' (by intro t ht hne hne2; simp only [upT]; (repeat (refine (if_neg ?_).trans ?_; (intro h; first | exact hne h.symm | exact hne2 h.symm | exact absurd ht (by rw [← h]; decide)))); rfl) rfl (by simp only [upT, Nat.reduceEqDiff, if_false, if_true, ← hs1]; rfl) (hk.trans tb1) tb2 tb3 tb4 hk.size (fun b hb => hb) (rd_mono (fun b hb => tb1.keep b hb.2) t1) t2 (t3.move fun b hb => tb1.keep b hb.2)
theorem chk8 (hi : Is 90 a T) {b4 b6 : Nat} {CC SS : Array Value} {L : Nat → Prop} {c : Catalog} {ps : List S_i_Param} {s : RX.Stmt} {t : Typed} {x y : Int} (h4 : T 4 = .pointer (some ⟨b4, 0, none⟩)) (h6 : T 6 = .pointer (some ⟨b6, 0, none⟩))
    (m4 : w.heap[b4]? = some (.cells CC 25 (0, 0))) (m6 : w.heap[b6]? = some (.cells SS 32 (0, 0))) (hL : ∀ b, L b → b < w.heap.size) (hC : RoCs (RdI L) w (p_i_Catalog (sCatalog false c)) CC.toList)
    (hP : RoC (RdI L) w (.arr false (ps.map eParam).length fun j => (ps.map eParam).getD j .nilp) [T 1]) (hS : RoCs (RdI L) w (p_i_Stmt (sStmt false s)) SS.toList)
    (hf : RunsTo Tryz.prog 4 [avC c, avP ps, avS s] [] (.tup [avT true t, avF x y]) [])
    (hq : ∀ a' T' w' (A : Array Value) (D : Nat → Prop) lo, Is 90 a' T' → Keep2 19 20 T T' → T' 19 = .pointer (some ⟨lo, 0, none⟩) → T' 20 = .pointer (some ⟨lo + 1, 0, none⟩) → Kp w w' → w'.heap[lo]? = some (.cells A 35 (0, 0)) → w'.heap[lo + 1]? = some (.cells #[.int .i64 x, .int .i64 y] 38 (0, 0)) →
      w'.heap.size = lo + 2 → w.heap.size ≤ lo → (∀ b, D b → w.heap.size ≤ b ∧ b < lo) → RoCs (RdI D) w' (p_i_Typed (sTyped false t)) A.toList → t.Ok → Spoils D w' A.toList → E .normal a' w') : lw8.wp Tryz.prog E a w := by
  refine region_ok (Q := fun T' w' => ∀ a', Is 90 a' T' → E .normal a' w') hi ?_ (fun a' T' w' h hq => hq a' h)
  refine goS_loadA (by trivial) (by rfl) a25 s25 (b := b4) (o := 0) (by simp [ev, upT, Act.eval, *]) (es := CC.toList) hC.length (fun j _ => by rw [cell_at m4]; simp) ?_
  refine goS_move (by trivial) (by rfl) ?_
  refine goS_loadA (by trivial) (by rfl) a32 s32 (b := b6) (o := 0) (by simp [ev, upT, Act.eval, *]) (es := SS.toList) hS.length (fun j _ => by rw [cell_at m6]; simp) ?_
  refine goS_callU (by rfl) (vals := #[.agg CC, T 1, .agg SS]) (by simp [ev, upT]) (fun v w1 => ∃ c', w1 = c'.w ∧ V c' (.tup [avT true t, avF x y]) v ∧ HRl c' [] ∧ c'.base = w.heap.size ∧ Kp w c'.w)
    (fun o a next E hn => upon_call hf (args_V hL hC hP hS) o a next E fun v c' h1 h2 h3 h4 => hn v _ ⟨c', rfl, h1, h2, h3, h4⟩) ?_
  rintro v w1 ⟨c', rfl, h1, h2, h3, hk⟩
  obtain ⟨A, rfl, hA, hones⟩ := tup_inv h1
  refine goS_move (by trivial) (by rfl) ?_
  refine goS_extract (by rfl) (C := #[.agg A, .agg #[.int .i64 x, .int .i64 y]]) (v := .agg A) (by simp [ev, upT, Act.eval, *]) rfl ?_
  refine goS_extract (by rfl) (C := #[.agg A, .agg #[.int .i64 x, .int .i64 y]]) (v := .agg #[.int .i64 x, .int .i64 y]) (by simp [ev, upT, Act.eval, *]) rfl ?_
  refine goS_alloc (by rfl) z35 ?_
  refine goS_alloc (by rfl) z38 ?_
  have hs1 : (c'.w.alloc (.cells zT 35)).heap.size = c'.w.heap.size + 1 := World.size_alloc _ _
  have hbA : ((c'.w.alloc (.cells zT 35)).alloc (.cells zF 38)).heap[c'.w.heap.size]? = some (.cells zT 35 (0, 0)) := (heap_alloc_old _ _ _ (by omega)).trans (heap_alloc_new _ _)
  have hbF : (((c'.w.alloc (.cells zT 35)).alloc (.cells zF 38)).setRow c'.w.heap.size A).heap[c'.w.heap.size + 1]? = some (.cells zF 38 (0, 0)) := by
    rw [setRow_other _ _ _ _ (by omega), ← hs1]
    exact heap_alloc_new _ _
  refine goS_storeAll s35 (b := c'.w.heap.size) (C := zT) (e := 35) (A := A) (by simp [ev, upT, Act.eval, *]) (by simp [ev, upT, Act.eval, *]) (typed_size hA) hones hbA rfl ?_
  refine goS_storeAll s38 (b := c'.w.heap.size + 1) (C := zF) (e := 38) (A := #[.int .i64 x, .int .i64 y]) (by simp only [ev, upT, Nat.reduceEqDiff, if_false, if_true, ← hs1]; rfl) (by simp [ev, upT, Act.eval, *]) rfl (by simp [Value.oneCell']) hbF rfl ?_
  intro a' hi'
  obtain ⟨tb1, tb2, tb3, tb4⟩ := two_boxes c'.w zT zF A #[.int .i64 x, .int .i64 y]
  obtain ⟨t1, t2, t3⟩ := told_of (D := fun b => w.heap.size ≤ b ∧ b < c'.w.heap.size) (fun b hb => ⟨⟨by rw [← h3]; exact (hb.2 rfl).1, h2.hr.bound b hb.1⟩, (hb.2 rfl).2⟩) hA
  exact hq a' _ _ A (fun b => w.heap.size ≤ b ∧ b < c'.w.heap.size) c'.w.heap.size hi' (by intro t ht hne hne2; simp only [upT]; (repeat (refine (if_neg ?_).trans ?_; (intro h; first | exact hne h.symm | exact hne2 h.symm | exact absurd ht (by rw [← h]; decide)))); rfl) rfl (by simp only [upT, Nat.reduceEqDiff, if_false, if_true, ← hs1]; rfl) (hk.trans tb1) tb2 tb3 tb4 hk.size (fun b hb => hb) (rd_mono (fun b hb => tb1.keep b hb.2) t1) t2 (t3.move fun b hb => tb1.keep b hb.2)
theorem sam3 (hi : Is 90 a T) {bA bB : Nat} {A B : Array Value} {LA LB : Nat → Prop} {t : Typed} (hA : T 9 = .pointer (some ⟨bA, 0, none⟩)) (hB : T 11 = .pointer (some ⟨bB, 0, none⟩)) (mA : w.heap[bA]? = some (.cells A 35 (0, 0))) (mB : w.heap[bB]? = some (.cells B 35 (0, 0)))
    (lA : ∀ b, LA b → b < w.heap.size) (lB : ∀ b, LB b → b < w.heap.size) (rA : RoCs (RdI LA) w (p_i_Typed (sTyped false t)) A.toList) (rB : RoCs (RdI LB) w (p_i_Typed (sTyped false t)) B.toList) (ht : t.Ok)
    (hq : ∀ a' T' w', Is 90 a' T' → Keep2 13 13 T T' → T' 13 = .bool true → Kp w w' → E .normal a' w') : lw3.wp Tryz.prog E a w := by
  refine region_ok (Q := fun T' w' => ∀ a', Is 90 a' T' → E .normal a' w') hi ?_ (fun a' T' w' h hq => hq a' h)
  refine goS_loadA (by trivial) (by rfl) a35 s35 (b := bA) (o := 0) (by simp [ev, upT, Act.eval, *]) (es := A.toList) rA.length (fun j _ => by rw [cell_at mA]; simp) ?_
  refine goS_loadA (by trivial) (by rfl) a35 s35 (b := bB) (o := 0) (by simp [ev, upT, Act.eval, *]) (es := B.toList) rB.length (fun j _ => by rw [cell_at mB]; simp) ?_
  refine goS_callU (by rfl) (vals := #[.agg A, .agg B]) (by simp [ev, upT]) (fun v w1 => v = .bool true ∧ Kp w w1)
    (fun o a next E hn => upon_call (call6 t ht) (by
      simp only [Vs, V, avT]
      exact ⟨_, _, rfl, ⟨A, rfl, (Vs_map_p _ _).2 (rd_cx lA rA), RoCs.ones _ _ rA⟩, _, _, rfl, ⟨B, rfl, (Vs_map_p _ _).2 (rd_cx lB rB), RoCs.ones _ _ rB⟩, rfl⟩) o a next E fun v c' h1 h2 h3 h4 => hn v _ ⟨V_bool h1, h4⟩) ?_
  rintro v w1 ⟨rfl, hk⟩
  refine goS_assign (by trivial) (by rfl) ?_
  intro a' hi'
  exact hq a' _ _ hi' (by intro t ht hne hne2; simp only [upT]; (repeat (refine (if_neg ?_).trans ?_; (intro h; first | exact hne h.symm | exact hne2 h.symm | exact absurd ht (by rw [← h]; decide)))); rfl) (by simp [ev, upT, Act.eval, *]) hk
theorem sam7 (hi : Is 90 a T) {bA bB : Nat} {A B : Array Value} {LA LB : Nat → Prop} {t : Typed} (hA : T 14 = .pointer (some ⟨bA, 0, none⟩)) (hB : T 16 = .pointer (some ⟨bB, 0, none⟩)) (mA : w.heap[bA]? = some (.cells A 35 (0, 0))) (mB : w.heap[bB]? = some (.cells B 35 (0, 0)))
    (lA : ∀ b, LA b → b < w.heap.size) (lB : ∀ b, LB b → b < w.heap.size) (rA : RoCs (RdI LA) w (p_i_Typed (sTyped false t)) A.toList) (rB : RoCs (RdI LB) w (p_i_Typed (sTyped false t)) B.toList) (ht : t.Ok)
    (hq : ∀ a' T' w', Is 90 a' T' → Keep2 18 18 T T' → T' 18 = .bool true → Kp w w' → E .normal a' w') : lw7.wp Tryz.prog E a w := by
  refine region_ok (Q := fun T' w' => ∀ a', Is 90 a' T' → E .normal a' w') hi ?_ (fun a' T' w' h hq => hq a' h)
  refine goS_loadA (by trivial) (by rfl) a35 s35 (b := bA) (o := 0) (by simp [ev, upT, Act.eval, *]) (es := A.toList) rA.length (fun j _ => by rw [cell_at mA]; simp) ?_
  refine goS_loadA (by trivial) (by rfl) a35 s35 (b := bB) (o := 0) (by simp [ev, upT, Act.eval, *]) (es := B.toList) rB.length (fun j _ => by rw [cell_at mB]; simp) ?_
  refine goS_callU (by rfl) (vals := #[.agg A, .agg B]) (by simp [ev, upT]) (fun v w1 => v = .bool true ∧ Kp w w1)
    (fun o a next E hn => upon_call (call6 t ht) (by
      simp only [Vs, V, avT]
      exact ⟨_, _, rfl, ⟨A, rfl, (Vs_map_p _ _).2 (rd_cx lA rA), RoCs.ones _ _ rA⟩, _, _, rfl, ⟨B, rfl, (Vs_map_p _ _).2 (rd_cx lB rB), RoCs.ones _ _ rB⟩, rfl⟩) o a next E fun v c' h1 h2 h3 h4 => hn v _ ⟨V_bool h1, h4⟩) ?_
  rintro v w1 ⟨rfl, hk⟩
  refine goS_assign (by trivial) (by rfl) ?_
  intro a' hi'
  exact hq a' _ _ hi' (by intro t ht hne hne2; simp only [upT]; (repeat (refine (if_neg ?_).trans ?_; (intro h; first | exact hne h.symm | exact hne2 h.symm | exact absurd ht (by rw [← h]; decide)))); rfl) (by simp [ev, upT, Act.eval, *]) hk
theorem sam9 (hi : Is 90 a T) {bA bB : Nat} {A B : Array Value} {LA LB : Nat → Prop} {t : Typed} (hA : T 19 = .pointer (some ⟨bA, 0, none⟩)) (hB : T 11 = .pointer (some ⟨bB, 0, none⟩)) (mA : w.heap[bA]? = some (.cells A 35 (0, 0))) (mB : w.heap[bB]? = some (.cells B 35 (0, 0)))
    (lA : ∀ b, LA b → b < w.heap.size) (lB : ∀ b, LB b → b < w.heap.size) (rA : RoCs (RdI LA) w (p_i_Typed (sTyped false t)) A.toList) (rB : RoCs (RdI LB) w (p_i_Typed (sTyped false t)) B.toList) (ht : t.Ok)
    (hq : ∀ a' T' w', Is 90 a' T' → Keep2 21 21 T T' → T' 21 = .bool true → Kp w w' → E .normal a' w') : lw9.wp Tryz.prog E a w := by
  refine region_ok (Q := fun T' w' => ∀ a', Is 90 a' T' → E .normal a' w') hi ?_ (fun a' T' w' h hq => hq a' h)
  refine goS_loadA (by trivial) (by rfl) a35 s35 (b := bA) (o := 0) (by simp [ev, upT, Act.eval, *]) (es := A.toList) rA.length (fun j _ => by rw [cell_at mA]; simp) ?_
  refine goS_loadA (by trivial) (by rfl) a35 s35 (b := bB) (o := 0) (by simp [ev, upT, Act.eval, *]) (es := B.toList) rB.length (fun j _ => by rw [cell_at mB]; simp) ?_
  refine goS_callU (by rfl) (vals := #[.agg A, .agg B]) (by simp [ev, upT]) (fun v w1 => v = .bool true ∧ Kp w w1)
    (fun o a next E hn => upon_call (call6 t ht) (by
      simp only [Vs, V, avT]
      exact ⟨_, _, rfl, ⟨A, rfl, (Vs_map_p _ _).2 (rd_cx lA rA), RoCs.ones _ _ rA⟩, _, _, rfl, ⟨B, rfl, (Vs_map_p _ _).2 (rd_cx lB rB), RoCs.ones _ _ rB⟩, rfl⟩) o a next E fun v c' h1 h2 h3 h4 => hn v _ ⟨V_bool h1, h4⟩) ?_
  rintro v w1 ⟨rfl, hk⟩
  refine goS_assign (by trivial) (by rfl) ?_
  intro a' hi'
  exact hq a' _ _ hi' (by intro t ht hne hne2; simp only [upT]; (repeat (refine (if_neg ?_).trans ?_; (intro h; first | exact hne h.symm | exact hne2 h.symm | exact absurd ht (by rw [← h]; decide)))); rfl) (by simp [ev, upT, Act.eval, *]) hk
theorem spoil4 (hi : Is 90 a T) {bA : Nat} {A : Array Value} {D : Nat → Prop} (hA : T 9 = .pointer (some ⟨bA, 0, none⟩)) (mA : w.heap[bA]? = some (.cells A 35 (0, 0))) (hD : ∀ b, D b → b < w.heap.size) (hs : Spoils D w A.toList)
    (hq : ∀ a' T' w', Is 90 a' T' → Keep2 22 22 T T' → Sc D w w' → E .normal a' w') : lw4.wp Tryz.prog E a w := by
  refine region_ok (Q := fun T' w' => ∀ a', Is 90 a' T' → E .normal a' w') hi ?_ (fun a' T' w' h hq => hq a' h)
  obtain ⟨c0, x1, x2, x3, x4, x5, c6, x7, c8, x9, x10, hl, h2, h3, h4, h1, h5, h7, h9, h10⟩ := hs
  have hA' : A = #[c0, x1, x2, x3, x4, x5, c6, x7, c8, x9, x10] := Array.toList_inj.1 hl
  subst hA'
  refine goS_loadA (by trivial) (by rfl) a35 s35 (b := bA) (o := 0) (by simp [ev, upT, Act.eval, *]) (es := [c0, x1, x2, x3, x4, x5, c6, x7, c8, x9, x10]) rfl (fun j _ => by rw [cell_at mA]; simp) ?_
  refine goS_callU (by rfl) (vals := #[.agg #[c0, x1, x2, x3, x4, x5, c6, x7, c8, x9, x10]]) (by simp [ev, upT]) (fun v w1 => Sc D w w1)
    (fun o a next E hn => spoil_ok hD h2 h3 h4 h1 h5 h7 h9 h10 o a next E fun v w' hk => hn v w' hk) ?_
  intro v w1 hk
  intro a' hi'
  exact hq a' _ _ hi' (by intro t ht hne hne2; simp only [upT]; (repeat (refine (if_neg ?_).trans ?_; (intro h; first | exact hne h.symm | exact hne2 h.symm | exact absurd ht (by rw [← h]; decide)))); rfl) hk
end
end
end Go.SP
set_option maxRecDepth 100000
namespace Go.SP
open Go.Proofs Go.RX
noncomputable section
section
variable {nt : Nat} {ops : Array Oper} {os : List Oper} {T : Tm} {w : World} {Q : Tm → World → Prop} {dst : Option Tmp} {ty : TypeId} {pos : String} {after : Array Edge}
theorem eq38 (x y : Int) (w : World) : Tryz.prog.eqGuardType Tryz.prog.depth 38 = false ∧ (Op.equal 38 (.agg #[.int .i64 x, .int .i64 y]) (.agg #[.int .i64 x, .int .i64 y])).run Tryz.prog w = .ok true w := by
  have h := flat_ok (us := [.int .i64 x, .int .i64 y]) (vs := [.int .i64 x, .int .i64 y]) (b := true) flat38 (by simp [eqFlat, eq1])
  refine ⟨h.1, h.2 [.int .i64 x, .int .i64 y] [.int .i64 x, .int .i64 y] (fun _ _ => True) w ?_ ?_⟩ <;> simp [RoCs, RoC]
theorem goS_eql38 {x y : Operand} {t2 : TypeId} {g : Option (Nat × Bool)} (hg : guardS ops T ⟨dst, .binOp .eql 38 x y t2, ty, pos, after, g⟩) (hd : dstOk nt dst = true) {m n : Int} (hx : ev T x = .agg #[.int .i64 m, .int .i64 n]) (hy : ev T y = .agg #[.int .i64 m, .int .i64 n])
    (h : goS Tryz.prog nt ops os (upT T dst (.bool true)) w Q) : goS Tryz.prog nt ops (⟨dst, .binOp .eql 38 x y t2, ty, pos, after, g⟩ :: os) T w Q := by
  obtain ⟨h1, h2⟩ := eq38 m n w
  refine goS_val hg hd (v := .bool true) (w' := w) ?_ h
  simp only [execOp, hx, hy, Sem.run_bind, run_eqGuard_agg _ _ _ _ _ _ _ h1, Result.andThen_ok, binOp, h2, Sem.run_pure]
end
section
variable {T : Tm} {a : Act} {w : World} {E : Exit → Act → World → Prop}
theorem fin10 (hi : Is 90 a T) (h13 : T 13 = .bool true) (h18 : T 18 = .bool true) (h21 : T 21 = .bool true) {b10 b12 b15 b17 b20 : Nat} {x y z u : Int}
    (h10 : T 10 = .pointer (some ⟨b10, 0, none⟩)) (h12 : T 12 = .pointer (some ⟨b12, 0, none⟩)) (h15 : T 15 = .pointer (some ⟨b15, 0, none⟩)) (h17 : T 17 = .pointer (some ⟨b17, 0, none⟩)) (h20 : T 20 = .pointer (some ⟨b20, 0, none⟩))
    (m10 : w.heap[b10]? = some (.cells #[.int .i64 x, .int .i64 y] 38 (0, 0))) (m12 : w.heap[b12]? = some (.cells #[.int .i64 x, .int .i64 y] 38 (0, 0))) (m15 : w.heap[b15]? = some (.cells #[.int .i64 z, .int .i64 u] 38 (0, 0))) (m17 : w.heap[b17]? = some (.cells #[.int .i64 z, .int .i64 u] 38 (0, 0))) (m20 : w.heap[b20]? = some (.cells #[.int .i64 x, .int .i64 y] 38 (0, 0)))
    (hq : ∀ a' T', Is 90 a' T' → T' 8 = .bool true → E .normal a' w) : lw10.wp Tryz.prog E a w := by
  refine region_ok (Q := fun T' w' => w' = w ∧ T' 8 = .bool true) hi ?_ (by rintro a' T' w' h ⟨rfl, h2⟩; exact hq a' T' h h2)
  refine goS_move (by trivial) (by rfl) ?_
  refine goS_move (by trivial) (by rfl) ?_
  refine goS_move ⟨_, rfl, by simp [ev, upT, Act.eval, *]⟩ (by rfl) ?_
  refine goS_pick (by trivial) (by rfl) (by simp [ev, upT, Act.eval, *]) ?_
  refine goS_move (by trivial) (by rfl) ?_
  refine goS_move ⟨_, rfl, by simp [ev, upT, Act.eval, *]⟩ (by rfl) ?_
  refine goS_pick (by trivial) (by rfl) (by simp [ev, upT, Act.eval, *]) ?_
  refine goS_move (by trivial) (by rfl) ?_
  refine goS_loadA ⟨_, rfl, by simp [ev, upT, Act.eval, *]⟩ (by rfl) a38 s38 (b := b10) (o := 0) (by simp [ev, upT, Act.eval, *]) (es := [.int .i64 x, .int .i64 y]) rfl (fun j _ => by rw [cell_at m10]; simp) ?_
  refine goS_loadA ⟨_, rfl, by simp [ev, upT, Act.eval, *]⟩ (by rfl) a38 s38 (b := b12) (o := 0) (by simp [ev, upT, Act.eval, *]) (es := [.int .i64 x, .int .i64 y]) rfl (fun j _ => by rw [cell_at m12]; simp) ?_
  refine goS_eql38 ⟨_, rfl, by simp [ev, upT, Act.eval, *]⟩ (by rfl) (m := x) (n := y) (by simp [ev, upT, Act.eval, *]) (by simp [ev, upT, Act.eval, *]) ?_
  refine goS_pick (by trivial) (by rfl) (by simp [ev, upT, Act.eval, *]) ?_
  refine goS_move (by trivial) (by rfl) ?_
  refine goS_loadA ⟨_, rfl, by simp [ev, upT, Act.eval, *]⟩ (by rfl) a38 s38 (b := b15) (o := 0) (by simp [ev, upT, Act.eval, *]) (es := [.int .i64 z, .int .i64 u]) rfl (fun j _ => by rw [cell_at m15]; simp) ?_
  refine goS_loadA ⟨_, rfl, by simp [ev, upT, Act.eval, *]⟩ (by rfl) a38 s38 (b := b17) (o := 0) (by simp [ev, upT, Act.eval, *]) (es := [.int .i64 z, .int .i64 u]) rfl (fun j _ => by rw [cell_at m17]; simp) ?_
  refine goS_eql38 ⟨_, rfl, by simp [ev, upT, Act.eval, *]⟩ (by rfl) (m := z) (n := u) (by simp [ev, upT, Act.eval, *]) (by simp [ev, upT, Act.eval, *]) ?_
  refine goS_pick (by trivial) (by rfl) (by simp [ev, upT, Act.eval, *]) ?_
  refine goS_move (by trivial) (by rfl) ?_
  refine goS_loadA ⟨_, rfl, by simp [ev, upT, Act.eval, *]⟩ (by rfl) a38 s38 (b := b20) (o := 0) (by simp [ev, upT, Act.eval, *]) (es := [.int .i64 x, .int .i64 y]) rfl (fun j _ => by rw [cell_at m20]; simp) ?_
  refine goS_loadA ⟨_, rfl, by simp [ev, upT, Act.eval, *]⟩ (by rfl) a38 s38 (b := b12) (o := 0) (by simp [ev, upT, Act.eval, *]) (es := [.int .i64 x, .int .i64 y]) rfl (fun j _ => by rw [cell_at m12]; simp) ?_
  refine goS_eql38 ⟨_, rfl, by simp [ev, upT, Act.eval, *]⟩ (by rfl) (m := x) (n := y) (by simp [ev, upT, Act.eval, *]) (by simp [ev, upT, Act.eval, *]) ?_
  refine goS_pick (by trivial) (by rfl) (by simp [ev, upT, Act.eval, *]) ?_
  refine goS_assign (by trivial) (by rfl) ?_
  exact ⟨rfl, by simp [ev, upT, Act.eval, *]⟩
theorem boxes0 (hi : Is 90 a T) {CC SS UU : Array Value} (h0 : T 0 = .agg CC) (h2 : T 2 = .agg SS) (h3 : T 3 = .agg UU)
    (hq : ∀ a' T' w', Is 90 a' T' → T' 1 = T 1 → T' 4 = .pointer (some ⟨w.heap.size, 0, none⟩) → T' 6 = .pointer (some ⟨w.heap.size + 1, 0, none⟩) → T' 7 = .pointer (some ⟨w.heap.size + 2, 0, none⟩) → Kp w w' → w'.heap.size = w.heap.size + 3 →
      w'.heap[w.heap.size]? = some (.cells CC 25 (0, 0)) → w'.heap[w.heap.size + 1]? = some (.cells SS 32 (0, 0)) → w'.heap[w.heap.size + 2]? = some (.cells UU 32 (0, 0)) → E .normal a' w') : lw0.wp Tryz.prog E a w := by
  refine region_ok (Q := fun T' w' => ∀ a', Is 90 a' T' → E .normal a' w') hi ?_ (fun a' T' w' h hq => hq a' h)
  refine goS_box (by rfl) (v := .agg CC) (by simp [ev, upT, Act.eval, *]) ?_
  refine goS_box (by rfl) (v := .agg SS) (by simp [ev, upT, Act.eval, *]) ?_
  refine goS_box (by rfl) (v := .agg UU) (by simp [ev, upT, Act.eval, *]) ?_
  refine goS_assign (by trivial) (by rfl) ?_
  intro a' hi'
  have s1 : (w.alloc (.cells CC 25)).heap.size = w.heap.size + 1 := World.size_alloc _ _
  have s2 : ((w.alloc (.cells CC 25)).alloc (.cells SS 32)).heap.size = w.heap.size + 2 := (World.size_alloc _ _).trans (by rw [s1])
  have s3 : (((w.alloc (.cells CC 25)).alloc (.cells SS 32)).alloc (.cells UU 32)).heap.size = w.heap.size + 3 := (World.size_alloc _ _).trans (by rw [s2])
  refine hq a' _ _ hi' rfl rfl (by simp only [upT, Nat.reduceEqDiff, if_false, if_true, ← s1]; rfl) (by simp only [upT, Nat.reduceEqDiff, if_false, if_true, ← s2]; rfl) ((Kp.alloc w _).trans ((Kp.alloc _ _).trans (Kp.alloc _ _))) s3 ?_ ?_ ?_
  · exact (heap_alloc_old _ _ _ (by show _ < ((w.alloc (.cells CC 25)).alloc (.cells SS 32)).heap.size; omega)).trans ((heap_alloc_old _ _ _ (by show _ < (w.alloc (.cells CC 25)).heap.size; omega)).trans (heap_alloc_new _ _))
  · refine (heap_alloc_old _ _ _ (by show _ < ((w.alloc (.cells CC 25)).alloc (.cells SS 32)).heap.size; omega)).trans ?_
    rw [← s1]
    exact heap_alloc_new _ _
  · rw [← s2]
    exact heap_alloc_new _ _
end
end
end Go.SP
set_option maxRecDepth 100000
namespace Go.SP
open Go.Proofs Go.RX
noncomputable section
theorem fn3 : FnOK Tryz.prog 3 Tryz.f3 := ⟨by kernel_rfl, by kernel_rfl⟩
theorem hb3 : Tryz.f3.body = some code3 := by kernel_rfl
theorem n3 : Tryz.f3.ntmps = 90 := by kernel_rfl
theorem r3 : Tryz.f3.results = #[.tmp 8] := by kernel_rfl
theorem law_true (k M : Nat) (hM : M < 1152921504606846976) (hk : M + 300 ≤ k) {w : World} {L : Nat → Prop} (hL : ∀ b, L b → b < w.heap.size) {c : Catalog} (hc : c.Fits M) {ps : List S_i_Param} (hp : ParsFit M ps) {s u : RX.Stmt} (hs : s.Fits M) (hu : u.Fits M)
    {CC SS UU : Array Value} {vP : Value} (hC : RoCs (RdI L) w (p_i_Catalog (sCatalog false c)) CC.toList) (hP : RoC (RdI L) w (.arr false (ps.map eParam).length fun j => (ps.map eParam).getD j .nilp) [vP])
    (hS : RoCs (RdI L) w (p_i_Stmt (sStmt false s)) SS.toList) (hU : RoCs (RdI L) w (p_i_Stmt (sStmt false u)) UU.toList) :
    Calls Tryz.prog 3 #[.agg CC, vP, .agg SS, .agg UU] w fun e w' => e = .returned (.bool true) ∧ Kp w w' := by
  refine calls_of_wp fn3.at_ hb3 ?_
  let T0 : Tm := fun t => (#[.agg CC, vP, .agg SS, .agg UU] ++ Array.replicate (Tryz.f3.ntmps - 4) undef : Array Value).getD t undef
  have hT0 : Is 90 { tmps := #[.agg CC, vP, .agg SS, .agg UU] ++ Array.replicate (Tryz.f3.ntmps - 4) undef, defers := [] } T0 := ⟨by simp [n3], fun t => rfl, rfl⟩
  have q0 : T0 0 = .agg CC := by simp [T0]
  have q1 : T0 1 = vP := by simp [T0]
  have q2 : T0 2 = .agg SS := by simp [T0]
  have q3 : T0 3 = .agg UU := by simp [T0]
  refine wp_mono (Q := fun ex a' w' => ex = .ret ∧ (∃ T, Is 90 a' T ∧ T 8 = .bool true) ∧ Kp w w') ?_ ?_
  · show code3.wp Tryz.prog _ _ w
    refine wp_seq (boxes0 hT0 q0 q2 q3 fun a0 T0' w0 hi0 e1 e4 e6 e7 k0 sz0 m4 m6 m7 => ?_)
    rw [q1] at e1
    have hL0 : ∀ b, L b → b < w0.heap.size := fun b hb => Nat.lt_of_lt_of_le (hL b hb) k0.size
    have mv : ∀ {w' : World}, Kp w w' → ∀ b, L b → w'.heap[b]? = w.heap[b]? := fun hk b hb => hk.keep b (hL b hb)
    refine wp_seq (chk1 hi0 e4 e6 m4 m6 hL0 (rd_mono (mv k0) hC) (by rw [e1]; exact rd_mono1 (mv k0) hP) (rd_mono (mv k0) hS) (call4 k M hM hk c hc ps hp s hs) fun a1 T1 w1 A DA la hi1 kp1 ta tf k1 mA mF sz1 lo1 dA rA okA spA => ?_)
    have K1 := k0.trans k1
    refine wp_seq (chk2 hi1 ((kp1 4 (by decide) (by decide) (by decide)).trans e4) ((kp1 6 (by decide) (by decide) (by decide)).trans e6) ((k1.keep _ (by omega)).trans m4) ((k1.keep _ (by omega)).trans m6) (fun b hb => Nat.lt_of_lt_of_le (hL b hb) K1.size) (rd_mono (mv K1) hC)
      (by rw [(kp1 1 (by decide) (by decide) (by decide)).trans e1]; exact rd_mono1 (mv K1) hP) (rd_mono (mv K1) hS) (call5 k M hM hk c hc ps hp s hs) fun a2 T2 w2 W DW lw hi2 kp2 tw tg k2 mW mG sz2 lo2 dW rW okW _ => ?_)
    have K2 := K1.trans k2
    refine wp_seq (sam3 hi2 ((kp2 9 (by decide) (by decide) (by decide)).trans ta) tw ((k2.keep _ (by omega)).trans mA) mW (LA := DA) (LB := DW) (fun b hb => by have := dA b hb; omega) (fun b hb => by have := dW b hb; omega)
      (rd_mono (fun b hb => k2.keep b (by have := dA b hb; omega)) rA) rW okW fun a3 T3 w3 hi3 kp3 t13 k3 => ?_)
    have K3 := K2.trans k3
    refine wp_seq (spoil4 hi3 (D := DA) ((kp3 9 (by decide) (by decide) (by decide)).trans ((kp2 9 (by decide) (by decide) (by decide)).trans ta)) ((k3.keep _ (by omega)).trans ((k2.keep _ (by omega)).trans mA)) (fun b hb => by have := dA b hb; have := k2.size; have := k3.size; omega)
      (spA.move fun b hb => (k3.keep b (by have := dA b hb; omega)).trans (k2.keep b (by have := dA b hb; omega))) fun a4 T4 w4 hi4 kp4 sc => ?_)
    have hk3 := k3.size
    have keep4 : ∀ b, b < w3.heap.size → (b < w0.heap.size ∨ la ≤ b) → w4.heap[b]? = w3.heap[b]? := fun b hb h => sc.keep b hb fun hd => by have := dA b hd; omega
    have K4 : Kp w w4 := ⟨sc.os.trans K3.os, sc.tape.trans K3.tape, sc.output.trans K3.output, Nat.le_trans K3.size sc.size, fun b hb => (keep4 b (by have := K3.size; omega) (.inl (by omega))).trans (K3.keep b hb)⟩
    have n4 : w2.heap.size ≤ w4.heap.size := by have := sc.size; omega
    have old4 : ∀ b, b < w2.heap.size → (b < w0.heap.size ∨ la ≤ b) → w4.heap[b]? = w2.heap[b]? := fun b hb h => (keep4 b (by omega) h).trans (k3.keep b hb)
    have T4k : ∀ t, t < 22 → t ≠ 9 → t ≠ 10 → t ≠ 11 → t ≠ 12 → t ≠ 13 → T4 t = T0' t := fun t h h9 h10 h11 h12 h13 => (kp4 t h (by intro e; subst e; exact absurd h (by decide)) (by intro e; subst e; exact absurd h (by decide))).trans ((kp3 t h h13 h13).trans ((kp2 t h h11 h12).trans (kp1 t h h9 h10)))
    have m4' : w4.heap[w.heap.size]? = some (.cells CC 25 (0, 0)) := (old4 _ (by omega) (.inl (by omega))).trans ((k2.keep _ (by omega)).trans ((k1.keep _ (by omega)).trans m4))
    have m6' : w4.heap[w.heap.size + 1]? = some (.cells SS 32 (0, 0)) := (old4 _ (by omega) (.inl (by omega))).trans ((k2.keep _ (by omega)).trans ((k1.keep _ (by omega)).trans m6))
    have m7' : w4.heap[w.heap.size + 2]? = some (.cells UU 32 (0, 0)) := (old4 _ (by omega) (.inl (by omega))).trans ((k2.keep _ (by omega)).trans ((k1.keep _ (by omega)).trans m7))
    have mF' : w4.heap[la + 1]? = _ := (old4 _ (by omega) (.inr (by omega))).trans ((k2.keep _ (by omega)).trans mF)
    have mW' : w4.heap[lw]? = _ := (old4 _ (by omega) (.inr (by omega))).trans mW
    have mG' : w4.heap[lw + 1]? = _ := (old4 _ (by omega) (.inr (by omega))).trans mG
    have rW' : RoCs (RdI DW) w4 (p_i_Typed (sTyped false (told c ps s).1)) W.toList := rd_mono (fun b hb => old4 b (by have := dW b hb; omega) (.inr (by have := dW b hb; omega))) rW
    have t4 : ∀ t, t < 22 → t ≠ 13 → T4 t = T2 t := fun t h h13 => (kp4 t h (by intro e; subst e; exact absurd h (by decide)) (by intro e; subst e; exact absurd h (by decide))).trans (kp3 t h h13 h13)
    refine wp_seq (chk5 hi4 ((T4k 4 (by decide) (by decide) (by decide) (by decide) (by decide) (by decide)).trans e4) ((T4k 7 (by decide) (by decide) (by decide) (by decide) (by decide) (by decide)).trans e7) m4' m7' (fun b hb => Nat.lt_of_lt_of_le (hL b hb) K4.size) (rd_mono (mv K4) hC)
      (by rw [(T4k 1 (by decide) (by decide) (by decide) (by decide) (by decide) (by decide)).trans e1]; exact rd_mono1 (mv K4) hP) (rd_mono (mv K4) hU) (call4 k M hM hk c hc ps hp u hu) fun a5 T5 w5 B DB lb hi5 kp5 tb th k5 mB mH sz5 lo5 dB rB okB _ => ?_)
    have K5 := K4.trans k5
    refine wp_seq (chk6 hi5 ((kp5 4 (by decide) (by decide) (by decide)).trans ((T4k 4 (by decide) (by decide) (by decide) (by decide) (by decide) (by decide)).trans e4)) ((kp5 7 (by decide) (by decide) (by decide)).trans ((T4k 7 (by decide) (by decide) (by decide) (by decide) (by decide) (by decide)).trans e7))
      ((k5.keep _ (by omega)).trans m4') ((k5.keep _ (by omega)).trans m7') (fun b hb => Nat.lt_of_lt_of_le (hL b hb) K5.size) (rd_mono (mv K5) hC)
      (by rw [(kp5 1 (by decide) (by decide) (by decide)).trans ((T4k 1 (by decide) (by decide) (by decide) (by decide) (by decide) (by decide)).trans e1)]; exact rd_mono1 (mv K5) hP) (rd_mono (mv K5) hU) (call5 k M hM hk c hc ps hp u hu) fun a6 T6 w6 O DO lo hi6 kp6 to ti k6 mO mI sz6 lo6 dO rO okO _ => ?_)
    have K6 := K5.trans k6
    refine wp_seq (sam7 hi6 ((kp6 14 (by decide) (by decide) (by decide)).trans tb) to ((k6.keep _ (by omega)).trans mB) mO (LA := DB) (LB := DO) (fun b hb => by have := dB b hb; omega) (fun b hb => by have := dO b hb; omega)
      (rd_mono (fun b hb => k6.keep b (by have := dB b hb; omega)) rB) rO okO fun a7 T7 w7 hi7 kp7 t18 k7 => ?_)
    have K7 := K6.trans k7
    have k47 : Kp w4 w7 := k5.trans (k6.trans k7)
    have n7 := k47.size
    have T7k : ∀ t, t < 22 → t ≠ 14 → t ≠ 15 → t ≠ 16 → t ≠ 17 → t ≠ 18 → T7 t = T4 t := fun t h h1 h2 h3 h4 h5 => (kp7 t h h5 h5).trans ((kp6 t h h3 h4).trans (kp5 t h h1 h2))
    refine wp_seq (chk8 hi7 ((T7k 4 (by decide) (by decide) (by decide) (by decide) (by decide) (by decide)).trans ((T4k 4 (by decide) (by decide) (by decide) (by decide) (by decide) (by decide)).trans e4)) ((T7k 6 (by decide) (by decide) (by decide) (by decide) (by decide) (by decide)).trans ((T4k 6 (by decide) (by decide) (by decide) (by decide) (by decide) (by decide)).trans e6))
      ((k47.keep _ (by omega)).trans m4') ((k47.keep _ (by omega)).trans m6') (fun b hb => Nat.lt_of_lt_of_le (hL b hb) K7.size) (rd_mono (mv K7) hC)
      (by rw [(T7k 1 (by decide) (by decide) (by decide) (by decide) (by decide) (by decide)).trans ((T4k 1 (by decide) (by decide) (by decide) (by decide) (by decide) (by decide)).trans e1)]; exact rd_mono1 (mv K7) hP) (rd_mono (mv K7) hS) (call4 k M hM hk c hc ps hp s hs) fun a8 T8 w8 B' DB' ld hi8 kp8 td tk k8 mD mK sz8 lo8 dD rD okD _ => ?_)
    have K8 := K7.trans k8
    have k48 := k47.trans k8
    refine wp_seq (sam9 hi8 td ((kp8 11 (by decide) (by decide) (by decide)).trans ((T7k 11 (by decide) (by decide) (by decide) (by decide) (by decide) (by decide)).trans ((t4 11 (by decide) (by decide)).trans tw))) mD ((k48.keep _ (by omega)).trans mW') (LA := DB') (LB := DW) (fun b hb => by have := dD b hb; omega) (fun b hb => by have := dW b hb; have := k48.size; omega)
      rD (rd_mono (fun b hb => k48.keep b (by have := dW b hb; omega)) rW') okD fun a9 T9 w9 hi9 kp9 t21 k9 => ?_)
    have K9 := K8.trans k9
    have k49 := k48.trans k9
    have T9k : ∀ t, t < 22 → t ≠ 14 → t ≠ 15 → t ≠ 16 → t ≠ 17 → t ≠ 18 → t ≠ 19 → t ≠ 20 → t ≠ 21 → T9 t = T4 t := fun t h h1 h2 h3 h4 h5 h6 h7 h8 => (kp9 t h h8 h8).trans ((kp8 t h h6 h7).trans (T7k t h h1 h2 h3 h4 h5))
    refine wp_seq (fin10 hi9 ((T9k 13 (by decide) (by decide) (by decide) (by decide) (by decide) (by decide) (by decide) (by decide) (by decide)).trans ((kp4 13 (by decide) (by decide) (by decide)).trans t13)) ((kp9 18 (by decide) (by decide) (by decide)).trans ((kp8 18 (by decide) (by decide) (by decide)).trans t18)) t21
      ((T9k 10 (by decide) (by decide) (by decide) (by decide) (by decide) (by decide) (by decide) (by decide) (by decide)).trans ((t4 10 (by decide) (by decide)).trans ((kp2 10 (by decide) (by decide) (by decide)).trans tf)))
      ((T9k 12 (by decide) (by decide) (by decide) (by decide) (by decide) (by decide) (by decide) (by decide) (by decide)).trans ((t4 12 (by decide) (by decide)).trans tg))
      ((kp9 15 (by decide) (by decide) (by decide)).trans ((kp8 15 (by decide) (by decide) (by decide)).trans ((kp7 15 (by decide) (by decide) (by decide)).trans ((kp6 15 (by decide) (by decide) (by decide)).trans th))))
      ((kp9 17 (by decide) (by decide) (by decide)).trans ((kp8 17 (by decide) (by decide) (by decide)).trans ((kp7 17 (by decide) (by decide) (by decide)).trans ti)))
      ((kp9 20 (by decide) (by decide) (by decide)).trans tk)
      ((k49.keep _ (by omega)).trans mF') ((k49.keep _ (by omega)).trans mG')
      ((k9.keep _ (by have := k6.size; have := k7.size; have := k8.size; omega)).trans ((k8.keep _ (by have := k6.size; have := k7.size; omega)).trans ((k7.keep _ (by have := k6.size; omega)).trans ((k6.keep _ (by omega)).trans mH))))
      ((k9.keep _ (by have := k7.size; have := k8.size; omega)).trans ((k8.keep _ (by have := k7.size; omega)).trans ((k7.keep _ (by omega)).trans mI)))
      ((k9.keep _ (by omega)).trans mK) fun a10 T10 hi10 t8 => ?_)
    exact wp_ret ⟨rfl, ⟨T10, hi10, t8⟩, K9⟩
  · rintro ex a' w' ⟨rfl, ⟨T, hT, h8⟩, hk⟩
    refine ⟨hT.defers, .bool true, ?_, rfl, hk⟩
    have := hT.at_ 8
    rw [h8] at this
    rw [Array.getD_eq_getD_getElem?] at this
    simp [results, r3, this]
end
end Go.SP
