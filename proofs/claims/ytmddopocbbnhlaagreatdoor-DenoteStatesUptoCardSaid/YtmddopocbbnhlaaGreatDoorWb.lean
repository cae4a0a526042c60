/- What the arguments read as; a world that holds what the row lists; the row. No condition. -/
import Derived.Test.YtmddopocbbnhlaaGreatDoorRows
import Derived.Lib.LaidCaseMet
set_option linter.all false
set_option maxRecDepth 100000
namespace Go.RW
open Go.Proofs Go.Lib Go.Proofs.YtmddopocbbnhlaaGreatDoor
theorem qcw : Go.Pinned.caseRanges = caseData := by kernel_rfl
theorem qu5 : Tryz.prog.underlying 356 = some (.struct #[{ name := "Lo", type := 324, offset := 0, embedded := false, tag := "", pkgPath := "", byteOffset := 0 }, { name := "Hi", type := 324, offset := 1, embedded := false, tag := "", pkgPath := "", byteOffset := 4 }, { name := "Delta", type := 354, offset := 2, embedded := false, tag := "", pkgPath := "", byteOffset := 8 }]) := by kernel_rfl
theorem qu2 : Tryz.prog.underlying 324 = some (.int .u32) := by kernel_rfl
theorem u21 : Tryz.prog.underlying 21 = some (.int .i32) := by kernel_rfl
theorem qu4 : Tryz.prog.underlying 354 = some (.array 3 21) := by kernel_rfl
theorem qu3 : Tryz.prog.underlying 342 = some (.slice 356) := by kernel_rfl
theorem qre : Tryz.prog.cellsOf 356 = 5 := by kernel_rfl
theorem qsx : Tryz.prog.cellsOf 324 = 1 := by kernel_rfl
theorem c21 : Tryz.prog.cellsOf 21 = 1 := by kernel_rfl
theorem qsy : Tryz.prog.cellsOf 354 = 3 := by kernel_rfl
theorem g1 : Tryz.prog.globalNamed "unicode.CaseRanges" = some 4 := by kernel_rfl
theorem gt1 : (Tryz.prog.globals[4]?).map (·.type) = some 342 := by kernel_rfl
section
variable {H : Type} {enc : TypeId × Value → H} {w : World} {base : Nat} {sp : Nat → Bool} {held : Bool}
theorem qd8 (x : CaseRow) (hw : rowWf x = true) (fuel : Nat) :
  DataW.trod enc Tryz.prog w base sp held (fuel + 3) 356 (cells5 x) = some (rowData x, []) := by
 simp only [rowWf, Bool.and_eq_true] at hw
 obtain ⟨⟨⟨⟨w0, w1⟩, w2⟩, w3⟩, w4⟩ := hw
 have r3 : List.range 3 = [0, 1, 2] := rfl
 simp [DataW.trod, qu5, qu2, u21, qu4, qre, qsx, c21, qsy, cells5, rowData, w0, w1, w2, w3, w4, r3]
end
theorem qd9 {w : World} {R : Nat} (hT : CaseTab R 0 caseA w) (fuel : Nat) :
  DataW.trod (fun _ => ()) Tryz.prog w 0 (fun _ => true) false (fuel + 4) 342 [.slice (some ⟨R, 0, none⟩) caseA.size caseA.size] =
   some (caseData, MemPlace.row ⟨R, 0, none⟩ (caseA.size * 5)) := by
 have helem : ∀ i ∈ List.range caseA.size, (w.cells? 0 ((⟨R, 0, none⟩ : Addr).add (i * 5)) 5).bind (DataW.trod (fun _ => ()) Tryz.prog w 0 (fun _ => true) false (fuel + 3) 356) = some ((fun i => ((rowData (caseA.getD i (0, 0, 0, 0, 0)) : DataW Unit), ([] : List MemPlace))) i) := by
  intro i hi
  have hi' := List.mem_range.1 hi
  rw [case_cells5 hT i hi']
  exact qd8 _ (caseA_wf i hi') fuel
 show DataW.trod _ _ _ _ _ _ ((fuel + 3) + 1) _ _ = _
 unfold DataW.trod
 simp only [qu3, qre]
 rw [if_pos ⟨Nat.zero_le _, Nat.le_refl _, by rw [caseA_size]; unfold maxLen; omega⟩, mapM_some _ _ _ helem]
 rw [caseData, ← case_rows_data]
 simp [Function.comp_def]
theorem qgk {w : World} {l1 l2 : List (String × DataW Unit)} (fuel : Nat)
  (h1 : (DataW.laidRun Tryz.prog w fuel (l1.map (·.1))).map (·.1) = some l1) (h2 : (DataW.laidRun Tryz.prog w fuel (l2.map (·.1))).map (·.1) = some l2)
  (hn : (DataW.laidRun Tryz.prog w fuel (l1.map (·.1))).bind (fun x => (DataW.laidRun Tryz.prog w fuel (l2.map (·.1))).map fun y => nodupB ((x.2 ++ y.2).map MemPlace.codeOf)) = some true)
  (hr : (DataW.laidRun Tryz.prog w fuel (l1.map (·.1))).bind (fun x => (DataW.laidRun Tryz.prog w fuel (l2.map (·.1))).map fun y => laidRowsB Tryz.prog w (x.2 ++ y.2)) = some true)
  (R : Nat) (t : TypeId) (hgR : 4 ≠ R)
  (hoff : (DataW.laidRun Tryz.prog w fuel (l1.map (·.1))).bind (fun x => (DataW.laidRun Tryz.prog w fuel (l2.map (·.1))).map fun y => (x.2 ++ y.2).all fun p => p.block != 4 && p.block != R) = some true)
  (hvar : w.heap[4]? = some (.cells #[.slice (some ⟨R, 0, none⟩) caseA.size caseA.size] 342 (0, 0)))
  (hblk : w.heap[R]? = some (.cells caseCells5 t (0, 0))) :
  laidMet Tryz.prog (l1 ++ ("unicode.CaseRanges", Go.Pinned.caseRanges) :: l2) w := by
 cases hx : DataW.laidRun Tryz.prog w fuel (l1.map (·.1)) with
 | none => simp [hx] at h1
 | some x =>
 cases hy : DataW.laidRun Tryz.prog w fuel (l2.map (·.1)) with
 | none => simp [hy] at h2
 | some y =>
  rw [hx] at h1 hn hr hoff
  rw [hy] at h2 hn hr hoff
  simp only [Option.map_some, Option.bind_some, Option.some.injEq] at h1 h2 hn hr hoff
  obtain ⟨x1, ps⟩ := x
  obtain ⟨y1, qs⟩ := y
  simp only at h1 h2 hn hr hoff
  subst h1 h2
  have hT := caseTab_of_block hblk
  have hv : w.var? Tryz.prog "unicode.CaseRanges" = some #[.slice (some ⟨R, 0, none⟩) caseA.size caseA.size] := by simp [World.var?, g1, hvar]
  have hmid : DataW.LaidVars Tryz.prog w (("unicode.CaseRanges", Go.Pinned.caseRanges) :: y1) (MemPlace.row ⟨4, 0, none⟩ 1 ++ MemPlace.row ⟨R, 0, none⟩ (caseA.size * 5) ++ qs) :=
   ⟨4, 342, _, _, _, qs, g1, gt1, hv, by rw [qcw]; exact qd9 hT 0, DataW.LaidVars_of_laidRun hy, rfl⟩
  have hpq : (ps ++ qs).Nodup := nodup_of_code hn
  obtain ⟨hps, hqs, hdis⟩ := List.nodup_append.1 hpq
  have hblocks : ∀ p ∈ ps ++ qs, p.block ≠ 4 ∧ p.block ≠ R := fun p hp => by
   have := List.all_eq_true.1 hoff p hp
   simpa using this
  have inC : ∀ b ∈ MemPlace.row ⟨4, 0, none⟩ 1 ++ MemPlace.row ⟨R, 0, none⟩ (caseA.size * 5), b.block = 4 ∨ b.block = R := fun b hb => by
   rcases List.mem_append.1 hb with hb | hb
   ·obtain ⟨i, _, rfl⟩ := MemPlace.mem_row.1 hb; exact .inl rfl
   ·obtain ⟨i, _, rfl⟩ := MemPlace.mem_row.1 hb; exact .inr rfl
  refine ⟨_, LaidVars_append (DataW.LaidVars_of_laidRun hx) hmid, ?_, fun b off hp => ?_⟩
  ·refine List.nodup_append.2 ⟨hps, List.nodup_append.2 ⟨List.nodup_append.2 ⟨row_nodup _ _, row_nodup _ _, ?_⟩, hqs, ?_⟩, ?_⟩
   ·intro a ha b hb e
    obtain ⟨i, _, rfl⟩ := MemPlace.mem_row.1 ha
    obtain ⟨j, _, rfl⟩ := MemPlace.mem_row.1 hb
    simp at e
    exact hgR e.1
   ·intro a ha b hb e
    subst e
    obtain ⟨h3, h4⟩ := hblocks a (List.mem_append.2 (.inr hb))
    rcases inC a ha with h | h
    ·exact h3 h
    ·exact h4 h
   ·intro a ha b hb e
    subst e
    rcases List.mem_append.1 hb with hb | hb
    ·obtain ⟨h3, h4⟩ := hblocks a (List.mem_append.2 (.inl ha))
     rcases inC a hb with h | h
     ·exact h3 h
     ·exact h4 h
    ·exact hdis a ha a hb rfl
  ·have good : MemPlace.cell b off ∈ ps ++ qs → (∃ c t, w.heap[b]? = some (.cells c t (0, 0))) ∧ ∀ u v, w.cell? ⟨b, off, none⟩ = some (.iface u v) → Value.okWide Tryz.prog w .any 0 u v := fun hp => by
    have := List.all_eq_true.1 hr _ hp
    simp only [Bool.and_eq_true] at this
    obtain ⟨h1, h2⟩ := this
    refine ⟨?_, fun u v hc => ?_⟩
    ·split at h1
     ·rename_i c t' hh
      exact ⟨c, t', hh⟩
     ·cases h1
    ·rw [hc] at h2
     exact Value.okWide_of_okWideB h2
   rcases List.mem_append.1 hp with hp | hp
   ·exact good (List.mem_append.2 (.inl hp))
   ·rcases List.mem_append.1 hp with hp | hp
    ·rcases List.mem_append.1 hp with hp | hp
     ·obtain ⟨i, hi, e⟩ := MemPlace.mem_row.1 hp
      cases e
      refine ⟨⟨_, _, hvar⟩, fun u v hc => ?_⟩
      obtain rfl : i = 0 := by omega
      rw [Lib.cell_of_heap hvar] at hc
      simp at hc
     ·obtain ⟨i, hi, e⟩ := MemPlace.mem_row.1 hp
      cases e
      refine ⟨⟨_, _, hblk⟩, fun u v hc => ?_⟩
      obtain ⟨c0, c1, c2, c3, c4⟩ := hT (i / 5) (by omega)
      have hi5 : 0 + i = 0 + i / 5 * 5 + i % 5 := by omega
      simp only at hc
      rw [hi5] at hc
      have hm : i % 5 < 5 := Nat.mod_lt _ (by omega)
      match hk : i % 5, hm with
      | 0, _ => rw [hk, Nat.add_zero, c0] at hc; cases hc
      | 1, _ => rw [hk, c1] at hc; cases hc
      | 2, _ => rw [hk, c2] at hc; cases hc
      | 3, _ => rw [hk, c3] at hc; cases hc
      | 4, _ => rw [hk, c4] at hc; cases hc
    ·exact good (List.mem_append.2 (.inr hp))
def ints (d : DataW Unit) : List Value := match d with
 | .agg l => l.flatMap fun x => match x with
  | .lit (.int k n) => [.int k n]
  | .agg r => r.flatMap fun y => match y with
   | .lit (.int k n) => [.int k n]
   | _ => []
  | _ => []
 | _ => []
noncomputable def ql (os : Os) : World :=
 let w0 := World.holding Tryz.prog os ⟨#[.cells #[.string ⟨#[118, 97, 108, 117, 101, 32, 111, 117, 116, 32, 111, 102, 32, 114, 97, 110, 103, 101]⟩] 320, .cells #[.string ⟨#[105, 110, 118, 97, 108, 105, 100, 32, 115, 121, 110, 116, 97, 120]⟩] 320, .cells caseCells5 356], #[], []⟩
 let put (h : Array Obj) (g : Nat) (cs : Array Value) : Array Obj := h.modify g fun
  | .cells _ t frozen => .cells cs t frozen
  | o => o
 let h1 := put w0.heap 5 (ints Rows.laid_math_bits_deBruijn32tab).toArray
 let h2 := put h1 6 (ints Rows.laid_math_bits_deBruijn64tab).toArray
 let h3 := put h2 3 (ints Rows.laid_internal_strconv_uint64pow10).toArray
 let h4 := put h3 8 (ints Rows.laid_unicode_utf8_acceptRanges).toArray
 let h5 := put h4 2 #[.iface 318 (.pointer (some ⟨14, 0, none⟩))]
 let h6 := put h5 1 #[.iface 318 (.pointer (some ⟨15, 0, none⟩))]
 let h7 := put h6 4 #[.slice (some ⟨16, 0, none⟩) caseA.size caseA.size]
 let h8 := put h7 7 (ints Go.Pinned.utf8First).toArray
 { w0 with heap := h8 }
theorem qgj (os : Os) (args : Array Value) : laidMet Tryz.prog Rows.denoteStatesUptoRow.laid ((ql os).forCall (fun _ _ => 0) ⟨#[], args, []⟩).memory :=
 qgk (l1 := [("math/bits.deBruijn32tab", Rows.laid_math_bits_deBruijn32tab), ("math/bits.deBruijn64tab", Rows.laid_math_bits_deBruijn64tab), ("internal/strconv.uint64pow10", Rows.laid_internal_strconv_uint64pow10), ("unicode/utf8.acceptRanges", Rows.laid_unicode_utf8_acceptRanges), ("strconv.ErrRange", Rows.laid_strconv_ErrRange), ("strconv.ErrSyntax", Rows.laid_strconv_ErrSyntax)])
  (l2 := [("unicode/utf8.first", Go.Pinned.utf8First)]) 10 (by kernel_rfl) (by kernel_rfl) (by kernel_rfl) (by kernel_rfl) 16 356 (by decide) (by kernel_rfl) (by kernel_rfl) (by kernel_rfl)
end Go.RW
