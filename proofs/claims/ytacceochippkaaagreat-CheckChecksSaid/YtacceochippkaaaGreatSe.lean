/- CheckChecks is proved: the law is true at every input, and the input reads as it did. No condition. -/
import Derived.Test.YtacceochippkaaaGreatSd
import Derived.Test.YtacceochippkaaaGreatRows
import Derived.WalkKit
import Derived.ProofKit
import Derived.OpenShut
import Derived.SizedLaws
import Derived.ChangeBook
set_option linter.all false
set_option maxRecDepth 100000
namespace Go.SP
open Go.Proofs Go.RX Go.Proofs.YtacceochippkaaaGreat
open Go.ChangeShapes Go.WideShapes Go.ChangeAt Go.RowKit
theorem own : ownKnob Tryz.prog.godebug = none := by kernel_rfl
theorem laidOut' : laidOutB Tryz.prog = true := by kernel_rfl
theorem p3 : Tryz.f3.params = #[25, 26, 32, 32] := by kernel_rfl
theorem rt3 : Tryz.f3.resultTypes = #[4] := by kernel_rfl
theorem rd25 : Tryz.prog.readableRec 25 = true := by kernel_rfl
theorem rd26 : Tryz.prog.readableRec 26 = true := by kernel_rfl
theorem rd32 : Tryz.prog.readableRec 32 = true := by kernel_rfl
theorem lt25 : 25 < Tryz.prog.types.size := of_decide_eq_true (by kernel_rfl)
theorem lt26 : 26 < Tryz.prog.types.size := of_decide_eq_true (by kernel_rfl)
theorem lt32 : 32 < Tryz.prog.types.size := of_decide_eq_true (by kernel_rfl)
def zS : Array Value := #[.int .i64 0, .string ⟨#[]⟩, .string ⟨#[]⟩, .slice none 0 0, .slice none 0 0, .slice none 0 0, .bool false, .slice none 0 0, .slice none 0 0, .slice none 0 0, .slice none 0 0, .int .i64 0, .int .i64 0]
theorem agg_of {t : TypeId} {base : Nat} {W : World} {v : Value} {l : List (TypeId × Nat × Nat)} (hf : flds Tryz.prog t = some l) (h : Value.okWide Tryz.prog W .any base t v) : ∃ cs, v = .agg cs := by
  unfold flds at hf
  split at hf
  · rename_i fs hu
    obtain ⟨cs, h1, _⟩ := okWide_struct hu h
    exact ⟨cs, h1⟩
  · cases hf
section
variable {H : Type} {enc : TypeId × Value → H} {W W' : World}
theorem Kp.keptBut {may : MemPlace → Prop} (h : Kp W W') : W.keptBut W' may := by
  refine ⟨h.os, h.output, fun i hi => ?_⟩
  rw [h.keep i hi]
  cases hw : W.heap[i]? with
  | none => simp
  | some o => cases o <;> simp
theorem trod_kept {sp : Nat → Bool} {t : TypeId} {v : Value} {d : DataW H} {p : List MemPlace} (hk : Kp W W') (hr : Tryz.prog.readableRec t = true) (ht : t < Tryz.prog.types.size) (h : DataW.Trod enc Tryz.prog W 0 (fun _ => true) true t v d p) (hs : ∀ x ∈ p, sp x.block = true) : DataW.Trod enc Tryz.prog W' 0 sp true t v d p := by
  obtain ⟨n, h⟩ := h
  refine ⟨n, DataW.trod_stays (kids_book laidOut' hr) (book_sized hr) (fun h => by cases h) ⟨ht, book_self t⟩ h (fun x hx => ?_) hs⟩
  have hlt := DataW.trod_lt n t _ _ h x hx
  cases x with
  | cell b off => exact World.cell?_of_block (hk.keep b hlt)
  | map b => exact hk.keep b hlt
theorem contract (base : Nat) (args : Array Value) (ds gs : List (DataW H)) (before : List MemPlace) (hval0 : ∀ (j : Nat) t v, Tryz.f3.params[j]? = some t → args[j]? = some v → Value.okWide Tryz.prog W .any base t v)
    (hW : DataW.Whole enc Tryz.prog Tryz.f3.params.toList Rows.checkChecksSpec.vars false W args.toList ds gs before)
    (hsz0 : (DataW.weightsEach Tryz.prog (Tryz.f3.params.toList ++ Rows.checkChecksSpec.plain.varTypes Tryz.prog) (ds ++ gs)).all (· ≤ reachBytes) = true) :
    Calls Tryz.prog 3 args W fun e W' => ∃ v, e = .returned v ∧ Rows.checkChecksSpec.post enc Tryz.prog Tryz.f3 false true false false W args v W' := by
  have hW' := hW
  obtain ⟨p, q, hA0, hV, rfl, _, _⟩ := hW
  have hA : DataW.TrodAll enc Tryz.prog W 0 (fun _ => true) true Tryz.f3.params.toList args.toList ds p := hA0
  have hval : ∀ (j : Nat) t v, Tryz.f3.params[j]? = some t → args[j]? = some v → Value.okWide Tryz.prog W .any base t v := hval0
  have hsz : (DataW.weightsEach Tryz.prog (Tryz.f3.params.toList ++ Rows.checkChecksSpec.plain.varTypes Tryz.prog) (ds ++ gs)).all (· ≤ reachBytes) = true := hsz0
  clear hval0 hsz0 hA0
  rw [p3] at hA hval hsz
  obtain ⟨v0, vs0, d0, ds0, q0, r0, hargs, rfl, rfl, h0, hA⟩ := trodAll_cons hA
  obtain ⟨v1, vs1, d1, ds1, q1, r1, rfl, rfl, rfl, h1, hA⟩ := trodAll_cons hA
  obtain ⟨v2, vs2, d2, ds2, q2, r2, rfl, rfl, rfl, h2, hA⟩ := trodAll_cons hA
  obtain ⟨v3, vs3, d3, ds3, q3, r3, rfl, rfl, rfl, h3, hA⟩ := trodAll_cons hA
  obtain ⟨rfl, rfl, rfl⟩ := trodAll_nil hA
  obtain rfl : args = #[v0, v1, v2, v3] := Array.toList_inj.1 hargs
  obtain ⟨rfl, rfl⟩ := trodVars_none hV
  have lt : ∀ x ∈ q0 ++ (q1 ++ (q2 ++ (q3 ++ []))) ++ [], x.block < W.heap.size := fun x hx => by simpa using hW'.lt x hx
  have wt : ∀ (j : Nat) (t : TypeId) (d : DataW H), [25, 26, 32, 32][j]? = some t → [d0, d1, d2, d3][j]? = some d → ∀ x ∈ d.weights Tryz.prog t, x ≤ reachBytes := fun j t d ht hd x hx => by
    have := List.all_eq_true.1 hsz x (DataW.weights_mem_each (j := j) (t := t) (d := d) (by
      rw [List.getElem?_append_left (by have := (List.getElem?_eq_some_iff.1 ht).1; simpa using this)]
      exact ht) (by
      rw [List.getElem?_append_left (by have := (List.getElem?_eq_some_iff.1 hd).1; simpa using this)]
      exact hd) x hx)
    simpa using this
  obtain ⟨CC, rfl⟩ := agg_of fl25 (hval 0 25 v0 rfl rfl)
  obtain ⟨a1, l1, c1, rfl⟩ := okWide_slice v26 (hval 1 26 v1 rfl rfl)
  obtain ⟨SS, rfl⟩ := agg_of fl32 (hval 2 32 v2 rfl rfl)
  obtain ⟨UU, rfl⟩ := agg_of fl32 (hval 3 32 v3 rfl rfl)
  have k0 := h0
  have k1 := h1
  have k2 := h2
  have k3 := h3
  obtain ⟨n0, g0⟩ := h0
  obtain ⟨n1, g1⟩ := h1
  obtain ⟨n2, g2⟩ := h2
  obtain ⟨n3, g3⟩ := h3
  obtain ⟨c, hc, rc⟩ := o25 (R := reachBytes) ⟨⟨_, g0⟩, wt 0 25 d0 rfl rfl⟩
  obtain ⟨ps, hp, zp, rp⟩ := o26 (R := reachBytes) ⟨⟨_, g1⟩, wt 1 26 d1 rfl rfl⟩
  obtain ⟨s, hs, rs⟩ := o32 (R := reachBytes) ⟨⟨_, g2⟩, wt 2 32 d2 rfl rfl⟩
  obtain ⟨u, hu, ru⟩ := o32 (R := reachBytes) ⟨⟨_, g3⟩, wt 3 32 d3 rfl rfl⟩
  obtain ⟨k, hk⟩ : ∃ k, reachBytes + 300 ≤ k := ⟨_, Nat.le_refl _⟩
  refine (law_true k reachBytes (by decide) hk (L := old W) (fun b hb => hb) hc ⟨zp, hp⟩ hs hu rc rp rs ru).mono fun e W' ⟨he, hkp⟩ => ?_
  subst he
  refine ⟨_, rfl, _, _, _, [], q0 ++ (q1 ++ (q2 ++ (q3 ++ []))), [], hW', ?_, ?_, rfl, hkp.keptBut, fun h => by cases h⟩
  · rw [rt3]
    exact trodAll_cons_mk (shut_bool v4 _) trodAll_mk0
  · rw [p3]
    have kt : ∀ {t : TypeId} {v : Value} {d : DataW H} {q : List MemPlace}, Tryz.prog.readableRec t = true → t < Tryz.prog.types.size → DataW.Trod enc Tryz.prog W 0 (fun _ => true) true t v d q → (∀ x ∈ q, x ∈ q0 ++ (q1 ++ (q2 ++ (q3 ++ []))) ++ []) → DataW.Trod enc Tryz.prog W' 0 (fun b => decide (b < W.heap.size)) true t v d q :=
      fun hr ht h hin => trod_kept hkp hr ht h fun x hx => by simpa using lt x (hin x hx)
    refine trodAll_cons_mk (kt rd25 lt25 k0 ?_) (trodAll_cons_mk (kt rd26 lt26 k1 ?_) (trodAll_cons_mk (kt rd32 lt32 k2 ?_) (trodAll_cons_mk (kt rd32 lt32 k3 ?_) trodAll_mk0)))
    all_goals
      intro x hx
      simp [hx]
end
set_option maxRecDepth 100000 in
theorem lifted (os : Os) (started : os.Started) (H : Type) (enc : TypeId × Value → H) :
    ReturnsInHanded {} Tryz.checked os 3 .any (Rows.checkChecksSpec.pre6 enc Tryz.prog Tryz.f3 Rows.checkChecksRow.domain false) (Rows.checkChecksSpec.post enc Tryz.prog Tryz.f3 false true false false) := by
  refine returnsInHanded_of_change_sized (C := Tryz.checked) own started (by kernel_rfl) fn3.at_
    (ChangeSpec.witness6 (enc := enc) (C := Tryz.checked) false ⟨#[], #[.agg #[.slice none 0 0, .slice none 0 0], .slice none 0 0, .agg zS, .agg zS], []⟩ 8 (by kernel_rfl) (by kernel_rfl) (by kernel_rfl) (by kernel_rfl)) ?_
  intro W base args ds gs before hval hW _ hsz _
  exact contract base args ds gs before hval hW hsz
theorem proved : Rows.CheckChecksSaid :=
  OpenClaim.holds_of_wide 3 Tryz.f3 rfl rfl rfl rfl rfl rfl rfl ⟨rfl, rfl, rfl, rfl, rfl⟩ rfl rfl rfl rfl rfl (by kernel_rfl) fn3.at_ (by kernel_rfl)
    (of_decide_eq_true (by kernel_rfl)) (by unfold Func.isWrapper; first | (rw [if_pos (by decide +kernel)]; kernel_rfl) | (rw [if_neg (by decide +kernel)]; exact ⟨rfl, rfl⟩))
    (fun os started H enc _ => lifted os started H enc)
end Go.SP

namespace Go.Proofs.YtacceochippkaaaGreat
theorem checkChecks : Rows.CheckChecksSaid := Go.SP.proved
end Go.Proofs.YtacceochippkaaaGreat
#print axioms Go.Proofs.YtacceochippkaaaGreat.checkChecks
