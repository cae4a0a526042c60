/- DenoteStates is proved (its second form): where the arguments are of bulk at most 1048576, the law is true and the input reads as it did. No condition beyond the given one. -/
import Derived.Test.YtmddopocbbnhlaaGreatDoorWa
import Derived.Test.YtmddopocbbnhlaaGreatDoorWb
import Derived.Test.YtmddopocbbnhlaaGreatDoorWd
import Derived.Test.YtmddopocbbnhlaaGreatDoorWe
import Derived.Test.YtmddopocbbnhlaaGreatDoorCards
import Derived.Test.YtmddopocbbnhlaaGreatDoorTie
import Derived.WalkKit
import Derived.ProofKit
import Derived.OpenShut
import Derived.SizedLaws
import Derived.ChangeBook
import Derived.Deep.DeepHandedRow
import Derived.Deep.DeepWitnessRowRef
set_option linter.all false
set_option maxRecDepth 100000
namespace Go.RW
open Go.Proofs Go.RX Go.Proofs.YtmddopocbbnhlaaGreatDoor
open Go.ChangeShapes Go.WideShapes Go.ChangeAt Go.RowKit
theorem own : ownKnob Tryz.prog.godebug = none := by kernel_rfl
theorem qgi : laidOutB Tryz.prog = true := by kernel_rfl
theorem p3 : Tryz.f3.params = #[25, 28] := by kernel_rfl
theorem rt3 : Tryz.f3.resultTypes = #[4] := by kernel_rfl
theorem qu0 : Tryz.prog.readableRec 25 = true := by kernel_rfl
theorem qu1 : Tryz.prog.readableRec 28 = true := by kernel_rfl
theorem quw : 25 < Tryz.prog.types.size := of_decide_eq_true (by kernel_rfl)
theorem qux : 28 < Tryz.prog.types.size := of_decide_eq_true (by kernel_rfl)
def zS : Array Value := #[.slice none 0 0]
def zA : Array Value := #[.agg #[.slice none 0 0, .slice none 0 0], .agg zS]
theorem qhp {t : TypeId} {base : Nat} {W : World} {v : Value} {l : List (TypeId × Nat × Nat)} (hf : qcd Tryz.prog t = some l) (h : Value.okWide Tryz.prog W .any base t v) : ∃ cs, v = .agg cs := by
 unfold qcd at hf
 split at hf
 ·rename_i fs hu
  obtain ⟨cs, h1, _⟩ := okWide_struct hu h
  exact ⟨cs, h1⟩
 ·cases hf
section
variable {H : Type} {enc : TypeId × Value → H} {W W' : World}
theorem Kp.keptBut {may : MemPlace → Prop} (h : Kp W W') : W.keptBut W' may := by
 refine ⟨h.os, h.output, fun i hi => ?_⟩
 rw [h.keep i hi]
 cases hw : W.heap[i]? with
 | none => simp
 | some o => cases o <;> simp
theorem qez {sp : Nat → Bool} {t : TypeId} {v : Value} {d : DataW H} {p : List MemPlace} (hk : Kp W W') (hr : Tryz.prog.readableRec t = true) (ht : t < Tryz.prog.types.size) (h : DataW.Trod enc Tryz.prog W 0 (fun _ => true) true t v d p) (hs : ∀ x ∈ p, sp x.block = true) : DataW.Trod enc Tryz.prog W' 0 sp true t v d p := by
 obtain ⟨n, h⟩ := h
 refine ⟨n, DataW.trod_stays (kids_book qgi hr) (book_sized hr) (fun h => by cases h) ⟨ht, book_self t⟩ h (fun x hx => ?_) hs⟩
 have hlt := DataW.trod_lt n t _ _ h x hx
 cases x with
 | cell b off => exact World.cell?_of_block (hk.keep b hlt)
 | map b => exact hk.keep b hlt
theorem qgl {c : cg} {s : List (List Row)} (hc : c.Fits B) (hs : ∀ l ∈ s, l.length ≤ B) (hs2 : s.length ≤ B) {CC SS : Array Value}
  (hC : b9 (RdI (old W)) W (p_x0 (az false c)) CC.toList) (hS : b9 (RdI (old W)) W (p_x4 (de false s)) SS.toList) :
  Calls Tryz.prog 3 #[.agg CC, .agg SS] W fun e w' => e = .returned (.bool true) ∧ Kp W w' := by
 have h := bu (B + 200) 3 [.agg ((p_x0 (az false c)).map .p), .agg ((p_x4 (de false s)).map .p)] [] (fun r h' => r = .p (.bool true) ∧ h' = []) (by
  show (TT (B + 200)).f_zq (az false c) (de false s) _
  rw [rq (B + 200) B (by decide) (Nat.le_refl _) false false c hc s hs hs2]; exact ⟨rfl, rfl⟩)
 obtain ⟨r, h', ⟨rfl, rfl⟩, h⟩ := h
 refine (tr h (w := W) (vals := #[.agg CC, .agg SS]) ?_ fn3 hb3).mono fun e w' he => ?_
 ·exact ⟨_, _, rfl, ⟨CC, rfl, (c6 _ _).2 (qmk (fun _ h => h) hC), b9.yo _ _ hC⟩, _, _, rfl, ⟨SS, rfl, (c6 _ _).2 (qmk (fun _ h => h) hS), b9.yo _ _ hS⟩, rfl⟩
 ·obtain ⟨v, c', rfl, hv, rfl, hk⟩ := he
  simp only [V, RoC, List.cons.injEq, and_true] at hv
  subst hv
  exact ⟨rfl, hk⟩
theorem qf7 (base : Nat) (args : Array Value) (ds gs : List (DataW H)) (before : List MemPlace) (hval0 : ∀ (j : Nat) t v, Tryz.f3.params[j]? = some t → args[j]? = some v → Value.okWide Tryz.prog W .any base t v)
  (hW : DataW.Whole enc Tryz.prog Tryz.f3.params.toList Rows.denoteStatesSpec.vars false W args.toList ds gs before)
  (hb : Rows.uptoBulkAll (ds ++ gs) ≤ B) :
  Calls Tryz.prog 3 args W fun e W' => ∃ v, e = .returned v ∧ Rows.denoteStatesSpec.post enc Tryz.prog Tryz.f3 false true false false W args v W' := by
 have hW' := hW
 obtain ⟨p, q, hA0, hV, rfl, _, _⟩ := hW
 have hA : DataW.TrodAll enc Tryz.prog W 0 (fun _ => true) true Tryz.f3.params.toList args.toList ds p := hA0
 have hval : ∀ (j : Nat) t v, Tryz.f3.params[j]? = some t → args[j]? = some v → Value.okWide Tryz.prog W .any base t v := hval0
 clear hval0 hA0
 rw [p3] at hA hval
 obtain ⟨v0, vs0, d0, ds0, q0, r0, hargs, rfl, rfl, h0, hA⟩ := trodAll_cons hA
 obtain ⟨v1, vs1, d1, ds1, q1, r1, rfl, rfl, rfl, h1, hA⟩ := trodAll_cons hA
 obtain ⟨rfl, rfl, rfl⟩ := trodAll_nil hA
 obtain rfl : args = #[v0, v1] := Array.toList_inj.1 hargs
 obtain ⟨rfl, rfl⟩ := trodVars_none hV
 have lt : ∀ x ∈ q0 ++ (q1 ++ []) ++ [], x.block < W.heap.size := fun x hx => by simpa using hW'.lt x hx
 simp only [List.append_nil, Rows.uptoBulkAll] at hb
 obtain ⟨CC, rfl⟩ := qhp qrk (hval 0 25 v0 rfl rfl)
 obtain ⟨SS, rfl⟩ := qhp qrl (hval 1 28 v1 rfl rfl)
 have k0 := h0
 have k1 := h1
 obtain ⟨n0, g0⟩ := h0
 obtain ⟨n1, g1⟩ := h1
 obtain ⟨c, ⟨hc, hc1, hc2⟩, rc⟩ := o25 (R := B) (Nat.le_refl _) ⟨d0, _, g0, by omega⟩
 obtain ⟨s, ⟨hs, hs1⟩, rs⟩ := o28 (R := B) (Nat.le_refl _) ⟨d1, _, g1, by omega⟩
 refine (qgl hc hs hs1 rc rs).mono fun e W' ⟨he, hkp⟩ => ?_
 subst he
 refine ⟨_, rfl, _, _, _, [], q0 ++ (q1 ++ []), [], hW', ?_, ?_, rfl, hkp.keptBut, fun h => by cases h⟩
 ·rw [rt3]
  exact trodAll_cons_mk (shut_bool v4 _) trodAll_mk0
 ·rw [p3]
  have kt : ∀ {t : TypeId} {v : Value} {d : DataW H} {q : List MemPlace}, Tryz.prog.readableRec t = true → t < Tryz.prog.types.size → DataW.Trod enc Tryz.prog W 0 (fun _ => true) true t v d q → (∀ x ∈ q, x ∈ q0 ++ (q1 ++ []) ++ []) → DataW.Trod enc Tryz.prog W' 0 (fun b => decide (b < W.heap.size)) true t v d q :=
   fun hr ht h hin => qez hkp hr ht h fun x hx => by simpa using lt x (hin x hx)
  refine trodAll_cons_mk (kt qu0 quw k0 ?_) (trodAll_cons_mk (kt qu1 qux k1 ?_) trodAll_mk0)
  all_goals
   intro x hx
   simp [hx]
end
theorem reads (os : Os) {H : Type} (enc : TypeId × Value → H) : ∃ places, DataW.whole enc Tryz.prog ((ql os).forCall (fun _ _ => 0) ⟨#[], zA, []⟩).memory Tryz.f3.params.toList Rows.denoteStatesSpec.vars false zA.toList 8 =
  some ([.agg [.nil, .nil], .agg [.nil]], [], places) :=
 ⟨[], by kernel_rfl⟩
set_option maxHeartbeats 2000000 in
theorem lifted (os : Os) (started : os.Started) (H : Type) (enc : TypeId × Value → H) (F : Stop.Interp) :
  ReturnsInHanded {} Tryz.checked os 3 .any ((Rows.OpenSpec.upto Rows.denoteStatesSpec).preRow enc Tryz.prog Tryz.f3 Rows.denoteStatesUptoRow.domain false Rows.denoteStatesUptoRow.laid) (((Rows.OpenSpec.upto Rows.denoteStatesSpec).at F).post enc Tryz.prog Tryz.f3 false true false false) := by
 obtain ⟨places, hx⟩ := reads os enc
 refine returnsInHanded_of_row (C := Tryz.checked) (s := Rows.OpenSpec.upto Rows.denoteStatesSpec) own started (by kernel_rfl) fn3.at_
  (witness_row_atRef (enc := enc) (C := Tryz.checked) false (ql os) zA rfl (by kernel_rfl) (by kernel_rfl) (by kernel_rfl)
   (OpenSpec.preRow_of_cond 8 hx (by kernel_rfl) (fun k hk => by cases hk; kernel_rfl) (by kernel_rfl) (qgj os _))) ?_
 intro W base args ds gs before hval hW _ hcond _ _ _ _
 exact qf7 base args ds gs before hval hW (of_decide_eq_true (hcond _ rfl))
theorem closed : joinedFacts Tryz.pinned.checked.prog 3 Tryz.f3 (Rows.OpenSpec.upto Rows.denoteStatesSpec).bare Rows.denoteStatesUptoRow = true := by
 unfold joinedFacts
 rw [fa1, fa2, fa3, fa4]
 kernel_rfl
theorem said : Rows.DenoteStatesUptoSaid :=
 OpenClaim.holds_of_cond 3 Tryz.f3 rfl rfl rfl rfl rfl rfl rfl ⟨rfl, rfl, rfl, rfl, rfl⟩ rfl rfl rfl rfl rfl (by kernel_rfl) fn3.at_ closed
  (of_decide_eq_true (by kernel_rfl)) (by unfold Func.isWrapper; first | (rw [if_pos (by decide +kernel)]; kernel_rfl) | (rw [if_neg (by decide +kernel)]; exact ⟨rfl, rfl⟩))
  (fun os started H enc _ F => by rw [OpenClaim.pre_eq_preRow]; exact lifted os started H enc F)
theorem plain (f : FuncId) (fn : Func) (hf : Tryz.pinned.checked.prog.funcNamed "unison/unisonlaw14.DenoteStates" = some f) (hfn : Tryz.pinned.checked.prog.funcs[f]? = some fn) :
  true = Tryz.pinned.checked.prog.looks [] ∧ ∀ (j : Nat) t, fn.params[j]? = some t → Tryz.pinned.checked.prog.wantsStandIn t = false := by
 obtain rfl : f = 3 := Option.some.inj ((show Tryz.prog.funcNamed "unison/unisonlaw14.DenoteStates" = some 3 by kernel_rfl).symm.trans hf) |>.symm
 obtain rfl : fn = Tryz.f3 := (Option.some.inj (fn3.at_.symm.trans hfn)).symm
 refine ⟨by kernel_rfl, fun j t ht => ?_⟩
 rw [p3] at ht
 have : t = 25 ∨ t = 28 := by simpa using Array.mem_of_getElem? ht
 rcases this with rfl | rfl
 ·exact (show Tryz.prog.wantsStandIn 25 = false by kernel_rfl)
 ·exact (show Tryz.prog.wantsStandIn 28 = false by kernel_rfl)
theorem card : Rows.DenoteStatesUptoCardSaid :=
 Claim7.holds_tied_plain_at .later [] _ _ _ _ said (fun _ h => by cases h) (by kernel_rfl) (fun _ h => by cases h) denoteStatesUpto_row_tie rfl ⟨rfl, rfl⟩ (by kernel_rfl) rfl plain (by kernel_rfl)
end Go.RW

namespace Go.Proofs.YtmddopocbbnhlaaGreatDoor
theorem denoteStates : Rows.DenoteStatesUptoCardSaid := Go.RW.card
end Go.Proofs.YtmddopocbbnhlaaGreatDoor
#print axioms Go.Proofs.YtmddopocbbnhlaaGreatDoor.denoteStates
