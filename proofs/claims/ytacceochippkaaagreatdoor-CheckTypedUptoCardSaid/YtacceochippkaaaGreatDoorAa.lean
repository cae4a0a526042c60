/- The function that wakes the law, run by the interpreter: it answers true. No condition. -/
import Derived.Test.YtacceochippkaaaGreatDoorRd
import Derived.KernelRfl
import Derived.Test.YtacceochippkaaaGreatDoorProg
import Derived.WalkKit
import Derived.Lib.Walk
import Derived.Lib.SliceRun
import Derived.Lib.AppendZeros
set_option linter.all false
set_option maxRecDepth 1000000
namespace Go.RX
open Go.Proofs
def kpD (f : FuncId) : List Nat := tab [] [(7, [0, 1, 2, 3, 4, 5, 6, 8, 9, 10, 64]), (8, [0, 1, 2, 3, 5, 6, 8, 9, 10, 11, 12, 13, 21, 33]), (10, [0, 2, 3, 4, 5, 6, 7, 8, 9, 17, 33, 41, 51]), (11, [0, 1, 2, 3, 5, 6, 7, 8, 9, 10, 18, 23, 33]), (15, [0, 1, 2]), (16, [0, 1, 4, 5, 10, 14, 25]), (17, [0, 1, 2, 4, 5, 6, 7, 8, 16, 22, 23, 24, 25]), (18, [0, 2, 3, 4, 6, 7, 8, 9, 12, 42, 71, 85, 98, 104, 105, 106, 107, 117, 144, 153]), (19, [0, 1, 2, 3, 4]), (28, [0, 2, 3, 4, 5, 6, 7, 8, 9, 10, 13, 17, 27, 33, 39, 54]), (29, [0, 2, 3, 19, 24, 28, 32, 46]), (30, [0, 2, 3, 4, 7, 15]), (31, [0, 1, 4]), (32, [0, 1, 2, 3, 5, 17, 18, 19, 20]), (33, [0, 1, 2]), (34, [0, 1, 2, 3, 5, 7, 8, 9, 10]), (35, [0, 1, 2, 3, 4, 20, 23, 62, 70, 71, 89]), (36, [0, 1, 3, 4, 5, 6, 18, 22, 36, 47, 61, 62, 68, 74]), (45, [0, 2]), (46, [0, 1, 2, 3, 4, 6, 8, 18, 22, 23, 24, 25, 37, 40, 41, 42, 43, 55]), (47, [0, 2, 3, 5, 7, 8, 9, 10, 38]), (48, [0, 1, 2]), (49, [0, 1, 4, 5, 7, 8, 9, 10, 11, 12, 13, 23]), (50, [0, 1, 4, 5, 7, 8, 13, 14, 15, 16, 35]), (51, [0, 2, 4]), (52, [0, 2, 4]), (53, [0, 1, 2, 6, 7, 8, 9, 32, 37, 38, 39, 40, 52]), (54, [0, 2, 3, 4, 6, 13, 18, 19, 20, 21, 33]), (55, [0, 1, 4, 5, 10, 12, 13, 14, 24]), (56, [0, 1, 4, 5, 10, 12, 13, 14, 24]), (57, [0, 1, 2, 6, 7, 8, 9, 14, 15, 16, 17, 18, 30]), (58, [0, 1, 2, 3, 4]), (66, [0, 2, 3, 14, 21, 28, 39, 42, 45, 48]), (67, [0, 1, 4]), (68, [0, 1, 4]), (69, [0, 2, 3, 4, 5, 6, 7, 8, 9, 14, 15, 23, 29, 32, 39, 47, 54, 61, 71, 77]), (70, [0, 1, 2, 3, 4, 7, 14]), (71, [0, 2]), (72, [0, 1, 4]), (73, [0, 1, 2, 3]), (74, [0, 1, 2, 3]), (75, [0, 1, 5, 6, 7, 8, 9, 15]), (76, [0, 2]), (77, [0, 1, 7]), (78, [0, 1, 2, 3, 4, 16, 35, 67, 79, 91]), (79, [0]), (80, [0, 1, 4, 5, 9]), (81, [0, 1, 4, 5, 11]), (82, [0, 1, 4, 5, 7, 8, 9, 16]), (83, [0, 2, 3, 5, 6, 8, 9, 10, 11, 12, 20, 25, 26, 27, 28]), (84, [0, 2, 3, 4, 6, 7, 8, 29]), (85, [0, 2]), (86, [0, 1, 2, 4, 6, 8, 9, 11, 12, 13, 14, 19, 22, 23, 24, 25, 30, 33, 34, 35, 36, 42]), (87, [0, 2]), (88, [0, 1, 3, 4, 5, 6, 7, 16, 23, 33, 40]), (89, [0, 1, 4, 6, 7, 9, 11, 12, 13, 14, 15, 16, 28, 29, 30, 31, 42, 43, 44, 45]), (90, [0, 1, 4, 5, 7, 8, 9, 10, 11, 12, 13, 24]), (91, [0, 1, 2, 3, 5, 7, 8, 9, 10, 11, 12, 19, 25, 26, 27, 28, 46]), (92, [0, 1, 2, 3, 5, 7, 8, 9, 11, 12, 13, 14, 17, 18, 19, 20, 28, 40, 60]), (93, [0, 1, 2, 4, 6, 7, 8, 10, 12, 24, 29, 36, 38, 39, 40, 41, 56, 89, 90, 91, 92]), (94, [0, 1, 4, 5]), (96, [0, 1, 2, 3, 4, 5, 6, 9, 11, 12, 17, 24, 29, 30, 31, 46, 56]), (100, [0, 2]), (101, [0, 1]), (102, [0, 1, 2, 3, 4, 6, 8, 10, 32, 36, 37, 38, 39, 52, 68, 70, 71, 72, 73, 82, 85, 86, 87, 88, 104]), (103, [0, 1, 2, 3, 5, 47, 50, 51, 52, 53, 66]), (104, [0, 1, 4]), (105, [0, 1, 3]), (106, [0, 1, 2, 4, 6, 7, 8, 10, 11, 12, 13, 17, 33, 47, 57, 71, 72, 73, 74, 86]), (117, [0, 1, 4]), (118, [0, 1, 4]), (119, [0, 2, 3, 28]), (120, [0, 2, 3, 4, 5]), (121, [0, 2]), (122, [0, 2, 3, 7, 14, 19]), (123, [0, 2, 3, 4, 5, 7]), (124, [0, 2, 4, 5, 6, 7, 8, 13]), (125, [0, 1, 4, 5, 7, 8, 9, 16]), (126, [0, 1, 2, 6, 11, 32]), (127, [0, 1, 3, 9, 10, 12]), (128, [0, 2]), (129, [0, 1, 2]), (130, [0, 1, 3, 9, 10, 12]), (131, [0, 2, 3, 4, 5, 14, 28]), (132, [0, 1, 3, 9, 10, 12]), (133, [0, 2, 3, 4, 17]), (134, [0, 1, 2]), (135, [0, 1, 4, 5]), (136, [0, 1, 4, 6, 16]), (137, [0, 1, 2]), (138, [0, 1, 2, 3, 4, 5, 6, 7, 8, 49]), (139, [0, 1, 2, 4, 5, 20]), (140, [0, 2]), (141, [0, 2]), (142, [0, 1, 4]), (143, [0, 1, 2]), (144, [0, 1, 2, 4, 5, 6, 8, 9, 10, 11, 18]), (145, [0, 1, 2, 6, 12]), (146, [0, 1, 2, 3, 4]), (147, [0, 1, 2, 4, 5, 6, 8, 9, 10, 11, 18]), (148, [0, 1, 2, 4, 6, 7, 8, 10, 11, 12, 15, 16, 17, 18, 28, 38]), (149, [0, 1, 2, 4, 6, 8, 10, 14, 25, 26, 27, 28, 39, 40, 41, 42]), (150, [0, 1, 2, 3, 5, 8, 10, 12, 13, 14, 23, 24, 25, 26, 43, 44, 45, 46, 56, 78]), (151, [0, 6, 19]), (152, [0, 1, 2, 4, 5, 10, 25, 36]), (153, [0, 2, 3, 4, 5, 6, 7, 8, 9, 10, 14, 21, 31, 33, 41, 52, 57, 70]), (154, [0, 2]), (155, [0, 1, 4]), (156, [0, 2]), (157, [0, 1, 3, 4]), (158, [0, 2, 19]), (159, [0, 2]), (160, [0, 1, 4, 5, 7, 9, 10, 11, 12, 26]), (161, [0, 1, 4]), (162, [0, 1, 4]), (163, [0, 2]), (164, [0, 1, 4, 5, 7, 8, 9, 16]), (167, [0, 2, 3, 4, 5, 12]), (168, [0, 1, 4]), (169, [0, 2, 3, 4, 5, 6, 7, 9, 10, 11, 21, 40, 44, 65]), (170, [0, 1, 2, 3, 8, 9, 24, 28, 53]), (171, [0, 2]), (172, [0, 2, 3, 4, 5, 6, 7, 11, 14, 16, 18, 20]), (173, [0, 1, 2, 4, 5, 32, 48]), (174, [0, 1, 2, 3]), (175, [0, 1, 4, 5, 7, 8, 9, 16]), (176, [0, 1, 2, 3, 4, 5, 6, 7, 25]), (177, [0, 1, 3, 4, 5, 6, 7, 8, 9, 11, 12, 13, 14, 15, 16, 18, 19, 29, 42, 55, 67, 76, 98, 99, 100, 101, 111, 124, 125, 126, 127, 135, 153]), (178, [0, 2]), (180, [0, 1, 7, 21]), (181, [0, 1, 4, 5, 6, 7, 8, 9, 11, 12, 14, 15, 16, 28, 30, 44, 56, 65, 68, 69, 70, 76, 78]), (182, [0, 2, 4, 10]), (183, [0, 2, 3]), (184, [0, 1, 4, 5, 6, 7, 9, 11, 17, 23, 34]), (185, [0, 1, 4]), (186, [0, 2]), (187, [0, 1, 4, 5, 7, 8, 9, 16]), (189, [0, 2, 3, 4, 5, 6, 8, 9, 10, 30, 39, 44, 47, 48, 49, 50, 56, 66]), (190, [0, 1, 2, 3, 4, 10, 11, 12, 19, 26, 34]), (191, [0, 1, 4, 5, 7, 8, 9, 16]), (192, [0, 2, 3, 5]), (193, [0, 2, 3, 4, 5, 6, 7, 8, 10, 13, 16, 31]), (194, [0, 2, 3, 12]), (195, [0, 2, 3, 4, 5, 11]), (196, [0, 2]), (197, [0, 1, 4, 5, 6, 11]), (198, [0, 1, 4]), (199, [0, 2, 3, 10]), (200, [0, 2, 3, 6, 9, 12, 19, 22]), (201, [0, 1, 4, 5, 6]), (202, [0, 2]), (203, [0, 1, 4]), (204, [0, 2, 4]), (205, [0, 2, 3]), (206, [0, 1, 4, 5, 6, 7, 8, 9, 10, 11, 12, 13, 14, 15, 16, 20, 99, 139, 161]), (207, [0, 1, 2, 3, 4, 10, 11, 12, 13, 14, 15, 16, 17, 18, 28, 30, 34, 46, 68, 89, 94]), (208, [0, 1, 4]), (209, [0, 1, 2, 6, 7, 8, 9, 10, 11, 13, 16, 17, 21, 38, 41, 52, 62, 69]), (210, [0, 1, 4]), (211, [0, 1, 4]), (212, [0, 1, 2, 6]), (213, [0, 1, 2, 6]), (214, [0, 1, 2, 6, 7, 8, 9, 18]), (215, [0, 2, 3, 4, 5, 19, 32, 41]), (216, [0, 1, 2]), (217, [0, 1, 3]), (218, [2]), (220, [0, 2, 3, 4, 5, 6, 7, 8, 9, 10, 11, 12, 16, 23, 45, 57, 59, 75, 77, 98]), (221, [0, 1, 4, 7]), (222, [0, 1, 2, 6, 7, 8, 14, 19]), (223, [0, 2]), (224, [0, 2, 4, 8, 14]), (225, [0, 2, 3]), (226, [0, 2]), (227, [0, 2]), (228, [0, 1, 2, 6, 7, 8, 10, 11, 12, 19]), (229, [0, 1, 2, 6, 7, 8, 9, 10, 11, 12, 13, 15, 16, 17, 19, 25, 32, 37, 40, 52, 64, 77, 83, 85, 90, 92, 99, 100, 101, 102, 106, 112, 121, 137, 141, 159, 169]), (230, [0, 2, 3, 6]), (231, [0, 2]), (232, [0, 2]), (233, [0, 1, 4, 5, 11, 25, 50]), (234, [0, 1, 4, 5, 6, 7, 8, 13, 38, 46]), (235, [0, 1, 2, 6, 7, 15]), (236, [0, 2, 4]), (237, [0, 2, 4]), (238, [0, 2]), (239, [0, 2, 3, 4, 5, 18, 46, 54, 83, 87, 89, 91]), (240, [0, 1, 2, 3, 8, 9, 10, 11, 25]), (241, [0, 2]), (242, [0, 2, 3, 4, 5, 6, 16, 30, 48, 59]), (243, [0, 1, 2, 3, 4, 11, 18, 23, 28])] f
def plD : cn := fun t => tab (fun _ _ => none) [(40, kd [.i .i64, .i .i64]), (62, kd [.i .i64, .i .i64, .s]), (110, kd [.i .i64, .b, .i .i64])] t
def sfD (f : FuncId) : Bool := !(Nat.beq f 136)
theorem q12 : Tryz.prog.follows .mixedOrders = true := by kernel_rfl
theorem q87 (f : FuncId) (fn : Func) (h : Tryz.prog.funcs[f]? = some fn) : (fn.name == "runtime.NumGoroutine") = false := by
  have k : Tryz.prog.funcs.toList.all (fun fn => !(fn.name == "runtime.NumGoroutine")) = true := by kernel_rfl
  have := List.all_eq_true.1 k fn (List.mem_of_getElem? (by rw [Array.getElem?_toList]; exact h))
  simpa using this
theorem q16 : j5 Tryz.prog plD := by
  intro t us vs b h
  have key : ∀ t (f : List PV → List PV → Option Bool), f = plD t → ∀ us vs b, f us vs = some b → Tryz.prog.eqGuardType Tryz.prog.depth t = false ∧ ∀ (X Y : List Value) (I : Bool → Nat → Prop) (w : World), dx I w us X → dx I w vs Y → (Op.equal t (.agg X.toArray) (.agg Y.toArray)).run Tryz.prog w = .ok b w := by
    intro t f hf
    subst hf
    refine qc3 (p := fun (t : TypeId) (f : List PV → List PV → Option Bool) => ∀ us vs b, f us vs = some b → Tryz.prog.eqGuardType Tryz.prog.depth t = false ∧ ∀ (X Y : List Value) (I : Bool → Nat → Prop) (w : World), dx I w us X → dx I w vs Y → (Op.equal t (.agg X.toArray) (.agg Y.toArray)).run Tryz.prog w = .ok b w) (fun i us vs b h => by cases h) ?_ t
    simp only [List.forall_mem_cons, List.not_mem_nil, false_imp_iff, implies_true, and_true]
    exact ⟨fun us vs b h => yd (by kernel_rfl) h, fun us vs b h => yd (by kernel_rfl) h, fun us vs b h => yd (by kernel_rfl) h⟩
  exact key t _ rfl us vs b h
theorem qnv : dk Tryz.prog 166 Tryz.f166 := ⟨by kernel_rfl, by kernel_rfl⟩
def qtf : List (qiw Tryz.prog) := [⟨166, fun _ => _, fun _ _ => qqi qnv (by kernel_rfl) (by kernel_rfl) (by kernel_rfl)⟩]
def awC (ext : List (qiw Tryz.prog)) : FuncId → bd := qtt Tryz.prog plD sfD kpD ext 300 60
theorem se (ext : List (qiw Tryz.prog)) (f : FuncId) : ah Tryz.prog f (awC ext f) := qfr q16 q12 q87 60 f
end Go.RX
set_option maxRecDepth 100000
namespace Go.RX
open Go.Proofs
set_option maxHeartbeats 1000000 in
theorem qkz (w : World) (a : Option Addr) (c : Nat) : Calls Tryz.prog 51 #[.slice a 0 c] w fun e w' => (e = .returned (.slice none 0 0) ∧ w' = w) ∨ (e = .returned (.slice (some ⟨w.heap.size, 0, none⟩) 0 0) ∧ w' = w.alloc (.cells #[] 110)) := by
  have t29 : Tryz.prog.underlying 29 = some (.slice 110) := by kernel_rfl
  have q29 : ∀ (w : World) (a : Option Addr) (n c n' c' : Nat), (binOp .eql 29 (.slice a n c) (.slice none n' c')).run Tryz.prog w = .ok (.bool a.isNone) w := fun w a n c n' c' => Lib.run_eql_slice_nil w _ _ a n c n' c' t29
  have u29 : ∀ w, Sem.run Tryz.prog (underlying 29) w = .ok (TypeDesc.slice 110) w := run_underlying t29
  have s110 : du Tryz.prog 110 = some 3 := by kernel_rfl
  cases a with
  | none =>
    go_enter Tryz.func51, Tryz.ntmps51
    go_wp2
    go_ret
    exact .inl ⟨rfl, rfl⟩
  | some x =>
    go_enter Tryz.func51, Tryz.ntmps51
    go_wp2_with (at_builtin; refine Lib.wpList_append_run _ rfl _ _ 29 29 rfl _ _ rfl rfl _ _ (lk t29 s110 (Nat.le_refl 0) _ _ _) ?_)
    go_ret
    exact .inr ⟨rfl, rfl⟩
set_option maxHeartbeats 1000000 in
theorem qk1 (w : World) (a : Option Addr) (c : Nat) : Calls Tryz.prog 52 #[.slice a 0 c] w fun e w' => (e = .returned (.slice none 0 0) ∧ w' = w) ∨ (e = .returned (.slice (some ⟨w.heap.size, 0, none⟩) 0 0) ∧ w' = w.alloc (.cells #[] 3)) := by
  have t27 : Tryz.prog.underlying 27 = some (.slice 3) := by kernel_rfl
  have q27 : ∀ (w : World) (a : Option Addr) (n c n' c' : Nat), (binOp .eql 27 (.slice a n c) (.slice none n' c')).run Tryz.prog w = .ok (.bool a.isNone) w := fun w a n c n' c' => Lib.run_eql_slice_nil w _ _ a n c n' c' t27
  have u27 : ∀ w, Sem.run Tryz.prog (underlying 27) w = .ok (TypeDesc.slice 3) w := run_underlying t27
  have s3 : du Tryz.prog 3 = some 1 := by kernel_rfl
  cases a with
  | none =>
    go_enter Tryz.func52, Tryz.ntmps52
    go_wp2
    go_ret
    exact .inl ⟨rfl, rfl⟩
  | some x =>
    go_enter Tryz.func52, Tryz.ntmps52
    go_wp2_with (at_builtin; refine Lib.wpList_append_run _ rfl _ _ 27 27 rfl _ _ rfl rfl _ _ (lk t27 s3 (Nat.le_refl 0) _ _ _) ?_)
    go_ret
    exact .inr ⟨rfl, rfl⟩
end Go.RX
set_option maxRecDepth 100000
namespace Go.RX
open Go.Proofs
theorem q7t : dk Tryz.prog 51 Tryz.f51 := ⟨by kernel_rfl, by kernel_rfl⟩
noncomputable def qtq : Code := match Tryz.f51.body with | some c => c | none => .skip
theorem jax : Tryz.f51.body = some qtq := by kernel_rfl
theorem qky (m : Bool) (n : Nat) (g : Nat → PV) (hsz : ∀ i, i < n → dn (g i) = 3) (hn : n * 24 ≤ 140737488355328) : fj Tryz.prog 51 [.p (.arr m n g)] [] (.p (.arr true n g)) [] :=
  qar q16 q12 q7t jax (by kernel_rfl) (by kernel_rfl) (e := 110) (fun m k g K => by kernel_rfl) qkz m n g hsz hn
theorem q7u : dk Tryz.prog 52 Tryz.f52 := ⟨by kernel_rfl, by kernel_rfl⟩
noncomputable def qtr : Code := match Tryz.f52.body with | some c => c | none => .skip
theorem jay : Tryz.f52.body = some qtr := by kernel_rfl
theorem qk0 (m : Bool) (n : Nat) (g : Nat → PV) (hsz : ∀ i, i < n → dn (g i) = 1) (hn : n * 8 ≤ 140737488355328) : fj Tryz.prog 52 [.p (.arr m n g)] [] (.p (.arr true n g)) [] :=
  qar q16 q12 q7u jay (by kernel_rfl) (by kernel_rfl) (e := 3) (fun m k g K => by kernel_rfl) qk1 m n g hsz hn
theorem qi6 : ah Tryz.prog 51 (qhg 3 24) := qdm qky
theorem qi7 : ah Tryz.prog 52 (qhg 1 8) := qdm qk0
def qfm : List (qiw Tryz.prog) := ⟨51, fun _ => _, fun _ _ => qi6⟩ :: ⟨52, fun _ => _, fun _ _ => qi7⟩ :: qtf
end Go.RX
namespace Go.RX
def qp8 (sz by_ : Nat) : bd := fun args h K => match args, h with
  | [.p (.arr _ n g)], [] => (∀ i, i < n → dn (g i) = sz) ∧ n * by_ ≤ 140737488355328 ∧ K (.p (.arr true n g)) []
  | _, _ => False
theorem qdn {P : Program} {f : FuncId} {sz by_ : Nat} (h : ∀ (m : Bool) (n : Nat) (g : Nat → PV), (∀ i, i < n → dn (g i) = sz) → n * by_ ≤ 140737488355328 → fj P f [.p (.arr m n g)] [] (.p (.arr true n g)) []) : ah P f (qp8 sz by_) := by
  intro args hp K hk
  unfold qp8 at hk
  split at hk
  · obtain ⟨h1, h2, h3⟩ := hk
    exact ⟨_, _, h3, h _ _ _ h1 h2⟩
  · exact hk.elim
end Go.RX
