/- The law's own body, walked with whole values: what spoil turns, what the calls tell, and the row. No condition. -/
import Derived.Test.YtacceochippkaaaGreatSa
import Derived.Test.YtacceochippkaaaGreatPa
set_option linter.all false
set_option maxRecDepth 100000
namespace Go.SP
open Go.Proofs Go.RX
noncomputable section
theorem u73 : Tryz.prog.underlying 73 = some (.slice 33) := by kernel_rfl
theorem u33 : Tryz.prog.underlying 33 = some (.slice 77) := by kernel_rfl
theorem u78 : Tryz.prog.underlying 78 = some (.slice 30) := by kernel_rfl
theorem u30 : Tryz.prog.underlying 30 = some (.slice 3) := by kernel_rfl
theorem s33 : sizeT Tryz.prog 33 = some 1 := by kernel_rfl
theorem s30 : sizeT Tryz.prog 30 = some 1 := by kernel_rfl
theorem s3 : sizeT Tryz.prog 3 = some 1 := by kernel_rfl
theorem s77 : sizeT Tryz.prog 77 = some 7 := by kernel_rfl
theorem s35 : sizeT Tryz.prog 35 = some 11 := by kernel_rfl
theorem a33 : isAggT Tryz.prog 33 = some false := by kernel_rfl
theorem a30 : isAggT Tryz.prog 30 = some false := by kernel_rfl
theorem a3 : isAggT Tryz.prog 3 = some false := by kernel_rfl
theorem z33 : zeroT Tryz.prog 33 = some (.slice none 0 0) := by kernel_rfl
theorem z30 : zeroT Tryz.prog 30 = some (.slice none 0 0) := by kernel_rfl
theorem f77 : fieldAt Tryz.prog 77 4 = some (6, 1) := by kernel_rfl
theorem f35_1 : fieldAt Tryz.prog 35 1 = some (1, 1) := by kernel_rfl
theorem f35_2 : fieldAt Tryz.prog 35 2 = some (2, 1) := by kernel_rfl
theorem f35_3 : fieldAt Tryz.prog 35 3 = some (3, 1) := by kernel_rfl
theorem f35_4 : fieldAt Tryz.prog 35 4 = some (4, 1) := by kernel_rfl
theorem f35_5 : fieldAt Tryz.prog 35 5 = some (5, 1) := by kernel_rfl
theorem f35_7 : fieldAt Tryz.prog 35 7 = some (7, 1) := by kernel_rfl
theorem f35_9 : fieldAt Tryz.prog 35 9 = some (9, 1) := by kernel_rfl
theorem f35_10 : fieldAt Tryz.prog 35 10 = some (10, 1) := by kernel_rfl
def spent : Array Value := #[.int .i64 (-7), .int .i64 0, .int .i64 0, .int .i64 0, .int .i64 0, .string ⟨#[]⟩, .slice none 0 0]
theorem b77 : Tryz.prog.built 77 [(0, Value.int .i64 (-7))] = some spent := by kernel_rfl
def sub : Code → List Bool → Code
  | c, [] => c
  | .seq x _, false :: p => sub x p
  | .seq _ y, true :: p => sub y p
  | .block _ x, _ :: p => sub x p
  | .loop x, _ :: p => sub x p
  | c, _ => c
noncomputable def code7 : Code := match Tryz.f7.body with | some c => c | none => .skip
def rg0 : Code := sub code7 [false]
def rg1 : Code := sub code7 [true, false]
def rg2 : Code := sub code7 [true, true, false, false]
def rg3 : Code := sub code7 [true, true, false, true, true, true, false, false]
def rg4 : Code := sub code7 [true, true, false, true, true, true, true, true]
def rg5 : Code := sub code7 [true, true, false, true, true, true, true, false, true, false]
def rg6 : Code := sub code7 [true, true, false, true, true, true, true, false, true, true, true, true, false, false]
def rg7 : Code := sub code7 [true, true, false, true, true, true, true, false, true, true, true, true, true, true]
def rg8 : Code := sub code7 [true, true, false, true, true, true, true, false, true, true, true, true, true, false, true, false, false]
def rg9 : Code := sub code7 [true, true, false, true, true, true, true, false, true, true, true, true, true, false, true, false, true, true, true, false, false]
def rg10 : Code := sub code7 [true, true, false, true, true, true, true, false, true, true, true, true, true, false, true, false, true, true, true, true, true]
def rg11 : Code := sub code7 [true, true, false, true, true, true, true, false, true, true, true, true, true, false, true, false, true, true, true, true, false, true]
def rg12 : Code := sub code7 [true, true, false, true, true, true, true, false, true, true, true, true, true, false, true, true]
def rg13 : Code := sub code7 [true, true, true, false]
def rg14 : Code := sub code7 [true, true, true, true, false]
def rg15 : Code := sub code7 [true, true, true, true, true, true, true, false, false]
def rg16 : Code := sub code7 [true, true, true, true, true, true, true, true, true]
def rg17 : Code := sub code7 [true, true, true, true, true, true, true, true, false, true, false]
def rg18 : Code := sub code7 [true, true, true, true, true, true, true, true, false, true, true, true, true, false, false]
def rg19 : Code := sub code7 [true, true, true, true, true, true, true, true, false, true, true, true, true, true, true]
def rg20 : Code := sub code7 [true, true, true, true, true, true, true, true, false, true, true, true, true, true, false, true]
def bk0 : Code := sub code7 [true, true, false, true]
def bk2 : Code := sub code7 [true, true, false, true, true, true, true, false, true, true]
def bk4 : Code := sub code7 [true, true, false, true, true, true, true, false, true, true, true, true, true, false, true, false, true]
def bk6 : Code := sub code7 [true, true, true, true, true]
def bk8 : Code := sub code7 [true, true, true, true, true, true, true, true, false, true, true]
def Keep (x : Nat) (T T' : Tm) : Prop := ∀ t, t < 9 → t ≠ x → T' t = T t
variable {T : Tm} {a : Act} {w : World} {E : Exit → Act → World → Prop}
theorem init2 (hi : Is 94 a T) (hq : ∀ a' T', Is 94 a' T' → Keep 3 T T' → T' 3 = .int .i64 0 → E .normal a' w) : rg2.wp Tryz.prog E a w := by
  refine region_ok (Q := fun T' w' => w' = w ∧ Keep 3 T T' ∧ T' 3 = .int .i64 0) hi ?_ (by rintro a' T' w' h ⟨rfl, h1, h2⟩; exact hq a' T' h h1 h2)
  refine goS_assign (by trivial) (by rfl) ?_
  exact ⟨rfl, by intro t ht hne; simp only [upT]; (repeat (refine (if_neg ?_).trans ?_; (intro h; first | exact hne h.symm | exact absurd ht (by rw [← h]; decide)))); rfl, rfl⟩
theorem init5 (hi : Is 94 a T) (hq : ∀ a' T', Is 94 a' T' → Keep 4 T T' → T' 4 = .int .i64 0 → E .normal a' w) : rg5.wp Tryz.prog E a w := by
  refine region_ok (Q := fun T' w' => w' = w ∧ Keep 4 T T' ∧ T' 4 = .int .i64 0) hi ?_ (by rintro a' T' w' h ⟨rfl, h1, h2⟩; exact hq a' T' h h1 h2)
  refine goS_assign (by trivial) (by rfl) ?_
  exact ⟨rfl, by intro t ht hne; simp only [upT]; (repeat (refine (if_neg ?_).trans ?_; (intro h; first | exact hne h.symm | exact absurd ht (by rw [← h]; decide)))); rfl, rfl⟩
theorem init8 (hi : Is 94 a T) (hq : ∀ a' T', Is 94 a' T' → Keep 5 T T' → T' 5 = .int .i64 0 → E .normal a' w) : rg8.wp Tryz.prog E a w := by
  refine region_ok (Q := fun T' w' => w' = w ∧ Keep 5 T T' ∧ T' 5 = .int .i64 0) hi ?_ (by rintro a' T' w' h ⟨rfl, h1, h2⟩; exact hq a' T' h h1 h2)
  refine goS_assign (by trivial) (by rfl) ?_
  exact ⟨rfl, by intro t ht hne; simp only [upT]; (repeat (refine (if_neg ?_).trans ?_; (intro h; first | exact hne h.symm | exact absurd ht (by rw [← h]; decide)))); rfl, rfl⟩
theorem init14 (hi : Is 94 a T) (hq : ∀ a' T', Is 94 a' T' → Keep 7 T T' → T' 7 = .int .i64 0 → E .normal a' w) : rg14.wp Tryz.prog E a w := by
  refine region_ok (Q := fun T' w' => w' = w ∧ Keep 7 T T' ∧ T' 7 = .int .i64 0) hi ?_ (by rintro a' T' w' h ⟨rfl, h1, h2⟩; exact hq a' T' h h1 h2)
  refine goS_assign (by trivial) (by rfl) ?_
  exact ⟨rfl, by intro t ht hne; simp only [upT]; (repeat (refine (if_neg ?_).trans ?_; (intro h; first | exact hne h.symm | exact absurd ht (by rw [← h]; decide)))); rfl, rfl⟩
theorem init17 (hi : Is 94 a T) (hq : ∀ a' T', Is 94 a' T' → Keep 8 T T' → T' 8 = .int .i64 0 → E .normal a' w) : rg17.wp Tryz.prog E a w := by
  refine region_ok (Q := fun T' w' => w' = w ∧ Keep 8 T T' ∧ T' 8 = .int .i64 0) hi ?_ (by rintro a' T' w' h ⟨rfl, h1, h2⟩; exact hq a' T' h h1 h2)
  refine goS_assign (by trivial) (by rfl) ?_
  exact ⟨rfl, by intro t ht hne; simp only [upT]; (repeat (refine (if_neg ?_).trans ?_; (intro h; first | exact hne h.symm | exact absurd ht (by rw [← h]; decide)))); rfl, rfl⟩
theorem step4 (hi : Is 94 a T) {n : Nat} (hx : T 3 = .int .i64 n) (hn : n < 9223372036854775807) (hq : ∀ a' T', Is 94 a' T' → Keep 3 T T' → T' 3 = .int .i64 (n + 1 : Nat) → E .normal a' w) : rg4.wp Tryz.prog E a w := by
  refine region_ok (Q := fun T' w' => w' = w ∧ Keep 3 T T' ∧ T' 3 = .int .i64 (n + 1 : Nat)) hi ?_ (by rintro a' T' w' h ⟨rfl, h1, h2⟩; exact hq a' T' h h1 h2)
  refine goS_move (by trivial) (by rfl) ?_
  refine goS_add (by rfl) (i := n) (j := 1) (by simp [ev, upT, Act.eval, *]) (by simp [ev, upT, Act.eval, *]) ?_
  refine goS_assign (by trivial) (by rfl) ?_
  refine ⟨rfl, by intro t ht hne; simp only [upT]; (repeat (refine (if_neg ?_).trans ?_; (intro h; first | exact hne h.symm | exact absurd ht (by rw [← h]; decide)))); rfl, ?_⟩
  have : IntKind.i64.wrap ((n : Int) + 1) = ((n + 1 : Nat) : Int) := by have := W_id (n := (n : Int) + 1) (by omega) (by omega); rw [show IntKind.i64.wrap ((n : Int) + 1) = (n : Int) + 1 from this]; omega
  simp [ev, upT, this]
theorem step7 (hi : Is 94 a T) {n : Nat} (hx : T 4 = .int .i64 n) (hn : n < 9223372036854775807) (hq : ∀ a' T', Is 94 a' T' → Keep 4 T T' → T' 4 = .int .i64 (n + 1 : Nat) → E .normal a' w) : rg7.wp Tryz.prog E a w := by
  refine region_ok (Q := fun T' w' => w' = w ∧ Keep 4 T T' ∧ T' 4 = .int .i64 (n + 1 : Nat)) hi ?_ (by rintro a' T' w' h ⟨rfl, h1, h2⟩; exact hq a' T' h h1 h2)
  refine goS_move (by trivial) (by rfl) ?_
  refine goS_add (by rfl) (i := n) (j := 1) (by simp [ev, upT, Act.eval, *]) (by simp [ev, upT, Act.eval, *]) ?_
  refine goS_assign (by trivial) (by rfl) ?_
  refine ⟨rfl, by intro t ht hne; simp only [upT]; (repeat (refine (if_neg ?_).trans ?_; (intro h; first | exact hne h.symm | exact absurd ht (by rw [← h]; decide)))); rfl, ?_⟩
  have : IntKind.i64.wrap ((n : Int) + 1) = ((n + 1 : Nat) : Int) := by have := W_id (n := (n : Int) + 1) (by omega) (by omega); rw [show IntKind.i64.wrap ((n : Int) + 1) = (n : Int) + 1 from this]; omega
  simp [ev, upT, this]
theorem step10 (hi : Is 94 a T) {n : Nat} (hx : T 5 = .int .i64 n) (hn : n < 9223372036854775807) (hq : ∀ a' T', Is 94 a' T' → Keep 5 T T' → T' 5 = .int .i64 (n + 1 : Nat) → E .normal a' w) : rg10.wp Tryz.prog E a w := by
  refine region_ok (Q := fun T' w' => w' = w ∧ Keep 5 T T' ∧ T' 5 = .int .i64 (n + 1 : Nat)) hi ?_ (by rintro a' T' w' h ⟨rfl, h1, h2⟩; exact hq a' T' h h1 h2)
  refine goS_move (by trivial) (by rfl) ?_
  refine goS_add (by rfl) (i := n) (j := 1) (by simp [ev, upT, Act.eval, *]) (by simp [ev, upT, Act.eval, *]) ?_
  refine goS_assign (by trivial) (by rfl) ?_
  refine ⟨rfl, by intro t ht hne; simp only [upT]; (repeat (refine (if_neg ?_).trans ?_; (intro h; first | exact hne h.symm | exact absurd ht (by rw [← h]; decide)))); rfl, ?_⟩
  have : IntKind.i64.wrap ((n : Int) + 1) = ((n + 1 : Nat) : Int) := by have := W_id (n := (n : Int) + 1) (by omega) (by omega); rw [show IntKind.i64.wrap ((n : Int) + 1) = (n : Int) + 1 from this]; omega
  simp [ev, upT, this]
theorem step16 (hi : Is 94 a T) {n : Nat} (hx : T 7 = .int .i64 n) (hn : n < 9223372036854775807) (hq : ∀ a' T', Is 94 a' T' → Keep 7 T T' → T' 7 = .int .i64 (n + 1 : Nat) → E .normal a' w) : rg16.wp Tryz.prog E a w := by
  refine region_ok (Q := fun T' w' => w' = w ∧ Keep 7 T T' ∧ T' 7 = .int .i64 (n + 1 : Nat)) hi ?_ (by rintro a' T' w' h ⟨rfl, h1, h2⟩; exact hq a' T' h h1 h2)
  refine goS_move (by trivial) (by rfl) ?_
  refine goS_add (by rfl) (i := n) (j := 1) (by simp [ev, upT, Act.eval, *]) (by simp [ev, upT, Act.eval, *]) ?_
  refine goS_assign (by trivial) (by rfl) ?_
  refine ⟨rfl, by intro t ht hne; simp only [upT]; (repeat (refine (if_neg ?_).trans ?_; (intro h; first | exact hne h.symm | exact absurd ht (by rw [← h]; decide)))); rfl, ?_⟩
  have : IntKind.i64.wrap ((n : Int) + 1) = ((n + 1 : Nat) : Int) := by have := W_id (n := (n : Int) + 1) (by omega) (by omega); rw [show IntKind.i64.wrap ((n : Int) + 1) = (n : Int) + 1 from this]; omega
  simp [ev, upT, this]
theorem step19 (hi : Is 94 a T) {n : Nat} (hx : T 8 = .int .i64 n) (hn : n < 9223372036854775807) (hq : ∀ a' T', Is 94 a' T' → Keep 8 T T' → T' 8 = .int .i64 (n + 1 : Nat) → E .normal a' w) : rg19.wp Tryz.prog E a w := by
  refine region_ok (Q := fun T' w' => w' = w ∧ Keep 8 T T' ∧ T' 8 = .int .i64 (n + 1 : Nat)) hi ?_ (by rintro a' T' w' h ⟨rfl, h1, h2⟩; exact hq a' T' h h1 h2)
  refine goS_move (by trivial) (by rfl) ?_
  refine goS_add (by rfl) (i := n) (j := 1) (by simp [ev, upT, Act.eval, *]) (by simp [ev, upT, Act.eval, *]) ?_
  refine goS_assign (by trivial) (by rfl) ?_
  refine ⟨rfl, by intro t ht hne; simp only [upT]; (repeat (refine (if_neg ?_).trans ?_; (intro h; first | exact hne h.symm | exact absurd ht (by rw [← h]; decide)))); rfl, ?_⟩
  have : IntKind.i64.wrap ((n : Int) + 1) = ((n + 1 : Nat) : Int) := by have := W_id (n := (n : Int) + 1) (by omega) (by omega); rw [show IntKind.i64.wrap ((n : Int) + 1) = (n : Int) + 1 from this]; omega
  simp [ev, upT, this]
theorem head3 (hi : Is 94 a T) {n bl : Nat} (h2 : T 2 = .slice (some ⟨bl, 0, none⟩) 3 3) (h3 : T 3 = .int .i64 n)
    (hq : ∀ a' T', Is 94 a' T' → Keep 9 T T' → T' 19 = .bool (decide (n < 3)) → E .normal a' w) : rg3.wp Tryz.prog E a w := by
  refine region_ok (Q := fun T' w' => w' = w ∧ Keep 9 T T' ∧ T' 19 = .bool (decide (n < 3))) hi ?_ (by rintro a' T' w' h ⟨rfl, h1, h4⟩; exact hq a' T' h h1 h4)
  refine goS_move (by trivial) (by rfl) ?_
  refine goS_move (by trivial) (by rfl) ?_
  refine goS_len (by rfl) u73 (b := some ⟨bl, 0, none⟩) (n := 3) (c := 3) (by simp [ev, upT, Act.eval, *]) ?_
  refine goS_lss (by rfl) (i := n) (j := 3) (by simp [ev, upT, Act.eval, *]) (by simp [ev, upT, Act.eval, *]) ?_
  refine ⟨rfl, by intro t ht hne; simp only [upT]; (repeat (refine (if_neg ?_).trans ?_; (intro h; first | exact hne h.symm | exact absurd ht (by rw [← h]; decide)))); rfl, ?_⟩
  simp [upT]
  omega
theorem head15 (hi : Is 94 a T) {n bl : Nat} (h2 : T 6 = .slice (some ⟨bl, 0, none⟩) 5 5) (h3 : T 7 = .int .i64 n)
    (hq : ∀ a' T', Is 94 a' T' → Keep 9 T T' → T' 76 = .bool (decide (n < 5)) → E .normal a' w) : rg15.wp Tryz.prog E a w := by
  refine region_ok (Q := fun T' w' => w' = w ∧ Keep 9 T T' ∧ T' 76 = .bool (decide (n < 5))) hi ?_ (by rintro a' T' w' h ⟨rfl, h1, h4⟩; exact hq a' T' h h1 h4)
  refine goS_move (by trivial) (by rfl) ?_
  refine goS_move (by trivial) (by rfl) ?_
  refine goS_len (by rfl) u78 (b := some ⟨bl, 0, none⟩) (n := 5) (c := 5) (by simp [ev, upT, Act.eval, *]) ?_
  refine goS_lss (by rfl) (i := n) (j := 5) (by simp [ev, upT, Act.eval, *]) (by simp [ev, upT, Act.eval, *]) ?_
  refine ⟨rfl, by intro t ht hne; simp only [upT]; (repeat (refine (if_neg ?_).trans ?_; (intro h; first | exact hne h.symm | exact absurd ht (by rw [← h]; decide)))); rfl, ?_⟩
  simp [upT]
  omega
theorem head6 (hi : Is 94 a T) {n bl i : Nat} (h2 : T 2 = .slice (some ⟨bl, 0, none⟩) 3 3) (h3 : T 3 = .int .i64 i) (h4 : T 4 = .int .i64 n) (hil : i < 3) {ad : Option Addr} {len cap : Nat}
    (hc : w.cell? ⟨bl, i, none⟩ = some (.slice ad len cap))
    (hq : ∀ a' T', Is 94 a' T' → Keep 9 T T' → T' 28 = .bool (decide (n < len)) → E .normal a' w) : rg6.wp Tryz.prog E a w := by
  refine region_ok (Q := fun T' w' => w' = w ∧ Keep 9 T T' ∧ T' 28 = .bool (decide (n < len))) hi ?_ (by rintro a' T' w' h ⟨rfl, h1, h4⟩; exact hq a' T' h h1 h4)
  refine goS_move (by trivial) (by rfl) ?_
  refine goS_move (by trivial) (by rfl) ?_
  refine goS_move (by trivial) (by rfl) ?_
  refine goS_indexAddr (by rfl) u73 s33 (b := bl) (o := 0) (len := 3) (cap := 3) (k := .i64) (i := i) (by simp [ev, upT, Act.eval, *]) (by simp [ev, upT, Act.eval, *]) hil ?_
  refine goS_load1 (by trivial) (by rfl) a33 s33 (b := bl) (o := 0 + i * 1) (by simp [ev, upT, Act.eval, *]) (v := .slice ad len cap) (by simpa using hc) ?_
  refine goS_len (by rfl) u33 (b := ad) (n := len) (c := cap) (by simp [ev, upT, Act.eval, *]) ?_
  refine goS_lss (by rfl) (i := n) (j := len) (by simp [ev, upT, Act.eval, *]) (by simp [ev, upT, Act.eval, *]) ?_
  refine ⟨rfl, by intro t ht hne; simp only [upT]; (repeat (refine (if_neg ?_).trans ?_; (intro h; first | exact hne h.symm | exact absurd ht (by rw [← h]; decide)))); rfl, ?_⟩
  simp [upT]
theorem head18 (hi : Is 94 a T) {n bl i : Nat} (h2 : T 6 = .slice (some ⟨bl, 0, none⟩) 5 5) (h3 : T 7 = .int .i64 i) (h4 : T 8 = .int .i64 n) (hil : i < 5) {ad : Option Addr} {len cap : Nat}
    (hc : w.cell? ⟨bl, i, none⟩ = some (.slice ad len cap))
    (hq : ∀ a' T', Is 94 a' T' → Keep 9 T T' → T' 85 = .bool (decide (n < len)) → E .normal a' w) : rg18.wp Tryz.prog E a w := by
  refine region_ok (Q := fun T' w' => w' = w ∧ Keep 9 T T' ∧ T' 85 = .bool (decide (n < len))) hi ?_ (by rintro a' T' w' h ⟨rfl, h1, h4⟩; exact hq a' T' h h1 h4)
  refine goS_move (by trivial) (by rfl) ?_
  refine goS_move (by trivial) (by rfl) ?_
  refine goS_move (by trivial) (by rfl) ?_
  refine goS_indexAddr (by rfl) u78 s30 (b := bl) (o := 0) (len := 5) (cap := 5) (k := .i64) (i := i) (by simp [ev, upT, Act.eval, *]) (by simp [ev, upT, Act.eval, *]) hil ?_
  refine goS_load1 (by trivial) (by rfl) a30 s30 (b := bl) (o := 0 + i * 1) (by simp [ev, upT, Act.eval, *]) (v := .slice ad len cap) (by simpa using hc) ?_
  refine goS_len (by rfl) u30 (b := ad) (n := len) (c := cap) (by simp [ev, upT, Act.eval, *]) ?_
  refine goS_lss (by rfl) (i := n) (j := len) (by simp [ev, upT, Act.eval, *]) (by simp [ev, upT, Act.eval, *]) ?_
  refine ⟨rfl, by intro t ht hne; simp only [upT]; (repeat (refine (if_neg ?_).trans ?_; (intro h; first | exact hne h.symm | exact absurd ht (by rw [← h]; decide)))); rfl, ?_⟩
  simp [upT]
theorem head9 (hi : Is 94 a T) {n bl i k : Nat} (h2 : T 2 = .slice (some ⟨bl, 0, none⟩) 3 3) (h3 : T 3 = .int .i64 i) (h4 : T 4 = .int .i64 k) (h5 : T 5 = .int .i64 n) (hil : i < 3) {b off len cap : Nat}
    (hc : w.cell? ⟨bl, i, none⟩ = some (.slice (some ⟨b, off, none⟩) len cap)) (hk : k < len) {ad : Option Addr} {len2 cap2 : Nat} (hc2 : w.cell? ⟨b, off + k * 7 + 6, none⟩ = some (.slice ad len2 cap2))
    (hq : ∀ a' T', Is 94 a' T' → Keep 9 T T' → T' 41 = .bool (decide (n < len2)) → E .normal a' w) : rg9.wp Tryz.prog E a w := by
  refine region_ok (Q := fun T' w' => w' = w ∧ Keep 9 T T' ∧ T' 41 = .bool (decide (n < len2))) hi ?_ (by rintro a' T' w' h ⟨rfl, h1, h4⟩; exact hq a' T' h h1 h4)
  refine goS_move (by trivial) (by rfl) ?_
  refine goS_move (by trivial) (by rfl) ?_
  refine goS_move (by trivial) (by rfl) ?_
  refine goS_indexAddr (by rfl) u73 s33 (b := bl) (o := 0) (len := 3) (cap := 3) (k := .i64) (i := i) (by simp [ev, upT, Act.eval, *]) (by simp [ev, upT, Act.eval, *]) hil ?_
  refine goS_load1 (by trivial) (by rfl) a33 s33 (b := bl) (o := 0 + i * 1) (by simp [ev, upT, Act.eval, *]) (v := .slice (some ⟨b, off, none⟩) len cap) (by simpa using hc) ?_
  refine goS_move (by trivial) (by rfl) ?_
  refine goS_indexAddr (by rfl) u33 s77 (b := b) (o := off) (len := len) (cap := cap) (k := .i64) (i := k) (by simp [ev, upT, Act.eval, *]) (by simp [ev, upT, Act.eval, *]) hk ?_
  refine goS_fieldAddr (by rfl) f77 (by decide) (b := b) (o := off + k * 7) (by simp [ev, upT, Act.eval, *]) ?_
  refine goS_load1 (by trivial) (by rfl) a33 s33 (b := b) (o := off + k * 7 + 6) (by simp [ev, upT, Act.eval, *]) (v := .slice ad len2 cap2) hc2 ?_
  refine goS_len (by rfl) u33 (b := ad) (n := len2) (c := cap2) (by simp [ev, upT, Act.eval, *]) ?_
  refine goS_lss (by rfl) (i := n) (j := len2) (by simp [ev, upT, Act.eval, *]) (by simp [ev, upT, Act.eval, *]) ?_
  refine ⟨rfl, by intro t ht hne; simp only [upT]; (repeat (refine (if_neg ?_).trans ?_; (intro h; first | exact hne h.symm | exact absurd ht (by rw [← h]; decide)))); rfl, ?_⟩
  simp [upT]
theorem body11 (hi : Is 94 a T) {n bl i k : Nat} (h2 : T 2 = .slice (some ⟨bl, 0, none⟩) 3 3) (h3 : T 3 = .int .i64 i) (h4 : T 4 = .int .i64 k) (h5 : T 5 = .int .i64 n) (hil : i < 3) {b off len cap : Nat}
    (hc : w.cell? ⟨bl, i, none⟩ = some (.slice (some ⟨b, off, none⟩) len cap)) (hk : k < len) {b2 off2 len2 cap2 : Nat} (hc2 : w.cell? ⟨b, off + k * 7 + 6, none⟩ = some (.slice (some ⟨b2, off2, none⟩) len2 cap2)) (hn : n < len2)
    {C : Array Value} {e : TypeId} (hb : w.heap[b2]? = some (.cells C e (0, 0))) (hl : off2 + n * 7 + 7 ≤ C.size)
    (hq : ∀ a' T', Is 94 a' T' → Keep 9 T T' → E .normal a' (w.setRow b2 (C.toList.take (off2 + n * 7) ++ spent.toList ++ C.toList.drop (off2 + n * 7 + 7)).toArray)) : rg11.wp Tryz.prog E a w := by
  refine region_ok (Q := fun T' w' => w' = w.setRow b2 (C.toList.take (off2 + n * 7) ++ spent.toList ++ C.toList.drop (off2 + n * 7 + 7)).toArray ∧ Keep 9 T T') hi ?_ (by rintro a' T' w' h ⟨rfl, h1⟩; exact hq a' T' h h1)
  refine goS_move (by trivial) (by rfl) ?_
  refine goS_move (by trivial) (by rfl) ?_
  refine goS_indexAddr (by rfl) u73 s33 (b := bl) (o := 0) (len := 3) (cap := 3) (k := .i64) (i := i) (by simp [ev, upT, Act.eval, *]) (by simp [ev, upT, Act.eval, *]) hil ?_
  refine goS_load1 (by trivial) (by rfl) a33 s33 (b := bl) (o := 0 + i * 1) (by simp [ev, upT, Act.eval, *]) (v := .slice (some ⟨b, off, none⟩) len cap) (by simpa using hc) ?_
  refine goS_move (by trivial) (by rfl) ?_
  refine goS_indexAddr (by rfl) u33 s77 (b := b) (o := off) (len := len) (cap := cap) (k := .i64) (i := k) (by simp [ev, upT, Act.eval, *]) (by simp [ev, upT, Act.eval, *]) hk ?_
  refine goS_fieldAddr (by rfl) f77 (by decide) (b := b) (o := off + k * 7) (by simp [ev, upT, Act.eval, *]) ?_
  refine goS_load1 (by trivial) (by rfl) a33 s33 (b := b) (o := off + k * 7 + 6) (by simp [ev, upT, Act.eval, *]) (v := .slice (some ⟨b2, off2, none⟩) len2 cap2) hc2 ?_
  refine goS_move (by trivial) (by rfl) ?_
  refine goS_build (by rfl) (C := spent) (by simp [ev, Act.eval]; exact b77) ?_
  refine goS_indexAddr (by rfl) u33 s77 (b := b2) (o := off2) (len := len2) (cap := cap2) (k := .i64) (i := n) (by simp [ev, upT, Act.eval, *]) (by simp [ev, upT, Act.eval, *]) hn ?_
  refine goS_store s77 (b := b2) (off := off2 + n * 7) (C := C) (e := e) (v := .agg spent) (by simp [ev, upT, Act.eval, *]) (by simp [ev, upT, Act.eval, *]) rfl (by decide) hb hl ?_
  exact ⟨rfl, by intro t ht hne; simp only [upT]; (repeat (refine (if_neg ?_).trans ?_; (intro h; first | exact hne h.symm | exact absurd ht (by rw [← h]; decide)))); rfl⟩
theorem body12 (hi : Is 94 a T) {bl i k : Nat} (h2 : T 2 = .slice (some ⟨bl, 0, none⟩) 3 3) (h3 : T 3 = .int .i64 i) (h4 : T 4 = .int .i64 k) (hil : i < 3) {b off len cap : Nat}
    (hc : w.cell? ⟨bl, i, none⟩ = some (.slice (some ⟨b, off, none⟩) len cap)) (hk : k < len)
    {C : Array Value} {e : TypeId} (hb : w.heap[b]? = some (.cells C e (0, 0))) (hl : off + k * 7 + 7 ≤ C.size)
    (hq : ∀ a' T', Is 94 a' T' → Keep 9 T T' → E .normal a' (w.setRow b (C.toList.take (off + k * 7) ++ spent.toList ++ C.toList.drop (off + k * 7 + 7)).toArray)) : rg12.wp Tryz.prog E a w := by
  refine region_ok (Q := fun T' w' => w' = w.setRow b (C.toList.take (off + k * 7) ++ spent.toList ++ C.toList.drop (off + k * 7 + 7)).toArray ∧ Keep 9 T T') hi ?_ (by rintro a' T' w' h ⟨rfl, h1⟩; exact hq a' T' h h1)
  refine goS_move (by trivial) (by rfl) ?_
  refine goS_move (by trivial) (by rfl) ?_
  refine goS_indexAddr (by rfl) u73 s33 (b := bl) (o := 0) (len := 3) (cap := 3) (k := .i64) (i := i) (by simp [ev, upT, Act.eval, *]) (by simp [ev, upT, Act.eval, *]) hil ?_
  refine goS_load1 (by trivial) (by rfl) a33 s33 (b := bl) (o := 0 + i * 1) (by simp [ev, upT, Act.eval, *]) (v := .slice (some ⟨b, off, none⟩) len cap) (by simpa using hc) ?_
  refine goS_move (by trivial) (by rfl) ?_
  refine goS_build (by rfl) (C := spent) (by simp [ev, Act.eval]; exact b77) ?_
  refine goS_indexAddr (by rfl) u33 s77 (b := b) (o := off) (len := len) (cap := cap) (k := .i64) (i := k) (by simp [ev, upT, Act.eval, *]) (by simp [ev, upT, Act.eval, *]) hk ?_
  refine goS_store s77 (b := b) (off := off + k * 7) (C := C) (e := e) (v := .agg spent) (by simp [ev, upT, Act.eval, *]) (by simp [ev, upT, Act.eval, *]) rfl (by decide) hb hl ?_
  exact ⟨rfl, by intro t ht hne; simp only [upT]; (repeat (refine (if_neg ?_).trans ?_; (intro h; first | exact hne h.symm | exact absurd ht (by rw [← h]; decide)))); rfl⟩
theorem body20 (hi : Is 94 a T) {bl i k : Nat} (h2 : T 6 = .slice (some ⟨bl, 0, none⟩) 5 5) (h3 : T 7 = .int .i64 i) (h4 : T 8 = .int .i64 k) (hil : i < 5) {b off len cap : Nat}
    (hc : w.cell? ⟨bl, i, none⟩ = some (.slice (some ⟨b, off, none⟩) len cap)) (hk : k < len)
    {C : Array Value} {e : TypeId} (hb : w.heap[b]? = some (.cells C e (0, 0))) (hl : off + k * 1 + 1 ≤ C.size)
    (hq : ∀ a' T', Is 94 a' T' → Keep 9 T T' → E .normal a' (w.setRow b (C.toList.take (off + k * 1) ++ [Value.int .i64 (-7)] ++ C.toList.drop (off + k * 1 + 1)).toArray)) : rg20.wp Tryz.prog E a w := by
  refine region_ok (Q := fun T' w' => w' = w.setRow b (C.toList.take (off + k * 1) ++ [Value.int .i64 (-7)] ++ C.toList.drop (off + k * 1 + 1)).toArray ∧ Keep 9 T T') hi ?_ (by rintro a' T' w' h ⟨rfl, h1⟩; exact hq a' T' h h1)
  refine goS_move (by trivial) (by rfl) ?_
  refine goS_move (by trivial) (by rfl) ?_
  refine goS_indexAddr (by rfl) u78 s30 (b := bl) (o := 0) (len := 5) (cap := 5) (k := .i64) (i := i) (by simp [ev, upT, Act.eval, *]) (by simp [ev, upT, Act.eval, *]) hil ?_
  refine goS_load1 (by trivial) (by rfl) a30 s30 (b := bl) (o := 0 + i * 1) (by simp [ev, upT, Act.eval, *]) (v := .slice (some ⟨b, off, none⟩) len cap) (by simpa using hc) ?_
  refine goS_move (by trivial) (by rfl) ?_
  refine goS_indexAddr (by rfl) u30 s3 (b := b) (o := off) (len := len) (cap := cap) (k := .i64) (i := k) (by simp [ev, upT, Act.eval, *]) (by simp [ev, upT, Act.eval, *]) hk ?_
  refine goS_store s3 (b := b) (off := off + k * 1) (C := C) (e := e) (v := .int .i64 (-7)) (by simp [ev, upT, Act.eval, *]) (by simp [ev, upT, Act.eval, *]) rfl (by decide) hb hl ?_
  exact ⟨rfl, by intro t ht hne; simp only [upT]; (repeat (refine (if_neg ?_).trans ?_; (intro h; first | exact hne h.symm | exact absurd ht (by rw [← h]; decide)))); rfl⟩
theorem box0 (hi : Is 94 a T) (hq : ∀ a' T', Is 94 a' T' → T' 1 = .pointer (some ⟨w.heap.size, 0, none⟩) → E .normal a' (w.alloc (.cells (T 0).cells 35))) : rg0.wp Tryz.prog E a w := by
  refine region_ok (Q := fun T' w' => w' = w.alloc (.cells (T 0).cells 35) ∧ T' 1 = .pointer (some ⟨w.heap.size, 0, none⟩)) hi ?_ (by rintro a' T' w' h ⟨rfl, h1⟩; exact hq a' T' h h1)
  refine goS_box (by rfl) (v := T 0) (by simp [ev, upT, Act.eval, *]) ?_
  exact ⟨rfl, rfl⟩
theorem lists1 (hi : Is 94 a T) {bt : Nat} (h1 : T 1 = .pointer (some ⟨bt, 0, none⟩)) {x y z : Value} (hx : w.cell? ⟨bt, 2, none⟩ = some x) (hy : w.cell? ⟨bt, 3, none⟩ = some y) (hz : w.cell? ⟨bt, 4, none⟩ = some z)
    (hx1 : x.cells = #[x]) (hy1 : y.cells = #[y]) (hz1 : z.cells = #[z])
    (hq : ∀ a' T', Is 94 a' T' → T' 1 = T 1 → T' 2 = .slice (some ⟨w.heap.size, 0, none⟩) 3 3 → E .normal a' (w.alloc (.cells #[x, y, z] 33))) : rg1.wp Tryz.prog E a w := by
  refine region_ok (Q := fun T' w' => w' = w.alloc (.cells #[x, y, z] 33) ∧ T' 1 = T 1 ∧ T' 2 = .slice (some ⟨w.heap.size, 0, none⟩) 3 3) hi ?_ (by rintro a' T' w' h ⟨rfl, h1, h2⟩; exact hq a' T' h h1 h2)
  refine goS_fieldAddr (by rfl) f35_2 (by decide) (b := bt) (o := 0) (by simp [ev, upT, Act.eval, *]) ?_
  refine goS_load1 (by trivial) (by rfl) a33 s33 (b := bt) (o := 0 + 2) (by simp [ev, upT, Act.eval, *]) (v := x) hx ?_
  refine goS_fieldAddr (by rfl) f35_3 (by decide) (b := bt) (o := 0) (by simp [ev, upT, Act.eval, *]) ?_
  refine goS_load1 (by trivial) (by rfl) a33 s33 (b := bt) (o := 0 + 3) (by simp [ev, upT, Act.eval, *]) (v := y) hy ?_
  refine goS_fieldAddr (by rfl) f35_4 (by decide) (b := bt) (o := 0) (by simp [ev, upT, Act.eval, *]) ?_
  refine goS_load1 (by trivial) (by rfl) a33 s33 (b := bt) (o := 0 + 4) (by simp [ev, upT, Act.eval, *]) (v := z) hz ?_
  refine goS_buildSlice (by rfl) u73 s33 z33 (by decide) (by decide) (C' := #[x, y, z]) ?_ ?_
  · have hr : Array.range 3 = #[0, 1, 2] := by decide
    simp [ev, upT, Instr.fill, hx1, hy1, hz1, hr]
  refine goS_assign (by trivial) (by rfl) ?_
  exact ⟨rfl, rfl, rfl⟩
theorem lists13 (hi : Is 94 a T) {bt : Nat} (h1 : T 1 = .pointer (some ⟨bt, 0, none⟩)) {x1 x2 x3 x4 x5 : Value} (y1 : w.cell? ⟨bt, 1, none⟩ = some x1) (y2 : w.cell? ⟨bt, 5, none⟩ = some x2) (y3 : w.cell? ⟨bt, 7, none⟩ = some x3) (y4 : w.cell? ⟨bt, 9, none⟩ = some x4) (y5 : w.cell? ⟨bt, 10, none⟩ = some x5)
    (z1 : x1.cells = #[x1]) (z2 : x2.cells = #[x2]) (z3 : x3.cells = #[x3]) (z4 : x4.cells = #[x4]) (z5 : x5.cells = #[x5])
    (hq : ∀ a' T', Is 94 a' T' → T' 6 = .slice (some ⟨w.heap.size, 0, none⟩) 5 5 → E .normal a' (w.alloc (.cells #[x1, x2, x3, x4, x5] 30))) : rg13.wp Tryz.prog E a w := by
  refine region_ok (Q := fun T' w' => w' = w.alloc (.cells #[x1, x2, x3, x4, x5] 30) ∧ T' 6 = .slice (some ⟨w.heap.size, 0, none⟩) 5 5) hi ?_ (by rintro a' T' w' h ⟨rfl, h2⟩; exact hq a' T' h h2)
  refine goS_fieldAddr (by rfl) f35_1 (by decide) (b := bt) (o := 0) (by simp [ev, upT, Act.eval, *]) ?_
  refine goS_load1 (by trivial) (by rfl) a30 s30 (b := bt) (o := 0 + 1) (by simp [ev, upT, Act.eval, *]) (v := x1) y1 ?_
  refine goS_fieldAddr (by rfl) f35_5 (by decide) (b := bt) (o := 0) (by simp [ev, upT, Act.eval, *]) ?_
  refine goS_load1 (by trivial) (by rfl) a30 s30 (b := bt) (o := 0 + 5) (by simp [ev, upT, Act.eval, *]) (v := x2) y2 ?_
  refine goS_fieldAddr (by rfl) f35_7 (by decide) (b := bt) (o := 0) (by simp [ev, upT, Act.eval, *]) ?_
  refine goS_load1 (by trivial) (by rfl) a30 s30 (b := bt) (o := 0 + 7) (by simp [ev, upT, Act.eval, *]) (v := x3) y3 ?_
  refine goS_fieldAddr (by rfl) f35_9 (by decide) (b := bt) (o := 0) (by simp [ev, upT, Act.eval, *]) ?_
  refine goS_load1 (by trivial) (by rfl) a30 s30 (b := bt) (o := 0 + 9) (by simp [ev, upT, Act.eval, *]) (v := x4) y4 ?_
  refine goS_fieldAddr (by rfl) f35_10 (by decide) (b := bt) (o := 0) (by simp [ev, upT, Act.eval, *]) ?_
  refine goS_load1 (by trivial) (by rfl) a30 s30 (b := bt) (o := 0 + 10) (by simp [ev, upT, Act.eval, *]) (v := x5) y5 ?_
  refine goS_buildSlice (by rfl) u78 s30 z30 (by decide) (by decide) (C' := #[x1, x2, x3, x4, x5]) ?_ ?_
  · have hr : Array.range 5 = #[0, 1, 2, 3, 4] := by decide
    simp [ev, upT, Instr.fill, z1, z2, z3, z4, z5, hr]
  refine goS_assign (by trivial) (by rfl) ?_
  exact ⟨rfl, rfl⟩
end
end Go.SP
set_option maxRecDepth 100000
namespace Go.SP
open Go.Proofs Go.RX
noncomputable section
theorem cell_at {w : World} {b : Nat} {C : Array Value} {e : TypeId} (h : w.heap[b]? = some (.cells C e (0, 0))) (i : Nat) : w.cell? ⟨b, i, none⟩ = C[i]? := by
  simp [World.cell?, h]
theorem Same.trans {D : Nat → Prop} {a b c : World} (h : Same D a b) (k : Same D b c) : Same D a c := fun n C e hd hn => by
  obtain ⟨C1, h1, h2⟩ := h n C e hd hn
  obtain ⟨C2, h3, h4⟩ := k n C1 e hd h1
  exact ⟨C2, h3, h4.trans h2⟩
theorem Same.refl (D : Nat → Prop) (w : World) : Same D w w := fun n C e _ h => ⟨C, h, rfl⟩
structure G (D : Nat → Prop) (w0 : World) (bl : Nat) (e : TypeId) (vs : List Value) (w : World) : Prop where
  sc : Sc D w0 w
  same : Same D w0 w
  row : w.heap[bl]? = some (.cells vs.toArray e (0, 0))
  nd : ¬ D bl
  top : ∀ v ∈ vs, TopOK D w v
theorem splice_size {C : Array Value} {q : Nat} {z : List Value} (h : q + z.length ≤ C.size) : (C.toList.take q ++ z ++ C.toList.drop (q + z.length)).toArray.size = C.size := by
  simp only [List.size_toArray, List.length_append, List.length_take, List.length_drop, Array.length_toList]
  omega
theorem G.store {D : Nat → Prop} {w0 : World} {bl : Nat} {e : TypeId} {vs : List Value} {w : World} (g : G D w0 bl e vs w) {b : Nat} {C : Array Value} {e' : TypeId} (hd : D b) (hb : w.heap[b]? = some (.cells C e' (0, 0))) {q : Nat} (hq : 7 ∣ q) (hl : q + 7 ≤ C.size) :
    G D w0 bl e vs (w.setRow b (C.toList.take q ++ spent.toList ++ C.toList.drop (q + 7)).toArray) :=
  ⟨g.sc.trans (Sc.row w hd _), g.same.trans (Same.row hb (splice_size (z := spent.toList) hl)), by rw [setRow_other w b bl _ (fun h => g.nd (h ▸ hd))]; exact g.row, g.nd, fun v hv => (g.top v hv).row hb hq rfl rfl hl⟩
section
variable {D : Nat → Prop} {w0 : World} {bl : Nat} {e : TypeId} {vs : List Value} {pt : Value} {lr : Value}
def I1 (D : Nat → Prop) (w0 : World) (bl : Nat) (e : TypeId) (vs : List Value) (pt : Value) (n : Nat) (a : Act) (w : World) : Prop :=
  ∃ T, Is 94 a T ∧ T 1 = pt ∧ T 2 = .slice (some ⟨bl, 0, none⟩) 3 3 ∧ T 3 = .int .i64 n ∧ G D w0 bl e vs w
def I2 (D : Nat → Prop) (w0 : World) (bl : Nat) (e : TypeId) (vs : List Value) (pt : Value) (i n : Nat) (a : Act) (w : World) : Prop :=
  ∃ T, Is 94 a T ∧ T 1 = pt ∧ T 2 = .slice (some ⟨bl, 0, none⟩) 3 3 ∧ T 3 = .int .i64 i ∧ T 4 = .int .i64 n ∧ G D w0 bl e vs w
def I3 (D : Nat → Prop) (w0 : World) (bl : Nat) (e : TypeId) (vs : List Value) (pt : Value) (i k n : Nat) (a : Act) (w : World) : Prop :=
  ∃ T, Is 94 a T ∧ T 1 = pt ∧ T 2 = .slice (some ⟨bl, 0, none⟩) 3 3 ∧ T 3 = .int .i64 i ∧ T 4 = .int .i64 k ∧ T 5 = .int .i64 n ∧ G D w0 bl e vs w
def J3 (D : Nat → Prop) (w0 : World) (bl : Nat) (e : TypeId) (vs : List Value) (pt : Value) (i k : Nat) (b off len cap : Nat) (n : Nat) (a : Act) (w : World) : Prop :=
  I3 D w0 bl e vs pt i k n a w ∧ ∃ b2 off2 len2 cap2 C e', w.cell? ⟨b, off + k * 7 + 6, none⟩ = some (.slice (some ⟨b2, off2, none⟩) len2 cap2) ∧ n < len2 ∧ len2 ≤ maxLen ∧ D b2 ∧ 7 ∣ off2 ∧ w.heap[b2]? = some (.cells C e' (0, 0)) ∧ off2 + len2 * 7 ≤ C.size
theorem maxLen_eq : maxLen = 9223372036854775807 := by decide
theorem row_cell {w : World} (g : G D w0 bl e vs w) {i : Nat} {v : Value} (h : vs[i]? = some v) : w.cell? ⟨bl, i, none⟩ = some v := by
  rw [cell_at g.row]
  simpa using h
theorem kids_ok {i k : Nat} (hi3 : i < 3) {b off len cap : Nat} (hv : vs[i]? = some (.slice (some ⟨b, off, none⟩) len cap)) (hk : k < len) {a : Act} {w : World} (h0 : I3 D w0 bl e vs pt i k 0 a w) :
    bk4.wp Tryz.prog (fun ex a' w' => ex = .normal ∧ I2 D w0 bl e vs pt i k a' w') a w := by
  refine for_ok (I3 D w0 bl e vs pt i k) (J3 D w0 bl e vs pt i k b off len cap) maxLen ?_ ?_ h0
  · rintro n a w ⟨T, hT, h1, h2, h3, h4, h5, g⟩
    obtain ⟨ad, n', c', e1, e2, e3⟩ := g.top _ (List.mem_of_getElem? hv)
    injection e1 with e1 e4 e5
    subst e1 e4 e5
    obtain ⟨b', off', C, e', e6, hD, hal, hb, hsz, hel⟩ := e3 (by omega)
    injection e6 with e6
    injection e6 with e6 e7
    subst e6 e7
    obtain ⟨u, hu, a2, n2, c2, rfl, hm, hs⟩ := hel k hk
    have hc2 : w.cell? ⟨b, off + k * 7 + 6, none⟩ = some (.slice a2 n2 c2) := by rw [cell_at hb]; exact hu
    refine head9 hT h2 h3 h4 h5 hi3 (row_cell g hv) hk hc2 fun a' T' hT' hkp hc => ⟨rfl, ?_⟩
    have hi' : I3 D w0 bl e vs pt i k n a' w := ⟨T', hT', (hkp 1 (by decide) (by decide)).trans h1, (hkp 2 (by decide) (by decide)).trans h2, (hkp 3 (by decide) (by decide)).trans h3, (hkp 4 (by decide) (by decide)).trans h4, (hkp 5 (by decide) (by decide)).trans h5, g⟩
    have hev : a'.eval (.tmp 41) = .bool (decide (n < n2)) := by rw [hT'.ev]; exact hc
    by_cases hn : n < n2
    · left
      obtain ⟨b2, off2, C2, e2', rfl, hD2, hal2, hb2, hsz2⟩ := hs (by omega)
      exact ⟨by rw [hev]; simp [hn], by omega, hi', b2, off2, n2, c2, C2, e2', hc2, hn, hm, hD2, hal2, hb2, hsz2⟩
    · right
      refine ⟨by rw [hev]; simp [hn], rfl, ?_⟩
      obtain ⟨T2, q1, q2, q3, q4, q5, q6, q7⟩ := hi'
      exact ⟨T2, q1, q2, q3, q4, q5, q7⟩
  · rintro n a w ⟨⟨T, hT, h1, h2, h3, h4, h5, g⟩, b2, off2, len2, cap2, C, e', hc2, hn, hm, hD2, hal2, hb2, hsz2⟩
    refine wp_seq (wp_block ?_)
    have hl : off2 + n * 7 + 7 ≤ C.size := by
      have := Nat.mul_le_mul_right 7 (Nat.succ_le_of_lt hn)
      rw [Nat.succ_mul] at this
      omega
    refine body11 hT h2 h3 h4 h5 hi3 (row_cell g hv) hk hc2 hn hb2 hl fun a' T' hT' hkp => ?_
    refine step10 hT' (n := n) ((hkp 5 (by decide) (by decide)).trans h5) (by rw [maxLen_eq] at hm; omega) fun a'' T'' hT'' hkp2 h5' => ⟨rfl, T'', hT'', ?_, ?_, ?_, ?_, h5', ?_⟩
    · exact (hkp2 1 (by decide) (by decide)).trans ((hkp 1 (by decide) (by decide)).trans h1)
    · exact (hkp2 2 (by decide) (by decide)).trans ((hkp 2 (by decide) (by decide)).trans h2)
    · exact (hkp2 3 (by decide) (by decide)).trans ((hkp 3 (by decide) (by decide)).trans h3)
    · exact (hkp2 4 (by decide) (by decide)).trans ((hkp 4 (by decide) (by decide)).trans h4)
    · exact g.store hD2 hb2 (Nat.dvd_add hal2 (Nat.dvd_mul_left 7 n)) hl
theorem list_ok {i : Nat} (hi3 : i < 3) {ad : Option Addr} {len cap : Nat} (hv : vs[i]? = some (.slice ad len cap)) {a : Act} {w : World} (h0 : I2 D w0 bl e vs pt i 0 a w) :
    bk2.wp Tryz.prog (fun ex a' w' => ex = .normal ∧ I1 D w0 bl e vs pt i a' w') a w := by
  refine for_ok (I2 D w0 bl e vs pt i) (fun n a w => I2 D w0 bl e vs pt i n a w ∧ n < len) maxLen ?_ ?_ h0
  · rintro n a w ⟨T, hT, h1, h2, h3, h4, g⟩
    refine head6 hT h2 h3 h4 hi3 (row_cell g hv) fun a' T' hT' hkp hc => ⟨rfl, ?_⟩
    have hi' : I2 D w0 bl e vs pt i n a' w := ⟨T', hT', (hkp 1 (by decide) (by decide)).trans h1, (hkp 2 (by decide) (by decide)).trans h2, (hkp 3 (by decide) (by decide)).trans h3, (hkp 4 (by decide) (by decide)).trans h4, g⟩
    have hev : a'.eval (.tmp 28) = .bool (decide (n < len)) := by rw [hT'.ev]; exact hc
    obtain ⟨ad', n', c', e1, e2, e3⟩ := g.top _ (List.mem_of_getElem? hv)
    injection e1 with e1 e4 e5
    subst e1 e4 e5
    by_cases hn : n < len
    · left
      exact ⟨by rw [hev]; simp [hn], by omega, hi', hn⟩
    · right
      refine ⟨by rw [hev]; simp [hn], rfl, ?_⟩
      obtain ⟨T2, q1, q2, q3, q4, q5, q6⟩ := hi'
      exact ⟨T2, q1, q2, q3, q4, q6⟩
  · rintro k a w ⟨⟨T, hT, h1, h2, h3, h4, g⟩, hk⟩
    obtain ⟨ad', n', c', e1, e2, e3⟩ := g.top _ (List.mem_of_getElem? hv)
    injection e1 with e1 e4 e5
    subst e1 e4 e5
    obtain ⟨b, off, C0, e0, rfl, hD0, hal0, hb0, hsz0, hel0⟩ := e3 (by omega)
    refine wp_seq (wp_block (wp_seq (wp_seq ?_)))
    refine init8 hT fun a1 T1 hT1 hkp1 h5 => ?_
    refine wp_mono (kids_ok hi3 hv hk ⟨T1, hT1, (hkp1 1 (by decide) (by decide)).trans h1, (hkp1 2 (by decide) (by decide)).trans h2, (hkp1 3 (by decide) (by decide)).trans h3, (hkp1 4 (by decide) (by decide)).trans h4, h5, g⟩) ?_
    rintro ex a2 w2 ⟨rfl, T2, hT2, j1, j2, j3, j4, g2⟩
    obtain ⟨ad', n', c', e1', e2', e3'⟩ := g2.top _ (List.mem_of_getElem? hv)
    injection e1' with e1' e4' e5'
    subst e4' e5'
    obtain ⟨b', off', C, e', e6, hD, hal, hb, hsz, hel⟩ := e3' (by omega)
    rw [e6] at e1'
    injection e1' with e1'
    injection e1' with e8 e7
    subst e8 e7
    have hl : off + k * 7 + 7 ≤ C.size := by
      have := Nat.mul_le_mul_right 7 (Nat.succ_le_of_lt hk)
      rw [Nat.succ_mul] at this
      omega
    refine body12 hT2 j2 j3 j4 hi3 (row_cell g2 hv) hk hb hl fun a3 T3 hT3 hkp3 => ?_
    refine step7 hT3 (n := k) ((hkp3 4 (by decide) (by decide)).trans j4) (by rw [maxLen_eq] at e2; omega) fun a4 T4 hT4 hkp4 h4' => ⟨rfl, T4, hT4, ?_, ?_, ?_, h4', ?_⟩
    · exact (hkp4 1 (by decide) (by decide)).trans ((hkp3 1 (by decide) (by decide)).trans j1)
    · exact (hkp4 2 (by decide) (by decide)).trans ((hkp3 2 (by decide) (by decide)).trans j2)
    · exact (hkp4 3 (by decide) (by decide)).trans ((hkp3 3 (by decide) (by decide)).trans j3)
    · exact g2.store hD hb (Nat.dvd_add hal (Nat.dvd_mul_left 7 k)) hl
theorem lists_ok (hlen : vs.length = 3) {a : Act} {w : World} (h0 : I1 D w0 bl e vs pt 0 a w) :
    bk0.wp Tryz.prog (fun ex a' w' => ex = .normal ∧ ∃ T, Is 94 a' T ∧ T 1 = pt ∧ G D w0 bl e vs w') a w := by
  refine for_ok (I1 D w0 bl e vs pt) (fun n a w => I1 D w0 bl e vs pt n a w ∧ n < 3) 3 ?_ ?_ h0
  · rintro n a w ⟨T, hT, h1, h2, h3, g⟩
    refine head3 hT h2 h3 fun a' T' hT' hkp hc => ⟨rfl, ?_⟩
    have hi' : I1 D w0 bl e vs pt n a' w := ⟨T', hT', (hkp 1 (by decide) (by decide)).trans h1, (hkp 2 (by decide) (by decide)).trans h2, (hkp 3 (by decide) (by decide)).trans h3, g⟩
    have hev : a'.eval (.tmp 19) = .bool (decide (n < 3)) := by rw [hT'.ev]; exact hc
    by_cases hn : n < 3
    · left
      exact ⟨by rw [hev]; simp [hn], hn, hi', hn⟩
    · right
      refine ⟨by rw [hev]; simp [hn], rfl, ?_⟩
      obtain ⟨T2, q1, q2, q3, q4, q5⟩ := hi'
      exact ⟨T2, q1, q2, q5⟩
  · rintro i a w ⟨⟨T, hT, h1, h2, h3, g⟩, hi3⟩
    have hv : vs[i]? = some vs[i] := List.getElem?_eq_getElem (by omega)
    obtain ⟨ad, len, cap, e1, e2, e3⟩ := g.top _ (List.mem_of_getElem? hv)
    rw [e1] at hv
    refine wp_seq (wp_block (wp_seq ?_))
    refine init5 hT fun a1 T1 hT1 hkp1 h4 => ?_
    refine wp_mono (list_ok hi3 hv ⟨T1, hT1, (hkp1 1 (by decide) (by decide)).trans h1, (hkp1 2 (by decide) (by decide)).trans h2, (hkp1 3 (by decide) (by decide)).trans h3, h4, g⟩) ?_
    rintro ex a2 w2 ⟨rfl, T2, hT2, j1, j2, j3, g2⟩
    refine step4 hT2 (n := i) j3 (by omega) fun a4 T4 hT4 hkp4 h3' => ⟨rfl, T4, hT4, ?_, ?_, h3', g2⟩
    · exact (hkp4 1 (by decide) (by decide)).trans j1
    · exact (hkp4 2 (by decide) (by decide)).trans j2
end
end
end Go.SP
set_option maxRecDepth 100000
namespace Go.SP
open Go.Proofs Go.RX
noncomputable section
structure GI (D : Nat → Prop) (w0 : World) (bl : Nat) (e : TypeId) (vs : List Value) (w : World) : Prop where
  sc : Sc D w0 w
  row : w.heap[bl]? = some (.cells vs.toArray e (0, 0))
  nd : ¬ D bl
  sl : ∀ v ∈ vs, SlOK D w 1 v
section
variable {D : Nat → Prop} {w0 : World} {bl : Nat} {e : TypeId} {vs : List Value}
theorem GI.store {w : World} (g : GI D w0 bl e vs w) {b : Nat} {C : Array Value} {e' : TypeId} (hd : D b) (hb : w.heap[b]? = some (.cells C e' (0, 0))) {q : Nat} (hl : q + 1 ≤ C.size) (z : Value) :
    GI D w0 bl e vs (w.setRow b (C.toList.take q ++ [z] ++ C.toList.drop (q + 1)).toArray) :=
  ⟨g.sc.trans (Sc.row w hd _), by rw [setRow_other w b bl _ (fun h => g.nd (h ▸ hd))]; exact g.row, g.nd, fun v hv => (g.sl v hv).same (Same.row hb (splice_size (z := [z]) hl))⟩
def K1 (D : Nat → Prop) (w0 : World) (bl : Nat) (e : TypeId) (vs : List Value) (n : Nat) (a : Act) (w : World) : Prop :=
  ∃ T, Is 94 a T ∧ T 6 = .slice (some ⟨bl, 0, none⟩) 5 5 ∧ T 7 = .int .i64 n ∧ GI D w0 bl e vs w
def K2 (D : Nat → Prop) (w0 : World) (bl : Nat) (e : TypeId) (vs : List Value) (i n : Nat) (a : Act) (w : World) : Prop :=
  ∃ T, Is 94 a T ∧ T 6 = .slice (some ⟨bl, 0, none⟩) 5 5 ∧ T 7 = .int .i64 i ∧ T 8 = .int .i64 n ∧ GI D w0 bl e vs w
theorem row_cellI {w : World} (g : GI D w0 bl e vs w) {i : Nat} {v : Value} (h : vs[i]? = some v) : w.cell? ⟨bl, i, none⟩ = some v := by
  rw [cell_at g.row]
  simpa using h
theorem ints_ok {i : Nat} (hi3 : i < 5) {ad : Option Addr} {len cap : Nat} (hv : vs[i]? = some (.slice ad len cap)) {a : Act} {w : World} (h0 : K2 D w0 bl e vs i 0 a w) :
    bk8.wp Tryz.prog (fun ex a' w' => ex = .normal ∧ K1 D w0 bl e vs i a' w') a w := by
  refine for_ok (K2 D w0 bl e vs i) (fun n a w => K2 D w0 bl e vs i n a w ∧ n < len) maxLen ?_ ?_ h0
  · rintro n a w ⟨T, hT, h2, h3, h4, g⟩
    refine head18 hT h2 h3 h4 hi3 (row_cellI g hv) fun a' T' hT' hkp hc => ⟨rfl, ?_⟩
    have hi' : K2 D w0 bl e vs i n a' w := ⟨T', hT', (hkp 6 (by decide) (by decide)).trans h2, (hkp 7 (by decide) (by decide)).trans h3, (hkp 8 (by decide) (by decide)).trans h4, g⟩
    have hev : a'.eval (.tmp 85) = .bool (decide (n < len)) := by rw [hT'.ev]; exact hc
    obtain ⟨ad', n', c', e1, e2, e3⟩ := g.sl _ (List.mem_of_getElem? hv)
    injection e1 with e1 e4 e5
    subst e1 e4 e5
    by_cases hn : n < len
    · left
      exact ⟨by rw [hev]; simp [hn], by omega, hi', hn⟩
    · right
      refine ⟨by rw [hev]; simp [hn], rfl, ?_⟩
      obtain ⟨T2, q1, q3, q4, q5, q6⟩ := hi'
      exact ⟨T2, q1, q3, q4, q6⟩
  · rintro k a w ⟨⟨T, hT, h2, h3, h4, g⟩, hk⟩
    obtain ⟨ad', n', c', e1, e2, e3⟩ := g.sl _ (List.mem_of_getElem? hv)
    injection e1 with e1 e4 e5
    subst e1 e4 e5
    obtain ⟨b, off, C, e', rfl, hD, hal, hb, hsz⟩ := e3 (by omega)
    have hl : off + k * 1 + 1 ≤ C.size := by omega
    refine wp_seq (wp_block ?_)
    refine body20 hT h2 h3 h4 hi3 (row_cellI g hv) hk hb hl fun a3 T3 hT3 hkp3 => ?_
    refine step19 hT3 (n := k) ((hkp3 8 (by decide) (by decide)).trans h4) (by rw [maxLen_eq] at e2; omega) fun a4 T4 hT4 hkp4 h4' => ⟨rfl, T4, hT4, ?_, ?_, h4', ?_⟩
    · exact (hkp4 6 (by decide) (by decide)).trans ((hkp3 6 (by decide) (by decide)).trans h2)
    · exact (hkp4 7 (by decide) (by decide)).trans ((hkp3 7 (by decide) (by decide)).trans h3)
    · exact g.store hD hb hl _
theorem allInts_ok (hlen : vs.length = 5) {a : Act} {w : World} (h0 : K1 D w0 bl e vs 0 a w) :
    bk6.wp Tryz.prog (fun ex a' w' => ex = .normal ∧ (∃ T, Is 94 a' T) ∧ Sc D w0 w') a w := by
  refine for_ok (K1 D w0 bl e vs) (fun n a w => K1 D w0 bl e vs n a w ∧ n < 5) 5 ?_ ?_ h0
  · rintro n a w ⟨T, hT, h2, h3, g⟩
    refine head15 hT h2 h3 fun a' T' hT' hkp hc => ⟨rfl, ?_⟩
    have hi' : K1 D w0 bl e vs n a' w := ⟨T', hT', (hkp 6 (by decide) (by decide)).trans h2, (hkp 7 (by decide) (by decide)).trans h3, g⟩
    have hev : a'.eval (.tmp 76) = .bool (decide (n < 5)) := by rw [hT'.ev]; exact hc
    by_cases hn : n < 5
    · left
      exact ⟨by rw [hev]; simp [hn], hn, hi', hn⟩
    · right
      exact ⟨by rw [hev]; simp [hn], rfl, ⟨T', hT'⟩, g.sc⟩
  · rintro i a w ⟨⟨T, hT, h2, h3, g⟩, hi3⟩
    have hv : vs[i]? = some vs[i] := List.getElem?_eq_getElem (by omega)
    obtain ⟨ad, len, cap, e1, e2, e3⟩ := g.sl _ (List.mem_of_getElem? hv)
    rw [e1] at hv
    refine wp_seq (wp_block (wp_seq ?_))
    refine init17 hT fun a1 T1 hT1 hkp1 h4 => ?_
    refine wp_mono (ints_ok hi3 hv ⟨T1, hT1, (hkp1 6 (by decide) (by decide)).trans h2, (hkp1 7 (by decide) (by decide)).trans h3, h4, g⟩) ?_
    rintro ex a2 w2 ⟨rfl, T2, hT2, j2, j3, g2⟩
    refine step16 hT2 (n := i) j3 (by omega) fun a4 T4 hT4 hkp4 h3' => ⟨rfl, T4, hT4, ?_, h3', g2⟩
    exact (hkp4 6 (by decide) (by decide)).trans j2
end
theorem cells_slice (a : Option Addr) (n c : Nat) : (Value.slice a n c).cells = #[.slice a n c] := rfl
theorem fn7 : FnOK Tryz.prog 7 Tryz.f7 := ⟨by kernel_rfl, by kernel_rfl⟩
theorem hb7 : Tryz.f7.body = some code7 := by kernel_rfl
theorem n7 : Tryz.f7.ntmps = 94 := by kernel_rfl
theorem r7 : Tryz.f7.results = #[] := by kernel_rfl
theorem spoil_ok {D : Nat → Prop} {w : World} {c0 x1 x2 x3 x4 x5 c6 x7 c8 x9 x10 : Value} (hD : ∀ b, D b → b < w.heap.size)
    (t2 : TopOK D w x2) (t3 : TopOK D w x3) (t4 : TopOK D w x4) (i1 : SlOK D w 1 x1) (i5 : SlOK D w 1 x5) (i7 : SlOK D w 1 x7) (i9 : SlOK D w 1 x9) (i10 : SlOK D w 1 x10)
    (o : Oper) (a : Act) (next : Act → World → Prop) (Q : Exit → Act → World → Prop) (hn : ∀ v w', Sc D w w' → next (a.put o.dst v) w') :
    o.upon Tryz.prog a next Q ((callFunc 7 #[.agg #[c0, x1, x2, x3, x4, x5, c6, x7, c8, x9, x10]]).run Tryz.prog w) := by
  have hrun : (callFunc 7 #[.agg #[c0, x1, x2, x3, x4, x5, c6, x7, c8, x9, x10]]).run Tryz.prog w = .ok (.enter 7 #[.agg #[c0, x1, x2, x3, x4, x5, c6, x7, c8, x9, x10]]) w := by
    simp [callFunc, fn7.at_, fn7.ne, hb7]
  rw [hrun, Oper.upon_enter]
  refine calls_of_wp fn7.at_ hb7 ?_
  let T0 : Tm := fun t => (#[.agg #[c0, x1, x2, x3, x4, x5, c6, x7, c8, x9, x10]] ++ Array.replicate (Tryz.f7.ntmps - 1) undef : Array Value).getD t undef
  have hT0 : Is 94 { tmps := #[.agg #[c0, x1, x2, x3, x4, x5, c6, x7, c8, x9, x10]] ++ Array.replicate (Tryz.f7.ntmps - 1) undef, defers := [] } T0 := ⟨by simp [n7], fun t => rfl, rfl⟩
  refine wp_mono (Q := fun ex a' w' => ex = .normal ∧ (∃ T, Is 94 a' T) ∧ Sc D w w') ?_ ?_
  · show code7.wp Tryz.prog _ _ w
    refine wp_seq (box0 hT0 fun a1 T1 hT1 h1 => ?_)
    have hc : (T0 0).cells = #[c0, x1, x2, x3, x4, x5, c6, x7, c8, x9, x10] := by simp [T0, Value.cells]
    rw [hc]
    let w1 := w.alloc (.cells #[c0, x1, x2, x3, x4, x5, c6, x7, c8, x9, x10] 35)
    have hbt : w1.heap[w.heap.size]? = some (.cells #[c0, x1, x2, x3, x4, x5, c6, x7, c8, x9, x10] 35 (0, 0)) := heap_alloc_new _ _
    obtain ⟨a2, n2, k2, rfl, _⟩ := id t2
    obtain ⟨a3, n3, k3, rfl, _⟩ := id t3
    obtain ⟨a4, n4, k4, rfl, _⟩ := id t4
    refine wp_seq (lists1 hT1 h1 (w := w1) (by rw [cell_at hbt]; rfl) (by rw [cell_at hbt]; rfl) (by rw [cell_at hbt]; rfl) (cells_slice _ _ _) (cells_slice _ _ _) (cells_slice _ _ _) fun a2' T2 hT2 h21 h22 => ?_)
    let w2 := w1.alloc (.cells #[.slice a2 n2 k2, .slice a3 n3 k3, .slice a4 n4 k4] 33)
    have hs1 : w1.heap.size = w.heap.size + 1 := World.size_alloc _ _
    have hs2 : w2.heap.size = w.heap.size + 2 := (World.size_alloc w1 (.cells #[.slice a2 n2 k2, .slice a3 n3 k3, .slice a4 n4 k4] 33)).trans (by rw [hs1])
    refine wp_seq (wp_seq (init2 hT2 fun a3' T3 hT3 hkp3 h33 => ?_))
    have nd : ∀ b, w.heap.size ≤ b → ¬ D b := fun b hb hd => by have := hD b hd; omega
    have top : ∀ v, TopOK D w v → TopOK D w2 v := fun v hv => (hv.alloc _).alloc _
    have g0 : G D w2 w1.heap.size 33 [.slice a2 n2 k2, .slice a3 n3 k3, .slice a4 n4 k4] w2 :=
      ⟨Sc.refl D w2, Same.refl D w2, heap_alloc_new _ _, nd _ (by omega), by
        intro v hv
        simp only [List.mem_cons, List.not_mem_nil, or_false] at hv
        rcases hv with rfl | rfl | rfl
        · exact top _ t2
        · exact top _ t3
        · exact top _ t4⟩
    refine wp_mono (lists_ok rfl ⟨T3, hT3, (hkp3 1 (by decide) (by decide)).trans (h21.trans h1), (hkp3 2 (by decide) (by decide)).trans h22, h33, g0⟩) ?_
    rintro ex a4' w3 ⟨rfl, T4, hT4, h41, g3⟩
    have hbt3 : w3.heap[w.heap.size]? = some (.cells #[c0, x1, .slice a2 n2 k2, .slice a3 n3 k3, .slice a4 n4 k4, x5, c6, x7, c8, x9, x10] 35 (0, 0)) := by
      rw [g3.sc.keep _ (by omega) (nd _ (Nat.le_refl _))]
      show (w1.alloc _).heap[_]? = _
      rw [heap_alloc_old _ _ _ (by omega)]
      exact hbt
    obtain ⟨p1, m1, q1, rfl, _⟩ := id i1
    obtain ⟨p5, m5, q5, rfl, _⟩ := id i5
    obtain ⟨p7, m7, q7, rfl, _⟩ := id i7
    obtain ⟨p9, m9, q9, rfl, _⟩ := id i9
    obtain ⟨p10, m10, q10, rfl, _⟩ := id i10
    refine wp_seq (lists13 hT4 h41 (by rw [cell_at hbt3]; rfl) (by rw [cell_at hbt3]; rfl) (by rw [cell_at hbt3]; rfl) (by rw [cell_at hbt3]; rfl) (by rw [cell_at hbt3]; rfl) (cells_slice _ _ _) (cells_slice _ _ _) (cells_slice _ _ _) (cells_slice _ _ _) (cells_slice _ _ _) fun a5' T5 hT5 h56 => ?_)
    refine wp_seq (init14 hT5 fun a6' T6 hT6 hkp6 h67 => ?_)
    have sc : Sc D w (w3.alloc (.cells #[.slice p1 m1 q1, .slice p5 m5 q5, .slice p7 m7 q7, .slice p9 m9 q9, .slice p10 m10 q10] 30)) :=
      ((Sc.alloc D w _).trans (Sc.alloc D w1 _)).trans (g3.sc.trans (Sc.alloc D w3 _))
    have sm : Same D w (w3.alloc (.cells #[.slice p1 m1 q1, .slice p5 m5 q5, .slice p7 m7 q7, .slice p9 m9 q9, .slice p10 m10 q10] 30)) :=
      ((Same.alloc w _).trans (Same.alloc w1 _)).trans (g3.same.trans (Same.alloc w3 _))
    refine wp_mono (allInts_ok (D := D) (w0 := w) (bl := w3.heap.size) (e := 30) (vs := [.slice p1 m1 q1, .slice p5 m5 q5, .slice p7 m7 q7, .slice p9 m9 q9, .slice p10 m10 q10]) rfl ⟨T6, hT6, (hkp6 6 (by decide) (by decide)).trans h56, h67, sc, heap_alloc_new _ _, nd _ (by have := g3.sc.size; omega), ?_⟩) fun _ _ _ h => h
    intro v hv
    simp only [List.mem_cons, List.not_mem_nil, or_false] at hv
    rcases hv with rfl | rfl | rfl | rfl | rfl
    · exact i1.same sm
    · exact i5.same sm
    · exact i7.same sm
    · exact i9.same sm
    · exact i10.same sm
  · rintro ex a' w' ⟨rfl, ⟨T, hT⟩, hs⟩
    exact ⟨hT.defers, .tuple #[], by simp [results, r7], hn _ _ hs⟩
end
end Go.SP
