-- written by hprint.py (a program of this session's, over the kit's print.py)
import Derived.Test.YtknlbeojdmeljaaH9
import Derived.Test.YtknlbeojdmeljaaP0
namespace Go.Proofs.Ytknlbeojdmeljaa.P
open Go.RowKit Go.Proofs.YtknlbeojdmeljaaW.PrintWords Go.Proofs.YtknlbeojdmeljaaW.PrintLast Go.Proofs.YtknlbeojdmeljaaW.PrintMore
attribute [local go_sem] max2_int min2_int max_two min_two max_three min_three max_four min_four   -- for this text's walks alone
set_option linter.unusedVariables false
set_option linter.unusedSimpArgs false

/-! ### solve_Add: function 12 -/
def solve_Add.f (k : Nat) (l0 : List (S25)) (a1_0 : Int) (l1_1 : List Int) : Option ((List (S25)) × Bool × Int) := if l0.length ≤ 1000000 then some (H.addS l0 a1_0 l1_1) else none
theorem solve_Add.mono : ∀ a0 a1 a2 k, LeO (solve_Add.f k a0 a1 a2) (solve_Add.f (k + 1) a0 a1 a2) := fun _ _ _ _ => LeO.refl _
theorem solve_Add.calls (k : Nat) (A0 : Option Addr) (c0 : Nat) (l0 : List (S25)) (a1_0 : Int) (A1_1 : Option Addr) (c1_1 : Nat) (l1_1 : List Int) (r1 : List (S25)) (r2 : Bool) (r3 : Int) (w : World) (hr0 : Kd.C k25 w A0 l0.length l0) (hc0 : l0.length ≤ c0) (hr1_1 : Kd.C (Kd.int .u8) w A1_1 l1_1.length l1_1) (hc1_1 : l1_1.length ≤ c1_1) (h : solve_Add.f k l0 a1_0 l1_1 = some (r1, r2, r3)) :
    Calls Try.prog 12 #[.slice A0 l0.length c0, .agg #[.int .i64 a1_0, .slice A1_1 l1_1.length c1_1]] w fun e w' => ∃ v0_ : Value, e = .returned (.tuple #[v0_, .bool r2, .int .i64 r3]) ∧ Kd.S k25 25 w' w.heap.size (fun _ => True) v0_ r1 ∧ Below w.heap.size w w' := by
  unfold solve_Add.f at h
  split at h
  · rename_i hl
    have h1 : H.addS l0 a1_0 l1_1 = (r1, r2, r3) := Option.some.inj h
    have h2 := H.add_calls A0 c0 l0 a1_0 A1_1 c1_1 l1_1 w hr0 hr1_1 hl
    rw [h1] at h2
    exact h2
  · cases h

/-! ### solve_Solved: function 14 -/
def solve_Solved.f (k : Nat) (l0 : List (S25)) (a1 : Int) : Option (List Int × Bool) := some (H.solvedS l0 a1)
theorem solve_Solved.mono : ∀ a0 a1 k, LeO (solve_Solved.f k a0 a1) (solve_Solved.f (k + 1) a0 a1) := fun _ _ _ => LeO.refl _
theorem solve_Solved.calls (k : Nat) (A0 : Option Addr) (c0 : Nat) (l0 : List (S25)) (a1 : Int) (r1 : List Int) (r2 : Bool) (w : World) (hr0 : Kd.C k25 w A0 l0.length l0) (hc0 : l0.length ≤ c0) (h : solve_Solved.f k l0 a1 = some (r1, r2)) :
    Calls Try.prog 14 #[.slice A0 l0.length c0, .int .i64 a1] w fun e w' => ∃ v0_ : Value, e = .returned (.tuple #[v0_, .bool r2]) ∧ Kd.R (Kd.int .u8) 5 w' w.heap.size (fun _ => True) v0_ r1 ∧ Below w.heap.size w w' := by
  have h1 : H.solvedS l0 a1 = (r1, r2) := Option.some.inj h
  have h2 := H.solved_calls A0 c0 l0 a1 w hr0
  rw [h1] at h2
  exact h2

/-! ### solve_Sum: function 16 -/
def solve_Sum.f (k : Nat) (l0 : List (S25)) (a1 : Int) : Option (List Int × Bool) := some (H.sumS l0 a1)
theorem solve_Sum.mono : ∀ a0 a1 k, LeO (solve_Sum.f k a0 a1) (solve_Sum.f (k + 1) a0 a1) := fun _ _ _ => LeO.refl _
theorem solve_Sum.calls (k : Nat) (A0 : Option Addr) (c0 : Nat) (l0 : List (S25)) (a1 : Int) (r1 : List Int) (r2 : Bool) (w : World) (hr0 : Kd.C k25 w A0 l0.length l0) (hc0 : l0.length ≤ c0) (h : solve_Sum.f k l0 a1 = some (r1, r2)) :
    Calls Try.prog 16 #[.slice A0 l0.length c0, .int .i64 a1] w fun e w' => ∃ v0_ : Value, e = .returned (.tuple #[v0_, .bool r2]) ∧ Kd.V (Kd.int .u8) 5 w' w.heap.size (fun k_ => (w.heap.size ≤ k_)) v0_ r1 ∧ Below w.heap.size w w' := by
  have h1 : H.sumS l0 a1 = (r1, r2) := Option.some.inj h
  have h2 := H.sum_calls A0 c0 l0 a1 w hr0
  rw [h1] at h2
  exact h2

/-! ### solve_Valid: function 20 -/
def solve_Valid.f (k : Nat) (l0 : List (S25)) : Option (Bool) := some (H.validS l0)
theorem solve_Valid.mono : ∀ a0 k, LeO (solve_Valid.f k a0) (solve_Valid.f (k + 1) a0) := fun _ _ => LeO.refl _
theorem solve_Valid.calls (k : Nat) (A0 : Option Addr) (c0 : Nat) (l0 : List (S25)) (r : Bool) (w : World) (hr0 : Kd.C k25 w A0 l0.length l0) (hc0 : l0.length ≤ c0) (h : solve_Valid.f k l0 = some r) :
    Calls Try.prog 20 #[.slice A0 l0.length c0] w fun e w' => e = .returned (.bool r) ∧ Below w.heap.size w w' := by
  cases h
  exact H.valid_calls A0 c0 l0 w hr0

end Go.Proofs.Ytknlbeojdmeljaa.P
