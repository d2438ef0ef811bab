/- DiskLoses: every input. -/
import Derived.Test.YtoedkemjidgbeaaDkLf
import Derived.Test.YtoedkemjidgbeaaDkLt
namespace Go.Proofs.Ytoedkemjidgbeaa.Dk
open Go Go.RowKit Go.Proofs.YtoedkemjidgbeaaW.PrintWords Go.Proofs.YtoedkemjidgbeaaW.PrintLast Go.Proofs.YtoedkemjidgbeaaW.PrintMore Go.Proofs.YtoedkemjidgbeaaMy Go.Proofs.Ytoedkemjidgbeaa Go.Proofs.YtoedkemjidgbeaaPw Go.Proofs.Ytoedkemjidgbeaa.PAll
attribute [local go_sem] max2_m min2_m max_two min_two
set_option linter.unusedVariables false
set_option linter.unusedSimpArgs false
section
variable {w : World} {A0 A1 : Option Addr} {c0 c1 m0 m1 : Nat} {n keep : Int}
set_option maxHeartbeats 4000000 in
set_option maxRecDepth 100000 in
theorem los_l (w : World) (torn : Bool) (h : 40 < m0) : Calls Try.prog 4 #[.slice A0 m0 c0, .slice A1 m1 c1, .int .i64 n, .int .i64 keep, .bool torn] w fun e w' => e = .returned (.bool true) ∧ Below w.heap.size w w' := by
  have c1b : decide ((40 : Int) < (m0 : Int)) = true := decide_eq_true (by omega)
  clear h
  go_enter Try.func4, Try.ntmps4
  go_wp2_with (first | (go_at_call 10; refine (alive_Q w).mono ?_; rintro e w1 ⟨rfl, hb⟩))
  go_ret
  exact ⟨rfl, hb⟩
set_option maxHeartbeats 4000000 in
set_option maxRecDepth 100000 in
theorem los_m (w : World) (torn : Bool) (h0 : m0 ≤ 40) (h : m1 < m0) : Calls Try.prog 4 #[.slice A0 m0 c0, .slice A1 m1 c1, .int .i64 n, .int .i64 keep, .bool torn] w fun e w' => e = .returned (.bool true) ∧ Below w.heap.size w w' := by
  have c1b : decide ((40 : Int) < (m0 : Int)) = false := decide_eq_false (by omega)
  have c2b : decide (m1 < m0) = true := decide_eq_true h
  clear h0
  go_enter Try.func4, Try.ntmps4
  go_wp2_with (first | (go_at_call 10; refine (alive_Q w).mono ?_; rintro e w1 ⟨rfl, hb⟩))
  go_ret
  exact ⟨rfl, hb⟩
end
theorem Loses_Q {w : World} {A0 A1 : Option Addr} {c0 c1 m0 m1 : Nat} {n keep : Int} (torn : Bool) {Ar : Nat → Option Addr} {T : Nat → List Int} {C : Nat → Nat} {B : Nat → Bool} (hT : Texts w A0 m0 Ar T C) (hB : Flags w A1 m1 B) (hn : n ≤ 9223372036854775807) : Calls Try.prog 4 #[.slice A0 m0 c0, .slice A1 m1 c1, .int .i64 n, .int .i64 keep, .bool torn] w fun e w' => e = .returned (.bool true) ∧ Below w.heap.size w w' := by
  by_cases h : 40 < m0
  · exact los_l w torn h
  by_cases h1 : m1 < m0
  · exact los_m w torn (by omega) h1
  cases torn with
  | false => exact los_false hT hB (by omega) (by omega) hn
  | true => exact los_true hT hB (by omega) (by omega) hn
end Go.Proofs.Ytoedkemjidgbeaa.Dk
