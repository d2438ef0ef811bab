-- Written by a program of this session (a changed scratch copy of a tool of the kit); not a print of the kit's own.
import Derived.Test.YtdcbmpjofacbhaaPAllx0
namespace Go.Proofs.Ytdcbmpjofacbhaa.PAll
open Go.RowKit Go.Proofs.YtdcbmpjofacbhaaW.PrintWords Go.Proofs.YtdcbmpjofacbhaaW.PrintLast Go.Proofs.YtdcbmpjofacbhaaW.PrintMore Go.Proofs.YtdcbmpjofacbhaaMy
attribute [local go_sem] max2_int min2_int max_two min_two max_three min_three max_four min_four   -- for this text's walks alone
set_option linter.unusedVariables false
set_option linter.unusedSimpArgs false

theorem eqA43 (d : Nat) (w : World) (x0 y0 : Int) (x1 y1 : Int) :
    (Op.equalIn (d + 2) 43 (.agg #[.int .u8 x0, .int .u8 x1]) (.agg #[.int .u8 y0, .int .u8 y1])).run Try.prog w = .ok (x0 == y0 && (x1 == y1)) w := by
  have h0 : (part 5 #[.int .u8 x0, .int .u8 x1] 0).run Try.prog w = .ok (.int .u8 x0) w := by go_simp
  have h1 : (part 5 #[.int .u8 x0, .int .u8 x1] 1).run Try.prog w = .ok (.int .u8 x1) w := by go_simp
  have h2 : (part 5 #[.int .u8 y0, .int .u8 y1] 0).run Try.prog w = .ok (.int .u8 y0) w := by go_simp
  have h3 : (part 5 #[.int .u8 y0, .int .u8 y1] 1).run Try.prog w = .ok (.int .u8 y1) w := by go_simp
  have hz : (sizeOf 5).run Try.prog w = .ok 1 w := by go_simp
  have e0 : (Op.equalIn (d + 1) 5 (.int .u8 x0) (.int .u8 y0)).run Try.prog w = .ok (x0 == y0) w := by go_simp
  have e1 : (Op.equalIn (d + 1) 5 (.int .u8 x1) (.int .u8 y1)).run Try.prog w = .ok (x1 == y1) w := by go_simp
  rw [Op.equalIn]
  simp only [Sem.run_bind, run_underlying Try.underlying43, Result.andThen_ok, hz, Std.Legacy.Range.forIn_eq_forIn_range', Std.Legacy.Range.size]
  simp [List.range', h0, h1, h2, h3, e0, e1]
  by_cases a_ : x0 = y0 <;> by_cases b_ : x1 = y1 <;> simp [a_, b_]
end Go.Proofs.Ytdcbmpjofacbhaa.PAll
