/- What the functions of this seat answer, as plain Lean functions, and that the calls come to just that (written by a program of this repo, over the kit's printer; Lean checks it). -/
import Derived.Test.YtnmcefpnpfakladVx0
namespace Go.Proofs.Ytnmcefpnpfaklad.V
open Go.RowKit Go.Proofs.YtnmcefpnpfakladW.PrintWords Go.Proofs.YtnmcefpnpfakladW.PrintLast Go.Proofs.YtnmcefpnpfakladW.PrintMore
attribute [local go_sem] max2_int min2_int max_two min_two max_three min_three max_four min_four   -- for this text's walks alone
set_option linter.unusedVariables false
set_option linter.unusedSimpArgs false

set_option maxHeartbeats 2000000 in
theorem eqA41 (d : Nat) (w : World) (x0 y0 : Int) (x1 y1 : Int) :
    (Op.equalIn (d + 2) 41 (.agg #[.int .i64 x0, .int .i64 x1]) (.agg #[.int .i64 y0, .int .i64 y1])).run Try.prog w = .ok (x0 == y0 && (x1 == y1)) w := by
  have h_ := Try.underlying41
  have hs : (sizeOf 3).run Try.prog w = .ok 1 w := by kernel_rfl
  have p0 : (part 3 #[.int .i64 x0, .int .i64 x1] 0).run Try.prog w = .ok (.int .i64 x0) w := by go_simp
  have q0 : (part 3 #[.int .i64 y0, .int .i64 y1] 0).run Try.prog w = .ok (.int .i64 y0) w := by go_simp
  have e0 : (Op.equalIn (d + 1) 3 (.int .i64 x0) (.int .i64 y0)).run Try.prog w = .ok (x0 == y0) w := by go_simp
  have p1 : (part 3 #[.int .i64 x0, .int .i64 x1] 1).run Try.prog w = .ok (.int .i64 x1) w := by go_simp
  have q1 : (part 3 #[.int .i64 y0, .int .i64 y1] 1).run Try.prog w = .ok (.int .i64 y1) w := by go_simp
  have e1 : (Op.equalIn (d + 1) 3 (.int .i64 x1) (.int .i64 y1)).run Try.prog w = .ok (x1 == y1) w := by go_simp
  rw [Op.equalIn]
  generalize (x0 == y0) = b0 at *
  generalize (x1 == y1) = b1 at *
  cases b0
  · simp [run_underlying h_, hs, show List.range' 0 2 = [0, 1] from rfl, p0, q0, e0]
  cases b1
  · simp [run_underlying h_, hs, show List.range' 0 2 = [0, 1] from rfl, p0, q0, e0, p1, q1, e1]
  simp [run_underlying h_, hs, show List.range' 0 2 = [0, 1] from rfl, p0, q0, e0, p1, q1, e1]
end Go.Proofs.Ytnmcefpnpfaklad.V
