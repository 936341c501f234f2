/- What the functions of this seat answer, as plain Lean functions, and that the calls come to just that (written by a program of this repo, over the kit's printer; Lean checks it). -/
import Derived.Test.YtnmcefpnpfaklaaVx0
namespace Go.Proofs.Ytnmcefpnpfaklaa.V
open Go.RowKit Go.Proofs.Ytnmcefpnpfaklaa.Flt Go.Proofs.YtnmcefpnpfaklaaW.PrintWords Go.Proofs.YtnmcefpnpfaklaaW.PrintLast Go.Proofs.YtnmcefpnpfaklaaW.PrintMore
attribute [local go_sem high] run_eql_vpt2 run_neq_vpt2 eqGuard_vpt2 vpt2_zero run_add_vpt2
attribute [local go_sem] max2_int min2_int max_two min_two max_three min_three max_four min_four   -- for this text's walks alone
set_option linter.unusedVariables false
set_option linter.unusedSimpArgs false

set_option maxHeartbeats 2000000 in
theorem eqA30 (d : Nat) (w : World) (x0 y0 : Int) (x1 y1 : Int) (x2 y2 : Int) (x3 y3 : Int) :
    (Op.equalIn (d + 2) 30 (.agg #[.int .i64 x0, .int .i64 x1, .int .i64 x2, .int .i64 x3]) (.agg #[.int .i64 y0, .int .i64 y1, .int .i64 y2, .int .i64 y3])).run Try.prog w = .ok (x0 == y0 && (x1 == y1 && (x2 == y2 && (x3 == y3)))) w := by
  have h_ := Try.underlying30
  have hs : (sizeOf 3).run Try.prog w = .ok 1 w := by kernel_rfl
  have p0 : (part 3 #[.int .i64 x0, .int .i64 x1, .int .i64 x2, .int .i64 x3] 0).run Try.prog w = .ok (.int .i64 x0) w := by go_simp
  have q0 : (part 3 #[.int .i64 y0, .int .i64 y1, .int .i64 y2, .int .i64 y3] 0).run Try.prog w = .ok (.int .i64 y0) w := by go_simp
  have e0 : (Op.equalIn (d + 1) 3 (.int .i64 x0) (.int .i64 y0)).run Try.prog w = .ok (x0 == y0) w := by go_simp
  have p1 : (part 3 #[.int .i64 x0, .int .i64 x1, .int .i64 x2, .int .i64 x3] 1).run Try.prog w = .ok (.int .i64 x1) w := by go_simp
  have q1 : (part 3 #[.int .i64 y0, .int .i64 y1, .int .i64 y2, .int .i64 y3] 1).run Try.prog w = .ok (.int .i64 y1) w := by go_simp
  have e1 : (Op.equalIn (d + 1) 3 (.int .i64 x1) (.int .i64 y1)).run Try.prog w = .ok (x1 == y1) w := by go_simp
  have p2 : (part 3 #[.int .i64 x0, .int .i64 x1, .int .i64 x2, .int .i64 x3] 2).run Try.prog w = .ok (.int .i64 x2) w := by go_simp
  have q2 : (part 3 #[.int .i64 y0, .int .i64 y1, .int .i64 y2, .int .i64 y3] 2).run Try.prog w = .ok (.int .i64 y2) w := by go_simp
  have e2 : (Op.equalIn (d + 1) 3 (.int .i64 x2) (.int .i64 y2)).run Try.prog w = .ok (x2 == y2) w := by go_simp
  have p3 : (part 3 #[.int .i64 x0, .int .i64 x1, .int .i64 x2, .int .i64 x3] 3).run Try.prog w = .ok (.int .i64 x3) w := by go_simp
  have q3 : (part 3 #[.int .i64 y0, .int .i64 y1, .int .i64 y2, .int .i64 y3] 3).run Try.prog w = .ok (.int .i64 y3) w := by go_simp
  have e3 : (Op.equalIn (d + 1) 3 (.int .i64 x3) (.int .i64 y3)).run Try.prog w = .ok (x3 == y3) w := by go_simp
  rw [Op.equalIn]
  generalize (x0 == y0) = b0 at *
  generalize (x1 == y1) = b1 at *
  generalize (x2 == y2) = b2 at *
  generalize (x3 == y3) = b3 at *
  cases b0
  · simp [run_underlying h_, hs, show List.range' 0 4 = [0, 1, 2, 3] from rfl, p0, q0, e0]
  cases b1
  · simp [run_underlying h_, hs, show List.range' 0 4 = [0, 1, 2, 3] from rfl, p0, q0, e0, p1, q1, e1]
  cases b2
  · simp [run_underlying h_, hs, show List.range' 0 4 = [0, 1, 2, 3] from rfl, p0, q0, e0, p1, q1, e1, p2, q2, e2]
  cases b3
  · simp [run_underlying h_, hs, show List.range' 0 4 = [0, 1, 2, 3] from rfl, p0, q0, e0, p1, q1, e1, p2, q2, e2, p3, q3, e3]
  simp [run_underlying h_, hs, show List.range' 0 4 = [0, 1, 2, 3] from rfl, p0, q0, e0, p1, q1, e1, p2, q2, e2, p3, q3, e3]
end Go.Proofs.Ytnmcefpnpfaklaa.V
