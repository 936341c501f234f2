/- The law SpanTells of layer 3 holds of the printed functions, for all spans and whole numbers of 64 bits. -/
import Derived.Test.YtcadddijlgcnbaaVx3
import Derived.Test.YtcadddijlgcnbaaVx4
import Derived.Test.YtcadddijlgcnbaaVx5
import Derived.Test.YtcadddijlgcnbaaVx6
import Derived.Test.YtcadddijlgcnbaaVx8
import Derived.Test.YtcadddijlgcnbaaVx9
import Derived.Test.YtcadddijlgcnbaaVx11
import Derived.Test.YtcadddijlgcnbaaVx12
import Derived.Test.YtcadddijlgcnbaaVx14
import Derived.Test.YtcadddijlgcnbaaVx16
import Derived.Test.YtcadddijlgcnbaaVx18
import Derived.Test.YtcadddijlgcnbaaVx20
import Derived.Test.YtcadddijlgcnbaaVx21
set_option linter.unusedVariables false
set_option linter.unusedSimpArgs false
namespace Go.Proofs.Ytcadddijlgcnbaa.Pure
open Go.RowKit Go.Proofs.Ytcadddijlgcnbaa.V Go.Proofs.YtcadddijlgcnbaaW.PrintWords Go.Proofs.YtcadddijlgcnbaaW.PrintLast Go.Proofs.YtcadddijlgcnbaaW.PrintMore

theorem SpanTells : valancelaw03_SpanTells.Pure := by
  intro a b c d n m _ _ _ _ _ _
  refine ⟨9, ?_⟩
  unfold valancelaw03_SpanTells.f
  simp only [works03_eq, span_Of_eq, ref_Of_eq, span_Size_eq, ref_Size_eq, span_Meet_eq, ref_Meet_eq, span_Join_eq, ref_Join_eq 9 (by omega), Option.bind_some, if_true, beq_self_eq_true, Bool.and_self]
  simp only [valancelaw03_SpanTells.j0, valancelaw03_SpanTells.j1, span_Has_eq, ref_Has_eq, span_In_eq, ref_In_eq, span_Move_eq, ref_Move_eq, span_Fit.f, ref_Fit_eq 7 (by omega), span_Near_eq, ref_Clamp_eq 7 (by omega), Option.bind_some, if_true, beq_self_eq_true, Bool.and_self]

end Go.Proofs.Ytcadddijlgcnbaa.Pure
