-- Written by wip/tool/vprint.py (this repo's), over the kit's printer. Not trusted: Lean checks it.
import Derived.Test.YtcadddijlgcnbaaVx0
import Derived.Test.YtcadddijlgcnbaaVx1
import Derived.Test.YtcadddijlgcnbaaVx2
import Derived.Test.YtcadddijlgcnbaaVx3
import Derived.Test.YtcadddijlgcnbaaVx4
import Derived.Test.YtcadddijlgcnbaaVx5
import Derived.Test.YtcadddijlgcnbaaVx7
import Derived.Test.YtcadddijlgcnbaaVx8
import Derived.Test.YtcadddijlgcnbaaVx18
import Derived.Test.YtcadddijlgcnbaaVx19
import Derived.Test.YtcadddijlgcnbaaVx48
import Derived.Test.YtcadddijlgcnbaaVx49
import Derived.Test.YtcadddijlgcnbaaVx52
import Derived.Test.YtcadddijlgcnbaaVx53
import Derived.Test.YtcadddijlgcnbaaVx54
import Derived.Test.YtcadddijlgcnbaaVx55
import Derived.Test.YtcadddijlgcnbaaVx58
import Derived.Test.YtcadddijlgcnbaaVx59
namespace Go.Proofs.Ytcadddijlgcnbaa.V
open Go.RowKit Go.Proofs.YtcadddijlgcnbaaW.PrintWords Go.Proofs.YtcadddijlgcnbaaW.PrintLast Go.Proofs.YtcadddijlgcnbaaW.PrintMore
attribute [local go_sem] max2_int min2_int max_two min_two max_three min_three max_four min_four   -- for this text's walks alone
set_option linter.unusedVariables false
set_option linter.unusedSimpArgs false

/-! ### valancelaw01_FixOrder: function 11 -/
def valancelaw01_FixOrder.Pure : Prop := True
theorem zo_add (a b : Int) (w : World) : Calls Try.prog 37 #[.int .i64 a, .int .i64 b] w fun e w' => e = .returned (.int .i64 (vadd a b)) ∧ Below w.heap.size w w' := fix_Add.calls a b _ w (fix_Add_eq a b)
theorem zo_sub (a b : Int) (w : World) : Calls Try.prog 39 #[.int .i64 a, .int .i64 b] w fun e w' => e = .returned (.int .i64 (vsub a b)) ∧ Below w.heap.size w w' := fix_Sub.calls a b _ w (fix_Sub_eq a b)
theorem zo_part (a b : Int) (w : World) : Calls Try.prog 45 #[.int .i64 a, .int .i64 b] w fun e w' => e = .returned (.int .i64 (vpart a b)) ∧ Below w.heap.size w w' := fix_Part.calls a b _ w (fix_Part_eq a b)
theorem zo_div (a b : Int) (w : World) : Calls Try.prog 43 #[.int .i64 a, .int .i64 b] w fun e w' => e = .returned (.int .i64 (vdivd a b)) ∧ Below w.heap.size w w' := fix_Div.calls a b _ w (fix_Div_eq a b)
theorem zo_cut (a : Int) (w : World) : Calls Try.prog 35 #[.int .i64 a] w fun e w' => e = .returned (.int .i64 (vcut a)) ∧ Below w.heap.size w w' := fix_Cut.calls a _ w (fix_Cut_eq a)
theorem zo_clamp (n a b : Int) (w : World) : Calls Try.prog 47 #[.int .i64 n, .int .i64 a, .int .i64 b] w fun e w' => e = .returned (.int .i64 (vclamp n a b)) ∧ Below w.heap.size w w' := fix_Clamp.calls n a b _ w (fix_Clamp_eq n a b)
theorem zo_mul (a b : Int) (w : World) : Calls Try.prog 41 #[.int .i64 a, .int .i64 b] w fun e w' => e = .returned (.int .i64 (vmul a b)) ∧ Below w.heap.size w w' := fix_Mul.calls 5 a b _ w (fix_Mul_eq 5 (by omega) a b)
theorem zo_works (w : World) : Calls Try.prog 34 #[] w fun e w' => e = .returned (.bool true) ∧ Below w.heap.size w w' := valancelaw01_works.calls 9 _ w (works01_eq 9 (by omega))
theorem zo_mul_comm (a b : Int) : vmul a b = vmul b a := by unfold vmul; rw [Int.mul_comm]
theorem zo_add_comm (a b : Int) : vadd a b = vadd b a := by unfold vadd; rw [Int.add_comm]
theorem zo_part_mono {a b : Int} (n : Int) (h : a ≤ b) : vpart a n ≤ vpart b n := by
  unfold vpart
  apply vcut_mono
  apply Int.ediv_le_ediv (by omega)
  exact Int.mul_le_mul_of_nonneg_right (vcut_mono h) (parts_bd n).1
theorem zo_div_mono {a b : Int} (n : Int) (h : a ≤ b) : vdivd a n ≤ vdivd b n := by
  unfold vdivd
  split
  · omega
  · apply Int.ediv_le_ediv
    · unfold vcut; (repeat' split) <;> omega
    · exact vcut_mono h
theorem zo_below {w W w1 : World} (h : Aside0 (Below w.heap.size w W)) (k : Below W.heap.size W w1) : Aside0 (Below w.heap.size w w1) := ⟨below_step h.out k⟩
set_option maxHeartbeats 2000000 in
theorem valancelaw01_FixOrder.walk (P : valancelaw01_FixOrder.Pure) (a b c n : Int) (w : World) (w0 : (Lit.int .i64 a).wf = true) (w1 : (Lit.int .i64 b).wf = true) (w2 : (Lit.int .i64 c).wf = true) (w3 : (Lit.int .i64 n).wf = true) :
    Calls Try.prog 11 #[.int .i64 a, .int .i64 b, .int .i64 c, .int .i64 n] w fun e w' => e = .returned (.bool true) ∧ Below w.heap.size w w' := by
  have HB := Aside0.mk (Below.refl w.heap.size w)
  clear w0 w1 w2 w3 P
  by_cases h : b < a
  · go_enter Try.func11, Try.ntmps11
    go_wp2_with (go_at_call 34; refine (zo_works _).mono ?_; rintro e w1 ⟨rfl, hb⟩; replace HB := zo_below HB hb; clear hb)
    go_ret
    exact ⟨rfl, HB.out⟩
  · have hab : a ≤ b := by omega
    have m := vcut_mono hab
    have ba := vcut_bd a
    have bb := vcut_bd b
    have bn := vcut_bd n
    have x1 : vcut a ≤ vclamp n a b := by unfold vclamp mx mn; (repeat' split) <;> omega
    have x2 : vclamp n a b ≤ vcut b := by unfold vclamp mx mn; (repeat' split) <;> omega
    have x3 : vclamp (vclamp n a b) a b = vclamp n a b := by
      generalize vclamp n a b = x at x1 x2
      unfold vclamp
      rw [vcut_id (n := x) (by omega) (by omega)]
      unfold mx mn; (repeat' split) <;> omega
    have a1 : vadd a c ≤ vadd b c := by unfold vadd; apply vcut_mono; omega
    have a2 : vsub c b ≤ vsub c a := by unfold vsub; apply vcut_mono; omega
    have a3 := zo_part_mono n hab
    have a4 := zo_div_mono n hab
    have a5 : (vclamp (vclamp n a b) a b == vclamp n a b) = true := by rw [x3]; simp
    have a6 : (vadd a b == vadd b a) = true := by rw [zo_add_comm]; simp
    have a7 : (vmul a b == vmul b a) = true := by rw [zo_mul_comm]; simp
    clear ba bb bn m x3
    go_enter Try.func11, Try.ntmps11
    go_wp2_with (first | (go_at_call 34; refine (zo_works _).mono ?_; rintro e w1 ⟨rfl, hb⟩; replace HB := zo_below HB hb; clear hb) | (go_at_call 47; refine (zo_clamp _ _ _ _).mono ?_; rintro e w1 ⟨rfl, hb⟩; replace HB := zo_below HB hb; clear hb) | (go_at_call 37; refine (zo_add _ _ _).mono ?_; rintro e w1 ⟨rfl, hb⟩; replace HB := zo_below HB hb; clear hb) | (go_at_call 39; refine (zo_sub _ _ _).mono ?_; rintro e w1 ⟨rfl, hb⟩; replace HB := zo_below HB hb; clear hb) | (go_at_call 45; refine (zo_part _ _ _).mono ?_; rintro e w1 ⟨rfl, hb⟩; replace HB := zo_below HB hb; clear hb) | (go_at_call 43; refine (zo_div _ _ _).mono ?_; rintro e w1 ⟨rfl, hb⟩; replace HB := zo_below HB hb; clear hb) | (go_at_call 35; refine (zo_cut _ _).mono ?_; rintro e w1 ⟨rfl, hb⟩; replace HB := zo_below HB hb; clear hb) | (go_at_call 41; refine (zo_mul _ _ _).mono ?_; rintro e w1 ⟨rfl, hb⟩; replace HB := zo_below HB hb; clear hb))
    go_ret
    exact ⟨rfl, HB.out⟩

end Go.Proofs.Ytcadddijlgcnbaa.V
