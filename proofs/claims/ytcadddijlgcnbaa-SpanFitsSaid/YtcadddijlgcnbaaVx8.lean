/- What the functions of this seat answer, as plain Lean functions, and that the calls come to just that (written by a program of this repo, over the kit's printer; Lean checks it). -/
import Derived.Test.YtcadddijlgcnbaaVx0
import Derived.Test.YtcadddijlgcnbaaVx2
import Derived.Test.YtcadddijlgcnbaaVx3
import Derived.Test.YtcadddijlgcnbaaVx4
import Derived.Test.YtcadddijlgcnbaaVx7
namespace Go.Proofs.Ytcadddijlgcnbaa.V
open Go.RowKit Go.Proofs.YtcadddijlgcnbaaW.PrintWords Go.Proofs.YtcadddijlgcnbaaW.PrintLast Go.Proofs.YtcadddijlgcnbaaW.PrintMore
attribute [local go_sem] max2_int min2_int max_two min_two max_three min_three max_four min_four   -- for this text's walks alone
set_option linter.unusedVariables false
set_option linter.unusedSimpArgs false


theorem span_Move_eq (a b n : Int) : span_Move.f a b n = some (vadd a n, vadd b n) := by
  unfold span_Move.f; simp only [fix_Add_eq, Option.bind_some]

/-! ### span_Fit: function 30 -/
theorem zf_size (lo hi : Int) (w : World) : Calls Try.prog 18 #[.agg #[.int .i64 lo, .int .i64 hi]] w fun e w' => e = .returned (.int .i64 (vsize lo hi)) ∧ Below w.heap.size w w' := span_Size.calls lo hi _ w (by unfold span_Size.f vsize; rw [fix_Sub_eq]; rfl)
theorem zf_sub (a b : Int) (w : World) : Calls Try.prog 39 #[.int .i64 a, .int .i64 b] w fun e w' => e = .returned (.int .i64 (vsub a b)) ∧ Below w.heap.size w w' := fix_Sub.calls a b _ w (fix_Sub_eq a b)
def FitS (lo hi ilo ihi : Int) (w w' : World) : Prop := w'.cell? ⟨w.heap.size, 0, none⟩ = some (.int .i64 lo) ∧ w'.cell? ⟨w.heap.size, 1, none⟩ = some (.int .i64 hi) ∧ w'.cell? ⟨w.heap.size + 1, 0, none⟩ = some (.int .i64 ilo) ∧ w'.cell? ⟨w.heap.size + 1, 1, none⟩ = some (.int .i64 ihi) ∧ Below w.heap.size w w'
theorem FitS.below {lo hi ilo ihi : Int} {w W W1 : World} (h : FitS lo hi ilo ihi w W) (hb : Below W.heap.size W W1) : FitS lo hi ilo ihi w W1 := ⟨pw_cell_below hb h.1, pw_cell_below hb h.2.1, pw_cell_below hb h.2.2.1, pw_cell_below hb h.2.2.2.1, below_step h.2.2.2.2 hb⟩
theorem FitS.start (lo hi ilo ihi : Int) (w : World) : FitS lo hi ilo ihi w ((w.alloc (.cells #[.int .i64 lo, .int .i64 hi] 23)).alloc (.cells #[.int .i64 ilo, .int .i64 ihi] 23)) := by
  have B0 := blk_alloc (blk_new w (.cells #[.int .i64 lo, .int .i64 hi] 23)) (.cells #[.int .i64 ilo, .int .i64 ihi] 23)
  have B1 : ((w.alloc (.cells #[.int .i64 lo, .int .i64 hi] 23)).alloc (.cells #[.int .i64 ilo, .int .i64 ihi] 23)).heap[w.heap.size + 1]? = some (.cells #[.int .i64 ilo, .int .i64 ihi] 23 (0, 0)) := by
    have := blk_new (w.alloc (.cells #[.int .i64 lo, .int .i64 hi] 23)) (.cells #[.int .i64 ilo, .int .i64 ihi] 23)
    simpa using this
  exact ⟨(blk_cell B0 0).trans rfl, (blk_cell B0 1).trans rfl, (blk_cell B1 0).trans rfl, (blk_cell B1 1).trans rfl, below_alloc (below_alloc (Below.refl _ _) _) _⟩
def FitJ (lo hi ilo ihi : Int) (w : World) (a' : Act) (w' : World) : Prop :=
  ∃ u6 u7 u8 u9 u10 u11 u12 u13 u14 u15 u16 u17 u18 u19 u20 u21 : Value, a' = { tmps := #[.agg #[.int .i64 lo, .int .i64 hi], .agg #[.int .i64 ilo, .int .i64 ihi], .pointer (some ⟨w.heap.size, 0, none⟩), .pointer (some ⟨w.heap.size + 1, 0, none⟩), .int .i64 0, .int .i64 0, u6, u7, u8, u9, u10, u11, u12, u13, u14, u15, u16, u17, u18, u19, u20, u21, undef, undef, undef, undef, undef, undef, undef, undef, undef, undef, undef], defers := [] } ∧
    FitS lo hi ilo ihi w w'
set_option maxHeartbeats 400000 in
theorem zf_fit (lo hi ilo ihi : Int) (w : World) : Calls Try.prog 30 #[.agg #[.int .i64 lo, .int .i64 hi], .agg #[.int .i64 ilo, .int .i64 ihi]] w fun e w' => e = .returned (.int .i64 (vfit lo hi ilo ihi)) ∧ Below w.heap.size w w' := by
  have hu23 := Try.underlying23
  have HS := Aside0.mk (FitS.start lo hi ilo ihi w)
  by_cases h1 : lo < ilo
  · have hv : vfit lo hi ilo ihi = vsub ilo lo := by unfold vfit; rw [if_pos h1]
    rw [hv]; clear hv
    go_enter Try.func30, Try.ntmps30
    go_wp2
    refine wp_scope_jumps 0 (FitJ lo hi ilo ihi w) (fun _ _ => 0) rfl ?_ ?_
    · go_wp2
      go_step3
      exact ⟨rfl, _, _, _, _, _, _, _, _, _, _, _, _, _, _, _, _, rfl, HS.out⟩
    · rintro a' W ⟨u6, u7, u8, u9, u10, u11, u12, u13, u14, u15, u16, u17, u18, u19, u20, u21, rfl, c0, c1, c2, c3, hb⟩
      have HB := Aside0.mk hb
      clear hb
      go_wp2_with (go_at_call 39; refine (zf_sub _ _ _).mono ?_; rintro e w1 ⟨rfl, hb⟩; replace HB := Aside0.mk (below_step HB.out hb); clear hb)
      simp only [Exit.jump]
      go_ret
      exact ⟨rfl, HB.out⟩
  · by_cases h2 : hi ≤ ihi
    · have hv : vfit lo hi ilo ihi = 0 := by unfold vfit; rw [if_neg h1, if_pos h2]
      rw [hv]; clear hv
      have HBW := Aside0.mk HS.out.2.2.2.2
      go_enter Try.func30, Try.ntmps30
      go_wp2
      go_step3
      go_wp2
      rw [Exit.noGoto_ret]
      go_ret
      exact ⟨rfl, HBW.out⟩
    · by_cases h3 : vsize ilo ihi < vsize lo hi
      · have hv : vfit lo hi ilo ihi = vsub ilo lo := by unfold vfit; rw [if_neg h1, if_neg h2, if_pos h3]
        rw [hv]; clear hv
        go_enter Try.func30, Try.ntmps30
        go_wp2
        refine wp_scope_jumps 0 (FitJ lo hi ilo ihi w) (fun _ _ => 0) rfl ?_ ?_
        · go_wp2
          have hS0 := HS.out
          unfold FitS at hS0
          go_region_held3 (fun w' => w'.cell? ⟨w.heap.size, 0, none⟩ = some (.int .i64 lo) ∧ w'.cell? ⟨w.heap.size, 1, none⟩ = some (.int .i64 hi) ∧ w'.cell? ⟨w.heap.size + 1, 0, none⟩ = some (.int .i64 ilo) ∧ w'.cell? ⟨w.heap.size + 1, 1, none⟩ = some (.int .i64 ihi) ∧ Below w.heap.size w w') ((first | exact FitS.below hS0 (below_drew (Below.refl _ _)) | (refine FitS.below ?_ hb; assumption))) ((go_at_call 18; refine (zf_size _ _ _).mono ?_; rintro e w1 ⟨rfl, hb⟩))
          have hS1 : FitS lo hi ilo ihi w w1 := by assumption
          have HS1 := Aside0.mk hS1
          clear hS1 hS0
          go_wp2
          go_step3
          exact ⟨rfl, _, _, _, _, _, _, _, _, _, _, _, _, _, _, _, _, rfl, HS1.out⟩
        · rintro a' W ⟨u6, u7, u8, u9, u10, u11, u12, u13, u14, u15, u16, u17, u18, u19, u20, u21, rfl, c0, c1, c2, c3, hb⟩
          have HB := Aside0.mk hb
          clear hb
          go_wp2_with (go_at_call 39; refine (zf_sub _ _ _).mono ?_; rintro e w1 ⟨rfl, hb⟩; replace HB := Aside0.mk (below_step HB.out hb); clear hb)
          simp only [Exit.jump]
          go_ret
          exact ⟨rfl, HB.out⟩
      · have hv : vfit lo hi ilo ihi = vsub ihi hi := by unfold vfit; rw [if_neg h1, if_neg h2, if_neg h3]
        rw [hv]; clear hv
        go_enter Try.func30, Try.ntmps30
        go_wp2
        go_step3
        go_wp2
        have hS0 := HS.out
        unfold FitS at hS0
        go_region_held3 (fun w' => w'.cell? ⟨w.heap.size, 0, none⟩ = some (.int .i64 lo) ∧ w'.cell? ⟨w.heap.size, 1, none⟩ = some (.int .i64 hi) ∧ w'.cell? ⟨w.heap.size + 1, 0, none⟩ = some (.int .i64 ilo) ∧ w'.cell? ⟨w.heap.size + 1, 1, none⟩ = some (.int .i64 ihi) ∧ Below w.heap.size w w') ((first | exact FitS.below hS0 (below_drew (Below.refl _ _)) | (refine FitS.below ?_ hb; assumption))) ((go_at_call 18; refine (zf_size _ _ _).mono ?_; rintro e w1 ⟨rfl, hb⟩))
        have hS1 : FitS lo hi ilo ihi w w1 := by assumption
        obtain ⟨c0, c1, c2, c3, hb⟩ := hS1
        have HB := Aside0.mk hb
        clear hb hS0
        go_wp2_with (go_at_call 39; refine (zf_sub _ _ _).mono ?_; rintro e w1 ⟨rfl, hb⟩; replace HB := Aside0.mk (below_step HB.out hb); clear hb)
        rw [Exit.noGoto_ret]
        go_ret
        exact ⟨rfl, HB.out⟩
def span_Fit.f (a0 a1 b0 b1 : Int) : Option Int := some (vfit a0 a1 b0 b1)
theorem span_Fit.calls (a0 a1 b0 b1 r : Int) (w : World) (h : span_Fit.f a0 a1 b0 b1 = some r) :
    Calls Try.prog 30 #[.agg #[.int .i64 a0, .int .i64 a1], .agg #[.int .i64 b0, .int .i64 b1]] w fun e w' => e = .returned (.int .i64 r) ∧ Below w.heap.size w w' := by
  obtain rfl := Option.some.inj h
  exact zf_fit a0 a1 b0 b1 w

end Go.Proofs.Ytcadddijlgcnbaa.V
