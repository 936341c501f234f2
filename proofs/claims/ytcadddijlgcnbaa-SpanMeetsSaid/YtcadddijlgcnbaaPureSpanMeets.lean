/- The law SpanMeets of layer 3 holds of the printed functions, for all spans and whole numbers of 64 bits. -/
import Derived.Test.YtcadddijlgcnbaaVx2
import Derived.Test.YtcadddijlgcnbaaVx4
import Derived.Test.YtcadddijlgcnbaaVx5
import Derived.Test.YtcadddijlgcnbaaVx6
import Derived.Test.YtcadddijlgcnbaaVx11
import Derived.Test.YtcadddijlgcnbaaVx22
set_option linter.unusedVariables false
set_option linter.unusedSimpArgs false
namespace Go.Proofs.Ytcadddijlgcnbaa.Pure
open Go.RowKit Go.Proofs.Ytcadddijlgcnbaa.V Go.Proofs.YtcadddijlgcnbaaW.PrintWords Go.Proofs.YtcadddijlgcnbaaW.PrintLast Go.Proofs.YtcadddijlgcnbaaW.PrintMore

theorem meet_comm (a b c d : Int) : vmeet c d a b = vmeet a b c d := by
  have e1 : mx c a = mx a c := by unfold mx; (repeat' split) <;> omega
  have e2 : mn d b = mn b d := by unfold mn; (repeat' split) <;> omega
  unfold vmeet; rw [e1, e2]
theorem join_comm (a b c d : Int) : vjoin c d a b = vjoin a b c d := by
  have e1 : mn c a = mn a c := by unfold mn; (repeat' split) <;> omega
  have e2 : mx d b = mx b d := by unfold mx; (repeat' split) <;> omega
  unfold vjoin; rw [e1, e2]
  by_cases h1 : b ≤ a <;> by_cases h2 : d ≤ c <;> simp only [h1, h2, if_true, if_false]
theorem mx_bd (a b : Int) : a ≤ mx a b ∧ b ≤ mx a b ∧ (mx a b = a ∨ mx a b = b) := by unfold mx; split <;> omega
theorem mn_bd (a b : Int) : mn a b ≤ a ∧ mn a b ≤ b ∧ (mn a b = a ∨ mn a b = b) := by unfold mn; split <;> omega
theorem pair_eq {a b c d : Int} (h1 : a = c) (h2 : b = d) : (a, b) = (c, d) := by rw [h1, h2]
theorem mn_assoc (a b c : Int) : mn (mn a b) c = mn a (mn b c) := by unfold mn; (repeat' split) <;> omega
theorem mx_assoc (a b c : Int) : mx (mx a b) c = mx a (mx b c) := by unfold mx; (repeat' split) <;> omega
theorem meet_none {a b c d : Int} (h : mn b d ≤ mx a c) : vmeet a b c d = (0, 0) := by unfold vmeet; rw [if_pos h]
theorem meet_some {a b c d : Int} (h : ¬ mn b d ≤ mx a c) : vmeet a b c d = (mx a c, mn b d) := by unfold vmeet; rw [if_neg h]
theorem zero_left (e f : Int) : mn 0 f ≤ mx 0 e := by have := mx_bd 0 e; have := mn_bd 0 f; omega
theorem zero_right (e f : Int) : mn f 0 ≤ mx e 0 := by have := mx_bd e 0; have := mn_bd f 0; omega
theorem meet_assoc (a b c d e f : Int) : vmeet (vmeet a b c d).1 (vmeet a b c d).2 e f = vmeet a b (vmeet c d e f).1 (vmeet c d e f).2 := by
  by_cases h1 : mn b d ≤ mx a c <;> by_cases h2 : mn d f ≤ mx c e
  · rw [meet_none h1, meet_none h2]; rw [meet_none (zero_left e f), meet_none (zero_right a b)]
  · rw [meet_none h1, meet_some h2]; rw [meet_none (zero_left e f)]
    have p5 := mx_bd (mx a c) e
    have p6 := mn_bd (mn b d) f
    rw [meet_none]
    rw [← mn_assoc, ← mx_assoc]; omega
  · rw [meet_some h1, meet_none h2]; rw [meet_none (zero_right a b)]
    have p5 := mx_bd a (mx c e)
    have p6 := mn_bd b (mn d f)
    rw [meet_none]
    rw [mn_assoc, mx_assoc]; omega
  · rw [meet_some h1, meet_some h2]
    unfold vmeet
    simp only [mn_assoc, mx_assoc]
theorem join_full {a b c d : Int} (h1 : ¬ b ≤ a) (h2 : ¬ d ≤ c) : vjoin a b c d = (mn a c, mx b d) := by unfold vjoin; rw [if_neg h1, if_neg h2]
theorem join_left {a b c d : Int} (h1 : ¬ b ≤ a) (h2 : d ≤ c) : vjoin a b c d = (a, b) := by unfold vjoin; rw [if_neg h1, if_pos h2]
theorem join_right {a b c d : Int} (h1 : b ≤ a) (h2 : ¬ d ≤ c) : vjoin a b c d = (c, d) := by unfold vjoin; rw [if_pos h1, if_neg h2]
theorem join_none {a b c d : Int} (h1 : b ≤ a) (h2 : d ≤ c) : vjoin a b c d = (0, 0) := by unfold vjoin; rw [if_pos h1, if_pos h2]
theorem join_assoc (a b c d e f : Int) : vjoin (vjoin a b c d).1 (vjoin a b c d).2 e f = vjoin a b (vjoin c d e f).1 (vjoin c d e f).2 := by
  have z : (0 : Int) ≤ 0 := Int.le_refl 0
  by_cases h1 : b ≤ a <;> by_cases h2 : d ≤ c <;> by_cases h3 : f ≤ e
  · simp only [join_none h1 h2, join_none h2 h3, join_none z h3, join_none h1 z]
  · simp only [join_none h1 h2, join_right h2 h3, join_right z h3, join_right h1 h3]
  · simp only [join_right h1 h2, join_left h2 h3, join_right h1 h2]
  · have p1 := mn_bd c e
    have p2 := mx_bd d f
    simp only [join_right h1 h2, join_full h2 h3]
    rw [join_right h1 (by omega)]
  · simp only [join_left h1 h2, join_none h2 h3, join_left h1 h3, join_left h1 z]
  · simp only [join_left h1 h2, join_right h2 h3]
  · have p1 := mn_bd a c
    have p2 := mx_bd b d
    simp only [join_full h1 h2, join_left h2 h3]
    rw [join_left (by omega) h3]
  · have p1 := mn_bd c e
    have p2 := mx_bd d f
    have p3 := mn_bd a c
    have p4 := mx_bd b d
    simp only [join_full h1 h2, join_full h2 h3]
    rw [join_full (by omega) h3, join_full h1 (by omega), mn_assoc, mx_assoc]
theorem in_meet (a b c d : Int) : vin (vmeet a b c d).1 (vmeet a b c d).2 a b = true := by
  have p1 := mx_bd a c
  have p2 := mn_bd b d
  unfold vmeet vin
  split
  · simp
  · simp; omega
theorem in_join (a b c d : Int) : vin a b (vjoin a b c d).1 (vjoin a b c d).2 = true := by
  have p1 := mn_bd a c
  have p2 := mx_bd b d
  unfold vjoin vin
  (repeat' split) <;> simp <;> omega
theorem has_meet (a b c d n : Int) : vhas (vmeet a b c d).1 (vmeet a b c d).2 n = (vhas a b n && vhas c d n) := by
  have p1 := mx_bd a c
  have p2 := mn_bd b d
  rw [Bool.eq_iff_iff]
  unfold vmeet vhas
  split <;> simp <;> omega
theorem has_join (a b c d n : Int) (h : vhas a b n = true) : vhas (vjoin a b c d).1 (vjoin a b c d).2 n = true := by
  have p1 := mn_bd a c
  have p2 := mx_bd b d
  unfold vhas at h
  simp at h
  unfold vjoin vhas
  (repeat' split) <;> simp <;> omega
theorem SpanMeets : valancelaw03_SpanMeets.Pure := by
  intro a b c d e f n _ _ _ _ _ _ _
  refine ⟨9, ?_⟩
  unfold valancelaw03_SpanMeets.f
  simp only [works03_eq, span_Meet_eq, span_Join_eq, Option.bind_some, if_true]
  rw [meet_comm a b c d, join_comm a b c d, ← meet_assoc, ← join_assoc]
  simp only [beq_self_eq_true, Bool.and_self, if_true, valancelaw03_SpanMeets.j0, span_In_eq, span_Has_eq, Option.bind_some]
  have i1 := in_meet a b c d
  have i2 : vin (vmeet a b c d).1 (vmeet a b c d).2 c d = true := by rw [← meet_comm]; exact in_meet c d a b
  have i3 := in_join a b c d
  have i4 : vin c d (vjoin a b c d).1 (vjoin a b c d).2 = true := by rw [← join_comm]; exact in_join c d a b
  rw [i1, i2, i3, i4, has_meet]
  simp only [if_true]
  by_cases h1 : vhas a b n = true
  · simp only [h1, has_join a b c d n h1, Bool.true_and, beq_self_eq_true, if_true]
  · simp only [Bool.not_eq_true] at h1
    simp [h1]

end Go.Proofs.Ytcadddijlgcnbaa.Pure
