/- What the functions of this seat answer, as plain Lean functions, and that the calls come to just that (written by a program of this repo, over the kit's printer; Lean checks it). -/
import Derived.Test.YtnmcefpnpfaklacVx0
import Derived.Test.YtnmcefpnpfaklacVx7
import Derived.Test.YtnmcefpnpfaklacVx8
import Derived.Test.YtnmcefpnpfaklacVx25
import Derived.Test.YtnmcefpnpfaklacVx26
namespace Go.Proofs.Ytnmcefpnpfaklac.V
open Go.RowKit Go.Proofs.YtnmcefpnpfaklacW.PrintWords Go.Proofs.YtnmcefpnpfaklacW.PrintLast Go.Proofs.YtnmcefpnpfaklacW.PrintMore
attribute [local go_sem] max2_int min2_int max_two min_two max_three min_three max_four min_four   -- for this text's walks alone
set_option linter.unusedVariables false
set_option linter.unusedSimpArgs false

/-! ### valanceref06_Auto: function 28 -/
mutual
def valanceref06_Auto.j0 : Nat → Int → Int → Int → Bool → Bool → Bool → Option (Int × Int)
  | 0, _, _, _, _, _, _ => none
  | k + 1, x12, x13, x14, x15, x16, x44 => if x44 = true then (some (x12, x13)) else (if x15 = true then (valanceref06_Auto.j1 k x12 x13 x14 x15 false) else (valanceref06_Auto.j1 k x12 x13 x14 x15 x16))
def valanceref06_Auto.j1 : Nat → Int → Int → Int → Bool → Bool → Option (Int × Int)
  | 0, _, _, _, _, _ => none
  | k + 1, x12, x13, x14, x15, x51 => if x51 = true then (some (x14, x13)) else (if x15 = true then (some (x12, x14)) else ((valanceref01_Div.f x14 2).bind fun t247 => (some (t247, wrap64 (x14 - t247)))))
end
def valanceref06_Auto.f (k : Nat) (a0 : Int) (a1 : Int) (a2_0 : Int) (a2_1 : Int) (a3_0 : Int) (a3_1 : Int) (a4 : Int) : Option (Int × Int) := (valanceref05_Of.f k a2_0 a2_1 a4 0).bind fun t240 => ((valanceref05_Of.f k a3_0 a3_1 a4 0).bind fun t241 => ((valanceref01_Sub.f a0 a1).bind fun t242 => ((valanceref01_Sub.f t242 t240).bind fun t243 => ((valanceref01_Sub.f t243 t241).bind fun t244 => ((valanceref05_Fixed.f a2_0 a2_1 a4).bind fun t245 => ((valanceref05_Fixed.f a3_0 a3_1 a4).bind fun t246 => (if t244 ≤ 0 then (valanceref06_Auto.j0 k t240 t241 t244 t245 t246 true) else (if t245 = true then (valanceref06_Auto.j0 k t240 t241 t244 t245 t246 t246) else (valanceref06_Auto.j0 k t240 t241 t244 t245 t246 false)))))))))
theorem valanceref06_Auto.mono_l : ∀ k, (∀ y0 y1 y2 y3 y4 y5, LeO (valanceref06_Auto.j0 k y0 y1 y2 y3 y4 y5) (valanceref06_Auto.j0 (k + 1) y0 y1 y2 y3 y4 y5)) ∧ (∀ y0 y1 y2 y3 y4, LeO (valanceref06_Auto.j1 k y0 y1 y2 y3 y4) (valanceref06_Auto.j1 (k + 1) y0 y1 y2 y3 y4))
  | 0 => ⟨fun _ _ _ _ _ _ r h => by simp [valanceref06_Auto.j0] at h, fun _ _ _ _ _ r h => by simp [valanceref06_Auto.j1] at h⟩
  | k + 1 => by
    obtain ⟨ih0, ih1⟩ := valanceref06_Auto.mono_l k
    refine ⟨?_, ?_⟩
    · intro y0 y1 y2 y3 y4 y5
      unfold valanceref06_Auto.j0
      repeat' first
      | (with_reducible exact ih0 _ _ _ _ _ _)
      | (with_reducible exact ih1 _ _ _ _ _)
      | (with_reducible exact valanceref05_Of.mono _ _ _ _ _)
      | (with_reducible exact LeO.refl _)
      | (with_reducible exact LeO.none _)
      | (with_reducible refine LeO.ite ?_ ?_)
      | (with_reducible refine LeO.bind ?_ (fun _ => ?_))
      | exact ih0 _ _ _ _ _ _
      | exact ih1 _ _ _ _ _
      | exact valanceref05_Of.mono _ _ _ _ _
      | exact LeO.none _
      | refine LeO.ite ?_ ?_
      | refine LeO.bind ?_ (fun _ => ?_)
    · intro y0 y1 y2 y3 y4
      unfold valanceref06_Auto.j1
      repeat' first
      | (with_reducible exact ih0 _ _ _ _ _ _)
      | (with_reducible exact ih1 _ _ _ _ _)
      | (with_reducible exact valanceref05_Of.mono _ _ _ _ _)
      | (with_reducible exact LeO.refl _)
      | (with_reducible exact LeO.none _)
      | (with_reducible refine LeO.ite ?_ ?_)
      | (with_reducible refine LeO.bind ?_ (fun _ => ?_))
      | exact ih0 _ _ _ _ _ _
      | exact ih1 _ _ _ _ _
      | exact valanceref05_Of.mono _ _ _ _ _
      | exact LeO.none _
      | refine LeO.ite ?_ ?_
      | refine LeO.bind ?_ (fun _ => ?_)
theorem valanceref06_Auto.mono : ∀ a0 a1 a2 a3 a4 a5 a6 k, LeO (valanceref06_Auto.f k a0 a1 a2 a3 a4 a5 a6) (valanceref06_Auto.f (k + 1) a0 a1 a2 a3 a4 a5 a6) := by
  intro a0 a1 a2 a3 a4 a5 a6 k
  obtain ⟨ih0, ih1⟩ := valanceref06_Auto.mono_l k
  unfold valanceref06_Auto.f
  repeat' first
      | (with_reducible exact ih0 _ _ _ _ _ _)
      | (with_reducible exact ih1 _ _ _ _ _)
      | (with_reducible exact valanceref05_Of.mono _ _ _ _ _)
      | (with_reducible exact LeO.refl _)
      | (with_reducible exact LeO.none _)
      | (with_reducible refine LeO.ite ?_ ?_)
      | (with_reducible refine LeO.bind ?_ (fun _ => ?_))
      | exact ih0 _ _ _ _ _ _
      | exact ih1 _ _ _ _ _
      | exact valanceref05_Of.mono _ _ _ _ _
      | exact LeO.none _
      | refine LeO.ite ?_ ?_
      | refine LeO.bind ?_ (fun _ => ?_)
set_option maxHeartbeats 8000000 in
set_option maxRecDepth 100000 in
theorem valanceref06_Auto.calls (k : Nat) (a0 : Int) (a1 : Int) (a2_0 : Int) (a2_1 : Int) (a3_0 : Int) (a3_1 : Int) (a4 : Int) (r1 : Int) (r2 : Int) (w : World) (h : valanceref06_Auto.f k a0 a1 a2_0 a2_1 a3_0 a3_1 a4 = some (r1, r2)) :
    Calls Try.prog 28 #[.int .i64 a0, .int .i64 a1, .agg #[.int .i64 a2_0, .int .i64 a2_1], .agg #[.int .i64 a3_0, .int .i64 a3_1], .int .i64 a4] w fun e w' => e = .returned (.tuple #[.int .i64 r1, .int .i64 r2]) ∧ Below w.heap.size w w' := by
  have hu51 := Try.underlying51
  have HB := Aside0.mk (Below.refl w.heap.size w)
  have H : ((valanceref05_Of.f k a2_0 a2_1 a4 0).bind fun t240 => ((valanceref05_Of.f k a3_0 a3_1 a4 0).bind fun t241 => ((valanceref01_Sub.f a0 a1).bind fun t242 => ((valanceref01_Sub.f t242 t240).bind fun t243 => ((valanceref01_Sub.f t243 t241).bind fun t244 => ((valanceref05_Fixed.f a2_0 a2_1 a4).bind fun t245 => ((valanceref05_Fixed.f a3_0 a3_1 a4).bind fun t246 => (if t244 ≤ 0 then (valanceref06_Auto.j0 k t240 t241 t244 t245 t246 true) else (if t245 = true then (valanceref06_Auto.j0 k t240 t241 t244 t245 t246 t246) else (valanceref06_Auto.j0 k t240 t241 t244 t245 t246 false)))))))))) = some (r1, r2) := h
  clear h
  replace H := Option.bind_eq_some_iff.mp H
  obtain ⟨t240, A60, H⟩ := H
  replace H : ((valanceref05_Of.f k a3_0 a3_1 a4 0).bind fun t241 => ((valanceref01_Sub.f a0 a1).bind fun t242 => ((valanceref01_Sub.f t242 t240).bind fun t243 => ((valanceref01_Sub.f t243 t241).bind fun t244 => ((valanceref05_Fixed.f a2_0 a2_1 a4).bind fun t245 => ((valanceref05_Fixed.f a3_0 a3_1 a4).bind fun t246 => (if t244 ≤ 0 then (valanceref06_Auto.j0 k t240 t241 t244 t245 t246 true) else (if t245 = true then (valanceref06_Auto.j0 k t240 t241 t244 t245 t246 t246) else (valanceref06_Auto.j0 k t240 t241 t244 t245 t246 false))))))))) = some (r1, r2) := H
  have A6 := Aside0.mk A60
  clear A60
  replace H := Option.bind_eq_some_iff.mp H
  obtain ⟨t241, A70, H⟩ := H
  replace H : ((valanceref01_Sub.f a0 a1).bind fun t242 => ((valanceref01_Sub.f t242 t240).bind fun t243 => ((valanceref01_Sub.f t243 t241).bind fun t244 => ((valanceref05_Fixed.f a2_0 a2_1 a4).bind fun t245 => ((valanceref05_Fixed.f a3_0 a3_1 a4).bind fun t246 => (if t244 ≤ 0 then (valanceref06_Auto.j0 k t240 t241 t244 t245 t246 true) else (if t245 = true then (valanceref06_Auto.j0 k t240 t241 t244 t245 t246 t246) else (valanceref06_Auto.j0 k t240 t241 t244 t245 t246 false)))))))) = some (r1, r2) := H
  have A7 := Aside0.mk A70
  clear A70
  replace H := Option.bind_eq_some_iff.mp H
  obtain ⟨t242, A80, H⟩ := H
  replace H : ((valanceref01_Sub.f t242 t240).bind fun t243 => ((valanceref01_Sub.f t243 t241).bind fun t244 => ((valanceref05_Fixed.f a2_0 a2_1 a4).bind fun t245 => ((valanceref05_Fixed.f a3_0 a3_1 a4).bind fun t246 => (if t244 ≤ 0 then (valanceref06_Auto.j0 k t240 t241 t244 t245 t246 true) else (if t245 = true then (valanceref06_Auto.j0 k t240 t241 t244 t245 t246 t246) else (valanceref06_Auto.j0 k t240 t241 t244 t245 t246 false))))))) = some (r1, r2) := H
  have A8 := Aside0.mk A80
  clear A80
  replace H := Option.bind_eq_some_iff.mp H
  obtain ⟨t243, A90, H⟩ := H
  replace H : ((valanceref01_Sub.f t243 t241).bind fun t244 => ((valanceref05_Fixed.f a2_0 a2_1 a4).bind fun t245 => ((valanceref05_Fixed.f a3_0 a3_1 a4).bind fun t246 => (if t244 ≤ 0 then (valanceref06_Auto.j0 k t240 t241 t244 t245 t246 true) else (if t245 = true then (valanceref06_Auto.j0 k t240 t241 t244 t245 t246 t246) else (valanceref06_Auto.j0 k t240 t241 t244 t245 t246 false)))))) = some (r1, r2) := H
  have A9 := Aside0.mk A90
  clear A90
  replace H := Option.bind_eq_some_iff.mp H
  obtain ⟨t244, A100, H⟩ := H
  replace H : ((valanceref05_Fixed.f a2_0 a2_1 a4).bind fun t245 => ((valanceref05_Fixed.f a3_0 a3_1 a4).bind fun t246 => (if t244 ≤ 0 then (valanceref06_Auto.j0 k t240 t241 t244 t245 t246 true) else (if t245 = true then (valanceref06_Auto.j0 k t240 t241 t244 t245 t246 t246) else (valanceref06_Auto.j0 k t240 t241 t244 t245 t246 false))))) = some (r1, r2) := H
  have A10 := Aside0.mk A100
  clear A100
  replace H := Option.bind_eq_some_iff.mp H
  obtain ⟨t245, A110, H⟩ := H
  replace H : ((valanceref05_Fixed.f a3_0 a3_1 a4).bind fun t246 => (if t244 ≤ 0 then (valanceref06_Auto.j0 k t240 t241 t244 t245 t246 true) else (if t245 = true then (valanceref06_Auto.j0 k t240 t241 t244 t245 t246 t246) else (valanceref06_Auto.j0 k t240 t241 t244 t245 t246 false)))) = some (r1, r2) := H
  have A11 := Aside0.mk A110
  clear A110
  replace H := Option.bind_eq_some_iff.mp H
  obtain ⟨t246, A120, H⟩ := H
  replace H : (if t244 ≤ 0 then (valanceref06_Auto.j0 k t240 t241 t244 t245 t246 true) else (if t245 = true then (valanceref06_Auto.j0 k t240 t241 t244 t245 t246 t246) else (valanceref06_Auto.j0 k t240 t241 t244 t245 t246 false))) = some (r1, r2) := H
  have A12 := Aside0.mk A120
  clear A120
  have HC13 := Aside0.mk H
  clear H
  go_enter Try.func28, Try.ntmps28
  go_upto_region 6 with (first | ((with_reducible refine gate_dst (N := 7) rfl ?_); refine box_event ?hg (N := 7) ?hd (cs := #[.int .i64 a2_0, .int .i64 a2_1]) (t := 51) ?hr ?_; (case hd => rfl); (case hg => rfl); (case hr => first | (go_simp; done) | (go_simp; rfl)); intro gb238 hg w14 hbox hb; have n0_ := Aside0.mk (below_step (by repeat (first | (with_reducible first | exact HB.out | apply below_alloc | apply pw_below_drewN | apply below_drew1) | exact HB.out)) hb); have n1_ := Aside0.mk (hbox); have n2_ := Aside0.mk ((by rw [hg]; exact (below_size (by repeat (first | (with_reducible first | exact HB.out | apply below_alloc | apply pw_below_drewN | apply below_drew1) | exact HB.out))) : w.heap.size ≤ gb238)); have n3_ := Aside0.mk ((by rw [hg]; exact (below_size (by repeat (first | (with_reducible first | exact HB.out | apply below_alloc | apply pw_below_drewN | apply below_drew1) | exact HB.out))) : w.heap.size ≤ gb238)); clear HB; have HB := n0_; have BK238 := n1_; have GW238 := n2_; have GE238 := n3_; clear n0_ n1_ n2_ n3_; clear hb hbox hg) | ((with_reducible refine gate_dst (N := 8) rfl ?_); refine box_event ?hg (N := 8) ?hd (cs := #[.int .i64 a3_0, .int .i64 a3_1]) (t := 51) ?hr ?_; (case hd => rfl); (case hg => rfl); (case hr => first | (go_simp; done) | (go_simp; rfl)); intro gb239 hg w15 hbox hb; have n0_ := Aside0.mk (blk_below (g := gb238) (o := .cells #[.int .i64 a2_0, .int .i64 a2_1] 51 (0, 0)) (by (with_reducible repeat (first | refine blk_drewN ?_ _ | refine blk_drew ?_ | refine blk_alloc ?_ _)); exact BK238.out) hb); have n1_ := Aside0.mk (below_step (by repeat (first | (with_reducible first | exact HB.out | apply below_alloc | apply pw_below_drewN | apply below_drew1 | refine below_set ?_ GE238.out) | exact HB.out)) hb); have n2_ := Aside0.mk (hbox); have n3_ := Aside0.mk ((by rw [hg]; exact (below_size (by repeat (first | (with_reducible first | exact HB.out | apply below_alloc | apply pw_below_drewN | apply below_drew1 | refine below_set ?_ GE238.out) | exact HB.out))) : w.heap.size ≤ gb239)); have n4_ := Aside0.mk ((by rw [hg]; exact (below_size (by repeat (first | (with_reducible first | exact HB.out | apply below_alloc | apply pw_below_drewN | apply below_drew1 | refine below_set ?_ GE238.out) | exact HB.out))) : w.heap.size ≤ gb239)); have n5_ := Aside0.mk ((by rw [hg]; exact Nat.ne_of_lt (blk_lt (g := gb238) (o := .cells #[.int .i64 a2_0, .int .i64 a2_1] 51 (0, 0)) (by (with_reducible repeat (first | refine blk_drewN ?_ _ | refine blk_drew ?_ | refine blk_alloc ?_ _)); exact BK238.out)) : gb238 ≠ gb239)); have n6_ := Aside0.mk ((by rw [hg]; exact Nat.ne_of_gt (blk_lt (g := gb238) (o := .cells #[.int .i64 a2_0, .int .i64 a2_1] 51 (0, 0)) (by (with_reducible repeat (first | refine blk_drewN ?_ _ | refine blk_drew ?_ | refine blk_alloc ?_ _)); exact BK238.out)) : gb239 ≠ gb238)); clear BK238; clear HB; have BK238 := n0_; have HB := n1_; have BK239 := n2_; have GW239 := n3_; have GE239 := n4_; have NB238_239 := n5_; have NB239_238 := n6_; clear n0_ n1_ n2_ n3_ n4_ n5_ n6_; clear hb hbox hg; have hnb16 := NB238_239.out; have hnc16 := NB239_238.out; have hcz17_0 : w15.cell? ⟨gb238, 0, none⟩ = some (.int .i64 a2_0) := (blk_cell BK238.out 0).trans rfl; have hcz17_1 : w15.cell? ⟨gb238, 1, none⟩ = some (.int .i64 a2_1) := (blk_cell BK238.out 1).trans rfl; have hfz17_0 := blk_frozen BK238.out 0; have hfz17_1 := blk_frozen BK238.out 1) | ((with_reducible refine gate_callee (f := 50) rfl ?_); refine goesL_ (some 20) rfl rfl Try.func50 (by kernel_rfl) rfl #[.agg #[.int .i64 a2_0, .int .i64 a2_1], .int .i64 a4, .int .i64 0] rfl (by (try simp only [List.map_toArray, List.map_cons, List.map_nil]); first | done | rfl | (simp only [List.length_drop, List.length_take]; rfl)) ?_; (with_reducible refine (valanceref05_Of.calls k a2_0 a2_1 a4 0 t240 _ A6.out).mono ?_); rintro e w18 ⟨rfl, hb⟩; refine ⟨_, rfl, ?_⟩; have n0_ := Aside0.mk (blk_below (g := gb238) (o := .cells #[.int .i64 a2_0, .int .i64 a2_1] 51 (0, 0)) (by (with_reducible repeat (first | refine blk_drewN ?_ _ | refine blk_drew ?_ | refine blk_alloc ?_ _)); exact BK238.out) hb); have n1_ := Aside0.mk (blk_below (g := gb239) (o := .cells #[.int .i64 a3_0, .int .i64 a3_1] 51 (0, 0)) (by (with_reducible repeat (first | refine blk_drewN ?_ _ | refine blk_drew ?_ | refine blk_alloc ?_ _)); exact BK239.out) hb); have n2_ := Aside0.mk (below_step (by repeat (first | (with_reducible first | exact HB.out | apply below_alloc | apply pw_below_drewN | apply below_drew1 | refine below_set ?_ GE238.out | refine below_set ?_ GE239.out) | exact HB.out)) hb); clear BK238; clear BK239; clear HB; have BK238 := n0_; have BK239 := n1_; have HB := n2_; clear n0_ n1_ n2_; (try clear hb); (try clear hb2); (try clear hk); (try clear hi); have hcz19_0 : w18.cell? ⟨gb239, 0, none⟩ = some (.int .i64 a3_0) := (blk_cell BK239.out 0).trans rfl; have hcz19_1 : w18.cell? ⟨gb239, 1, none⟩ = some (.int .i64 a3_1) := (blk_cell BK239.out 1).trans rfl; have hfz19_0 := blk_frozen BK239.out 0; have hfz19_1 := blk_frozen BK239.out 1) | ((with_reducible refine gate_callee (f := 50) rfl ?_); refine goesL_ (some 23) rfl rfl Try.func50 (by kernel_rfl) rfl #[.agg #[.int .i64 a3_0, .int .i64 a3_1], .int .i64 a4, .int .i64 0] rfl (by (try simp only [List.map_toArray, List.map_cons, List.map_nil]); first | done | rfl | (simp only [List.length_drop, List.length_take]; rfl)) ?_; (with_reducible refine (valanceref05_Of.calls k a3_0 a3_1 a4 0 t241 _ A7.out).mono ?_); rintro e w20 ⟨rfl, hb⟩; refine ⟨_, rfl, ?_⟩; have n0_ := Aside0.mk (blk_below (g := gb238) (o := .cells #[.int .i64 a2_0, .int .i64 a2_1] 51 (0, 0)) (by (with_reducible repeat (first | refine blk_drewN ?_ _ | refine blk_drew ?_ | refine blk_alloc ?_ _)); exact BK238.out) hb); have n1_ := Aside0.mk (blk_below (g := gb239) (o := .cells #[.int .i64 a3_0, .int .i64 a3_1] 51 (0, 0)) (by (with_reducible repeat (first | refine blk_drewN ?_ _ | refine blk_drew ?_ | refine blk_alloc ?_ _)); exact BK239.out) hb); have n2_ := Aside0.mk (below_step (by repeat (first | (with_reducible first | exact HB.out | apply below_alloc | apply pw_below_drewN | apply below_drew1 | refine below_set ?_ GE238.out | refine below_set ?_ GE239.out) | exact HB.out)) hb); clear BK238; clear BK239; clear HB; have BK238 := n0_; have BK239 := n1_; have HB := n2_; clear n0_ n1_ n2_; (try clear hb); (try clear hb2); (try clear hk); (try clear hi)) | ((with_reducible refine gate_callee (f := 41) rfl ?_); refine goesL_ (some 26) rfl rfl Try.func41 (by kernel_rfl) rfl #[.int .i64 a0, .int .i64 a1] rfl (by (try simp only [List.map_toArray, List.map_cons, List.map_nil]); first | done | rfl | (simp only [List.length_drop, List.length_take]; rfl)) ?_; (with_reducible refine (valanceref01_Sub.calls a0 a1 t242 _ A8.out).mono ?_); rintro e w' ⟨rfl, ⟨nd, rfl⟩⟩; refine ⟨_, rfl, ?_⟩) | ((with_reducible refine gate_callee (f := 41) rfl ?_); refine goesL_ (some 28) rfl rfl Try.func41 (by kernel_rfl) rfl #[.int .i64 t242, .int .i64 t240] rfl (by (try simp only [List.map_toArray, List.map_cons, List.map_nil]); first | done | rfl | (simp only [List.length_drop, List.length_take]; rfl)) ?_; (with_reducible refine (valanceref01_Sub.calls t242 t240 t243 _ A9.out).mono ?_); rintro e w' ⟨rfl, ⟨nd, rfl⟩⟩; refine ⟨_, rfl, ?_⟩) | ((with_reducible refine gate_callee (f := 41) rfl ?_); refine goesL_ (some 30) rfl rfl Try.func41 (by kernel_rfl) rfl #[.int .i64 t243, .int .i64 t241] rfl (by (try simp only [List.map_toArray, List.map_cons, List.map_nil]); first | done | rfl | (simp only [List.length_drop, List.length_take]; rfl)) ?_; (with_reducible refine (valanceref01_Sub.calls t243 t241 t244 _ A10.out).mono ?_); rintro e w' ⟨rfl, ⟨nd, rfl⟩⟩; refine ⟨_, rfl, ?_⟩; have hcz21_0 : w20.cell? ⟨gb238, 0, none⟩ = some (.int .i64 a2_0) := (blk_cell BK238.out 0).trans rfl; have hcz21_1 : w20.cell? ⟨gb238, 1, none⟩ = some (.int .i64 a2_1) := (blk_cell BK238.out 1).trans rfl; have hfz21_0 := blk_frozen BK238.out 0; have hfz21_1 := blk_frozen BK238.out 1) | ((with_reducible refine gate_callee (f := 51) rfl ?_); refine goesL_ (some 33) rfl rfl Try.func51 (by kernel_rfl) rfl #[.agg #[.int .i64 a2_0, .int .i64 a2_1], .int .i64 a4] rfl (by (try simp only [List.map_toArray, List.map_cons, List.map_nil]); first | done | rfl | (simp only [List.length_drop, List.length_take]; rfl)) ?_; (with_reducible refine (valanceref05_Fixed.calls a2_0 a2_1 a4 t245 _ A11.out).mono ?_); rintro e w22 ⟨rfl, hb⟩; refine ⟨_, rfl, ?_⟩; have n0_ := Aside0.mk (blk_below (g := gb238) (o := .cells #[.int .i64 a2_0, .int .i64 a2_1] 51 (0, 0)) (by (with_reducible repeat (first | refine blk_drewN ?_ _ | refine blk_drew ?_ | refine blk_alloc ?_ _)); exact BK238.out) hb); have n1_ := Aside0.mk (blk_below (g := gb239) (o := .cells #[.int .i64 a3_0, .int .i64 a3_1] 51 (0, 0)) (by (with_reducible repeat (first | refine blk_drewN ?_ _ | refine blk_drew ?_ | refine blk_alloc ?_ _)); exact BK239.out) hb); have n2_ := Aside0.mk (below_step (by repeat (first | (with_reducible first | exact HB.out | apply below_alloc | apply pw_below_drewN | apply below_drew1 | refine below_set ?_ GE238.out | refine below_set ?_ GE239.out) | exact HB.out)) hb); clear BK238; clear BK239; clear HB; have BK238 := n0_; have BK239 := n1_; have HB := n2_; clear n0_ n1_ n2_; (try clear hb); (try clear hb2); (try clear hk); (try clear hi); have hcz23_0 : w22.cell? ⟨gb239, 0, none⟩ = some (.int .i64 a3_0) := (blk_cell BK239.out 0).trans rfl; have hcz23_1 : w22.cell? ⟨gb239, 1, none⟩ = some (.int .i64 a3_1) := (blk_cell BK239.out 1).trans rfl; have hfz23_0 := blk_frozen BK239.out 0; have hfz23_1 := blk_frozen BK239.out 1) | ((with_reducible refine gate_callee (f := 51) rfl ?_); refine goesL_ (some 36) rfl rfl Try.func51 (by kernel_rfl) rfl #[.agg #[.int .i64 a3_0, .int .i64 a3_1], .int .i64 a4] rfl (by (try simp only [List.map_toArray, List.map_cons, List.map_nil]); first | done | rfl | (simp only [List.length_drop, List.length_take]; rfl)) ?_; (with_reducible refine (valanceref05_Fixed.calls a3_0 a3_1 a4 t246 _ A12.out).mono ?_); rintro e w24 ⟨rfl, hb⟩; refine ⟨_, rfl, ?_⟩; have n0_ := Aside0.mk (blk_below (g := gb238) (o := .cells #[.int .i64 a2_0, .int .i64 a2_1] 51 (0, 0)) (by (with_reducible repeat (first | refine blk_drewN ?_ _ | refine blk_drew ?_ | refine blk_alloc ?_ _)); exact BK238.out) hb); have n1_ := Aside0.mk (blk_below (g := gb239) (o := .cells #[.int .i64 a3_0, .int .i64 a3_1] 51 (0, 0)) (by (with_reducible repeat (first | refine blk_drewN ?_ _ | refine blk_drew ?_ | refine blk_alloc ?_ _)); exact BK239.out) hb); have n2_ := Aside0.mk (below_step (by repeat (first | (with_reducible first | exact HB.out | apply below_alloc | apply pw_below_drewN | apply below_drew1 | refine below_set ?_ GE238.out | refine below_set ?_ GE239.out) | exact HB.out)) hb); clear BK238; clear BK239; clear HB; have BK238 := n0_; have BK239 := n1_; have HB := n2_; clear n0_ n1_ n2_; (try clear hb); (try clear hb2); (try clear hk); (try clear hi)))
  (try simp only [Act.put, List.setIfInBounds_toArray, List.set_cons_zero, List.set_cons_succ])
  go_cut [44] (fun v44 wc => ∃ (kq : Nat) (x44_12 : Bool), v44 = .bool x44_12 ∧ Aside0 (valanceref06_Auto.j0 kq t240 t241 t244 t245 t246 x44_12 = some (r1, r2)) ∧ Aside0 (kq ≤ k) ∧ Aside0 (wc.heap[gb238]? = some (.cells #[.int .i64 a2_0, .int .i64 a2_1] 51 (0, 0))) ∧ Aside0 (wc.heap[gb239]? = some (.cells #[.int .i64 a3_0, .int .i64 a3_1] 51 (0, 0))) ∧ Aside0 (Below w.heap.size w wc))
  case first =>
    have H := HC13.out
    clear HC13
    by_cases c25 : t244 ≤ 0
    · rw [if_pos c25] at H
      have c25b0 : decide (t244 ≤ 0) = true := decide_eq_true c25
      clear c25
      (first | rw [c25b0] | (simp only [i64_w, i32_w]; rw [c25b0]) | skip)
      have H' := Aside0.mk H
      clear H
      go_wp2
      go_meet
      case rel => exact ⟨_, (true), (by first | rfl | (simp; done) | (simp [*]; done)), H', ⟨by first | omega | exact Nat.le_refl _⟩, ⟨by (with_reducible repeat (first | refine blk_drewN ?_ _ | refine blk_drew ?_ | refine blk_alloc ?_ _)); exact BK238.out⟩, ⟨by (with_reducible repeat (first | refine blk_drewN ?_ _ | refine blk_drew ?_ | refine blk_alloc ?_ _)); exact BK239.out⟩, ⟨by repeat (first | (with_reducible first | exact HB.out | apply below_alloc | apply pw_below_drewN | apply below_drew1 | refine below_set ?_ GE238.out | refine below_set ?_ GE239.out) | exact HB.out)⟩⟩
    · rw [if_neg c25] at H
      have c25b0 : decide (t244 ≤ 0) = false := decide_eq_false c25
      clear c25
      (first | rw [c25b0] | (simp only [i64_w, i32_w]; rw [c25b0]) | skip)
      by_cases c26 : t245 = true
      · subst c26
        have H1 : (valanceref06_Auto.j0 k t240 t241 t244 true t246 t246) = some (r1, r2) := by rw [if_pos rfl] at H; exact H
        clear H
        have H := H1
        clear H1
        have H' := Aside0.mk H
        clear H
        go_wp2
        go_meet
        case rel => exact ⟨_, (t246), (by first | rfl | (simp; done) | (simp [*]; done)), H', ⟨by first | omega | exact Nat.le_refl _⟩, ⟨by (with_reducible repeat (first | refine blk_drewN ?_ _ | refine blk_drew ?_ | refine blk_alloc ?_ _)); exact BK238.out⟩, ⟨by (with_reducible repeat (first | refine blk_drewN ?_ _ | refine blk_drew ?_ | refine blk_alloc ?_ _)); exact BK239.out⟩, ⟨by repeat (first | (with_reducible first | exact HB.out | apply below_alloc | apply pw_below_drewN | apply below_drew1 | refine below_set ?_ GE238.out | refine below_set ?_ GE239.out) | exact HB.out)⟩⟩
      · replace c26 := Bool.eq_false_iff.mpr c26
        subst c26
        have H1 : (valanceref06_Auto.j0 k t240 t241 t244 false t246 false) = some (r1, r2) := by rw [if_neg (show ¬ (false = true) by decide)] at H; exact H
        clear H
        have H := H1
        clear H1
        have H' := Aside0.mk H
        clear H
        go_wp2
        go_meet
        case rel => exact ⟨_, (false), (by first | rfl | (simp; done) | (simp [*]; done)), H', ⟨by first | omega | exact Nat.le_refl _⟩, ⟨by (with_reducible repeat (first | refine blk_drewN ?_ _ | refine blk_drew ?_ | refine blk_alloc ?_ _)); exact BK238.out⟩, ⟨by (with_reducible repeat (first | refine blk_drewN ?_ _ | refine blk_drew ?_ | refine blk_alloc ?_ _)); exact BK239.out⟩, ⟨by repeat (first | (with_reducible first | exact HB.out | apply below_alloc | apply pw_below_drewN | apply below_drew1 | refine below_set ?_ GE238.out | refine below_set ?_ GE239.out) | exact HB.out)⟩⟩
  case rest =>
    clear HC13
    try clear c1
    try clear c2
    try clear p2
    try clear c4
    try clear c5
    try clear c16
    try clear c25
    try clear c25b0
    try clear c26
    try clear hcz17_0
    try clear hcz17_1
    try clear hcz19_0
    try clear hcz19_1
    try clear hcz21_0
    try clear hcz21_1
    try clear hcz23_0
    try clear hcz23_1
    try clear hfz17_0
    try clear hfz17_1
    try clear hfz19_0
    try clear hfz19_1
    try clear hfz21_0
    try clear hfz21_1
    try clear hfz23_0
    try clear hfz23_1
    obtain ⟨kq, x44_12, rfl, HA, HJ12, BK238, BK239, HB⟩ := hcut
    cases kq with
    | zero => exact absurd HA.out (by simp [valanceref06_Auto.j0])
    | succ kj12 =>
      have H := HA.out
      clear HA
      simp only [valanceref06_Auto.j0] at H
      by_cases c27 : x44_12 = true
      · subst c27
        have H1 : (some (t240, t241)) = some (r1, r2) := by rw [if_pos rfl] at H; exact H
        clear H
        have H := H1
        clear H1
        simp only [Option.some.injEq, Prod.mk.injEq] at H
        obtain ⟨rfl, rfl⟩ := H
        go_wp2
        go_ret2
        exact ⟨by first | rfl | (simp [errW_none, errW_some] <;> rfl) | (simp [*, errW_none, errW_some] <;> rfl), by repeat (first | (with_reducible first | exact HB.out | apply below_alloc | apply pw_below_drewN | apply below_drew1 | refine below_set ?_ GE238.out | refine below_set ?_ GE239.out) | exact HB.out)⟩
      · replace c27 := Bool.eq_false_iff.mpr c27
        subst c27
        have H1 : (if t245 = true then (valanceref06_Auto.j1 kj12 t240 t241 t244 t245 false) else (valanceref06_Auto.j1 kj12 t240 t241 t244 t245 t246)) = some (r1, r2) := by rw [if_neg (show ¬ (false = true) by decide)] at H; exact H
        clear H
        have H := H1
        clear H1
        have HC28 := Aside0.mk H
        clear H
        go_upto_region 8 with (fail)
        go_cut [51] (fun v51 wc => ∃ (kq : Nat) (x51_27 : Bool), v51 = .bool x51_27 ∧ Aside0 (valanceref06_Auto.j1 kq t240 t241 t244 t245 x51_27 = some (r1, r2)) ∧ Aside0 (kq ≤ kj12) ∧ Aside0 (wc.heap[gb238]? = some (.cells #[.int .i64 a2_0, .int .i64 a2_1] 51 (0, 0))) ∧ Aside0 (wc.heap[gb239]? = some (.cells #[.int .i64 a3_0, .int .i64 a3_1] 51 (0, 0))) ∧ Aside0 (Below w.heap.size w wc))
        case first =>
          have H := HC28.out
          clear HC28
          by_cases c29 : t245 = true
          · subst c29
            have H1 : (valanceref06_Auto.j1 kj12 t240 t241 t244 true false) = some (r1, r2) := by rw [if_pos rfl] at H; exact H
            clear H
            have H := H1
            clear H1
            have H' := Aside0.mk H
            clear H
            go_wp2
            go_meet
            case rel => exact ⟨_, (false), (by first | rfl | (simp; done) | (simp [*]; done)), H', ⟨by have := HJ12.out; first | omega | exact Nat.le_refl _⟩, ⟨by (with_reducible repeat (first | refine blk_drewN ?_ _ | refine blk_drew ?_ | refine blk_alloc ?_ _)); exact BK238.out⟩, ⟨by (with_reducible repeat (first | refine blk_drewN ?_ _ | refine blk_drew ?_ | refine blk_alloc ?_ _)); exact BK239.out⟩, ⟨by repeat (first | (with_reducible first | exact HB.out | apply below_alloc | apply pw_below_drewN | apply below_drew1 | refine below_set ?_ GE238.out | refine below_set ?_ GE239.out) | exact HB.out)⟩⟩
          · replace c29 := Bool.eq_false_iff.mpr c29
            subst c29
            have H1 : (valanceref06_Auto.j1 kj12 t240 t241 t244 false t246) = some (r1, r2) := by rw [if_neg (show ¬ (false = true) by decide)] at H; exact H
            clear H
            have H := H1
            clear H1
            have H' := Aside0.mk H
            clear H
            go_wp2
            go_meet
            case rel => exact ⟨_, (t246), (by first | rfl | (simp; done) | (simp [*]; done)), H', ⟨by have := HJ12.out; first | omega | exact Nat.le_refl _⟩, ⟨by (with_reducible repeat (first | refine blk_drewN ?_ _ | refine blk_drew ?_ | refine blk_alloc ?_ _)); exact BK238.out⟩, ⟨by (with_reducible repeat (first | refine blk_drewN ?_ _ | refine blk_drew ?_ | refine blk_alloc ?_ _)); exact BK239.out⟩, ⟨by repeat (first | (with_reducible first | exact HB.out | apply below_alloc | apply pw_below_drewN | apply below_drew1 | refine below_set ?_ GE238.out | refine below_set ?_ GE239.out) | exact HB.out)⟩⟩
        case rest =>
          clear HC28
          try clear c1
          try clear c2
          try clear p2
          try clear c4
          try clear c5
          try clear c16
          try clear c25
          try clear c25b0
          try clear c26
          try clear c27
          try clear c28
          try clear c29
          try clear hcz17_0
          try clear hcz17_1
          try clear hcz19_0
          try clear hcz19_1
          try clear hcz21_0
          try clear hcz21_1
          try clear hcz23_0
          try clear hcz23_1
          try clear hfz17_0
          try clear hfz17_1
          try clear hfz19_0
          try clear hfz19_1
          try clear hfz21_0
          try clear hfz21_1
          try clear hfz23_0
          try clear hfz23_1
          try clear p2
          obtain ⟨kq, x51_27, rfl, HA, HJ27, BK238, BK239, HB⟩ := hcut
          cases kq with
          | zero => exact absurd HA.out (by simp [valanceref06_Auto.j1])
          | succ kj27 =>
            have H := HA.out
            clear HA
            simp only [valanceref06_Auto.j1] at H
            by_cases c30 : x51_27 = true
            · subst c30
              have H1 : (some (t244, t241)) = some (r1, r2) := by rw [if_pos rfl] at H; exact H
              clear H
              have H := H1
              clear H1
              simp only [Option.some.injEq, Prod.mk.injEq] at H
              obtain ⟨rfl, rfl⟩ := H
              go_wp2
              go_ret2
              exact ⟨by first | rfl | (simp [errW_none, errW_some] <;> rfl) | (simp [*, errW_none, errW_some] <;> rfl), by repeat (first | (with_reducible first | exact HB.out | apply below_alloc | apply pw_below_drewN | apply below_drew1 | refine below_set ?_ GE238.out | refine below_set ?_ GE239.out) | exact HB.out)⟩
            · replace c30 := Bool.eq_false_iff.mpr c30
              subst c30
              have H1 : (if t245 = true then (some (t240, t244)) else ((valanceref01_Div.f t244 2).bind fun t247 => (some (t247, wrap64 (t244 - t247))))) = some (r1, r2) := by rw [if_neg (show ¬ (false = true) by decide)] at H; exact H
              clear H
              have H := H1
              clear H1
              by_cases c31 : t245 = true
              · subst c31
                have H1 : (some (t240, t244)) = some (r1, r2) := by rw [if_pos rfl] at H; exact H
                clear H
                have H := H1
                clear H1
                simp only [Option.some.injEq, Prod.mk.injEq] at H
                obtain ⟨rfl, rfl⟩ := H
                go_wp2
                go_ret2
                exact ⟨by first | rfl | (simp [errW_none, errW_some] <;> rfl) | (simp [*, errW_none, errW_some] <;> rfl), by repeat (first | (with_reducible first | exact HB.out | apply below_alloc | apply pw_below_drewN | apply below_drew1 | refine below_set ?_ GE238.out | refine below_set ?_ GE239.out) | exact HB.out)⟩
              · replace c31 := Bool.eq_false_iff.mpr c31
                subst c31
                have H1 : ((valanceref01_Div.f t244 2).bind fun t247 => (some (t247, wrap64 (t244 - t247)))) = some (r1, r2) := by rw [if_neg (show ¬ (false = true) by decide)] at H; exact H
                clear H
                have H := H1
                clear H1
                replace H := Option.bind_eq_some_iff.mp H
                obtain ⟨t247, A320, H⟩ := H
                replace H : (some (t247, wrap64 (t244 - t247))) = some (r1, r2) := H
                have A32 := Aside0.mk A320
                clear A320
                simp only [Option.some.injEq, Prod.mk.injEq] at H
                obtain ⟨rfl, rfl⟩ := H
                go_wp2_with (first | ((with_reducible refine gate_callee (f := 42) rfl ?_); refine goesL_ (some 58) rfl rfl Try.func42 (by kernel_rfl) rfl #[.int .i64 t244, .int .i64 2] rfl (by (try simp only [List.map_toArray, List.map_cons, List.map_nil]); first | done | rfl | (simp only [List.length_drop, List.length_take]; rfl)) ?_; (with_reducible refine (valanceref01_Div.calls t244 2 t247 _ A32.out).mono ?_); rintro e w' ⟨rfl, ⟨nd, rfl⟩⟩; refine ⟨_, rfl, ?_⟩))
                go_ret2
                exact ⟨by first | rfl | (simp [errW_none, errW_some] <;> rfl) | (simp [*, errW_none, errW_some] <;> rfl), by repeat (first | (with_reducible first | exact HB.out | apply below_alloc | apply pw_below_drewN | apply below_drew1 | refine below_set ?_ GE238.out | refine below_set ?_ GE239.out) | exact HB.out)⟩

end Go.Proofs.Ytnmcefpnpfaklac.V
