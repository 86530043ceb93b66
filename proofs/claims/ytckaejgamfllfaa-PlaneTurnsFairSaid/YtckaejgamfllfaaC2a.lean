/- Part 1 of 2. -/
import Derived.Test.YtckaejgamfllfaaBd
import Derived.ProofKit
import Derived.OpenShut
import Derived.ChangeOld
import Derived.Below
import Derived.SizedLaws
import Derived.Deep.Slices
section
namespace Go.Proofs.Ytckaejgamfllfaa.G
open Go.RowKit Go.Proofs.YtckaejgamfllfaaW.PrintWords Go.Proofs.YtckaejgamfllfaaW.PrintLast Go.Proofs.YtckaejgamfllfaaW.PrintMore
attribute [local go_sem] max2_int min2_int max_two min_two max_three min_three max_four min_four
set_option linter.unusedVariables false
set_option linter.unusedSimpArgs false
def boundstonelaw02_moved.f (a0_0 : Int) (a0_1 : Int) (a1 : Int) (a2 : Int) : Option (Int × Int) := some (wrap64 (a0_0 + a1), wrap64 (a0_1 + a2))
set_option maxHeartbeats 8000000 in
set_option maxRecDepth 100000 in
theorem boundstonelaw02_moved.calls (a0_0 : Int) (a0_1 : Int) (a1 : Int) (a2 : Int) (r1 : Int) (r2 : Int) (w : World) (h : boundstonelaw02_moved.f a0_0 a0_1 a1 a2 = some (r1, r2)) :
    Calls Try.prog 25 #[.agg #[.int .i64 a0_0, .int .i64 a0_1], .int .i64 a1, .int .i64 a2] w fun e w' => e = .returned (.agg #[.int .i64 r1, .int .i64 r2]) ∧ Below w.heap.size w w' := by
  have hu23 := Try.underlying23
  have HB := Aside0.mk (Below.refl w.heap.size w)
  have H : (some (wrap64 (a0_0 + a1), wrap64 (a0_1 + a2))) = some (r1, r2) := h
  clear h
  simp only [Option.some.injEq, Prod.mk.injEq] at H
  obtain ⟨rfl, rfl⟩ := H
  go_enter Try.func25, Try.ntmps25
  go_wp2_with (first | ((with_reducible refine gate_dst (N := 3) rfl ?_); refine box_event ?hg (N := 3) ?hd (cs := #[.int .i64 a0_0, .int .i64 a0_1]) (t := 23) ?hr ?_; (case hd => rfl); (case hg => rfl); (case hr => first | (go_simp; done) | (go_simp; rfl)); intro gb329 hg w4 hbox hb; have n0_ := Aside0.mk (below_step (by repeat (first | (with_reducible first | exact HB.out | apply below_alloc | apply pw_below_drewN | apply below_drew1) | exact HB.out)) hb); have n1_ := Aside0.mk (hbox); have n2_ := Aside0.mk ((by rw [hg]; exact (below_size (by repeat (first | (with_reducible first | exact HB.out | apply below_alloc | apply pw_below_drewN | apply below_drew1) | exact HB.out))) : w.heap.size ≤ gb329)); have n3_ := Aside0.mk ((by rw [hg]; exact (below_size (by repeat (first | (with_reducible first | exact HB.out | apply below_alloc | apply pw_below_drewN | apply below_drew1) | exact HB.out))) : w.heap.size ≤ gb329)); clear HB; have HB := n0_; have BK329 := n1_; have GW329 := n2_; have GE329 := n3_; clear n0_ n1_ n2_ n3_; clear hb hbox hg) | ((with_reducible refine gate_dst (N := 6) rfl ?_); refine box_event ?hg (N := 6) ?hd (cs := #[.int .i64 0, .int .i64 0]) (t := 23) ?hr ?_; (case hd => rfl); (case hg => rfl); (case hr => first | (go_simp; done) | (go_simp; rfl)); intro gb330 hg w5 hbox hb; have n0_ := Aside0.mk (blk_below (g := gb329) (o := .cells #[.int .i64 a0_0, .int .i64 a0_1] 23 (0, 0)) (by (with_reducible repeat (first | refine blk_drewN ?_ _ | refine blk_drew ?_ | refine blk_alloc ?_ _)); exact BK329.out) hb); have n1_ := Aside0.mk (below_step (by repeat (first | (with_reducible first | exact HB.out | apply below_alloc | apply pw_below_drewN | apply below_drew1 | refine below_set ?_ GE329.out) | exact HB.out)) hb); have n2_ := Aside0.mk (hbox); have n3_ := Aside0.mk ((by rw [hg]; exact (below_size (by repeat (first | (with_reducible first | exact HB.out | apply below_alloc | apply pw_below_drewN | apply below_drew1 | refine below_set ?_ GE329.out) | exact HB.out))) : w.heap.size ≤ gb330)); have n4_ := Aside0.mk ((by rw [hg]; exact (below_size (by repeat (first | (with_reducible first | exact HB.out | apply below_alloc | apply pw_below_drewN | apply below_drew1 | refine below_set ?_ GE329.out) | exact HB.out))) : w.heap.size ≤ gb330)); have n5_ := Aside0.mk ((by rw [hg]; exact Nat.ne_of_lt (blk_lt (g := gb329) (o := .cells #[.int .i64 a0_0, .int .i64 a0_1] 23 (0, 0)) (by (with_reducible repeat (first | refine blk_drewN ?_ _ | refine blk_drew ?_ | refine blk_alloc ?_ _)); exact BK329.out)) : gb329 ≠ gb330)); have n6_ := Aside0.mk ((by rw [hg]; exact Nat.ne_of_gt (blk_lt (g := gb329) (o := .cells #[.int .i64 a0_0, .int .i64 a0_1] 23 (0, 0)) (by (with_reducible repeat (first | refine blk_drewN ?_ _ | refine blk_drew ?_ | refine blk_alloc ?_ _)); exact BK329.out)) : gb330 ≠ gb329)); clear BK329; clear HB; have BK329 := n0_; have HB := n1_; have BK330 := n2_; have GW330 := n3_; have GE330 := n4_; have NB329_330 := n5_; have NB330_329 := n6_; clear n0_ n1_ n2_ n3_ n4_ n5_ n6_; clear hb hbox hg; have hnb6 := NB329_330.out; have hnc6 := NB330_329.out; have hcz7_0 : w5.cell? ⟨gb329, 0, none⟩ = some (.int .i64 a0_0) := (blk_cell BK329.out 0).trans rfl; have hcz7_1 : w5.cell? ⟨gb329, 1, none⟩ = some (.int .i64 a0_1) := (blk_cell BK329.out 1).trans rfl; have hfz7_0 := blk_frozen BK329.out 0; have hfz7_1 := blk_frozen BK329.out 1; have hcz8_0 : w5.cell? ⟨gb330, 0, none⟩ = some (.int .i64 0) := (blk_cell BK330.out 0).trans rfl; have hcz8_1 : w5.cell? ⟨gb330, 1, none⟩ = some (.int .i64 0) := (blk_cell BK330.out 1).trans rfl; have hfz8_0 := blk_frozen BK330.out 0; have hfz8_1 := blk_frozen BK330.out 1))
  refine bodyPost_ret (results_cell_row rfl _ _ gb330 23 #[.int .i64 (wrap64 (a0_0 + a1)), .int .i64 (wrap64 (a0_1 + a2))] (0, 0) _ rfl (by (with_reducible repeat (first | refine blk_drewN ?_ _ | refine blk_drew ?_ | refine blk_alloc ?_ _)); refine blk_put (cs := #[.int .i64 (wrap64 (a0_0 + a1)), .int .i64 0]) ?_ 1 _ rfl; (with_reducible repeat (first | refine blk_drewN ?_ _ | refine blk_drew ?_ | refine blk_alloc ?_ _)); refine blk_put (cs := #[.int .i64 0, .int .i64 0]) ?_ 0 _ rfl; (with_reducible repeat (first | refine blk_drewN ?_ _ | refine blk_drew ?_ | refine blk_alloc ?_ _)); exact BK330.out) Try.underlying23 rfl (by kernel_rfl)) rfl ?_
  exact ⟨by first | rfl | (simp [errW_none, errW_some] <;> rfl) | (simp [*, errW_none, errW_some] <;> rfl), by repeat (first | (with_reducible first | exact HB.out | apply below_alloc | apply pw_below_drewN | apply below_drew1 | refine below_set ?_ GE329.out | refine below_set ?_ GE330.out) | exact HB.out)⟩
end Go.Proofs.Ytckaejgamfllfaa.G
end

section
namespace Go.Proofs.Ytckaejgamfllfaa.G
open Go.RowKit Go.Proofs.YtckaejgamfllfaaW.PrintWords Go.Proofs.YtckaejgamfllfaaW.PrintLast Go.Proofs.YtckaejgamfllfaaW.PrintMore
attribute [local go_sem] max2_int min2_int max_two min_two max_three min_three max_four min_four
set_option linter.unusedVariables false
set_option linter.unusedSimpArgs false
attribute [local go_sem high] eqA23
mutual
def boundstonelaw02_PlaneTurnsFair.j0 : Nat → Int → Int → Int → Int → Bool → Int → Int → Int → Int → Int → Int → Option (Bool)
  | 0, _, _, _, _, _, _, _, _, _, _, _ => none
  | k + 1, x3, x4, x5, x13, x54, x332000, x332001, x333000, x333001, x334000, x334001 => if x54 = true then (none) else ((plane_Root.f (wrap64 (x5))).bind fun t340 => (if t340 < 0 then (none) else (if (wrap64 (t340 * t340)) > (wrap64 (x5)) then (none) else (boundstonelaw02_PlaneTurnsFair.j1 k x3 x4 x13 (decide ((wrap64 ((wrap64 (t340 + 1)) * (wrap64 (t340 + 1)))) ≤ (wrap64 (x5)))) x332000 x332001 x333000 x333001 x334000 x334001))))
def boundstonelaw02_PlaneTurnsFair.j1 : Nat → Int → Int → Int → Bool → Int → Int → Int → Int → Int → Int → Option (Bool)
  | 0, _, _, _, _, _, _, _, _, _, _ => none
  | k + 1, x3, x4, x13, x77, x332000, x332001, x333000, x333001, x334000, x334001 => if x77 = true then (none) else ((plane_Valid.f x332000 x332001).bind fun t341 => (if t341 = true then ((plane_Valid.f x333000 x333001).bind fun t342 => (if t342 = true then ((plane_Valid.f x334000 x334001).bind fun t343 => (if t343 = true then (if x3 < (-1000) then (boundstonelaw02_PlaneTurnsFair.j2 k x3 x4 x13 true x332000 x332001 x333000 x333001 x334000 x334001) else (if x3 > 1000 then (boundstonelaw02_PlaneTurnsFair.j2 k x3 x4 x13 true x332000 x332001 x333000 x333001 x334000 x334001) else (if x4 < (-1000) then (boundstonelaw02_PlaneTurnsFair.j2 k x3 x4 x13 true x332000 x332001 x333000 x333001 x334000 x334001) else (boundstonelaw02_PlaneTurnsFair.j2 k x3 x4 x13 (decide (x4 > 1000)) x332000 x332001 x333000 x333001 x334000 x334001)))) else (boundstonelaw02_PlaneTurnsFair.j2 k x3 x4 x13 true x332000 x332001 x333000 x333001 x334000 x334001))) else (boundstonelaw02_PlaneTurnsFair.j2 k x3 x4 x13 true x332000 x332001 x333000 x333001 x334000 x334001))) else (boundstonelaw02_PlaneTurnsFair.j2 k x3 x4 x13 true x332000 x332001 x333000 x333001 x334000 x334001)))
def boundstonelaw02_PlaneTurnsFair.j2 : Nat → Int → Int → Int → Bool → Int → Int → Int → Int → Int → Int → Option (Bool)
  | 0, _, _, _, _, _, _, _, _, _, _ => none
  | k + 1, x3, x4, x13, x106, x332000, x332001, x333000, x333001, x334000, x334001 => if x106 = true then ((boundstonelaw02_sanity.f k).bind fun t344 => (some t344)) else ((plane_Dist.f x332000 x332001 x333000 x333001).bind fun t345 => (if ((t345 == 0) != (x332000 == x333000 && (x332001 == x333001))) = true then (none) else ((boundstonelaw02_moved.f x332000 x332001 x3 x4).bind fun bt346 => ((boundstonelaw02_moved.f x333000 x333001 x3 x4).bind fun bt349 => ((boundstonelaw02_moved.f x334000 x334001 x3 x4).bind fun bt352 => ((plane_Valid.f bt346.1 bt346.2).bind fun t355 => (if t355 = true then ((plane_Valid.f bt349.1 bt349.2).bind fun t356 => (if t356 = true then ((plane_Valid.f bt352.1 bt352.2).bind fun t357 => (boundstonelaw02_PlaneTurnsFair.j3 k x13 (!t357) x332000 x332001 x333000 x333001 bt346.1 bt346.2 bt349.1 bt349.2 bt352.1 bt352.2)) else (boundstonelaw02_PlaneTurnsFair.j3 k x13 true x332000 x332001 x333000 x333001 bt346.1 bt346.2 bt349.1 bt349.2 bt352.1 bt352.2))) else (boundstonelaw02_PlaneTurnsFair.j3 k x13 true x332000 x332001 x333000 x333001 bt346.1 bt346.2 bt349.1 bt349.2 bt352.1 bt352.2))))))))
def boundstonelaw02_PlaneTurnsFair.j3 : Nat → Int → Bool → Int → Int → Int → Int → Int → Int → Int → Int → Int → Int → Option (Bool)
  | 0, _, _, _, _, _, _, _, _, _, _, _, _ => none
  | k + 1, x13, x140, x332000, x332001, x333000, x333001, x349000, x349001, x352000, x352001, x355000, x355001 => if x140 = true then ((boundstonelaw02_sanity.f k).bind fun t358 => (some t358)) else ((boundstonelaw02_sanity.f k).bind fun t359 => (if t359 = true then ((plane_Turn.f x349000 x349001 x352000 x352001 x355000 x355001).bind fun t360 => (if t360 = x13 then ((plane_Dist.f x349000 x349001 x352000 x352001).bind fun t361 => ((plane_Dist.f x332000 x332001 x333000 x333001).bind fun t362 => (some (t361 == t362)))) else (none))) else (none)))
end
def boundstonelaw02_PlaneTurnsFair.f (k : Nat) (a0_0 : Int) (a0_1 : Int) (a1_0 : Int) (a1_1 : Int) (a2_0 : Int) (a2_1 : Int) (a3 : Int) (a4 : Int) (a5 : Int) : Option (Bool) := (plane_Turn.f a0_0 a0_1 a1_0 a1_1 a2_0 a2_1).bind fun t334 => ((plane_Turn.f a1_0 a1_1 a2_0 a2_1 a0_0 a0_1).bind fun t335 => (if t334 = t335 then ((plane_Turn.f a1_0 a1_1 a0_0 a0_1 a2_0 a2_1).bind fun t336 => (if t334 = (wrap64 (-t336)) then ((plane_Turn.f a0_0 a0_1 a2_0 a2_1 a1_0 a1_1).bind fun t337 => (if t334 = (wrap64 (-t337)) then ((plane_Dist.f a0_0 a0_1 a1_0 a1_1).bind fun t338 => ((plane_Dist.f a1_0 a1_1 a0_0 a0_1).bind fun t339 => (boundstonelaw02_PlaneTurnsFair.j0 k a3 a4 a5 t334 (t338 != t339) a0_0 a0_1 a1_0 a1_1 a2_0 a2_1))) else (none))) else (none))) else (none)))
def boundstonelaw02_PlaneTurnsFair.T2 : Bool × List (List Nat × List Nat) := (true, [([], []), ([], []), ([], []), ([], []), ([1, 2, 3], [1, 2, 3]), ([0, 4], [0, 4]), ([5, 4], [5]), ([6], [6]), ([6], [6]), ([6], [6]), ([6], [6]), ([8, 9, 10, 6, 6], [6, 8, 9, 10]), ([11, 6], [6, 11]), ([7, 12, 6], [6, 7, 12]), ([6, 13], [6, 13]), ([14, 11], [14]), ([15], [15]), ([15], [15]), ([15], [15]), ([15], [15]), ([17, 18, 19, 15, 15], [15, 17, 18, 19]), ([20, 15], [15, 20]), ([16, 21, 15], [15, 16, 21]), ([15, 22], [15, 22]), ([23, 20], [23]), ([24], [24]), ([24], [24]), ([25, 26, 24, 24], [24, 25, 26]), ([24], [24]), ([24], [24]), ([28, 29, 27, 24], [24, 28, 29]), ([27, 30, 24], [24, 27, 30]), ([24, 31], [24, 31])])
def boundstonelaw02_PlaneTurnsFair.B2 : List Nat := [0, 0, 0, 0, 14, 31, 63, 127, 127, 127, 127, 1919, 3967, 8191, 16383, 32767, 65535, 65535, 65535, 65535, 983039, 2031615, 4194303, 8388607, 16777215, 33554431, 33554431, 134217727, 33554431, 33554431, 1073741823, 2147483647, 4294967295]
theorem boundstonelaw02_PlaneTurnsFair.tab2 : rtab .any (opsOf Try.f4 2) = boundstonelaw02_PlaneTurnsFair.T2 := by kernel_rfl
theorem boundstonelaw02_PlaneTurnsFair.bits2 : waitsOk boundstonelaw02_PlaneTurnsFair.T2.2 boundstonelaw02_PlaneTurnsFair.B2 = true := by kernel_rfl
def boundstonelaw02_PlaneTurnsFair.T9 : Bool × List (List Nat × List Nat) := (true, [([], []), ([], []), ([0, 1], [0, 1]), ([2], [2]), ([], []), ([], []), ([4, 5], [4, 5]), ([3, 6], [3, 6])])
def boundstonelaw02_PlaneTurnsFair.B9 : List Nat := [0, 0, 3, 7, 0, 0, 48, 127]
theorem boundstonelaw02_PlaneTurnsFair.tab9 : rtab .any (opsOf Try.f4 9) = boundstonelaw02_PlaneTurnsFair.T9 := by kernel_rfl
theorem boundstonelaw02_PlaneTurnsFair.bits9 : waitsOk boundstonelaw02_PlaneTurnsFair.T9.2 boundstonelaw02_PlaneTurnsFair.B9 = true := by kernel_rfl
def boundstonelaw02_PlaneTurnsFair.T16 : Bool × List (List Nat × List Nat) := (true, [([], []), ([0, 0], [0]), ([1], [1]), ([1], [1]), ([1], [1]), ([2, 3, 4, 1, 1], [1, 2, 3, 4]), ([1], [1]), ([5, 6, 1], [1, 5, 6]), ([1, 7], [1, 7]), ([8, 5], [8]), ([9], [9]), ([9], [9]), ([10, 11, 9, 9], [9, 10, 11]), ([9], [9]), ([9], [9]), ([13, 14, 12, 9], [9, 13, 14]), ([12, 15, 9], [9, 12, 15]), ([9, 16], [9, 16]), ([17, 15, 0, 1, 2, 3, 4, 5, 6, 7, 8, 9, 10, 11, 12, 13, 14, 15, 16, 17], [17])])
def boundstonelaw02_PlaneTurnsFair.B16 : List Nat := [0, 1, 3, 3, 3, 31, 3, 127, 255, 511, 1023, 1023, 4095, 1023, 1023, 32767, 65535, 131071, 262143]
theorem boundstonelaw02_PlaneTurnsFair.tab16 : rtab .any (opsOf Try.f4 16) = boundstonelaw02_PlaneTurnsFair.T16 := by kernel_rfl
theorem boundstonelaw02_PlaneTurnsFair.bits16 : waitsOk boundstonelaw02_PlaneTurnsFair.T16.2 boundstonelaw02_PlaneTurnsFair.B16 = true := by kernel_rfl
set_option maxHeartbeats 8000000 in
set_option maxRecDepth 100000 in
theorem boundstonelaw02_PlaneTurnsFair.calls (k : Nat) (a0_0 : Int) (a0_1 : Int) (a1_0 : Int) (a1_1 : Int) (a2_0 : Int) (a2_1 : Int) (a3 : Int) (a4 : Int) (a5 : Int) (r : Bool) (w : World) (h : boundstonelaw02_PlaneTurnsFair.f k a0_0 a0_1 a1_0 a1_1 a2_0 a2_1 a3 a4 a5 = some r) :
    Calls Try.prog 4 #[.agg #[.int .i64 a0_0, .int .i64 a0_1], .agg #[.int .i64 a1_0, .int .i64 a1_1], .agg #[.int .i64 a2_0, .int .i64 a2_1], .int .i64 a3, .int .i64 a4, .int .u32 a5] w fun e w' => e = .returned (.bool r) ∧ Below w.heap.size w w' := by
  have hu23 := Try.underlying23
  have HB := Aside0.mk (Below.refl w.heap.size w)
  have H : ((plane_Turn.f a0_0 a0_1 a1_0 a1_1 a2_0 a2_1).bind fun t334 => ((plane_Turn.f a1_0 a1_1 a2_0 a2_1 a0_0 a0_1).bind fun t335 => (if t334 = t335 then ((plane_Turn.f a1_0 a1_1 a0_0 a0_1 a2_0 a2_1).bind fun t336 => (if t334 = (wrap64 (-t336)) then ((plane_Turn.f a0_0 a0_1 a2_0 a2_1 a1_0 a1_1).bind fun t337 => (if t334 = (wrap64 (-t337)) then ((plane_Dist.f a0_0 a0_1 a1_0 a1_1).bind fun t338 => ((plane_Dist.f a1_0 a1_1 a0_0 a0_1).bind fun t339 => (boundstonelaw02_PlaneTurnsFair.j0 k a3 a4 a5 t334 (t338 != t339) a0_0 a0_1 a1_0 a1_1 a2_0 a2_1))) else (none))) else (none))) else (none)))) = some r := h
  clear h
  replace H := Option.bind_eq_some_iff.mp H
  obtain ⟨t334, A70, H⟩ := H
  try dsimp only at H
  have A7 := Aside0.mk A70
  clear A70
  have HC8 := Aside0.mk H
  clear H
  go_enter Try.func4, Try.ntmps4
  go_upto_region 2 with (first | ((with_reducible refine gate_dst (N := 6) rfl ?_); refine box_event ?hg (N := 6) ?hd (cs := #[.int .i64 a0_0, .int .i64 a0_1]) (t := 23) ?hr ?_; (case hd => rfl); (case hg => rfl); (case hr => first | (go_simp; done) | (go_simp; rfl)); intro gb331 hg w9 hbox hb; have n0_ := Aside0.mk (below_step (by repeat (first | (with_reducible first | exact HB.out | apply below_alloc | apply pw_below_drewN | apply below_drew1) | exact HB.out)) hb); have n1_ := Aside0.mk (hbox); have n2_ := Aside0.mk ((by rw [hg]; exact (below_size (by repeat (first | (with_reducible first | exact HB.out | apply below_alloc | apply pw_below_drewN | apply below_drew1) | exact HB.out))) : w.heap.size ≤ gb331)); have n3_ := Aside0.mk ((by rw [hg]; exact (below_size (by repeat (first | (with_reducible first | exact HB.out | apply below_alloc | apply pw_below_drewN | apply below_drew1) | exact HB.out))) : w.heap.size ≤ gb331)); clear HB; have HB := n0_; have BK331 := n1_; have GW331 := n2_; have GE331 := n3_; clear n0_ n1_ n2_ n3_; clear hb hbox hg) | ((with_reducible refine gate_dst (N := 7) rfl ?_); refine box_event ?hg (N := 7) ?hd (cs := #[.int .i64 a1_0, .int .i64 a1_1]) (t := 23) ?hr ?_; (case hd => rfl); (case hg => rfl); (case hr => first | (go_simp; done) | (go_simp; rfl)); intro gb332 hg w10 hbox hb; have n0_ := Aside0.mk (blk_below (g := gb331) (o := .cells #[.int .i64 a0_0, .int .i64 a0_1] 23 (0, 0)) (by (with_reducible repeat (first | refine blk_drewN ?_ _ | refine blk_drew ?_ | refine blk_alloc ?_ _)); exact BK331.out) hb); have n1_ := Aside0.mk (below_step (by repeat (first | (with_reducible first | exact HB.out | apply below_alloc | apply pw_below_drewN | apply below_drew1 | refine below_set ?_ GE331.out) | exact HB.out)) hb); have n2_ := Aside0.mk (hbox); have n3_ := Aside0.mk ((by rw [hg]; exact (below_size (by repeat (first | (with_reducible first | exact HB.out | apply below_alloc | apply pw_below_drewN | apply below_drew1 | refine below_set ?_ GE331.out) | exact HB.out))) : w.heap.size ≤ gb332)); have n4_ := Aside0.mk ((by rw [hg]; exact (below_size (by repeat (first | (with_reducible first | exact HB.out | apply below_alloc | apply pw_below_drewN | apply below_drew1 | refine below_set ?_ GE331.out) | exact HB.out))) : w.heap.size ≤ gb332)); have n5_ := Aside0.mk ((by rw [hg]; exact Nat.ne_of_lt (blk_lt (g := gb331) (o := .cells #[.int .i64 a0_0, .int .i64 a0_1] 23 (0, 0)) (by (with_reducible repeat (first | refine blk_drewN ?_ _ | refine blk_drew ?_ | refine blk_alloc ?_ _)); exact BK331.out)) : gb331 ≠ gb332)); have n6_ := Aside0.mk ((by rw [hg]; exact Nat.ne_of_gt (blk_lt (g := gb331) (o := .cells #[.int .i64 a0_0, .int .i64 a0_1] 23 (0, 0)) (by (with_reducible repeat (first | refine blk_drewN ?_ _ | refine blk_drew ?_ | refine blk_alloc ?_ _)); exact BK331.out)) : gb332 ≠ gb331)); clear BK331; clear HB; have BK331 := n0_; have HB := n1_; have BK332 := n2_; have GW332 := n3_; have GE332 := n4_; have NB331_332 := n5_; have NB332_331 := n6_; clear n0_ n1_ n2_ n3_ n4_ n5_ n6_; clear hb hbox hg) | ((with_reducible refine gate_dst (N := 8) rfl ?_); refine box_event ?hg (N := 8) ?hd (cs := #[.int .i64 a2_0, .int .i64 a2_1]) (t := 23) ?hr ?_; (case hd => rfl); (case hg => rfl); (case hr => first | (go_simp; done) | (go_simp; rfl)); intro gb333 hg w11 hbox hb; have n0_ := Aside0.mk (blk_below (g := gb331) (o := .cells #[.int .i64 a0_0, .int .i64 a0_1] 23 (0, 0)) (by (with_reducible repeat (first | refine blk_drewN ?_ _ | refine blk_drew ?_ | refine blk_alloc ?_ _)); exact BK331.out) hb); have n1_ := Aside0.mk (blk_below (g := gb332) (o := .cells #[.int .i64 a1_0, .int .i64 a1_1] 23 (0, 0)) (by (with_reducible repeat (first | refine blk_drewN ?_ _ | refine blk_drew ?_ | refine blk_alloc ?_ _)); exact BK332.out) hb); have n2_ := Aside0.mk (below_step (by repeat (first | (with_reducible first | exact HB.out | apply below_alloc | apply pw_below_drewN | apply below_drew1 | refine below_set ?_ GE331.out | refine below_set ?_ GE332.out) | exact HB.out)) hb); have n3_ := Aside0.mk (hbox); have n4_ := Aside0.mk ((by rw [hg]; exact (below_size (by repeat (first | (with_reducible first | exact HB.out | apply below_alloc | apply pw_below_drewN | apply below_drew1 | refine below_set ?_ GE331.out | refine below_set ?_ GE332.out) | exact HB.out))) : w.heap.size ≤ gb333)); have n5_ := Aside0.mk ((by rw [hg]; exact (below_size (by repeat (first | (with_reducible first | exact HB.out | apply below_alloc | apply pw_below_drewN | apply below_drew1 | refine below_set ?_ GE331.out | refine below_set ?_ GE332.out) | exact HB.out))) : w.heap.size ≤ gb333)); have n6_ := Aside0.mk ((by rw [hg]; exact Nat.ne_of_lt (blk_lt (g := gb331) (o := .cells #[.int .i64 a0_0, .int .i64 a0_1] 23 (0, 0)) (by (with_reducible repeat (first | refine blk_drewN ?_ _ | refine blk_drew ?_ | refine blk_alloc ?_ _)); exact BK331.out)) : gb331 ≠ gb333)); have n7_ := Aside0.mk ((by rw [hg]; exact Nat.ne_of_gt (blk_lt (g := gb331) (o := .cells #[.int .i64 a0_0, .int .i64 a0_1] 23 (0, 0)) (by (with_reducible repeat (first | refine blk_drewN ?_ _ | refine blk_drew ?_ | refine blk_alloc ?_ _)); exact BK331.out)) : gb333 ≠ gb331)); have n8_ := Aside0.mk ((by rw [hg]; exact Nat.ne_of_lt (blk_lt (g := gb332) (o := .cells #[.int .i64 a1_0, .int .i64 a1_1] 23 (0, 0)) (by (with_reducible repeat (first | refine blk_drewN ?_ _ | refine blk_drew ?_ | refine blk_alloc ?_ _)); exact BK332.out)) : gb332 ≠ gb333)); have n9_ := Aside0.mk ((by rw [hg]; exact Nat.ne_of_gt (blk_lt (g := gb332) (o := .cells #[.int .i64 a1_0, .int .i64 a1_1] 23 (0, 0)) (by (with_reducible repeat (first | refine blk_drewN ?_ _ | refine blk_drew ?_ | refine blk_alloc ?_ _)); exact BK332.out)) : gb333 ≠ gb332)); clear BK331; clear BK332; clear HB; have BK331 := n0_; have BK332 := n1_; have HB := n2_; have BK333 := n3_; have GW333 := n4_; have GE333 := n5_; have NB331_333 := n6_; have NB333_331 := n7_; have NB332_333 := n8_; have NB333_332 := n9_; clear n0_ n1_ n2_ n3_ n4_ n5_ n6_ n7_ n8_ n9_; clear hb hbox hg; have hnb12 := NB331_332.out; have hnc12 := NB332_331.out; have hnb13 := NB331_333.out; have hnc13 := NB333_331.out; have hcz14_0 : w11.cell? ⟨gb331, 0, none⟩ = some (.int .i64 a0_0) := (blk_cell BK331.out 0).trans rfl; have hcz14_1 : w11.cell? ⟨gb331, 1, none⟩ = some (.int .i64 a0_1) := (blk_cell BK331.out 1).trans rfl; have hfz14_0 := blk_frozen BK331.out 0; have hfz14_1 := blk_frozen BK331.out 1; have hnb15 := NB332_333.out; have hnc15 := NB333_332.out; have hcz16_0 : w11.cell? ⟨gb332, 0, none⟩ = some (.int .i64 a1_0) := (blk_cell BK332.out 0).trans rfl; have hcz16_1 : w11.cell? ⟨gb332, 1, none⟩ = some (.int .i64 a1_1) := (blk_cell BK332.out 1).trans rfl; have hfz16_0 := blk_frozen BK332.out 0; have hfz16_1 := blk_frozen BK332.out 1; have hcz17_0 : w11.cell? ⟨gb333, 0, none⟩ = some (.int .i64 a2_0) := (blk_cell BK333.out 0).trans rfl; have hcz17_1 : w11.cell? ⟨gb333, 1, none⟩ = some (.int .i64 a2_1) := (blk_cell BK333.out 1).trans rfl; have hfz17_0 := blk_frozen BK333.out 0; have hfz17_1 := blk_frozen BK333.out 1) | ((with_reducible refine gate_callee (f := 19) rfl ?_); refine goesL_ (some 21) rfl rfl Try.func19 (by kernel_rfl) rfl #[.agg #[.int .i64 a0_0, .int .i64 a0_1], .agg #[.int .i64 a1_0, .int .i64 a1_1], .agg #[.int .i64 a2_0, .int .i64 a2_1]] rfl (by (try simp only [List.map_toArray, List.map_cons, List.map_nil]); first | done | rfl | (simp only [List.length_drop, List.length_take]; rfl)) ?_; (with_reducible refine (plane_Turn.calls a0_0 a0_1 a1_0 a1_1 a2_0 a2_1 t334 _ A7.out).mono ?_); rintro e w18 ⟨rfl, hb⟩; refine ⟨_, rfl, ?_⟩; have n0_ := Aside0.mk (blk_below (g := gb331) (o := .cells #[.int .i64 a0_0, .int .i64 a0_1] 23 (0, 0)) (by (with_reducible repeat (first | refine blk_drewN ?_ _ | refine blk_drew ?_ | refine blk_alloc ?_ _)); exact BK331.out) hb); have n1_ := Aside0.mk (blk_below (g := gb332) (o := .cells #[.int .i64 a1_0, .int .i64 a1_1] 23 (0, 0)) (by (with_reducible repeat (first | refine blk_drewN ?_ _ | refine blk_drew ?_ | refine blk_alloc ?_ _)); exact BK332.out) hb); have n2_ := Aside0.mk (blk_below (g := gb333) (o := .cells #[.int .i64 a2_0, .int .i64 a2_1] 23 (0, 0)) (by (with_reducible repeat (first | refine blk_drewN ?_ _ | refine blk_drew ?_ | refine blk_alloc ?_ _)); exact BK333.out) hb); have n3_ := Aside0.mk (below_step (by repeat (first | (with_reducible first | exact HB.out | apply below_alloc | apply pw_below_drewN | apply below_drew1 | refine below_set ?_ GE331.out | refine below_set ?_ GE332.out | refine below_set ?_ GE333.out) | exact HB.out)) hb); clear BK331; clear BK332; clear BK333; clear HB; have BK331 := n0_; have BK332 := n1_; have BK333 := n2_; have HB := n3_; clear n0_ n1_ n2_ n3_; (try clear hb); (try clear hb2); (try clear hk); (try clear hi)))
  (try simp only [Act.put, List.setIfInBounds_toArray, List.set_cons_zero, List.set_cons_succ])
  go_cut [54] (fun v54 wc => ∃ (kq : Nat) (x54_7 : Bool), v54 = .bool x54_7 ∧ Aside0 (boundstonelaw02_PlaneTurnsFair.j0 kq a3 a4 a5 t334 x54_7 a0_0 a0_1 a1_0 a1_1 a2_0 a2_1 = some r) ∧ Aside0 (kq ≤ k) ∧ Aside0 (wc.heap[gb331]? = some (.cells #[.int .i64 a0_0, .int .i64 a0_1] 23 (0, 0))) ∧ Aside0 (wc.heap[gb332]? = some (.cells #[.int .i64 a1_0, .int .i64 a1_1] 23 (0, 0))) ∧ Aside0 (wc.heap[gb333]? = some (.cells #[.int .i64 a2_0, .int .i64 a2_1] 23 (0, 0))) ∧ Aside0 (Below w.heap.size w wc))
  case first =>
    have H := HC8.out
    clear HC8
    replace H := Option.bind_eq_some_iff.mp H
    obtain ⟨t335, A190, H⟩ := H
    try dsimp only at H
    have A19 := Aside0.mk A190
    clear A190
    by_cases c20 : t334 = t335
    · rw [if_pos c20] at H
      have c20b0 : (t334 == t335) = true := beq_iff_eq.mpr c20
      have c20b1 : (t334 != t335) = false := bne_eq_false_iff_eq.mpr c20
      clear c20
      (first | rw [c20b0] | (simp only [i64_w, i32_w]; rw [c20b0]) | skip)
      replace H := Option.bind_eq_some_iff.mp H
      obtain ⟨t336, A210, H⟩ := H
      replace H : (if t334 = (wrap64 (-t336)) then ((plane_Turn.f a0_0 a0_1 a2_0 a2_1 a1_0 a1_1).bind fun t337 => (if t334 = (wrap64 (-t337)) then ((plane_Dist.f a0_0 a0_1 a1_0 a1_1).bind fun t338 => ((plane_Dist.f a1_0 a1_1 a0_0 a0_1).bind fun t339 => (boundstonelaw02_PlaneTurnsFair.j0 k a3 a4 a5 t334 (t338 != t339) a0_0 a0_1 a1_0 a1_1 a2_0 a2_1))) else (none))) else (none)) = some r := H
      have A21 := Aside0.mk A210
      clear A210
      by_cases c22 : t334 = (wrap64 (-t336))
      · rw [if_pos c22] at H
        have c22b0 : (t334 == (wrap64 (-t336))) = true := beq_iff_eq.mpr c22
        have c22b1 : (t334 != (wrap64 (-t336))) = false := bne_eq_false_iff_eq.mpr c22
        clear c22
        replace H := Option.bind_eq_some_iff.mp H
        obtain ⟨t337, A230, H⟩ := H
        replace H : (if t334 = (wrap64 (-t337)) then ((plane_Dist.f a0_0 a0_1 a1_0 a1_1).bind fun t338 => ((plane_Dist.f a1_0 a1_1 a0_0 a0_1).bind fun t339 => (boundstonelaw02_PlaneTurnsFair.j0 k a3 a4 a5 t334 (t338 != t339) a0_0 a0_1 a1_0 a1_1 a2_0 a2_1))) else (none)) = some r := H
        have A23 := Aside0.mk A230
        clear A230
        by_cases c24 : t334 = (wrap64 (-t337))
        · rw [if_pos c24] at H
          have c24b0 : (t334 == (wrap64 (-t337))) = true := beq_iff_eq.mpr c24
          have c24b1 : (t334 != (wrap64 (-t337))) = false := bne_eq_false_iff_eq.mpr c24
          clear c24
          replace H := Option.bind_eq_some_iff.mp H
          obtain ⟨t338, A250, H⟩ := H
          replace H : ((plane_Dist.f a1_0 a1_1 a0_0 a0_1).bind fun t339 => (boundstonelaw02_PlaneTurnsFair.j0 k a3 a4 a5 t334 (t338 != t339) a0_0 a0_1 a1_0 a1_1 a2_0 a2_1)) = some r := H
          have A25 := Aside0.mk A250
          clear A250
          replace H := Option.bind_eq_some_iff.mp H
          obtain ⟨t339, A260, H⟩ := H
          replace H : (boundstonelaw02_PlaneTurnsFair.j0 k a3 a4 a5 t334 (t338 != t339) a0_0 a0_1 a1_0 a1_1 a2_0 a2_1) = some r := H
          have A26 := Aside0.mk A260
          clear A260
          have H' := Aside0.mk H
          clear H
          try go_wp2
          have n0_ := Aside0.mk (blk_drew BK331.out)
          have n1_ := Aside0.mk (blk_drew BK332.out)
          have n2_ := Aside0.mk (blk_drew BK333.out)
          have n3_ := Aside0.mk (below_drew1 HB.out)
          clear BK331
          clear BK332
          clear BK333
          clear HB
          have BK331 := n0_
          have BK332 := n1_
          have BK333 := n2_
          have HB := n3_
          clear n0_ n1_ n2_ n3_
          refine start_ (n := 33) (S := fun w' => w'.cell? ⟨gb332, 0, none⟩ = some (.int .i64 a1_0) ∧ w'.cell? ⟨gb332, 1, none⟩ = some (.int .i64 a1_1) ∧ w'.cell? ⟨gb333, 0, none⟩ = some (.int .i64 a2_0) ∧ w'.cell? ⟨gb333, 1, none⟩ = some (.int .i64 a2_1) ∧ w'.cell? ⟨gb331, 0, none⟩ = some (.int .i64 a0_0) ∧ w'.cell? ⟨gb331, 1, none⟩ = some (.int .i64 a0_1)) (ds := []) #[false, false, false, false, false, false, false, false, false, false, false, false, false, false, false, false, false, false, false, false, false, false, false, false, false, false, false, false, false, false, false, false, false] (by kernel_rfl) rfl rfl ⟨(blk_cell BK332.out 0).trans rfl, (blk_cell BK332.out 1).trans rfl, (blk_cell BK333.out 0).trans rfl, (blk_cell BK333.out 1).trans rfl, (blk_cell BK331.out 0).trans rfl, (blk_cell BK331.out 1).trans rfl⟩ (fun hHeld => ?_); refine with_tabW boundstonelaw02_PlaneTurnsFair.tab2 boundstonelaw02_PlaneTurnsFair.bits2 (fun HT_ HW_ => ?_)
          generalize w18.drew = w27 at BK331 BK332 BK333 HB hHeld ⊢
          refine pure_ (i := 0) (N := some 22) (v := ?_) (a' := ?_) #[true, false, false, false, false, false, false, false, false, false, false, false, false, false, false, false, false, false, false, false, false, false, false, false, false, false, false, false, false, false, false, false, false] rfl rfl (any_of HT_.out (by kernel_rfl)) (fun _ _ _ h => h) (Or.inl ⟨by rfl, ?_⟩) ?_ ?_
          rotate_left
          · intro w'
            go_simp
            with_reducible rfl
          rotate_left
          · simp only [Act.put, List.setIfInBounds_toArray, List.set_cons_zero, List.set_cons_succ, i64_w, i32_w]
            rfl
          refine take_ (i := 1) (N := some 23) (v := ?_) (a' := ?_) #[true, true, false, false, false, false, false, false, false, false, false, false, false, false, false, false, false, false, false, false, false, false, false, false, false, false, false, false, false, false, false, false, false] rfl rfl (take_ofW HT_.out HW_.out (by kernel_rfl)) (fun _ _ _ h => h) (Or.inl ⟨by rfl, ?_⟩) hHeld ?_ ?_
          rotate_left
          · rintro w' ⟨s0, s1, s2, s3, s4, s5⟩
            go_simp
            with_reducible rfl
          rotate_left
          · simp only [Act.put, List.setIfInBounds_toArray, List.set_cons_zero, List.set_cons_succ, i64_w, i32_w]
            rfl
          refine take_ (i := 2) (N := some 24) (v := ?_) (a' := ?_) #[true, true, true, false, false, false, false, false, false, false, false, false, false, false, false, false, false, false, false, false, false, false, false, false, false, false, false, false, false, false, false, false, false] rfl rfl (take_ofW HT_.out HW_.out (by kernel_rfl)) (fun _ _ _ h => h) (Or.inl ⟨by rfl, ?_⟩) hHeld ?_ ?_
          rotate_left
          · rintro w' ⟨s0, s1, s2, s3, s4, s5⟩
            go_simp
            with_reducible rfl
          rotate_left
          · simp only [Act.put, List.setIfInBounds_toArray, List.set_cons_zero, List.set_cons_succ, i64_w, i32_w]
            rfl
          refine take_ (i := 3) (N := some 25) (v := ?_) (a' := ?_) #[true, true, true, true, false, false, false, false, false, false, false, false, false, false, false, false, false, false, false, false, false, false, false, false, false, false, false, false, false, false, false, false, false] rfl rfl (take_ofW HT_.out HW_.out (by kernel_rfl)) (fun _ _ _ h => h) (Or.inl ⟨by rfl, ?_⟩) hHeld ?_ ?_
          rotate_left
          · rintro w' ⟨s0, s1, s2, s3, s4, s5⟩
            go_simp
            with_reducible rfl
          rotate_left
          · simp only [Act.put, List.setIfInBounds_toArray, List.set_cons_zero, List.set_cons_succ, i64_w, i32_w]
            rfl
          refine one_ (i := 4) (N := some 26) #[true, true, true, true, true, false, false, false, false, false, false, false, false, false, false, false, false, false, false, false, false, false, false, false, false, false, false, false, false, false, false, false, false] rfl rfl (one_of HT_.out (by kernel_rfl)) (by decide) (fun K hK => ?_)
          refine goes_ Try.func19 (by kernel_rfl) rfl #[.agg #[.int .i64 a1_0, .int .i64 a1_1], .agg #[.int .i64 a2_0, .int .i64 a2_1], .agg #[.int .i64 a0_0, .int .i64 a0_1]] (by rfl) rfl rfl (by (try simp only [List.map_toArray, List.map_cons, List.map_nil]); first | done | rfl | (simp only [List.length_drop, List.length_take]; rfl)) ?_
          with_reducible refine (plane_Turn.calls a1_0 a1_1 a2_0 a2_1 a0_0 a0_1 t335 _ A19.out).mono ?_
          rintro e w28 ⟨rfl, hb⟩
          refine ⟨_, rfl, ?_⟩
          have n0_ := Aside0.mk (blk_below (g := gb331) (o := .cells #[.int .i64 a0_0, .int .i64 a0_1] 23 (0, 0)) (by (with_reducible repeat (first | refine blk_drewN ?_ _ | refine blk_drew ?_ | refine blk_alloc ?_ _)); exact BK331.out) hb)
          have n1_ := Aside0.mk (blk_below (g := gb332) (o := .cells #[.int .i64 a1_0, .int .i64 a1_1] 23 (0, 0)) (by (with_reducible repeat (first | refine blk_drewN ?_ _ | refine blk_drew ?_ | refine blk_alloc ?_ _)); exact BK332.out) hb)
          have n2_ := Aside0.mk (blk_below (g := gb333) (o := .cells #[.int .i64 a2_0, .int .i64 a2_1] 23 (0, 0)) (by (with_reducible repeat (first | refine blk_drewN ?_ _ | refine blk_drew ?_ | refine blk_alloc ?_ _)); exact BK333.out) hb)
          have n3_ := Aside0.mk (below_step (by repeat (first | (with_reducible first | exact HB.out | apply below_alloc | apply pw_below_drewN | apply below_drew1 | refine below_set ?_ GE331.out | refine below_set ?_ GE332.out | refine below_set ?_ GE333.out) | exact HB.out)) hb)
          clear BK331
          clear BK332
          clear BK333
          clear HB
          have BK331 := n0_
          have BK332 := n1_
          have BK333 := n2_
          have HB := n3_
          clear n0_ n1_ n2_ n3_
          (try clear hb)
          (try clear hb2)
          (try clear hk)
          (try clear hi)
          refine hK.out _ _ ⟨(blk_cell BK332.out 0).trans rfl, (blk_cell BK332.out 1).trans rfl, (blk_cell BK333.out 0).trans rfl, (blk_cell BK333.out 1).trans rfl, (blk_cell BK331.out 0).trans rfl, (blk_cell BK331.out 1).trans rfl⟩ (fun hHeld => ?_)
          clear hK K
          refine norm_ (a' := ?_) ?_ ?_
          rotate_left
          · show Act.put _ (some 26) _ = _
            simp only [Act.put, List.setIfInBounds_toArray, List.set_cons_zero, List.set_cons_succ, i64_w, i32_w]
            rfl
          refine pure_ (i := 5) (N := some 27) (v := ?_) (a' := ?_) #[true, true, true, true, true, true, false, false, false, false, false, false, false, false, false, false, false, false, false, false, false, false, false, false, false, false, false, false, false, false, false, false, false] rfl rfl (any_of HT_.out (by kernel_rfl)) (fun _ _ _ h => h) (Or.inl ⟨by rfl, ?_⟩) ?_ ?_
          rotate_left
          · intro w'
            go_simp
            with_reducible rfl
          rotate_left
          · simp only [Act.put, List.setIfInBounds_toArray, List.set_cons_zero, List.set_cons_succ, i64_w, i32_w]
            rfl
          refine pure_ (i := 6) (N := some 28) (v := ?_) (a' := ?_) #[true, true, true, true, true, true, true, false, false, false, false, false, false, false, false, false, false, false, false, false, false, false, false, false, false, false, false, false, false, false, false, false, false] rfl rfl (any_of HT_.out (by kernel_rfl)) (fun _ _ _ h => h) (Or.inl ⟨by rfl, ?_⟩) ?_ ?_
          rotate_left
          · intro w'
            go_simp
            with_reducible rfl
          rotate_left
          · simp only [Act.put, List.setIfInBounds_toArray, List.set_cons_zero, List.set_cons_succ, i64_w, i32_w]
            rfl
          refine pure_ (i := 7) (N := some 29) (v := ?_) (a' := ?_) #[true, true, true, true, true, true, true, true, false, false, false, false, false, false, false, false, false, false, false, false, false, false, false, false, false, false, false, false, false, false, false, false, false] rfl rfl (any_of HT_.out (by kernel_rfl)) (fun _ _ _ h => h) (Or.inl ⟨by rfl, ?_⟩) ?_ ?_
          rotate_left
          · intro w'
            go_simp
            with_reducible rfl
          rotate_left
          · simp only [Act.put, List.setIfInBounds_toArray, List.set_cons_zero, List.set_cons_succ, i64_w, i32_w]
            rfl
          refine take_ (i := 8) (N := some 30) (v := ?_) (a' := ?_) #[true, true, true, true, true, true, true, true, true, false, false, false, false, false, false, false, false, false, false, false, false, false, false, false, false, false, false, false, false, false, false, false, false] rfl rfl (take_ofW HT_.out HW_.out (by kernel_rfl)) (fun _ _ _ h => h) (Or.inl ⟨by rfl, ?_⟩) hHeld ?_ ?_
          rotate_left
          · rintro w' ⟨s0, s1, s2, s3, s4, s5⟩
            go_simp
            with_reducible rfl
          rotate_left
          · simp only [Act.put, List.setIfInBounds_toArray, List.set_cons_zero, List.set_cons_succ, i64_w, i32_w]
            rfl
          refine take_ (i := 9) (N := some 31) (v := ?_) (a' := ?_) #[true, true, true, true, true, true, true, true, true, true, false, false, false, false, false, false, false, false, false, false, false, false, false, false, false, false, false, false, false, false, false, false, false] rfl rfl (take_ofW HT_.out HW_.out (by kernel_rfl)) (fun _ _ _ h => h) (Or.inl ⟨by rfl, ?_⟩) hHeld ?_ ?_
          rotate_left
          · rintro w' ⟨s0, s1, s2, s3, s4, s5⟩
            go_simp
            with_reducible rfl
          rotate_left
          · simp only [Act.put, List.setIfInBounds_toArray, List.set_cons_zero, List.set_cons_succ, i64_w, i32_w]
            rfl
          refine take_ (i := 10) (N := some 32) (v := ?_) (a' := ?_) #[true, true, true, true, true, true, true, true, true, true, true, false, false, false, false, false, false, false, false, false, false, false, false, false, false, false, false, false, false, false, false, false, false] rfl rfl (take_ofW HT_.out HW_.out (by kernel_rfl)) (fun _ _ _ h => h) (Or.inl ⟨by rfl, ?_⟩) hHeld ?_ ?_
          rotate_left
          · rintro w' ⟨s0, s1, s2, s3, s4, s5⟩
            go_simp
            with_reducible rfl
          rotate_left
          · simp only [Act.put, List.setIfInBounds_toArray, List.set_cons_zero, List.set_cons_succ, i64_w, i32_w]
            rfl
          refine one_ (i := 11) (N := some 33) #[true, true, true, true, true, true, true, true, true, true, true, true, false, false, false, false, false, false, false, false, false, false, false, false, false, false, false, false, false, false, false, false, false] rfl rfl (one_of HT_.out (by kernel_rfl)) (by decide) (fun K hK => ?_)
          refine goes_ Try.func19 (by kernel_rfl) rfl #[.agg #[.int .i64 a1_0, .int .i64 a1_1], .agg #[.int .i64 a0_0, .int .i64 a0_1], .agg #[.int .i64 a2_0, .int .i64 a2_1]] (by rfl) rfl rfl (by (try simp only [List.map_toArray, List.map_cons, List.map_nil]); first | done | rfl | (simp only [List.length_drop, List.length_take]; rfl)) ?_
          with_reducible refine (plane_Turn.calls a1_0 a1_1 a0_0 a0_1 a2_0 a2_1 t336 _ A21.out).mono ?_
          rintro e w29 ⟨rfl, hb⟩
          refine ⟨_, rfl, ?_⟩
          have n0_ := Aside0.mk (blk_below (g := gb331) (o := .cells #[.int .i64 a0_0, .int .i64 a0_1] 23 (0, 0)) (by (with_reducible repeat (first | refine blk_drewN ?_ _ | refine blk_drew ?_ | refine blk_alloc ?_ _)); exact BK331.out) hb)
          have n1_ := Aside0.mk (blk_below (g := gb332) (o := .cells #[.int .i64 a1_0, .int .i64 a1_1] 23 (0, 0)) (by (with_reducible repeat (first | refine blk_drewN ?_ _ | refine blk_drew ?_ | refine blk_alloc ?_ _)); exact BK332.out) hb)
          have n2_ := Aside0.mk (blk_below (g := gb333) (o := .cells #[.int .i64 a2_0, .int .i64 a2_1] 23 (0, 0)) (by (with_reducible repeat (first | refine blk_drewN ?_ _ | refine blk_drew ?_ | refine blk_alloc ?_ _)); exact BK333.out) hb)
          have n3_ := Aside0.mk (below_step (by repeat (first | (with_reducible first | exact HB.out | apply below_alloc | apply pw_below_drewN | apply below_drew1 | refine below_set ?_ GE331.out | refine below_set ?_ GE332.out | refine below_set ?_ GE333.out) | exact HB.out)) hb)
          clear BK331
          clear BK332
          clear BK333
          clear HB
          have BK331 := n0_
          have BK332 := n1_
          have BK333 := n2_
          have HB := n3_
          clear n0_ n1_ n2_ n3_
          (try clear hb)
          (try clear hb2)
          (try clear hk)
          (try clear hi)
          refine hK.out _ _ ⟨(blk_cell BK332.out 0).trans rfl, (blk_cell BK332.out 1).trans rfl, (blk_cell BK333.out 0).trans rfl, (blk_cell BK333.out 1).trans rfl, (blk_cell BK331.out 0).trans rfl, (blk_cell BK331.out 1).trans rfl⟩ (fun hHeld => ?_)
          clear hK K
          refine norm_ (a' := ?_) ?_ ?_
          rotate_left
          · show Act.put _ (some 33) _ = _
            simp only [Act.put, List.setIfInBounds_toArray, List.set_cons_zero, List.set_cons_succ, i64_w, i32_w]
            rfl
          refine pure_ (i := 12) (N := some 34) (v := ?_) (a' := ?_) #[true, true, true, true, true, true, true, true, true, true, true, true, true, false, false, false, false, false, false, false, false, false, false, false, false, false, false, false, false, false, false, false, false] rfl rfl (any_of HT_.out (by kernel_rfl)) (fun _ _ _ h => h) (Or.inl ⟨by rfl, ?_⟩) ?_ ?_
          rotate_left
          · intro w'
            go_simp
            with_reducible rfl
          rotate_left
          · simp only [Act.put, List.setIfInBounds_toArray, List.set_cons_zero, List.set_cons_succ, i64_w, i32_w]
            rfl
          refine pure_ (i := 13) (N := some 35) (v := ?_) (a' := ?_) #[true, true, true, true, true, true, true, true, true, true, true, true, true, true, false, false, false, false, false, false, false, false, false, false, false, false, false, false, false, false, false, false, false] rfl rfl (any_of HT_.out (by kernel_rfl)) (fun _ _ _ h => h) (Or.inl ⟨by rfl, ?_⟩) ?_ ?_
          rotate_left
          · intro w'
            go_simp
            with_reducible rfl
          rotate_left
          · simp only [Act.put, List.setIfInBounds_toArray, List.set_cons_zero, List.set_cons_succ, i64_w, i32_w]
            rfl
          refine pure_ (i := 14) (N := some 36) (v := ?_) (a' := ?_) #[true, true, true, true, true, true, true, true, true, true, true, true, true, true, true, false, false, false, false, false, false, false, false, false, false, false, false, false, false, false, false, false, false] rfl rfl (any_of HT_.out (by kernel_rfl)) (fun _ _ _ h => h) (Or.inl ⟨by rfl, ?_⟩) ?_ ?_
          rotate_left
          · intro w'
            go_simp
            with_reducible rfl
          rotate_left
          · simp only [Act.put, List.setIfInBounds_toArray, List.set_cons_zero, List.set_cons_succ, i64_w, i32_w]
            rfl
          refine pure_ (i := 15) (N := some 37) (v := ?_) (a' := ?_) #[true, true, true, true, true, true, true, true, true, true, true, true, true, true, true, true, false, false, false, false, false, false, false, false, false, false, false, false, false, false, false, false, false] rfl rfl (any_of HT_.out (by kernel_rfl)) (fun _ _ _ h => h) (Or.inl ⟨by rfl, ?_⟩) ?_ ?_
          rotate_left
          · intro w'
            go_simp
            with_reducible rfl
          rotate_left
          · simp only [Act.put, List.setIfInBounds_toArray, List.set_cons_zero, List.set_cons_succ, i64_w, i32_w]
            rfl
          refine pure_ (i := 16) (N := some 38) (v := ?_) (a' := ?_) #[true, true, true, true, true, true, true, true, true, true, true, true, true, true, true, true, true, false, false, false, false, false, false, false, false, false, false, false, false, false, false, false, false] rfl rfl (any_of HT_.out (by kernel_rfl)) (fun _ _ _ h => h) (Or.inl ⟨by rfl, ?_⟩) ?_ ?_
          rotate_left
          · intro w'
            go_simp
            with_reducible rfl
          rotate_left
          · simp only [Act.put, List.setIfInBounds_toArray, List.set_cons_zero, List.set_cons_succ, i64_w, i32_w]
            rfl
          refine take_ (i := 17) (N := some 39) (v := ?_) (a' := ?_) #[true, true, true, true, true, true, true, true, true, true, true, true, true, true, true, true, true, true, false, false, false, false, false, false, false, false, false, false, false, false, false, false, false] rfl rfl (take_ofW HT_.out HW_.out (by kernel_rfl)) (fun _ _ _ h => h) (Or.inl ⟨by rfl, ?_⟩) hHeld ?_ ?_
          rotate_left
          · rintro w' ⟨s0, s1, s2, s3, s4, s5⟩
            go_simp
            with_reducible rfl
          rotate_left
          · simp only [Act.put, List.setIfInBounds_toArray, List.set_cons_zero, List.set_cons_succ, i64_w, i32_w]
            rfl
          refine take_ (i := 18) (N := some 40) (v := ?_) (a' := ?_) #[true, true, true, true, true, true, true, true, true, true, true, true, true, true, true, true, true, true, true, false, false, false, false, false, false, false, false, false, false, false, false, false, false] rfl rfl (take_ofW HT_.out HW_.out (by kernel_rfl)) (fun _ _ _ h => h) (Or.inl ⟨by rfl, ?_⟩) hHeld ?_ ?_
          rotate_left
          · rintro w' ⟨s0, s1, s2, s3, s4, s5⟩
            go_simp
            with_reducible rfl
          rotate_left
          · simp only [Act.put, List.setIfInBounds_toArray, List.set_cons_zero, List.set_cons_succ, i64_w, i32_w]
            rfl
          refine take_ (i := 19) (N := some 41) (v := ?_) (a' := ?_) #[true, true, true, true, true, true, true, true, true, true, true, true, true, true, true, true, true, true, true, true, false, false, false, false, false, false, false, false, false, false, false, false, false] rfl rfl (take_ofW HT_.out HW_.out (by kernel_rfl)) (fun _ _ _ h => h) (Or.inl ⟨by rfl, ?_⟩) hHeld ?_ ?_
          rotate_left
          · rintro w' ⟨s0, s1, s2, s3, s4, s5⟩
            go_simp
            with_reducible rfl
          rotate_left
          · simp only [Act.put, List.setIfInBounds_toArray, List.set_cons_zero, List.set_cons_succ, i64_w, i32_w]
            rfl
          refine one_ (i := 20) (N := some 42) #[true, true, true, true, true, true, true, true, true, true, true, true, true, true, true, true, true, true, true, true, true, false, false, false, false, false, false, false, false, false, false, false, false] rfl rfl (one_of HT_.out (by kernel_rfl)) (by decide) (fun K hK => ?_)
          refine goes_ Try.func19 (by kernel_rfl) rfl #[.agg #[.int .i64 a0_0, .int .i64 a0_1], .agg #[.int .i64 a2_0, .int .i64 a2_1], .agg #[.int .i64 a1_0, .int .i64 a1_1]] (by rfl) rfl rfl (by (try simp only [List.map_toArray, List.map_cons, List.map_nil]); first | done | rfl | (simp only [List.length_drop, List.length_take]; rfl)) ?_
          with_reducible refine (plane_Turn.calls a0_0 a0_1 a2_0 a2_1 a1_0 a1_1 t337 _ A23.out).mono ?_
          rintro e w30 ⟨rfl, hb⟩
          refine ⟨_, rfl, ?_⟩
          have n0_ := Aside0.mk (blk_below (g := gb331) (o := .cells #[.int .i64 a0_0, .int .i64 a0_1] 23 (0, 0)) (by (with_reducible repeat (first | refine blk_drewN ?_ _ | refine blk_drew ?_ | refine blk_alloc ?_ _)); exact BK331.out) hb)
          have n1_ := Aside0.mk (blk_below (g := gb332) (o := .cells #[.int .i64 a1_0, .int .i64 a1_1] 23 (0, 0)) (by (with_reducible repeat (first | refine blk_drewN ?_ _ | refine blk_drew ?_ | refine blk_alloc ?_ _)); exact BK332.out) hb)
          have n2_ := Aside0.mk (blk_below (g := gb333) (o := .cells #[.int .i64 a2_0, .int .i64 a2_1] 23 (0, 0)) (by (with_reducible repeat (first | refine blk_drewN ?_ _ | refine blk_drew ?_ | refine blk_alloc ?_ _)); exact BK333.out) hb)
          have n3_ := Aside0.mk (below_step (by repeat (first | (with_reducible first | exact HB.out | apply below_alloc | apply pw_below_drewN | apply below_drew1 | refine below_set ?_ GE331.out | refine below_set ?_ GE332.out | refine below_set ?_ GE333.out) | exact HB.out)) hb)
          clear BK331
          clear BK332
          clear BK333
          clear HB
          have BK331 := n0_
          have BK332 := n1_
          have BK333 := n2_
          have HB := n3_
          clear n0_ n1_ n2_ n3_
          (try clear hb)
          (try clear hb2)
          (try clear hk)
          (try clear hi)
          refine hK.out _ _ ⟨(blk_cell BK332.out 0).trans rfl, (blk_cell BK332.out 1).trans rfl, (blk_cell BK333.out 0).trans rfl, (blk_cell BK333.out 1).trans rfl, (blk_cell BK331.out 0).trans rfl, (blk_cell BK331.out 1).trans rfl⟩ (fun hHeld => ?_)
          clear hK K
          refine norm_ (a' := ?_) ?_ ?_
          rotate_left
          · show Act.put _ (some 42) _ = _
            simp only [Act.put, List.setIfInBounds_toArray, List.set_cons_zero, List.set_cons_succ, i64_w, i32_w]
            rfl
          refine pure_ (i := 21) (N := some 43) (v := ?_) (a' := ?_) #[true, true, true, true, true, true, true, true, true, true, true, true, true, true, true, true, true, true, true, true, true, true, false, false, false, false, false, false, false, false, false, false, false] rfl rfl (any_of HT_.out (by kernel_rfl)) (fun _ _ _ h => h) (Or.inl ⟨by rfl, ?_⟩) ?_ ?_
          rotate_left
          · intro w'
            go_simp
            with_reducible rfl
          rotate_left
          · simp only [Act.put, List.setIfInBounds_toArray, List.set_cons_zero, List.set_cons_succ, i64_w, i32_w]
            rfl
          refine pure_ (i := 22) (N := some 44) (v := ?_) (a' := ?_) #[true, true, true, true, true, true, true, true, true, true, true, true, true, true, true, true, true, true, true, true, true, true, true, false, false, false, false, false, false, false, false, false, false] rfl rfl (any_of HT_.out (by kernel_rfl)) (fun _ _ _ h => h) (Or.inl ⟨by rfl, ?_⟩) ?_ ?_
          rotate_left
          · intro w'
            go_simp
            with_reducible rfl
          rotate_left
          · simp only [Act.put, List.setIfInBounds_toArray, List.set_cons_zero, List.set_cons_succ, i64_w, i32_w]
            rfl
          refine pure_ (i := 23) (N := some 45) (v := ?_) (a' := ?_) #[true, true, true, true, true, true, true, true, true, true, true, true, true, true, true, true, true, true, true, true, true, true, true, true, false, false, false, false, false, false, false, false, false] rfl rfl (any_of HT_.out (by kernel_rfl)) (fun _ _ _ h => h) (Or.inl ⟨by rfl, ?_⟩) ?_ ?_
          rotate_left
          · intro w'
            go_simp
            with_reducible rfl
          rotate_left
          · simp only [Act.put, List.setIfInBounds_toArray, List.set_cons_zero, List.set_cons_succ, i64_w, i32_w]
            rfl
          refine pure_ (i := 24) (N := some 46) (v := ?_) (a' := ?_) #[true, true, true, true, true, true, true, true, true, true, true, true, true, true, true, true, true, true, true, true, true, true, true, true, true, false, false, false, false, false, false, false, false] rfl rfl (any_of HT_.out (by kernel_rfl)) (fun _ _ _ h => h) (Or.inl ⟨by rfl, ?_⟩) ?_ ?_
          rotate_left
          · intro w'
            go_simp
            with_reducible rfl
          rotate_left
          · simp only [Act.put, List.setIfInBounds_toArray, List.set_cons_zero, List.set_cons_succ, i64_w, i32_w]
            rfl
          refine take_ (i := 25) (N := some 47) (v := ?_) (a' := ?_) #[true, true, true, true, true, true, true, true, true, true, true, true, true, true, true, true, true, true, true, true, true, true, true, true, true, true, false, false, false, false, false, false, false] rfl rfl (take_ofW HT_.out HW_.out (by kernel_rfl)) (fun _ _ _ h => h) (Or.inl ⟨by rfl, ?_⟩) hHeld ?_ ?_
          rotate_left
          · rintro w' ⟨s0, s1, s2, s3, s4, s5⟩
            go_simp
            with_reducible rfl
          rotate_left
          · simp only [Act.put, List.setIfInBounds_toArray, List.set_cons_zero, List.set_cons_succ, i64_w, i32_w]
            rfl
          refine take_ (i := 26) (N := some 48) (v := ?_) (a' := ?_) #[true, true, true, true, true, true, true, true, true, true, true, true, true, true, true, true, true, true, true, true, true, true, true, true, true, true, true, false, false, false, false, false, false] rfl rfl (take_ofW HT_.out HW_.out (by kernel_rfl)) (fun _ _ _ h => h) (Or.inl ⟨by rfl, ?_⟩) hHeld ?_ ?_
          rotate_left
          · rintro w' ⟨s0, s1, s2, s3, s4, s5⟩
            go_simp
            with_reducible rfl
          rotate_left
          · simp only [Act.put, List.setIfInBounds_toArray, List.set_cons_zero, List.set_cons_succ, i64_w, i32_w]
            rfl
          refine take_ (i := 28) (N := some 50) (v := ?_) (a' := ?_) #[true, true, true, true, true, true, true, true, true, true, true, true, true, true, true, true, true, true, true, true, true, true, true, true, true, true, true, false, true, false, false, false, false] rfl rfl (take_ofW HT_.out HW_.out (by kernel_rfl)) (fun _ _ _ h => h) (Or.inl ⟨by rfl, ?_⟩) hHeld ?_ ?_
          rotate_left
          · rintro w' ⟨s0, s1, s2, s3, s4, s5⟩
            go_simp
            with_reducible rfl
          rotate_left
          · simp only [Act.put, List.setIfInBounds_toArray, List.set_cons_zero, List.set_cons_succ, i64_w, i32_w]
            rfl
          refine take_ (i := 29) (N := some 51) (v := ?_) (a' := ?_) #[true, true, true, true, true, true, true, true, true, true, true, true, true, true, true, true, true, true, true, true, true, true, true, true, true, true, true, false, true, true, false, false, false] rfl rfl (take_ofW HT_.out HW_.out (by kernel_rfl)) (fun _ _ _ h => h) (Or.inl ⟨by rfl, ?_⟩) hHeld ?_ ?_
          rotate_left
          · rintro w' ⟨s0, s1, s2, s3, s4, s5⟩
            go_simp
            with_reducible rfl
          rotate_left
          · simp only [Act.put, List.setIfInBounds_toArray, List.set_cons_zero, List.set_cons_succ, i64_w, i32_w]
            rfl
          refine one_ (i := 27) (N := some 49) #[true, true, true, true, true, true, true, true, true, true, true, true, true, true, true, true, true, true, true, true, true, true, true, true, true, true, true, true, true, true, false, false, false] rfl rfl (one_of HT_.out (by kernel_rfl)) (by decide) (fun K hK => ?_)
          refine goes_ Try.func21 (by kernel_rfl) rfl #[.agg #[.int .i64 a0_0, .int .i64 a0_1], .agg #[.int .i64 a1_0, .int .i64 a1_1]] (by rfl) rfl rfl (by (try simp only [List.map_toArray, List.map_cons, List.map_nil]); first | done | rfl | (simp only [List.length_drop, List.length_take]; rfl)) ?_
          with_reducible refine (plane_Dist.calls a0_0 a0_1 a1_0 a1_1 t338 _ A25.out).mono ?_
          rintro e w31 ⟨rfl, hb⟩
          refine ⟨_, rfl, ?_⟩
          have n0_ := Aside0.mk (blk_below (g := gb331) (o := .cells #[.int .i64 a0_0, .int .i64 a0_1] 23 (0, 0)) (by (with_reducible repeat (first | refine blk_drewN ?_ _ | refine blk_drew ?_ | refine blk_alloc ?_ _)); exact BK331.out) hb)
          have n1_ := Aside0.mk (blk_below (g := gb332) (o := .cells #[.int .i64 a1_0, .int .i64 a1_1] 23 (0, 0)) (by (with_reducible repeat (first | refine blk_drewN ?_ _ | refine blk_drew ?_ | refine blk_alloc ?_ _)); exact BK332.out) hb)
          have n2_ := Aside0.mk (blk_below (g := gb333) (o := .cells #[.int .i64 a2_0, .int .i64 a2_1] 23 (0, 0)) (by (with_reducible repeat (first | refine blk_drewN ?_ _ | refine blk_drew ?_ | refine blk_alloc ?_ _)); exact BK333.out) hb)
          have n3_ := Aside0.mk (below_step (by repeat (first | (with_reducible first | exact HB.out | apply below_alloc | apply pw_below_drewN | apply below_drew1 | refine below_set ?_ GE331.out | refine below_set ?_ GE332.out | refine below_set ?_ GE333.out) | exact HB.out)) hb)
          clear BK331
          clear BK332
          clear BK333
          clear HB
          have BK331 := n0_
          have BK332 := n1_
          have BK333 := n2_
          have HB := n3_
          clear n0_ n1_ n2_ n3_
          (try clear hb)
          (try clear hb2)
          (try clear hk)
          (try clear hi)
          refine hK.out _ _ ⟨(blk_cell BK332.out 0).trans rfl, (blk_cell BK332.out 1).trans rfl, (blk_cell BK333.out 0).trans rfl, (blk_cell BK333.out 1).trans rfl, (blk_cell BK331.out 0).trans rfl, (blk_cell BK331.out 1).trans rfl⟩ (fun hHeld => ?_)
          clear hK K
          refine norm_ (a' := ?_) ?_ ?_
          rotate_left
          · show Act.put _ (some 49) _ = _
            simp only [Act.put, List.setIfInBounds_toArray, List.set_cons_zero, List.set_cons_succ, i64_w, i32_w]
            rfl
          refine one_ (i := 30) (N := some 52) #[true, true, true, true, true, true, true, true, true, true, true, true, true, true, true, true, true, true, true, true, true, true, true, true, true, true, true, true, true, true, true, false, false] rfl rfl (one_of HT_.out (by kernel_rfl)) (by decide) (fun K hK => ?_)
          refine goes_ Try.func21 (by kernel_rfl) rfl #[.agg #[.int .i64 a1_0, .int .i64 a1_1], .agg #[.int .i64 a0_0, .int .i64 a0_1]] (by rfl) rfl rfl (by (try simp only [List.map_toArray, List.map_cons, List.map_nil]); first | done | rfl | (simp only [List.length_drop, List.length_take]; rfl)) ?_
          with_reducible refine (plane_Dist.calls a1_0 a1_1 a0_0 a0_1 t339 _ A26.out).mono ?_
          rintro e w32 ⟨rfl, hb⟩
          refine ⟨_, rfl, ?_⟩
          have n0_ := Aside0.mk (blk_below (g := gb331) (o := .cells #[.int .i64 a0_0, .int .i64 a0_1] 23 (0, 0)) (by (with_reducible repeat (first | refine blk_drewN ?_ _ | refine blk_drew ?_ | refine blk_alloc ?_ _)); exact BK331.out) hb)
          have n1_ := Aside0.mk (blk_below (g := gb332) (o := .cells #[.int .i64 a1_0, .int .i64 a1_1] 23 (0, 0)) (by (with_reducible repeat (first | refine blk_drewN ?_ _ | refine blk_drew ?_ | refine blk_alloc ?_ _)); exact BK332.out) hb)
          have n2_ := Aside0.mk (blk_below (g := gb333) (o := .cells #[.int .i64 a2_0, .int .i64 a2_1] 23 (0, 0)) (by (with_reducible repeat (first | refine blk_drewN ?_ _ | refine blk_drew ?_ | refine blk_alloc ?_ _)); exact BK333.out) hb)
          have n3_ := Aside0.mk (below_step (by repeat (first | (with_reducible first | exact HB.out | apply below_alloc | apply pw_below_drewN | apply below_drew1 | refine below_set ?_ GE331.out | refine below_set ?_ GE332.out | refine below_set ?_ GE333.out) | exact HB.out)) hb)
          clear BK331
          clear BK332
          clear BK333
          clear HB
          have BK331 := n0_
          have BK332 := n1_
          have BK333 := n2_
          have HB := n3_
          clear n0_ n1_ n2_ n3_
          (try clear hb)
          (try clear hb2)
          (try clear hk)
          (try clear hi)
          refine hK.out _ _ ⟨(blk_cell BK332.out 0).trans rfl, (blk_cell BK332.out 1).trans rfl, (blk_cell BK333.out 0).trans rfl, (blk_cell BK333.out 1).trans rfl, (blk_cell BK331.out 0).trans rfl, (blk_cell BK331.out 1).trans rfl⟩ (fun hHeld => ?_)
          clear hK K
          refine norm_ (a' := ?_) ?_ ?_
          rotate_left
          · show Act.put _ (some 52) _ = _
            simp only [Act.put, List.setIfInBounds_toArray, List.set_cons_zero, List.set_cons_succ, i64_w, i32_w]
            rfl
          refine pure_ (i := 31) (N := some 53) (v := ?_) (a' := ?_) #[true, true, true, true, true, true, true, true, true, true, true, true, true, true, true, true, true, true, true, true, true, true, true, true, true, true, true, true, true, true, true, true, false] rfl rfl (any_of HT_.out (by kernel_rfl)) (fun _ _ _ h => h) (Or.inl ⟨by rfl, ?_⟩) ?_ ?_
          rotate_left
          · intro w'
            go_simp
            with_reducible rfl
          rotate_left
          · simp only [Act.put, List.setIfInBounds_toArray, List.set_cons_zero, List.set_cons_succ, i64_w, i32_w]
            rfl
          refine pure_ (i := 32) (N := some 54) (v := ?_) (a' := ?_) #[true, true, true, true, true, true, true, true, true, true, true, true, true, true, true, true, true, true, true, true, true, true, true, true, true, true, true, true, true, true, true, true, true] rfl rfl (any_of HT_.out (by kernel_rfl)) (fun _ _ _ h => h) (Or.inl ⟨by rfl, ?_⟩) ?_ ?_
          rotate_left
          · intro w'
            go_simp
            with_reducible rfl
          rotate_left
          · simp only [Act.put, List.setIfInBounds_toArray, List.set_cons_zero, List.set_cons_succ, i64_w, i32_w]
            rfl
          refine done_ (done_of HT_.out (by kernel_rfl)) ?_
          try go_wp2
          go_meet
          case rel => exact ⟨_, ((t338 != t339)), (by first | rfl | (simp; done) | (simp [*]; done)), H', ⟨by first | omega | exact Nat.le_refl _⟩, ⟨by (with_reducible repeat (first | refine blk_drewN ?_ _ | refine blk_drew ?_ | refine blk_alloc ?_ _)); exact BK331.out⟩, ⟨by (with_reducible repeat (first | refine blk_drewN ?_ _ | refine blk_drew ?_ | refine blk_alloc ?_ _)); exact BK332.out⟩, ⟨by (with_reducible repeat (first | refine blk_drewN ?_ _ | refine blk_drew ?_ | refine blk_alloc ?_ _)); exact BK333.out⟩, ⟨by repeat (first | (with_reducible first | exact HB.out | apply below_alloc | apply pw_below_drewN | apply below_drew1 | refine below_set ?_ GE331.out | refine below_set ?_ GE332.out | refine below_set ?_ GE333.out) | exact HB.out)⟩⟩
        · rw [if_neg c24] at H
          exact absurd H (by simp)
      · rw [if_neg c22] at H
        exact absurd H (by simp)
    · rw [if_neg c20] at H
      exact absurd H (by simp)
  case rest =>
    clear HC8
    try clear c1
    try clear c2
    try clear p2
    try clear c4
    try clear p6
    try clear c12
    try clear c13
    try clear c15
    try clear c19
    try clear c20
    try clear c20b0
    try clear c20b1
    try clear c21
    try clear c22
    try clear c22b0
    try clear c22b1
    try clear c24
    try clear c24b0
    try clear c24b1
    try clear hcz14_0
    try clear hcz14_1
    try clear hcz16_0
    try clear hcz16_1
    try clear hcz17_0
    try clear hcz17_1
    try clear hfz14_0
    try clear hfz14_1
    try clear hfz16_0
    try clear hfz16_1
    try clear hfz17_0
    try clear hfz17_1
    obtain ⟨kq, x54_7, rfl, HA, HJ7, BK331, BK332, BK333, HB⟩ := hcut
    cases kq with
    | zero => exact absurd HA.out (by simp [boundstonelaw02_PlaneTurnsFair.j0])
    | succ kj7 =>
      have H := HA.out
      clear HA
      simp only [boundstonelaw02_PlaneTurnsFair.j0] at H
      by_cases c33 : x54_7 = true
      · subst c33
        have H1 : (none) = some r := by rw [if_pos rfl] at H; exact H
        clear H
        have H := H1
        clear H1
        exact absurd H (by simp)
      · replace c33 := Bool.eq_false_iff.mpr c33
        subst c33
        have H1 : ((plane_Root.f (wrap64 (a5))).bind fun t340 => (if t340 < 0 then (none) else (if (wrap64 (t340 * t340)) > (wrap64 (a5)) then (none) else (boundstonelaw02_PlaneTurnsFair.j1 kj7 a3 a4 t334 (decide ((wrap64 ((wrap64 (t340 + 1)) * (wrap64 (t340 + 1)))) ≤ (wrap64 (a5)))) a0_0 a0_1 a1_0 a1_1 a2_0 a2_1)))) = some r := by rw [if_neg (show ¬ (false = true) by decide)] at H; exact H
        clear H
        have H := H1
        clear H1
        replace H := Option.bind_eq_some_iff.mp H
        obtain ⟨t340, A340, H⟩ := H
        replace H : (if t340 < 0 then (none) else (if (wrap64 (t340 * t340)) > (wrap64 (a5)) then (none) else (boundstonelaw02_PlaneTurnsFair.j1 kj7 a3 a4 t334 (decide ((wrap64 ((wrap64 (t340 + 1)) * (wrap64 (t340 + 1)))) ≤ (wrap64 (a5)))) a0_0 a0_1 a1_0 a1_1 a2_0 a2_1))) = some r := H
        have A34 := Aside0.mk A340
        clear A340
        have HC35 := Aside0.mk H
        clear H
        go_upto_region 5 with (first | ((with_reducible refine gate_callee (f := 23) rfl ?_); refine goesL_ (some 57) rfl rfl Try.func23 (by kernel_rfl) rfl #[.int .i64 (wrap64 (a5))] rfl (by (try simp only [List.map_toArray, List.map_cons, List.map_nil]); first | done | rfl | (simp only [List.length_drop, List.length_take]; rfl)) ?_; (with_reducible refine (plane_Root.calls (wrap64 (a5)) t340 _ A34.out).mono ?_); rintro e w36 ⟨rfl, hb⟩; refine ⟨_, rfl, ?_⟩; have n0_ := Aside0.mk (blk_below (g := gb331) (o := .cells #[.int .i64 a0_0, .int .i64 a0_1] 23 (0, 0)) (by (with_reducible repeat (first | refine blk_drewN ?_ _ | refine blk_drew ?_ | refine blk_alloc ?_ _)); exact BK331.out) hb); have n1_ := Aside0.mk (blk_below (g := gb332) (o := .cells #[.int .i64 a1_0, .int .i64 a1_1] 23 (0, 0)) (by (with_reducible repeat (first | refine blk_drewN ?_ _ | refine blk_drew ?_ | refine blk_alloc ?_ _)); exact BK332.out) hb); have n2_ := Aside0.mk (blk_below (g := gb333) (o := .cells #[.int .i64 a2_0, .int .i64 a2_1] 23 (0, 0)) (by (with_reducible repeat (first | refine blk_drewN ?_ _ | refine blk_drew ?_ | refine blk_alloc ?_ _)); exact BK333.out) hb); have n3_ := Aside0.mk (below_step (by repeat (first | (with_reducible first | exact HB.out | apply below_alloc | apply pw_below_drewN | apply below_drew1 | refine below_set ?_ GE331.out | refine below_set ?_ GE332.out | refine below_set ?_ GE333.out) | exact HB.out)) hb); clear BK331; clear BK332; clear BK333; clear HB; have BK331 := n0_; have BK332 := n1_; have BK333 := n2_; have HB := n3_; clear n0_ n1_ n2_ n3_; (try clear hb); (try clear hb2); (try clear hk); (try clear hi)))
        (try simp only [Act.put, List.setIfInBounds_toArray, List.set_cons_zero, List.set_cons_succ])
        go_cut [77] (fun v77 wc => ∃ (kq : Nat) (x77_34 : Bool), v77 = .bool x77_34 ∧ Aside0 (boundstonelaw02_PlaneTurnsFair.j1 kq a3 a4 t334 x77_34 a0_0 a0_1 a1_0 a1_1 a2_0 a2_1 = some r) ∧ Aside0 (kq ≤ kj7) ∧ Aside0 (wc.heap[gb331]? = some (.cells #[.int .i64 a0_0, .int .i64 a0_1] 23 (0, 0))) ∧ Aside0 (wc.heap[gb332]? = some (.cells #[.int .i64 a1_0, .int .i64 a1_1] 23 (0, 0))) ∧ Aside0 (wc.heap[gb333]? = some (.cells #[.int .i64 a2_0, .int .i64 a2_1] 23 (0, 0))) ∧ Aside0 (Below w.heap.size w wc))
        case first =>
          have H := HC35.out
          clear HC35
          by_cases c37 : t340 < 0
          · rw [if_pos c37] at H
            exact absurd H (by simp)
          · rw [if_neg c37] at H
            have c37b0 : decide (t340 < 0) = false := decide_eq_false c37
            clear c37
            (first | rw [c37b0] | (simp only [i64_w, i32_w]; rw [c37b0]) | skip)
            by_cases c38 : (wrap64 (t340 * t340)) > (wrap64 (a5))
            · rw [if_pos c38] at H
              exact absurd H (by simp)
            · rw [if_neg c38] at H
              have c38b0 : decide ((wrap64 (a5)) < (wrap64 (t340 * t340))) = false := decide_eq_false c38
              clear c38
              have H' := Aside0.mk H
              clear H
              go_wp2
              go_meet
              case rel => exact ⟨_, (decide ((wrap64 ((wrap64 (t340 + 1)) * (wrap64 (t340 + 1)))) ≤ (wrap64 (a5)))), (by first | rfl | (simp; done) | (simp [*]; done)), H', ⟨by have := HJ7.out; first | omega | exact Nat.le_refl _⟩, ⟨by (with_reducible repeat (first | refine blk_drewN ?_ _ | refine blk_drew ?_ | refine blk_alloc ?_ _)); exact BK331.out⟩, ⟨by (with_reducible repeat (first | refine blk_drewN ?_ _ | refine blk_drew ?_ | refine blk_alloc ?_ _)); exact BK332.out⟩, ⟨by (with_reducible repeat (first | refine blk_drewN ?_ _ | refine blk_drew ?_ | refine blk_alloc ?_ _)); exact BK333.out⟩, ⟨by repeat (first | (with_reducible first | exact HB.out | apply below_alloc | apply pw_below_drewN | apply below_drew1 | refine below_set ?_ GE331.out | refine below_set ?_ GE332.out | refine below_set ?_ GE333.out) | exact HB.out)⟩⟩
        case rest =>
          clear HC35
          try clear c1
          try clear c2
          try clear p2
          try clear c3
          try clear c4
          try clear p6
          try clear c12
          try clear c13
          try clear c15
          try clear c19
          try clear c20
          try clear c20b0
          try clear c20b1
          try clear c21
          try clear c22
          try clear c22b0
          try clear c22b1
          try clear c23
          try clear c24
          try clear c24b0
          try clear c24b1
          try clear c33
          try clear c37
          try clear c37b0
          try clear c38
          try clear c38b0
          try clear hcz14_0
          try clear hcz14_1
          try clear hcz16_0
          try clear hcz16_1
          try clear hcz17_0
          try clear hcz17_1
          try clear hfz14_0
          try clear hfz14_1
          try clear hfz16_0
          try clear hfz16_1
          try clear hfz17_0
          try clear hfz17_1
          try clear p2
          try clear p6
          obtain ⟨kq, x77_34, rfl, HA, HJ34, BK331, BK332, BK333, HB⟩ := hcut
          cases kq with
          | zero => exact absurd HA.out (by simp [boundstonelaw02_PlaneTurnsFair.j1])
          | succ kj34 =>
            have H := HA.out
            clear HA
            simp only [boundstonelaw02_PlaneTurnsFair.j1] at H
            by_cases c39 : x77_34 = true
            · subst c39
              have H1 : (none) = some r := by rw [if_pos rfl] at H; exact H
              clear H
              have H := H1
              clear H1
              exact absurd H (by simp)
            · replace c39 := Bool.eq_false_iff.mpr c39
              subst c39
              have H1 : ((plane_Valid.f a0_0 a0_1).bind fun t341 => (if t341 = true then ((plane_Valid.f a1_0 a1_1).bind fun t342 => (if t342 = true then ((plane_Valid.f a2_0 a2_1).bind fun t343 => (if t343 = true then (if a3 < (-1000) then (boundstonelaw02_PlaneTurnsFair.j2 kj34 a3 a4 t334 true a0_0 a0_1 a1_0 a1_1 a2_0 a2_1) else (if a3 > 1000 then (boundstonelaw02_PlaneTurnsFair.j2 kj34 a3 a4 t334 true a0_0 a0_1 a1_0 a1_1 a2_0 a2_1) else (if a4 < (-1000) then (boundstonelaw02_PlaneTurnsFair.j2 kj34 a3 a4 t334 true a0_0 a0_1 a1_0 a1_1 a2_0 a2_1) else (boundstonelaw02_PlaneTurnsFair.j2 kj34 a3 a4 t334 (decide (a4 > 1000)) a0_0 a0_1 a1_0 a1_1 a2_0 a2_1)))) else (boundstonelaw02_PlaneTurnsFair.j2 kj34 a3 a4 t334 true a0_0 a0_1 a1_0 a1_1 a2_0 a2_1))) else (boundstonelaw02_PlaneTurnsFair.j2 kj34 a3 a4 t334 true a0_0 a0_1 a1_0 a1_1 a2_0 a2_1))) else (boundstonelaw02_PlaneTurnsFair.j2 kj34 a3 a4 t334 true a0_0 a0_1 a1_0 a1_1 a2_0 a2_1))) = some r := by rw [if_neg (show ¬ (false = true) by decide)] at H; exact H
              clear H
              have H := H1
              clear H1
              have HC40 := Aside0.mk H
              clear H
              go_upto_region 7 with (fail)
              go_cut [106] (fun v106 wc => ∃ (kq : Nat) (x106_39 : Bool), v106 = .bool x106_39 ∧ Aside0 (boundstonelaw02_PlaneTurnsFair.j2 kq a3 a4 t334 x106_39 a0_0 a0_1 a1_0 a1_1 a2_0 a2_1 = some r) ∧ Aside0 (kq ≤ kj34) ∧ Aside0 (wc.heap[gb331]? = some (.cells #[.int .i64 a0_0, .int .i64 a0_1] 23 (0, 0))) ∧ Aside0 (wc.heap[gb332]? = some (.cells #[.int .i64 a1_0, .int .i64 a1_1] 23 (0, 0))) ∧ Aside0 (wc.heap[gb333]? = some (.cells #[.int .i64 a2_0, .int .i64 a2_1] 23 (0, 0))) ∧ Aside0 (Below w.heap.size w wc))
              case first =>
                have H := HC40.out
                clear HC40
                replace H := Option.bind_eq_some_iff.mp H
                obtain ⟨t341, A410, H⟩ := H
                try dsimp only at H
                have A41 := Aside0.mk A410
                clear A410
                by_cases c42 : t341 = true
                · subst c42
                  have H1 : ((plane_Valid.f a1_0 a1_1).bind fun t342 => (if t342 = true then ((plane_Valid.f a2_0 a2_1).bind fun t343 => (if t343 = true then (if a3 < (-1000) then (boundstonelaw02_PlaneTurnsFair.j2 kj34 a3 a4 t334 true a0_0 a0_1 a1_0 a1_1 a2_0 a2_1) else (if a3 > 1000 then (boundstonelaw02_PlaneTurnsFair.j2 kj34 a3 a4 t334 true a0_0 a0_1 a1_0 a1_1 a2_0 a2_1) else (if a4 < (-1000) then (boundstonelaw02_PlaneTurnsFair.j2 kj34 a3 a4 t334 true a0_0 a0_1 a1_0 a1_1 a2_0 a2_1) else (boundstonelaw02_PlaneTurnsFair.j2 kj34 a3 a4 t334 (decide (a4 > 1000)) a0_0 a0_1 a1_0 a1_1 a2_0 a2_1)))) else (boundstonelaw02_PlaneTurnsFair.j2 kj34 a3 a4 t334 true a0_0 a0_1 a1_0 a1_1 a2_0 a2_1))) else (boundstonelaw02_PlaneTurnsFair.j2 kj34 a3 a4 t334 true a0_0 a0_1 a1_0 a1_1 a2_0 a2_1))) = some r := by rw [if_pos rfl] at H; exact H
                  clear H
                  have H := H1
                  clear H1
                  replace H := Option.bind_eq_some_iff.mp H
                  obtain ⟨t342, A430, H⟩ := H
                  try dsimp only at H
                  have A43 := Aside0.mk A430
                  clear A430
                  by_cases c44 : t342 = true
                  · subst c44
                    have H1 : ((plane_Valid.f a2_0 a2_1).bind fun t343 => (if t343 = true then (if a3 < (-1000) then (boundstonelaw02_PlaneTurnsFair.j2 kj34 a3 a4 t334 true a0_0 a0_1 a1_0 a1_1 a2_0 a2_1) else (if a3 > 1000 then (boundstonelaw02_PlaneTurnsFair.j2 kj34 a3 a4 t334 true a0_0 a0_1 a1_0 a1_1 a2_0 a2_1) else (if a4 < (-1000) then (boundstonelaw02_PlaneTurnsFair.j2 kj34 a3 a4 t334 true a0_0 a0_1 a1_0 a1_1 a2_0 a2_1) else (boundstonelaw02_PlaneTurnsFair.j2 kj34 a3 a4 t334 (decide (a4 > 1000)) a0_0 a0_1 a1_0 a1_1 a2_0 a2_1)))) else (boundstonelaw02_PlaneTurnsFair.j2 kj34 a3 a4 t334 true a0_0 a0_1 a1_0 a1_1 a2_0 a2_1))) = some r := by rw [if_pos rfl] at H; exact H
                    clear H
                    have H := H1
                    clear H1
                    replace H := Option.bind_eq_some_iff.mp H
                    obtain ⟨t343, A450, H⟩ := H
                    try dsimp only at H
                    have A45 := Aside0.mk A450
                    clear A450
                    by_cases c46 : t343 = true
                    · subst c46
                      have H1 : (if a3 < (-1000) then (boundstonelaw02_PlaneTurnsFair.j2 kj34 a3 a4 t334 true a0_0 a0_1 a1_0 a1_1 a2_0 a2_1) else (if a3 > 1000 then (boundstonelaw02_PlaneTurnsFair.j2 kj34 a3 a4 t334 true a0_0 a0_1 a1_0 a1_1 a2_0 a2_1) else (if a4 < (-1000) then (boundstonelaw02_PlaneTurnsFair.j2 kj34 a3 a4 t334 true a0_0 a0_1 a1_0 a1_1 a2_0 a2_1) else (boundstonelaw02_PlaneTurnsFair.j2 kj34 a3 a4 t334 (decide (a4 > 1000)) a0_0 a0_1 a1_0 a1_1 a2_0 a2_1)))) = some r := by rw [if_pos rfl] at H; exact H
                      clear H
                      have H := H1
                      clear H1
                      by_cases c47 : a3 < (-1000)
                      · rw [if_pos c47] at H
                        have c47b0 : decide (a3 < (-1000)) = true := decide_eq_true c47
                        clear c47
                        (first | rw [c47b0] | (simp only [i64_w, i32_w]; rw [c47b0]) | skip)
                        have H' := Aside0.mk H
                        clear H
                        have hnb48 := NB331_332.out
                        have hnc48 := NB332_331.out
                        have hnb49 := NB331_333.out
                        have hnc49 := NB333_331.out
                        have hcz50_0 : wc.cell? ⟨gb331, 0, none⟩ = some (.int .i64 a0_0) := (blk_cell BK331.out 0).trans rfl
                        have hcz50_1 : wc.cell? ⟨gb331, 1, none⟩ = some (.int .i64 a0_1) := (blk_cell BK331.out 1).trans rfl
                        have hfz50_0 := blk_frozen BK331.out 0
                        have hfz50_1 := blk_frozen BK331.out 1
                        go_wp2_with (first | ((with_reducible refine gate_callee (f := 17) rfl ?_); refine goesL_ (some 79) rfl rfl Try.func17 (by kernel_rfl) rfl #[.agg #[.int .i64 a0_0, .int .i64 a0_1]] rfl (by (try simp only [List.map_toArray, List.map_cons, List.map_nil]); first | done | rfl | (simp only [List.length_drop, List.length_take]; rfl)) ?_; (with_reducible refine (plane_Valid.calls a0_0 a0_1 true _ A41.out).mono ?_); rintro e w51 ⟨rfl, hb⟩; refine ⟨_, rfl, ?_⟩; have n0_ := Aside0.mk (blk_below (g := gb331) (o := .cells #[.int .i64 a0_0, .int .i64 a0_1] 23 (0, 0)) (by (with_reducible repeat (first | refine blk_drewN ?_ _ | refine blk_drew ?_ | refine blk_alloc ?_ _)); exact BK331.out) hb); have n1_ := Aside0.mk (blk_below (g := gb332) (o := .cells #[.int .i64 a1_0, .int .i64 a1_1] 23 (0, 0)) (by (with_reducible repeat (first | refine blk_drewN ?_ _ | refine blk_drew ?_ | refine blk_alloc ?_ _)); exact BK332.out) hb); have n2_ := Aside0.mk (blk_below (g := gb333) (o := .cells #[.int .i64 a2_0, .int .i64 a2_1] 23 (0, 0)) (by (with_reducible repeat (first | refine blk_drewN ?_ _ | refine blk_drew ?_ | refine blk_alloc ?_ _)); exact BK333.out) hb); have n3_ := Aside0.mk (below_step (by repeat (first | (with_reducible first | exact HB.out | apply below_alloc | apply pw_below_drewN | apply below_drew1 | refine below_set ?_ GE331.out | refine below_set ?_ GE332.out | refine below_set ?_ GE333.out) | exact HB.out)) hb); clear BK331; clear BK332; clear BK333; clear HB; have BK331 := n0_; have BK332 := n1_; have BK333 := n2_; have HB := n3_; clear n0_ n1_ n2_ n3_; (try clear hb); (try clear hb2); (try clear hk); (try clear hi); have hnb52 := NB332_333.out; have hnc52 := NB333_332.out; have hcz53_0 : w51.cell? ⟨gb332, 0, none⟩ = some (.int .i64 a1_0) := (blk_cell BK332.out 0).trans rfl; have hcz53_1 : w51.cell? ⟨gb332, 1, none⟩ = some (.int .i64 a1_1) := (blk_cell BK332.out 1).trans rfl; have hfz53_0 := blk_frozen BK332.out 0; have hfz53_1 := blk_frozen BK332.out 1) | (go_at_call 17; (with_reducible refine (plane_Valid.calls a1_0 a1_1 true _ A43.out).mono ?_); rintro e w54 ⟨rfl, hb⟩; have n0_ := Aside0.mk (blk_below (g := gb331) (o := .cells #[.int .i64 a0_0, .int .i64 a0_1] 23 (0, 0)) (by (with_reducible repeat (first | refine blk_drewN ?_ _ | refine blk_drew ?_ | refine blk_alloc ?_ _)); exact BK331.out) hb); have n1_ := Aside0.mk (blk_below (g := gb332) (o := .cells #[.int .i64 a1_0, .int .i64 a1_1] 23 (0, 0)) (by (with_reducible repeat (first | refine blk_drewN ?_ _ | refine blk_drew ?_ | refine blk_alloc ?_ _)); exact BK332.out) hb); have n2_ := Aside0.mk (blk_below (g := gb333) (o := .cells #[.int .i64 a2_0, .int .i64 a2_1] 23 (0, 0)) (by (with_reducible repeat (first | refine blk_drewN ?_ _ | refine blk_drew ?_ | refine blk_alloc ?_ _)); exact BK333.out) hb); have n3_ := Aside0.mk (below_step (by repeat (first | (with_reducible first | exact HB.out | apply below_alloc | apply pw_below_drewN | apply below_drew1 | refine below_set ?_ GE331.out | refine below_set ?_ GE332.out | refine below_set ?_ GE333.out) | exact HB.out)) hb); clear BK331; clear BK332; clear BK333; clear HB; have BK331 := n0_; have BK332 := n1_; have BK333 := n2_; have HB := n3_; clear n0_ n1_ n2_ n3_; (try clear hb); (try clear hb2); (try clear hk); (try clear hi); have hcz55_0 : w54.cell? ⟨gb333, 0, none⟩ = some (.int .i64 a2_0) := (blk_cell BK333.out 0).trans rfl; have hcz55_1 : w54.cell? ⟨gb333, 1, none⟩ = some (.int .i64 a2_1) := (blk_cell BK333.out 1).trans rfl; have hfz55_0 := blk_frozen BK333.out 0; have hfz55_1 := blk_frozen BK333.out 1) | (go_at_call 17; (with_reducible refine (plane_Valid.calls a2_0 a2_1 true _ A45.out).mono ?_); rintro e w56 ⟨rfl, hb⟩; have n0_ := Aside0.mk (blk_below (g := gb331) (o := .cells #[.int .i64 a0_0, .int .i64 a0_1] 23 (0, 0)) (by (with_reducible repeat (first | refine blk_drewN ?_ _ | refine blk_drew ?_ | refine blk_alloc ?_ _)); exact BK331.out) hb); have n1_ := Aside0.mk (blk_below (g := gb332) (o := .cells #[.int .i64 a1_0, .int .i64 a1_1] 23 (0, 0)) (by (with_reducible repeat (first | refine blk_drewN ?_ _ | refine blk_drew ?_ | refine blk_alloc ?_ _)); exact BK332.out) hb); have n2_ := Aside0.mk (blk_below (g := gb333) (o := .cells #[.int .i64 a2_0, .int .i64 a2_1] 23 (0, 0)) (by (with_reducible repeat (first | refine blk_drewN ?_ _ | refine blk_drew ?_ | refine blk_alloc ?_ _)); exact BK333.out) hb); have n3_ := Aside0.mk (below_step (by repeat (first | (with_reducible first | exact HB.out | apply below_alloc | apply pw_below_drewN | apply below_drew1 | refine below_set ?_ GE331.out | refine below_set ?_ GE332.out | refine below_set ?_ GE333.out) | exact HB.out)) hb); clear BK331; clear BK332; clear BK333; clear HB; have BK331 := n0_; have BK332 := n1_; have BK333 := n2_; have HB := n3_; clear n0_ n1_ n2_ n3_; (try clear hb); (try clear hb2); (try clear hk); (try clear hi)))
                        go_meet
                        case rel => exact ⟨_, (true), (by first | rfl | (simp; done) | (simp [*]; done)), H', ⟨by have := HJ7.out; have := HJ34.out; first | omega | exact Nat.le_refl _⟩, ⟨by (with_reducible repeat (first | refine blk_drewN ?_ _ | refine blk_drew ?_ | refine blk_alloc ?_ _)); exact BK331.out⟩, ⟨by (with_reducible repeat (first | refine blk_drewN ?_ _ | refine blk_drew ?_ | refine blk_alloc ?_ _)); exact BK332.out⟩, ⟨by (with_reducible repeat (first | refine blk_drewN ?_ _ | refine blk_drew ?_ | refine blk_alloc ?_ _)); exact BK333.out⟩, ⟨by repeat (first | (with_reducible first | exact HB.out | apply below_alloc | apply pw_below_drewN | apply below_drew1 | refine below_set ?_ GE331.out | refine below_set ?_ GE332.out | refine below_set ?_ GE333.out) | exact HB.out)⟩⟩
                      · rw [if_neg c47] at H
                        have c47b0 : decide (a3 < (-1000)) = false := decide_eq_false c47
                        clear c47
                        (first | rw [c47b0] | (simp only [i64_w, i32_w]; rw [c47b0]) | skip)
                        by_cases c57 : a3 > 1000
                        · rw [if_pos c57] at H
                          have c57b0 : decide (1000 < a3) = true := decide_eq_true c57
                          clear c57
                          have H' := Aside0.mk H
                          clear H
                          have hnb58 := NB331_332.out
                          have hnc58 := NB332_331.out
                          have hnb59 := NB331_333.out
                          have hnc59 := NB333_331.out
                          have hcz60_0 : wc.cell? ⟨gb331, 0, none⟩ = some (.int .i64 a0_0) := (blk_cell BK331.out 0).trans rfl
                          have hcz60_1 : wc.cell? ⟨gb331, 1, none⟩ = some (.int .i64 a0_1) := (blk_cell BK331.out 1).trans rfl
                          have hfz60_0 := blk_frozen BK331.out 0
                          have hfz60_1 := blk_frozen BK331.out 1
                          go_wp2_with (first | ((with_reducible refine gate_callee (f := 17) rfl ?_); refine goesL_ (some 79) rfl rfl Try.func17 (by kernel_rfl) rfl #[.agg #[.int .i64 a0_0, .int .i64 a0_1]] rfl (by (try simp only [List.map_toArray, List.map_cons, List.map_nil]); first | done | rfl | (simp only [List.length_drop, List.length_take]; rfl)) ?_; (with_reducible refine (plane_Valid.calls a0_0 a0_1 true _ A41.out).mono ?_); rintro e w61 ⟨rfl, hb⟩; refine ⟨_, rfl, ?_⟩; have n0_ := Aside0.mk (blk_below (g := gb331) (o := .cells #[.int .i64 a0_0, .int .i64 a0_1] 23 (0, 0)) (by (with_reducible repeat (first | refine blk_drewN ?_ _ | refine blk_drew ?_ | refine blk_alloc ?_ _)); exact BK331.out) hb); have n1_ := Aside0.mk (blk_below (g := gb332) (o := .cells #[.int .i64 a1_0, .int .i64 a1_1] 23 (0, 0)) (by (with_reducible repeat (first | refine blk_drewN ?_ _ | refine blk_drew ?_ | refine blk_alloc ?_ _)); exact BK332.out) hb); have n2_ := Aside0.mk (blk_below (g := gb333) (o := .cells #[.int .i64 a2_0, .int .i64 a2_1] 23 (0, 0)) (by (with_reducible repeat (first | refine blk_drewN ?_ _ | refine blk_drew ?_ | refine blk_alloc ?_ _)); exact BK333.out) hb); have n3_ := Aside0.mk (below_step (by repeat (first | (with_reducible first | exact HB.out | apply below_alloc | apply pw_below_drewN | apply below_drew1 | refine below_set ?_ GE331.out | refine below_set ?_ GE332.out | refine below_set ?_ GE333.out) | exact HB.out)) hb); clear BK331; clear BK332; clear BK333; clear HB; have BK331 := n0_; have BK332 := n1_; have BK333 := n2_; have HB := n3_; clear n0_ n1_ n2_ n3_; (try clear hb); (try clear hb2); (try clear hk); (try clear hi); have hnb62 := NB332_333.out; have hnc62 := NB333_332.out; have hcz63_0 : w61.cell? ⟨gb332, 0, none⟩ = some (.int .i64 a1_0) := (blk_cell BK332.out 0).trans rfl; have hcz63_1 : w61.cell? ⟨gb332, 1, none⟩ = some (.int .i64 a1_1) := (blk_cell BK332.out 1).trans rfl; have hfz63_0 := blk_frozen BK332.out 0; have hfz63_1 := blk_frozen BK332.out 1) | (go_at_call 17; (with_reducible refine (plane_Valid.calls a1_0 a1_1 true _ A43.out).mono ?_); rintro e w64 ⟨rfl, hb⟩; have n0_ := Aside0.mk (blk_below (g := gb331) (o := .cells #[.int .i64 a0_0, .int .i64 a0_1] 23 (0, 0)) (by (with_reducible repeat (first | refine blk_drewN ?_ _ | refine blk_drew ?_ | refine blk_alloc ?_ _)); exact BK331.out) hb); have n1_ := Aside0.mk (blk_below (g := gb332) (o := .cells #[.int .i64 a1_0, .int .i64 a1_1] 23 (0, 0)) (by (with_reducible repeat (first | refine blk_drewN ?_ _ | refine blk_drew ?_ | refine blk_alloc ?_ _)); exact BK332.out) hb); have n2_ := Aside0.mk (blk_below (g := gb333) (o := .cells #[.int .i64 a2_0, .int .i64 a2_1] 23 (0, 0)) (by (with_reducible repeat (first | refine blk_drewN ?_ _ | refine blk_drew ?_ | refine blk_alloc ?_ _)); exact BK333.out) hb); have n3_ := Aside0.mk (below_step (by repeat (first | (with_reducible first | exact HB.out | apply below_alloc | apply pw_below_drewN | apply below_drew1 | refine below_set ?_ GE331.out | refine below_set ?_ GE332.out | refine below_set ?_ GE333.out) | exact HB.out)) hb); clear BK331; clear BK332; clear BK333; clear HB; have BK331 := n0_; have BK332 := n1_; have BK333 := n2_; have HB := n3_; clear n0_ n1_ n2_ n3_; (try clear hb); (try clear hb2); (try clear hk); (try clear hi); have hcz65_0 : w64.cell? ⟨gb333, 0, none⟩ = some (.int .i64 a2_0) := (blk_cell BK333.out 0).trans rfl; have hcz65_1 : w64.cell? ⟨gb333, 1, none⟩ = some (.int .i64 a2_1) := (blk_cell BK333.out 1).trans rfl; have hfz65_0 := blk_frozen BK333.out 0; have hfz65_1 := blk_frozen BK333.out 1) | (go_at_call 17; (with_reducible refine (plane_Valid.calls a2_0 a2_1 true _ A45.out).mono ?_); rintro e w66 ⟨rfl, hb⟩; have n0_ := Aside0.mk (blk_below (g := gb331) (o := .cells #[.int .i64 a0_0, .int .i64 a0_1] 23 (0, 0)) (by (with_reducible repeat (first | refine blk_drewN ?_ _ | refine blk_drew ?_ | refine blk_alloc ?_ _)); exact BK331.out) hb); have n1_ := Aside0.mk (blk_below (g := gb332) (o := .cells #[.int .i64 a1_0, .int .i64 a1_1] 23 (0, 0)) (by (with_reducible repeat (first | refine blk_drewN ?_ _ | refine blk_drew ?_ | refine blk_alloc ?_ _)); exact BK332.out) hb); have n2_ := Aside0.mk (blk_below (g := gb333) (o := .cells #[.int .i64 a2_0, .int .i64 a2_1] 23 (0, 0)) (by (with_reducible repeat (first | refine blk_drewN ?_ _ | refine blk_drew ?_ | refine blk_alloc ?_ _)); exact BK333.out) hb); have n3_ := Aside0.mk (below_step (by repeat (first | (with_reducible first | exact HB.out | apply below_alloc | apply pw_below_drewN | apply below_drew1 | refine below_set ?_ GE331.out | refine below_set ?_ GE332.out | refine below_set ?_ GE333.out) | exact HB.out)) hb); clear BK331; clear BK332; clear BK333; clear HB; have BK331 := n0_; have BK332 := n1_; have BK333 := n2_; have HB := n3_; clear n0_ n1_ n2_ n3_; (try clear hb); (try clear hb2); (try clear hk); (try clear hi)))
                          go_meet
                          case rel => exact ⟨_, (true), (by first | rfl | (simp; done) | (simp [*]; done)), H', ⟨by have := HJ7.out; have := HJ34.out; first | omega | exact Nat.le_refl _⟩, ⟨by (with_reducible repeat (first | refine blk_drewN ?_ _ | refine blk_drew ?_ | refine blk_alloc ?_ _)); exact BK331.out⟩, ⟨by (with_reducible repeat (first | refine blk_drewN ?_ _ | refine blk_drew ?_ | refine blk_alloc ?_ _)); exact BK332.out⟩, ⟨by (with_reducible repeat (first | refine blk_drewN ?_ _ | refine blk_drew ?_ | refine blk_alloc ?_ _)); exact BK333.out⟩, ⟨by repeat (first | (with_reducible first | exact HB.out | apply below_alloc | apply pw_below_drewN | apply below_drew1 | refine below_set ?_ GE331.out | refine below_set ?_ GE332.out | refine below_set ?_ GE333.out) | exact HB.out)⟩⟩
                        · rw [if_neg c57] at H
                          have c57b0 : decide (1000 < a3) = false := decide_eq_false c57
                          clear c57
                          by_cases c67 : a4 < (-1000)
                          · rw [if_pos c67] at H
                            have c67b0 : decide (a4 < (-1000)) = true := decide_eq_true c67
                            clear c67
                            have H' := Aside0.mk H
                            clear H
                            have hnb68 := NB331_332.out
                            have hnc68 := NB332_331.out
                            have hnb69 := NB331_333.out
                            have hnc69 := NB333_331.out
                            have hcz70_0 : wc.cell? ⟨gb331, 0, none⟩ = some (.int .i64 a0_0) := (blk_cell BK331.out 0).trans rfl
                            have hcz70_1 : wc.cell? ⟨gb331, 1, none⟩ = some (.int .i64 a0_1) := (blk_cell BK331.out 1).trans rfl
                            have hfz70_0 := blk_frozen BK331.out 0
                            have hfz70_1 := blk_frozen BK331.out 1
                            go_wp2_with (first | ((with_reducible refine gate_callee (f := 17) rfl ?_); refine goesL_ (some 79) rfl rfl Try.func17 (by kernel_rfl) rfl #[.agg #[.int .i64 a0_0, .int .i64 a0_1]] rfl (by (try simp only [List.map_toArray, List.map_cons, List.map_nil]); first | done | rfl | (simp only [List.length_drop, List.length_take]; rfl)) ?_; (with_reducible refine (plane_Valid.calls a0_0 a0_1 true _ A41.out).mono ?_); rintro e w71 ⟨rfl, hb⟩; refine ⟨_, rfl, ?_⟩; have n0_ := Aside0.mk (blk_below (g := gb331) (o := .cells #[.int .i64 a0_0, .int .i64 a0_1] 23 (0, 0)) (by (with_reducible repeat (first | refine blk_drewN ?_ _ | refine blk_drew ?_ | refine blk_alloc ?_ _)); exact BK331.out) hb); have n1_ := Aside0.mk (blk_below (g := gb332) (o := .cells #[.int .i64 a1_0, .int .i64 a1_1] 23 (0, 0)) (by (with_reducible repeat (first | refine blk_drewN ?_ _ | refine blk_drew ?_ | refine blk_alloc ?_ _)); exact BK332.out) hb); have n2_ := Aside0.mk (blk_below (g := gb333) (o := .cells #[.int .i64 a2_0, .int .i64 a2_1] 23 (0, 0)) (by (with_reducible repeat (first | refine blk_drewN ?_ _ | refine blk_drew ?_ | refine blk_alloc ?_ _)); exact BK333.out) hb); have n3_ := Aside0.mk (below_step (by repeat (first | (with_reducible first | exact HB.out | apply below_alloc | apply pw_below_drewN | apply below_drew1 | refine below_set ?_ GE331.out | refine below_set ?_ GE332.out | refine below_set ?_ GE333.out) | exact HB.out)) hb); clear BK331; clear BK332; clear BK333; clear HB; have BK331 := n0_; have BK332 := n1_; have BK333 := n2_; have HB := n3_; clear n0_ n1_ n2_ n3_; (try clear hb); (try clear hb2); (try clear hk); (try clear hi); have hnb72 := NB332_333.out; have hnc72 := NB333_332.out; have hcz73_0 : w71.cell? ⟨gb332, 0, none⟩ = some (.int .i64 a1_0) := (blk_cell BK332.out 0).trans rfl; have hcz73_1 : w71.cell? ⟨gb332, 1, none⟩ = some (.int .i64 a1_1) := (blk_cell BK332.out 1).trans rfl; have hfz73_0 := blk_frozen BK332.out 0; have hfz73_1 := blk_frozen BK332.out 1) | (go_at_call 17; (with_reducible refine (plane_Valid.calls a1_0 a1_1 true _ A43.out).mono ?_); rintro e w74 ⟨rfl, hb⟩; have n0_ := Aside0.mk (blk_below (g := gb331) (o := .cells #[.int .i64 a0_0, .int .i64 a0_1] 23 (0, 0)) (by (with_reducible repeat (first | refine blk_drewN ?_ _ | refine blk_drew ?_ | refine blk_alloc ?_ _)); exact BK331.out) hb); have n1_ := Aside0.mk (blk_below (g := gb332) (o := .cells #[.int .i64 a1_0, .int .i64 a1_1] 23 (0, 0)) (by (with_reducible repeat (first | refine blk_drewN ?_ _ | refine blk_drew ?_ | refine blk_alloc ?_ _)); exact BK332.out) hb); have n2_ := Aside0.mk (blk_below (g := gb333) (o := .cells #[.int .i64 a2_0, .int .i64 a2_1] 23 (0, 0)) (by (with_reducible repeat (first | refine blk_drewN ?_ _ | refine blk_drew ?_ | refine blk_alloc ?_ _)); exact BK333.out) hb); have n3_ := Aside0.mk (below_step (by repeat (first | (with_reducible first | exact HB.out | apply below_alloc | apply pw_below_drewN | apply below_drew1 | refine below_set ?_ GE331.out | refine below_set ?_ GE332.out | refine below_set ?_ GE333.out) | exact HB.out)) hb); clear BK331; clear BK332; clear BK333; clear HB; have BK331 := n0_; have BK332 := n1_; have BK333 := n2_; have HB := n3_; clear n0_ n1_ n2_ n3_; (try clear hb); (try clear hb2); (try clear hk); (try clear hi); have hcz75_0 : w74.cell? ⟨gb333, 0, none⟩ = some (.int .i64 a2_0) := (blk_cell BK333.out 0).trans rfl; have hcz75_1 : w74.cell? ⟨gb333, 1, none⟩ = some (.int .i64 a2_1) := (blk_cell BK333.out 1).trans rfl; have hfz75_0 := blk_frozen BK333.out 0; have hfz75_1 := blk_frozen BK333.out 1) | (go_at_call 17; (with_reducible refine (plane_Valid.calls a2_0 a2_1 true _ A45.out).mono ?_); rintro e w76 ⟨rfl, hb⟩; have n0_ := Aside0.mk (blk_below (g := gb331) (o := .cells #[.int .i64 a0_0, .int .i64 a0_1] 23 (0, 0)) (by (with_reducible repeat (first | refine blk_drewN ?_ _ | refine blk_drew ?_ | refine blk_alloc ?_ _)); exact BK331.out) hb); have n1_ := Aside0.mk (blk_below (g := gb332) (o := .cells #[.int .i64 a1_0, .int .i64 a1_1] 23 (0, 0)) (by (with_reducible repeat (first | refine blk_drewN ?_ _ | refine blk_drew ?_ | refine blk_alloc ?_ _)); exact BK332.out) hb); have n2_ := Aside0.mk (blk_below (g := gb333) (o := .cells #[.int .i64 a2_0, .int .i64 a2_1] 23 (0, 0)) (by (with_reducible repeat (first | refine blk_drewN ?_ _ | refine blk_drew ?_ | refine blk_alloc ?_ _)); exact BK333.out) hb); have n3_ := Aside0.mk (below_step (by repeat (first | (with_reducible first | exact HB.out | apply below_alloc | apply pw_below_drewN | apply below_drew1 | refine below_set ?_ GE331.out | refine below_set ?_ GE332.out | refine below_set ?_ GE333.out) | exact HB.out)) hb); clear BK331; clear BK332; clear BK333; clear HB; have BK331 := n0_; have BK332 := n1_; have BK333 := n2_; have HB := n3_; clear n0_ n1_ n2_ n3_; (try clear hb); (try clear hb2); (try clear hk); (try clear hi)))
                            go_meet
                            case rel => exact ⟨_, (true), (by first | rfl | (simp; done) | (simp [*]; done)), H', ⟨by have := HJ7.out; have := HJ34.out; first | omega | exact Nat.le_refl _⟩, ⟨by (with_reducible repeat (first | refine blk_drewN ?_ _ | refine blk_drew ?_ | refine blk_alloc ?_ _)); exact BK331.out⟩, ⟨by (with_reducible repeat (first | refine blk_drewN ?_ _ | refine blk_drew ?_ | refine blk_alloc ?_ _)); exact BK332.out⟩, ⟨by (with_reducible repeat (first | refine blk_drewN ?_ _ | refine blk_drew ?_ | refine blk_alloc ?_ _)); exact BK333.out⟩, ⟨by repeat (first | (with_reducible first | exact HB.out | apply below_alloc | apply pw_below_drewN | apply below_drew1 | refine below_set ?_ GE331.out | refine below_set ?_ GE332.out | refine below_set ?_ GE333.out) | exact HB.out)⟩⟩
                          · rw [if_neg c67] at H
                            have c67b0 : decide (a4 < (-1000)) = false := decide_eq_false c67
                            clear c67
                            have H' := Aside0.mk H
                            clear H
                            have hnb77 := NB331_332.out
                            have hnc77 := NB332_331.out
                            have hnb78 := NB331_333.out
                            have hnc78 := NB333_331.out
                            have hcz79_0 : wc.cell? ⟨gb331, 0, none⟩ = some (.int .i64 a0_0) := (blk_cell BK331.out 0).trans rfl
                            have hcz79_1 : wc.cell? ⟨gb331, 1, none⟩ = some (.int .i64 a0_1) := (blk_cell BK331.out 1).trans rfl
                            have hfz79_0 := blk_frozen BK331.out 0
                            have hfz79_1 := blk_frozen BK331.out 1
                            go_wp2_with (first | ((with_reducible refine gate_callee (f := 17) rfl ?_); refine goesL_ (some 79) rfl rfl Try.func17 (by kernel_rfl) rfl #[.agg #[.int .i64 a0_0, .int .i64 a0_1]] rfl (by (try simp only [List.map_toArray, List.map_cons, List.map_nil]); first | done | rfl | (simp only [List.length_drop, List.length_take]; rfl)) ?_; (with_reducible refine (plane_Valid.calls a0_0 a0_1 true _ A41.out).mono ?_); rintro e w80 ⟨rfl, hb⟩; refine ⟨_, rfl, ?_⟩; have n0_ := Aside0.mk (blk_below (g := gb331) (o := .cells #[.int .i64 a0_0, .int .i64 a0_1] 23 (0, 0)) (by (with_reducible repeat (first | refine blk_drewN ?_ _ | refine blk_drew ?_ | refine blk_alloc ?_ _)); exact BK331.out) hb); have n1_ := Aside0.mk (blk_below (g := gb332) (o := .cells #[.int .i64 a1_0, .int .i64 a1_1] 23 (0, 0)) (by (with_reducible repeat (first | refine blk_drewN ?_ _ | refine blk_drew ?_ | refine blk_alloc ?_ _)); exact BK332.out) hb); have n2_ := Aside0.mk (blk_below (g := gb333) (o := .cells #[.int .i64 a2_0, .int .i64 a2_1] 23 (0, 0)) (by (with_reducible repeat (first | refine blk_drewN ?_ _ | refine blk_drew ?_ | refine blk_alloc ?_ _)); exact BK333.out) hb); have n3_ := Aside0.mk (below_step (by repeat (first | (with_reducible first | exact HB.out | apply below_alloc | apply pw_below_drewN | apply below_drew1 | refine below_set ?_ GE331.out | refine below_set ?_ GE332.out | refine below_set ?_ GE333.out) | exact HB.out)) hb); clear BK331; clear BK332; clear BK333; clear HB; have BK331 := n0_; have BK332 := n1_; have BK333 := n2_; have HB := n3_; clear n0_ n1_ n2_ n3_; (try clear hb); (try clear hb2); (try clear hk); (try clear hi); have hnb81 := NB332_333.out; have hnc81 := NB333_332.out; have hcz82_0 : w80.cell? ⟨gb332, 0, none⟩ = some (.int .i64 a1_0) := (blk_cell BK332.out 0).trans rfl; have hcz82_1 : w80.cell? ⟨gb332, 1, none⟩ = some (.int .i64 a1_1) := (blk_cell BK332.out 1).trans rfl; have hfz82_0 := blk_frozen BK332.out 0; have hfz82_1 := blk_frozen BK332.out 1) | (go_at_call 17; (with_reducible refine (plane_Valid.calls a1_0 a1_1 true _ A43.out).mono ?_); rintro e w83 ⟨rfl, hb⟩; have n0_ := Aside0.mk (blk_below (g := gb331) (o := .cells #[.int .i64 a0_0, .int .i64 a0_1] 23 (0, 0)) (by (with_reducible repeat (first | refine blk_drewN ?_ _ | refine blk_drew ?_ | refine blk_alloc ?_ _)); exact BK331.out) hb); have n1_ := Aside0.mk (blk_below (g := gb332) (o := .cells #[.int .i64 a1_0, .int .i64 a1_1] 23 (0, 0)) (by (with_reducible repeat (first | refine blk_drewN ?_ _ | refine blk_drew ?_ | refine blk_alloc ?_ _)); exact BK332.out) hb); have n2_ := Aside0.mk (blk_below (g := gb333) (o := .cells #[.int .i64 a2_0, .int .i64 a2_1] 23 (0, 0)) (by (with_reducible repeat (first | refine blk_drewN ?_ _ | refine blk_drew ?_ | refine blk_alloc ?_ _)); exact BK333.out) hb); have n3_ := Aside0.mk (below_step (by repeat (first | (with_reducible first | exact HB.out | apply below_alloc | apply pw_below_drewN | apply below_drew1 | refine below_set ?_ GE331.out | refine below_set ?_ GE332.out | refine below_set ?_ GE333.out) | exact HB.out)) hb); clear BK331; clear BK332; clear BK333; clear HB; have BK331 := n0_; have BK332 := n1_; have BK333 := n2_; have HB := n3_; clear n0_ n1_ n2_ n3_; (try clear hb); (try clear hb2); (try clear hk); (try clear hi); have hcz84_0 : w83.cell? ⟨gb333, 0, none⟩ = some (.int .i64 a2_0) := (blk_cell BK333.out 0).trans rfl; have hcz84_1 : w83.cell? ⟨gb333, 1, none⟩ = some (.int .i64 a2_1) := (blk_cell BK333.out 1).trans rfl; have hfz84_0 := blk_frozen BK333.out 0; have hfz84_1 := blk_frozen BK333.out 1) | (go_at_call 17; (with_reducible refine (plane_Valid.calls a2_0 a2_1 true _ A45.out).mono ?_); rintro e w85 ⟨rfl, hb⟩; have n0_ := Aside0.mk (blk_below (g := gb331) (o := .cells #[.int .i64 a0_0, .int .i64 a0_1] 23 (0, 0)) (by (with_reducible repeat (first | refine blk_drewN ?_ _ | refine blk_drew ?_ | refine blk_alloc ?_ _)); exact BK331.out) hb); have n1_ := Aside0.mk (blk_below (g := gb332) (o := .cells #[.int .i64 a1_0, .int .i64 a1_1] 23 (0, 0)) (by (with_reducible repeat (first | refine blk_drewN ?_ _ | refine blk_drew ?_ | refine blk_alloc ?_ _)); exact BK332.out) hb); have n2_ := Aside0.mk (blk_below (g := gb333) (o := .cells #[.int .i64 a2_0, .int .i64 a2_1] 23 (0, 0)) (by (with_reducible repeat (first | refine blk_drewN ?_ _ | refine blk_drew ?_ | refine blk_alloc ?_ _)); exact BK333.out) hb); have n3_ := Aside0.mk (below_step (by repeat (first | (with_reducible first | exact HB.out | apply below_alloc | apply pw_below_drewN | apply below_drew1 | refine below_set ?_ GE331.out | refine below_set ?_ GE332.out | refine below_set ?_ GE333.out) | exact HB.out)) hb); clear BK331; clear BK332; clear BK333; clear HB; have BK331 := n0_; have BK332 := n1_; have BK333 := n2_; have HB := n3_; clear n0_ n1_ n2_ n3_; (try clear hb); (try clear hb2); (try clear hk); (try clear hi)))
                            go_meet
                            case rel => exact ⟨_, (decide (a4 > 1000)), (by first | rfl | (simp; done) | (simp [*]; done)), H', ⟨by have := HJ7.out; have := HJ34.out; first | omega | exact Nat.le_refl _⟩, ⟨by (with_reducible repeat (first | refine blk_drewN ?_ _ | refine blk_drew ?_ | refine blk_alloc ?_ _)); exact BK331.out⟩, ⟨by (with_reducible repeat (first | refine blk_drewN ?_ _ | refine blk_drew ?_ | refine blk_alloc ?_ _)); exact BK332.out⟩, ⟨by (with_reducible repeat (first | refine blk_drewN ?_ _ | refine blk_drew ?_ | refine blk_alloc ?_ _)); exact BK333.out⟩, ⟨by repeat (first | (with_reducible first | exact HB.out | apply below_alloc | apply pw_below_drewN | apply below_drew1 | refine below_set ?_ GE331.out | refine below_set ?_ GE332.out | refine below_set ?_ GE333.out) | exact HB.out)⟩⟩
                    · replace c46 := Bool.eq_false_iff.mpr c46
                      subst c46
                      have H1 : (boundstonelaw02_PlaneTurnsFair.j2 kj34 a3 a4 t334 true a0_0 a0_1 a1_0 a1_1 a2_0 a2_1) = some r := by rw [if_neg (show ¬ (false = true) by decide)] at H; exact H
                      clear H
                      have H := H1
                      clear H1
                      have H' := Aside0.mk H
                      clear H
                      have hnb86 := NB331_332.out
                      have hnc86 := NB332_331.out
                      have hnb87 := NB331_333.out
                      have hnc87 := NB333_331.out
                      have hcz88_0 : wc.cell? ⟨gb331, 0, none⟩ = some (.int .i64 a0_0) := (blk_cell BK331.out 0).trans rfl
                      have hcz88_1 : wc.cell? ⟨gb331, 1, none⟩ = some (.int .i64 a0_1) := (blk_cell BK331.out 1).trans rfl
                      have hfz88_0 := blk_frozen BK331.out 0
                      have hfz88_1 := blk_frozen BK331.out 1
                      go_wp2_with (first | ((with_reducible refine gate_callee (f := 17) rfl ?_); refine goesL_ (some 79) rfl rfl Try.func17 (by kernel_rfl) rfl #[.agg #[.int .i64 a0_0, .int .i64 a0_1]] rfl (by (try simp only [List.map_toArray, List.map_cons, List.map_nil]); first | done | rfl | (simp only [List.length_drop, List.length_take]; rfl)) ?_; (with_reducible refine (plane_Valid.calls a0_0 a0_1 true _ A41.out).mono ?_); rintro e w89 ⟨rfl, hb⟩; refine ⟨_, rfl, ?_⟩; have n0_ := Aside0.mk (blk_below (g := gb331) (o := .cells #[.int .i64 a0_0, .int .i64 a0_1] 23 (0, 0)) (by (with_reducible repeat (first | refine blk_drewN ?_ _ | refine blk_drew ?_ | refine blk_alloc ?_ _)); exact BK331.out) hb); have n1_ := Aside0.mk (blk_below (g := gb332) (o := .cells #[.int .i64 a1_0, .int .i64 a1_1] 23 (0, 0)) (by (with_reducible repeat (first | refine blk_drewN ?_ _ | refine blk_drew ?_ | refine blk_alloc ?_ _)); exact BK332.out) hb); have n2_ := Aside0.mk (blk_below (g := gb333) (o := .cells #[.int .i64 a2_0, .int .i64 a2_1] 23 (0, 0)) (by (with_reducible repeat (first | refine blk_drewN ?_ _ | refine blk_drew ?_ | refine blk_alloc ?_ _)); exact BK333.out) hb); have n3_ := Aside0.mk (below_step (by repeat (first | (with_reducible first | exact HB.out | apply below_alloc | apply pw_below_drewN | apply below_drew1 | refine below_set ?_ GE331.out | refine below_set ?_ GE332.out | refine below_set ?_ GE333.out) | exact HB.out)) hb); clear BK331; clear BK332; clear BK333; clear HB; have BK331 := n0_; have BK332 := n1_; have BK333 := n2_; have HB := n3_; clear n0_ n1_ n2_ n3_; (try clear hb); (try clear hb2); (try clear hk); (try clear hi); have hnb90 := NB332_333.out; have hnc90 := NB333_332.out; have hcz91_0 : w89.cell? ⟨gb332, 0, none⟩ = some (.int .i64 a1_0) := (blk_cell BK332.out 0).trans rfl; have hcz91_1 : w89.cell? ⟨gb332, 1, none⟩ = some (.int .i64 a1_1) := (blk_cell BK332.out 1).trans rfl; have hfz91_0 := blk_frozen BK332.out 0; have hfz91_1 := blk_frozen BK332.out 1) | (go_at_call 17; (with_reducible refine (plane_Valid.calls a1_0 a1_1 true _ A43.out).mono ?_); rintro e w92 ⟨rfl, hb⟩; have n0_ := Aside0.mk (blk_below (g := gb331) (o := .cells #[.int .i64 a0_0, .int .i64 a0_1] 23 (0, 0)) (by (with_reducible repeat (first | refine blk_drewN ?_ _ | refine blk_drew ?_ | refine blk_alloc ?_ _)); exact BK331.out) hb); have n1_ := Aside0.mk (blk_below (g := gb332) (o := .cells #[.int .i64 a1_0, .int .i64 a1_1] 23 (0, 0)) (by (with_reducible repeat (first | refine blk_drewN ?_ _ | refine blk_drew ?_ | refine blk_alloc ?_ _)); exact BK332.out) hb); have n2_ := Aside0.mk (blk_below (g := gb333) (o := .cells #[.int .i64 a2_0, .int .i64 a2_1] 23 (0, 0)) (by (with_reducible repeat (first | refine blk_drewN ?_ _ | refine blk_drew ?_ | refine blk_alloc ?_ _)); exact BK333.out) hb); have n3_ := Aside0.mk (below_step (by repeat (first | (with_reducible first | exact HB.out | apply below_alloc | apply pw_below_drewN | apply below_drew1 | refine below_set ?_ GE331.out | refine below_set ?_ GE332.out | refine below_set ?_ GE333.out) | exact HB.out)) hb); clear BK331; clear BK332; clear BK333; clear HB; have BK331 := n0_; have BK332 := n1_; have BK333 := n2_; have HB := n3_; clear n0_ n1_ n2_ n3_; (try clear hb); (try clear hb2); (try clear hk); (try clear hi); have hcz93_0 : w92.cell? ⟨gb333, 0, none⟩ = some (.int .i64 a2_0) := (blk_cell BK333.out 0).trans rfl; have hcz93_1 : w92.cell? ⟨gb333, 1, none⟩ = some (.int .i64 a2_1) := (blk_cell BK333.out 1).trans rfl; have hfz93_0 := blk_frozen BK333.out 0; have hfz93_1 := blk_frozen BK333.out 1) | (go_at_call 17; (with_reducible refine (plane_Valid.calls a2_0 a2_1 false _ A45.out).mono ?_); rintro e w94 ⟨rfl, hb⟩; have n0_ := Aside0.mk (blk_below (g := gb331) (o := .cells #[.int .i64 a0_0, .int .i64 a0_1] 23 (0, 0)) (by (with_reducible repeat (first | refine blk_drewN ?_ _ | refine blk_drew ?_ | refine blk_alloc ?_ _)); exact BK331.out) hb); have n1_ := Aside0.mk (blk_below (g := gb332) (o := .cells #[.int .i64 a1_0, .int .i64 a1_1] 23 (0, 0)) (by (with_reducible repeat (first | refine blk_drewN ?_ _ | refine blk_drew ?_ | refine blk_alloc ?_ _)); exact BK332.out) hb); have n2_ := Aside0.mk (blk_below (g := gb333) (o := .cells #[.int .i64 a2_0, .int .i64 a2_1] 23 (0, 0)) (by (with_reducible repeat (first | refine blk_drewN ?_ _ | refine blk_drew ?_ | refine blk_alloc ?_ _)); exact BK333.out) hb); have n3_ := Aside0.mk (below_step (by repeat (first | (with_reducible first | exact HB.out | apply below_alloc | apply pw_below_drewN | apply below_drew1 | refine below_set ?_ GE331.out | refine below_set ?_ GE332.out | refine below_set ?_ GE333.out) | exact HB.out)) hb); clear BK331; clear BK332; clear BK333; clear HB; have BK331 := n0_; have BK332 := n1_; have BK333 := n2_; have HB := n3_; clear n0_ n1_ n2_ n3_; (try clear hb); (try clear hb2); (try clear hk); (try clear hi)))
                      go_meet
                      case rel => exact ⟨_, (true), (by first | rfl | (simp; done) | (simp [*]; done)), H', ⟨by have := HJ7.out; have := HJ34.out; first | omega | exact Nat.le_refl _⟩, ⟨by (with_reducible repeat (first | refine blk_drewN ?_ _ | refine blk_drew ?_ | refine blk_alloc ?_ _)); exact BK331.out⟩, ⟨by (with_reducible repeat (first | refine blk_drewN ?_ _ | refine blk_drew ?_ | refine blk_alloc ?_ _)); exact BK332.out⟩, ⟨by (with_reducible repeat (first | refine blk_drewN ?_ _ | refine blk_drew ?_ | refine blk_alloc ?_ _)); exact BK333.out⟩, ⟨by repeat (first | (with_reducible first | exact HB.out | apply below_alloc | apply pw_below_drewN | apply below_drew1 | refine below_set ?_ GE331.out | refine below_set ?_ GE332.out | refine below_set ?_ GE333.out) | exact HB.out)⟩⟩
                  · replace c44 := Bool.eq_false_iff.mpr c44
                    subst c44
                    have H1 : (boundstonelaw02_PlaneTurnsFair.j2 kj34 a3 a4 t334 true a0_0 a0_1 a1_0 a1_1 a2_0 a2_1) = some r := by rw [if_neg (show ¬ (false = true) by decide)] at H; exact H
                    clear H
                    have H := H1
                    clear H1
                    have H' := Aside0.mk H
                    clear H
                    have hnb95 := NB331_332.out
                    have hnc95 := NB332_331.out
                    have hnb96 := NB331_333.out
                    have hnc96 := NB333_331.out
                    have hcz97_0 : wc.cell? ⟨gb331, 0, none⟩ = some (.int .i64 a0_0) := (blk_cell BK331.out 0).trans rfl
                    have hcz97_1 : wc.cell? ⟨gb331, 1, none⟩ = some (.int .i64 a0_1) := (blk_cell BK331.out 1).trans rfl
                    have hfz97_0 := blk_frozen BK331.out 0
                    have hfz97_1 := blk_frozen BK331.out 1
                    go_wp2_with (first | ((with_reducible refine gate_callee (f := 17) rfl ?_); refine goesL_ (some 79) rfl rfl Try.func17 (by kernel_rfl) rfl #[.agg #[.int .i64 a0_0, .int .i64 a0_1]] rfl (by (try simp only [List.map_toArray, List.map_cons, List.map_nil]); first | done | rfl | (simp only [List.length_drop, List.length_take]; rfl)) ?_; (with_reducible refine (plane_Valid.calls a0_0 a0_1 true _ A41.out).mono ?_); rintro e w98 ⟨rfl, hb⟩; refine ⟨_, rfl, ?_⟩; have n0_ := Aside0.mk (blk_below (g := gb331) (o := .cells #[.int .i64 a0_0, .int .i64 a0_1] 23 (0, 0)) (by (with_reducible repeat (first | refine blk_drewN ?_ _ | refine blk_drew ?_ | refine blk_alloc ?_ _)); exact BK331.out) hb); have n1_ := Aside0.mk (blk_below (g := gb332) (o := .cells #[.int .i64 a1_0, .int .i64 a1_1] 23 (0, 0)) (by (with_reducible repeat (first | refine blk_drewN ?_ _ | refine blk_drew ?_ | refine blk_alloc ?_ _)); exact BK332.out) hb); have n2_ := Aside0.mk (blk_below (g := gb333) (o := .cells #[.int .i64 a2_0, .int .i64 a2_1] 23 (0, 0)) (by (with_reducible repeat (first | refine blk_drewN ?_ _ | refine blk_drew ?_ | refine blk_alloc ?_ _)); exact BK333.out) hb); have n3_ := Aside0.mk (below_step (by repeat (first | (with_reducible first | exact HB.out | apply below_alloc | apply pw_below_drewN | apply below_drew1 | refine below_set ?_ GE331.out | refine below_set ?_ GE332.out | refine below_set ?_ GE333.out) | exact HB.out)) hb); clear BK331; clear BK332; clear BK333; clear HB; have BK331 := n0_; have BK332 := n1_; have BK333 := n2_; have HB := n3_; clear n0_ n1_ n2_ n3_; (try clear hb); (try clear hb2); (try clear hk); (try clear hi); have hnb99 := NB332_333.out; have hnc99 := NB333_332.out; have hcz100_0 : w98.cell? ⟨gb332, 0, none⟩ = some (.int .i64 a1_0) := (blk_cell BK332.out 0).trans rfl; have hcz100_1 : w98.cell? ⟨gb332, 1, none⟩ = some (.int .i64 a1_1) := (blk_cell BK332.out 1).trans rfl; have hfz100_0 := blk_frozen BK332.out 0; have hfz100_1 := blk_frozen BK332.out 1) | (go_at_call 17; (with_reducible refine (plane_Valid.calls a1_0 a1_1 false _ A43.out).mono ?_); rintro e w101 ⟨rfl, hb⟩; have n0_ := Aside0.mk (blk_below (g := gb331) (o := .cells #[.int .i64 a0_0, .int .i64 a0_1] 23 (0, 0)) (by (with_reducible repeat (first | refine blk_drewN ?_ _ | refine blk_drew ?_ | refine blk_alloc ?_ _)); exact BK331.out) hb); have n1_ := Aside0.mk (blk_below (g := gb332) (o := .cells #[.int .i64 a1_0, .int .i64 a1_1] 23 (0, 0)) (by (with_reducible repeat (first | refine blk_drewN ?_ _ | refine blk_drew ?_ | refine blk_alloc ?_ _)); exact BK332.out) hb); have n2_ := Aside0.mk (blk_below (g := gb333) (o := .cells #[.int .i64 a2_0, .int .i64 a2_1] 23 (0, 0)) (by (with_reducible repeat (first | refine blk_drewN ?_ _ | refine blk_drew ?_ | refine blk_alloc ?_ _)); exact BK333.out) hb); have n3_ := Aside0.mk (below_step (by repeat (first | (with_reducible first | exact HB.out | apply below_alloc | apply pw_below_drewN | apply below_drew1 | refine below_set ?_ GE331.out | refine below_set ?_ GE332.out | refine below_set ?_ GE333.out) | exact HB.out)) hb); clear BK331; clear BK332; clear BK333; clear HB; have BK331 := n0_; have BK332 := n1_; have BK333 := n2_; have HB := n3_; clear n0_ n1_ n2_ n3_; (try clear hb); (try clear hb2); (try clear hk); (try clear hi)))
                    go_meet
                    case rel => exact ⟨_, (true), (by first | rfl | (simp; done) | (simp [*]; done)), H', ⟨by have := HJ7.out; have := HJ34.out; first | omega | exact Nat.le_refl _⟩, ⟨by (with_reducible repeat (first | refine blk_drewN ?_ _ | refine blk_drew ?_ | refine blk_alloc ?_ _)); exact BK331.out⟩, ⟨by (with_reducible repeat (first | refine blk_drewN ?_ _ | refine blk_drew ?_ | refine blk_alloc ?_ _)); exact BK332.out⟩, ⟨by (with_reducible repeat (first | refine blk_drewN ?_ _ | refine blk_drew ?_ | refine blk_alloc ?_ _)); exact BK333.out⟩, ⟨by repeat (first | (with_reducible first | exact HB.out | apply below_alloc | apply pw_below_drewN | apply below_drew1 | refine below_set ?_ GE331.out | refine below_set ?_ GE332.out | refine below_set ?_ GE333.out) | exact HB.out)⟩⟩
                · replace c42 := Bool.eq_false_iff.mpr c42
                  subst c42
                  have H1 : (boundstonelaw02_PlaneTurnsFair.j2 kj34 a3 a4 t334 true a0_0 a0_1 a1_0 a1_1 a2_0 a2_1) = some r := by rw [if_neg (show ¬ (false = true) by decide)] at H; exact H
                  clear H
                  have H := H1
                  clear H1
                  have H' := Aside0.mk H
                  clear H
                  have hnb102 := NB331_332.out
                  have hnc102 := NB332_331.out
                  have hnb103 := NB331_333.out
                  have hnc103 := NB333_331.out
                  have hcz104_0 : wc.cell? ⟨gb331, 0, none⟩ = some (.int .i64 a0_0) := (blk_cell BK331.out 0).trans rfl
                  have hcz104_1 : wc.cell? ⟨gb331, 1, none⟩ = some (.int .i64 a0_1) := (blk_cell BK331.out 1).trans rfl
                  have hfz104_0 := blk_frozen BK331.out 0
                  have hfz104_1 := blk_frozen BK331.out 1
                  go_wp2_with (first | ((with_reducible refine gate_callee (f := 17) rfl ?_); refine goesL_ (some 79) rfl rfl Try.func17 (by kernel_rfl) rfl #[.agg #[.int .i64 a0_0, .int .i64 a0_1]] rfl (by (try simp only [List.map_toArray, List.map_cons, List.map_nil]); first | done | rfl | (simp only [List.length_drop, List.length_take]; rfl)) ?_; (with_reducible refine (plane_Valid.calls a0_0 a0_1 false _ A41.out).mono ?_); rintro e w105 ⟨rfl, hb⟩; refine ⟨_, rfl, ?_⟩; have n0_ := Aside0.mk (blk_below (g := gb331) (o := .cells #[.int .i64 a0_0, .int .i64 a0_1] 23 (0, 0)) (by (with_reducible repeat (first | refine blk_drewN ?_ _ | refine blk_drew ?_ | refine blk_alloc ?_ _)); exact BK331.out) hb); have n1_ := Aside0.mk (blk_below (g := gb332) (o := .cells #[.int .i64 a1_0, .int .i64 a1_1] 23 (0, 0)) (by (with_reducible repeat (first | refine blk_drewN ?_ _ | refine blk_drew ?_ | refine blk_alloc ?_ _)); exact BK332.out) hb); have n2_ := Aside0.mk (blk_below (g := gb333) (o := .cells #[.int .i64 a2_0, .int .i64 a2_1] 23 (0, 0)) (by (with_reducible repeat (first | refine blk_drewN ?_ _ | refine blk_drew ?_ | refine blk_alloc ?_ _)); exact BK333.out) hb); have n3_ := Aside0.mk (below_step (by repeat (first | (with_reducible first | exact HB.out | apply below_alloc | apply pw_below_drewN | apply below_drew1 | refine below_set ?_ GE331.out | refine below_set ?_ GE332.out | refine below_set ?_ GE333.out) | exact HB.out)) hb); clear BK331; clear BK332; clear BK333; clear HB; have BK331 := n0_; have BK332 := n1_; have BK333 := n2_; have HB := n3_; clear n0_ n1_ n2_ n3_; (try clear hb); (try clear hb2); (try clear hk); (try clear hi)))
                  go_meet
                  case rel => exact ⟨_, (true), (by first | rfl | (simp; done) | (simp [*]; done)), H', ⟨by have := HJ7.out; have := HJ34.out; first | omega | exact Nat.le_refl _⟩, ⟨by (with_reducible repeat (first | refine blk_drewN ?_ _ | refine blk_drew ?_ | refine blk_alloc ?_ _)); exact BK331.out⟩, ⟨by (with_reducible repeat (first | refine blk_drewN ?_ _ | refine blk_drew ?_ | refine blk_alloc ?_ _)); exact BK332.out⟩, ⟨by (with_reducible repeat (first | refine blk_drewN ?_ _ | refine blk_drew ?_ | refine blk_alloc ?_ _)); exact BK333.out⟩, ⟨by repeat (first | (with_reducible first | exact HB.out | apply below_alloc | apply pw_below_drewN | apply below_drew1 | refine below_set ?_ GE331.out | refine below_set ?_ GE332.out | refine below_set ?_ GE333.out) | exact HB.out)⟩⟩
              case rest =>
                clear HC40
                try clear c1
                try clear c2
                try clear p2
                try clear c3
                try clear c4
                try clear c5
                try clear c6
                try clear p6
                try clear c7
                try clear c8
                try clear c9
                try clear c10
                try clear c12
                try clear c13
                try clear c15
                try clear c17
                try clear c19
                try clear c20
                try clear c20b0
                try clear c20b1
                try clear c21
                try clear c22
                try clear c22b0
                try clear c22b1
                try clear c23
                try clear c24
                try clear c24b0
                try clear c24b1
                try clear c33
                try clear c37
                try clear c37b0
                try clear c38
                try clear c38b0
                try clear c39
                try clear c42
                try clear c44
                try clear c46
                try clear c47
                try clear c47b0
                try clear c48
                try clear c49
                try clear c52
                try clear c57
                try clear c57b0
                try clear c58
                try clear c59
                try clear c62
                try clear p64
                try clear c67
                try clear c67b0
                try clear c68
                try clear c69
                try clear c72
                try clear c77
                try clear c78
                try clear c81
                try clear c86
                try clear c87
                try clear c90
                try clear c95
                try clear c96
                try clear c99
                try clear c102
                try clear c103
                try clear hcz100_0
                try clear hcz100_1
                try clear hcz104_0
                try clear hcz104_1
                try clear hcz14_0
                try clear hcz14_1
                try clear hcz16_0
                try clear hcz16_1
                try clear hcz17_0
                try clear hcz17_1
                try clear hcz50_0
                try clear hcz50_1
                try clear hcz53_0
                try clear hcz53_1
                try clear hcz55_0
                try clear hcz55_1
                try clear hcz60_0
                try clear hcz60_1
                try clear hcz63_0
                try clear hcz63_1
                try clear hcz65_0
                try clear hcz65_1
                try clear hcz70_0
                try clear hcz70_1
                try clear hcz73_0
                try clear hcz73_1
                try clear hcz75_0
                try clear hcz75_1
                try clear hcz79_0
                try clear hcz79_1
                try clear hcz82_0
                try clear hcz82_1
                try clear hcz84_0
                try clear hcz84_1
                try clear hcz88_0
                try clear hcz88_1
                try clear hcz91_0
                try clear hcz91_1
                try clear hcz93_0
                try clear hcz93_1
                try clear hcz97_0
                try clear hcz97_1
                try clear hfz100_0
                try clear hfz100_1
                try clear hfz104_0
                try clear hfz104_1
                try clear hfz14_0
                try clear hfz14_1
                try clear hfz16_0
                try clear hfz16_1
                try clear hfz17_0
                try clear hfz17_1
                try clear hfz50_0
                try clear hfz50_1
                try clear hfz53_0
                try clear hfz53_1
                try clear hfz55_0
                try clear hfz55_1
                try clear hfz60_0
                try clear hfz60_1
                try clear hfz63_0
                try clear hfz63_1
                try clear hfz65_0
                try clear hfz65_1
                try clear hfz70_0
                try clear hfz70_1
                try clear hfz73_0
                try clear hfz73_1
                try clear hfz75_0
                try clear hfz75_1
                try clear hfz79_0
                try clear hfz79_1
                try clear hfz82_0
                try clear hfz82_1
                try clear hfz84_0
                try clear hfz84_1
                try clear hfz88_0
                try clear hfz88_1
                try clear hfz91_0
                try clear hfz91_1
                try clear hfz93_0
                try clear hfz93_1
                try clear hfz97_0
                try clear hfz97_1
                try clear p2
                try clear p6
                obtain ⟨kq, x106_39, rfl, HA, HJ39, BK331, BK332, BK333, HB⟩ := hcut
                cases kq with
                | zero => exact absurd HA.out (by simp [boundstonelaw02_PlaneTurnsFair.j2])
                | succ kj39 =>
                  have H := HA.out
                  clear HA
                  simp only [boundstonelaw02_PlaneTurnsFair.j2] at H
                  by_cases c106 : x106_39 = true
                  · subst c106
                    have H1 : ((boundstonelaw02_sanity.f kj39).bind fun t344 => (some t344)) = some r := by rw [if_pos rfl] at H; exact H
                    clear H
                    have H := H1
                    clear H1
                    replace H := Option.bind_eq_some_iff.mp H
                    obtain ⟨t344, A1070, H⟩ := H
                    replace H : (some t344) = some r := H
                    have A107 := Aside0.mk A1070
                    clear A1070
                    obtain rfl := Option.some.inj H
                    go_wp2_with (first | ((with_reducible refine gate_callee (f := 16) rfl ?_); refine goesL_ (some 107) rfl rfl Try.func16 (by kernel_rfl) rfl #[] rfl (by (try simp only [List.map_toArray, List.map_cons, List.map_nil]); first | done | rfl | (simp only [List.length_drop, List.length_take]; rfl)) ?_; (with_reducible refine (boundstonelaw02_sanity.calls kj39  t344 _ A107.out).mono ?_); rintro e w108 ⟨rfl, hb⟩; refine ⟨_, rfl, ?_⟩; have n0_ := Aside0.mk (blk_below (g := gb331) (o := .cells #[.int .i64 a0_0, .int .i64 a0_1] 23 (0, 0)) (by (with_reducible repeat (first | refine blk_drewN ?_ _ | refine blk_drew ?_ | refine blk_alloc ?_ _)); exact BK331.out) hb); have n1_ := Aside0.mk (blk_below (g := gb332) (o := .cells #[.int .i64 a1_0, .int .i64 a1_1] 23 (0, 0)) (by (with_reducible repeat (first | refine blk_drewN ?_ _ | refine blk_drew ?_ | refine blk_alloc ?_ _)); exact BK332.out) hb); have n2_ := Aside0.mk (blk_below (g := gb333) (o := .cells #[.int .i64 a2_0, .int .i64 a2_1] 23 (0, 0)) (by (with_reducible repeat (first | refine blk_drewN ?_ _ | refine blk_drew ?_ | refine blk_alloc ?_ _)); exact BK333.out) hb); have n3_ := Aside0.mk (below_step (by repeat (first | (with_reducible first | exact HB.out | apply below_alloc | apply pw_below_drewN | apply below_drew1 | refine below_set ?_ GE331.out | refine below_set ?_ GE332.out | refine below_set ?_ GE333.out) | exact HB.out)) hb); clear BK331; clear BK332; clear BK333; clear HB; have BK331 := n0_; have BK332 := n1_; have BK333 := n2_; have HB := n3_; clear n0_ n1_ n2_ n3_; (try clear hb); (try clear hb2); (try clear hk); (try clear hi)))
                    go_ret
                    exact ⟨by first | rfl | (simp [errW_none, errW_some] <;> rfl) | (simp [*, errW_none, errW_some] <;> rfl), by repeat (first | (with_reducible first | exact HB.out | apply below_alloc | apply pw_below_drewN | apply below_drew1 | refine below_set ?_ GE331.out | refine below_set ?_ GE332.out | refine below_set ?_ GE333.out) | exact HB.out)⟩
                  · replace c106 := Bool.eq_false_iff.mpr c106
                    subst c106
                    have H1 : ((plane_Dist.f a0_0 a0_1 a1_0 a1_1).bind fun t345 => (if ((t345 == 0) != (a0_0 == a1_0 && (a0_1 == a1_1))) = true then (none) else ((boundstonelaw02_moved.f a0_0 a0_1 a3 a4).bind fun bt346 => ((boundstonelaw02_moved.f a1_0 a1_1 a3 a4).bind fun bt349 => ((boundstonelaw02_moved.f a2_0 a2_1 a3 a4).bind fun bt352 => ((plane_Valid.f bt346.1 bt346.2).bind fun t355 => (if t355 = true then ((plane_Valid.f bt349.1 bt349.2).bind fun t356 => (if t356 = true then ((plane_Valid.f bt352.1 bt352.2).bind fun t357 => (boundstonelaw02_PlaneTurnsFair.j3 kj39 t334 (!t357) a0_0 a0_1 a1_0 a1_1 bt346.1 bt346.2 bt349.1 bt349.2 bt352.1 bt352.2)) else (boundstonelaw02_PlaneTurnsFair.j3 kj39 t334 true a0_0 a0_1 a1_0 a1_1 bt346.1 bt346.2 bt349.1 bt349.2 bt352.1 bt352.2))) else (boundstonelaw02_PlaneTurnsFair.j3 kj39 t334 true a0_0 a0_1 a1_0 a1_1 bt346.1 bt346.2 bt349.1 bt349.2 bt352.1 bt352.2)))))))) = some r := by rw [if_neg (show ¬ (false = true) by decide)] at H; exact H
                    clear H
                    have H := H1
                    clear H1
                    replace H := Option.bind_eq_some_iff.mp H
                    obtain ⟨t345, A1090, H⟩ := H
                    try dsimp only at H
                    have A109 := Aside0.mk A1090
                    clear A1090
                    by_cases c110 : ((t345 == 0) != (a0_0 == a1_0 && (a0_1 == a1_1))) = true
                    · rw [if_pos c110] at H
                      exact absurd H (by simp)
                    · rw [if_neg c110] at H
                      have c110b0 : ((t345 == 0) != (a0_0 == a1_0 && (a0_1 == a1_1))) = false := by simpa using c110
                      (try (have c110b1 : decide ((t345 == 0) = (a0_0 == a1_0 && (a0_1 == a1_1))) = true := by simpa using c110))
                      (try (have c110b2 : ((t345 == 0) == (a0_0 == a1_0 && (a0_1 == a1_1))) = true := by simpa using c110))
                      clear c110
                      replace H := Option.bind_eq_some_iff.mp H
                      obtain ⟨⟨t346, t347⟩, A1110, H⟩ := H
                      try dsimp only at H
                      have A111 := Aside0.mk A1110
                      clear A1110
                      replace H := Option.bind_eq_some_iff.mp H
                      obtain ⟨⟨t349, t350⟩, A1120, H⟩ := H
                      try dsimp only at H
                      have A112 := Aside0.mk A1120
                      clear A1120
                      replace H := Option.bind_eq_some_iff.mp H
                      obtain ⟨⟨t352, t353⟩, A1130, H⟩ := H
                      try dsimp only at H
                      have A113 := Aside0.mk A1130
                      clear A1130
                      have HC114 := Aside0.mk H
                      clear H
                      try go_wp2
                      have n0_ := Aside0.mk (blk_drew BK331.out)
                      have n1_ := Aside0.mk (blk_drew BK332.out)
                      have n2_ := Aside0.mk (blk_drew BK333.out)
                      have n3_ := Aside0.mk (below_drew1 HB.out)
                      clear BK331
                      clear BK332
                      clear BK333
                      clear HB
                      have BK331 := n0_
                      have BK332 := n1_
                      have BK333 := n2_
                      have HB := n3_
                      clear n0_ n1_ n2_ n3_
                      refine start_ (n := 8) (S := fun w' => w'.cell? ⟨gb331, 0, none⟩ = some (.int .i64 a0_0) ∧ w'.cell? ⟨gb331, 1, none⟩ = some (.int .i64 a0_1) ∧ w'.cell? ⟨gb332, 0, none⟩ = some (.int .i64 a1_0) ∧ w'.cell? ⟨gb332, 1, none⟩ = some (.int .i64 a1_1)) (ds := []) #[false, false, false, false, false, false, false, false] (by kernel_rfl) rfl rfl ⟨(blk_cell BK331.out 0).trans rfl, (blk_cell BK331.out 1).trans rfl, (blk_cell BK332.out 0).trans rfl, (blk_cell BK332.out 1).trans rfl⟩ (fun hHeld => ?_); refine with_tabW boundstonelaw02_PlaneTurnsFair.tab9 boundstonelaw02_PlaneTurnsFair.bits9 (fun HT_ HW_ => ?_)
                      generalize wc.drew = w115 at BK331 BK332 BK333 HB hHeld ⊢
                      refine take_ (i := 0) (N := some 108) (v := ?_) (a' := ?_) #[true, false, false, false, false, false, false, false] rfl rfl (take_ofW HT_.out HW_.out (by kernel_rfl)) (fun _ _ _ h => h) (Or.inl ⟨by rfl, ?_⟩) hHeld ?_ ?_
                      rotate_left
                      · rintro w' ⟨s0, s1, s2, s3⟩
                        go_simp
                        with_reducible rfl
                      rotate_left
                      · simp only [Act.put, List.setIfInBounds_toArray, List.set_cons_zero, List.set_cons_succ, i64_w, i32_w]
                        rfl
                      refine take_ (i := 1) (N := some 109) (v := ?_) (a' := ?_) #[true, true, false, false, false, false, false, false] rfl rfl (take_ofW HT_.out HW_.out (by kernel_rfl)) (fun _ _ _ h => h) (Or.inl ⟨by rfl, ?_⟩) hHeld ?_ ?_
                      rotate_left
                      · rintro w' ⟨s0, s1, s2, s3⟩
                        go_simp
                        with_reducible rfl
                      rotate_left
                      · simp only [Act.put, List.setIfInBounds_toArray, List.set_cons_zero, List.set_cons_succ, i64_w, i32_w]
                        rfl
                      refine take_ (i := 4) (N := some 112) (v := ?_) (a' := ?_) #[true, true, false, false, true, false, false, false] rfl rfl (take_ofW HT_.out HW_.out (by kernel_rfl)) (fun _ _ _ h => h) (Or.inl ⟨by rfl, ?_⟩) hHeld ?_ ?_
                      rotate_left
                      · rintro w' ⟨s0, s1, s2, s3⟩
                        go_simp
                        with_reducible rfl
                      rotate_left
                      · simp only [Act.put, List.setIfInBounds_toArray, List.set_cons_zero, List.set_cons_succ, i64_w, i32_w]
                        rfl
                      refine take_ (i := 5) (N := some 113) (v := ?_) (a' := ?_) #[true, true, false, false, true, true, false, false] rfl rfl (take_ofW HT_.out HW_.out (by kernel_rfl)) (fun _ _ _ h => h) (Or.inl ⟨by rfl, ?_⟩) hHeld ?_ ?_
                      rotate_left
                      · rintro w' ⟨s0, s1, s2, s3⟩
                        go_simp
                        with_reducible rfl
                      rotate_left
                      · simp only [Act.put, List.setIfInBounds_toArray, List.set_cons_zero, List.set_cons_succ, i64_w, i32_w]
                        rfl
                      refine pure_ (i := 6) (N := some 114) (v := ?_) (a' := ?_) #[true, true, false, false, true, true, true, false] rfl rfl (any_of HT_.out (by kernel_rfl)) (fun _ _ _ h => h) (Or.inl ⟨by rfl, ?_⟩) ?_ ?_
                      rotate_left
                      · intro w'
                        go_simp
                        with_reducible rfl
                      rotate_left
                      · simp only [Act.put, List.setIfInBounds_toArray, List.set_cons_zero, List.set_cons_succ, i64_w, i32_w]
                        rfl
                      refine one_ (i := 2) (N := some 110) #[true, true, true, false, true, true, true, false] rfl rfl (one_of HT_.out (by kernel_rfl)) (by decide) (fun K hK => ?_)
                      refine goes_ Try.func21 (by kernel_rfl) rfl #[.agg #[.int .i64 a0_0, .int .i64 a0_1], .agg #[.int .i64 a1_0, .int .i64 a1_1]] (by rfl) rfl rfl (by (try simp only [List.map_toArray, List.map_cons, List.map_nil]); first | done | rfl | (simp only [List.length_drop, List.length_take]; rfl)) ?_
                      with_reducible refine (plane_Dist.calls a0_0 a0_1 a1_0 a1_1 t345 _ A109.out).mono ?_
                      rintro e w116 ⟨rfl, hb⟩
                      refine ⟨_, rfl, ?_⟩
                      have n0_ := Aside0.mk (blk_below (g := gb331) (o := .cells #[.int .i64 a0_0, .int .i64 a0_1] 23 (0, 0)) (by (with_reducible repeat (first | refine blk_drewN ?_ _ | refine blk_drew ?_ | refine blk_alloc ?_ _)); exact BK331.out) hb)
                      have n1_ := Aside0.mk (blk_below (g := gb332) (o := .cells #[.int .i64 a1_0, .int .i64 a1_1] 23 (0, 0)) (by (with_reducible repeat (first | refine blk_drewN ?_ _ | refine blk_drew ?_ | refine blk_alloc ?_ _)); exact BK332.out) hb)
                      have n2_ := Aside0.mk (blk_below (g := gb333) (o := .cells #[.int .i64 a2_0, .int .i64 a2_1] 23 (0, 0)) (by (with_reducible repeat (first | refine blk_drewN ?_ _ | refine blk_drew ?_ | refine blk_alloc ?_ _)); exact BK333.out) hb)
                      have n3_ := Aside0.mk (below_step (by repeat (first | (with_reducible first | exact HB.out | apply below_alloc | apply pw_below_drewN | apply below_drew1 | refine below_set ?_ GE331.out | refine below_set ?_ GE332.out | refine below_set ?_ GE333.out) | exact HB.out)) hb)
                      clear BK331
                      clear BK332
                      clear BK333
                      clear HB
                      have BK331 := n0_
                      have BK332 := n1_
                      have BK333 := n2_
                      have HB := n3_
                      clear n0_ n1_ n2_ n3_
                      (try clear hb)
                      (try clear hb2)
                      (try clear hk)
                      (try clear hi)
                      refine hK.out _ _ ⟨(blk_cell BK331.out 0).trans rfl, (blk_cell BK331.out 1).trans rfl, (blk_cell BK332.out 0).trans rfl, (blk_cell BK332.out 1).trans rfl⟩ (fun hHeld => ?_)
                      clear hK K
                      refine norm_ (a' := ?_) ?_ ?_
                      rotate_left
                      · show Act.put _ (some 110) _ = _
                        simp only [Act.put, List.setIfInBounds_toArray, List.set_cons_zero, List.set_cons_succ, i64_w, i32_w]
                        rfl
                      refine pure_ (i := 3) (N := some 111) (v := ?_) (a' := ?_) #[true, true, true, true, true, true, true, false] rfl rfl (any_of HT_.out (by kernel_rfl)) (fun _ _ _ h => h) (Or.inl ⟨by rfl, ?_⟩) ?_ ?_
                      rotate_left
                      · intro w'
                        go_simp
                        with_reducible rfl
                      rotate_left
                      · simp only [Act.put, List.setIfInBounds_toArray, List.set_cons_zero, List.set_cons_succ, i64_w, i32_w]
                        rfl
                      refine pure_ (i := 7) (N := some 115) (v := ?_) (a' := ?_) #[true, true, true, true, true, true, true, true] rfl rfl (any_of HT_.out (by kernel_rfl)) (fun _ _ _ h => h) (Or.inl ⟨by rfl, ?_⟩) ?_ ?_
                      rotate_left
                      · intro w'
                        go_simp
                        with_reducible rfl
                      rotate_left
                      · simp only [Act.put, List.setIfInBounds_toArray, List.set_cons_zero, List.set_cons_succ, i64_w, i32_w]
                        rfl
                      refine done_ (done_of HT_.out (by kernel_rfl)) ?_
                      have hnb117 := NB331_332.out
                      have hnc117 := NB332_331.out
                      have hnb118 := NB331_333.out
                      have hnc118 := NB333_331.out
                      have hcz119_0 : w116.cell? ⟨gb331, 0, none⟩ = some (.int .i64 a0_0) := (blk_cell BK331.out 0).trans rfl
                      have hcz119_1 : w116.cell? ⟨gb331, 1, none⟩ = some (.int .i64 a0_1) := (blk_cell BK331.out 1).trans rfl
                      have hfz119_0 := blk_frozen BK331.out 0
                      have hfz119_1 := blk_frozen BK331.out 1
                      go_upto_region 14 with (first | ((with_reducible refine gate_callee (f := 25) rfl ?_); refine goesL_ (some 119) rfl rfl Try.func25 (by kernel_rfl) rfl #[.agg #[.int .i64 a0_0, .int .i64 a0_1], .int .i64 a3, .int .i64 a4] rfl (by (try simp only [List.map_toArray, List.map_cons, List.map_nil]); first | done | rfl | (simp only [List.length_drop, List.length_take]; rfl)) ?_; (with_reducible refine (boundstonelaw02_moved.calls a0_0 a0_1 a3 a4 t346 t347 _ A111.out).mono ?_); rintro e w120 ⟨rfl, hb⟩; refine ⟨_, rfl, ?_⟩; have n0_ := Aside0.mk (blk_below (g := gb331) (o := .cells #[.int .i64 a0_0, .int .i64 a0_1] 23 (0, 0)) (by (with_reducible repeat (first | refine blk_drewN ?_ _ | refine blk_drew ?_ | refine blk_alloc ?_ _)); exact BK331.out) hb); have n1_ := Aside0.mk (blk_below (g := gb332) (o := .cells #[.int .i64 a1_0, .int .i64 a1_1] 23 (0, 0)) (by (with_reducible repeat (first | refine blk_drewN ?_ _ | refine blk_drew ?_ | refine blk_alloc ?_ _)); exact BK332.out) hb); have n2_ := Aside0.mk (blk_below (g := gb333) (o := .cells #[.int .i64 a2_0, .int .i64 a2_1] 23 (0, 0)) (by (with_reducible repeat (first | refine blk_drewN ?_ _ | refine blk_drew ?_ | refine blk_alloc ?_ _)); exact BK333.out) hb); have n3_ := Aside0.mk (below_step (by repeat (first | (with_reducible first | exact HB.out | apply below_alloc | apply pw_below_drewN | apply below_drew1 | refine below_set ?_ GE331.out | refine below_set ?_ GE332.out | refine below_set ?_ GE333.out) | exact HB.out)) hb); clear BK331; clear BK332; clear BK333; clear HB; have BK331 := n0_; have BK332 := n1_; have BK333 := n2_; have HB := n3_; clear n0_ n1_ n2_ n3_; (try clear hb); (try clear hb2); (try clear hk); (try clear hi)) | ((with_reducible refine gate_dst (N := 15) rfl ?_); refine box_event ?hg (N := 15) ?hd (cs := #[.int .i64 0, .int .i64 0]) (t := 23) ?hr ?_; (case hd => rfl); (case hg => rfl); (case hr => first | (go_simp; done) | (go_simp; rfl)); intro gb348 hg w121 hbox hb; have n0_ := Aside0.mk (blk_below (g := gb331) (o := .cells #[.int .i64 a0_0, .int .i64 a0_1] 23 (0, 0)) (by (with_reducible repeat (first | refine blk_drewN ?_ _ | refine blk_drew ?_ | refine blk_alloc ?_ _)); exact BK331.out) hb); have n1_ := Aside0.mk (blk_below (g := gb332) (o := .cells #[.int .i64 a1_0, .int .i64 a1_1] 23 (0, 0)) (by (with_reducible repeat (first | refine blk_drewN ?_ _ | refine blk_drew ?_ | refine blk_alloc ?_ _)); exact BK332.out) hb); have n2_ := Aside0.mk (blk_below (g := gb333) (o := .cells #[.int .i64 a2_0, .int .i64 a2_1] 23 (0, 0)) (by (with_reducible repeat (first | refine blk_drewN ?_ _ | refine blk_drew ?_ | refine blk_alloc ?_ _)); exact BK333.out) hb); have n3_ := Aside0.mk (below_step (by repeat (first | (with_reducible first | exact HB.out | apply below_alloc | apply pw_below_drewN | apply below_drew1 | refine below_set ?_ GE331.out | refine below_set ?_ GE332.out | refine below_set ?_ GE333.out) | exact HB.out)) hb); have n4_ := Aside0.mk (hbox); have n5_ := Aside0.mk ((by rw [hg]; exact (below_size (by repeat (first | (with_reducible first | exact HB.out | apply below_alloc | apply pw_below_drewN | apply below_drew1 | refine below_set ?_ GE331.out | refine below_set ?_ GE332.out | refine below_set ?_ GE333.out) | exact HB.out))) : w.heap.size ≤ gb348)); have n6_ := Aside0.mk ((by rw [hg]; exact (below_size (by repeat (first | (with_reducible first | exact HB.out | apply below_alloc | apply pw_below_drewN | apply below_drew1 | refine below_set ?_ GE331.out | refine below_set ?_ GE332.out | refine below_set ?_ GE333.out) | exact HB.out))) : w.heap.size ≤ gb348)); have n7_ := Aside0.mk ((by rw [hg]; exact Nat.ne_of_lt (blk_lt (g := gb331) (o := .cells #[.int .i64 a0_0, .int .i64 a0_1] 23 (0, 0)) (by (with_reducible repeat (first | refine blk_drewN ?_ _ | refine blk_drew ?_ | refine blk_alloc ?_ _)); exact BK331.out)) : gb331 ≠ gb348)); have n8_ := Aside0.mk ((by rw [hg]; exact Nat.ne_of_gt (blk_lt (g := gb331) (o := .cells #[.int .i64 a0_0, .int .i64 a0_1] 23 (0, 0)) (by (with_reducible repeat (first | refine blk_drewN ?_ _ | refine blk_drew ?_ | refine blk_alloc ?_ _)); exact BK331.out)) : gb348 ≠ gb331)); have n9_ := Aside0.mk ((by rw [hg]; exact Nat.ne_of_lt (blk_lt (g := gb332) (o := .cells #[.int .i64 a1_0, .int .i64 a1_1] 23 (0, 0)) (by (with_reducible repeat (first | refine blk_drewN ?_ _ | refine blk_drew ?_ | refine blk_alloc ?_ _)); exact BK332.out)) : gb332 ≠ gb348)); have n10_ := Aside0.mk ((by rw [hg]; exact Nat.ne_of_gt (blk_lt (g := gb332) (o := .cells #[.int .i64 a1_0, .int .i64 a1_1] 23 (0, 0)) (by (with_reducible repeat (first | refine blk_drewN ?_ _ | refine blk_drew ?_ | refine blk_alloc ?_ _)); exact BK332.out)) : gb348 ≠ gb332)); have n11_ := Aside0.mk ((by rw [hg]; exact Nat.ne_of_lt (blk_lt (g := gb333) (o := .cells #[.int .i64 a2_0, .int .i64 a2_1] 23 (0, 0)) (by (with_reducible repeat (first | refine blk_drewN ?_ _ | refine blk_drew ?_ | refine blk_alloc ?_ _)); exact BK333.out)) : gb333 ≠ gb348)); have n12_ := Aside0.mk ((by rw [hg]; exact Nat.ne_of_gt (blk_lt (g := gb333) (o := .cells #[.int .i64 a2_0, .int .i64 a2_1] 23 (0, 0)) (by (with_reducible repeat (first | refine blk_drewN ?_ _ | refine blk_drew ?_ | refine blk_alloc ?_ _)); exact BK333.out)) : gb348 ≠ gb333)); clear BK331; clear BK332; clear BK333; clear HB; have BK331 := n0_; have BK332 := n1_; have BK333 := n2_; have HB := n3_; have BK348 := n4_; have GW348 := n5_; have GE348 := n6_; have NB331_348 := n7_; have NB348_331 := n8_; have NB332_348 := n9_; have NB348_332 := n10_; have NB333_348 := n11_; have NB348_333 := n12_; clear n0_ n1_ n2_ n3_ n4_ n5_ n6_ n7_ n8_ n9_ n10_ n11_ n12_; clear hb hbox hg; have hnb122 := NB348_331.out; have hnc122 := NB331_348.out; have hnb123 := NB348_332.out; have hnc123 := NB332_348.out; have hnb124 := NB348_333.out; have hnc124 := NB333_348.out; have hcz125_0 : w121.cell? ⟨gb348, 0, none⟩ = some (.int .i64 0) := (blk_cell BK348.out 0).trans rfl; have hcz125_1 : w121.cell? ⟨gb348, 1, none⟩ = some (.int .i64 0) := (blk_cell BK348.out 1).trans rfl; have hfz125_0 := blk_frozen BK348.out 0; have hfz125_1 := blk_frozen BK348.out 1; have hnb126 := NB332_333.out; have hnc126 := NB333_332.out; have hcz127_0 : w121.cell? ⟨gb332, 0, none⟩ = some (.int .i64 a1_0) := (blk_cell BK332.out 0).trans rfl; have hcz127_1 : w121.cell? ⟨gb332, 1, none⟩ = some (.int .i64 a1_1) := (blk_cell BK332.out 1).trans rfl; have hfz127_0 := blk_frozen BK332.out 0; have hfz127_1 := blk_frozen BK332.out 1) | ((with_reducible refine gate_callee (f := 25) rfl ?_); refine goesL_ (some 123) rfl rfl Try.func25 (by kernel_rfl) rfl #[.agg #[.int .i64 a1_0, .int .i64 a1_1], .int .i64 a3, .int .i64 a4] rfl (by (try simp only [List.map_toArray, List.map_cons, List.map_nil]); first | done | rfl | (simp only [List.length_drop, List.length_take]; rfl)) ?_; (with_reducible refine (boundstonelaw02_moved.calls a1_0 a1_1 a3 a4 t349 t350 _ A112.out).mono ?_); rintro e w128 ⟨rfl, hb⟩; refine ⟨_, rfl, ?_⟩; have n0_ := Aside0.mk (blk_below (g := gb331) (o := .cells #[.int .i64 a0_0, .int .i64 a0_1] 23 (0, 0)) (by (with_reducible repeat (first | refine blk_drewN ?_ _ | refine blk_drew ?_ | refine blk_alloc ?_ _)); refine blk_far ?_ NB331_348.out _; (with_reducible repeat (first | refine blk_drewN ?_ _ | refine blk_drew ?_ | refine blk_alloc ?_ _)); refine blk_far ?_ NB331_348.out _; (with_reducible repeat (first | refine blk_drewN ?_ _ | refine blk_drew ?_ | refine blk_alloc ?_ _)); exact BK331.out) hb); have n1_ := Aside0.mk (blk_below (g := gb332) (o := .cells #[.int .i64 a1_0, .int .i64 a1_1] 23 (0, 0)) (by (with_reducible repeat (first | refine blk_drewN ?_ _ | refine blk_drew ?_ | refine blk_alloc ?_ _)); refine blk_far ?_ NB332_348.out _; (with_reducible repeat (first | refine blk_drewN ?_ _ | refine blk_drew ?_ | refine blk_alloc ?_ _)); refine blk_far ?_ NB332_348.out _; (with_reducible repeat (first | refine blk_drewN ?_ _ | refine blk_drew ?_ | refine blk_alloc ?_ _)); exact BK332.out) hb); have n2_ := Aside0.mk (blk_below (g := gb333) (o := .cells #[.int .i64 a2_0, .int .i64 a2_1] 23 (0, 0)) (by (with_reducible repeat (first | refine blk_drewN ?_ _ | refine blk_drew ?_ | refine blk_alloc ?_ _)); refine blk_far ?_ NB333_348.out _; (with_reducible repeat (first | refine blk_drewN ?_ _ | refine blk_drew ?_ | refine blk_alloc ?_ _)); refine blk_far ?_ NB333_348.out _; (with_reducible repeat (first | refine blk_drewN ?_ _ | refine blk_drew ?_ | refine blk_alloc ?_ _)); exact BK333.out) hb); have n3_ := Aside0.mk (blk_below (g := gb348) (o := .cells #[.int .i64 t346, .int .i64 t347] 23 (0, 0)) (by (with_reducible repeat (first | refine blk_drewN ?_ _ | refine blk_drew ?_ | refine blk_alloc ?_ _)); refine blk_put (cs := #[.int .i64 t346, .int .i64 0]) ?_ 1 _ rfl; (with_reducible repeat (first | refine blk_drewN ?_ _ | refine blk_drew ?_ | refine blk_alloc ?_ _)); refine blk_put (cs := #[.int .i64 0, .int .i64 0]) ?_ 0 _ rfl; (with_reducible repeat (first | refine blk_drewN ?_ _ | refine blk_drew ?_ | refine blk_alloc ?_ _)); exact BK348.out) hb); have n4_ := Aside0.mk (below_step (by repeat (first | (with_reducible first | exact HB.out | apply below_alloc | apply pw_below_drewN | apply below_drew1 | refine below_set ?_ GE331.out | refine below_set ?_ GE332.out | refine below_set ?_ GE333.out | refine below_set ?_ GE348.out) | exact HB.out)) hb); clear BK331; clear BK332; clear BK333; clear BK348; clear HB; have BK331 := n0_; have BK332 := n1_; have BK333 := n2_; have BK348 := n3_; have HB := n4_; clear n0_ n1_ n2_ n3_ n4_; (try clear hb); (try clear hb2); (try clear hk); (try clear hi)) | ((with_reducible refine gate_dst (N := 16) rfl ?_); refine box_event ?hg (N := 16) ?hd (cs := #[.int .i64 0, .int .i64 0]) (t := 23) ?hr ?_; (case hd => rfl); (case hg => rfl); (case hr => first | (go_simp; done) | (go_simp; rfl)); intro gb351 hg w129 hbox hb; have n0_ := Aside0.mk (blk_below (g := gb331) (o := .cells #[.int .i64 a0_0, .int .i64 a0_1] 23 (0, 0)) (by (with_reducible repeat (first | refine blk_drewN ?_ _ | refine blk_drew ?_ | refine blk_alloc ?_ _)); exact BK331.out) hb); have n1_ := Aside0.mk (blk_below (g := gb332) (o := .cells #[.int .i64 a1_0, .int .i64 a1_1] 23 (0, 0)) (by (with_reducible repeat (first | refine blk_drewN ?_ _ | refine blk_drew ?_ | refine blk_alloc ?_ _)); exact BK332.out) hb); have n2_ := Aside0.mk (blk_below (g := gb333) (o := .cells #[.int .i64 a2_0, .int .i64 a2_1] 23 (0, 0)) (by (with_reducible repeat (first | refine blk_drewN ?_ _ | refine blk_drew ?_ | refine blk_alloc ?_ _)); exact BK333.out) hb); have n3_ := Aside0.mk (blk_below (g := gb348) (o := .cells #[.int .i64 t346, .int .i64 t347] 23 (0, 0)) (by (with_reducible repeat (first | refine blk_drewN ?_ _ | refine blk_drew ?_ | refine blk_alloc ?_ _)); exact BK348.out) hb); have n4_ := Aside0.mk (below_step (by repeat (first | (with_reducible first | exact HB.out | apply below_alloc | apply pw_below_drewN | apply below_drew1 | refine below_set ?_ GE331.out | refine below_set ?_ GE332.out | refine below_set ?_ GE333.out | refine below_set ?_ GE348.out) | exact HB.out)) hb); have n5_ := Aside0.mk (hbox); have n6_ := Aside0.mk ((by rw [hg]; exact (below_size (by repeat (first | (with_reducible first | exact HB.out | apply below_alloc | apply pw_below_drewN | apply below_drew1 | refine below_set ?_ GE331.out | refine below_set ?_ GE332.out | refine below_set ?_ GE333.out | refine below_set ?_ GE348.out) | exact HB.out))) : w.heap.size ≤ gb351)); have n7_ := Aside0.mk ((by rw [hg]; exact (below_size (by repeat (first | (with_reducible first | exact HB.out | apply below_alloc | apply pw_below_drewN | apply below_drew1 | refine below_set ?_ GE331.out | refine below_set ?_ GE332.out | refine below_set ?_ GE333.out | refine below_set ?_ GE348.out) | exact HB.out))) : w.heap.size ≤ gb351)); have n8_ := Aside0.mk ((by rw [hg]; exact Nat.ne_of_lt (blk_lt (g := gb331) (o := .cells #[.int .i64 a0_0, .int .i64 a0_1] 23 (0, 0)) (by (with_reducible repeat (first | refine blk_drewN ?_ _ | refine blk_drew ?_ | refine blk_alloc ?_ _)); exact BK331.out)) : gb331 ≠ gb351)); have n9_ := Aside0.mk ((by rw [hg]; exact Nat.ne_of_gt (blk_lt (g := gb331) (o := .cells #[.int .i64 a0_0, .int .i64 a0_1] 23 (0, 0)) (by (with_reducible repeat (first | refine blk_drewN ?_ _ | refine blk_drew ?_ | refine blk_alloc ?_ _)); exact BK331.out)) : gb351 ≠ gb331)); have n10_ := Aside0.mk ((by rw [hg]; exact Nat.ne_of_lt (blk_lt (g := gb332) (o := .cells #[.int .i64 a1_0, .int .i64 a1_1] 23 (0, 0)) (by (with_reducible repeat (first | refine blk_drewN ?_ _ | refine blk_drew ?_ | refine blk_alloc ?_ _)); exact BK332.out)) : gb332 ≠ gb351)); have n11_ := Aside0.mk ((by rw [hg]; exact Nat.ne_of_gt (blk_lt (g := gb332) (o := .cells #[.int .i64 a1_0, .int .i64 a1_1] 23 (0, 0)) (by (with_reducible repeat (first | refine blk_drewN ?_ _ | refine blk_drew ?_ | refine blk_alloc ?_ _)); exact BK332.out)) : gb351 ≠ gb332)); have n12_ := Aside0.mk ((by rw [hg]; exact Nat.ne_of_lt (blk_lt (g := gb333) (o := .cells #[.int .i64 a2_0, .int .i64 a2_1] 23 (0, 0)) (by (with_reducible repeat (first | refine blk_drewN ?_ _ | refine blk_drew ?_ | refine blk_alloc ?_ _)); exact BK333.out)) : gb333 ≠ gb351)); have n13_ := Aside0.mk ((by rw [hg]; exact Nat.ne_of_gt (blk_lt (g := gb333) (o := .cells #[.int .i64 a2_0, .int .i64 a2_1] 23 (0, 0)) (by (with_reducible repeat (first | refine blk_drewN ?_ _ | refine blk_drew ?_ | refine blk_alloc ?_ _)); exact BK333.out)) : gb351 ≠ gb333)); have n14_ := Aside0.mk ((by rw [hg]; exact Nat.ne_of_lt (blk_lt (g := gb348) (o := .cells #[.int .i64 t346, .int .i64 t347] 23 (0, 0)) (by (with_reducible repeat (first | refine blk_drewN ?_ _ | refine blk_drew ?_ | refine blk_alloc ?_ _)); exact BK348.out)) : gb348 ≠ gb351)); have n15_ := Aside0.mk ((by rw [hg]; exact Nat.ne_of_gt (blk_lt (g := gb348) (o := .cells #[.int .i64 t346, .int .i64 t347] 23 (0, 0)) (by (with_reducible repeat (first | refine blk_drewN ?_ _ | refine blk_drew ?_ | refine blk_alloc ?_ _)); exact BK348.out)) : gb351 ≠ gb348)); clear BK331; clear BK332; clear BK333; clear BK348; clear HB; have BK331 := n0_; have BK332 := n1_; have BK333 := n2_; have BK348 := n3_; have HB := n4_; have BK351 := n5_; have GW351 := n6_; have GE351 := n7_; have NB331_351 := n8_; have NB351_331 := n9_; have NB332_351 := n10_; have NB351_332 := n11_; have NB333_351 := n12_; have NB351_333 := n13_; have NB348_351 := n14_; have NB351_348 := n15_; clear n0_ n1_ n2_ n3_ n4_ n5_ n6_ n7_ n8_ n9_ n10_ n11_ n12_ n13_ n14_ n15_; clear hb hbox hg; have hnb130 := NB351_331.out; have hnc130 := NB331_351.out; have hnb131 := NB351_332.out; have hnc131 := NB332_351.out; have hnb132 := NB351_333.out; have hnc132 := NB333_351.out; have hnb133 := NB351_348.out; have hnc133 := NB348_351.out; have hcz134_0 : w129.cell? ⟨gb351, 0, none⟩ = some (.int .i64 0) := (blk_cell BK351.out 0).trans rfl; have hcz134_1 : w129.cell? ⟨gb351, 1, none⟩ = some (.int .i64 0) := (blk_cell BK351.out 1).trans rfl; have hfz134_0 := blk_frozen BK351.out 0; have hfz134_1 := blk_frozen BK351.out 1; have hcz135_0 : w129.cell? ⟨gb333, 0, none⟩ = some (.int .i64 a2_0) := (blk_cell BK333.out 0).trans rfl; have hcz135_1 : w129.cell? ⟨gb333, 1, none⟩ = some (.int .i64 a2_1) := (blk_cell BK333.out 1).trans rfl; have hfz135_0 := blk_frozen BK333.out 0; have hfz135_1 := blk_frozen BK333.out 1) | ((with_reducible refine gate_callee (f := 25) rfl ?_); refine goesL_ (some 127) rfl rfl Try.func25 (by kernel_rfl) rfl #[.agg #[.int .i64 a2_0, .int .i64 a2_1], .int .i64 a3, .int .i64 a4] rfl (by (try simp only [List.map_toArray, List.map_cons, List.map_nil]); first | done | rfl | (simp only [List.length_drop, List.length_take]; rfl)) ?_; (with_reducible refine (boundstonelaw02_moved.calls a2_0 a2_1 a3 a4 t352 t353 _ A113.out).mono ?_); rintro e w136 ⟨rfl, hb⟩; refine ⟨_, rfl, ?_⟩; have n0_ := Aside0.mk (blk_below (g := gb331) (o := .cells #[.int .i64 a0_0, .int .i64 a0_1] 23 (0, 0)) (by (with_reducible repeat (first | refine blk_drewN ?_ _ | refine blk_drew ?_ | refine blk_alloc ?_ _)); refine blk_far ?_ NB331_351.out _; (with_reducible repeat (first | refine blk_drewN ?_ _ | refine blk_drew ?_ | refine blk_alloc ?_ _)); refine blk_far ?_ NB331_351.out _; (with_reducible repeat (first | refine blk_drewN ?_ _ | refine blk_drew ?_ | refine blk_alloc ?_ _)); exact BK331.out) hb); have n1_ := Aside0.mk (blk_below (g := gb332) (o := .cells #[.int .i64 a1_0, .int .i64 a1_1] 23 (0, 0)) (by (with_reducible repeat (first | refine blk_drewN ?_ _ | refine blk_drew ?_ | refine blk_alloc ?_ _)); refine blk_far ?_ NB332_351.out _; (with_reducible repeat (first | refine blk_drewN ?_ _ | refine blk_drew ?_ | refine blk_alloc ?_ _)); refine blk_far ?_ NB332_351.out _; (with_reducible repeat (first | refine blk_drewN ?_ _ | refine blk_drew ?_ | refine blk_alloc ?_ _)); exact BK332.out) hb); have n2_ := Aside0.mk (blk_below (g := gb333) (o := .cells #[.int .i64 a2_0, .int .i64 a2_1] 23 (0, 0)) (by (with_reducible repeat (first | refine blk_drewN ?_ _ | refine blk_drew ?_ | refine blk_alloc ?_ _)); refine blk_far ?_ NB333_351.out _; (with_reducible repeat (first | refine blk_drewN ?_ _ | refine blk_drew ?_ | refine blk_alloc ?_ _)); refine blk_far ?_ NB333_351.out _; (with_reducible repeat (first | refine blk_drewN ?_ _ | refine blk_drew ?_ | refine blk_alloc ?_ _)); exact BK333.out) hb); have n3_ := Aside0.mk (blk_below (g := gb348) (o := .cells #[.int .i64 t346, .int .i64 t347] 23 (0, 0)) (by (with_reducible repeat (first | refine blk_drewN ?_ _ | refine blk_drew ?_ | refine blk_alloc ?_ _)); refine blk_far ?_ NB348_351.out _; (with_reducible repeat (first | refine blk_drewN ?_ _ | refine blk_drew ?_ | refine blk_alloc ?_ _)); refine blk_far ?_ NB348_351.out _; (with_reducible repeat (first | refine blk_drewN ?_ _ | refine blk_drew ?_ | refine blk_alloc ?_ _)); exact BK348.out) hb); have n4_ := Aside0.mk (blk_below (g := gb351) (o := .cells #[.int .i64 t349, .int .i64 t350] 23 (0, 0)) (by (with_reducible repeat (first | refine blk_drewN ?_ _ | refine blk_drew ?_ | refine blk_alloc ?_ _)); refine blk_put (cs := #[.int .i64 t349, .int .i64 0]) ?_ 1 _ rfl; (with_reducible repeat (first | refine blk_drewN ?_ _ | refine blk_drew ?_ | refine blk_alloc ?_ _)); refine blk_put (cs := #[.int .i64 0, .int .i64 0]) ?_ 0 _ rfl; (with_reducible repeat (first | refine blk_drewN ?_ _ | refine blk_drew ?_ | refine blk_alloc ?_ _)); exact BK351.out) hb); have n5_ := Aside0.mk (below_step (by repeat (first | (with_reducible first | exact HB.out | apply below_alloc | apply pw_below_drewN | apply below_drew1 | refine below_set ?_ GE331.out | refine below_set ?_ GE332.out | refine below_set ?_ GE333.out | refine below_set ?_ GE348.out | refine below_set ?_ GE351.out) | exact HB.out)) hb); clear BK331; clear BK332; clear BK333; clear BK348; clear BK351; clear HB; have BK331 := n0_; have BK332 := n1_; have BK333 := n2_; have BK348 := n3_; have BK351 := n4_; have HB := n5_; clear n0_ n1_ n2_ n3_ n4_ n5_; (try clear hb); (try clear hb2); (try clear hk); (try clear hi)) | ((with_reducible refine gate_dst (N := 17) rfl ?_); refine box_event ?hg (N := 17) ?hd (cs := #[.int .i64 0, .int .i64 0]) (t := 23) ?hr ?_; (case hd => rfl); (case hg => rfl); (case hr => first | (go_simp; done) | (go_simp; rfl)); intro gb354 hg w137 hbox hb; have n0_ := Aside0.mk (blk_below (g := gb331) (o := .cells #[.int .i64 a0_0, .int .i64 a0_1] 23 (0, 0)) (by (with_reducible repeat (first | refine blk_drewN ?_ _ | refine blk_drew ?_ | refine blk_alloc ?_ _)); exact BK331.out) hb); have n1_ := Aside0.mk (blk_below (g := gb332) (o := .cells #[.int .i64 a1_0, .int .i64 a1_1] 23 (0, 0)) (by (with_reducible repeat (first | refine blk_drewN ?_ _ | refine blk_drew ?_ | refine blk_alloc ?_ _)); exact BK332.out) hb); have n2_ := Aside0.mk (blk_below (g := gb333) (o := .cells #[.int .i64 a2_0, .int .i64 a2_1] 23 (0, 0)) (by (with_reducible repeat (first | refine blk_drewN ?_ _ | refine blk_drew ?_ | refine blk_alloc ?_ _)); exact BK333.out) hb); have n3_ := Aside0.mk (blk_below (g := gb348) (o := .cells #[.int .i64 t346, .int .i64 t347] 23 (0, 0)) (by (with_reducible repeat (first | refine blk_drewN ?_ _ | refine blk_drew ?_ | refine blk_alloc ?_ _)); exact BK348.out) hb); have n4_ := Aside0.mk (blk_below (g := gb351) (o := .cells #[.int .i64 t349, .int .i64 t350] 23 (0, 0)) (by (with_reducible repeat (first | refine blk_drewN ?_ _ | refine blk_drew ?_ | refine blk_alloc ?_ _)); exact BK351.out) hb); have n5_ := Aside0.mk (below_step (by repeat (first | (with_reducible first | exact HB.out | apply below_alloc | apply pw_below_drewN | apply below_drew1 | refine below_set ?_ GE331.out | refine below_set ?_ GE332.out | refine below_set ?_ GE333.out | refine below_set ?_ GE348.out | refine below_set ?_ GE351.out) | exact HB.out)) hb); have n6_ := Aside0.mk (hbox); have n7_ := Aside0.mk ((by rw [hg]; exact (below_size (by repeat (first | (with_reducible first | exact HB.out | apply below_alloc | apply pw_below_drewN | apply below_drew1 | refine below_set ?_ GE331.out | refine below_set ?_ GE332.out | refine below_set ?_ GE333.out | refine below_set ?_ GE348.out | refine below_set ?_ GE351.out) | exact HB.out))) : w.heap.size ≤ gb354)); have n8_ := Aside0.mk ((by rw [hg]; exact (below_size (by repeat (first | (with_reducible first | exact HB.out | apply below_alloc | apply pw_below_drewN | apply below_drew1 | refine below_set ?_ GE331.out | refine below_set ?_ GE332.out | refine below_set ?_ GE333.out | refine below_set ?_ GE348.out | refine below_set ?_ GE351.out) | exact HB.out))) : w.heap.size ≤ gb354)); have n9_ := Aside0.mk ((by rw [hg]; exact Nat.ne_of_lt (blk_lt (g := gb331) (o := .cells #[.int .i64 a0_0, .int .i64 a0_1] 23 (0, 0)) (by (with_reducible repeat (first | refine blk_drewN ?_ _ | refine blk_drew ?_ | refine blk_alloc ?_ _)); exact BK331.out)) : gb331 ≠ gb354)); have n10_ := Aside0.mk ((by rw [hg]; exact Nat.ne_of_gt (blk_lt (g := gb331) (o := .cells #[.int .i64 a0_0, .int .i64 a0_1] 23 (0, 0)) (by (with_reducible repeat (first | refine blk_drewN ?_ _ | refine blk_drew ?_ | refine blk_alloc ?_ _)); exact BK331.out)) : gb354 ≠ gb331)); have n11_ := Aside0.mk ((by rw [hg]; exact Nat.ne_of_lt (blk_lt (g := gb332) (o := .cells #[.int .i64 a1_0, .int .i64 a1_1] 23 (0, 0)) (by (with_reducible repeat (first | refine blk_drewN ?_ _ | refine blk_drew ?_ | refine blk_alloc ?_ _)); exact BK332.out)) : gb332 ≠ gb354)); have n12_ := Aside0.mk ((by rw [hg]; exact Nat.ne_of_gt (blk_lt (g := gb332) (o := .cells #[.int .i64 a1_0, .int .i64 a1_1] 23 (0, 0)) (by (with_reducible repeat (first | refine blk_drewN ?_ _ | refine blk_drew ?_ | refine blk_alloc ?_ _)); exact BK332.out)) : gb354 ≠ gb332)); have n13_ := Aside0.mk ((by rw [hg]; exact Nat.ne_of_lt (blk_lt (g := gb333) (o := .cells #[.int .i64 a2_0, .int .i64 a2_1] 23 (0, 0)) (by (with_reducible repeat (first | refine blk_drewN ?_ _ | refine blk_drew ?_ | refine blk_alloc ?_ _)); exact BK333.out)) : gb333 ≠ gb354)); have n14_ := Aside0.mk ((by rw [hg]; exact Nat.ne_of_gt (blk_lt (g := gb333) (o := .cells #[.int .i64 a2_0, .int .i64 a2_1] 23 (0, 0)) (by (with_reducible repeat (first | refine blk_drewN ?_ _ | refine blk_drew ?_ | refine blk_alloc ?_ _)); exact BK333.out)) : gb354 ≠ gb333)); have n15_ := Aside0.mk ((by rw [hg]; exact Nat.ne_of_lt (blk_lt (g := gb348) (o := .cells #[.int .i64 t346, .int .i64 t347] 23 (0, 0)) (by (with_reducible repeat (first | refine blk_drewN ?_ _ | refine blk_drew ?_ | refine blk_alloc ?_ _)); exact BK348.out)) : gb348 ≠ gb354)); have n16_ := Aside0.mk ((by rw [hg]; exact Nat.ne_of_gt (blk_lt (g := gb348) (o := .cells #[.int .i64 t346, .int .i64 t347] 23 (0, 0)) (by (with_reducible repeat (first | refine blk_drewN ?_ _ | refine blk_drew ?_ | refine blk_alloc ?_ _)); exact BK348.out)) : gb354 ≠ gb348)); have n17_ := Aside0.mk ((by rw [hg]; exact Nat.ne_of_lt (blk_lt (g := gb351) (o := .cells #[.int .i64 t349, .int .i64 t350] 23 (0, 0)) (by (with_reducible repeat (first | refine blk_drewN ?_ _ | refine blk_drew ?_ | refine blk_alloc ?_ _)); exact BK351.out)) : gb351 ≠ gb354)); have n18_ := Aside0.mk ((by rw [hg]; exact Nat.ne_of_gt (blk_lt (g := gb351) (o := .cells #[.int .i64 t349, .int .i64 t350] 23 (0, 0)) (by (with_reducible repeat (first | refine blk_drewN ?_ _ | refine blk_drew ?_ | refine blk_alloc ?_ _)); exact BK351.out)) : gb354 ≠ gb351)); clear BK331; clear BK332; clear BK333; clear BK348; clear BK351; clear HB; have BK331 := n0_; have BK332 := n1_; have BK333 := n2_; have BK348 := n3_; have BK351 := n4_; have HB := n5_; have BK354 := n6_; have GW354 := n7_; have GE354 := n8_; have NB331_354 := n9_; have NB354_331 := n10_; have NB332_354 := n11_; have NB354_332 := n12_; have NB333_354 := n13_; have NB354_333 := n14_; have NB348_354 := n15_; have NB354_348 := n16_; have NB351_354 := n17_; have NB354_351 := n18_; clear n0_ n1_ n2_ n3_ n4_ n5_ n6_ n7_ n8_ n9_ n10_ n11_ n12_ n13_ n14_ n15_ n16_ n17_ n18_; clear hb hbox hg; have hnb138 := NB354_331.out; have hnc138 := NB331_354.out; have hnb139 := NB354_332.out; have hnc139 := NB332_354.out; have hnb140 := NB354_333.out; have hnc140 := NB333_354.out; have hnb141 := NB354_348.out; have hnc141 := NB348_354.out; have hnb142 := NB354_351.out; have hnc142 := NB351_354.out; have hcz143_0 : w137.cell? ⟨gb354, 0, none⟩ = some (.int .i64 0) := (blk_cell BK354.out 0).trans rfl; have hcz143_1 : w137.cell? ⟨gb354, 1, none⟩ = some (.int .i64 0) := (blk_cell BK354.out 1).trans rfl; have hfz143_0 := blk_frozen BK354.out 0; have hfz143_1 := blk_frozen BK354.out 1))
                      (try simp only [Act.put, List.setIfInBounds_toArray, List.set_cons_zero, List.set_cons_succ])
                      go_cut [140] (fun v140 wc => ∃ (kq : Nat) (x140_113 : Bool), v140 = .bool x140_113 ∧ Aside0 (boundstonelaw02_PlaneTurnsFair.j3 kq t334 x140_113 a0_0 a0_1 a1_0 a1_1 t346 t347 t349 t350 t352 t353 = some r) ∧ Aside0 (kq ≤ kj39) ∧ Aside0 (wc.heap[gb331]? = some (.cells #[.int .i64 a0_0, .int .i64 a0_1] 23 (0, 0))) ∧ Aside0 (wc.heap[gb332]? = some (.cells #[.int .i64 a1_0, .int .i64 a1_1] 23 (0, 0))) ∧ Aside0 (wc.heap[gb333]? = some (.cells #[.int .i64 a2_0, .int .i64 a2_1] 23 (0, 0))) ∧ Aside0 (wc.heap[gb348]? = some (.cells #[.int .i64 t346, .int .i64 t347] 23 (0, 0))) ∧ Aside0 (wc.heap[gb351]? = some (.cells #[.int .i64 t349, .int .i64 t350] 23 (0, 0))) ∧ Aside0 (wc.heap[gb354]? = some (.cells #[.int .i64 t352, .int .i64 t353] 23 (0, 0))) ∧ Aside0 (Below w.heap.size w wc))
                      case first =>
                        have H := HC114.out
                        clear HC114
                        replace H := Option.bind_eq_some_iff.mp H
                        obtain ⟨t355, A1440, H⟩ := H
                        try dsimp only at H
                        have A144 := Aside0.mk A1440
                        clear A1440
                        by_cases c145 : t355 = true
                        · subst c145
                          have H1 : ((plane_Valid.f t349 t350).bind fun t356 => (if t356 = true then ((plane_Valid.f t352 t353).bind fun t357 => (boundstonelaw02_PlaneTurnsFair.j3 kj39 t334 (!t357) a0_0 a0_1 a1_0 a1_1 t346 t347 t349 t350 t352 t353)) else (boundstonelaw02_PlaneTurnsFair.j3 kj39 t334 true a0_0 a0_1 a1_0 a1_1 t346 t347 t349 t350 t352 t353))) = some r := by rw [if_pos rfl] at H; exact H
                          clear H
                          have H := H1
                          clear H1
                          replace H := Option.bind_eq_some_iff.mp H
                          obtain ⟨t356, A1460, H⟩ := H
                          replace H : (if t356 = true then ((plane_Valid.f t352 t353).bind fun t357 => (boundstonelaw02_PlaneTurnsFair.j3 kj39 t334 (!t357) a0_0 a0_1 a1_0 a1_1 t346 t347 t349 t350 t352 t353)) else (boundstonelaw02_PlaneTurnsFair.j3 kj39 t334 true a0_0 a0_1 a1_0 a1_1 t346 t347 t349 t350 t352 t353)) = some r := H
                          have A146 := Aside0.mk A1460
                          clear A1460
                          by_cases c147 : t356 = true
                          · subst c147
                            have H1 : ((plane_Valid.f t352 t353).bind fun t357 => (boundstonelaw02_PlaneTurnsFair.j3 kj39 t334 (!t357) a0_0 a0_1 a1_0 a1_1 t346 t347 t349 t350 t352 t353)) = some r := by rw [if_pos rfl] at H; exact H
                            clear H
                            have H := H1
                            clear H1
                            replace H := Option.bind_eq_some_iff.mp H
                            obtain ⟨t357, A1480, H⟩ := H
                            replace H : (boundstonelaw02_PlaneTurnsFair.j3 kj39 t334 (!t357) a0_0 a0_1 a1_0 a1_1 t346 t347 t349 t350 t352 t353) = some r := H
                            have A148 := Aside0.mk A1480
                            clear A1480
                            have H' := Aside0.mk H
                            clear H
                            have hnb149 := NB348_331.out
                            have hnc149 := NB331_348.out
                            have hnb150 := NB348_332.out
                            have hnc150 := NB332_348.out
                            have hnb151 := NB348_333.out
                            have hnc151 := NB333_348.out
                            have hnb152 := NB348_351.out
                            have hnc152 := NB351_348.out
                            have hnb153 := NB348_354.out
                            have hnc153 := NB354_348.out
                            have hcz154_0 : w137.cell? ⟨gb348, 0, none⟩ = some (.int .i64 t346) := (blk_cell BK348.out 0).trans rfl
                            have hcz154_1 : w137.cell? ⟨gb348, 1, none⟩ = some (.int .i64 t347) := (blk_cell BK348.out 1).trans rfl
                            have hfz154_0 := blk_frozen BK348.out 0
                            have hfz154_1 := blk_frozen BK348.out 1
                            go_wp2_with (first | ((with_reducible refine gate_callee (f := 17) rfl ?_); refine goesL_ (some 129) rfl rfl Try.func17 (by kernel_rfl) rfl #[.agg #[.int .i64 t346, .int .i64 t347]] rfl (by (try simp only [List.map_toArray, List.map_cons, List.map_nil]); first | done | rfl | (simp only [List.length_drop, List.length_take]; rfl)) ?_; (with_reducible refine (plane_Valid.calls t346 t347 true _ A144.out).mono ?_); rintro e w155 ⟨rfl, hb⟩; refine ⟨_, rfl, ?_⟩; have n0_ := Aside0.mk (blk_below (g := gb331) (o := .cells #[.int .i64 a0_0, .int .i64 a0_1] 23 (0, 0)) (by (with_reducible repeat (first | refine blk_drewN ?_ _ | refine blk_drew ?_ | refine blk_alloc ?_ _)); refine blk_far ?_ NB331_354.out _; (with_reducible repeat (first | refine blk_drewN ?_ _ | refine blk_drew ?_ | refine blk_alloc ?_ _)); refine blk_far ?_ NB331_354.out _; (with_reducible repeat (first | refine blk_drewN ?_ _ | refine blk_drew ?_ | refine blk_alloc ?_ _)); exact BK331.out) hb); have n1_ := Aside0.mk (blk_below (g := gb332) (o := .cells #[.int .i64 a1_0, .int .i64 a1_1] 23 (0, 0)) (by (with_reducible repeat (first | refine blk_drewN ?_ _ | refine blk_drew ?_ | refine blk_alloc ?_ _)); refine blk_far ?_ NB332_354.out _; (with_reducible repeat (first | refine blk_drewN ?_ _ | refine blk_drew ?_ | refine blk_alloc ?_ _)); refine blk_far ?_ NB332_354.out _; (with_reducible repeat (first | refine blk_drewN ?_ _ | refine blk_drew ?_ | refine blk_alloc ?_ _)); exact BK332.out) hb); have n2_ := Aside0.mk (blk_below (g := gb333) (o := .cells #[.int .i64 a2_0, .int .i64 a2_1] 23 (0, 0)) (by (with_reducible repeat (first | refine blk_drewN ?_ _ | refine blk_drew ?_ | refine blk_alloc ?_ _)); refine blk_far ?_ NB333_354.out _; (with_reducible repeat (first | refine blk_drewN ?_ _ | refine blk_drew ?_ | refine blk_alloc ?_ _)); refine blk_far ?_ NB333_354.out _; (with_reducible repeat (first | refine blk_drewN ?_ _ | refine blk_drew ?_ | refine blk_alloc ?_ _)); exact BK333.out) hb); have n3_ := Aside0.mk (blk_below (g := gb348) (o := .cells #[.int .i64 t346, .int .i64 t347] 23 (0, 0)) (by (with_reducible repeat (first | refine blk_drewN ?_ _ | refine blk_drew ?_ | refine blk_alloc ?_ _)); refine blk_far ?_ NB348_354.out _; (with_reducible repeat (first | refine blk_drewN ?_ _ | refine blk_drew ?_ | refine blk_alloc ?_ _)); refine blk_far ?_ NB348_354.out _; (with_reducible repeat (first | refine blk_drewN ?_ _ | refine blk_drew ?_ | refine blk_alloc ?_ _)); exact BK348.out) hb); have n4_ := Aside0.mk (blk_below (g := gb351) (o := .cells #[.int .i64 t349, .int .i64 t350] 23 (0, 0)) (by (with_reducible repeat (first | refine blk_drewN ?_ _ | refine blk_drew ?_ | refine blk_alloc ?_ _)); refine blk_far ?_ NB351_354.out _; (with_reducible repeat (first | refine blk_drewN ?_ _ | refine blk_drew ?_ | refine blk_alloc ?_ _)); refine blk_far ?_ NB351_354.out _; (with_reducible repeat (first | refine blk_drewN ?_ _ | refine blk_drew ?_ | refine blk_alloc ?_ _)); exact BK351.out) hb); have n5_ := Aside0.mk (blk_below (g := gb354) (o := .cells #[.int .i64 t352, .int .i64 t353] 23 (0, 0)) (by (with_reducible repeat (first | refine blk_drewN ?_ _ | refine blk_drew ?_ | refine blk_alloc ?_ _)); refine blk_put (cs := #[.int .i64 t352, .int .i64 0]) ?_ 1 _ rfl; (with_reducible repeat (first | refine blk_drewN ?_ _ | refine blk_drew ?_ | refine blk_alloc ?_ _)); refine blk_put (cs := #[.int .i64 0, .int .i64 0]) ?_ 0 _ rfl; (with_reducible repeat (first | refine blk_drewN ?_ _ | refine blk_drew ?_ | refine blk_alloc ?_ _)); exact BK354.out) hb); have n6_ := Aside0.mk (below_step (by repeat (first | (with_reducible first | exact HB.out | apply below_alloc | apply pw_below_drewN | apply below_drew1 | refine below_set ?_ GE331.out | refine below_set ?_ GE332.out | refine below_set ?_ GE333.out | refine below_set ?_ GE348.out | refine below_set ?_ GE351.out | refine below_set ?_ GE354.out) | exact HB.out)) hb); clear BK331; clear BK332; clear BK333; clear BK348; clear BK351; clear BK354; clear HB; have BK331 := n0_; have BK332 := n1_; have BK333 := n2_; have BK348 := n3_; have BK351 := n4_; have BK354 := n5_; have HB := n6_; clear n0_ n1_ n2_ n3_ n4_ n5_ n6_; (try clear hb); (try clear hb2); (try clear hk); (try clear hi); have hnb156 := NB351_331.out; have hnc156 := NB331_351.out; have hnb157 := NB351_332.out; have hnc157 := NB332_351.out; have hnb158 := NB351_333.out; have hnc158 := NB333_351.out; have hnb159 := NB351_354.out; have hnc159 := NB354_351.out; have hcz160_0 : w155.cell? ⟨gb351, 0, none⟩ = some (.int .i64 t349) := (blk_cell BK351.out 0).trans rfl; have hcz160_1 : w155.cell? ⟨gb351, 1, none⟩ = some (.int .i64 t350) := (blk_cell BK351.out 1).trans rfl; have hfz160_0 := blk_frozen BK351.out 0; have hfz160_1 := blk_frozen BK351.out 1) | (go_at_call 17; (with_reducible refine (plane_Valid.calls t349 t350 true _ A146.out).mono ?_); rintro e w161 ⟨rfl, hb⟩; have n0_ := Aside0.mk (blk_below (g := gb331) (o := .cells #[.int .i64 a0_0, .int .i64 a0_1] 23 (0, 0)) (by (with_reducible repeat (first | refine blk_drewN ?_ _ | refine blk_drew ?_ | refine blk_alloc ?_ _)); exact BK331.out) hb); have n1_ := Aside0.mk (blk_below (g := gb332) (o := .cells #[.int .i64 a1_0, .int .i64 a1_1] 23 (0, 0)) (by (with_reducible repeat (first | refine blk_drewN ?_ _ | refine blk_drew ?_ | refine blk_alloc ?_ _)); exact BK332.out) hb); have n2_ := Aside0.mk (blk_below (g := gb333) (o := .cells #[.int .i64 a2_0, .int .i64 a2_1] 23 (0, 0)) (by (with_reducible repeat (first | refine blk_drewN ?_ _ | refine blk_drew ?_ | refine blk_alloc ?_ _)); exact BK333.out) hb); have n3_ := Aside0.mk (blk_below (g := gb348) (o := .cells #[.int .i64 t346, .int .i64 t347] 23 (0, 0)) (by (with_reducible repeat (first | refine blk_drewN ?_ _ | refine blk_drew ?_ | refine blk_alloc ?_ _)); exact BK348.out) hb); have n4_ := Aside0.mk (blk_below (g := gb351) (o := .cells #[.int .i64 t349, .int .i64 t350] 23 (0, 0)) (by (with_reducible repeat (first | refine blk_drewN ?_ _ | refine blk_drew ?_ | refine blk_alloc ?_ _)); exact BK351.out) hb); have n5_ := Aside0.mk (blk_below (g := gb354) (o := .cells #[.int .i64 t352, .int .i64 t353] 23 (0, 0)) (by (with_reducible repeat (first | refine blk_drewN ?_ _ | refine blk_drew ?_ | refine blk_alloc ?_ _)); exact BK354.out) hb); have n6_ := Aside0.mk (below_step (by repeat (first | (with_reducible first | exact HB.out | apply below_alloc | apply pw_below_drewN | apply below_drew1 | refine below_set ?_ GE331.out | refine below_set ?_ GE332.out | refine below_set ?_ GE333.out | refine below_set ?_ GE348.out | refine below_set ?_ GE351.out | refine below_set ?_ GE354.out) | exact HB.out)) hb); clear BK331; clear BK332; clear BK333; clear BK348; clear BK351; clear BK354; clear HB; have BK331 := n0_; have BK332 := n1_; have BK333 := n2_; have BK348 := n3_; have BK351 := n4_; have BK354 := n5_; have HB := n6_; clear n0_ n1_ n2_ n3_ n4_ n5_ n6_; (try clear hb); (try clear hb2); (try clear hk); (try clear hi); have hnb162 := NB354_331.out; have hnc162 := NB331_354.out; have hnb163 := NB354_332.out; have hnc163 := NB332_354.out; have hnb164 := NB354_333.out; have hnc164 := NB333_354.out; have hcz165_0 : w161.cell? ⟨gb354, 0, none⟩ = some (.int .i64 t352) := (blk_cell BK354.out 0).trans rfl; have hcz165_1 : w161.cell? ⟨gb354, 1, none⟩ = some (.int .i64 t353) := (blk_cell BK354.out 1).trans rfl; have hfz165_0 := blk_frozen BK354.out 0; have hfz165_1 := blk_frozen BK354.out 1) | (go_at_call 17; (with_reducible refine (plane_Valid.calls t352 t353 t357 _ A148.out).mono ?_); rintro e w166 ⟨rfl, hb⟩; have n0_ := Aside0.mk (blk_below (g := gb331) (o := .cells #[.int .i64 a0_0, .int .i64 a0_1] 23 (0, 0)) (by (with_reducible repeat (first | refine blk_drewN ?_ _ | refine blk_drew ?_ | refine blk_alloc ?_ _)); exact BK331.out) hb); have n1_ := Aside0.mk (blk_below (g := gb332) (o := .cells #[.int .i64 a1_0, .int .i64 a1_1] 23 (0, 0)) (by (with_reducible repeat (first | refine blk_drewN ?_ _ | refine blk_drew ?_ | refine blk_alloc ?_ _)); exact BK332.out) hb); have n2_ := Aside0.mk (blk_below (g := gb333) (o := .cells #[.int .i64 a2_0, .int .i64 a2_1] 23 (0, 0)) (by (with_reducible repeat (first | refine blk_drewN ?_ _ | refine blk_drew ?_ | refine blk_alloc ?_ _)); exact BK333.out) hb); have n3_ := Aside0.mk (blk_below (g := gb348) (o := .cells #[.int .i64 t346, .int .i64 t347] 23 (0, 0)) (by (with_reducible repeat (first | refine blk_drewN ?_ _ | refine blk_drew ?_ | refine blk_alloc ?_ _)); exact BK348.out) hb); have n4_ := Aside0.mk (blk_below (g := gb351) (o := .cells #[.int .i64 t349, .int .i64 t350] 23 (0, 0)) (by (with_reducible repeat (first | refine blk_drewN ?_ _ | refine blk_drew ?_ | refine blk_alloc ?_ _)); exact BK351.out) hb); have n5_ := Aside0.mk (blk_below (g := gb354) (o := .cells #[.int .i64 t352, .int .i64 t353] 23 (0, 0)) (by (with_reducible repeat (first | refine blk_drewN ?_ _ | refine blk_drew ?_ | refine blk_alloc ?_ _)); exact BK354.out) hb); have n6_ := Aside0.mk (below_step (by repeat (first | (with_reducible first | exact HB.out | apply below_alloc | apply pw_below_drewN | apply below_drew1 | refine below_set ?_ GE331.out | refine below_set ?_ GE332.out | refine below_set ?_ GE333.out | refine below_set ?_ GE348.out | refine below_set ?_ GE351.out | refine below_set ?_ GE354.out) | exact HB.out)) hb); clear BK331; clear BK332; clear BK333; clear BK348; clear BK351; clear BK354; clear HB; have BK331 := n0_; have BK332 := n1_; have BK333 := n2_; have BK348 := n3_; have BK351 := n4_; have BK354 := n5_; have HB := n6_; clear n0_ n1_ n2_ n3_ n4_ n5_ n6_; (try clear hb); (try clear hb2); (try clear hk); (try clear hi)))
                            go_meet
                            case rel => exact ⟨_, (!t357), (by first | rfl | (simp; done) | (simp [*]; done)), H', ⟨by have := HJ7.out; have := HJ34.out; have := HJ39.out; first | omega | exact Nat.le_refl _⟩, ⟨by (with_reducible repeat (first | refine blk_drewN ?_ _ | refine blk_drew ?_ | refine blk_alloc ?_ _)); exact BK331.out⟩, ⟨by (with_reducible repeat (first | refine blk_drewN ?_ _ | refine blk_drew ?_ | refine blk_alloc ?_ _)); exact BK332.out⟩, ⟨by (with_reducible repeat (first | refine blk_drewN ?_ _ | refine blk_drew ?_ | refine blk_alloc ?_ _)); exact BK333.out⟩, ⟨by (with_reducible repeat (first | refine blk_drewN ?_ _ | refine blk_drew ?_ | refine blk_alloc ?_ _)); exact BK348.out⟩, ⟨by (with_reducible repeat (first | refine blk_drewN ?_ _ | refine blk_drew ?_ | refine blk_alloc ?_ _)); exact BK351.out⟩, ⟨by (with_reducible repeat (first | refine blk_drewN ?_ _ | refine blk_drew ?_ | refine blk_alloc ?_ _)); exact BK354.out⟩, ⟨by repeat (first | (with_reducible first | exact HB.out | apply below_alloc | apply pw_below_drewN | apply below_drew1 | refine below_set ?_ GE331.out | refine below_set ?_ GE332.out | refine below_set ?_ GE333.out | refine below_set ?_ GE348.out | refine below_set ?_ GE351.out | refine below_set ?_ GE354.out) | exact HB.out)⟩⟩
                          · replace c147 := Bool.eq_false_iff.mpr c147
                            subst c147
                            have H1 : (boundstonelaw02_PlaneTurnsFair.j3 kj39 t334 true a0_0 a0_1 a1_0 a1_1 t346 t347 t349 t350 t352 t353) = some r := by rw [if_neg (show ¬ (false = true) by decide)] at H; exact H
                            clear H
                            have H := H1
                            clear H1
                            have H' := Aside0.mk H
                            clear H
                            have hnb167 := NB348_331.out
                            have hnc167 := NB331_348.out
                            have hnb168 := NB348_332.out
                            have hnc168 := NB332_348.out
                            have hnb169 := NB348_333.out
                            have hnc169 := NB333_348.out
                            have hnb170 := NB348_351.out
                            have hnc170 := NB351_348.out
                            have hnb171 := NB348_354.out
                            have hnc171 := NB354_348.out
                            have hcz172_0 : w137.cell? ⟨gb348, 0, none⟩ = some (.int .i64 t346) := (blk_cell BK348.out 0).trans rfl
                            have hcz172_1 : w137.cell? ⟨gb348, 1, none⟩ = some (.int .i64 t347) := (blk_cell BK348.out 1).trans rfl
                            have hfz172_0 := blk_frozen BK348.out 0
                            have hfz172_1 := blk_frozen BK348.out 1
                            go_wp2_with (first | ((with_reducible refine gate_callee (f := 17) rfl ?_); refine goesL_ (some 129) rfl rfl Try.func17 (by kernel_rfl) rfl #[.agg #[.int .i64 t346, .int .i64 t347]] rfl (by (try simp only [List.map_toArray, List.map_cons, List.map_nil]); first | done | rfl | (simp only [List.length_drop, List.length_take]; rfl)) ?_; (with_reducible refine (plane_Valid.calls t346 t347 true _ A144.out).mono ?_); rintro e w173 ⟨rfl, hb⟩; refine ⟨_, rfl, ?_⟩; have n0_ := Aside0.mk (blk_below (g := gb331) (o := .cells #[.int .i64 a0_0, .int .i64 a0_1] 23 (0, 0)) (by (with_reducible repeat (first | refine blk_drewN ?_ _ | refine blk_drew ?_ | refine blk_alloc ?_ _)); refine blk_far ?_ NB331_354.out _; (with_reducible repeat (first | refine blk_drewN ?_ _ | refine blk_drew ?_ | refine blk_alloc ?_ _)); refine blk_far ?_ NB331_354.out _; (with_reducible repeat (first | refine blk_drewN ?_ _ | refine blk_drew ?_ | refine blk_alloc ?_ _)); exact BK331.out) hb); have n1_ := Aside0.mk (blk_below (g := gb332) (o := .cells #[.int .i64 a1_0, .int .i64 a1_1] 23 (0, 0)) (by (with_reducible repeat (first | refine blk_drewN ?_ _ | refine blk_drew ?_ | refine blk_alloc ?_ _)); refine blk_far ?_ NB332_354.out _; (with_reducible repeat (first | refine blk_drewN ?_ _ | refine blk_drew ?_ | refine blk_alloc ?_ _)); refine blk_far ?_ NB332_354.out _; (with_reducible repeat (first | refine blk_drewN ?_ _ | refine blk_drew ?_ | refine blk_alloc ?_ _)); exact BK332.out) hb); have n2_ := Aside0.mk (blk_below (g := gb333) (o := .cells #[.int .i64 a2_0, .int .i64 a2_1] 23 (0, 0)) (by (with_reducible repeat (first | refine blk_drewN ?_ _ | refine blk_drew ?_ | refine blk_alloc ?_ _)); refine blk_far ?_ NB333_354.out _; (with_reducible repeat (first | refine blk_drewN ?_ _ | refine blk_drew ?_ | refine blk_alloc ?_ _)); refine blk_far ?_ NB333_354.out _; (with_reducible repeat (first | refine blk_drewN ?_ _ | refine blk_drew ?_ | refine blk_alloc ?_ _)); exact BK333.out) hb); have n3_ := Aside0.mk (blk_below (g := gb348) (o := .cells #[.int .i64 t346, .int .i64 t347] 23 (0, 0)) (by (with_reducible repeat (first | refine blk_drewN ?_ _ | refine blk_drew ?_ | refine blk_alloc ?_ _)); refine blk_far ?_ NB348_354.out _; (with_reducible repeat (first | refine blk_drewN ?_ _ | refine blk_drew ?_ | refine blk_alloc ?_ _)); refine blk_far ?_ NB348_354.out _; (with_reducible repeat (first | refine blk_drewN ?_ _ | refine blk_drew ?_ | refine blk_alloc ?_ _)); exact BK348.out) hb); have n4_ := Aside0.mk (blk_below (g := gb351) (o := .cells #[.int .i64 t349, .int .i64 t350] 23 (0, 0)) (by (with_reducible repeat (first | refine blk_drewN ?_ _ | refine blk_drew ?_ | refine blk_alloc ?_ _)); refine blk_far ?_ NB351_354.out _; (with_reducible repeat (first | refine blk_drewN ?_ _ | refine blk_drew ?_ | refine blk_alloc ?_ _)); refine blk_far ?_ NB351_354.out _; (with_reducible repeat (first | refine blk_drewN ?_ _ | refine blk_drew ?_ | refine blk_alloc ?_ _)); exact BK351.out) hb); have n5_ := Aside0.mk (blk_below (g := gb354) (o := .cells #[.int .i64 t352, .int .i64 t353] 23 (0, 0)) (by (with_reducible repeat (first | refine blk_drewN ?_ _ | refine blk_drew ?_ | refine blk_alloc ?_ _)); refine blk_put (cs := #[.int .i64 t352, .int .i64 0]) ?_ 1 _ rfl; (with_reducible repeat (first | refine blk_drewN ?_ _ | refine blk_drew ?_ | refine blk_alloc ?_ _)); refine blk_put (cs := #[.int .i64 0, .int .i64 0]) ?_ 0 _ rfl; (with_reducible repeat (first | refine blk_drewN ?_ _ | refine blk_drew ?_ | refine blk_alloc ?_ _)); exact BK354.out) hb); have n6_ := Aside0.mk (below_step (by repeat (first | (with_reducible first | exact HB.out | apply below_alloc | apply pw_below_drewN | apply below_drew1 | refine below_set ?_ GE331.out | refine below_set ?_ GE332.out | refine below_set ?_ GE333.out | refine below_set ?_ GE348.out | refine below_set ?_ GE351.out | refine below_set ?_ GE354.out) | exact HB.out)) hb); clear BK331; clear BK332; clear BK333; clear BK348; clear BK351; clear BK354; clear HB; have BK331 := n0_; have BK332 := n1_; have BK333 := n2_; have BK348 := n3_; have BK351 := n4_; have BK354 := n5_; have HB := n6_; clear n0_ n1_ n2_ n3_ n4_ n5_ n6_; (try clear hb); (try clear hb2); (try clear hk); (try clear hi); have hnb174 := NB351_331.out; have hnc174 := NB331_351.out; have hnb175 := NB351_332.out; have hnc175 := NB332_351.out; have hnb176 := NB351_333.out; have hnc176 := NB333_351.out; have hnb177 := NB351_354.out; have hnc177 := NB354_351.out; have hcz178_0 : w173.cell? ⟨gb351, 0, none⟩ = some (.int .i64 t349) := (blk_cell BK351.out 0).trans rfl; have hcz178_1 : w173.cell? ⟨gb351, 1, none⟩ = some (.int .i64 t350) := (blk_cell BK351.out 1).trans rfl; have hfz178_0 := blk_frozen BK351.out 0; have hfz178_1 := blk_frozen BK351.out 1) | (go_at_call 17; (with_reducible refine (plane_Valid.calls t349 t350 false _ A146.out).mono ?_); rintro e w179 ⟨rfl, hb⟩; have n0_ := Aside0.mk (blk_below (g := gb331) (o := .cells #[.int .i64 a0_0, .int .i64 a0_1] 23 (0, 0)) (by (with_reducible repeat (first | refine blk_drewN ?_ _ | refine blk_drew ?_ | refine blk_alloc ?_ _)); exact BK331.out) hb); have n1_ := Aside0.mk (blk_below (g := gb332) (o := .cells #[.int .i64 a1_0, .int .i64 a1_1] 23 (0, 0)) (by (with_reducible repeat (first | refine blk_drewN ?_ _ | refine blk_drew ?_ | refine blk_alloc ?_ _)); exact BK332.out) hb); have n2_ := Aside0.mk (blk_below (g := gb333) (o := .cells #[.int .i64 a2_0, .int .i64 a2_1] 23 (0, 0)) (by (with_reducible repeat (first | refine blk_drewN ?_ _ | refine blk_drew ?_ | refine blk_alloc ?_ _)); exact BK333.out) hb); have n3_ := Aside0.mk (blk_below (g := gb348) (o := .cells #[.int .i64 t346, .int .i64 t347] 23 (0, 0)) (by (with_reducible repeat (first | refine blk_drewN ?_ _ | refine blk_drew ?_ | refine blk_alloc ?_ _)); exact BK348.out) hb); have n4_ := Aside0.mk (blk_below (g := gb351) (o := .cells #[.int .i64 t349, .int .i64 t350] 23 (0, 0)) (by (with_reducible repeat (first | refine blk_drewN ?_ _ | refine blk_drew ?_ | refine blk_alloc ?_ _)); exact BK351.out) hb); have n5_ := Aside0.mk (blk_below (g := gb354) (o := .cells #[.int .i64 t352, .int .i64 t353] 23 (0, 0)) (by (with_reducible repeat (first | refine blk_drewN ?_ _ | refine blk_drew ?_ | refine blk_alloc ?_ _)); exact BK354.out) hb); have n6_ := Aside0.mk (below_step (by repeat (first | (with_reducible first | exact HB.out | apply below_alloc | apply pw_below_drewN | apply below_drew1 | refine below_set ?_ GE331.out | refine below_set ?_ GE332.out | refine below_set ?_ GE333.out | refine below_set ?_ GE348.out | refine below_set ?_ GE351.out | refine below_set ?_ GE354.out) | exact HB.out)) hb); clear BK331; clear BK332; clear BK333; clear BK348; clear BK351; clear BK354; clear HB; have BK331 := n0_; have BK332 := n1_; have BK333 := n2_; have BK348 := n3_; have BK351 := n4_; have BK354 := n5_; have HB := n6_; clear n0_ n1_ n2_ n3_ n4_ n5_ n6_; (try clear hb); (try clear hb2); (try clear hk); (try clear hi)))
                            go_meet
                            case rel => exact ⟨_, (true), (by first | rfl | (simp; done) | (simp [*]; done)), H', ⟨by have := HJ7.out; have := HJ34.out; have := HJ39.out; first | omega | exact Nat.le_refl _⟩, ⟨by (with_reducible repeat (first | refine blk_drewN ?_ _ | refine blk_drew ?_ | refine blk_alloc ?_ _)); exact BK331.out⟩, ⟨by (with_reducible repeat (first | refine blk_drewN ?_ _ | refine blk_drew ?_ | refine blk_alloc ?_ _)); exact BK332.out⟩, ⟨by (with_reducible repeat (first | refine blk_drewN ?_ _ | refine blk_drew ?_ | refine blk_alloc ?_ _)); exact BK333.out⟩, ⟨by (with_reducible repeat (first | refine blk_drewN ?_ _ | refine blk_drew ?_ | refine blk_alloc ?_ _)); exact BK348.out⟩, ⟨by (with_reducible repeat (first | refine blk_drewN ?_ _ | refine blk_drew ?_ | refine blk_alloc ?_ _)); exact BK351.out⟩, ⟨by (with_reducible repeat (first | refine blk_drewN ?_ _ | refine blk_drew ?_ | refine blk_alloc ?_ _)); exact BK354.out⟩, ⟨by repeat (first | (with_reducible first | exact HB.out | apply below_alloc | apply pw_below_drewN | apply below_drew1 | refine below_set ?_ GE331.out | refine below_set ?_ GE332.out | refine below_set ?_ GE333.out | refine below_set ?_ GE348.out | refine below_set ?_ GE351.out | refine below_set ?_ GE354.out) | exact HB.out)⟩⟩
                        · replace c145 := Bool.eq_false_iff.mpr c145
                          subst c145
                          have H1 : (boundstonelaw02_PlaneTurnsFair.j3 kj39 t334 true a0_0 a0_1 a1_0 a1_1 t346 t347 t349 t350 t352 t353) = some r := by rw [if_neg (show ¬ (false = true) by decide)] at H; exact H
                          clear H
                          have H := H1
                          clear H1
                          have H' := Aside0.mk H
                          clear H
                          have hnb180 := NB348_331.out
                          have hnc180 := NB331_348.out
                          have hnb181 := NB348_332.out
                          have hnc181 := NB332_348.out
                          have hnb182 := NB348_333.out
                          have hnc182 := NB333_348.out
                          have hnb183 := NB348_351.out
                          have hnc183 := NB351_348.out
                          have hnb184 := NB348_354.out
                          have hnc184 := NB354_348.out
                          have hcz185_0 : w137.cell? ⟨gb348, 0, none⟩ = some (.int .i64 t346) := (blk_cell BK348.out 0).trans rfl
                          have hcz185_1 : w137.cell? ⟨gb348, 1, none⟩ = some (.int .i64 t347) := (blk_cell BK348.out 1).trans rfl
                          have hfz185_0 := blk_frozen BK348.out 0
                          have hfz185_1 := blk_frozen BK348.out 1
                          go_wp2_with (first | ((with_reducible refine gate_callee (f := 17) rfl ?_); refine goesL_ (some 129) rfl rfl Try.func17 (by kernel_rfl) rfl #[.agg #[.int .i64 t346, .int .i64 t347]] rfl (by (try simp only [List.map_toArray, List.map_cons, List.map_nil]); first | done | rfl | (simp only [List.length_drop, List.length_take]; rfl)) ?_; (with_reducible refine (plane_Valid.calls t346 t347 false _ A144.out).mono ?_); rintro e w186 ⟨rfl, hb⟩; refine ⟨_, rfl, ?_⟩; have n0_ := Aside0.mk (blk_below (g := gb331) (o := .cells #[.int .i64 a0_0, .int .i64 a0_1] 23 (0, 0)) (by (with_reducible repeat (first | refine blk_drewN ?_ _ | refine blk_drew ?_ | refine blk_alloc ?_ _)); refine blk_far ?_ NB331_354.out _; (with_reducible repeat (first | refine blk_drewN ?_ _ | refine blk_drew ?_ | refine blk_alloc ?_ _)); refine blk_far ?_ NB331_354.out _; (with_reducible repeat (first | refine blk_drewN ?_ _ | refine blk_drew ?_ | refine blk_alloc ?_ _)); exact BK331.out) hb); have n1_ := Aside0.mk (blk_below (g := gb332) (o := .cells #[.int .i64 a1_0, .int .i64 a1_1] 23 (0, 0)) (by (with_reducible repeat (first | refine blk_drewN ?_ _ | refine blk_drew ?_ | refine blk_alloc ?_ _)); refine blk_far ?_ NB332_354.out _; (with_reducible repeat (first | refine blk_drewN ?_ _ | refine blk_drew ?_ | refine blk_alloc ?_ _)); refine blk_far ?_ NB332_354.out _; (with_reducible repeat (first | refine blk_drewN ?_ _ | refine blk_drew ?_ | refine blk_alloc ?_ _)); exact BK332.out) hb); have n2_ := Aside0.mk (blk_below (g := gb333) (o := .cells #[.int .i64 a2_0, .int .i64 a2_1] 23 (0, 0)) (by (with_reducible repeat (first | refine blk_drewN ?_ _ | refine blk_drew ?_ | refine blk_alloc ?_ _)); refine blk_far ?_ NB333_354.out _; (with_reducible repeat (first | refine blk_drewN ?_ _ | refine blk_drew ?_ | refine blk_alloc ?_ _)); refine blk_far ?_ NB333_354.out _; (with_reducible repeat (first | refine blk_drewN ?_ _ | refine blk_drew ?_ | refine blk_alloc ?_ _)); exact BK333.out) hb); have n3_ := Aside0.mk (blk_below (g := gb348) (o := .cells #[.int .i64 t346, .int .i64 t347] 23 (0, 0)) (by (with_reducible repeat (first | refine blk_drewN ?_ _ | refine blk_drew ?_ | refine blk_alloc ?_ _)); refine blk_far ?_ NB348_354.out _; (with_reducible repeat (first | refine blk_drewN ?_ _ | refine blk_drew ?_ | refine blk_alloc ?_ _)); refine blk_far ?_ NB348_354.out _; (with_reducible repeat (first | refine blk_drewN ?_ _ | refine blk_drew ?_ | refine blk_alloc ?_ _)); exact BK348.out) hb); have n4_ := Aside0.mk (blk_below (g := gb351) (o := .cells #[.int .i64 t349, .int .i64 t350] 23 (0, 0)) (by (with_reducible repeat (first | refine blk_drewN ?_ _ | refine blk_drew ?_ | refine blk_alloc ?_ _)); refine blk_far ?_ NB351_354.out _; (with_reducible repeat (first | refine blk_drewN ?_ _ | refine blk_drew ?_ | refine blk_alloc ?_ _)); refine blk_far ?_ NB351_354.out _; (with_reducible repeat (first | refine blk_drewN ?_ _ | refine blk_drew ?_ | refine blk_alloc ?_ _)); exact BK351.out) hb); have n5_ := Aside0.mk (blk_below (g := gb354) (o := .cells #[.int .i64 t352, .int .i64 t353] 23 (0, 0)) (by (with_reducible repeat (first | refine blk_drewN ?_ _ | refine blk_drew ?_ | refine blk_alloc ?_ _)); refine blk_put (cs := #[.int .i64 t352, .int .i64 0]) ?_ 1 _ rfl; (with_reducible repeat (first | refine blk_drewN ?_ _ | refine blk_drew ?_ | refine blk_alloc ?_ _)); refine blk_put (cs := #[.int .i64 0, .int .i64 0]) ?_ 0 _ rfl; (with_reducible repeat (first | refine blk_drewN ?_ _ | refine blk_drew ?_ | refine blk_alloc ?_ _)); exact BK354.out) hb); have n6_ := Aside0.mk (below_step (by repeat (first | (with_reducible first | exact HB.out | apply below_alloc | apply pw_below_drewN | apply below_drew1 | refine below_set ?_ GE331.out | refine below_set ?_ GE332.out | refine below_set ?_ GE333.out | refine below_set ?_ GE348.out | refine below_set ?_ GE351.out | refine below_set ?_ GE354.out) | exact HB.out)) hb); clear BK331; clear BK332; clear BK333; clear BK348; clear BK351; clear BK354; clear HB; have BK331 := n0_; have BK332 := n1_; have BK333 := n2_; have BK348 := n3_; have BK351 := n4_; have BK354 := n5_; have HB := n6_; clear n0_ n1_ n2_ n3_ n4_ n5_ n6_; (try clear hb); (try clear hb2); (try clear hk); (try clear hi)))
                          go_meet
                          case rel => exact ⟨_, (true), (by first | rfl | (simp; done) | (simp [*]; done)), H', ⟨by have := HJ7.out; have := HJ34.out; have := HJ39.out; first | omega | exact Nat.le_refl _⟩, ⟨by (with_reducible repeat (first | refine blk_drewN ?_ _ | refine blk_drew ?_ | refine blk_alloc ?_ _)); exact BK331.out⟩, ⟨by (with_reducible repeat (first | refine blk_drewN ?_ _ | refine blk_drew ?_ | refine blk_alloc ?_ _)); exact BK332.out⟩, ⟨by (with_reducible repeat (first | refine blk_drewN ?_ _ | refine blk_drew ?_ | refine blk_alloc ?_ _)); exact BK333.out⟩, ⟨by (with_reducible repeat (first | refine blk_drewN ?_ _ | refine blk_drew ?_ | refine blk_alloc ?_ _)); exact BK348.out⟩, ⟨by (with_reducible repeat (first | refine blk_drewN ?_ _ | refine blk_drew ?_ | refine blk_alloc ?_ _)); exact BK351.out⟩, ⟨by (with_reducible repeat (first | refine blk_drewN ?_ _ | refine blk_drew ?_ | refine blk_alloc ?_ _)); exact BK354.out⟩, ⟨by repeat (first | (with_reducible first | exact HB.out | apply below_alloc | apply pw_below_drewN | apply below_drew1 | refine below_set ?_ GE331.out | refine below_set ?_ GE332.out | refine below_set ?_ GE333.out | refine below_set ?_ GE348.out | refine below_set ?_ GE351.out | refine below_set ?_ GE354.out) | exact HB.out)⟩⟩
                      case rest =>
                        clear HC114
                        try clear c1
                        try clear c2
                        try clear p2
                        try clear c3
                        try clear c4
                        try clear c5
                        try clear c6
                        try clear p6
                        try clear c7
                        try clear c8
                        try clear c9
                        try clear c10
                        try clear c11
                        try clear c12
                        try clear c13
                        try clear c14
                        try clear c15
                        try clear c16
                        try clear c17
                        try clear c18
                        try clear c19
                        try clear c20
                        try clear c20b0
                        try clear c20b1
                        try clear c21
                        try clear c22
                        try clear c22b0
                        try clear c22b1
                        try clear c23
                        try clear c24
                        try clear c24b0
                        try clear c24b1
                        try clear c25
                        try clear c33
                        try clear c37
                        try clear c37b0
                        try clear c38
                        try clear c38b0
                        try clear c39
                        try clear c42
                        try clear c44
                        try clear c46
                        try clear c47
                        try clear c47b0
                        try clear c48
                        try clear c49
                        try clear c52
                        try clear c57
                        try clear c57b0
                        try clear c58
                        try clear c59
                        try clear c62
                        try clear p64
                        try clear c67
                        try clear c67b0
                        try clear c68
                        try clear c69
                        try clear c72
                        try clear c77
                        try clear c78
                        try clear c81
                        try clear c86
                        try clear c87
                        try clear c90
                        try clear c95
                        try clear c96
                        try clear c99
                        try clear c102
                        try clear c103
                        try clear c106
                        try clear c110
                        try clear c110b0
                        try clear c110b1
                        try clear c110b2
                        try clear c117
                        try clear c118
                        try clear c122
                        try clear c123
                        try clear c124
                        try clear c126
                        try clear c130
                        try clear c131
                        try clear c132
                        try clear c133
                        try clear c138
                        try clear c139
                        try clear c140
                        try clear c141
                        try clear c142
                        try clear c145
                        try clear c147
                        try clear c149
                        try clear c150
                        try clear c151
                        try clear c152
                        try clear c153
                        try clear c156
                        try clear c157
                        try clear c158
                        try clear c159
                        try clear c162
                        try clear c163
                        try clear c164
                        try clear c167
                        try clear c168
                        try clear c169
                        try clear c170
                        try clear c171
                        try clear c174
                        try clear c175
                        try clear c176
                        try clear c177
                        try clear c180
                        try clear c181
                        try clear c182
                        try clear c183
                        try clear c184
                        try clear hcz100_0
                        try clear hcz100_1
                        try clear hcz104_0
                        try clear hcz104_1
                        try clear hcz119_0
                        try clear hcz119_1
                        try clear hcz125_0
                        try clear hcz125_1
                        try clear hcz127_0
                        try clear hcz127_1
                        try clear hcz134_0
                        try clear hcz134_1
                        try clear hcz135_0
                        try clear hcz135_1
                        try clear hcz143_0
                        try clear hcz143_1
                        try clear hcz14_0
                        try clear hcz14_1
                        try clear hcz154_0
                        try clear hcz154_1
                        try clear hcz160_0
                        try clear hcz160_1
                        try clear hcz165_0
                        try clear hcz165_1
                        try clear hcz16_0
                        try clear hcz16_1
                        try clear hcz172_0
                        try clear hcz172_1
                        try clear hcz178_0
                        try clear hcz178_1
                        try clear hcz17_0
                        try clear hcz17_1
                        try clear hcz185_0
                        try clear hcz185_1
                        try clear hcz50_0
                        try clear hcz50_1
                        try clear hcz53_0
                        try clear hcz53_1
                        try clear hcz55_0
                        try clear hcz55_1
                        try clear hcz60_0
                        try clear hcz60_1
                        try clear hcz63_0
                        try clear hcz63_1
                        try clear hcz65_0
                        try clear hcz65_1
                        try clear hcz70_0
                        try clear hcz70_1
                        try clear hcz73_0
                        try clear hcz73_1
                        try clear hcz75_0
                        try clear hcz75_1
                        try clear hcz79_0
                        try clear hcz79_1
                        try clear hcz82_0
                        try clear hcz82_1
                        try clear hcz84_0
                        try clear hcz84_1
                        try clear hcz88_0
                        try clear hcz88_1
                        try clear hcz91_0
                        try clear hcz91_1
                        try clear hcz93_0
                        try clear hcz93_1
                        try clear hcz97_0
                        try clear hcz97_1
                        try clear hfz100_0
                        try clear hfz100_1
                        try clear hfz104_0
                        try clear hfz104_1
                        try clear hfz119_0
                        try clear hfz119_1
                        try clear hfz125_0
                        try clear hfz125_1
                        try clear hfz127_0
                        try clear hfz127_1
                        try clear hfz134_0
                        try clear hfz134_1
                        try clear hfz135_0
                        try clear hfz135_1
                        try clear hfz143_0
                        try clear hfz143_1
                        try clear hfz14_0
                        try clear hfz14_1
                        try clear hfz154_0
                        try clear hfz154_1
                        try clear hfz160_0
                        try clear hfz160_1
                        try clear hfz165_0
                        try clear hfz165_1
                        try clear hfz16_0
                        try clear hfz16_1
                        try clear hfz172_0
                        try clear hfz172_1
                        try clear hfz178_0
                        try clear hfz178_1
                        try clear hfz17_0
                        try clear hfz17_1
                        try clear hfz185_0
                        try clear hfz185_1
                        try clear hfz50_0
                        try clear hfz50_1
                        try clear hfz53_0
                        try clear hfz53_1
                        try clear hfz55_0
                        try clear hfz55_1
                        try clear hfz60_0
                        try clear hfz60_1
                        try clear hfz63_0
                        try clear hfz63_1
                        try clear hfz65_0
                        try clear hfz65_1
                        try clear hfz70_0
                        try clear hfz70_1
                        try clear hfz73_0
                        try clear hfz73_1
                        try clear hfz75_0
                        try clear hfz75_1
                        try clear hfz79_0
                        try clear hfz79_1
                        try clear hfz82_0
                        try clear hfz82_1
                        try clear hfz84_0
                        try clear hfz84_1
                        try clear hfz88_0
                        try clear hfz88_1
                        try clear hfz91_0
                        try clear hfz91_1
                        try clear hfz93_0
                        try clear hfz93_1
                        try clear hfz97_0
                        try clear hfz97_1
                        try clear p2
                        try clear p6
                        try clear p64
                        obtain ⟨kq, x140_113, rfl, HA, HJ113, BK331, BK332, BK333, BK348, BK351, BK354, HB⟩ := hcut
                        cases kq with
                        | zero => exact absurd HA.out (by simp [boundstonelaw02_PlaneTurnsFair.j3])
                        | succ kj113 =>
                          have H := HA.out
                          clear HA
                          simp only [boundstonelaw02_PlaneTurnsFair.j3] at H
                          by_cases c187 : x140_113 = true
                          · subst c187
                            have H1 : ((boundstonelaw02_sanity.f kj113).bind fun t358 => (some t358)) = some r := by rw [if_pos rfl] at H; exact H
                            clear H
                            have H := H1
                            clear H1
                            replace H := Option.bind_eq_some_iff.mp H
                            obtain ⟨t358, A1880, H⟩ := H
                            replace H : (some t358) = some r := H
                            have A188 := Aside0.mk A1880
                            clear A1880
                            obtain rfl := Option.some.inj H
                            go_wp2_with (first | ((with_reducible refine gate_callee (f := 16) rfl ?_); refine goesL_ (some 141) rfl rfl Try.func16 (by kernel_rfl) rfl #[] rfl (by (try simp only [List.map_toArray, List.map_cons, List.map_nil]); first | done | rfl | (simp only [List.length_drop, List.length_take]; rfl)) ?_; (with_reducible refine (boundstonelaw02_sanity.calls kj113  t358 _ A188.out).mono ?_); rintro e w189 ⟨rfl, hb⟩; refine ⟨_, rfl, ?_⟩; have n0_ := Aside0.mk (blk_below (g := gb331) (o := .cells #[.int .i64 a0_0, .int .i64 a0_1] 23 (0, 0)) (by (with_reducible repeat (first | refine blk_drewN ?_ _ | refine blk_drew ?_ | refine blk_alloc ?_ _)); exact BK331.out) hb); have n1_ := Aside0.mk (blk_below (g := gb332) (o := .cells #[.int .i64 a1_0, .int .i64 a1_1] 23 (0, 0)) (by (with_reducible repeat (first | refine blk_drewN ?_ _ | refine blk_drew ?_ | refine blk_alloc ?_ _)); exact BK332.out) hb); have n2_ := Aside0.mk (blk_below (g := gb333) (o := .cells #[.int .i64 a2_0, .int .i64 a2_1] 23 (0, 0)) (by (with_reducible repeat (first | refine blk_drewN ?_ _ | refine blk_drew ?_ | refine blk_alloc ?_ _)); exact BK333.out) hb); have n3_ := Aside0.mk (blk_below (g := gb348) (o := .cells #[.int .i64 t346, .int .i64 t347] 23 (0, 0)) (by (with_reducible repeat (first | refine blk_drewN ?_ _ | refine blk_drew ?_ | refine blk_alloc ?_ _)); exact BK348.out) hb); have n4_ := Aside0.mk (blk_below (g := gb351) (o := .cells #[.int .i64 t349, .int .i64 t350] 23 (0, 0)) (by (with_reducible repeat (first | refine blk_drewN ?_ _ | refine blk_drew ?_ | refine blk_alloc ?_ _)); exact BK351.out) hb); have n5_ := Aside0.mk (blk_below (g := gb354) (o := .cells #[.int .i64 t352, .int .i64 t353] 23 (0, 0)) (by (with_reducible repeat (first | refine blk_drewN ?_ _ | refine blk_drew ?_ | refine blk_alloc ?_ _)); exact BK354.out) hb); have n6_ := Aside0.mk (below_step (by repeat (first | (with_reducible first | exact HB.out | apply below_alloc | apply pw_below_drewN | apply below_drew1 | refine below_set ?_ GE331.out | refine below_set ?_ GE332.out | refine below_set ?_ GE333.out | refine below_set ?_ GE348.out | refine below_set ?_ GE351.out | refine below_set ?_ GE354.out) | exact HB.out)) hb); clear BK331; clear BK332; clear BK333; clear BK348; clear BK351; clear BK354; clear HB; have BK331 := n0_; have BK332 := n1_; have BK333 := n2_; have BK348 := n3_; have BK351 := n4_; have BK354 := n5_; have HB := n6_; clear n0_ n1_ n2_ n3_ n4_ n5_ n6_; (try clear hb); (try clear hb2); (try clear hk); (try clear hi)))
                            go_ret
                            exact ⟨by first | rfl | (simp [errW_none, errW_some] <;> rfl) | (simp [*, errW_none, errW_some] <;> rfl), by repeat (first | (with_reducible first | exact HB.out | apply below_alloc | apply pw_below_drewN | apply below_drew1 | refine below_set ?_ GE331.out | refine below_set ?_ GE332.out | refine below_set ?_ GE333.out | refine below_set ?_ GE348.out | refine below_set ?_ GE351.out | refine below_set ?_ GE354.out) | exact HB.out)⟩
                          · replace c187 := Bool.eq_false_iff.mpr c187
                            subst c187
                            have H1 : ((boundstonelaw02_sanity.f kj113).bind fun t359 => (if t359 = true then ((plane_Turn.f t346 t347 t349 t350 t352 t353).bind fun t360 => (if t360 = t334 then ((plane_Dist.f t346 t347 t349 t350).bind fun t361 => ((plane_Dist.f a0_0 a0_1 a1_0 a1_1).bind fun t362 => (some (t361 == t362)))) else (none))) else (none))) = some r := by rw [if_neg (show ¬ (false = true) by decide)] at H; exact H
                            clear H
                            have H := H1
                            clear H1
                            replace H := Option.bind_eq_some_iff.mp H
                            obtain ⟨t359, A1900, H⟩ := H
                            replace H : (if t359 = true then ((plane_Turn.f t346 t347 t349 t350 t352 t353).bind fun t360 => (if t360 = t334 then ((plane_Dist.f t346 t347 t349 t350).bind fun t361 => ((plane_Dist.f a0_0 a0_1 a1_0 a1_1).bind fun t362 => (some (t361 == t362)))) else (none))) else (none)) = some r := H
                            have A190 := Aside0.mk A1900
                            clear A1900
                            by_cases c191 : t359 = true
                            · subst c191
                              have H1 : ((plane_Turn.f t346 t347 t349 t350 t352 t353).bind fun t360 => (if t360 = t334 then ((plane_Dist.f t346 t347 t349 t350).bind fun t361 => ((plane_Dist.f a0_0 a0_1 a1_0 a1_1).bind fun t362 => (some (t361 == t362)))) else (none))) = some r := by rw [if_pos rfl] at H; exact H
                              clear H
                              have H := H1
                              clear H1
                              replace H := Option.bind_eq_some_iff.mp H
                              obtain ⟨t360, A1920, H⟩ := H
                              replace H : (if t360 = t334 then ((plane_Dist.f t346 t347 t349 t350).bind fun t361 => ((plane_Dist.f a0_0 a0_1 a1_0 a1_1).bind fun t362 => (some (t361 == t362)))) else (none)) = some r := H
                              have A192 := Aside0.mk A1920
                              clear A1920
                              by_cases c193 : t360 = t334
                              · rw [if_pos c193] at H
                                have c193b0 : (t360 == t334) = true := beq_iff_eq.mpr c193
                                have c193b1 : (t360 != t334) = false := bne_eq_false_iff_eq.mpr c193
                                clear c193
                                replace H := Option.bind_eq_some_iff.mp H
                                obtain ⟨t361, A1940, H⟩ := H
                                replace H : ((plane_Dist.f a0_0 a0_1 a1_0 a1_1).bind fun t362 => (some (t361 == t362))) = some r := H
                                have A194 := Aside0.mk A1940
                                clear A1940
                                replace H := Option.bind_eq_some_iff.mp H
                                obtain ⟨t362, A1950, H⟩ := H
                                replace H : (some (t361 == t362)) = some r := H
                                have A195 := Aside0.mk A1950
                                clear A1950
                                obtain rfl := Option.some.inj H
                                try go_wp2
                                have n0_ := Aside0.mk (blk_drew BK331.out)
                                have n1_ := Aside0.mk (blk_drew BK332.out)
                                have n2_ := Aside0.mk (blk_drew BK333.out)
                                have n3_ := Aside0.mk (blk_drew BK348.out)
                                have n4_ := Aside0.mk (blk_drew BK351.out)
                                have n5_ := Aside0.mk (blk_drew BK354.out)
                                have n6_ := Aside0.mk (below_drew1 HB.out)
                                clear BK331
                                clear BK332
                                clear BK333
                                clear BK348
                                clear BK351
                                clear BK354
                                clear HB
                                have BK331 := n0_
                                have BK332 := n1_
                                have BK333 := n2_
                                have BK348 := n3_
                                have BK351 := n4_
                                have BK354 := n5_
                                have HB := n6_
                                clear n0_ n1_ n2_ n3_ n4_ n5_ n6_
                                refine start_ (n := 19) (S := fun w' => w'.cell? ⟨gb348, 0, none⟩ = some (.int .i64 t346) ∧ w'.cell? ⟨gb348, 1, none⟩ = some (.int .i64 t347) ∧ w'.cell? ⟨gb351, 0, none⟩ = some (.int .i64 t349) ∧ w'.cell? ⟨gb351, 1, none⟩ = some (.int .i64 t350) ∧ w'.cell? ⟨gb354, 0, none⟩ = some (.int .i64 t352) ∧ w'.cell? ⟨gb354, 1, none⟩ = some (.int .i64 t353) ∧ w'.cell? ⟨gb331, 0, none⟩ = some (.int .i64 a0_0) ∧ w'.cell? ⟨gb331, 1, none⟩ = some (.int .i64 a0_1) ∧ w'.cell? ⟨gb332, 0, none⟩ = some (.int .i64 a1_0) ∧ w'.cell? ⟨gb332, 1, none⟩ = some (.int .i64 a1_1)) (ds := []) #[false, false, false, false, false, false, false, false, false, false, false, false, false, false, false, false, false, false, false] (by kernel_rfl) rfl rfl ⟨(blk_cell BK348.out 0).trans rfl, (blk_cell BK348.out 1).trans rfl, (blk_cell BK351.out 0).trans rfl, (blk_cell BK351.out 1).trans rfl, (blk_cell BK354.out 0).trans rfl, (blk_cell BK354.out 1).trans rfl, (blk_cell BK331.out 0).trans rfl, (blk_cell BK331.out 1).trans rfl, (blk_cell BK332.out 0).trans rfl, (blk_cell BK332.out 1).trans rfl⟩ (fun hHeld => ?_); refine with_tabW boundstonelaw02_PlaneTurnsFair.tab16 boundstonelaw02_PlaneTurnsFair.bits16 (fun HT_ HW_ => ?_)
                                generalize wc.drew = w196 at BK331 BK332 BK333 BK348 BK351 BK354 HB hHeld ⊢
                                refine one_ (i := 0) (N := some 142) #[true, false, false, false, false, false, false, false, false, false, false, false, false, false, false, false, false, false, false] rfl rfl (one_of HT_.out (by kernel_rfl)) (by decide) (fun K hK => ?_)
                                refine goes_ Try.func16 (by kernel_rfl) rfl #[] (by rfl) rfl rfl (by (try simp only [List.map_toArray, List.map_cons, List.map_nil]); first | done | rfl | (simp only [List.length_drop, List.length_take]; rfl)) ?_
                                with_reducible refine (boundstonelaw02_sanity.calls kj113  true _ A190.out).mono ?_
                                rintro e w197 ⟨rfl, hb⟩
                                refine ⟨_, rfl, ?_⟩
                                have n0_ := Aside0.mk (blk_below (g := gb331) (o := .cells #[.int .i64 a0_0, .int .i64 a0_1] 23 (0, 0)) (by (with_reducible repeat (first | refine blk_drewN ?_ _ | refine blk_drew ?_ | refine blk_alloc ?_ _)); exact BK331.out) hb)
                                have n1_ := Aside0.mk (blk_below (g := gb332) (o := .cells #[.int .i64 a1_0, .int .i64 a1_1] 23 (0, 0)) (by (with_reducible repeat (first | refine blk_drewN ?_ _ | refine blk_drew ?_ | refine blk_alloc ?_ _)); exact BK332.out) hb)
                                have n2_ := Aside0.mk (blk_below (g := gb333) (o := .cells #[.int .i64 a2_0, .int .i64 a2_1] 23 (0, 0)) (by (with_reducible repeat (first | refine blk_drewN ?_ _ | refine blk_drew ?_ | refine blk_alloc ?_ _)); exact BK333.out) hb)
                                have n3_ := Aside0.mk (blk_below (g := gb348) (o := .cells #[.int .i64 t346, .int .i64 t347] 23 (0, 0)) (by (with_reducible repeat (first | refine blk_drewN ?_ _ | refine blk_drew ?_ | refine blk_alloc ?_ _)); exact BK348.out) hb)
                                have n4_ := Aside0.mk (blk_below (g := gb351) (o := .cells #[.int .i64 t349, .int .i64 t350] 23 (0, 0)) (by (with_reducible repeat (first | refine blk_drewN ?_ _ | refine blk_drew ?_ | refine blk_alloc ?_ _)); exact BK351.out) hb)
                                have n5_ := Aside0.mk (blk_below (g := gb354) (o := .cells #[.int .i64 t352, .int .i64 t353] 23 (0, 0)) (by (with_reducible repeat (first | refine blk_drewN ?_ _ | refine blk_drew ?_ | refine blk_alloc ?_ _)); exact BK354.out) hb)
                                have n6_ := Aside0.mk (below_step (by repeat (first | (with_reducible first | exact HB.out | apply below_alloc | apply pw_below_drewN | apply below_drew1 | refine below_set ?_ GE331.out | refine below_set ?_ GE332.out | refine below_set ?_ GE333.out | refine below_set ?_ GE348.out | refine below_set ?_ GE351.out | refine below_set ?_ GE354.out) | exact HB.out)) hb)
                                clear BK331
                                clear BK332
                                clear BK333
                                clear BK348
                                clear BK351
                                clear BK354
                                clear HB
                                have BK331 := n0_
                                have BK332 := n1_
                                have BK333 := n2_
                                have BK348 := n3_
                                have BK351 := n4_
                                have BK354 := n5_
                                have HB := n6_
                                clear n0_ n1_ n2_ n3_ n4_ n5_ n6_
                                (try clear hb)
                                (try clear hb2)
                                (try clear hk)
                                (try clear hi)
                                refine hK.out _ _ ⟨(blk_cell BK348.out 0).trans rfl, (blk_cell BK348.out 1).trans rfl, (blk_cell BK351.out 0).trans rfl, (blk_cell BK351.out 1).trans rfl, (blk_cell BK354.out 0).trans rfl, (blk_cell BK354.out 1).trans rfl, (blk_cell BK331.out 0).trans rfl, (blk_cell BK331.out 1).trans rfl, (blk_cell BK332.out 0).trans rfl, (blk_cell BK332.out 1).trans rfl⟩ (fun hHeld => ?_)
                                clear hK K
                                refine norm_ (a' := ?_) ?_ ?_
                                rotate_left
                                · show Act.put _ (some 142) _ = _
                                  simp only [Act.put, List.setIfInBounds_toArray, List.set_cons_zero, List.set_cons_succ, i64_w, i32_w]
                                  rfl
                                refine pure_ (i := 1) (N := some 143) (v := ?_) (a' := ?_) #[true, true, false, false, false, false, false, false, false, false, false, false, false, false, false, false, false, false, false] rfl rfl (any_of HT_.out (by kernel_rfl)) (fun _ _ _ h => h) (Or.inl ⟨by rfl, ?_⟩) ?_ ?_
                                rotate_left
                                · intro w'
                                  go_simp
                                  with_reducible rfl
                                rotate_left
                                · simp only [Act.put, List.setIfInBounds_toArray, List.set_cons_zero, List.set_cons_succ, i64_w, i32_w]
                                  rfl
                                refine pure_ (i := 6) (N := some 148) (v := ?_) (a' := ?_) #[true, true, false, false, false, false, true, false, false, false, false, false, false, false, false, false, false, false, false] rfl rfl (any_of HT_.out (by kernel_rfl)) (fun _ _ _ h => h) (Or.inl ⟨by rfl, ?_⟩) ?_ ?_
                                rotate_left
                                · intro w'
                                  go_simp
                                  with_reducible rfl
                                rotate_left
                                · simp only [Act.put, List.setIfInBounds_toArray, List.set_cons_zero, List.set_cons_succ, i64_w, i32_w]
                                  rfl
                                refine take_ (i := 2) (N := some 144) (v := ?_) (a' := ?_) #[true, true, true, false, false, false, true, false, false, false, false, false, false, false, false, false, false, false, false] rfl rfl (take_ofW HT_.out HW_.out (by kernel_rfl)) (fun _ _ _ h => h) (Or.inl ⟨by rfl, ?_⟩) hHeld ?_ ?_
                                rotate_left
                                · rintro w' ⟨s0, s1, s2, s3, s4, s5, s6, s7, s8, s9⟩
                                  go_simp
                                  with_reducible rfl
                                rotate_left
                                · simp only [Act.put, List.setIfInBounds_toArray, List.set_cons_zero, List.set_cons_succ, i64_w, i32_w]
                                  rfl
                                refine take_ (i := 3) (N := some 145) (v := ?_) (a' := ?_) #[true, true, true, true, false, false, true, false, false, false, false, false, false, false, false, false, false, false, false] rfl rfl (take_ofW HT_.out HW_.out (by kernel_rfl)) (fun _ _ _ h => h) (Or.inl ⟨by rfl, ?_⟩) hHeld ?_ ?_
                                rotate_left
                                · rintro w' ⟨s0, s1, s2, s3, s4, s5, s6, s7, s8, s9⟩
                                  go_simp
                                  with_reducible rfl
                                rotate_left
                                · simp only [Act.put, List.setIfInBounds_toArray, List.set_cons_zero, List.set_cons_succ, i64_w, i32_w]
                                  rfl
                                refine take_ (i := 4) (N := some 146) (v := ?_) (a' := ?_) #[true, true, true, true, true, false, true, false, false, false, false, false, false, false, false, false, false, false, false] rfl rfl (take_ofW HT_.out HW_.out (by kernel_rfl)) (fun _ _ _ h => h) (Or.inl ⟨by rfl, ?_⟩) hHeld ?_ ?_
                                rotate_left
                                · rintro w' ⟨s0, s1, s2, s3, s4, s5, s6, s7, s8, s9⟩
                                  go_simp
                                  with_reducible rfl
                                rotate_left
                                · simp only [Act.put, List.setIfInBounds_toArray, List.set_cons_zero, List.set_cons_succ, i64_w, i32_w]
                                  rfl
                                refine one_ (i := 5) (N := some 147) #[true, true, true, true, true, true, true, false, false, false, false, false, false, false, false, false, false, false, false] rfl rfl (one_of HT_.out (by kernel_rfl)) (by decide) (fun K hK => ?_)
                                refine goes_ Try.func19 (by kernel_rfl) rfl #[.agg #[.int .i64 t346, .int .i64 t347], .agg #[.int .i64 t349, .int .i64 t350], .agg #[.int .i64 t352, .int .i64 t353]] (by rfl) rfl rfl (by (try simp only [List.map_toArray, List.map_cons, List.map_nil]); first | done | rfl | (simp only [List.length_drop, List.length_take]; rfl)) ?_
                                with_reducible refine (plane_Turn.calls t346 t347 t349 t350 t352 t353 t360 _ A192.out).mono ?_
                                rintro e w198 ⟨rfl, hb⟩
                                refine ⟨_, rfl, ?_⟩
                                have n0_ := Aside0.mk (blk_below (g := gb331) (o := .cells #[.int .i64 a0_0, .int .i64 a0_1] 23 (0, 0)) (by (with_reducible repeat (first | refine blk_drewN ?_ _ | refine blk_drew ?_ | refine blk_alloc ?_ _)); exact BK331.out) hb)
                                have n1_ := Aside0.mk (blk_below (g := gb332) (o := .cells #[.int .i64 a1_0, .int .i64 a1_1] 23 (0, 0)) (by (with_reducible repeat (first | refine blk_drewN ?_ _ | refine blk_drew ?_ | refine blk_alloc ?_ _)); exact BK332.out) hb)
                                have n2_ := Aside0.mk (blk_below (g := gb333) (o := .cells #[.int .i64 a2_0, .int .i64 a2_1] 23 (0, 0)) (by (with_reducible repeat (first | refine blk_drewN ?_ _ | refine blk_drew ?_ | refine blk_alloc ?_ _)); exact BK333.out) hb)
                                have n3_ := Aside0.mk (blk_below (g := gb348) (o := .cells #[.int .i64 t346, .int .i64 t347] 23 (0, 0)) (by (with_reducible repeat (first | refine blk_drewN ?_ _ | refine blk_drew ?_ | refine blk_alloc ?_ _)); exact BK348.out) hb)
                                have n4_ := Aside0.mk (blk_below (g := gb351) (o := .cells #[.int .i64 t349, .int .i64 t350] 23 (0, 0)) (by (with_reducible repeat (first | refine blk_drewN ?_ _ | refine blk_drew ?_ | refine blk_alloc ?_ _)); exact BK351.out) hb)
                                have n5_ := Aside0.mk (blk_below (g := gb354) (o := .cells #[.int .i64 t352, .int .i64 t353] 23 (0, 0)) (by (with_reducible repeat (first | refine blk_drewN ?_ _ | refine blk_drew ?_ | refine blk_alloc ?_ _)); exact BK354.out) hb)
                                have n6_ := Aside0.mk (below_step (by repeat (first | (with_reducible first | exact HB.out | apply below_alloc | apply pw_below_drewN | apply below_drew1 | refine below_set ?_ GE331.out | refine below_set ?_ GE332.out | refine below_set ?_ GE333.out | refine below_set ?_ GE348.out | refine below_set ?_ GE351.out | refine below_set ?_ GE354.out) | exact HB.out)) hb)
                                clear BK331
                                clear BK332
                                clear BK333
                                clear BK348
                                clear BK351
                                clear BK354
                                clear HB
                                have BK331 := n0_
                                have BK332 := n1_
                                have BK333 := n2_
                                have BK348 := n3_
                                have BK351 := n4_
                                have BK354 := n5_
                                have HB := n6_
                                clear n0_ n1_ n2_ n3_ n4_ n5_ n6_
                                (try clear hb)
                                (try clear hb2)
                                (try clear hk)
                                (try clear hi)
                                refine hK.out _ _ ⟨(blk_cell BK348.out 0).trans rfl, (blk_cell BK348.out 1).trans rfl, (blk_cell BK351.out 0).trans rfl, (blk_cell BK351.out 1).trans rfl, (blk_cell BK354.out 0).trans rfl, (blk_cell BK354.out 1).trans rfl, (blk_cell BK331.out 0).trans rfl, (blk_cell BK331.out 1).trans rfl, (blk_cell BK332.out 0).trans rfl, (blk_cell BK332.out 1).trans rfl⟩ (fun hHeld => ?_)
                                clear hK K
                                refine norm_ (a' := ?_) ?_ ?_
                                rotate_left
                                · show Act.put _ (some 147) _ = _
                                  simp only [Act.put, List.setIfInBounds_toArray, List.set_cons_zero, List.set_cons_succ, i64_w, i32_w]
                                  rfl
                                refine pure_ (i := 7) (N := some 149) (v := ?_) (a' := ?_) #[true, true, true, true, true, true, true, true, false, false, false, false, false, false, false, false, false, false, false] rfl rfl (any_of HT_.out (by kernel_rfl)) (fun _ _ _ h => h) (Or.inl ⟨by rfl, ?_⟩) ?_ ?_
                                rotate_left
                                · intro w'
                                  go_simp
                                  with_reducible rfl
                                rotate_left
                                · simp only [Act.put, List.setIfInBounds_toArray, List.set_cons_zero, List.set_cons_succ, i64_w, i32_w]
                                  rfl
                                refine pure_ (i := 8) (N := some 150) (v := ?_) (a' := ?_) #[true, true, true, true, true, true, true, true, true, false, false, false, false, false, false, false, false, false, false] rfl rfl (any_of HT_.out (by kernel_rfl)) (fun _ _ _ h => h) (Or.inl ⟨by rfl, ?_⟩) ?_ ?_
                                rotate_left
                                · intro w'
                                  go_simp
                                  with_reducible rfl
                                rotate_left
                                · simp only [Act.put, List.setIfInBounds_toArray, List.set_cons_zero, List.set_cons_succ, i64_w, i32_w]
                                  rfl
                                refine pure_ (i := 9) (N := some 151) (v := ?_) (a' := ?_) #[true, true, true, true, true, true, true, true, true, true, false, false, false, false, false, false, false, false, false] rfl rfl (any_of HT_.out (by kernel_rfl)) (fun _ _ _ h => h) (Or.inl ⟨by rfl, ?_⟩) ?_ ?_
                                rotate_left
                                · intro w'
                                  go_simp
                                  with_reducible rfl
                                rotate_left
                                · simp only [Act.put, List.setIfInBounds_toArray, List.set_cons_zero, List.set_cons_succ, i64_w, i32_w]
                                  rfl
                                refine take_ (i := 10) (N := some 152) (v := ?_) (a' := ?_) #[true, true, true, true, true, true, true, true, true, true, true, false, false, false, false, false, false, false, false] rfl rfl (take_ofW HT_.out HW_.out (by kernel_rfl)) (fun _ _ _ h => h) (Or.inl ⟨by rfl, ?_⟩) hHeld ?_ ?_
                                rotate_left
                                · rintro w' ⟨s0, s1, s2, s3, s4, s5, s6, s7, s8, s9⟩
                                  go_simp
                                  with_reducible rfl
                                rotate_left
                                · simp only [Act.put, List.setIfInBounds_toArray, List.set_cons_zero, List.set_cons_succ, i64_w, i32_w]
                                  rfl
                                refine take_ (i := 11) (N := some 153) (v := ?_) (a' := ?_) #[true, true, true, true, true, true, true, true, true, true, true, true, false, false, false, false, false, false, false] rfl rfl (take_ofW HT_.out HW_.out (by kernel_rfl)) (fun _ _ _ h => h) (Or.inl ⟨by rfl, ?_⟩) hHeld ?_ ?_
                                rotate_left
                                · rintro w' ⟨s0, s1, s2, s3, s4, s5, s6, s7, s8, s9⟩
                                  go_simp
                                  with_reducible rfl
                                rotate_left
                                · simp only [Act.put, List.setIfInBounds_toArray, List.set_cons_zero, List.set_cons_succ, i64_w, i32_w]
                                  rfl
                                refine take_ (i := 13) (N := some 155) (v := ?_) (a' := ?_) #[true, true, true, true, true, true, true, true, true, true, true, true, false, true, false, false, false, false, false] rfl rfl (take_ofW HT_.out HW_.out (by kernel_rfl)) (fun _ _ _ h => h) (Or.inl ⟨by rfl, ?_⟩) hHeld ?_ ?_
                                rotate_left
                                · rintro w' ⟨s0, s1, s2, s3, s4, s5, s6, s7, s8, s9⟩
                                  go_simp
                                  with_reducible rfl
                                rotate_left
                                · simp only [Act.put, List.setIfInBounds_toArray, List.set_cons_zero, List.set_cons_succ, i64_w, i32_w]
                                  rfl
                                refine take_ (i := 14) (N := some 156) (v := ?_) (a' := ?_) #[true, true, true, true, true, true, true, true, true, true, true, true, false, true, true, false, false, false, false] rfl rfl (take_ofW HT_.out HW_.out (by kernel_rfl)) (fun _ _ _ h => h) (Or.inl ⟨by rfl, ?_⟩) hHeld ?_ ?_
                                rotate_left
                                · rintro w' ⟨s0, s1, s2, s3, s4, s5, s6, s7, s8, s9⟩
                                  go_simp
                                  with_reducible rfl
                                rotate_left
                                · simp only [Act.put, List.setIfInBounds_toArray, List.set_cons_zero, List.set_cons_succ, i64_w, i32_w]
                                  rfl
                                refine one_ (i := 12) (N := some 154) #[true, true, true, true, true, true, true, true, true, true, true, true, true, true, true, false, false, false, false] rfl rfl (one_of HT_.out (by kernel_rfl)) (by decide) (fun K hK => ?_)
                                refine goes_ Try.func21 (by kernel_rfl) rfl #[.agg #[.int .i64 t346, .int .i64 t347], .agg #[.int .i64 t349, .int .i64 t350]] (by rfl) rfl rfl (by (try simp only [List.map_toArray, List.map_cons, List.map_nil]); first | done | rfl | (simp only [List.length_drop, List.length_take]; rfl)) ?_
                                with_reducible refine (plane_Dist.calls t346 t347 t349 t350 t361 _ A194.out).mono ?_
                                rintro e w199 ⟨rfl, hb⟩
                                refine ⟨_, rfl, ?_⟩
                                have n0_ := Aside0.mk (blk_below (g := gb331) (o := .cells #[.int .i64 a0_0, .int .i64 a0_1] 23 (0, 0)) (by (with_reducible repeat (first | refine blk_drewN ?_ _ | refine blk_drew ?_ | refine blk_alloc ?_ _)); exact BK331.out) hb)
                                have n1_ := Aside0.mk (blk_below (g := gb332) (o := .cells #[.int .i64 a1_0, .int .i64 a1_1] 23 (0, 0)) (by (with_reducible repeat (first | refine blk_drewN ?_ _ | refine blk_drew ?_ | refine blk_alloc ?_ _)); exact BK332.out) hb)
                                have n2_ := Aside0.mk (blk_below (g := gb333) (o := .cells #[.int .i64 a2_0, .int .i64 a2_1] 23 (0, 0)) (by (with_reducible repeat (first | refine blk_drewN ?_ _ | refine blk_drew ?_ | refine blk_alloc ?_ _)); exact BK333.out) hb)
                                have n3_ := Aside0.mk (blk_below (g := gb348) (o := .cells #[.int .i64 t346, .int .i64 t347] 23 (0, 0)) (by (with_reducible repeat (first | refine blk_drewN ?_ _ | refine blk_drew ?_ | refine blk_alloc ?_ _)); exact BK348.out) hb)
                                have n4_ := Aside0.mk (blk_below (g := gb351) (o := .cells #[.int .i64 t349, .int .i64 t350] 23 (0, 0)) (by (with_reducible repeat (first | refine blk_drewN ?_ _ | refine blk_drew ?_ | refine blk_alloc ?_ _)); exact BK351.out) hb)
                                have n5_ := Aside0.mk (blk_below (g := gb354) (o := .cells #[.int .i64 t352, .int .i64 t353] 23 (0, 0)) (by (with_reducible repeat (first | refine blk_drewN ?_ _ | refine blk_drew ?_ | refine blk_alloc ?_ _)); exact BK354.out) hb)
                                have n6_ := Aside0.mk (below_step (by repeat (first | (with_reducible first | exact HB.out | apply below_alloc | apply pw_below_drewN | apply below_drew1 | refine below_set ?_ GE331.out | refine below_set ?_ GE332.out | refine below_set ?_ GE333.out | refine below_set ?_ GE348.out | refine below_set ?_ GE351.out | refine below_set ?_ GE354.out) | exact HB.out)) hb)
                                clear BK331
                                clear BK332
                                clear BK333
                                clear BK348
                                clear BK351
                                clear BK354
                                clear HB
                                have BK331 := n0_
                                have BK332 := n1_
                                have BK333 := n2_
                                have BK348 := n3_
                                have BK351 := n4_
                                have BK354 := n5_
                                have HB := n6_
                                clear n0_ n1_ n2_ n3_ n4_ n5_ n6_
                                (try clear hb)
                                (try clear hb2)
                                (try clear hk)
                                (try clear hi)
                                refine hK.out _ _ ⟨(blk_cell BK348.out 0).trans rfl, (blk_cell BK348.out 1).trans rfl, (blk_cell BK351.out 0).trans rfl, (blk_cell BK351.out 1).trans rfl, (blk_cell BK354.out 0).trans rfl, (blk_cell BK354.out 1).trans rfl, (blk_cell BK331.out 0).trans rfl, (blk_cell BK331.out 1).trans rfl, (blk_cell BK332.out 0).trans rfl, (blk_cell BK332.out 1).trans rfl⟩ (fun hHeld => ?_)
                                clear hK K
                                refine norm_ (a' := ?_) ?_ ?_
                                rotate_left
                                · show Act.put _ (some 154) _ = _
                                  simp only [Act.put, List.setIfInBounds_toArray, List.set_cons_zero, List.set_cons_succ, i64_w, i32_w]
                                  rfl
                                refine one_ (i := 15) (N := some 157) #[true, true, true, true, true, true, true, true, true, true, true, true, true, true, true, true, false, false, false] rfl rfl (one_of HT_.out (by kernel_rfl)) (by decide) (fun K hK => ?_)
                                refine goes_ Try.func21 (by kernel_rfl) rfl #[.agg #[.int .i64 a0_0, .int .i64 a0_1], .agg #[.int .i64 a1_0, .int .i64 a1_1]] (by rfl) rfl rfl (by (try simp only [List.map_toArray, List.map_cons, List.map_nil]); first | done | rfl | (simp only [List.length_drop, List.length_take]; rfl)) ?_
                                with_reducible refine (plane_Dist.calls a0_0 a0_1 a1_0 a1_1 t362 _ A195.out).mono ?_
                                rintro e w200 ⟨rfl, hb⟩
                                refine ⟨_, rfl, ?_⟩
                                have n0_ := Aside0.mk (blk_below (g := gb331) (o := .cells #[.int .i64 a0_0, .int .i64 a0_1] 23 (0, 0)) (by (with_reducible repeat (first | refine blk_drewN ?_ _ | refine blk_drew ?_ | refine blk_alloc ?_ _)); exact BK331.out) hb)
                                have n1_ := Aside0.mk (blk_below (g := gb332) (o := .cells #[.int .i64 a1_0, .int .i64 a1_1] 23 (0, 0)) (by (with_reducible repeat (first | refine blk_drewN ?_ _ | refine blk_drew ?_ | refine blk_alloc ?_ _)); exact BK332.out) hb)
                                have n2_ := Aside0.mk (blk_below (g := gb333) (o := .cells #[.int .i64 a2_0, .int .i64 a2_1] 23 (0, 0)) (by (with_reducible repeat (first | refine blk_drewN ?_ _ | refine blk_drew ?_ | refine blk_alloc ?_ _)); exact BK333.out) hb)
                                have n3_ := Aside0.mk (blk_below (g := gb348) (o := .cells #[.int .i64 t346, .int .i64 t347] 23 (0, 0)) (by (with_reducible repeat (first | refine blk_drewN ?_ _ | refine blk_drew ?_ | refine blk_alloc ?_ _)); exact BK348.out) hb)
                                have n4_ := Aside0.mk (blk_below (g := gb351) (o := .cells #[.int .i64 t349, .int .i64 t350] 23 (0, 0)) (by (with_reducible repeat (first | refine blk_drewN ?_ _ | refine blk_drew ?_ | refine blk_alloc ?_ _)); exact BK351.out) hb)
                                have n5_ := Aside0.mk (blk_below (g := gb354) (o := .cells #[.int .i64 t352, .int .i64 t353] 23 (0, 0)) (by (with_reducible repeat (first | refine blk_drewN ?_ _ | refine blk_drew ?_ | refine blk_alloc ?_ _)); exact BK354.out) hb)
                                have n6_ := Aside0.mk (below_step (by repeat (first | (with_reducible first | exact HB.out | apply below_alloc | apply pw_below_drewN | apply below_drew1 | refine below_set ?_ GE331.out | refine below_set ?_ GE332.out | refine below_set ?_ GE333.out | refine below_set ?_ GE348.out | refine below_set ?_ GE351.out | refine below_set ?_ GE354.out) | exact HB.out)) hb)
                                clear BK331
                                clear BK332
                                clear BK333
                                clear BK348
                                clear BK351
                                clear BK354
                                clear HB
                                have BK331 := n0_
                                have BK332 := n1_
                                have BK333 := n2_
                                have BK348 := n3_
                                have BK351 := n4_
                                have BK354 := n5_
                                have HB := n6_
                                clear n0_ n1_ n2_ n3_ n4_ n5_ n6_
                                (try clear hb)
                                (try clear hb2)
                                (try clear hk)
                                (try clear hi)
                                refine hK.out _ _ ⟨(blk_cell BK348.out 0).trans rfl, (blk_cell BK348.out 1).trans rfl, (blk_cell BK351.out 0).trans rfl, (blk_cell BK351.out 1).trans rfl, (blk_cell BK354.out 0).trans rfl, (blk_cell BK354.out 1).trans rfl, (blk_cell BK331.out 0).trans rfl, (blk_cell BK331.out 1).trans rfl, (blk_cell BK332.out 0).trans rfl, (blk_cell BK332.out 1).trans rfl⟩ (fun hHeld => ?_)
                                clear hK K
                                refine norm_ (a' := ?_) ?_ ?_
                                rotate_left
                                · show Act.put _ (some 157) _ = _
                                  simp only [Act.put, List.setIfInBounds_toArray, List.set_cons_zero, List.set_cons_succ, i64_w, i32_w]
                                  rfl
                                refine pure_ (i := 16) (N := some 158) (v := ?_) (a' := ?_) #[true, true, true, true, true, true, true, true, true, true, true, true, true, true, true, true, true, false, false] rfl rfl (any_of HT_.out (by kernel_rfl)) (fun _ _ _ h => h) (Or.inl ⟨by rfl, ?_⟩) ?_ ?_
                                rotate_left
                                · intro w'
                                  go_simp
                                  with_reducible rfl
                                rotate_left
                                · simp only [Act.put, List.setIfInBounds_toArray, List.set_cons_zero, List.set_cons_succ, i64_w, i32_w]
                                  rfl
                                refine pure_ (i := 17) (N := some 159) (v := ?_) (a' := ?_) #[true, true, true, true, true, true, true, true, true, true, true, true, true, true, true, true, true, true, false] rfl rfl (any_of HT_.out (by kernel_rfl)) (fun _ _ _ h => h) (Or.inl ⟨by rfl, ?_⟩) ?_ ?_
                                rotate_left
                                · intro w'
                                  go_simp
                                  with_reducible rfl
                                rotate_left
                                · simp only [Act.put, List.setIfInBounds_toArray, List.set_cons_zero, List.set_cons_succ, i64_w, i32_w]
                                  rfl
                                refine pure_ (i := 18) (N := some 12) (v := ?_) (a' := ?_) #[true, true, true, true, true, true, true, true, true, true, true, true, true, true, true, true, true, true, true] rfl rfl (any_of HT_.out (by kernel_rfl)) (fun _ _ _ h => h) (Or.inl ⟨by rfl, ?_⟩) ?_ ?_
                                rotate_left
                                · intro w'
                                  go_simp
                                  with_reducible rfl
                                rotate_left
                                · simp only [Act.put, List.setIfInBounds_toArray, List.set_cons_zero, List.set_cons_succ, i64_w, i32_w]
                                  rfl
                                refine done_ (done_of HT_.out (by kernel_rfl)) ?_
                                try go_wp2
                                go_ret
                                exact ⟨by first | rfl | (simp [errW_none, errW_some] <;> rfl) | (simp [*, errW_none, errW_some] <;> rfl), by repeat (first | (with_reducible first | exact HB.out | apply below_alloc | apply pw_below_drewN | apply below_drew1 | refine below_set ?_ GE331.out | refine below_set ?_ GE332.out | refine below_set ?_ GE333.out | refine below_set ?_ GE348.out | refine below_set ?_ GE351.out | refine below_set ?_ GE354.out) | exact HB.out)⟩
                              · rw [if_neg c193] at H
                                exact absurd H (by simp)
                            · replace c191 := Bool.eq_false_iff.mpr c191
                              subst c191
                              have H1 : (none) = some r := by rw [if_neg (show ¬ (false = true) by decide)] at H; exact H
                              clear H
                              have H := H1
                              clear H1
                              exact absurd H (by simp)
end Go.Proofs.Ytckaejgamfllfaa.G
end

section
namespace Go.Proofs.Ytckaejgamfllfaa.G
open Go.RowKit Go.Proofs.YtckaejgamfllfaaW.PrintWords Go.Proofs.YtckaejgamfllfaaW.PrintLast Go.Proofs.YtckaejgamfllfaaW.PrintMore
attribute [local go_sem] max2_int min2_int max_two min_two max_three min_three max_four min_four
set_option linter.unusedVariables false
set_option linter.unusedSimpArgs false
end Go.Proofs.Ytckaejgamfllfaa.G
end

section
namespace Go.Proofs.Ytckaejgamfllfaa.G
open Go.RowKit Go.Proofs.YtckaejgamfllfaaW.PrintWords Go.Proofs.YtckaejgamfllfaaW.PrintLast Go.Proofs.YtckaejgamfllfaaW.PrintMore
attribute [local go_sem] max2_int min2_int max_two min_two max_three min_three max_four min_four
set_option linter.unusedVariables false
set_option linter.unusedSimpArgs false
end Go.Proofs.Ytckaejgamfllfaa.G
end

section
namespace Go.Proofs.Ytckaejgamfllfaa.G
open Go.RowKit Go.Proofs.YtckaejgamfllfaaW.PrintWords Go.Proofs.YtckaejgamfllfaaW.PrintLast Go.Proofs.YtckaejgamfllfaaW.PrintMore
attribute [local go_sem] max2_int min2_int max_two min_two max_three min_three max_four min_four
set_option linter.unusedVariables false
set_option linter.unusedSimpArgs false
end Go.Proofs.Ytckaejgamfllfaa.G
end

section
namespace Go.Proofs.Ytckaejgamfllfaa.G
open Go.RowKit Go.Proofs.YtckaejgamfllfaaW.PrintWords Go.Proofs.YtckaejgamfllfaaW.PrintLast Go.Proofs.YtckaejgamfllfaaW.PrintMore
attribute [local go_sem] max2_int min2_int max_two min_two max_three min_three max_four min_four
set_option linter.unusedVariables false
set_option linter.unusedSimpArgs false
end Go.Proofs.Ytckaejgamfllfaa.G
end

section
namespace Go.Proofs.Ytckaejgamfllfaa.G
open Go.RowKit Go.Proofs.YtckaejgamfllfaaW.PrintWords Go.Proofs.YtckaejgamfllfaaW.PrintLast Go.Proofs.YtckaejgamfllfaaW.PrintMore
attribute [local go_sem] max2_int min2_int max_two min_two max_three min_three max_four min_four
set_option linter.unusedVariables false
set_option linter.unusedSimpArgs false
end Go.Proofs.Ytckaejgamfllfaa.G
end

section
namespace Go.Proofs.Ytckaejgamfllfaa.G
open Go.RowKit Go.Proofs.YtckaejgamfllfaaW.PrintWords Go.Proofs.YtckaejgamfllfaaW.PrintLast Go.Proofs.YtckaejgamfllfaaW.PrintMore
attribute [local go_sem] max2_int min2_int max_two min_two max_three min_three max_four min_four
set_option linter.unusedVariables false
set_option linter.unusedSimpArgs false
end Go.Proofs.Ytckaejgamfllfaa.G
end

section
namespace Go.Proofs.Ytckaejgamfllfaa.G
open Go.RowKit Go.Proofs.YtckaejgamfllfaaW.PrintWords Go.Proofs.YtckaejgamfllfaaW.PrintLast Go.Proofs.YtckaejgamfllfaaW.PrintMore
attribute [local go_sem] max2_int min2_int max_two min_two max_three min_three max_four min_four
set_option linter.unusedVariables false
set_option linter.unusedSimpArgs false
end Go.Proofs.Ytckaejgamfllfaa.G
end

section
namespace Go.Proofs.Ytckaejgamfllfaa.G
open Go.RowKit Go.Proofs.YtckaejgamfllfaaW.PrintWords Go.Proofs.YtckaejgamfllfaaW.PrintLast Go.Proofs.YtckaejgamfllfaaW.PrintMore
attribute [local go_sem] max2_int min2_int max_two min_two max_three min_three max_four min_four
set_option linter.unusedVariables false
set_option linter.unusedSimpArgs false
end Go.Proofs.Ytckaejgamfllfaa.G
end

section
namespace Go.Proofs.Ytckaejgamfllfaa.G
open Go.RowKit Go.Proofs.YtckaejgamfllfaaW.PrintWords Go.Proofs.YtckaejgamfllfaaW.PrintLast Go.Proofs.YtckaejgamfllfaaW.PrintMore
attribute [local go_sem] max2_int min2_int max_two min_two max_three min_three max_four min_four
set_option linter.unusedVariables false
set_option linter.unusedSimpArgs false
end Go.Proofs.Ytckaejgamfllfaa.G
end

section
namespace Go.Proofs.Ytckaejgamfllfaa.G
open Go.RowKit Go.Proofs.YtckaejgamfllfaaW.PrintWords Go.Proofs.YtckaejgamfllfaaW.PrintLast Go.Proofs.YtckaejgamfllfaaW.PrintMore
def turnP (a b c : S23) : Int := if validP a && validP b && validP c then sgn (twW a b c) else 0
def dsW (a b : S23) : Int := wrap64 ((wrap64 ((wrap64 (a.f0 - b.f0)) * (wrap64 (a.f0 - b.f0)))) + (wrap64 ((wrap64 (a.f1 - b.f1)) * (wrap64 (a.f1 - b.f1)))))
def distP (a b : S23) : Int := if validP a && validP b then dsW a b else -1
def rootP (n : Int) : Int := if n < 1 then 0 else (isq n.toNat : Int)
theorem plane_Turn_eq (a b c : S23) : plane_Turn.f a.f0 a.f1 b.f0 b.f1 c.f0 c.f1 = some (turnP a b c) := by
  unfold plane_Turn.f plane_valid.f turnP
  rw [if_pos (by simp), plane_twice_eq a b c]
  simp only [Option.bind_some, List.all_cons, List.all_nil, Bool.and_true, plane_sign_eq, Bool.and_assoc]
  cases validP a <;> cases validP b <;> cases validP c <;> rfl
theorem plane_Dist_eq (a b : S23) : plane_Dist.f a.f0 a.f1 b.f0 b.f1 = some (distP a b) := by
  unfold plane_Dist.f plane_valid.f distP
  rw [if_pos (by simp), show plane_dist.f a.f0 a.f1 b.f0 b.f1 = some (dsW a b) from rfl]
  simp only [Option.bind_some, List.all_cons, List.all_nil, Bool.and_true]
  cases validP a <;> cases validP b <;> rfl
theorem plane_Root_eq (n : Int) (h : n ≤ 9223372036854775807) : plane_Root.f n = some (rootP n) := by
  unfold plane_Root.f rootP
  rw [if_pos h]
  split <;> rfl
end Go.Proofs.Ytckaejgamfllfaa.G
end

section
namespace Go.Proofs.Ytckaejgamfllfaa.G
open Go.ChangeShapes Go.WideShapes Go.ChangeAt Go.RowKit Go.Deep Go.Proofs.YtckaejgamfllfaaW.PrintWords
variable {H : Type} {enc : TypeId × Value → H} {w : World} {base : Nat} {spare : Nat → Bool} {held : Bool}
def I64 (x : Int) : Prop := -9223372036854775808 ≤ x ∧ x ≤ 9223372036854775807
theorem I64.of_wf {x : Int} (h : (Lit.int .i64 x).wf = true) : I64 x := by
  have e1 : IntKind.i64.min = -9223372036854775808 := by decide
  have e2 : IntKind.i64.max = 9223372036854775807 := by decide
  simp only [Lit.wf, Bool.and_eq_true, decide_eq_true_eq, e1, e2] at h
  exact h
theorem list2 {α : Type} {l : List α} (h : l.length = 2) : ∃ a b, l = [a, b] := by
  match l, h with
  | [a, b], _ => exact ⟨a, b, rfl⟩
theorem cells23 : Try.prog.cellsOf 23 = 2 := by kernel_rfl
theorem cells3 : Try.prog.cellsOf 3 = 1 := by kernel_rfl
theorem point_cs {fuel : Nat} {cs : List Value} {x : DataW H × List MemPlace} (h : DataW.trod enc Try.prog w base spare held fuel 23 cs = some x) :
    ∃ p : S23, cs = [.int .i64 p.f0, .int .i64 p.f1] ∧ I64 p.f0 ∧ I64 p.f1 := by
  obtain ⟨y0, y1, n, _, hl, h0, h1⟩ := trod_struct2 Try.underlying23 h
  rw [cells23] at hl
  obtain ⟨c0, c1, rfl⟩ := list2 hl
  rw [cells3] at h0 h1
  obtain ⟨a, e0, _, wa⟩ := DataW.trod_int Try.underlying3 h0
  obtain ⟨b, e1, _, wb⟩ := DataW.trod_int Try.underlying3 h1
  simp at e0 e1
  subst e0 e1
  exact ⟨⟨a, b⟩, rfl, .of_wf wa, .of_wf wb⟩
theorem arr_of_list {cs : Array Value} {l : List Value} (e : (Value.agg cs).cells.toList = l) : cs = l.toArray := by
  have e' : cs.toList = l := e
  rw [← e']
abbrev pv (p : S23) : Value := .agg #[.int .i64 p.f0, .int .i64 p.f1]
set_option maxRecDepth 100000 in
theorem open_point {r : Reach} {b0 : Nat} {v : Value} {d : DataW H} {ps : List MemPlace} (hv : Value.okWide Try.prog w r b0 23 v) (h : DataW.Trod enc Try.prog w base spare held 23 v d ps) :
    ∃ p : S23, v = pv p ∧ I64 p.f0 ∧ I64 p.f1 := by
  obtain ⟨cs, rfl, _⟩ := okWide_struct Try.underlying23 hv
  obtain ⟨fuel, hf⟩ := h
  obtain ⟨p, e, hp⟩ := point_cs hf
  exact ⟨p, by rw [arr_of_list e], hp⟩
end Go.Proofs.Ytckaejgamfllfaa.G
end

section
namespace Go.Proofs.Ytckaejgamfllfaa.G
open Go.RowKit Go.Proofs.YtckaejgamfllfaaW.PrintWords Go.Proofs.YtckaejgamfllfaaW.PrintLast Go.Proofs.YtckaejgamfllfaaW.PrintMore
theorem mul_bd {p q M : Int} (h1 : -M ≤ p) (h2 : p ≤ M) (h3 : -M ≤ q) (h4 : q ≤ M) : -(M * M) ≤ p * q ∧ p * q ≤ M * M := by
  have e : (p * q).natAbs ≤ M.natAbs * M.natAbs := by
    rw [Int.natAbs_mul]
    exact Nat.mul_le_mul (by omega) (by omega)
  have f : ((M.natAbs * M.natAbs : Nat) : Int) = M * M := by
    have : (M.natAbs : Int) = M := by omega
    rw [Int.natCast_mul, this]
  omega
theorem validP_iff (a : S23) : validP a = true ↔ -1048576 ≤ a.f0 ∧ a.f0 ≤ 1048576 ∧ -1048576 ≤ a.f1 ∧ a.f1 ≤ 1048576 := by
  unfold validP; simp only [Bool.and_eq_true, decide_eq_true_eq, and_assoc]
def twZ (a b c : S23) : Int := (b.f0 - a.f0) * (c.f1 - a.f1) - (b.f1 - a.f1) * (c.f0 - a.f0)
def dsZ (a b : S23) : Int := (a.f0 - b.f0) * (a.f0 - b.f0) + (a.f1 - b.f1) * (a.f1 - b.f1)
theorem twW_eq {a b c : S23} (ha : validP a = true) (hb : validP b = true) (hc : validP c = true) : twW a b c = twZ a b c := by
  rw [validP_iff] at ha hb hc
  have h1 := @mul_bd (b.f0 - a.f0) (c.f1 - a.f1) 2097152 (by omega) (by omega) (by omega) (by omega)
  have h2 := @mul_bd (b.f1 - a.f1) (c.f0 - a.f0) 2097152 (by omega) (by omega) (by omega) (by omega)
  unfold twW twZ
  rw [wrap_small (x := b.f0 - a.f0) (by omega) (by omega), wrap_small (x := c.f1 - a.f1) (by omega) (by omega), wrap_small (x := b.f1 - a.f1) (by omega) (by omega), wrap_small (x := c.f0 - a.f0) (by omega) (by omega)]
  rw [wrap_small (x := (b.f0 - a.f0) * (c.f1 - a.f1)) (by omega) (by omega), wrap_small (x := (b.f1 - a.f1) * (c.f0 - a.f0)) (by omega) (by omega), wrap_small (by omega) (by omega)]
theorem sq_nn (x : Int) : 0 ≤ x * x := by
  rcases Int.le_total 0 x with h | h
  · exact Int.mul_nonneg h h
  · exact Int.mul_nonneg_of_nonpos_of_nonpos h h
theorem dsW_eq {a b : S23} (ha : validP a = true) (hb : validP b = true) : dsW a b = dsZ a b := by
  rw [validP_iff] at ha hb
  have h1 := @mul_bd (a.f0 - b.f0) (a.f0 - b.f0) 2097152 (by omega) (by omega) (by omega) (by omega)
  have h2 := @mul_bd (a.f1 - b.f1) (a.f1 - b.f1) 2097152 (by omega) (by omega) (by omega) (by omega)
  unfold dsW dsZ
  rw [wrap_small (x := a.f0 - b.f0) (by omega) (by omega), wrap_small (x := a.f1 - b.f1) (by omega) (by omega)]
  rw [wrap_small (x := (a.f0 - b.f0) * (a.f0 - b.f0)) (by omega) (by omega), wrap_small (x := (a.f1 - b.f1) * (a.f1 - b.f1)) (by omega) (by omega), wrap_small (by omega) (by omega)]
theorem sq_zero {x : Int} (h : x * x = 0) : x = 0 := by
  rcases Int.mul_eq_zero.1 h with h | h <;> exact h
theorem dsZ_zero (a b : S23) : dsZ a b = 0 ↔ a = b := by
  constructor
  · intro h
    unfold dsZ at h
    have h3 := sq_nn (a.f0 - b.f0)
    have h4 := sq_nn (a.f1 - b.f1)
    have e0 := sq_zero (x := a.f0 - b.f0) (by omega)
    have e1 := sq_zero (x := a.f1 - b.f1) (by omega)
    cases a; cases b
    simp at e0 e1 ⊢
    omega
  · rintro rfl; simp [dsZ]
theorem twZ_cyc (a b c : S23) : twZ b c a = twZ a b c := by unfold twZ; grind
theorem twZ_swap (a b c : S23) : twZ b a c = -twZ a b c := by unfold twZ; grind
theorem dsZ_comm (a b : S23) : dsZ b a = dsZ a b := by unfold dsZ; grind
theorem sgn_neg (n : Int) : sgn (-n) = -sgn n := by unfold sgn; split <;> split <;> (try split) <;> omega
theorem wrap_negsgn (n : Int) : wrap64 (-sgn n) = -sgn n := by
  rcases sgn_range n with h | h | h <;> rw [h] <;> exact wrap_small (by decide) (by decide)
theorem turn_all {a b c : S23} (ha : validP a = true) (hb : validP b = true) (hc : validP c = true) : turnP a b c = sgn (twZ a b c) := by
  unfold turnP; rw [ha, hb, hc, twW_eq ha hb hc]; simp
theorem turn_not {a b c : S23} (h : (validP a && validP b && validP c) = false) : turnP a b c = 0 := by
  unfold turnP; rw [h]; simp
theorem turn_cyc (a b c : S23) : turnP b c a = turnP a b c := by
  by_cases h : validP a = true ∧ validP b = true ∧ validP c = true
  · obtain ⟨ha, hb, hc⟩ := h
    rw [turn_all ha hb hc, turn_all hb hc ha, twZ_cyc]
  · rw [turn_not (a := a), turn_not] <;> grind
theorem turn_swap (a b c : S23) : turnP a b c = wrap64 (-turnP b a c) := by
  by_cases h : validP a = true ∧ validP b = true ∧ validP c = true
  · obtain ⟨ha, hb, hc⟩ := h
    rw [turn_all ha hb hc, turn_all hb ha hc, twZ_swap, sgn_neg, wrap_negsgn]
  · rw [turn_not (a := a), turn_not]
    · exact (wrap_small (by decide) (by decide)).symm
    all_goals grind
theorem turn_swap2 (a b c : S23) : turnP a b c = wrap64 (-turnP a c b) := by
  rw [← turn_cyc a b c, turn_swap b c a, ← turn_cyc a c b]
theorem dist_comm (a b : S23) : distP b a = distP a b := by
  unfold distP
  by_cases h : validP a = true ∧ validP b = true
  · obtain ⟨ha, hb⟩ := h
    rw [ha, hb, dsW_eq ha hb, dsW_eq hb ha, dsZ_comm]
  · rw [if_neg (by grind), if_neg (by grind)]
end Go.Proofs.Ytckaejgamfllfaa.G
end

section
namespace Go.Proofs.Ytckaejgamfllfaa.G
open Go.RowKit Go.Proofs.YtckaejgamfllfaaW.PrintWords Go.Proofs.YtckaejgamfllfaaW.PrintLast Go.Proofs.YtckaejgamfllfaaW.PrintMore
theorem U32.of_wf {x : Int} (h : (Lit.int .u32 x).wf = true) : 0 ≤ x ∧ x ≤ 4294967295 := by
  have e1 : IntKind.u32.min = 0 := by decide
  have e2 : IntKind.u32.max = 4294967295 := by decide
  simp only [Lit.wf, Bool.and_eq_true, decide_eq_true_eq, e1, e2] at h
  exact h
theorem root_small {n : Int} (h0 : 0 ≤ n) (h1 : n ≤ 4294967295) : 0 ≤ rootP n ∧ rootP n ≤ 65535 ∧ rootP n * rootP n ≤ n ∧ n < (rootP n + 1) * (rootP n + 1) := by
  unfold rootP
  by_cases h : n < 1
  · rw [if_pos h]; omega
  · rw [if_neg h]
    obtain ⟨s1, s2⟩ := isq_spec n.toNat
    have e : (n.toNat : Int) = n := by omega
    have s1' : ((isq n.toNat * isq n.toNat : Nat) : Int) ≤ n := by omega
    have s2' : n < (((isq n.toNat + 1) * (isq n.toNat + 1) : Nat) : Int) := by omega
    rw [Int.natCast_mul] at s1' s2'
    refine ⟨by omega, ?_, s1', by simpa using s2'⟩
    by_cases hb : 65536 ≤ isq n.toNat
    · exfalso
      have : 65536 * 65536 ≤ isq n.toNat * isq n.toNat := Nat.mul_le_mul hb hb
      omega
    · omega
theorem tf_j3 {k : Nat} (hk : 100 ≤ k) (t : Int) (v : Bool) (a b p q s : S23) (h : v = false → turnP p q s = t ∧ distP p q = distP a b) :
    boundstonelaw02_PlaneTurnsFair.j3 (k + 1) t v a.f0 a.f1 b.f0 b.f1 p.f0 p.f1 q.f0 q.f1 s.f0 s.f1 = some true := by
  simp only [boundstonelaw02_PlaneTurnsFair.j3]
  rw [sanity_mono hk]
  cases v with
  | true => simp
  | false =>
    obtain ⟨h1, h2⟩ := h rfl
    rw [if_neg (by simp), plane_Turn_eq, plane_Dist_eq, plane_Dist_eq, h1, h2]
    simp
theorem moved_eq (a : S23) (x y : Int) (ha : validP a = true) (hx : -1000 ≤ x ∧ x ≤ 1000) (hy : -1000 ≤ y ∧ y ≤ 1000) :
    boundstonelaw02_moved.f a.f0 a.f1 x y = some (a.f0 + x, a.f1 + y) := by
  rw [validP_iff] at ha
  unfold boundstonelaw02_moved.f
  rw [wrap_small (by omega) (by omega), wrap_small (by omega) (by omega)]
theorem turn_moved (a b c : S23) (x y : Int) (ha : validP a = true) (hb : validP b = true) (hc : validP c = true)
    (ha' : validP ⟨a.f0 + x, a.f1 + y⟩ = true) (hb' : validP ⟨b.f0 + x, b.f1 + y⟩ = true) (hc' : validP ⟨c.f0 + x, c.f1 + y⟩ = true) :
    turnP ⟨a.f0 + x, a.f1 + y⟩ ⟨b.f0 + x, b.f1 + y⟩ ⟨c.f0 + x, c.f1 + y⟩ = turnP a b c := by
  rw [turn_all ha hb hc, turn_all ha' hb' hc']
  congr 1
  unfold twZ; grind
theorem dist_moved (a b : S23) (x y : Int) (ha : validP a = true) (hb : validP b = true)
    (ha' : validP ⟨a.f0 + x, a.f1 + y⟩ = true) (hb' : validP ⟨b.f0 + x, b.f1 + y⟩ = true) :
    distP ⟨a.f0 + x, a.f1 + y⟩ ⟨b.f0 + x, b.f1 + y⟩ = distP a b := by
  unfold distP
  rw [ha, hb, ha', hb', dsW_eq ha hb, dsW_eq ha' hb']
  unfold dsZ; simp only [Bool.and_self, if_true]; grind
theorem dist_zero (a b : S23) (ha : validP a = true) (hb : validP b = true) : (distP a b == 0) = eqP a b := by
  unfold distP
  rw [ha, hb, dsW_eq ha hb]
  simp only [Bool.and_self, if_true]
  rw [Bool.eq_iff_iff, beq_iff_eq, dsZ_zero, eqP_iff]
theorem tf_j2 {k : Nat} (hk : 101 ≤ k) (x y : Int) (v : Bool) (a b c : S23) (h : v = false → validP a = true ∧ validP b = true ∧ validP c = true ∧ (-1000 ≤ x ∧ x ≤ 1000) ∧ -1000 ≤ y ∧ y ≤ 1000) :
    boundstonelaw02_PlaneTurnsFair.j2 (k + 1) x y (turnP a b c) v a.f0 a.f1 b.f0 b.f1 c.f0 c.f1 = some true := by
  obtain ⟨k, rfl⟩ : ∃ m, k = m + 1 := ⟨k - 1, by omega⟩
  simp only [boundstonelaw02_PlaneTurnsFair.j2]
  cases v with
  | true => rw [if_pos rfl, sanity_mono (by omega)]; rfl
  | false =>
    obtain ⟨ha, hb, hc, hx, hy⟩ := h rfl
    have hd := dist_zero a b ha hb
    unfold eqP at hd
    rw [if_neg (by simp), plane_Dist_eq, moved_eq a x y ha hx hy, moved_eq b x y hb hx hy, moved_eq c x y hc hx hy]
    simp only [Option.bind_some]
    rw [hd, if_neg (by simp), plane_Valid_eq, plane_Valid_eq, plane_Valid_eq]
    simp only [Option.bind_some]
    have T := fun (v : Bool) h => tf_j3 (k := k) (by omega) (turnP a b c) v a b ⟨a.f0 + x, a.f1 + y⟩ ⟨b.f0 + x, b.f1 + y⟩ ⟨c.f0 + x, c.f1 + y⟩ h
    split
    · rename_i h1
      split
      · rename_i h2
        refine T _ (fun hv => ?_)
        have h3 : validP ⟨c.f0 + x, c.f1 + y⟩ = true := by simpa using hv
        exact ⟨turn_moved a b c x y ha hb hc h1 h2 h3, dist_moved a b x y ha hb h1 h2⟩
      · exact T true (by simp)
    · exact T true (by simp)
theorem law2 (a b c : S23) (x y n : Int) (hn : 0 ≤ n ∧ n ≤ 4294967295) : boundstonelaw02_PlaneTurnsFair.f 200 a.f0 a.f1 b.f0 b.f1 c.f0 c.f1 x y n = some true := by
  unfold boundstonelaw02_PlaneTurnsFair.f
  rw [plane_Turn_eq a b c, plane_Turn_eq b c a, plane_Turn_eq b a c, plane_Turn_eq a c b, plane_Dist_eq a b, plane_Dist_eq b a]
  simp only [Option.bind_some]
  rw [if_pos (turn_cyc a b c).symm, if_pos (turn_swap a b c), if_pos (turn_swap2 a b c), dist_comm]
  simp only [boundstonelaw02_PlaneTurnsFair.j0, boundstonelaw02_PlaneTurnsFair.j1]
  rw [if_neg (by simp), wrap_small (by omega) (by omega), plane_Root_eq n (by omega)]
  obtain ⟨r0, r1, r2, r3⟩ := root_small hn.1 hn.2
  have r5 := sq_nn (rootP n)
  simp only [Option.bind_some]
  rw [if_neg (by omega), wrap_small (x := rootP n * rootP n) (by omega) (by omega), if_neg (by omega), wrap_small (x := rootP n + 1) (by omega) (by omega)]
  have r4 := (@mul_bd (rootP n + 1) (rootP n + 1) 65536 (by omega) (by omega) (by omega) (by omega))
  rw [wrap_small (x := (rootP n + 1) * (rootP n + 1)) (by omega) (by omega)]
  rw [if_neg (by rw [decide_eq_true_eq]; omega), plane_Valid_eq, plane_Valid_eq, plane_Valid_eq]
  simp only [Option.bind_some]
  have T := fun (v : Bool) h => tf_j2 (k := 197) (by omega) x y v a b c h
  split
  · rename_i h1
    split
    · rename_i h2
      split
      · rename_i h3
        split
        · exact T true (by simp)
        · split
          · exact T true (by simp)
          · split
            · exact T true (by simp)
            · exact T _ (fun hv => ⟨h1, h2, h3, by omega, by simp at hv; omega⟩)
      · exact T true (by simp)
    · exact T true (by simp)
  · exact T true (by simp)
end Go.Proofs.Ytckaejgamfllfaa.G
end
