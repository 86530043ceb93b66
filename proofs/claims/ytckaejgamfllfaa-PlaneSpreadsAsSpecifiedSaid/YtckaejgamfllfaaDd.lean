/- Part 4 of 6. -/
import Derived.Test.YtckaejgamfllfaaDc
import Derived.Shelf.Abstract
section
namespace Go.Proofs.Ytckaejgamfllfaa.G
open Go.RowKit Go.Proofs.YtckaejgamfllfaaW.PrintWords Go.Proofs.YtckaejgamfllfaaW.PrintLast Go.Proofs.YtckaejgamfllfaaW.PrintMore
attribute [local go_sem] max2_int min2_int max_two min_two max_three min_three max_four min_four
set_option linter.unusedVariables false
set_option linter.unusedSimpArgs false
def plane_Corners.f (a0_0 : Int) (a0_1 : Int) (a0_2 : Int) (a0_3 : Int) : Option (Int × Int × Int × Int × Int × Int × Int × Int) := (plane_Proper.f a0_0 a0_1 a0_2 a0_3).bind fun t592 => (if t592 = true then (some (a0_0, a0_2, a0_1, a0_2, a0_1, a0_3, a0_0, a0_3)) else (some (0, 0, 0, 0, 0, 0, 0, 0)))
set_option maxHeartbeats 8000000 in
set_option maxRecDepth 100000 in
theorem plane_Corners.calls (a0_0 : Int) (a0_1 : Int) (a0_2 : Int) (a0_3 : Int) (r1 : Int) (r2 : Int) (r3 : Int) (r4 : Int) (r5 : Int) (r6 : Int) (r7 : Int) (r8 : Int) (w : World) (h : plane_Corners.f a0_0 a0_1 a0_2 a0_3 = some (r1, r2, r3, r4, r5, r6, r7, r8)) :
  Calls Try.prog 68 #[.agg #[.int .i64 a0_0, .int .i64 a0_1, .int .i64 a0_2, .int .i64 a0_3]] w fun e w' => e = .returned (.agg #[.int .i64 r1, .int .i64 r2, .int .i64 r3, .int .i64 r4, .int .i64 r5, .int .i64 r6, .int .i64 r7, .int .i64 r8]) ∧ Below w.heap.size w w' := by
 have hu52 := Try.underlying52
 have hu82 := Try.underlying82
 have hu23 := Try.underlying23
 have HB := Aside0.mk (Below.refl w.heap.size w)
 have H : ((plane_Proper.f a0_0 a0_1 a0_2 a0_3).bind fun t592 => (if t592 = true then (some (a0_0, a0_2, a0_1, a0_2, a0_1, a0_3, a0_0, a0_3)) else (some (0, 0, 0, 0, 0, 0, 0, 0)))) = some (r1, r2, r3, r4, r5, r6, r7, r8) := h
 clear h
 replace H := Option.bind_eq_some_iff.mp H
 obtain ⟨t592, A20, H⟩ := H
 replace H : (if t592 = true then (some (a0_0, a0_2, a0_1, a0_2, a0_1, a0_3, a0_0, a0_3)) else (some (0, 0, 0, 0, 0, 0, 0, 0))) = some (r1, r2, r3, r4, r5, r6, r7, r8) := H
 have A2 := Aside0.mk A20
 clear A20
 by_cases c3 : t592 = true
 ·subst c3
  have H1 : (some (a0_0, a0_2, a0_1, a0_2, a0_1, a0_3, a0_0, a0_3)) = some (r1, r2, r3, r4, r5, r6, r7, r8) := by rw [if_pos rfl] at H; exact H
  clear H
  have H := H1
  clear H1
  simp only [Option.some.injEq, Prod.mk.injEq] at H
  obtain ⟨rfl, rfl, rfl, rfl, rfl, rfl, rfl, rfl⟩ := H
  go_enter Try.func68, Try.ntmps68
  go_wp2_with (first | ((with_reducible refine gate_dst (N := 1) rfl ?_); refine box_event ?hg (N := 1) ?hd (cs := #[.int .i64 a0_0, .int .i64 a0_1, .int .i64 a0_2, .int .i64 a0_3]) (t := 52) ?hr ?_; (case hd => rfl); (case hg => rfl); (case hr => first | (go_simp; done) | (go_simp; rfl)); intro gb590 hg w4 hbox hb; have BK590 := Aside0.mk (hbox); have GW590 := geBA HB hg; have GE590 := geBA HB hg; replace HB := Aside0.mk (below_step (hk HB) hb); clear hb hbox hg) | ((with_reducible refine gate_dst (N := 2) rfl ?_); refine box_event ?hg (N := 2) ?hd (cs := #[.int .i64 0, .int .i64 0, .int .i64 0, .int .i64 0, .int .i64 0, .int .i64 0, .int .i64 0, .int .i64 0]) (t := 82) ?hr ?_; (case hd => rfl); (case hg => rfl); (case hr => first | (go_simp; done) | (go_simp; rfl)); intro gb591 hg w5 hbox hb; have BK591 := Aside0.mk (hbox); have GW591 := Aside0.mk ((by rw [hg]; exact (below_size (by repeat (first | (with_reducible first | exact HB.out | apply below_alloc | apply pw_below_drewN | apply below_drew1 | refine below_set ?_ GE590.out) | exact HB.out))) : w.heap.size ≤ gb591)); have GE591 := Aside0.mk ((by rw [hg]; exact (below_size (by repeat (first | (with_reducible first | exact HB.out | apply below_alloc | apply pw_below_drewN | apply below_drew1 | refine below_set ?_ GE590.out) | exact HB.out))) : w.heap.size ≤ gb591)); have NB590_591 := neLA BK590 hg; have NB591_590 := neGA BK590 hg; replace BK590 := bkC BK590 hb; replace HB := Aside0.mk (below_step (by repeat (first | (with_reducible first | exact HB.out | apply below_alloc | apply pw_below_drewN | apply below_drew1 | refine below_set ?_ GE590.out) | exact HB.out)) hb); clear hb hbox hg; have hnb6 := NB590_591.out; have hnc6 := NB591_590.out; have hcz7_0 : w5.cell? ⟨gb590, 0, none⟩ = some (.int .i64 a0_0) := (blk_cell BK590.out 0).trans rfl; have hcz7_1 : w5.cell? ⟨gb590, 1, none⟩ = some (.int .i64 a0_1) := (blk_cell BK590.out 1).trans rfl; have hcz7_2 : w5.cell? ⟨gb590, 2, none⟩ = some (.int .i64 a0_2) := (blk_cell BK590.out 2).trans rfl; have hcz7_3 : w5.cell? ⟨gb590, 3, none⟩ = some (.int .i64 a0_3) := (blk_cell BK590.out 3).trans rfl; have hfz7_0 := blk_frozen BK590.out 0; have hfz7_1 := blk_frozen BK590.out 1; have hfz7_2 := blk_frozen BK590.out 2; have hfz7_3 := blk_frozen BK590.out 3) | ((with_reducible refine gate_callee (f := 64) rfl ?_); refine goesL_ (some 4) rfl rfl Try.func64 (by kernel_rfl) rfl #[.agg #[.int .i64 a0_0, .int .i64 a0_1, .int .i64 a0_2, .int .i64 a0_3]] rfl (by (try simp only [List.map_toArray, List.map_cons, List.map_nil]); first | done | rfl | (simp only [List.length_drop, List.length_take]; rfl)) ?_; (with_reducible refine (plane_Proper.calls a0_0 a0_1 a0_2 a0_3 true _ A2.out).mono ?_); rintro e w8 ⟨rfl, hb⟩; refine ⟨_, rfl, ?_⟩; replace BK590 := bkC BK590 hb; replace BK591 := bkC BK591 hb; replace HB := Aside0.mk (below_step (by repeat (first | (with_reducible first | exact HB.out | apply below_alloc | apply pw_below_drewN | apply below_drew1 | refine below_set ?_ GE590.out | refine below_set ?_ GE591.out) | exact HB.out)) hb); (try clear hb); (try clear hb2); (try clear hk); (try clear hi); have hcz9_0 : w8.cell? ⟨gb590, 0, none⟩ = some (.int .i64 a0_0) := (blk_cell BK590.out 0).trans rfl; have hcz9_1 : w8.cell? ⟨gb590, 1, none⟩ = some (.int .i64 a0_1) := (blk_cell BK590.out 1).trans rfl; have hcz9_2 : w8.cell? ⟨gb590, 2, none⟩ = some (.int .i64 a0_2) := (blk_cell BK590.out 2).trans rfl; have hcz9_3 : w8.cell? ⟨gb590, 3, none⟩ = some (.int .i64 a0_3) := (blk_cell BK590.out 3).trans rfl; have hfz9_0 := blk_frozen BK590.out 0; have hfz9_1 := blk_frozen BK590.out 1; have hfz9_2 := blk_frozen BK590.out 2; have hfz9_3 := blk_frozen BK590.out 3; have hcz10_0 : w8.cell? ⟨gb591, 0, none⟩ = some (.int .i64 0) := (blk_cell BK591.out 0).trans rfl; have hcz10_1 : w8.cell? ⟨gb591, 1, none⟩ = some (.int .i64 0) := (blk_cell BK591.out 1).trans rfl; have hcz10_2 : w8.cell? ⟨gb591, 2, none⟩ = some (.int .i64 0) := (blk_cell BK591.out 2).trans rfl; have hcz10_3 : w8.cell? ⟨gb591, 3, none⟩ = some (.int .i64 0) := (blk_cell BK591.out 3).trans rfl; have hcz10_4 : w8.cell? ⟨gb591, 4, none⟩ = some (.int .i64 0) := (blk_cell BK591.out 4).trans rfl; have hcz10_5 : w8.cell? ⟨gb591, 5, none⟩ = some (.int .i64 0) := (blk_cell BK591.out 5).trans rfl; have hcz10_6 : w8.cell? ⟨gb591, 6, none⟩ = some (.int .i64 0) := (blk_cell BK591.out 6).trans rfl; have hcz10_7 : w8.cell? ⟨gb591, 7, none⟩ = some (.int .i64 0) := (blk_cell BK591.out 7).trans rfl; have hfz10_0 := blk_frozen BK591.out 0; have hfz10_1 := blk_frozen BK591.out 1; have hfz10_2 := blk_frozen BK591.out 2; have hfz10_3 := blk_frozen BK591.out 3; have hfz10_4 := blk_frozen BK591.out 4; have hfz10_5 := blk_frozen BK591.out 5; have hfz10_6 := blk_frozen BK591.out 6; have hfz10_7 := blk_frozen BK591.out 7))
  refine bodyPost_ret (results_cell_row rfl _ _ gb591 82 #[.int .i64 a0_0, .int .i64 a0_2, .int .i64 a0_1, .int .i64 a0_2, .int .i64 a0_1, .int .i64 a0_3, .int .i64 a0_0, .int .i64 a0_3] (0, 0) _ rfl (by (with_reducible repeat (first | refine blk_drewN ?_ _ | refine blk_drew ?_ | refine blk_alloc ?_ _)); refine blk_put (cs := #[.int .i64 a0_0, .int .i64 a0_2, .int .i64 a0_1, .int .i64 a0_2, .int .i64 a0_1, .int .i64 a0_3, .int .i64 a0_0, .int .i64 0]) ?_ 7 _ rfl; (with_reducible repeat (first | refine blk_drewN ?_ _ | refine blk_drew ?_ | refine blk_alloc ?_ _)); refine blk_put (cs := #[.int .i64 a0_0, .int .i64 a0_2, .int .i64 a0_1, .int .i64 a0_2, .int .i64 a0_1, .int .i64 a0_3, .int .i64 0, .int .i64 0]) ?_ 6 _ rfl; (with_reducible repeat (first | refine blk_drewN ?_ _ | refine blk_drew ?_ | refine blk_alloc ?_ _)); refine blk_put (cs := #[.int .i64 a0_0, .int .i64 a0_2, .int .i64 a0_1, .int .i64 a0_2, .int .i64 a0_1, .int .i64 0, .int .i64 0, .int .i64 0]) ?_ 5 _ rfl; (with_reducible repeat (first | refine blk_drewN ?_ _ | refine blk_drew ?_ | refine blk_alloc ?_ _)); refine blk_put (cs := #[.int .i64 a0_0, .int .i64 a0_2, .int .i64 a0_1, .int .i64 a0_2, .int .i64 0, .int .i64 0, .int .i64 0, .int .i64 0]) ?_ 4 _ rfl; (with_reducible repeat (first | refine blk_drewN ?_ _ | refine blk_drew ?_ | refine blk_alloc ?_ _)); refine blk_put (cs := #[.int .i64 a0_0, .int .i64 a0_2, .int .i64 a0_1, .int .i64 0, .int .i64 0, .int .i64 0, .int .i64 0, .int .i64 0]) ?_ 3 _ rfl; (with_reducible repeat (first | refine blk_drewN ?_ _ | refine blk_drew ?_ | refine blk_alloc ?_ _)); refine blk_put (cs := #[.int .i64 a0_0, .int .i64 a0_2, .int .i64 0, .int .i64 0, .int .i64 0, .int .i64 0, .int .i64 0, .int .i64 0]) ?_ 2 _ rfl; (with_reducible repeat (first | refine blk_drewN ?_ _ | refine blk_drew ?_ | refine blk_alloc ?_ _)); refine blk_put (cs := #[.int .i64 a0_0, .int .i64 0, .int .i64 0, .int .i64 0, .int .i64 0, .int .i64 0, .int .i64 0, .int .i64 0]) ?_ 1 _ rfl; (with_reducible repeat (first | refine blk_drewN ?_ _ | refine blk_drew ?_ | refine blk_alloc ?_ _)); refine blk_put (cs := #[.int .i64 0, .int .i64 0, .int .i64 0, .int .i64 0, .int .i64 0, .int .i64 0, .int .i64 0, .int .i64 0]) ?_ 0 _ rfl; (with_reducible repeat (first | refine blk_drewN ?_ _ | refine blk_drew ?_ | refine blk_alloc ?_ _)); exact BK591.out) Try.underlying82 rfl (by kernel_rfl)) rfl ?_
  exact ⟨by first | rfl | (simp [errW_none, errW_some] <;> rfl) | (simp [*, errW_none, errW_some] <;> rfl), by repeat (first | (with_reducible first | exact HB.out | apply below_alloc | apply pw_below_drewN | apply below_drew1 | refine below_set ?_ GE590.out | refine below_set ?_ GE591.out) | exact HB.out)⟩
 ·replace c3 := Bool.eq_false_iff.mpr c3
  subst c3
  have H1 : (some (0, 0, 0, 0, 0, 0, 0, 0)) = some (r1, r2, r3, r4, r5, r6, r7, r8) := by rw [if_neg (show ¬ (false = true) by decide)] at H; exact H
  clear H
  have H := H1
  clear H1
  simp only [Option.some.injEq, Prod.mk.injEq] at H
  obtain ⟨rfl, rfl, rfl, rfl, rfl, rfl, rfl, rfl⟩ := H
  go_enter Try.func68, Try.ntmps68
  go_wp2_with (first | ((with_reducible refine gate_dst (N := 1) rfl ?_); refine box_event ?hg (N := 1) ?hd (cs := #[.int .i64 a0_0, .int .i64 a0_1, .int .i64 a0_2, .int .i64 a0_3]) (t := 52) ?hr ?_; (case hd => rfl); (case hg => rfl); (case hr => first | (go_simp; done) | (go_simp; rfl)); intro gb590 hg w11 hbox hb; have BK590 := Aside0.mk (hbox); have GW590 := geBA HB hg; have GE590 := geBA HB hg; replace HB := Aside0.mk (below_step (hk HB) hb); clear hb hbox hg) | ((with_reducible refine gate_dst (N := 2) rfl ?_); refine box_event ?hg (N := 2) ?hd (cs := #[.int .i64 0, .int .i64 0, .int .i64 0, .int .i64 0, .int .i64 0, .int .i64 0, .int .i64 0, .int .i64 0]) (t := 82) ?hr ?_; (case hd => rfl); (case hg => rfl); (case hr => first | (go_simp; done) | (go_simp; rfl)); intro gb591 hg w12 hbox hb; have BK591 := Aside0.mk (hbox); have GW591 := Aside0.mk ((by rw [hg]; exact (below_size (by repeat (first | (with_reducible first | exact HB.out | apply below_alloc | apply pw_below_drewN | apply below_drew1 | refine below_set ?_ GE590.out) | exact HB.out))) : w.heap.size ≤ gb591)); have GE591 := Aside0.mk ((by rw [hg]; exact (below_size (by repeat (first | (with_reducible first | exact HB.out | apply below_alloc | apply pw_below_drewN | apply below_drew1 | refine below_set ?_ GE590.out) | exact HB.out))) : w.heap.size ≤ gb591)); have NB590_591 := neLA BK590 hg; have NB591_590 := neGA BK590 hg; replace BK590 := bkC BK590 hb; replace HB := Aside0.mk (below_step (by repeat (first | (with_reducible first | exact HB.out | apply below_alloc | apply pw_below_drewN | apply below_drew1 | refine below_set ?_ GE590.out) | exact HB.out)) hb); clear hb hbox hg; have hnb13 := NB590_591.out; have hnc13 := NB591_590.out; have hcz14_0 : w12.cell? ⟨gb590, 0, none⟩ = some (.int .i64 a0_0) := (blk_cell BK590.out 0).trans rfl; have hcz14_1 : w12.cell? ⟨gb590, 1, none⟩ = some (.int .i64 a0_1) := (blk_cell BK590.out 1).trans rfl; have hcz14_2 : w12.cell? ⟨gb590, 2, none⟩ = some (.int .i64 a0_2) := (blk_cell BK590.out 2).trans rfl; have hcz14_3 : w12.cell? ⟨gb590, 3, none⟩ = some (.int .i64 a0_3) := (blk_cell BK590.out 3).trans rfl; have hfz14_0 := blk_frozen BK590.out 0; have hfz14_1 := blk_frozen BK590.out 1; have hfz14_2 := blk_frozen BK590.out 2; have hfz14_3 := blk_frozen BK590.out 3) | ((with_reducible refine gate_callee (f := 64) rfl ?_); refine goesL_ (some 4) rfl rfl Try.func64 (by kernel_rfl) rfl #[.agg #[.int .i64 a0_0, .int .i64 a0_1, .int .i64 a0_2, .int .i64 a0_3]] rfl (by (try simp only [List.map_toArray, List.map_cons, List.map_nil]); first | done | rfl | (simp only [List.length_drop, List.length_take]; rfl)) ?_; (with_reducible refine (plane_Proper.calls a0_0 a0_1 a0_2 a0_3 false _ A2.out).mono ?_); rintro e w15 ⟨rfl, hb⟩; refine ⟨_, rfl, ?_⟩; replace BK590 := bkC BK590 hb; replace BK591 := bkC BK591 hb; replace HB := Aside0.mk (below_step (by repeat (first | (with_reducible first | exact HB.out | apply below_alloc | apply pw_below_drewN | apply below_drew1 | refine below_set ?_ GE590.out | refine below_set ?_ GE591.out) | exact HB.out)) hb); (try clear hb); (try clear hb2); (try clear hk); (try clear hi); have hcz16_0 : w15.cell? ⟨gb591, 0, none⟩ = some (.int .i64 0) := (blk_cell BK591.out 0).trans rfl; have hcz16_1 : w15.cell? ⟨gb591, 1, none⟩ = some (.int .i64 0) := (blk_cell BK591.out 1).trans rfl; have hcz16_2 : w15.cell? ⟨gb591, 2, none⟩ = some (.int .i64 0) := (blk_cell BK591.out 2).trans rfl; have hcz16_3 : w15.cell? ⟨gb591, 3, none⟩ = some (.int .i64 0) := (blk_cell BK591.out 3).trans rfl; have hcz16_4 : w15.cell? ⟨gb591, 4, none⟩ = some (.int .i64 0) := (blk_cell BK591.out 4).trans rfl; have hcz16_5 : w15.cell? ⟨gb591, 5, none⟩ = some (.int .i64 0) := (blk_cell BK591.out 5).trans rfl; have hcz16_6 : w15.cell? ⟨gb591, 6, none⟩ = some (.int .i64 0) := (blk_cell BK591.out 6).trans rfl; have hcz16_7 : w15.cell? ⟨gb591, 7, none⟩ = some (.int .i64 0) := (blk_cell BK591.out 7).trans rfl; have hfz16_0 := blk_frozen BK591.out 0; have hfz16_1 := blk_frozen BK591.out 1; have hfz16_2 := blk_frozen BK591.out 2; have hfz16_3 := blk_frozen BK591.out 3; have hfz16_4 := blk_frozen BK591.out 4; have hfz16_5 := blk_frozen BK591.out 5; have hfz16_6 := blk_frozen BK591.out 6; have hfz16_7 := blk_frozen BK591.out 7))
  refine bodyPost_ret (results_cell_row rfl _ _ gb591 82 #[.int .i64 0, .int .i64 0, .int .i64 0, .int .i64 0, .int .i64 0, .int .i64 0, .int .i64 0, .int .i64 0] (0, 0) _ rfl (by (with_reducible repeat (first | refine blk_drewN ?_ _ | refine blk_drew ?_ | refine blk_alloc ?_ _)); refine blk_put (cs := #[.int .i64 0, .int .i64 0, .int .i64 0, .int .i64 0, .int .i64 0, .int .i64 0, .int .i64 0, .int .i64 0]) ?_ 7 _ rfl; (with_reducible repeat (first | refine blk_drewN ?_ _ | refine blk_drew ?_ | refine blk_alloc ?_ _)); refine blk_put (cs := #[.int .i64 0, .int .i64 0, .int .i64 0, .int .i64 0, .int .i64 0, .int .i64 0, .int .i64 0, .int .i64 0]) ?_ 6 _ rfl; (with_reducible repeat (first | refine blk_drewN ?_ _ | refine blk_drew ?_ | refine blk_alloc ?_ _)); refine blk_put (cs := #[.int .i64 0, .int .i64 0, .int .i64 0, .int .i64 0, .int .i64 0, .int .i64 0, .int .i64 0, .int .i64 0]) ?_ 5 _ rfl; (with_reducible repeat (first | refine blk_drewN ?_ _ | refine blk_drew ?_ | refine blk_alloc ?_ _)); refine blk_put (cs := #[.int .i64 0, .int .i64 0, .int .i64 0, .int .i64 0, .int .i64 0, .int .i64 0, .int .i64 0, .int .i64 0]) ?_ 4 _ rfl; (with_reducible repeat (first | refine blk_drewN ?_ _ | refine blk_drew ?_ | refine blk_alloc ?_ _)); refine blk_put (cs := #[.int .i64 0, .int .i64 0, .int .i64 0, .int .i64 0, .int .i64 0, .int .i64 0, .int .i64 0, .int .i64 0]) ?_ 3 _ rfl; (with_reducible repeat (first | refine blk_drewN ?_ _ | refine blk_drew ?_ | refine blk_alloc ?_ _)); refine blk_put (cs := #[.int .i64 0, .int .i64 0, .int .i64 0, .int .i64 0, .int .i64 0, .int .i64 0, .int .i64 0, .int .i64 0]) ?_ 2 _ rfl; (with_reducible repeat (first | refine blk_drewN ?_ _ | refine blk_drew ?_ | refine blk_alloc ?_ _)); refine blk_put (cs := #[.int .i64 0, .int .i64 0, .int .i64 0, .int .i64 0, .int .i64 0, .int .i64 0, .int .i64 0, .int .i64 0]) ?_ 1 _ rfl; (with_reducible repeat (first | refine blk_drewN ?_ _ | refine blk_drew ?_ | refine blk_alloc ?_ _)); refine blk_put (cs := #[.int .i64 0, .int .i64 0, .int .i64 0, .int .i64 0, .int .i64 0, .int .i64 0, .int .i64 0, .int .i64 0]) ?_ 0 _ rfl; (with_reducible repeat (first | refine blk_drewN ?_ _ | refine blk_drew ?_ | refine blk_alloc ?_ _)); exact BK591.out) Try.underlying82 rfl (by kernel_rfl)) rfl ?_
  exact ⟨by first | rfl | (simp [errW_none, errW_some] <;> rfl) | (simp [*, errW_none, errW_some] <;> rfl), by repeat (first | (with_reducible first | exact HB.out | apply below_alloc | apply pw_below_drewN | apply below_drew1 | refine below_set ?_ GE590.out | refine below_set ?_ GE591.out) | exact HB.out)⟩
end Go.Proofs.Ytckaejgamfllfaa.G
end

section
namespace Go.Proofs.Ytckaejgamfllfaa.G
open Go.RowKit Go.Proofs.YtckaejgamfllfaaW.PrintWords Go.Proofs.YtckaejgamfllfaaW.PrintLast Go.Proofs.YtckaejgamfllfaaW.PrintMore
attribute [local go_sem] max2_int min2_int max_two min_two max_three min_three max_four min_four
set_option linter.unusedVariables false
set_option linter.unusedSimpArgs false
def boundstoneref02_Proper.f (a0_0 : Int) (a0_1 : Int) (a0_2 : Int) (a0_3 : Int) : Option (Bool) := (boundstoneref02_Valid.f a0_0 a0_2).bind fun t556 => ((boundstoneref02_Valid.f a0_1 a0_3).bind fun t557 => (if t556 = true then (if t557 = true then (if a0_0 ≤ a0_1 then (some (decide (a0_2 ≤ a0_3))) else (some false)) else (some false)) else (some false)))
set_option maxHeartbeats 8000000 in
set_option maxRecDepth 100000 in
theorem boundstoneref02_Proper.calls (a0_0 : Int) (a0_1 : Int) (a0_2 : Int) (a0_3 : Int) (r : Bool) (w : World) (h : boundstoneref02_Proper.f a0_0 a0_1 a0_2 a0_3 = some r) :
  Calls Try.prog 65 #[.agg #[.int .i64 a0_0, .int .i64 a0_1, .int .i64 a0_2, .int .i64 a0_3]] w fun e w' => e = .returned (.bool r) ∧ Below w.heap.size w w' := by
 have hu52 := Try.underlying52
 have hu23 := Try.underlying23
 have HB := Aside0.mk (Below.refl w.heap.size w)
 have H : ((boundstoneref02_Valid.f a0_0 a0_2).bind fun t556 => ((boundstoneref02_Valid.f a0_1 a0_3).bind fun t557 => (if t556 = true then (if t557 = true then (if a0_0 ≤ a0_1 then (some (decide (a0_2 ≤ a0_3))) else (some false)) else (some false)) else (some false)))) = some r := h
 clear h
 replace H := Option.bind_eq_some_iff.mp H
 obtain ⟨t556, A20, H⟩ := H
 replace H : ((boundstoneref02_Valid.f a0_1 a0_3).bind fun t557 => (if t556 = true then (if t557 = true then (if a0_0 ≤ a0_1 then (some (decide (a0_2 ≤ a0_3))) else (some false)) else (some false)) else (some false))) = some r := H
 have A2 := Aside0.mk A20
 clear A20
 replace H := Option.bind_eq_some_iff.mp H
 obtain ⟨t557, A30, H⟩ := H
 replace H : (if t556 = true then (if t557 = true then (if a0_0 ≤ a0_1 then (some (decide (a0_2 ≤ a0_3))) else (some false)) else (some false)) else (some false)) = some r := H
 have A3 := Aside0.mk A30
 clear A30
 by_cases c4 : t556 = true
 ·subst c4
  have H1 : (if t557 = true then (if a0_0 ≤ a0_1 then (some (decide (a0_2 ≤ a0_3))) else (some false)) else (some false)) = some r := by rw [if_pos rfl] at H; exact H
  clear H
  have H := H1
  clear H1
  by_cases c5 : t557 = true
  ·subst c5
   have H1 : (if a0_0 ≤ a0_1 then (some (decide (a0_2 ≤ a0_3))) else (some false)) = some r := by rw [if_pos rfl] at H; exact H
   clear H
   have H := H1
   clear H1
   by_cases c6 : a0_0 ≤ a0_1
   ·rw [if_pos c6] at H
    have c6b0 : decide (a0_0 ≤ a0_1) = true := decide_eq_true c6
    clear c6
    obtain rfl := Option.some.inj H
    go_enter Try.func65, Try.ntmps65
    go_wp2_with (first | ((with_reducible refine gate_dst (N := 1) rfl ?_); refine box_event ?hg (N := 1) ?hd (cs := #[.int .i64 a0_0, .int .i64 a0_1, .int .i64 a0_2, .int .i64 a0_3]) (t := 52) ?hr ?_; (case hd => rfl); (case hg => rfl); (case hr => first | (go_simp; done) | (go_simp; rfl)); intro gb555 hg w7 hbox hb; have BK555 := Aside0.mk (hbox); have GW555 := geBA HB hg; have GE555 := geBA HB hg; replace HB := Aside0.mk (below_step (hk HB) hb); clear hb hbox hg; have hcz8_0 : w7.cell? ⟨gb555, 0, none⟩ = some (.int .i64 a0_0) := (blk_cell BK555.out 0).trans rfl; have hcz8_1 : w7.cell? ⟨gb555, 1, none⟩ = some (.int .i64 a0_1) := (blk_cell BK555.out 1).trans rfl; have hcz8_2 : w7.cell? ⟨gb555, 2, none⟩ = some (.int .i64 a0_2) := (blk_cell BK555.out 2).trans rfl; have hcz8_3 : w7.cell? ⟨gb555, 3, none⟩ = some (.int .i64 a0_3) := (blk_cell BK555.out 3).trans rfl; have hfz8_0 := blk_frozen BK555.out 0; have hfz8_1 := blk_frozen BK555.out 1; have hfz8_2 := blk_frozen BK555.out 2; have hfz8_3 := blk_frozen BK555.out 3) | ((with_reducible refine gate_callee (f := 18) rfl ?_); refine goesL_ (some 12) rfl rfl Try.func18 (by kernel_rfl) rfl #[.agg #[.int .i64 a0_0, .int .i64 a0_2]] rfl (by (try simp only [List.map_toArray, List.map_cons, List.map_nil]); first | done | rfl | (simp only [List.length_drop, List.length_take]; rfl)) ?_; (with_reducible refine (boundstoneref02_Valid.calls a0_0 a0_2 true _ A2.out).mono ?_); rintro e w9 ⟨rfl, hb⟩; refine ⟨_, rfl, ?_⟩; replace BK555 := bkC BK555 hb; replace HB := Aside0.mk (below_step (by repeat (first | (with_reducible first | exact HB.out | apply below_alloc | apply pw_below_drewN | apply below_drew1 | refine below_set ?_ GE555.out) | exact HB.out)) hb); (try clear hb); (try clear hb2); (try clear hk); (try clear hi); have hcz10_0 : w9.cell? ⟨gb555, 0, none⟩ = some (.int .i64 a0_0) := (blk_cell BK555.out 0).trans rfl; have hcz10_1 : w9.cell? ⟨gb555, 1, none⟩ = some (.int .i64 a0_1) := (blk_cell BK555.out 1).trans rfl; have hcz10_2 : w9.cell? ⟨gb555, 2, none⟩ = some (.int .i64 a0_2) := (blk_cell BK555.out 2).trans rfl; have hcz10_3 : w9.cell? ⟨gb555, 3, none⟩ = some (.int .i64 a0_3) := (blk_cell BK555.out 3).trans rfl; have hfz10_0 := blk_frozen BK555.out 0; have hfz10_1 := blk_frozen BK555.out 1; have hfz10_2 := blk_frozen BK555.out 2; have hfz10_3 := blk_frozen BK555.out 3) | ((with_reducible refine gate_callee (f := 18) rfl ?_); refine goesL_ (some 20) rfl rfl Try.func18 (by kernel_rfl) rfl #[.agg #[.int .i64 a0_1, .int .i64 a0_3]] rfl (by (try simp only [List.map_toArray, List.map_cons, List.map_nil]); first | done | rfl | (simp only [List.length_drop, List.length_take]; rfl)) ?_; (with_reducible refine (boundstoneref02_Valid.calls a0_1 a0_3 true _ A3.out).mono ?_); rintro e w11 ⟨rfl, hb⟩; refine ⟨_, rfl, ?_⟩; replace BK555 := bkC BK555 hb; replace HB := Aside0.mk (below_step (by repeat (first | (with_reducible first | exact HB.out | apply below_alloc | apply pw_below_drewN | apply below_drew1 | refine below_set ?_ GE555.out) | exact HB.out)) hb); (try clear hb); (try clear hb2); (try clear hk); (try clear hi); have hcz12_0 : w11.cell? ⟨gb555, 0, none⟩ = some (.int .i64 a0_0) := (blk_cell BK555.out 0).trans rfl; have hcz12_1 : w11.cell? ⟨gb555, 1, none⟩ = some (.int .i64 a0_1) := (blk_cell BK555.out 1).trans rfl; have hcz12_2 : w11.cell? ⟨gb555, 2, none⟩ = some (.int .i64 a0_2) := (blk_cell BK555.out 2).trans rfl; have hcz12_3 : w11.cell? ⟨gb555, 3, none⟩ = some (.int .i64 a0_3) := (blk_cell BK555.out 3).trans rfl; have hfz12_0 := blk_frozen BK555.out 0; have hfz12_1 := blk_frozen BK555.out 1; have hfz12_2 := blk_frozen BK555.out 2; have hfz12_3 := blk_frozen BK555.out 3))
    go_ret
    exact ⟨by first | rfl | (simp [errW_none, errW_some] <;> rfl) | (simp [*, errW_none, errW_some] <;> rfl), by repeat (first | (with_reducible first | exact HB.out | apply below_alloc | apply pw_below_drewN | apply below_drew1 | refine below_set ?_ GE555.out) | exact HB.out)⟩
   ·rw [if_neg c6] at H
    have c6b0 : decide (a0_0 ≤ a0_1) = false := decide_eq_false c6
    clear c6
    obtain rfl := Option.some.inj H
    go_enter Try.func65, Try.ntmps65
    go_wp2_with (first | ((with_reducible refine gate_dst (N := 1) rfl ?_); refine box_event ?hg (N := 1) ?hd (cs := #[.int .i64 a0_0, .int .i64 a0_1, .int .i64 a0_2, .int .i64 a0_3]) (t := 52) ?hr ?_; (case hd => rfl); (case hg => rfl); (case hr => first | (go_simp; done) | (go_simp; rfl)); intro gb555 hg w13 hbox hb; have BK555 := Aside0.mk (hbox); have GW555 := geBA HB hg; have GE555 := geBA HB hg; replace HB := Aside0.mk (below_step (hk HB) hb); clear hb hbox hg; have hcz14_0 : w13.cell? ⟨gb555, 0, none⟩ = some (.int .i64 a0_0) := (blk_cell BK555.out 0).trans rfl; have hcz14_1 : w13.cell? ⟨gb555, 1, none⟩ = some (.int .i64 a0_1) := (blk_cell BK555.out 1).trans rfl; have hcz14_2 : w13.cell? ⟨gb555, 2, none⟩ = some (.int .i64 a0_2) := (blk_cell BK555.out 2).trans rfl; have hcz14_3 : w13.cell? ⟨gb555, 3, none⟩ = some (.int .i64 a0_3) := (blk_cell BK555.out 3).trans rfl; have hfz14_0 := blk_frozen BK555.out 0; have hfz14_1 := blk_frozen BK555.out 1; have hfz14_2 := blk_frozen BK555.out 2; have hfz14_3 := blk_frozen BK555.out 3) | ((with_reducible refine gate_callee (f := 18) rfl ?_); refine goesL_ (some 12) rfl rfl Try.func18 (by kernel_rfl) rfl #[.agg #[.int .i64 a0_0, .int .i64 a0_2]] rfl (by (try simp only [List.map_toArray, List.map_cons, List.map_nil]); first | done | rfl | (simp only [List.length_drop, List.length_take]; rfl)) ?_; (with_reducible refine (boundstoneref02_Valid.calls a0_0 a0_2 true _ A2.out).mono ?_); rintro e w15 ⟨rfl, hb⟩; refine ⟨_, rfl, ?_⟩; replace BK555 := bkC BK555 hb; replace HB := Aside0.mk (below_step (by repeat (first | (with_reducible first | exact HB.out | apply below_alloc | apply pw_below_drewN | apply below_drew1 | refine below_set ?_ GE555.out) | exact HB.out)) hb); (try clear hb); (try clear hb2); (try clear hk); (try clear hi); have hcz16_0 : w15.cell? ⟨gb555, 0, none⟩ = some (.int .i64 a0_0) := (blk_cell BK555.out 0).trans rfl; have hcz16_1 : w15.cell? ⟨gb555, 1, none⟩ = some (.int .i64 a0_1) := (blk_cell BK555.out 1).trans rfl; have hcz16_2 : w15.cell? ⟨gb555, 2, none⟩ = some (.int .i64 a0_2) := (blk_cell BK555.out 2).trans rfl; have hcz16_3 : w15.cell? ⟨gb555, 3, none⟩ = some (.int .i64 a0_3) := (blk_cell BK555.out 3).trans rfl; have hfz16_0 := blk_frozen BK555.out 0; have hfz16_1 := blk_frozen BK555.out 1; have hfz16_2 := blk_frozen BK555.out 2; have hfz16_3 := blk_frozen BK555.out 3) | ((with_reducible refine gate_callee (f := 18) rfl ?_); refine goesL_ (some 20) rfl rfl Try.func18 (by kernel_rfl) rfl #[.agg #[.int .i64 a0_1, .int .i64 a0_3]] rfl (by (try simp only [List.map_toArray, List.map_cons, List.map_nil]); first | done | rfl | (simp only [List.length_drop, List.length_take]; rfl)) ?_; (with_reducible refine (boundstoneref02_Valid.calls a0_1 a0_3 true _ A3.out).mono ?_); rintro e w17 ⟨rfl, hb⟩; refine ⟨_, rfl, ?_⟩; replace BK555 := bkC BK555 hb; replace HB := Aside0.mk (below_step (by repeat (first | (with_reducible first | exact HB.out | apply below_alloc | apply pw_below_drewN | apply below_drew1 | refine below_set ?_ GE555.out) | exact HB.out)) hb); (try clear hb); (try clear hb2); (try clear hk); (try clear hi); have hcz18_0 : w17.cell? ⟨gb555, 0, none⟩ = some (.int .i64 a0_0) := (blk_cell BK555.out 0).trans rfl; have hcz18_1 : w17.cell? ⟨gb555, 1, none⟩ = some (.int .i64 a0_1) := (blk_cell BK555.out 1).trans rfl; have hcz18_2 : w17.cell? ⟨gb555, 2, none⟩ = some (.int .i64 a0_2) := (blk_cell BK555.out 2).trans rfl; have hcz18_3 : w17.cell? ⟨gb555, 3, none⟩ = some (.int .i64 a0_3) := (blk_cell BK555.out 3).trans rfl; have hfz18_0 := blk_frozen BK555.out 0; have hfz18_1 := blk_frozen BK555.out 1; have hfz18_2 := blk_frozen BK555.out 2; have hfz18_3 := blk_frozen BK555.out 3))
    go_ret
    exact ⟨by first | rfl | (simp [errW_none, errW_some] <;> rfl) | (simp [*, errW_none, errW_some] <;> rfl), by repeat (first | (with_reducible first | exact HB.out | apply below_alloc | apply pw_below_drewN | apply below_drew1 | refine below_set ?_ GE555.out) | exact HB.out)⟩
  ·replace c5 := Bool.eq_false_iff.mpr c5
   subst c5
   have H1 : (some false) = some r := by rw [if_neg (show ¬ (false = true) by decide)] at H; exact H
   clear H
   have H := H1
   clear H1
   obtain rfl := Option.some.inj H
   go_enter Try.func65, Try.ntmps65
   go_wp2_with (first | ((with_reducible refine gate_dst (N := 1) rfl ?_); refine box_event ?hg (N := 1) ?hd (cs := #[.int .i64 a0_0, .int .i64 a0_1, .int .i64 a0_2, .int .i64 a0_3]) (t := 52) ?hr ?_; (case hd => rfl); (case hg => rfl); (case hr => first | (go_simp; done) | (go_simp; rfl)); intro gb555 hg w19 hbox hb; have BK555 := Aside0.mk (hbox); have GW555 := geBA HB hg; have GE555 := geBA HB hg; replace HB := Aside0.mk (below_step (hk HB) hb); clear hb hbox hg; have hcz20_0 : w19.cell? ⟨gb555, 0, none⟩ = some (.int .i64 a0_0) := (blk_cell BK555.out 0).trans rfl; have hcz20_1 : w19.cell? ⟨gb555, 1, none⟩ = some (.int .i64 a0_1) := (blk_cell BK555.out 1).trans rfl; have hcz20_2 : w19.cell? ⟨gb555, 2, none⟩ = some (.int .i64 a0_2) := (blk_cell BK555.out 2).trans rfl; have hcz20_3 : w19.cell? ⟨gb555, 3, none⟩ = some (.int .i64 a0_3) := (blk_cell BK555.out 3).trans rfl; have hfz20_0 := blk_frozen BK555.out 0; have hfz20_1 := blk_frozen BK555.out 1; have hfz20_2 := blk_frozen BK555.out 2; have hfz20_3 := blk_frozen BK555.out 3) | ((with_reducible refine gate_callee (f := 18) rfl ?_); refine goesL_ (some 12) rfl rfl Try.func18 (by kernel_rfl) rfl #[.agg #[.int .i64 a0_0, .int .i64 a0_2]] rfl (by (try simp only [List.map_toArray, List.map_cons, List.map_nil]); first | done | rfl | (simp only [List.length_drop, List.length_take]; rfl)) ?_; (with_reducible refine (boundstoneref02_Valid.calls a0_0 a0_2 true _ A2.out).mono ?_); rintro e w21 ⟨rfl, hb⟩; refine ⟨_, rfl, ?_⟩; replace BK555 := bkC BK555 hb; replace HB := Aside0.mk (below_step (by repeat (first | (with_reducible first | exact HB.out | apply below_alloc | apply pw_below_drewN | apply below_drew1 | refine below_set ?_ GE555.out) | exact HB.out)) hb); (try clear hb); (try clear hb2); (try clear hk); (try clear hi); have hcz22_0 : w21.cell? ⟨gb555, 0, none⟩ = some (.int .i64 a0_0) := (blk_cell BK555.out 0).trans rfl; have hcz22_1 : w21.cell? ⟨gb555, 1, none⟩ = some (.int .i64 a0_1) := (blk_cell BK555.out 1).trans rfl; have hcz22_2 : w21.cell? ⟨gb555, 2, none⟩ = some (.int .i64 a0_2) := (blk_cell BK555.out 2).trans rfl; have hcz22_3 : w21.cell? ⟨gb555, 3, none⟩ = some (.int .i64 a0_3) := (blk_cell BK555.out 3).trans rfl; have hfz22_0 := blk_frozen BK555.out 0; have hfz22_1 := blk_frozen BK555.out 1; have hfz22_2 := blk_frozen BK555.out 2; have hfz22_3 := blk_frozen BK555.out 3) | ((with_reducible refine gate_callee (f := 18) rfl ?_); refine goesL_ (some 20) rfl rfl Try.func18 (by kernel_rfl) rfl #[.agg #[.int .i64 a0_1, .int .i64 a0_3]] rfl (by (try simp only [List.map_toArray, List.map_cons, List.map_nil]); first | done | rfl | (simp only [List.length_drop, List.length_take]; rfl)) ?_; (with_reducible refine (boundstoneref02_Valid.calls a0_1 a0_3 false _ A3.out).mono ?_); rintro e w23 ⟨rfl, hb⟩; refine ⟨_, rfl, ?_⟩; replace BK555 := bkC BK555 hb; replace HB := Aside0.mk (below_step (by repeat (first | (with_reducible first | exact HB.out | apply below_alloc | apply pw_below_drewN | apply below_drew1 | refine below_set ?_ GE555.out) | exact HB.out)) hb); (try clear hb); (try clear hb2); (try clear hk); (try clear hi)))
   go_ret
   exact ⟨by first | rfl | (simp [errW_none, errW_some] <;> rfl) | (simp [*, errW_none, errW_some] <;> rfl), by repeat (first | (with_reducible first | exact HB.out | apply below_alloc | apply pw_below_drewN | apply below_drew1 | refine below_set ?_ GE555.out) | exact HB.out)⟩
 ·replace c4 := Bool.eq_false_iff.mpr c4
  subst c4
  have H1 : (some false) = some r := by rw [if_neg (show ¬ (false = true) by decide)] at H; exact H
  clear H
  have H := H1
  clear H1
  obtain rfl := Option.some.inj H
  go_enter Try.func65, Try.ntmps65
  go_wp2_with (first | ((with_reducible refine gate_dst (N := 1) rfl ?_); refine box_event ?hg (N := 1) ?hd (cs := #[.int .i64 a0_0, .int .i64 a0_1, .int .i64 a0_2, .int .i64 a0_3]) (t := 52) ?hr ?_; (case hd => rfl); (case hg => rfl); (case hr => first | (go_simp; done) | (go_simp; rfl)); intro gb555 hg w24 hbox hb; have BK555 := Aside0.mk (hbox); have GW555 := geBA HB hg; have GE555 := geBA HB hg; replace HB := Aside0.mk (below_step (hk HB) hb); clear hb hbox hg; have hcz25_0 : w24.cell? ⟨gb555, 0, none⟩ = some (.int .i64 a0_0) := (blk_cell BK555.out 0).trans rfl; have hcz25_1 : w24.cell? ⟨gb555, 1, none⟩ = some (.int .i64 a0_1) := (blk_cell BK555.out 1).trans rfl; have hcz25_2 : w24.cell? ⟨gb555, 2, none⟩ = some (.int .i64 a0_2) := (blk_cell BK555.out 2).trans rfl; have hcz25_3 : w24.cell? ⟨gb555, 3, none⟩ = some (.int .i64 a0_3) := (blk_cell BK555.out 3).trans rfl; have hfz25_0 := blk_frozen BK555.out 0; have hfz25_1 := blk_frozen BK555.out 1; have hfz25_2 := blk_frozen BK555.out 2; have hfz25_3 := blk_frozen BK555.out 3) | ((with_reducible refine gate_callee (f := 18) rfl ?_); refine goesL_ (some 12) rfl rfl Try.func18 (by kernel_rfl) rfl #[.agg #[.int .i64 a0_0, .int .i64 a0_2]] rfl (by (try simp only [List.map_toArray, List.map_cons, List.map_nil]); first | done | rfl | (simp only [List.length_drop, List.length_take]; rfl)) ?_; (with_reducible refine (boundstoneref02_Valid.calls a0_0 a0_2 false _ A2.out).mono ?_); rintro e w26 ⟨rfl, hb⟩; refine ⟨_, rfl, ?_⟩; replace BK555 := bkC BK555 hb; replace HB := Aside0.mk (below_step (by repeat (first | (with_reducible first | exact HB.out | apply below_alloc | apply pw_below_drewN | apply below_drew1 | refine below_set ?_ GE555.out) | exact HB.out)) hb); (try clear hb); (try clear hb2); (try clear hk); (try clear hi); have hcz27_0 : w26.cell? ⟨gb555, 0, none⟩ = some (.int .i64 a0_0) := (blk_cell BK555.out 0).trans rfl; have hcz27_1 : w26.cell? ⟨gb555, 1, none⟩ = some (.int .i64 a0_1) := (blk_cell BK555.out 1).trans rfl; have hcz27_2 : w26.cell? ⟨gb555, 2, none⟩ = some (.int .i64 a0_2) := (blk_cell BK555.out 2).trans rfl; have hcz27_3 : w26.cell? ⟨gb555, 3, none⟩ = some (.int .i64 a0_3) := (blk_cell BK555.out 3).trans rfl; have hfz27_0 := blk_frozen BK555.out 0; have hfz27_1 := blk_frozen BK555.out 1; have hfz27_2 := blk_frozen BK555.out 2; have hfz27_3 := blk_frozen BK555.out 3) | ((with_reducible refine gate_callee (f := 18) rfl ?_); refine goesL_ (some 20) rfl rfl Try.func18 (by kernel_rfl) rfl #[.agg #[.int .i64 a0_1, .int .i64 a0_3]] rfl (by (try simp only [List.map_toArray, List.map_cons, List.map_nil]); first | done | rfl | (simp only [List.length_drop, List.length_take]; rfl)) ?_; (with_reducible refine (boundstoneref02_Valid.calls a0_1 a0_3 t557 _ A3.out).mono ?_); rintro e w28 ⟨rfl, hb⟩; refine ⟨_, rfl, ?_⟩; replace BK555 := bkC BK555 hb; replace HB := Aside0.mk (below_step (by repeat (first | (with_reducible first | exact HB.out | apply below_alloc | apply pw_below_drewN | apply below_drew1 | refine below_set ?_ GE555.out) | exact HB.out)) hb); (try clear hb); (try clear hb2); (try clear hk); (try clear hi)))
  go_ret
  exact ⟨by first | rfl | (simp [errW_none, errW_some] <;> rfl) | (simp [*, errW_none, errW_some] <;> rfl), by repeat (first | (with_reducible first | exact HB.out | apply below_alloc | apply pw_below_drewN | apply below_drew1 | refine below_set ?_ GE555.out) | exact HB.out)⟩
end Go.Proofs.Ytckaejgamfllfaa.G
end

section
namespace Go.Proofs.Ytckaejgamfllfaa.G
open Go.RowKit Go.Proofs.YtckaejgamfllfaaW.PrintWords Go.Proofs.YtckaejgamfllfaaW.PrintLast Go.Proofs.YtckaejgamfllfaaW.PrintMore
attribute [local go_sem] max2_int min2_int max_two min_two max_three min_three max_four min_four
set_option linter.unusedVariables false
set_option linter.unusedSimpArgs false
def boundstoneref02_Corners.f (a0_0 : Int) (a0_1 : Int) (a0_2 : Int) (a0_3 : Int) : Option (Int × Int × Int × Int × Int × Int × Int × Int) := (boundstoneref02_Proper.f a0_0 a0_1 a0_2 a0_3).bind fun t818 => (if t818 = true then (some (a0_0, a0_2, a0_1, a0_2, a0_1, a0_3, a0_0, a0_3)) else (some (0, 0, 0, 0, 0, 0, 0, 0)))
set_option maxHeartbeats 8000000 in
set_option maxRecDepth 100000 in
theorem boundstoneref02_Corners.calls (a0_0 : Int) (a0_1 : Int) (a0_2 : Int) (a0_3 : Int) (r1 : Int) (r2 : Int) (r3 : Int) (r4 : Int) (r5 : Int) (r6 : Int) (r7 : Int) (r8 : Int) (w : World) (h : boundstoneref02_Corners.f a0_0 a0_1 a0_2 a0_3 = some (r1, r2, r3, r4, r5, r6, r7, r8)) :
  Calls Try.prog 69 #[.agg #[.int .i64 a0_0, .int .i64 a0_1, .int .i64 a0_2, .int .i64 a0_3]] w fun e w' => e = .returned (.agg #[.int .i64 r1, .int .i64 r2, .int .i64 r3, .int .i64 r4, .int .i64 r5, .int .i64 r6, .int .i64 r7, .int .i64 r8]) ∧ Below w.heap.size w w' := by
 have hu52 := Try.underlying52
 have hu82 := Try.underlying82
 have hu23 := Try.underlying23
 have HB := Aside0.mk (Below.refl w.heap.size w)
 have H : ((boundstoneref02_Proper.f a0_0 a0_1 a0_2 a0_3).bind fun t818 => (if t818 = true then (some (a0_0, a0_2, a0_1, a0_2, a0_1, a0_3, a0_0, a0_3)) else (some (0, 0, 0, 0, 0, 0, 0, 0)))) = some (r1, r2, r3, r4, r5, r6, r7, r8) := h
 clear h
 replace H := Option.bind_eq_some_iff.mp H
 obtain ⟨t818, A20, H⟩ := H
 replace H : (if t818 = true then (some (a0_0, a0_2, a0_1, a0_2, a0_1, a0_3, a0_0, a0_3)) else (some (0, 0, 0, 0, 0, 0, 0, 0))) = some (r1, r2, r3, r4, r5, r6, r7, r8) := H
 have A2 := Aside0.mk A20
 clear A20
 by_cases c3 : t818 = true
 ·subst c3
  have H1 : (some (a0_0, a0_2, a0_1, a0_2, a0_1, a0_3, a0_0, a0_3)) = some (r1, r2, r3, r4, r5, r6, r7, r8) := by rw [if_pos rfl] at H; exact H
  clear H
  have H := H1
  clear H1
  simp only [Option.some.injEq, Prod.mk.injEq] at H
  obtain ⟨rfl, rfl, rfl, rfl, rfl, rfl, rfl, rfl⟩ := H
  go_enter Try.func69, Try.ntmps69
  go_wp2_with (first | ((with_reducible refine gate_dst (N := 1) rfl ?_); refine box_event ?hg (N := 1) ?hd (cs := #[.int .i64 a0_0, .int .i64 a0_1, .int .i64 a0_2, .int .i64 a0_3]) (t := 52) ?hr ?_; (case hd => rfl); (case hg => rfl); (case hr => first | (go_simp; done) | (go_simp; rfl)); intro gb816 hg w4 hbox hb; have BK816 := Aside0.mk (hbox); have GW816 := geBA HB hg; have GE816 := geBA HB hg; replace HB := Aside0.mk (below_step (hk HB) hb); clear hb hbox hg) | ((with_reducible refine gate_dst (N := 2) rfl ?_); refine box_event ?hg (N := 2) ?hd (cs := #[.int .i64 0, .int .i64 0, .int .i64 0, .int .i64 0, .int .i64 0, .int .i64 0, .int .i64 0, .int .i64 0]) (t := 82) ?hr ?_; (case hd => rfl); (case hg => rfl); (case hr => first | (go_simp; done) | (go_simp; rfl)); intro gb817 hg w5 hbox hb; have BK817 := Aside0.mk (hbox); have GW817 := Aside0.mk ((by rw [hg]; exact (below_size (by repeat (first | (with_reducible first | exact HB.out | apply below_alloc | apply pw_below_drewN | apply below_drew1 | refine below_set ?_ GE816.out) | exact HB.out))) : w.heap.size ≤ gb817)); have GE817 := Aside0.mk ((by rw [hg]; exact (below_size (by repeat (first | (with_reducible first | exact HB.out | apply below_alloc | apply pw_below_drewN | apply below_drew1 | refine below_set ?_ GE816.out) | exact HB.out))) : w.heap.size ≤ gb817)); have NB816_817 := neLA BK816 hg; have NB817_816 := neGA BK816 hg; replace BK816 := bkC BK816 hb; replace HB := Aside0.mk (below_step (by repeat (first | (with_reducible first | exact HB.out | apply below_alloc | apply pw_below_drewN | apply below_drew1 | refine below_set ?_ GE816.out) | exact HB.out)) hb); clear hb hbox hg; have hnb6 := NB816_817.out; have hnc6 := NB817_816.out; have hcz7_0 : w5.cell? ⟨gb816, 0, none⟩ = some (.int .i64 a0_0) := (blk_cell BK816.out 0).trans rfl; have hcz7_1 : w5.cell? ⟨gb816, 1, none⟩ = some (.int .i64 a0_1) := (blk_cell BK816.out 1).trans rfl; have hcz7_2 : w5.cell? ⟨gb816, 2, none⟩ = some (.int .i64 a0_2) := (blk_cell BK816.out 2).trans rfl; have hcz7_3 : w5.cell? ⟨gb816, 3, none⟩ = some (.int .i64 a0_3) := (blk_cell BK816.out 3).trans rfl; have hfz7_0 := blk_frozen BK816.out 0; have hfz7_1 := blk_frozen BK816.out 1; have hfz7_2 := blk_frozen BK816.out 2; have hfz7_3 := blk_frozen BK816.out 3) | ((with_reducible refine gate_callee (f := 65) rfl ?_); refine goesL_ (some 5) rfl rfl Try.func65 (by kernel_rfl) rfl #[.agg #[.int .i64 a0_0, .int .i64 a0_1, .int .i64 a0_2, .int .i64 a0_3]] rfl (by (try simp only [List.map_toArray, List.map_cons, List.map_nil]); first | done | rfl | (simp only [List.length_drop, List.length_take]; rfl)) ?_; (with_reducible refine (boundstoneref02_Proper.calls a0_0 a0_1 a0_2 a0_3 true _ A2.out).mono ?_); rintro e w8 ⟨rfl, hb⟩; refine ⟨_, rfl, ?_⟩; replace BK816 := bkC BK816 hb; replace BK817 := bkC BK817 hb; replace HB := Aside0.mk (below_step (by repeat (first | (with_reducible first | exact HB.out | apply below_alloc | apply pw_below_drewN | apply below_drew1 | refine below_set ?_ GE816.out | refine below_set ?_ GE817.out) | exact HB.out)) hb); (try clear hb); (try clear hb2); (try clear hk); (try clear hi); have hcz9_0 : w8.cell? ⟨gb816, 0, none⟩ = some (.int .i64 a0_0) := (blk_cell BK816.out 0).trans rfl; have hcz9_1 : w8.cell? ⟨gb816, 1, none⟩ = some (.int .i64 a0_1) := (blk_cell BK816.out 1).trans rfl; have hcz9_2 : w8.cell? ⟨gb816, 2, none⟩ = some (.int .i64 a0_2) := (blk_cell BK816.out 2).trans rfl; have hcz9_3 : w8.cell? ⟨gb816, 3, none⟩ = some (.int .i64 a0_3) := (blk_cell BK816.out 3).trans rfl; have hfz9_0 := blk_frozen BK816.out 0; have hfz9_1 := blk_frozen BK816.out 1; have hfz9_2 := blk_frozen BK816.out 2; have hfz9_3 := blk_frozen BK816.out 3; have hcz10_0 : w8.cell? ⟨gb817, 0, none⟩ = some (.int .i64 0) := (blk_cell BK817.out 0).trans rfl; have hcz10_1 : w8.cell? ⟨gb817, 1, none⟩ = some (.int .i64 0) := (blk_cell BK817.out 1).trans rfl; have hcz10_2 : w8.cell? ⟨gb817, 2, none⟩ = some (.int .i64 0) := (blk_cell BK817.out 2).trans rfl; have hcz10_3 : w8.cell? ⟨gb817, 3, none⟩ = some (.int .i64 0) := (blk_cell BK817.out 3).trans rfl; have hcz10_4 : w8.cell? ⟨gb817, 4, none⟩ = some (.int .i64 0) := (blk_cell BK817.out 4).trans rfl; have hcz10_5 : w8.cell? ⟨gb817, 5, none⟩ = some (.int .i64 0) := (blk_cell BK817.out 5).trans rfl; have hcz10_6 : w8.cell? ⟨gb817, 6, none⟩ = some (.int .i64 0) := (blk_cell BK817.out 6).trans rfl; have hcz10_7 : w8.cell? ⟨gb817, 7, none⟩ = some (.int .i64 0) := (blk_cell BK817.out 7).trans rfl; have hfz10_0 := blk_frozen BK817.out 0; have hfz10_1 := blk_frozen BK817.out 1; have hfz10_2 := blk_frozen BK817.out 2; have hfz10_3 := blk_frozen BK817.out 3; have hfz10_4 := blk_frozen BK817.out 4; have hfz10_5 := blk_frozen BK817.out 5; have hfz10_6 := blk_frozen BK817.out 6; have hfz10_7 := blk_frozen BK817.out 7))
  refine bodyPost_ret (results_cell_row rfl _ _ gb817 82 #[.int .i64 a0_0, .int .i64 a0_2, .int .i64 a0_1, .int .i64 a0_2, .int .i64 a0_1, .int .i64 a0_3, .int .i64 a0_0, .int .i64 a0_3] (0, 0) _ rfl (by (with_reducible repeat (first | refine blk_drewN ?_ _ | refine blk_drew ?_ | refine blk_alloc ?_ _)); refine blk_put (cs := #[.int .i64 a0_0, .int .i64 a0_2, .int .i64 a0_1, .int .i64 a0_2, .int .i64 a0_1, .int .i64 a0_3, .int .i64 a0_0, .int .i64 0]) ?_ 7 _ rfl; (with_reducible repeat (first | refine blk_drewN ?_ _ | refine blk_drew ?_ | refine blk_alloc ?_ _)); refine blk_put (cs := #[.int .i64 a0_0, .int .i64 a0_2, .int .i64 a0_1, .int .i64 a0_2, .int .i64 a0_1, .int .i64 a0_3, .int .i64 0, .int .i64 0]) ?_ 6 _ rfl; (with_reducible repeat (first | refine blk_drewN ?_ _ | refine blk_drew ?_ | refine blk_alloc ?_ _)); refine blk_put (cs := #[.int .i64 a0_0, .int .i64 a0_2, .int .i64 a0_1, .int .i64 a0_2, .int .i64 a0_1, .int .i64 0, .int .i64 0, .int .i64 0]) ?_ 5 _ rfl; (with_reducible repeat (first | refine blk_drewN ?_ _ | refine blk_drew ?_ | refine blk_alloc ?_ _)); refine blk_put (cs := #[.int .i64 a0_0, .int .i64 a0_2, .int .i64 a0_1, .int .i64 a0_2, .int .i64 0, .int .i64 0, .int .i64 0, .int .i64 0]) ?_ 4 _ rfl; (with_reducible repeat (first | refine blk_drewN ?_ _ | refine blk_drew ?_ | refine blk_alloc ?_ _)); refine blk_put (cs := #[.int .i64 a0_0, .int .i64 a0_2, .int .i64 a0_1, .int .i64 0, .int .i64 0, .int .i64 0, .int .i64 0, .int .i64 0]) ?_ 3 _ rfl; (with_reducible repeat (first | refine blk_drewN ?_ _ | refine blk_drew ?_ | refine blk_alloc ?_ _)); refine blk_put (cs := #[.int .i64 a0_0, .int .i64 a0_2, .int .i64 0, .int .i64 0, .int .i64 0, .int .i64 0, .int .i64 0, .int .i64 0]) ?_ 2 _ rfl; (with_reducible repeat (first | refine blk_drewN ?_ _ | refine blk_drew ?_ | refine blk_alloc ?_ _)); refine blk_put (cs := #[.int .i64 a0_0, .int .i64 0, .int .i64 0, .int .i64 0, .int .i64 0, .int .i64 0, .int .i64 0, .int .i64 0]) ?_ 1 _ rfl; (with_reducible repeat (first | refine blk_drewN ?_ _ | refine blk_drew ?_ | refine blk_alloc ?_ _)); refine blk_put (cs := #[.int .i64 0, .int .i64 0, .int .i64 0, .int .i64 0, .int .i64 0, .int .i64 0, .int .i64 0, .int .i64 0]) ?_ 0 _ rfl; (with_reducible repeat (first | refine blk_drewN ?_ _ | refine blk_drew ?_ | refine blk_alloc ?_ _)); exact BK817.out) Try.underlying82 rfl (by kernel_rfl)) rfl ?_
  exact ⟨by first | rfl | (simp [errW_none, errW_some] <;> rfl) | (simp [*, errW_none, errW_some] <;> rfl), by repeat (first | (with_reducible first | exact HB.out | apply below_alloc | apply pw_below_drewN | apply below_drew1 | refine below_set ?_ GE816.out | refine below_set ?_ GE817.out) | exact HB.out)⟩
 ·replace c3 := Bool.eq_false_iff.mpr c3
  subst c3
  have H1 : (some (0, 0, 0, 0, 0, 0, 0, 0)) = some (r1, r2, r3, r4, r5, r6, r7, r8) := by rw [if_neg (show ¬ (false = true) by decide)] at H; exact H
  clear H
  have H := H1
  clear H1
  simp only [Option.some.injEq, Prod.mk.injEq] at H
  obtain ⟨rfl, rfl, rfl, rfl, rfl, rfl, rfl, rfl⟩ := H
  go_enter Try.func69, Try.ntmps69
  go_wp2_with (first | ((with_reducible refine gate_dst (N := 1) rfl ?_); refine box_event ?hg (N := 1) ?hd (cs := #[.int .i64 a0_0, .int .i64 a0_1, .int .i64 a0_2, .int .i64 a0_3]) (t := 52) ?hr ?_; (case hd => rfl); (case hg => rfl); (case hr => first | (go_simp; done) | (go_simp; rfl)); intro gb816 hg w11 hbox hb; have BK816 := Aside0.mk (hbox); have GW816 := geBA HB hg; have GE816 := geBA HB hg; replace HB := Aside0.mk (below_step (hk HB) hb); clear hb hbox hg) | ((with_reducible refine gate_dst (N := 2) rfl ?_); refine box_event ?hg (N := 2) ?hd (cs := #[.int .i64 0, .int .i64 0, .int .i64 0, .int .i64 0, .int .i64 0, .int .i64 0, .int .i64 0, .int .i64 0]) (t := 82) ?hr ?_; (case hd => rfl); (case hg => rfl); (case hr => first | (go_simp; done) | (go_simp; rfl)); intro gb817 hg w12 hbox hb; have BK817 := Aside0.mk (hbox); have GW817 := Aside0.mk ((by rw [hg]; exact (below_size (by repeat (first | (with_reducible first | exact HB.out | apply below_alloc | apply pw_below_drewN | apply below_drew1 | refine below_set ?_ GE816.out) | exact HB.out))) : w.heap.size ≤ gb817)); have GE817 := Aside0.mk ((by rw [hg]; exact (below_size (by repeat (first | (with_reducible first | exact HB.out | apply below_alloc | apply pw_below_drewN | apply below_drew1 | refine below_set ?_ GE816.out) | exact HB.out))) : w.heap.size ≤ gb817)); have NB816_817 := neLA BK816 hg; have NB817_816 := neGA BK816 hg; replace BK816 := bkC BK816 hb; replace HB := Aside0.mk (below_step (by repeat (first | (with_reducible first | exact HB.out | apply below_alloc | apply pw_below_drewN | apply below_drew1 | refine below_set ?_ GE816.out) | exact HB.out)) hb); clear hb hbox hg; have hnb13 := NB816_817.out; have hnc13 := NB817_816.out; have hcz14_0 : w12.cell? ⟨gb816, 0, none⟩ = some (.int .i64 a0_0) := (blk_cell BK816.out 0).trans rfl; have hcz14_1 : w12.cell? ⟨gb816, 1, none⟩ = some (.int .i64 a0_1) := (blk_cell BK816.out 1).trans rfl; have hcz14_2 : w12.cell? ⟨gb816, 2, none⟩ = some (.int .i64 a0_2) := (blk_cell BK816.out 2).trans rfl; have hcz14_3 : w12.cell? ⟨gb816, 3, none⟩ = some (.int .i64 a0_3) := (blk_cell BK816.out 3).trans rfl; have hfz14_0 := blk_frozen BK816.out 0; have hfz14_1 := blk_frozen BK816.out 1; have hfz14_2 := blk_frozen BK816.out 2; have hfz14_3 := blk_frozen BK816.out 3) | ((with_reducible refine gate_callee (f := 65) rfl ?_); refine goesL_ (some 5) rfl rfl Try.func65 (by kernel_rfl) rfl #[.agg #[.int .i64 a0_0, .int .i64 a0_1, .int .i64 a0_2, .int .i64 a0_3]] rfl (by (try simp only [List.map_toArray, List.map_cons, List.map_nil]); first | done | rfl | (simp only [List.length_drop, List.length_take]; rfl)) ?_; (with_reducible refine (boundstoneref02_Proper.calls a0_0 a0_1 a0_2 a0_3 false _ A2.out).mono ?_); rintro e w15 ⟨rfl, hb⟩; refine ⟨_, rfl, ?_⟩; replace BK816 := bkC BK816 hb; replace BK817 := bkC BK817 hb; replace HB := Aside0.mk (below_step (by repeat (first | (with_reducible first | exact HB.out | apply below_alloc | apply pw_below_drewN | apply below_drew1 | refine below_set ?_ GE816.out | refine below_set ?_ GE817.out) | exact HB.out)) hb); (try clear hb); (try clear hb2); (try clear hk); (try clear hi); have hcz16_0 : w15.cell? ⟨gb817, 0, none⟩ = some (.int .i64 0) := (blk_cell BK817.out 0).trans rfl; have hcz16_1 : w15.cell? ⟨gb817, 1, none⟩ = some (.int .i64 0) := (blk_cell BK817.out 1).trans rfl; have hcz16_2 : w15.cell? ⟨gb817, 2, none⟩ = some (.int .i64 0) := (blk_cell BK817.out 2).trans rfl; have hcz16_3 : w15.cell? ⟨gb817, 3, none⟩ = some (.int .i64 0) := (blk_cell BK817.out 3).trans rfl; have hcz16_4 : w15.cell? ⟨gb817, 4, none⟩ = some (.int .i64 0) := (blk_cell BK817.out 4).trans rfl; have hcz16_5 : w15.cell? ⟨gb817, 5, none⟩ = some (.int .i64 0) := (blk_cell BK817.out 5).trans rfl; have hcz16_6 : w15.cell? ⟨gb817, 6, none⟩ = some (.int .i64 0) := (blk_cell BK817.out 6).trans rfl; have hcz16_7 : w15.cell? ⟨gb817, 7, none⟩ = some (.int .i64 0) := (blk_cell BK817.out 7).trans rfl; have hfz16_0 := blk_frozen BK817.out 0; have hfz16_1 := blk_frozen BK817.out 1; have hfz16_2 := blk_frozen BK817.out 2; have hfz16_3 := blk_frozen BK817.out 3; have hfz16_4 := blk_frozen BK817.out 4; have hfz16_5 := blk_frozen BK817.out 5; have hfz16_6 := blk_frozen BK817.out 6; have hfz16_7 := blk_frozen BK817.out 7))
  refine bodyPost_ret (results_cell_row rfl _ _ gb817 82 #[.int .i64 0, .int .i64 0, .int .i64 0, .int .i64 0, .int .i64 0, .int .i64 0, .int .i64 0, .int .i64 0] (0, 0) _ rfl (by (with_reducible repeat (first | refine blk_drewN ?_ _ | refine blk_drew ?_ | refine blk_alloc ?_ _)); refine blk_put (cs := #[.int .i64 0, .int .i64 0, .int .i64 0, .int .i64 0, .int .i64 0, .int .i64 0, .int .i64 0, .int .i64 0]) ?_ 7 _ rfl; (with_reducible repeat (first | refine blk_drewN ?_ _ | refine blk_drew ?_ | refine blk_alloc ?_ _)); refine blk_put (cs := #[.int .i64 0, .int .i64 0, .int .i64 0, .int .i64 0, .int .i64 0, .int .i64 0, .int .i64 0, .int .i64 0]) ?_ 6 _ rfl; (with_reducible repeat (first | refine blk_drewN ?_ _ | refine blk_drew ?_ | refine blk_alloc ?_ _)); refine blk_put (cs := #[.int .i64 0, .int .i64 0, .int .i64 0, .int .i64 0, .int .i64 0, .int .i64 0, .int .i64 0, .int .i64 0]) ?_ 5 _ rfl; (with_reducible repeat (first | refine blk_drewN ?_ _ | refine blk_drew ?_ | refine blk_alloc ?_ _)); refine blk_put (cs := #[.int .i64 0, .int .i64 0, .int .i64 0, .int .i64 0, .int .i64 0, .int .i64 0, .int .i64 0, .int .i64 0]) ?_ 4 _ rfl; (with_reducible repeat (first | refine blk_drewN ?_ _ | refine blk_drew ?_ | refine blk_alloc ?_ _)); refine blk_put (cs := #[.int .i64 0, .int .i64 0, .int .i64 0, .int .i64 0, .int .i64 0, .int .i64 0, .int .i64 0, .int .i64 0]) ?_ 3 _ rfl; (with_reducible repeat (first | refine blk_drewN ?_ _ | refine blk_drew ?_ | refine blk_alloc ?_ _)); refine blk_put (cs := #[.int .i64 0, .int .i64 0, .int .i64 0, .int .i64 0, .int .i64 0, .int .i64 0, .int .i64 0, .int .i64 0]) ?_ 2 _ rfl; (with_reducible repeat (first | refine blk_drewN ?_ _ | refine blk_drew ?_ | refine blk_alloc ?_ _)); refine blk_put (cs := #[.int .i64 0, .int .i64 0, .int .i64 0, .int .i64 0, .int .i64 0, .int .i64 0, .int .i64 0, .int .i64 0]) ?_ 1 _ rfl; (with_reducible repeat (first | refine blk_drewN ?_ _ | refine blk_drew ?_ | refine blk_alloc ?_ _)); refine blk_put (cs := #[.int .i64 0, .int .i64 0, .int .i64 0, .int .i64 0, .int .i64 0, .int .i64 0, .int .i64 0, .int .i64 0]) ?_ 0 _ rfl; (with_reducible repeat (first | refine blk_drewN ?_ _ | refine blk_drew ?_ | refine blk_alloc ?_ _)); exact BK817.out) Try.underlying82 rfl (by kernel_rfl)) rfl ?_
  exact ⟨by first | rfl | (simp [errW_none, errW_some] <;> rfl) | (simp [*, errW_none, errW_some] <;> rfl), by repeat (first | (with_reducible first | exact HB.out | apply below_alloc | apply pw_below_drewN | apply below_drew1 | refine below_set ?_ GE816.out | refine below_set ?_ GE817.out) | exact HB.out)⟩
end Go.Proofs.Ytckaejgamfllfaa.G
end

section
namespace Go.Proofs.Ytckaejgamfllfaa.G
open Go.RowKit Go.Proofs.YtckaejgamfllfaaW.PrintWords Go.Proofs.YtckaejgamfllfaaW.PrintLast Go.Proofs.YtckaejgamfllfaaW.PrintMore
attribute [local go_sem] max2_int min2_int max_two min_two max_three min_three max_four min_four
set_option linter.unusedVariables false
set_option linter.unusedSimpArgs false
def plane_cover.f (a0_0 : Int) (a0_1 : Int) (a1_0 : Int) (a1_1 : Int) : Option (Int × Int) := some (mn a0_0 a1_0, mx a0_1 a1_1)
set_option maxHeartbeats 8000000 in
set_option maxRecDepth 100000 in
theorem plane_cover.calls (a0_0 : Int) (a0_1 : Int) (a1_0 : Int) (a1_1 : Int) (r1 : Int) (r2 : Int) (w : World) (h : plane_cover.f a0_0 a0_1 a1_0 a1_1 = some (r1, r2)) :
  Calls Try.prog 115 #[.agg #[.int .i64 a0_0, .int .i64 a0_1], .agg #[.int .i64 a1_0, .int .i64 a1_1]] w fun e w' => e = .returned (.agg #[.int .i64 r1, .int .i64 r2]) ∧ Below w.heap.size w w' := by
 have hu50 := Try.underlying50
 have HB := Aside0.mk (Below.refl w.heap.size w)
 have H : (some (mn a0_0 a1_0, mx a0_1 a1_1)) = some (r1, r2) := h
 clear h
 obtain ⟨ji3, hji3⟩ : ∃ j_ : Int, (mn a0_0 a1_0) = j_ := ⟨_, rfl⟩
 replace H : (some (ji3, mx a0_1 a1_1)) = some (r1, r2) := by first | (rw [hji3] at H; exact H) | (simp only [hji3] at H ⊢; exact H)
 have hji3_ : (if a1_0 < a0_0 then a1_0 else a0_0) = ji3 := hji3
 obtain ⟨ji4, hji4⟩ : ∃ j_ : Int, (mx a0_1 a1_1) = j_ := ⟨_, rfl⟩
 replace H : (some (ji3, ji4)) = some (r1, r2) := by first | (rw [hji4] at H; exact H) | (simp only [hji4] at H ⊢; exact H)
 have hji4_ : (if a0_1 < a1_1 then a1_1 else a0_1) = ji4 := hji4
 simp only [Option.some.injEq, Prod.mk.injEq] at H
 obtain ⟨rfl, rfl⟩ := H
 go_enter Try.func115, Try.ntmps115
 go_wp2_with (first | ((with_reducible refine gate_dst (N := 2) rfl ?_); refine box_event ?hg (N := 2) ?hd (cs := #[.int .i64 a0_0, .int .i64 a0_1]) (t := 50) ?hr ?_; (case hd => rfl); (case hg => rfl); (case hr => first | (go_simp; done) | (go_simp; rfl)); intro gb593 hg w5 hbox hb; have BK593 := Aside0.mk (hbox); have GW593 := geBA HB hg; have GE593 := geBA HB hg; replace HB := Aside0.mk (below_step (hk HB) hb); clear hb hbox hg) | ((with_reducible refine gate_dst (N := 3) rfl ?_); refine box_event ?hg (N := 3) ?hd (cs := #[.int .i64 a1_0, .int .i64 a1_1]) (t := 50) ?hr ?_; (case hd => rfl); (case hg => rfl); (case hr => first | (go_simp; done) | (go_simp; rfl)); intro gb594 hg w6 hbox hb; have BK594 := Aside0.mk (hbox); have GW594 := Aside0.mk ((by rw [hg]; exact (below_size (by repeat (first | (with_reducible first | exact HB.out | apply below_alloc | apply pw_below_drewN | apply below_drew1 | refine below_set ?_ GE593.out) | exact HB.out))) : w.heap.size ≤ gb594)); have GE594 := Aside0.mk ((by rw [hg]; exact (below_size (by repeat (first | (with_reducible first | exact HB.out | apply below_alloc | apply pw_below_drewN | apply below_drew1 | refine below_set ?_ GE593.out) | exact HB.out))) : w.heap.size ≤ gb594)); have NB593_594 := neLA BK593 hg; have NB594_593 := neGA BK593 hg; replace BK593 := bkC BK593 hb; replace HB := Aside0.mk (below_step (by repeat (first | (with_reducible first | exact HB.out | apply below_alloc | apply pw_below_drewN | apply below_drew1 | refine below_set ?_ GE593.out) | exact HB.out)) hb); clear hb hbox hg) | ((with_reducible refine gate_dst (N := 4) rfl ?_); refine box_event ?hg (N := 4) ?hd (cs := #[.int .i64 0, .int .i64 0]) (t := 50) ?hr ?_; (case hd => rfl); (case hg => rfl); (case hr => first | (go_simp; done) | (go_simp; rfl)); intro gb595 hg w7 hbox hb; have BK595 := Aside0.mk (hbox); have GW595 := Aside0.mk ((by rw [hg]; exact (below_size (by repeat (first | (with_reducible first | exact HB.out | apply below_alloc | apply pw_below_drewN | apply below_drew1 | refine below_set ?_ GE593.out | refine below_set ?_ GE594.out) | exact HB.out))) : w.heap.size ≤ gb595)); have GE595 := Aside0.mk ((by rw [hg]; exact (below_size (by repeat (first | (with_reducible first | exact HB.out | apply below_alloc | apply pw_below_drewN | apply below_drew1 | refine below_set ?_ GE593.out | refine below_set ?_ GE594.out) | exact HB.out))) : w.heap.size ≤ gb595)); have NB593_595 := neLA BK593 hg; have NB595_593 := neGA BK593 hg; have NB594_595 := neLA BK594 hg; have NB595_594 := neGA BK594 hg; replace BK593 := bkC BK593 hb; replace BK594 := bkC BK594 hb; replace HB := Aside0.mk (below_step (by repeat (first | (with_reducible first | exact HB.out | apply below_alloc | apply pw_below_drewN | apply below_drew1 | refine below_set ?_ GE593.out | refine below_set ?_ GE594.out) | exact HB.out)) hb); clear hb hbox hg; have hnb8 := NB593_594.out; have hnc8 := NB594_593.out; have hnb9 := NB593_595.out; have hnc9 := NB595_593.out; have hcz10_0 : w7.cell? ⟨gb593, 0, none⟩ = some (.int .i64 a0_0) := (blk_cell BK593.out 0).trans rfl; have hcz10_1 : w7.cell? ⟨gb593, 1, none⟩ = some (.int .i64 a0_1) := (blk_cell BK593.out 1).trans rfl; have hfz10_0 := blk_frozen BK593.out 0; have hfz10_1 := blk_frozen BK593.out 1; have hnb11 := NB594_595.out; have hnc11 := NB595_594.out; have hcz12_0 : w7.cell? ⟨gb594, 0, none⟩ = some (.int .i64 a1_0) := (blk_cell BK594.out 0).trans rfl; have hcz12_1 : w7.cell? ⟨gb594, 1, none⟩ = some (.int .i64 a1_1) := (blk_cell BK594.out 1).trans rfl; have hfz12_0 := blk_frozen BK594.out 0; have hfz12_1 := blk_frozen BK594.out 1; have hcz13_0 : w7.cell? ⟨gb595, 0, none⟩ = some (.int .i64 0) := (blk_cell BK595.out 0).trans rfl; have hcz13_1 : w7.cell? ⟨gb595, 1, none⟩ = some (.int .i64 0) := (blk_cell BK595.out 1).trans rfl; have hfz13_0 := blk_frozen BK595.out 0; have hfz13_1 := blk_frozen BK595.out 1))
 refine bodyPost_ret (results_cell_row rfl _ _ gb595 50 #[.int .i64 ji3, .int .i64 ji4] (0, 0) _ rfl (by (with_reducible repeat (first | refine blk_drewN ?_ _ | refine blk_drew ?_ | refine blk_alloc ?_ _)); refine blk_put (cs := #[.int .i64 ji3, .int .i64 0]) ?_ 1 _ rfl; (with_reducible repeat (first | refine blk_drewN ?_ _ | refine blk_drew ?_ | refine blk_alloc ?_ _)); refine blk_put (cs := #[.int .i64 0, .int .i64 0]) ?_ 0 _ rfl; (with_reducible repeat (first | refine blk_drewN ?_ _ | refine blk_drew ?_ | refine blk_alloc ?_ _)); exact BK595.out) Try.underlying50 rfl (by kernel_rfl)) rfl ?_
 exact ⟨by first | rfl | (simp [errW_none, errW_some] <;> rfl) | (simp only [← hji3, ← hji4]; first | rfl | (simp [errW_none, errW_some] <;> rfl)) | (simp [*, errW_none, errW_some] <;> rfl), by repeat (first | (with_reducible first | exact HB.out | apply below_alloc | apply pw_below_drewN | apply below_drew1 | refine below_set ?_ GE593.out | refine below_set ?_ GE594.out | refine below_set ?_ GE595.out) | exact HB.out)⟩
end Go.Proofs.Ytckaejgamfllfaa.G
end

section
namespace Go.Proofs.Ytckaejgamfllfaa.G
open Go.RowKit Go.Proofs.YtckaejgamfllfaaW.PrintWords Go.Proofs.YtckaejgamfllfaaW.PrintLast Go.Proofs.YtckaejgamfllfaaW.PrintMore
set_option linter.unusedVariables false
set_option linter.unusedSimpArgs false
def corn (b0 b1 b2 b3 : Int) : Nat → S23
  | 0 => ⟨b0, b2⟩ | 1 => ⟨b1, b2⟩ | 2 => ⟨b1, b3⟩ | _ => ⟨b0, b3⟩
set_option maxRecDepth 100000 in
theorem index_corn (b0 b1 b2 b3 : Int) (i : Nat) (hi : i < 4) (w : World) :
    Sem.run Try.prog (Instr.index 82 (.agg #[.int .i64 b0, .int .i64 b2, .int .i64 b1, .int .i64 b2, .int .i64 b1, .int .i64 b3, .int .i64 b0, .int .i64 b3]) (.int .i64 (i : Int))) w =
      .ok (.agg #[.int .i64 (corn b0 b1 b2 b3 i).f0, .int .i64 (corn b0 b1 b2 b3 i).f1]) w := by
  have hu := Try.underlying82
  have hs := Try.sizeOf23
  have ha := Try.isAgg23
  rcases i with _ | _ | _ | _ | i
  · simp [Instr.index, corn]; go_simp
  · simp [Instr.index, corn]; go_simp
  · simp [Instr.index, corn]; go_simp
  · simp [Instr.index, corn]; go_simp
  · omega
theorem plane_Corners_ok {b0 b1 b2 b3 : Int} (h : plane_Proper.f b0 b1 b2 b3 = some true) : plane_Corners.f b0 b1 b2 b3 = some (b0, b2, b1, b2, b1, b3, b0, b3) := by
  unfold plane_Corners.f; rw [h]; rfl
def covN (s : Int × Int) (n : Int) : Int × Int := (mn s.1 n, mx s.2 n)
def inL (p q : S23) (C : Nat → S23) : Nat → Int × Int → Int × Int
  | 0, s => s
  | k + 1, s => covN (inL p q C k s) (twW p q (C k))
def midL (p : S23) (B C : Nat → S23) : Nat → Int × Int → Int × Int
  | 0, s => s
  | j + 1, s => inL p (B j) C 4 (midL p B C j s)
def outL (A B C : Nat → S23) : Nat → Int × Int → Int × Int
  | 0, s => s
  | i + 1, s => midL (A i) B C 4 (outL A B C i s)
def spreadP (A B C : Nat → S23) : Int × Int := outL A B C 4 (twW (A 0) (B 0) (C 0), twW (A 0) (B 0) (C 0))
end Go.Proofs.Ytckaejgamfllfaa.G
end

section
namespace Go.Proofs.Ytckaejgamfllfaa.G
open Go.RowKit Go.Proofs.YtckaejgamfllfaaW.PrintWords Go.Proofs.YtckaejgamfllfaaW.PrintLast Go.Proofs.YtckaejgamfllfaaW.PrintMore
set_option linter.unusedVariables false
set_option linter.unusedSimpArgs false
def plane_Spread.f (a0_0 : Int) (a0_1 : Int) (a0_2 : Int) (a0_3 : Int) (a1_0 : Int) (a1_1 : Int) (a1_2 : Int) (a1_3 : Int) (a2_0 : Int) (a2_1 : Int) (a2_2 : Int) (a2_3 : Int) : Option (Int × Int × Bool) :=
  (plane_Proper.f a0_0 a0_1 a0_2 a0_3).bind fun x => (plane_Proper.f a1_0 a1_1 a1_2 a1_3).bind fun y => (plane_Proper.f a2_0 a2_1 a2_2 a2_3).bind fun z =>
    if x = true ∧ y = true ∧ z = true then some ((spreadP (corn a0_0 a0_1 a0_2 a0_3) (corn a1_0 a1_1 a1_2 a1_3) (corn a2_0 a2_1 a2_2 a2_3)).1, (spreadP (corn a0_0 a0_1 a0_2 a0_3) (corn a1_0 a1_1 a1_2 a1_3) (corn a2_0 a2_1 a2_2 a2_3)).2, true) else some (0, 0, false)
set_option maxHeartbeats 40000000 in
set_option maxRecDepth 100000 in
theorem plane_Spread.calls (a0_0 : Int) (a0_1 : Int) (a0_2 : Int) (a0_3 : Int) (a1_0 : Int) (a1_1 : Int) (a1_2 : Int) (a1_3 : Int) (a2_0 : Int) (a2_1 : Int) (a2_2 : Int) (a2_3 : Int) (r1 r2 : Int) (r3 : Bool) (w : World) (h : plane_Spread.f a0_0 a0_1 a0_2 a0_3 a1_0 a1_1 a1_2 a1_3 a2_0 a2_1 a2_2 a2_3 = some (r1, r2, r3)) :
    Calls Try.prog 50 #[.agg #[.int .i64 a0_0, .int .i64 a0_1, .int .i64 a0_2, .int .i64 a0_3], .agg #[.int .i64 a1_0, .int .i64 a1_1, .int .i64 a1_2, .int .i64 a1_3], .agg #[.int .i64 a2_0, .int .i64 a2_1, .int .i64 a2_2, .int .i64 a2_3]] w fun e w' => e = .returned (.tuple #[.agg #[.int .i64 r1, .int .i64 r2], .bool r3]) ∧ Below w.heap.size w w' := by
  unfold plane_Spread.f at h
  obtain ⟨x, hx, h⟩ := Option.bind_eq_some_iff.mp h
  obtain ⟨y, hy, h⟩ := Option.bind_eq_some_iff.mp h
  obtain ⟨z, hz, h⟩ := Option.bind_eq_some_iff.mp h
  have HPx := Aside0.mk hx; have HPy := Aside0.mk hy; have HPz := Aside0.mk hz; have HH := Aside0.mk h
  clear hx hy hz h
  have hu50 := Try.underlying50; have hu52 := Try.underlying52; have hu23 := Try.underlying23; have hu82 := Try.underlying82
  obtain ⟨W0, hW0⟩ : ∃ W0, W0 = (((w.alloc (.cells #[.int .i64 a0_0, .int .i64 a0_1, .int .i64 a0_2, .int .i64 a0_3] 52)).alloc (.cells #[.int .i64 a1_0, .int .i64 a1_1, .int .i64 a1_2, .int .i64 a1_3] 52)).alloc (.cells #[.int .i64 a2_0, .int .i64 a2_1, .int .i64 a2_2, .int .i64 a2_3] 52)).alloc (.cells #[.int .i64 0, .int .i64 0] 50) := ⟨_, rfl⟩
  obtain ⟨g3, hg3⟩ : ∃ g, g = w.heap.size := ⟨_, rfl⟩
  obtain ⟨g4, hg4⟩ : ∃ g, g = w.heap.size + 1 := ⟨_, rfl⟩
  obtain ⟨g5, hg5⟩ : ∃ g, g = w.heap.size + 1 + 1 := ⟨_, rfl⟩
  obtain ⟨g6, hg6⟩ : ∃ g, g = w.heap.size + 1 + 1 + 1 := ⟨_, rfl⟩
  have hs0 : W0.heap.size = w.heap.size + 4 := by rw [hW0]; simp
  have B0 : Blk W0 g3 #[.int .i64 a0_0, .int .i64 a0_1, .int .i64 a0_2, .int .i64 a0_3] 52 := by rw [hW0, hg3]; exact (((Blk.new w 52 _).alloc _).alloc _).alloc _
  have B1 : Blk W0 g4 #[.int .i64 a1_0, .int .i64 a1_1, .int .i64 a1_2, .int .i64 a1_3] 52 := by rw [hW0, hg4]; have := Blk.new (w.alloc (.cells #[.int .i64 a0_0, .int .i64 a0_1, .int .i64 a0_2, .int .i64 a0_3] 52)) 52 #[.int .i64 a1_0, .int .i64 a1_1, .int .i64 a1_2, .int .i64 a1_3]; rw [World.size_alloc] at this; exact (this.alloc _).alloc _
  have B2 : Blk W0 g5 #[.int .i64 a2_0, .int .i64 a2_1, .int .i64 a2_2, .int .i64 a2_3] 52 := by rw [hW0, hg5]; have := Blk.new ((w.alloc (.cells #[.int .i64 a0_0, .int .i64 a0_1, .int .i64 a0_2, .int .i64 a0_3] 52)).alloc (.cells #[.int .i64 a1_0, .int .i64 a1_1, .int .i64 a1_2, .int .i64 a1_3] 52)) 52 #[.int .i64 a2_0, .int .i64 a2_1, .int .i64 a2_2, .int .i64 a2_3]; rw [World.size_alloc, World.size_alloc] at this; exact this.alloc _
  have B3 : Blk W0 g6 #[.int .i64 0, .int .i64 0] 50 := by rw [hW0, hg6]; have := Blk.new (((w.alloc (.cells #[.int .i64 a0_0, .int .i64 a0_1, .int .i64 a0_2, .int .i64 a0_3] 52)).alloc (.cells #[.int .i64 a1_0, .int .i64 a1_1, .int .i64 a1_2, .int .i64 a1_3] 52)).alloc (.cells #[.int .i64 a2_0, .int .i64 a2_1, .int .i64 a2_2, .int .i64 a2_3] 52)) 50 #[.int .i64 0, .int .i64 0]; rw [World.size_alloc, World.size_alloc, World.size_alloc] at this; exact this
  have hB : Below w.heap.size w W0 := by rw [hW0]; exact ((((Below.refl _ w).alloc (Nat.le_refl _) _).alloc (by simp) _).alloc (by simp; omega) _).alloc (by simp; omega) _
  have HW := Aside0.mk hW0
  have K := Aside0.mk (show ∀ W, Below W0.heap.size W0 W → Blk W g3 #[.int .i64 a0_0, .int .i64 a0_1, .int .i64 a0_2, .int .i64 a0_3] 52 ∧ Blk W g4 #[.int .i64 a1_0, .int .i64 a1_1, .int .i64 a1_2, .int .i64 a1_3] 52 ∧ Blk W g5 #[.int .i64 a2_0, .int .i64 a2_1, .int .i64 a2_2, .int .i64 a2_3] 52 ∧ Blk W g6 #[.int .i64 0, .int .i64 0] 50 ∧ Below w.heap.size w W ∧ w.heap.size + 4 ≤ W.heap.size from
    fun W hb => ⟨B0.below hb, B1.below hb, B2.below hb, B3.below hb, below_then hB (by omega) hb, by have := hb.size; omega⟩)
  have GE6 := Aside0.mk (show w.heap.size ≤ g6 by omega)
  have G3 := Aside0.mk hg3; have G4 := Aside0.mk hg4; have G5 := Aside0.mk hg5; have G6 := Aside0.mk hg6
  have n36 : g3 ≠ g6 := by omega
  have n46 : g4 ≠ g6 := by omega
  have n56 : g5 ≠ g6 := by omega
  clear B0 B1 B2 B3 hB hs0 hW0 hg3 hg4 hg5 hg6
  have HX := Aside0.mk (Below.refl W0.heap.size W0)
  go_enter Try.func50, Try.ntmps50
  go_upto_region 1 with fail
  rw [← HW.out, ← G6.out, ← G5.out, ← G4.out, ← G3.out]
  have ac0 : W0.cell? ⟨g3, 0, none⟩ = some (.int .i64 a0_0) := ((K.out W0 HX.out).1).cell 0
  have ac1 : W0.cell? ⟨g3, 1, none⟩ = some (.int .i64 a0_1) := ((K.out W0 HX.out).1).cell 1
  have ac2 : W0.cell? ⟨g3, 2, none⟩ = some (.int .i64 a0_2) := ((K.out W0 HX.out).1).cell 2
  have ac3 : W0.cell? ⟨g3, 3, none⟩ = some (.int .i64 a0_3) := ((K.out W0 HX.out).1).cell 3
  have bc0 : W0.cell? ⟨g4, 0, none⟩ = some (.int .i64 a1_0) := ((K.out W0 HX.out).2.1).cell 0
  have bc1 : W0.cell? ⟨g4, 1, none⟩ = some (.int .i64 a1_1) := ((K.out W0 HX.out).2.1).cell 1
  have bc2 : W0.cell? ⟨g4, 2, none⟩ = some (.int .i64 a1_2) := ((K.out W0 HX.out).2.1).cell 2
  have bc3 : W0.cell? ⟨g4, 3, none⟩ = some (.int .i64 a1_3) := ((K.out W0 HX.out).2.1).cell 3
  have cc0 : W0.cell? ⟨g5, 0, none⟩ = some (.int .i64 a2_0) := ((K.out W0 HX.out).2.2.1).cell 0
  have cc1 : W0.cell? ⟨g5, 1, none⟩ = some (.int .i64 a2_1) := ((K.out W0 HX.out).2.2.1).cell 1
  have cc2 : W0.cell? ⟨g5, 2, none⟩ = some (.int .i64 a2_2) := ((K.out W0 HX.out).2.2.1).cell 2
  have cc3 : W0.cell? ⟨g5, 3, none⟩ = some (.int .i64 a2_3) := ((K.out W0 HX.out).2.2.1).cell 3
  (try simp only [Act.put, List.setIfInBounds_toArray, List.set_cons_zero, List.set_cons_succ])
  go_cut [29] (fun v29 wc => v29 = .bool (!(x && y && z)) ∧ Aside0 (Blk wc g3 #[.int .i64 a0_0, .int .i64 a0_1, .int .i64 a0_2, .int .i64 a0_3] 52 ∧ Blk wc g4 #[.int .i64 a1_0, .int .i64 a1_1, .int .i64 a1_2, .int .i64 a1_3] 52 ∧ Blk wc g5 #[.int .i64 a2_0, .int .i64 a2_1, .int .i64 a2_2, .int .i64 a2_3] 52 ∧ Blk wc g6 #[.int .i64 0, .int .i64 0] 50 ∧ Below w.heap.size w wc ∧ w.heap.size + 4 ≤ wc.heap.size))
  case first =>
    cases x with
    | false =>
      go_wp2_with (first | (go_at_call 64; (with_reducible refine (plane_Proper.calls a0_0 a0_1 a0_2 a0_3 _ _ HPx.out).mono ?_); rintro e wp ⟨rfl, hb⟩; have HX2 := Aside0.mk (below_then HX.out HX.out.size hb); clear hb HX; have HX := HX2; clear HX2; have ac0 : wp.cell? ⟨g3, 0, none⟩ = some (.int .i64 a0_0) := ((K.out wp HX.out).1).cell 0; have ac1 : wp.cell? ⟨g3, 1, none⟩ = some (.int .i64 a0_1) := ((K.out wp HX.out).1).cell 1; have ac2 : wp.cell? ⟨g3, 2, none⟩ = some (.int .i64 a0_2) := ((K.out wp HX.out).1).cell 2; have ac3 : wp.cell? ⟨g3, 3, none⟩ = some (.int .i64 a0_3) := ((K.out wp HX.out).1).cell 3; have bc0 : wp.cell? ⟨g4, 0, none⟩ = some (.int .i64 a1_0) := ((K.out wp HX.out).2.1).cell 0; have bc1 : wp.cell? ⟨g4, 1, none⟩ = some (.int .i64 a1_1) := ((K.out wp HX.out).2.1).cell 1; have bc2 : wp.cell? ⟨g4, 2, none⟩ = some (.int .i64 a1_2) := ((K.out wp HX.out).2.1).cell 2; have bc3 : wp.cell? ⟨g4, 3, none⟩ = some (.int .i64 a1_3) := ((K.out wp HX.out).2.1).cell 3; have cc0 : wp.cell? ⟨g5, 0, none⟩ = some (.int .i64 a2_0) := ((K.out wp HX.out).2.2.1).cell 0; have cc1 : wp.cell? ⟨g5, 1, none⟩ = some (.int .i64 a2_1) := ((K.out wp HX.out).2.2.1).cell 1; have cc2 : wp.cell? ⟨g5, 2, none⟩ = some (.int .i64 a2_2) := ((K.out wp HX.out).2.2.1).cell 2; have cc3 : wp.cell? ⟨g5, 3, none⟩ = some (.int .i64 a2_3) := ((K.out wp HX.out).2.2.1).cell 3) | (go_at_call 64; (with_reducible refine (plane_Proper.calls a1_0 a1_1 a1_2 a1_3 _ _ HPy.out).mono ?_); rintro e wp ⟨rfl, hb⟩; have HX2 := Aside0.mk (below_then HX.out HX.out.size hb); clear hb HX; have HX := HX2; clear HX2; have ac0 : wp.cell? ⟨g3, 0, none⟩ = some (.int .i64 a0_0) := ((K.out wp HX.out).1).cell 0; have ac1 : wp.cell? ⟨g3, 1, none⟩ = some (.int .i64 a0_1) := ((K.out wp HX.out).1).cell 1; have ac2 : wp.cell? ⟨g3, 2, none⟩ = some (.int .i64 a0_2) := ((K.out wp HX.out).1).cell 2; have ac3 : wp.cell? ⟨g3, 3, none⟩ = some (.int .i64 a0_3) := ((K.out wp HX.out).1).cell 3; have bc0 : wp.cell? ⟨g4, 0, none⟩ = some (.int .i64 a1_0) := ((K.out wp HX.out).2.1).cell 0; have bc1 : wp.cell? ⟨g4, 1, none⟩ = some (.int .i64 a1_1) := ((K.out wp HX.out).2.1).cell 1; have bc2 : wp.cell? ⟨g4, 2, none⟩ = some (.int .i64 a1_2) := ((K.out wp HX.out).2.1).cell 2; have bc3 : wp.cell? ⟨g4, 3, none⟩ = some (.int .i64 a1_3) := ((K.out wp HX.out).2.1).cell 3; have cc0 : wp.cell? ⟨g5, 0, none⟩ = some (.int .i64 a2_0) := ((K.out wp HX.out).2.2.1).cell 0; have cc1 : wp.cell? ⟨g5, 1, none⟩ = some (.int .i64 a2_1) := ((K.out wp HX.out).2.2.1).cell 1; have cc2 : wp.cell? ⟨g5, 2, none⟩ = some (.int .i64 a2_2) := ((K.out wp HX.out).2.2.1).cell 2; have cc3 : wp.cell? ⟨g5, 3, none⟩ = some (.int .i64 a2_3) := ((K.out wp HX.out).2.2.1).cell 3) | (go_at_call 64; (with_reducible refine (plane_Proper.calls a2_0 a2_1 a2_2 a2_3 _ _ HPz.out).mono ?_); rintro e wp ⟨rfl, hb⟩; have HX2 := Aside0.mk (below_then HX.out HX.out.size hb); clear hb HX; have HX := HX2; clear HX2; have ac0 : wp.cell? ⟨g3, 0, none⟩ = some (.int .i64 a0_0) := ((K.out wp HX.out).1).cell 0; have ac1 : wp.cell? ⟨g3, 1, none⟩ = some (.int .i64 a0_1) := ((K.out wp HX.out).1).cell 1; have ac2 : wp.cell? ⟨g3, 2, none⟩ = some (.int .i64 a0_2) := ((K.out wp HX.out).1).cell 2; have ac3 : wp.cell? ⟨g3, 3, none⟩ = some (.int .i64 a0_3) := ((K.out wp HX.out).1).cell 3; have bc0 : wp.cell? ⟨g4, 0, none⟩ = some (.int .i64 a1_0) := ((K.out wp HX.out).2.1).cell 0; have bc1 : wp.cell? ⟨g4, 1, none⟩ = some (.int .i64 a1_1) := ((K.out wp HX.out).2.1).cell 1; have bc2 : wp.cell? ⟨g4, 2, none⟩ = some (.int .i64 a1_2) := ((K.out wp HX.out).2.1).cell 2; have bc3 : wp.cell? ⟨g4, 3, none⟩ = some (.int .i64 a1_3) := ((K.out wp HX.out).2.1).cell 3; have cc0 : wp.cell? ⟨g5, 0, none⟩ = some (.int .i64 a2_0) := ((K.out wp HX.out).2.2.1).cell 0; have cc1 : wp.cell? ⟨g5, 1, none⟩ = some (.int .i64 a2_1) := ((K.out wp HX.out).2.2.1).cell 1; have cc2 : wp.cell? ⟨g5, 2, none⟩ = some (.int .i64 a2_2) := ((K.out wp HX.out).2.2.1).cell 2; have cc3 : wp.cell? ⟨g5, 3, none⟩ = some (.int .i64 a2_3) := ((K.out wp HX.out).2.2.1).cell 3))
      go_meet
      case rel => exact ⟨rfl, ⟨K.out _ HX.out⟩⟩
    | true =>
      cases y with
      | false =>
        go_wp2_with (first | (go_at_call 64; (with_reducible refine (plane_Proper.calls a0_0 a0_1 a0_2 a0_3 _ _ HPx.out).mono ?_); rintro e wp ⟨rfl, hb⟩; have HX2 := Aside0.mk (below_then HX.out HX.out.size hb); clear hb HX; have HX := HX2; clear HX2; have ac0 : wp.cell? ⟨g3, 0, none⟩ = some (.int .i64 a0_0) := ((K.out wp HX.out).1).cell 0; have ac1 : wp.cell? ⟨g3, 1, none⟩ = some (.int .i64 a0_1) := ((K.out wp HX.out).1).cell 1; have ac2 : wp.cell? ⟨g3, 2, none⟩ = some (.int .i64 a0_2) := ((K.out wp HX.out).1).cell 2; have ac3 : wp.cell? ⟨g3, 3, none⟩ = some (.int .i64 a0_3) := ((K.out wp HX.out).1).cell 3; have bc0 : wp.cell? ⟨g4, 0, none⟩ = some (.int .i64 a1_0) := ((K.out wp HX.out).2.1).cell 0; have bc1 : wp.cell? ⟨g4, 1, none⟩ = some (.int .i64 a1_1) := ((K.out wp HX.out).2.1).cell 1; have bc2 : wp.cell? ⟨g4, 2, none⟩ = some (.int .i64 a1_2) := ((K.out wp HX.out).2.1).cell 2; have bc3 : wp.cell? ⟨g4, 3, none⟩ = some (.int .i64 a1_3) := ((K.out wp HX.out).2.1).cell 3; have cc0 : wp.cell? ⟨g5, 0, none⟩ = some (.int .i64 a2_0) := ((K.out wp HX.out).2.2.1).cell 0; have cc1 : wp.cell? ⟨g5, 1, none⟩ = some (.int .i64 a2_1) := ((K.out wp HX.out).2.2.1).cell 1; have cc2 : wp.cell? ⟨g5, 2, none⟩ = some (.int .i64 a2_2) := ((K.out wp HX.out).2.2.1).cell 2; have cc3 : wp.cell? ⟨g5, 3, none⟩ = some (.int .i64 a2_3) := ((K.out wp HX.out).2.2.1).cell 3) | (go_at_call 64; (with_reducible refine (plane_Proper.calls a1_0 a1_1 a1_2 a1_3 _ _ HPy.out).mono ?_); rintro e wp ⟨rfl, hb⟩; have HX2 := Aside0.mk (below_then HX.out HX.out.size hb); clear hb HX; have HX := HX2; clear HX2; have ac0 : wp.cell? ⟨g3, 0, none⟩ = some (.int .i64 a0_0) := ((K.out wp HX.out).1).cell 0; have ac1 : wp.cell? ⟨g3, 1, none⟩ = some (.int .i64 a0_1) := ((K.out wp HX.out).1).cell 1; have ac2 : wp.cell? ⟨g3, 2, none⟩ = some (.int .i64 a0_2) := ((K.out wp HX.out).1).cell 2; have ac3 : wp.cell? ⟨g3, 3, none⟩ = some (.int .i64 a0_3) := ((K.out wp HX.out).1).cell 3; have bc0 : wp.cell? ⟨g4, 0, none⟩ = some (.int .i64 a1_0) := ((K.out wp HX.out).2.1).cell 0; have bc1 : wp.cell? ⟨g4, 1, none⟩ = some (.int .i64 a1_1) := ((K.out wp HX.out).2.1).cell 1; have bc2 : wp.cell? ⟨g4, 2, none⟩ = some (.int .i64 a1_2) := ((K.out wp HX.out).2.1).cell 2; have bc3 : wp.cell? ⟨g4, 3, none⟩ = some (.int .i64 a1_3) := ((K.out wp HX.out).2.1).cell 3; have cc0 : wp.cell? ⟨g5, 0, none⟩ = some (.int .i64 a2_0) := ((K.out wp HX.out).2.2.1).cell 0; have cc1 : wp.cell? ⟨g5, 1, none⟩ = some (.int .i64 a2_1) := ((K.out wp HX.out).2.2.1).cell 1; have cc2 : wp.cell? ⟨g5, 2, none⟩ = some (.int .i64 a2_2) := ((K.out wp HX.out).2.2.1).cell 2; have cc3 : wp.cell? ⟨g5, 3, none⟩ = some (.int .i64 a2_3) := ((K.out wp HX.out).2.2.1).cell 3) | (go_at_call 64; (with_reducible refine (plane_Proper.calls a2_0 a2_1 a2_2 a2_3 _ _ HPz.out).mono ?_); rintro e wp ⟨rfl, hb⟩; have HX2 := Aside0.mk (below_then HX.out HX.out.size hb); clear hb HX; have HX := HX2; clear HX2; have ac0 : wp.cell? ⟨g3, 0, none⟩ = some (.int .i64 a0_0) := ((K.out wp HX.out).1).cell 0; have ac1 : wp.cell? ⟨g3, 1, none⟩ = some (.int .i64 a0_1) := ((K.out wp HX.out).1).cell 1; have ac2 : wp.cell? ⟨g3, 2, none⟩ = some (.int .i64 a0_2) := ((K.out wp HX.out).1).cell 2; have ac3 : wp.cell? ⟨g3, 3, none⟩ = some (.int .i64 a0_3) := ((K.out wp HX.out).1).cell 3; have bc0 : wp.cell? ⟨g4, 0, none⟩ = some (.int .i64 a1_0) := ((K.out wp HX.out).2.1).cell 0; have bc1 : wp.cell? ⟨g4, 1, none⟩ = some (.int .i64 a1_1) := ((K.out wp HX.out).2.1).cell 1; have bc2 : wp.cell? ⟨g4, 2, none⟩ = some (.int .i64 a1_2) := ((K.out wp HX.out).2.1).cell 2; have bc3 : wp.cell? ⟨g4, 3, none⟩ = some (.int .i64 a1_3) := ((K.out wp HX.out).2.1).cell 3; have cc0 : wp.cell? ⟨g5, 0, none⟩ = some (.int .i64 a2_0) := ((K.out wp HX.out).2.2.1).cell 0; have cc1 : wp.cell? ⟨g5, 1, none⟩ = some (.int .i64 a2_1) := ((K.out wp HX.out).2.2.1).cell 1; have cc2 : wp.cell? ⟨g5, 2, none⟩ = some (.int .i64 a2_2) := ((K.out wp HX.out).2.2.1).cell 2; have cc3 : wp.cell? ⟨g5, 3, none⟩ = some (.int .i64 a2_3) := ((K.out wp HX.out).2.2.1).cell 3))
        go_meet
        case rel => exact ⟨rfl, ⟨K.out _ HX.out⟩⟩
      | true =>
        cases z with
        | false =>
          go_wp2_with (first | (go_at_call 64; (with_reducible refine (plane_Proper.calls a0_0 a0_1 a0_2 a0_3 _ _ HPx.out).mono ?_); rintro e wp ⟨rfl, hb⟩; have HX2 := Aside0.mk (below_then HX.out HX.out.size hb); clear hb HX; have HX := HX2; clear HX2; have ac0 : wp.cell? ⟨g3, 0, none⟩ = some (.int .i64 a0_0) := ((K.out wp HX.out).1).cell 0; have ac1 : wp.cell? ⟨g3, 1, none⟩ = some (.int .i64 a0_1) := ((K.out wp HX.out).1).cell 1; have ac2 : wp.cell? ⟨g3, 2, none⟩ = some (.int .i64 a0_2) := ((K.out wp HX.out).1).cell 2; have ac3 : wp.cell? ⟨g3, 3, none⟩ = some (.int .i64 a0_3) := ((K.out wp HX.out).1).cell 3; have bc0 : wp.cell? ⟨g4, 0, none⟩ = some (.int .i64 a1_0) := ((K.out wp HX.out).2.1).cell 0; have bc1 : wp.cell? ⟨g4, 1, none⟩ = some (.int .i64 a1_1) := ((K.out wp HX.out).2.1).cell 1; have bc2 : wp.cell? ⟨g4, 2, none⟩ = some (.int .i64 a1_2) := ((K.out wp HX.out).2.1).cell 2; have bc3 : wp.cell? ⟨g4, 3, none⟩ = some (.int .i64 a1_3) := ((K.out wp HX.out).2.1).cell 3; have cc0 : wp.cell? ⟨g5, 0, none⟩ = some (.int .i64 a2_0) := ((K.out wp HX.out).2.2.1).cell 0; have cc1 : wp.cell? ⟨g5, 1, none⟩ = some (.int .i64 a2_1) := ((K.out wp HX.out).2.2.1).cell 1; have cc2 : wp.cell? ⟨g5, 2, none⟩ = some (.int .i64 a2_2) := ((K.out wp HX.out).2.2.1).cell 2; have cc3 : wp.cell? ⟨g5, 3, none⟩ = some (.int .i64 a2_3) := ((K.out wp HX.out).2.2.1).cell 3) | (go_at_call 64; (with_reducible refine (plane_Proper.calls a1_0 a1_1 a1_2 a1_3 _ _ HPy.out).mono ?_); rintro e wp ⟨rfl, hb⟩; have HX2 := Aside0.mk (below_then HX.out HX.out.size hb); clear hb HX; have HX := HX2; clear HX2; have ac0 : wp.cell? ⟨g3, 0, none⟩ = some (.int .i64 a0_0) := ((K.out wp HX.out).1).cell 0; have ac1 : wp.cell? ⟨g3, 1, none⟩ = some (.int .i64 a0_1) := ((K.out wp HX.out).1).cell 1; have ac2 : wp.cell? ⟨g3, 2, none⟩ = some (.int .i64 a0_2) := ((K.out wp HX.out).1).cell 2; have ac3 : wp.cell? ⟨g3, 3, none⟩ = some (.int .i64 a0_3) := ((K.out wp HX.out).1).cell 3; have bc0 : wp.cell? ⟨g4, 0, none⟩ = some (.int .i64 a1_0) := ((K.out wp HX.out).2.1).cell 0; have bc1 : wp.cell? ⟨g4, 1, none⟩ = some (.int .i64 a1_1) := ((K.out wp HX.out).2.1).cell 1; have bc2 : wp.cell? ⟨g4, 2, none⟩ = some (.int .i64 a1_2) := ((K.out wp HX.out).2.1).cell 2; have bc3 : wp.cell? ⟨g4, 3, none⟩ = some (.int .i64 a1_3) := ((K.out wp HX.out).2.1).cell 3; have cc0 : wp.cell? ⟨g5, 0, none⟩ = some (.int .i64 a2_0) := ((K.out wp HX.out).2.2.1).cell 0; have cc1 : wp.cell? ⟨g5, 1, none⟩ = some (.int .i64 a2_1) := ((K.out wp HX.out).2.2.1).cell 1; have cc2 : wp.cell? ⟨g5, 2, none⟩ = some (.int .i64 a2_2) := ((K.out wp HX.out).2.2.1).cell 2; have cc3 : wp.cell? ⟨g5, 3, none⟩ = some (.int .i64 a2_3) := ((K.out wp HX.out).2.2.1).cell 3) | (go_at_call 64; (with_reducible refine (plane_Proper.calls a2_0 a2_1 a2_2 a2_3 _ _ HPz.out).mono ?_); rintro e wp ⟨rfl, hb⟩; have HX2 := Aside0.mk (below_then HX.out HX.out.size hb); clear hb HX; have HX := HX2; clear HX2; have ac0 : wp.cell? ⟨g3, 0, none⟩ = some (.int .i64 a0_0) := ((K.out wp HX.out).1).cell 0; have ac1 : wp.cell? ⟨g3, 1, none⟩ = some (.int .i64 a0_1) := ((K.out wp HX.out).1).cell 1; have ac2 : wp.cell? ⟨g3, 2, none⟩ = some (.int .i64 a0_2) := ((K.out wp HX.out).1).cell 2; have ac3 : wp.cell? ⟨g3, 3, none⟩ = some (.int .i64 a0_3) := ((K.out wp HX.out).1).cell 3; have bc0 : wp.cell? ⟨g4, 0, none⟩ = some (.int .i64 a1_0) := ((K.out wp HX.out).2.1).cell 0; have bc1 : wp.cell? ⟨g4, 1, none⟩ = some (.int .i64 a1_1) := ((K.out wp HX.out).2.1).cell 1; have bc2 : wp.cell? ⟨g4, 2, none⟩ = some (.int .i64 a1_2) := ((K.out wp HX.out).2.1).cell 2; have bc3 : wp.cell? ⟨g4, 3, none⟩ = some (.int .i64 a1_3) := ((K.out wp HX.out).2.1).cell 3; have cc0 : wp.cell? ⟨g5, 0, none⟩ = some (.int .i64 a2_0) := ((K.out wp HX.out).2.2.1).cell 0; have cc1 : wp.cell? ⟨g5, 1, none⟩ = some (.int .i64 a2_1) := ((K.out wp HX.out).2.2.1).cell 1; have cc2 : wp.cell? ⟨g5, 2, none⟩ = some (.int .i64 a2_2) := ((K.out wp HX.out).2.2.1).cell 2; have cc3 : wp.cell? ⟨g5, 3, none⟩ = some (.int .i64 a2_3) := ((K.out wp HX.out).2.2.1).cell 3))
          go_meet
          case rel => exact ⟨rfl, ⟨K.out _ HX.out⟩⟩
        | true =>
          go_wp2_with (first | (go_at_call 64; (with_reducible refine (plane_Proper.calls a0_0 a0_1 a0_2 a0_3 _ _ HPx.out).mono ?_); rintro e wp ⟨rfl, hb⟩; have HX2 := Aside0.mk (below_then HX.out HX.out.size hb); clear hb HX; have HX := HX2; clear HX2; have ac0 : wp.cell? ⟨g3, 0, none⟩ = some (.int .i64 a0_0) := ((K.out wp HX.out).1).cell 0; have ac1 : wp.cell? ⟨g3, 1, none⟩ = some (.int .i64 a0_1) := ((K.out wp HX.out).1).cell 1; have ac2 : wp.cell? ⟨g3, 2, none⟩ = some (.int .i64 a0_2) := ((K.out wp HX.out).1).cell 2; have ac3 : wp.cell? ⟨g3, 3, none⟩ = some (.int .i64 a0_3) := ((K.out wp HX.out).1).cell 3; have bc0 : wp.cell? ⟨g4, 0, none⟩ = some (.int .i64 a1_0) := ((K.out wp HX.out).2.1).cell 0; have bc1 : wp.cell? ⟨g4, 1, none⟩ = some (.int .i64 a1_1) := ((K.out wp HX.out).2.1).cell 1; have bc2 : wp.cell? ⟨g4, 2, none⟩ = some (.int .i64 a1_2) := ((K.out wp HX.out).2.1).cell 2; have bc3 : wp.cell? ⟨g4, 3, none⟩ = some (.int .i64 a1_3) := ((K.out wp HX.out).2.1).cell 3; have cc0 : wp.cell? ⟨g5, 0, none⟩ = some (.int .i64 a2_0) := ((K.out wp HX.out).2.2.1).cell 0; have cc1 : wp.cell? ⟨g5, 1, none⟩ = some (.int .i64 a2_1) := ((K.out wp HX.out).2.2.1).cell 1; have cc2 : wp.cell? ⟨g5, 2, none⟩ = some (.int .i64 a2_2) := ((K.out wp HX.out).2.2.1).cell 2; have cc3 : wp.cell? ⟨g5, 3, none⟩ = some (.int .i64 a2_3) := ((K.out wp HX.out).2.2.1).cell 3) | (go_at_call 64; (with_reducible refine (plane_Proper.calls a1_0 a1_1 a1_2 a1_3 _ _ HPy.out).mono ?_); rintro e wp ⟨rfl, hb⟩; have HX2 := Aside0.mk (below_then HX.out HX.out.size hb); clear hb HX; have HX := HX2; clear HX2; have ac0 : wp.cell? ⟨g3, 0, none⟩ = some (.int .i64 a0_0) := ((K.out wp HX.out).1).cell 0; have ac1 : wp.cell? ⟨g3, 1, none⟩ = some (.int .i64 a0_1) := ((K.out wp HX.out).1).cell 1; have ac2 : wp.cell? ⟨g3, 2, none⟩ = some (.int .i64 a0_2) := ((K.out wp HX.out).1).cell 2; have ac3 : wp.cell? ⟨g3, 3, none⟩ = some (.int .i64 a0_3) := ((K.out wp HX.out).1).cell 3; have bc0 : wp.cell? ⟨g4, 0, none⟩ = some (.int .i64 a1_0) := ((K.out wp HX.out).2.1).cell 0; have bc1 : wp.cell? ⟨g4, 1, none⟩ = some (.int .i64 a1_1) := ((K.out wp HX.out).2.1).cell 1; have bc2 : wp.cell? ⟨g4, 2, none⟩ = some (.int .i64 a1_2) := ((K.out wp HX.out).2.1).cell 2; have bc3 : wp.cell? ⟨g4, 3, none⟩ = some (.int .i64 a1_3) := ((K.out wp HX.out).2.1).cell 3; have cc0 : wp.cell? ⟨g5, 0, none⟩ = some (.int .i64 a2_0) := ((K.out wp HX.out).2.2.1).cell 0; have cc1 : wp.cell? ⟨g5, 1, none⟩ = some (.int .i64 a2_1) := ((K.out wp HX.out).2.2.1).cell 1; have cc2 : wp.cell? ⟨g5, 2, none⟩ = some (.int .i64 a2_2) := ((K.out wp HX.out).2.2.1).cell 2; have cc3 : wp.cell? ⟨g5, 3, none⟩ = some (.int .i64 a2_3) := ((K.out wp HX.out).2.2.1).cell 3) | (go_at_call 64; (with_reducible refine (plane_Proper.calls a2_0 a2_1 a2_2 a2_3 _ _ HPz.out).mono ?_); rintro e wp ⟨rfl, hb⟩; have HX2 := Aside0.mk (below_then HX.out HX.out.size hb); clear hb HX; have HX := HX2; clear HX2; have ac0 : wp.cell? ⟨g3, 0, none⟩ = some (.int .i64 a0_0) := ((K.out wp HX.out).1).cell 0; have ac1 : wp.cell? ⟨g3, 1, none⟩ = some (.int .i64 a0_1) := ((K.out wp HX.out).1).cell 1; have ac2 : wp.cell? ⟨g3, 2, none⟩ = some (.int .i64 a0_2) := ((K.out wp HX.out).1).cell 2; have ac3 : wp.cell? ⟨g3, 3, none⟩ = some (.int .i64 a0_3) := ((K.out wp HX.out).1).cell 3; have bc0 : wp.cell? ⟨g4, 0, none⟩ = some (.int .i64 a1_0) := ((K.out wp HX.out).2.1).cell 0; have bc1 : wp.cell? ⟨g4, 1, none⟩ = some (.int .i64 a1_1) := ((K.out wp HX.out).2.1).cell 1; have bc2 : wp.cell? ⟨g4, 2, none⟩ = some (.int .i64 a1_2) := ((K.out wp HX.out).2.1).cell 2; have bc3 : wp.cell? ⟨g4, 3, none⟩ = some (.int .i64 a1_3) := ((K.out wp HX.out).2.1).cell 3; have cc0 : wp.cell? ⟨g5, 0, none⟩ = some (.int .i64 a2_0) := ((K.out wp HX.out).2.2.1).cell 0; have cc1 : wp.cell? ⟨g5, 1, none⟩ = some (.int .i64 a2_1) := ((K.out wp HX.out).2.2.1).cell 1; have cc2 : wp.cell? ⟨g5, 2, none⟩ = some (.int .i64 a2_2) := ((K.out wp HX.out).2.2.1).cell 2; have cc3 : wp.cell? ⟨g5, 3, none⟩ = some (.int .i64 a2_3) := ((K.out wp HX.out).2.2.1).cell 3))
          go_meet
          case rel => exact ⟨rfl, ⟨K.out _ HX.out⟩⟩
  case rest =>
    obtain ⟨rfl, KK⟩ := hcut
    clear K HW HX ac0 ac1 ac2 ac3 bc0 bc1 bc2 bc3 cc0 cc1 cc2 cc3
    by_cases hall : x = true ∧ y = true ∧ z = true
    · have hh := HH.out
      rw [if_pos hall] at hh
      simp only [Option.some.injEq, Prod.mk.injEq] at hh
      obtain ⟨rfl, rfl, rfl⟩ := hh
      obtain ⟨rfl, rfl, rfl⟩ := hall
      have HC0 := Aside0.mk (plane_Corners_ok HPx.out); have HC1 := Aside0.mk (plane_Corners_ok HPy.out); have HC2 := Aside0.mk (plane_Corners_ok HPz.out)
      clear HPx HPy HPz HH
      have HT := Aside0.mk (show plane_twice.f a0_0 a0_2 a1_0 a1_2 a2_0 a2_2 = some (twW ((corn a0_0 a0_1 a0_2 a0_3) 0) ((corn a1_0 a1_1 a1_2 a1_3) 0) ((corn a2_0 a2_1 a2_2 a2_3) 0)) from rfl)
      obtain ⟨first, hfirst⟩ : ∃ n, n = twW ((corn a0_0 a0_1 a0_2 a0_3) 0) ((corn a1_0 a1_1 a1_2 a1_3) 0) ((corn a2_0 a2_1 a2_2 a2_3) 0) := ⟨_, rfl⟩
      rw [← hfirst] at HT
      have HF := Aside0.mk hfirst
      clear hfirst
      have K := Aside0.mk (show ∀ X, Below wc.heap.size wc X → Blk X g3 #[.int .i64 a0_0, .int .i64 a0_1, .int .i64 a0_2, .int .i64 a0_3] 52 ∧ Blk X g4 #[.int .i64 a1_0, .int .i64 a1_1, .int .i64 a1_2, .int .i64 a1_3] 52 ∧ Blk X g5 #[.int .i64 a2_0, .int .i64 a2_1, .int .i64 a2_2, .int .i64 a2_3] 52 ∧ Blk X g6 #[.int .i64 0, .int .i64 0] 50 ∧ Below w.heap.size w X ∧ w.heap.size + 4 ≤ X.heap.size from
        fun X hb => by obtain ⟨d0, d1, d2, d3, d4, d5⟩ := KK.out; exact ⟨d0.below hb, d1.below hb, d2.below hb, d3.below hb, below_then d4 (by omega) hb, by have := hb.size; omega⟩)
      have HX := Aside0.mk (show Below wc.heap.size wc wc.drew from below_drew1 (Below.refl _ _))
      have ac0 : wc.cell? ⟨g3, 0, none⟩ = some (.int .i64 a0_0) := (KK.out.1).cell 0
      have ac1 : wc.cell? ⟨g3, 1, none⟩ = some (.int .i64 a0_1) := (KK.out.1).cell 1
      have ac2 : wc.cell? ⟨g3, 2, none⟩ = some (.int .i64 a0_2) := (KK.out.1).cell 2
      have ac3 : wc.cell? ⟨g3, 3, none⟩ = some (.int .i64 a0_3) := (KK.out.1).cell 3
      have bc0 : wc.cell? ⟨g4, 0, none⟩ = some (.int .i64 a1_0) := (KK.out.2.1).cell 0
      have bc1 : wc.cell? ⟨g4, 1, none⟩ = some (.int .i64 a1_1) := (KK.out.2.1).cell 1
      have bc2 : wc.cell? ⟨g4, 2, none⟩ = some (.int .i64 a1_2) := (KK.out.2.1).cell 2
      have bc3 : wc.cell? ⟨g4, 3, none⟩ = some (.int .i64 a1_3) := (KK.out.2.1).cell 3
      have cc0 : wc.cell? ⟨g5, 0, none⟩ = some (.int .i64 a2_0) := (KK.out.2.2.1).cell 0
      have cc1 : wc.cell? ⟨g5, 1, none⟩ = some (.int .i64 a2_1) := (KK.out.2.2.1).cell 1
      have cc2 : wc.cell? ⟨g5, 2, none⟩ = some (.int .i64 a2_2) := (KK.out.2.2.1).cell 2
      have cc3 : wc.cell? ⟨g5, 3, none⟩ = some (.int .i64 a2_3) := (KK.out.2.2.1).cell 3
      have ix0 : ∀ w, Sem.run Try.prog (Instr.index 82 (.agg #[.int .i64 a0_0, .int .i64 a0_2, .int .i64 a0_1, .int .i64 a0_2, .int .i64 a0_1, .int .i64 a0_3, .int .i64 a0_0, .int .i64 a0_3]) (.int .i64 0)) w = .ok (.agg #[.int .i64 a0_0, .int .i64 a0_2]) w := fun w => index_corn a0_0 a0_1 a0_2 a0_3 0 (by decide) w
      have ix1 : ∀ w, Sem.run Try.prog (Instr.index 82 (.agg #[.int .i64 a1_0, .int .i64 a1_2, .int .i64 a1_1, .int .i64 a1_2, .int .i64 a1_1, .int .i64 a1_3, .int .i64 a1_0, .int .i64 a1_3]) (.int .i64 0)) w = .ok (.agg #[.int .i64 a1_0, .int .i64 a1_2]) w := fun w => index_corn a1_0 a1_1 a1_2 a1_3 0 (by decide) w
      have ix2 : ∀ w, Sem.run Try.prog (Instr.index 82 (.agg #[.int .i64 a2_0, .int .i64 a2_2, .int .i64 a2_1, .int .i64 a2_2, .int .i64 a2_1, .int .i64 a2_3, .int .i64 a2_0, .int .i64 a2_3]) (.int .i64 0)) w = .ok (.agg #[.int .i64 a2_0, .int .i64 a2_2]) w := fun w => index_corn a2_0 a2_1 a2_2 a2_3 0 (by decide) w
      have hb : (!(true && true && true)) = false := rfl
      rw [hb]
      clear hb KK
      go_upto_region 3 with fail
      (try simp only [Act.put, List.setIfInBounds_toArray, List.set_cons_zero, List.set_cons_succ])
      go_cut [8] (fun v8 wd => v8 = .int .i64 first ∧ Aside0 (Blk wd g3 #[.int .i64 a0_0, .int .i64 a0_1, .int .i64 a0_2, .int .i64 a0_3] 52 ∧ Blk wd g4 #[.int .i64 a1_0, .int .i64 a1_1, .int .i64 a1_2, .int .i64 a1_3] 52 ∧ Blk wd g5 #[.int .i64 a2_0, .int .i64 a2_1, .int .i64 a2_2, .int .i64 a2_3] 52 ∧ Blk wd g6 #[.int .i64 0, .int .i64 0] 50 ∧ Below w.heap.size w wd ∧ w.heap.size + 4 ≤ wd.heap.size))
      case first =>
        go_region_held3 (fun X => X.cell? ⟨g3, 0, none⟩ = some (.int .i64 a0_0) ∧ X.cell? ⟨g3, 1, none⟩ = some (.int .i64 a0_1) ∧ X.cell? ⟨g3, 2, none⟩ = some (.int .i64 a0_2) ∧ X.cell? ⟨g3, 3, none⟩ = some (.int .i64 a0_3) ∧ X.cell? ⟨g4, 0, none⟩ = some (.int .i64 a1_0) ∧ X.cell? ⟨g4, 1, none⟩ = some (.int .i64 a1_1) ∧ X.cell? ⟨g4, 2, none⟩ = some (.int .i64 a1_2) ∧ X.cell? ⟨g4, 3, none⟩ = some (.int .i64 a1_3) ∧ X.cell? ⟨g5, 0, none⟩ = some (.int .i64 a2_0) ∧ X.cell? ⟨g5, 1, none⟩ = some (.int .i64 a2_1) ∧ X.cell? ⟨g5, 2, none⟩ = some (.int .i64 a2_2) ∧ X.cell? ⟨g5, 3, none⟩ = some (.int .i64 a2_3)) (first | (refine ⟨?_, ?_, ?_, ?_, ?_, ?_, ?_, ?_, ?_, ?_, ?_, ?_⟩ <;> assumption; done) | (go_keep; done)) (first | (go_at_call 68; (with_reducible refine (plane_Corners.calls a0_0 a0_1 a0_2 a0_3 _ _ _ _ _ _ _ _ _ HC0.out).mono ?_); rintro e wp ⟨rfl, hb⟩; have HX2 := Aside0.mk (below_then HX.out HX.out.size hb); clear hb HX; have HX := HX2; clear HX2; have ac0 : wp.cell? ⟨g3, 0, none⟩ = some (.int .i64 a0_0) := ((K.out wp HX.out).1).cell 0; have ac1 : wp.cell? ⟨g3, 1, none⟩ = some (.int .i64 a0_1) := ((K.out wp HX.out).1).cell 1; have ac2 : wp.cell? ⟨g3, 2, none⟩ = some (.int .i64 a0_2) := ((K.out wp HX.out).1).cell 2; have ac3 : wp.cell? ⟨g3, 3, none⟩ = some (.int .i64 a0_3) := ((K.out wp HX.out).1).cell 3; have bc0 : wp.cell? ⟨g4, 0, none⟩ = some (.int .i64 a1_0) := ((K.out wp HX.out).2.1).cell 0; have bc1 : wp.cell? ⟨g4, 1, none⟩ = some (.int .i64 a1_1) := ((K.out wp HX.out).2.1).cell 1; have bc2 : wp.cell? ⟨g4, 2, none⟩ = some (.int .i64 a1_2) := ((K.out wp HX.out).2.1).cell 2; have bc3 : wp.cell? ⟨g4, 3, none⟩ = some (.int .i64 a1_3) := ((K.out wp HX.out).2.1).cell 3; have cc0 : wp.cell? ⟨g5, 0, none⟩ = some (.int .i64 a2_0) := ((K.out wp HX.out).2.2.1).cell 0; have cc1 : wp.cell? ⟨g5, 1, none⟩ = some (.int .i64 a2_1) := ((K.out wp HX.out).2.2.1).cell 1; have cc2 : wp.cell? ⟨g5, 2, none⟩ = some (.int .i64 a2_2) := ((K.out wp HX.out).2.2.1).cell 2; have cc3 : wp.cell? ⟨g5, 3, none⟩ = some (.int .i64 a2_3) := ((K.out wp HX.out).2.2.1).cell 3) | (go_at_call 68; (with_reducible refine (plane_Corners.calls a1_0 a1_1 a1_2 a1_3 _ _ _ _ _ _ _ _ _ HC1.out).mono ?_); rintro e wp ⟨rfl, hb⟩; have HX2 := Aside0.mk (below_then HX.out HX.out.size hb); clear hb HX; have HX := HX2; clear HX2; have ac0 : wp.cell? ⟨g3, 0, none⟩ = some (.int .i64 a0_0) := ((K.out wp HX.out).1).cell 0; have ac1 : wp.cell? ⟨g3, 1, none⟩ = some (.int .i64 a0_1) := ((K.out wp HX.out).1).cell 1; have ac2 : wp.cell? ⟨g3, 2, none⟩ = some (.int .i64 a0_2) := ((K.out wp HX.out).1).cell 2; have ac3 : wp.cell? ⟨g3, 3, none⟩ = some (.int .i64 a0_3) := ((K.out wp HX.out).1).cell 3; have bc0 : wp.cell? ⟨g4, 0, none⟩ = some (.int .i64 a1_0) := ((K.out wp HX.out).2.1).cell 0; have bc1 : wp.cell? ⟨g4, 1, none⟩ = some (.int .i64 a1_1) := ((K.out wp HX.out).2.1).cell 1; have bc2 : wp.cell? ⟨g4, 2, none⟩ = some (.int .i64 a1_2) := ((K.out wp HX.out).2.1).cell 2; have bc3 : wp.cell? ⟨g4, 3, none⟩ = some (.int .i64 a1_3) := ((K.out wp HX.out).2.1).cell 3; have cc0 : wp.cell? ⟨g5, 0, none⟩ = some (.int .i64 a2_0) := ((K.out wp HX.out).2.2.1).cell 0; have cc1 : wp.cell? ⟨g5, 1, none⟩ = some (.int .i64 a2_1) := ((K.out wp HX.out).2.2.1).cell 1; have cc2 : wp.cell? ⟨g5, 2, none⟩ = some (.int .i64 a2_2) := ((K.out wp HX.out).2.2.1).cell 2; have cc3 : wp.cell? ⟨g5, 3, none⟩ = some (.int .i64 a2_3) := ((K.out wp HX.out).2.2.1).cell 3) | (go_at_call 68; (with_reducible refine (plane_Corners.calls a2_0 a2_1 a2_2 a2_3 _ _ _ _ _ _ _ _ _ HC2.out).mono ?_); rintro e wp ⟨rfl, hb⟩; have HX2 := Aside0.mk (below_then HX.out HX.out.size hb); clear hb HX; have HX := HX2; clear HX2; have ac0 : wp.cell? ⟨g3, 0, none⟩ = some (.int .i64 a0_0) := ((K.out wp HX.out).1).cell 0; have ac1 : wp.cell? ⟨g3, 1, none⟩ = some (.int .i64 a0_1) := ((K.out wp HX.out).1).cell 1; have ac2 : wp.cell? ⟨g3, 2, none⟩ = some (.int .i64 a0_2) := ((K.out wp HX.out).1).cell 2; have ac3 : wp.cell? ⟨g3, 3, none⟩ = some (.int .i64 a0_3) := ((K.out wp HX.out).1).cell 3; have bc0 : wp.cell? ⟨g4, 0, none⟩ = some (.int .i64 a1_0) := ((K.out wp HX.out).2.1).cell 0; have bc1 : wp.cell? ⟨g4, 1, none⟩ = some (.int .i64 a1_1) := ((K.out wp HX.out).2.1).cell 1; have bc2 : wp.cell? ⟨g4, 2, none⟩ = some (.int .i64 a1_2) := ((K.out wp HX.out).2.1).cell 2; have bc3 : wp.cell? ⟨g4, 3, none⟩ = some (.int .i64 a1_3) := ((K.out wp HX.out).2.1).cell 3; have cc0 : wp.cell? ⟨g5, 0, none⟩ = some (.int .i64 a2_0) := ((K.out wp HX.out).2.2.1).cell 0; have cc1 : wp.cell? ⟨g5, 1, none⟩ = some (.int .i64 a2_1) := ((K.out wp HX.out).2.2.1).cell 1; have cc2 : wp.cell? ⟨g5, 2, none⟩ = some (.int .i64 a2_2) := ((K.out wp HX.out).2.2.1).cell 2; have cc3 : wp.cell? ⟨g5, 3, none⟩ = some (.int .i64 a2_3) := ((K.out wp HX.out).2.2.1).cell 3) | (go_at_call 80; (with_reducible refine (plane_twice.calls _ _ _ _ _ _ _ _ HT.out).mono ?_); rintro e wp ⟨rfl, hb⟩; have HX2 := Aside0.mk (below_then HX.out HX.out.size hb); clear hb HX; have HX := HX2; clear HX2; have ac0 : wp.cell? ⟨g3, 0, none⟩ = some (.int .i64 a0_0) := ((K.out wp HX.out).1).cell 0; have ac1 : wp.cell? ⟨g3, 1, none⟩ = some (.int .i64 a0_1) := ((K.out wp HX.out).1).cell 1; have ac2 : wp.cell? ⟨g3, 2, none⟩ = some (.int .i64 a0_2) := ((K.out wp HX.out).1).cell 2; have ac3 : wp.cell? ⟨g3, 3, none⟩ = some (.int .i64 a0_3) := ((K.out wp HX.out).1).cell 3; have bc0 : wp.cell? ⟨g4, 0, none⟩ = some (.int .i64 a1_0) := ((K.out wp HX.out).2.1).cell 0; have bc1 : wp.cell? ⟨g4, 1, none⟩ = some (.int .i64 a1_1) := ((K.out wp HX.out).2.1).cell 1; have bc2 : wp.cell? ⟨g4, 2, none⟩ = some (.int .i64 a1_2) := ((K.out wp HX.out).2.1).cell 2; have bc3 : wp.cell? ⟨g4, 3, none⟩ = some (.int .i64 a1_3) := ((K.out wp HX.out).2.1).cell 3; have cc0 : wp.cell? ⟨g5, 0, none⟩ = some (.int .i64 a2_0) := ((K.out wp HX.out).2.2.1).cell 0; have cc1 : wp.cell? ⟨g5, 1, none⟩ = some (.int .i64 a2_1) := ((K.out wp HX.out).2.2.1).cell 1; have cc2 : wp.cell? ⟨g5, 2, none⟩ = some (.int .i64 a2_2) := ((K.out wp HX.out).2.2.1).cell 2; have cc3 : wp.cell? ⟨g5, 3, none⟩ = some (.int .i64 a2_3) := ((K.out wp HX.out).2.2.1).cell 3))
        all_goals (first | go_meet | (go_wp2; go_meet))
        all_goals exact ⟨rfl, ⟨K.out _ HX.out⟩⟩
      case rest =>
        obtain ⟨rfl, KK⟩ := hcut
        clear K HX ac0 ac1 ac2 ac3 bc0 bc1 bc2 bc3 cc0 cc1 cc2 cc3 ix0 ix1 ix2
        go_upto_region 5 with fail
        obtain ⟨g9, hg9⟩ : ∃ g, g = wc.heap.size := ⟨_, rfl⟩
        obtain ⟨W4, hW4⟩ : ∃ W4, wc.alloc (.cells #[.int .i64 first, .int .i64 first] 50) = W4 := ⟨_, rfl⟩
        rw [hW4, ← hg9]
        have KK4 := Aside0.mk (show (Blk W4 g3 #[.int .i64 a0_0, .int .i64 a0_1, .int .i64 a0_2, .int .i64 a0_3] 52 ∧ Blk W4 g4 #[.int .i64 a1_0, .int .i64 a1_1, .int .i64 a1_2, .int .i64 a1_3] 52 ∧ Blk W4 g5 #[.int .i64 a2_0, .int .i64 a2_1, .int .i64 a2_2, .int .i64 a2_3] 52 ∧ Blk W4 g6 #[.int .i64 0, .int .i64 0] 50 ∧ Below w.heap.size w W4 ∧ w.heap.size + 4 ≤ W4.heap.size) ∧ Blk W4 g9 #[.int .i64 first, .int .i64 first] 50 by
          obtain ⟨d0, d1, d2, d3, d4, d5⟩ := KK.out
          rw [← hW4, hg9]
          exact ⟨⟨d0.alloc _, d1.alloc _, d2.alloc _, d3.alloc _, d4.alloc (by omega) _, by simp; omega⟩, Blk.new wc 50 _⟩)
        have N := Aside0.mk (show g3 ≠ g9 ∧ g4 ≠ g9 ∧ g5 ≠ g9 ∧ g6 ≠ g9 ∧ w.heap.size ≤ g9 by
          obtain ⟨d0, d1, d2, d3, d4, d5⟩ := KK.out
          have := d0.lt; have := d1.lt; have := d2.lt; have := d3.lt
          omega)
        clear hg9 hW4 KK
        have K := Aside0.mk (show ∀ X, Below W4.heap.size W4 X → (Blk X g3 #[.int .i64 a0_0, .int .i64 a0_1, .int .i64 a0_2, .int .i64 a0_3] 52 ∧ Blk X g4 #[.int .i64 a1_0, .int .i64 a1_1, .int .i64 a1_2, .int .i64 a1_3] 52 ∧ Blk X g5 #[.int .i64 a2_0, .int .i64 a2_1, .int .i64 a2_2, .int .i64 a2_3] 52 ∧ Blk X g6 #[.int .i64 0, .int .i64 0] 50 ∧ Below w.heap.size w X ∧ w.heap.size + 4 ≤ X.heap.size) ∧ Blk X g9 #[.int .i64 first, .int .i64 first] 50 from fun X hb => by obtain ⟨⟨d0, d1, d2, d3, d4, d5⟩, e0⟩ := KK4.out; exact ⟨⟨d0.below hb, d1.below hb, d2.below hb, d3.below hb, below_then d4 (by omega) hb, by have := hb.size; omega⟩, e0.below hb⟩); have HX := Aside0.mk (Below.refl W4.heap.size W4)
        have ac0 : W4.cell? ⟨g3, 0, none⟩ = some (.int .i64 a0_0) := (KK4.out.1.1).cell 0
        have ac1 : W4.cell? ⟨g3, 1, none⟩ = some (.int .i64 a0_1) := (KK4.out.1.1).cell 1
        have ac2 : W4.cell? ⟨g3, 2, none⟩ = some (.int .i64 a0_2) := (KK4.out.1.1).cell 2
        have ac3 : W4.cell? ⟨g3, 3, none⟩ = some (.int .i64 a0_3) := (KK4.out.1.1).cell 3
        have bc0 : W4.cell? ⟨g4, 0, none⟩ = some (.int .i64 a1_0) := (KK4.out.1.2.1).cell 0
        have bc1 : W4.cell? ⟨g4, 1, none⟩ = some (.int .i64 a1_1) := (KK4.out.1.2.1).cell 1
        have bc2 : W4.cell? ⟨g4, 2, none⟩ = some (.int .i64 a1_2) := (KK4.out.1.2.1).cell 2
        have bc3 : W4.cell? ⟨g4, 3, none⟩ = some (.int .i64 a1_3) := (KK4.out.1.2.1).cell 3
        have cc0 : W4.cell? ⟨g5, 0, none⟩ = some (.int .i64 a2_0) := (KK4.out.1.2.2.1).cell 0
        have cc1 : W4.cell? ⟨g5, 1, none⟩ = some (.int .i64 a2_1) := (KK4.out.1.2.2.1).cell 1
        have cc2 : W4.cell? ⟨g5, 2, none⟩ = some (.int .i64 a2_2) := (KK4.out.1.2.2.1).cell 2
        have cc3 : W4.cell? ⟨g5, 3, none⟩ = some (.int .i64 a2_3) := (KK4.out.1.2.2.1).cell 3
        go_wp2_with (go_at_call 68; (with_reducible refine (plane_Corners.calls a0_0 a0_1 a0_2 a0_3 _ _ _ _ _ _ _ _ _ HC0.out).mono ?_); rintro e ws ⟨rfl, hb⟩; have HX2 := Aside0.mk (below_then HX.out HX.out.size hb); clear hb HX; have HX := HX2; clear HX2)
        have KS := Aside0.mk (K.out ws HX.out)
        clear K HX KK4 ac0 ac1 ac2 ac3 bc0 bc1 bc2 bc3 cc0 cc1 cc2 cc3
        go_loopw [46] (fun v46 wr => ∃ (i : Nat) (lo hi : Int), i ≤ 4 ∧ v46 = .int .i64 i ∧ Aside0 ((lo, hi) = outL (corn a0_0 a0_1 a0_2 a0_3) (corn a1_0 a1_1 a1_2 a1_3) (corn a2_0 a2_1 a2_2 a2_3) i (first, first)) ∧ Aside0 ((Blk wr g3 #[.int .i64 a0_0, .int .i64 a0_1, .int .i64 a0_2, .int .i64 a0_3] 52 ∧ Blk wr g4 #[.int .i64 a1_0, .int .i64 a1_1, .int .i64 a1_2, .int .i64 a1_3] 52 ∧ Blk wr g5 #[.int .i64 a2_0, .int .i64 a2_1, .int .i64 a2_2, .int .i64 a2_3] 52 ∧ Blk wr g6 #[.int .i64 0, .int .i64 0] 50 ∧ Below w.heap.size w wr ∧ w.heap.size + 4 ≤ wr.heap.size) ∧ Blk wr g9 #[.int .i64 lo, .int .i64 hi] 50)) (fun v46 _ => 4 - (intOf v46).toNat)
        case atStart => exact ⟨0, first, first, by omega, rfl, ⟨rfl⟩, KS⟩
        case round =>
          clear KS
          obtain ⟨i, lo, hi, hi4, rfl, HO, KR⟩ := hrel
          by_cases hlt : i < 4
          · have ixa := fun w => index_corn a0_0 a0_1 a0_2 a0_3 i hlt w
            obtain ⟨p, hp⟩ : ∃ p, (corn a0_0 a0_1 a0_2 a0_3) i = p := ⟨_, rfl⟩
            rw [hp] at ixa
            have HPp := Aside0.mk hp
            clear hp
            go_upto_region 8 with fail
            obtain ⟨g11, hg11⟩ : ∃ g, g = wr.heap.size := ⟨_, rfl⟩
            obtain ⟨W7, hW7⟩ : ∃ W, wr.alloc (.cells #[.int .i64 p.f0, .int .i64 p.f1] 23) = W := ⟨_, rfl⟩
            rw [hW7, ← hg11]
            have K7 := Aside0.mk (show (Blk W7 g3 #[.int .i64 a0_0, .int .i64 a0_1, .int .i64 a0_2, .int .i64 a0_3] 52 ∧ Blk W7 g4 #[.int .i64 a1_0, .int .i64 a1_1, .int .i64 a1_2, .int .i64 a1_3] 52 ∧ Blk W7 g5 #[.int .i64 a2_0, .int .i64 a2_1, .int .i64 a2_2, .int .i64 a2_3] 52 ∧ Blk W7 g6 #[.int .i64 0, .int .i64 0] 50 ∧ Below w.heap.size w W7 ∧ w.heap.size + 4 ≤ W7.heap.size) ∧ Blk W7 g9 #[.int .i64 lo, .int .i64 hi] 50 ∧ Blk W7 g11 #[.int .i64 p.f0, .int .i64 p.f1] 23 by
              obtain ⟨⟨d0, d1, d2, d3, d4, d5⟩, e0⟩ := KR.out
              rw [← hW7, hg11]
              exact ⟨⟨d0.alloc _, d1.alloc _, d2.alloc _, d3.alloc _, d4.alloc (by omega) _, by simp; omega⟩, e0.alloc _, Blk.new wr 23 _⟩)
            have Ng11 := Aside0.mk (show g11 ≠ g9 by have := KR.out.2.lt; omega)
            clear hg11 hW7 KR
            clear ixa
            have K := Aside0.mk (show ∀ X, Below W7.heap.size W7 X → (Blk X g3 #[.int .i64 a0_0, .int .i64 a0_1, .int .i64 a0_2, .int .i64 a0_3] 52 ∧ Blk X g4 #[.int .i64 a1_0, .int .i64 a1_1, .int .i64 a1_2, .int .i64 a1_3] 52 ∧ Blk X g5 #[.int .i64 a2_0, .int .i64 a2_1, .int .i64 a2_2, .int .i64 a2_3] 52 ∧ Blk X g6 #[.int .i64 0, .int .i64 0] 50 ∧ Below w.heap.size w X ∧ w.heap.size + 4 ≤ X.heap.size) ∧ Blk X g9 #[.int .i64 lo, .int .i64 hi] 50 ∧ Blk X g11 #[.int .i64 p.f0, .int .i64 p.f1] 23 from fun X hb => by obtain ⟨⟨d0, d1, d2, d3, d4, d5⟩, e0, e1⟩ := K7.out; exact ⟨⟨d0.below hb, d1.below hb, d2.below hb, d3.below hb, below_then d4 (by omega) hb, by have := hb.size; omega⟩, e0.below hb, e1.below hb⟩); have HX := Aside0.mk (Below.refl W7.heap.size W7)
            have ac0 : W7.cell? ⟨g3, 0, none⟩ = some (.int .i64 a0_0) := (K7.out.1.1).cell 0
            have ac1 : W7.cell? ⟨g3, 1, none⟩ = some (.int .i64 a0_1) := (K7.out.1.1).cell 1
            have ac2 : W7.cell? ⟨g3, 2, none⟩ = some (.int .i64 a0_2) := (K7.out.1.1).cell 2
            have ac3 : W7.cell? ⟨g3, 3, none⟩ = some (.int .i64 a0_3) := (K7.out.1.1).cell 3
            have bc0 : W7.cell? ⟨g4, 0, none⟩ = some (.int .i64 a1_0) := (K7.out.1.2.1).cell 0
            have bc1 : W7.cell? ⟨g4, 1, none⟩ = some (.int .i64 a1_1) := (K7.out.1.2.1).cell 1
            have bc2 : W7.cell? ⟨g4, 2, none⟩ = some (.int .i64 a1_2) := (K7.out.1.2.1).cell 2
            have bc3 : W7.cell? ⟨g4, 3, none⟩ = some (.int .i64 a1_3) := (K7.out.1.2.1).cell 3
            have cc0 : W7.cell? ⟨g5, 0, none⟩ = some (.int .i64 a2_0) := (K7.out.1.2.2.1).cell 0
            have cc1 : W7.cell? ⟨g5, 1, none⟩ = some (.int .i64 a2_1) := (K7.out.1.2.2.1).cell 1
            have cc2 : W7.cell? ⟨g5, 2, none⟩ = some (.int .i64 a2_2) := (K7.out.1.2.2.1).cell 2
            have cc3 : W7.cell? ⟨g5, 3, none⟩ = some (.int .i64 a2_3) := (K7.out.1.2.2.1).cell 3
            go_wp2_with (go_at_call 68; (with_reducible refine (plane_Corners.calls a1_0 a1_1 a1_2 a1_3 _ _ _ _ _ _ _ _ _ HC1.out).mono ?_); rintro e ws ⟨rfl, hb⟩; have HX2 := Aside0.mk (below_then HX.out HX.out.size hb); clear hb HX; have HX := HX2; clear HX2)
            have KS := Aside0.mk (K.out ws HX.out)
            clear K HX K7 ac0 ac1 ac2 ac3 bc0 bc1 bc2 bc3 cc0 cc1 cc2 cc3
            go_loopw [51] (fun v51 wr => ∃ (j : Nat) (lo1 hi1 : Int), j ≤ 4 ∧ v51 = .int .i64 j ∧ Aside0 ((lo1, hi1) = midL p (corn a1_0 a1_1 a1_2 a1_3) (corn a2_0 a2_1 a2_2 a2_3) j (lo, hi)) ∧ Aside0 ((Blk wr g3 #[.int .i64 a0_0, .int .i64 a0_1, .int .i64 a0_2, .int .i64 a0_3] 52 ∧ Blk wr g4 #[.int .i64 a1_0, .int .i64 a1_1, .int .i64 a1_2, .int .i64 a1_3] 52 ∧ Blk wr g5 #[.int .i64 a2_0, .int .i64 a2_1, .int .i64 a2_2, .int .i64 a2_3] 52 ∧ Blk wr g6 #[.int .i64 0, .int .i64 0] 50 ∧ Below w.heap.size w wr ∧ w.heap.size + 4 ≤ wr.heap.size) ∧ Blk wr g9 #[.int .i64 lo1, .int .i64 hi1] 50 ∧ Blk wr g11 #[.int .i64 p.f0, .int .i64 p.f1] 23)) (fun v51 _ => 4 - (intOf v51).toNat)
            case atStart => exact ⟨0, lo, hi, by omega, rfl, ⟨rfl⟩, KS⟩
            case round =>
              clear KS
              obtain ⟨j, lo1, hi1, hj4, rfl, HM, KR1⟩ := hrel
              by_cases hlt1 : j < 4
              · have ixb := fun w => index_corn a1_0 a1_1 a1_2 a1_3 j hlt1 w
                obtain ⟨q, hq⟩ : ∃ p, (corn a1_0 a1_1 a1_2 a1_3) j = p := ⟨_, rfl⟩
                rw [hq] at ixb
                have HPq := Aside0.mk hq
                clear hq
                go_upto_region 11 with fail
                obtain ⟨g13, hg13⟩ : ∃ g, g = wr.heap.size := ⟨_, rfl⟩
                obtain ⟨W10, hW10⟩ : ∃ W, wr.alloc (.cells #[.int .i64 q.f0, .int .i64 q.f1] 23) = W := ⟨_, rfl⟩
                rw [hW10, ← hg13]
                have K10 := Aside0.mk (show (Blk W10 g3 #[.int .i64 a0_0, .int .i64 a0_1, .int .i64 a0_2, .int .i64 a0_3] 52 ∧ Blk W10 g4 #[.int .i64 a1_0, .int .i64 a1_1, .int .i64 a1_2, .int .i64 a1_3] 52 ∧ Blk W10 g5 #[.int .i64 a2_0, .int .i64 a2_1, .int .i64 a2_2, .int .i64 a2_3] 52 ∧ Blk W10 g6 #[.int .i64 0, .int .i64 0] 50 ∧ Below w.heap.size w W10 ∧ w.heap.size + 4 ≤ W10.heap.size) ∧ Blk W10 g9 #[.int .i64 lo1, .int .i64 hi1] 50 ∧ Blk W10 g11 #[.int .i64 p.f0, .int .i64 p.f1] 23 ∧ Blk W10 g13 #[.int .i64 q.f0, .int .i64 q.f1] 23 by
                  obtain ⟨⟨d0, d1, d2, d3, d4, d5⟩, e0, e1⟩ := KR1.out
                  rw [← hW10, hg13]
                  exact ⟨⟨d0.alloc _, d1.alloc _, d2.alloc _, d3.alloc _, d4.alloc (by omega) _, by simp; omega⟩, e0.alloc _, e1.alloc _, Blk.new wr 23 _⟩)
                have Ng13 := Aside0.mk (show g13 ≠ g9 by have := KR1.out.2.1.lt; omega)
                clear hg13 hW10 KR1
                clear ixb
                have K := Aside0.mk (show ∀ X, Below W10.heap.size W10 X → (Blk X g3 #[.int .i64 a0_0, .int .i64 a0_1, .int .i64 a0_2, .int .i64 a0_3] 52 ∧ Blk X g4 #[.int .i64 a1_0, .int .i64 a1_1, .int .i64 a1_2, .int .i64 a1_3] 52 ∧ Blk X g5 #[.int .i64 a2_0, .int .i64 a2_1, .int .i64 a2_2, .int .i64 a2_3] 52 ∧ Blk X g6 #[.int .i64 0, .int .i64 0] 50 ∧ Below w.heap.size w X ∧ w.heap.size + 4 ≤ X.heap.size) ∧ Blk X g9 #[.int .i64 lo1, .int .i64 hi1] 50 ∧ Blk X g11 #[.int .i64 p.f0, .int .i64 p.f1] 23 ∧ Blk X g13 #[.int .i64 q.f0, .int .i64 q.f1] 23 from fun X hb => by obtain ⟨⟨d0, d1, d2, d3, d4, d5⟩, e0, e1, e2⟩ := K10.out; exact ⟨⟨d0.below hb, d1.below hb, d2.below hb, d3.below hb, below_then d4 (by omega) hb, by have := hb.size; omega⟩, e0.below hb, e1.below hb, e2.below hb⟩); have HX := Aside0.mk (Below.refl W10.heap.size W10)
                have ac0 : W10.cell? ⟨g3, 0, none⟩ = some (.int .i64 a0_0) := (K10.out.1.1).cell 0
                have ac1 : W10.cell? ⟨g3, 1, none⟩ = some (.int .i64 a0_1) := (K10.out.1.1).cell 1
                have ac2 : W10.cell? ⟨g3, 2, none⟩ = some (.int .i64 a0_2) := (K10.out.1.1).cell 2
                have ac3 : W10.cell? ⟨g3, 3, none⟩ = some (.int .i64 a0_3) := (K10.out.1.1).cell 3
                have bc0 : W10.cell? ⟨g4, 0, none⟩ = some (.int .i64 a1_0) := (K10.out.1.2.1).cell 0
                have bc1 : W10.cell? ⟨g4, 1, none⟩ = some (.int .i64 a1_1) := (K10.out.1.2.1).cell 1
                have bc2 : W10.cell? ⟨g4, 2, none⟩ = some (.int .i64 a1_2) := (K10.out.1.2.1).cell 2
                have bc3 : W10.cell? ⟨g4, 3, none⟩ = some (.int .i64 a1_3) := (K10.out.1.2.1).cell 3
                have cc0 : W10.cell? ⟨g5, 0, none⟩ = some (.int .i64 a2_0) := (K10.out.1.2.2.1).cell 0
                have cc1 : W10.cell? ⟨g5, 1, none⟩ = some (.int .i64 a2_1) := (K10.out.1.2.2.1).cell 1
                have cc2 : W10.cell? ⟨g5, 2, none⟩ = some (.int .i64 a2_2) := (K10.out.1.2.2.1).cell 2
                have cc3 : W10.cell? ⟨g5, 3, none⟩ = some (.int .i64 a2_3) := (K10.out.1.2.2.1).cell 3
                go_wp2_with (go_at_call 68; (with_reducible refine (plane_Corners.calls a2_0 a2_1 a2_2 a2_3 _ _ _ _ _ _ _ _ _ HC2.out).mono ?_); rintro e ws ⟨rfl, hb⟩; have HX2 := Aside0.mk (below_then HX.out HX.out.size hb); clear hb HX; have HX := HX2; clear HX2)
                have KS := Aside0.mk (K.out ws HX.out)
                clear K HX K10 ac0 ac1 ac2 ac3 bc0 bc1 bc2 bc3 cc0 cc1 cc2 cc3
                go_loopw [56] (fun v56 wr => ∃ (k : Nat) (lo2 hi2 : Int), k ≤ 4 ∧ v56 = .int .i64 k ∧ Aside0 ((lo2, hi2) = inL p q (corn a2_0 a2_1 a2_2 a2_3) k (lo1, hi1)) ∧ Aside0 ((Blk wr g3 #[.int .i64 a0_0, .int .i64 a0_1, .int .i64 a0_2, .int .i64 a0_3] 52 ∧ Blk wr g4 #[.int .i64 a1_0, .int .i64 a1_1, .int .i64 a1_2, .int .i64 a1_3] 52 ∧ Blk wr g5 #[.int .i64 a2_0, .int .i64 a2_1, .int .i64 a2_2, .int .i64 a2_3] 52 ∧ Blk wr g6 #[.int .i64 0, .int .i64 0] 50 ∧ Below w.heap.size w wr ∧ w.heap.size + 4 ≤ wr.heap.size) ∧ Blk wr g9 #[.int .i64 lo2, .int .i64 hi2] 50 ∧ Blk wr g11 #[.int .i64 p.f0, .int .i64 p.f1] 23 ∧ Blk wr g13 #[.int .i64 q.f0, .int .i64 q.f1] 23)) (fun v56 _ => 4 - (intOf v56).toNat)
                case atStart => exact ⟨0, lo1, hi1, by omega, rfl, ⟨rfl⟩, KS⟩
                case round =>
                  clear KS
                  obtain ⟨k, lo2, hi2, hk4, rfl, HI, KR2⟩ := hrel
                  by_cases hlt2 : k < 4
                  · have ixc := fun w => index_corn a2_0 a2_1 a2_2 a2_3 k hlt2 w
                    obtain ⟨r, hr⟩ : ∃ p, (corn a2_0 a2_1 a2_2 a2_3) k = p := ⟨_, rfl⟩
                    rw [hr] at ixc
                    have HPr := Aside0.mk hr
                    clear hr
                    go_upto_region 14 with fail
                    obtain ⟨g15, hg15⟩ : ∃ g, g = wr.heap.size := ⟨_, rfl⟩
                    obtain ⟨W13, hW13⟩ : ∃ W, wr.alloc (.cells #[.int .i64 r.f0, .int .i64 r.f1] 23) = W := ⟨_, rfl⟩
                    rw [hW13, ← hg15]
                    have K13 := Aside0.mk (show (Blk W13 g3 #[.int .i64 a0_0, .int .i64 a0_1, .int .i64 a0_2, .int .i64 a0_3] 52 ∧ Blk W13 g4 #[.int .i64 a1_0, .int .i64 a1_1, .int .i64 a1_2, .int .i64 a1_3] 52 ∧ Blk W13 g5 #[.int .i64 a2_0, .int .i64 a2_1, .int .i64 a2_2, .int .i64 a2_3] 52 ∧ Blk W13 g6 #[.int .i64 0, .int .i64 0] 50 ∧ Below w.heap.size w W13 ∧ w.heap.size + 4 ≤ W13.heap.size) ∧ Blk W13 g9 #[.int .i64 lo2, .int .i64 hi2] 50 ∧ Blk W13 g11 #[.int .i64 p.f0, .int .i64 p.f1] 23 ∧ Blk W13 g13 #[.int .i64 q.f0, .int .i64 q.f1] 23 ∧ Blk W13 g15 #[.int .i64 r.f0, .int .i64 r.f1] 23 by
                      obtain ⟨⟨d0, d1, d2, d3, d4, d5⟩, e0, e1, e2⟩ := KR2.out
                      rw [← hW13, hg15]
                      exact ⟨⟨d0.alloc _, d1.alloc _, d2.alloc _, d3.alloc _, d4.alloc (by omega) _, by simp; omega⟩, e0.alloc _, e1.alloc _, e2.alloc _, Blk.new wr 23 _⟩)
                    have Ng15 := Aside0.mk (show g15 ≠ g9 by have := KR2.out.2.1.lt; omega)
                    clear hg15 hW13 KR2
                    clear ixc
                    have K := Aside0.mk (show ∀ X, Below W13.heap.size W13 X → (Blk X g3 #[.int .i64 a0_0, .int .i64 a0_1, .int .i64 a0_2, .int .i64 a0_3] 52 ∧ Blk X g4 #[.int .i64 a1_0, .int .i64 a1_1, .int .i64 a1_2, .int .i64 a1_3] 52 ∧ Blk X g5 #[.int .i64 a2_0, .int .i64 a2_1, .int .i64 a2_2, .int .i64 a2_3] 52 ∧ Blk X g6 #[.int .i64 0, .int .i64 0] 50 ∧ Below w.heap.size w X ∧ w.heap.size + 4 ≤ X.heap.size) ∧ Blk X g9 #[.int .i64 lo2, .int .i64 hi2] 50 ∧ Blk X g11 #[.int .i64 p.f0, .int .i64 p.f1] 23 ∧ Blk X g13 #[.int .i64 q.f0, .int .i64 q.f1] 23 ∧ Blk X g15 #[.int .i64 r.f0, .int .i64 r.f1] 23 from fun X hb => by obtain ⟨⟨d0, d1, d2, d3, d4, d5⟩, e0, e1, e2, e3⟩ := K13.out; exact ⟨⟨d0.below hb, d1.below hb, d2.below hb, d3.below hb, below_then d4 (by omega) hb, by have := hb.size; omega⟩, e0.below hb, e1.below hb, e2.below hb, e3.below hb⟩); have HX := Aside0.mk (Below.refl W13.heap.size W13)
                    obtain ⟨n, hn⟩ : ∃ n, twW p q r = n := ⟨_, rfl⟩
                    have HT2 := Aside0.mk (show plane_twice.f p.f0 p.f1 q.f0 q.f1 r.f0 r.f1 = some n by rw [← hn]; rfl)
                    have HN := Aside0.mk hn
                    have HCV := Aside0.mk (show plane_cover.f lo2 hi2 n n = some (mn lo2 n, mx hi2 n) from rfl)
                    clear hn
                    have pc0 : W13.cell? ⟨g11, 0, none⟩ = some (.int .i64 p.f0) := (K13.out.2.2.1).cell 0; have pc1 : W13.cell? ⟨g11, 1, none⟩ = some (.int .i64 p.f1) := (K13.out.2.2.1).cell 1
                    have qc0 : W13.cell? ⟨g13, 0, none⟩ = some (.int .i64 q.f0) := (K13.out.2.2.2.1).cell 0; have qc1 : W13.cell? ⟨g13, 1, none⟩ = some (.int .i64 q.f1) := (K13.out.2.2.2.1).cell 1
                    have rc0 : W13.cell? ⟨g15, 0, none⟩ = some (.int .i64 r.f0) := (K13.out.2.2.2.2).cell 0; have rc1 : W13.cell? ⟨g15, 1, none⟩ = some (.int .i64 r.f1) := (K13.out.2.2.2.2).cell 1
                    go_wp2_with (first | (go_at_call 80; (with_reducible refine (plane_twice.calls _ _ _ _ _ _ _ _ HT2.out).mono ?_); rintro e wt ⟨rfl, hb⟩; have HX2 := Aside0.mk (below_then HX.out HX.out.size hb); clear hb HX; have HX := HX2; clear HX2; have oc0 : wt.cell? ⟨g9, 0, none⟩ = some (.int .i64 lo2) := ((K.out wt HX.out).2.1).cell 0; have oc1 : wt.cell? ⟨g9, 1, none⟩ = some (.int .i64 hi2) := ((K.out wt HX.out).2.1).cell 1) | (go_at_call 115; (with_reducible refine (plane_cover.calls _ _ _ _ _ _ _ HCV.out).mono ?_); rintro e wu ⟨rfl, hb⟩; have HX2 := Aside0.mk (below_then HX.out HX.out.size hb); clear hb HX; have HX := HX2; clear HX2; have uc0 : wu.cell? ⟨g9, 0, none⟩ = some (.int .i64 lo2) := ((K.out wu HX.out).2.1).cell 0; have uf0 := ((K.out wu HX.out).2.1).frozen 0; have uc1 : wu.cell? ⟨g9, 1, none⟩ = some (.int .i64 hi2) := ((K.out wu HX.out).2.1).cell 1; have uf1 := ((K.out wu HX.out).2.1).frozen 1))
                    go_roundw
                    case rel =>
                      obtain ⟨⟨d0, d1, d2, d3, d4, d5⟩, e0, e1, e2, e3⟩ := K.out wu HX.out
                      exact ⟨k + 1, mn lo2 n, mx hi2 n, by omega, by go_num, ⟨by show _ = covN (inL p q (corn a2_0 a2_1 a2_2 a2_3) k (lo1, hi1)) (twW p q ((corn a2_0 a2_1 a2_2 a2_3) k)); rw [← HI.out, HPr.out, HN.out]; rfl⟩,
                        ⟨⟨blk_other_ (blk_other_ d0 N.out.1.symm _) N.out.1.symm _, blk_other_ (blk_other_ d1 N.out.2.1.symm _) N.out.2.1.symm _, blk_other_ (blk_other_ d2 N.out.2.2.1.symm _) N.out.2.2.1.symm _, blk_other_ (blk_other_ d3 N.out.2.2.2.1.symm _) N.out.2.2.2.1.symm _, below_set (below_set d4 N.out.2.2.2.2) N.out.2.2.2.2, by simpa using d5⟩,
                          blk_put (blk_put e0 0 (.int .i64 (mn lo2 n)) rfl) 1 (.int .i64 (mx hi2 n)) rfl, blk_other_ (blk_other_ e1 Ng11.out.symm _) Ng11.out.symm _, blk_other_ (blk_other_ e2 Ng13.out.symm _) Ng13.out.symm _⟩⟩
                    case measure => simp [intOf]; omega
                  · obtain rfl : k = 4 := by omega
                    go_wp2
                    go_roundw
                    case rel => exact ⟨j + 1, lo2, hi2, by omega, by go_num, ⟨by show _ = inL p ((corn a1_0 a1_1 a1_2 a1_3) j) (corn a2_0 a2_1 a2_2 a2_3) 4 (midL p (corn a1_0 a1_1 a1_2 a1_3) (corn a2_0 a2_1 a2_2 a2_3) j (lo, hi)); rw [← HM.out, HPq.out]; exact HI.out⟩, ⟨KR2.out.1, KR2.out.2.1, KR2.out.2.2.1⟩⟩
                    case measure => simp [intOf]; omega
              · obtain rfl : j = 4 := by omega
                go_wp2
                go_roundw
                case rel => exact ⟨i + 1, lo1, hi1, by omega, by go_num, ⟨by show _ = midL ((corn a0_0 a0_1 a0_2 a0_3) i) (corn a1_0 a1_1 a1_2 a1_3) (corn a2_0 a2_1 a2_2 a2_3) 4 (outL (corn a0_0 a0_1 a0_2 a0_3) (corn a1_0 a1_1 a1_2 a1_3) (corn a2_0 a2_1 a2_2 a2_3) i (first, first)); rw [← HO.out, HPp.out]; exact HM.out⟩, ⟨KR1.out.1, KR1.out.2.1⟩⟩
                case measure => simp [intOf]; omega
          · obtain rfl : i = 4 := by omega
            have oc0 : wr.cell? ⟨g9, 0, none⟩ = some (.int .i64 lo) := (KR.out.2).cell 0; have oc1 : wr.cell? ⟨g9, 1, none⟩ = some (.int .i64 hi) := (KR.out.2).cell 1
            have rc0 : wr.cell? ⟨g6, 0, none⟩ = some (.int .i64 0) := (KR.out.1.2.2.2.1).cell 0; have rf0 := (KR.out.1.2.2.2.1).frozen 0; have rc1 : wr.cell? ⟨g6, 1, none⟩ = some (.int .i64 0) := (KR.out.1.2.2.2.1).cell 1; have rf1 := (KR.out.1.2.2.2.1).frozen 1
            go_wp2
            refine bodyPost_ret (results_ct rfl _ _ g6 50 #[.int .i64 lo, .int .i64 hi] (0, 0) _ rfl ?h1 Try.underlying50 rfl (by kernel_rfl)) rfl ?_
            case h1 => exact (by refine blk_put (cs := #[.int .i64 lo, .int .i64 0]) ?_ 1 _ rfl; refine blk_put (cs := #[.int .i64 0, .int .i64 0]) ?_ 0 _ rfl; exact KR.out.1.2.2.2.1)
            have hS : (lo, hi) = spreadP (corn a0_0 a0_1 a0_2 a0_3) (corn a1_0 a1_1 a1_2 a1_3) (corn a2_0 a2_1 a2_2 a2_3) := by unfold spreadP; rw [← HF.out]; exact HO.out
            rw [← hS]
            exact ⟨rfl, (by repeat (with_reducible first | exact KR.out.1.2.2.2.2.1 | refine below_set ?_ GE6.out))⟩
    · have hh := HH.out
      rw [if_neg hall] at hh
      simp only [Option.some.injEq, Prod.mk.injEq] at hh
      obtain ⟨rfl, rfl, rfl⟩ := hh
      have hb : (!(x && y && z)) = true := by cases x <;> cases y <;> cases z <;> simp_all
      clear hall HH HPx HPy HPz
      rw [hb]
      have rc0 : wc.cell? ⟨g6, 0, none⟩ = some (.int .i64 0) := (KK.out.2.2.2.1).cell 0
      have rf0 := (KK.out.2.2.2.1).frozen 0
      have rc1 : wc.cell? ⟨g6, 1, none⟩ = some (.int .i64 0) := (KK.out.2.2.2.1).cell 1
      have rf1 := (KK.out.2.2.2.1).frozen 1
      go_wp2
      refine bodyPost_ret (results_ct rfl _ _ g6 50 #[.int .i64 0, .int .i64 0] (0, 0) _ rfl ?h1 Try.underlying50 rfl (by kernel_rfl)) rfl ?_
      case h1 => exact (by refine blk_put (cs := #[.int .i64 0, .int .i64 0]) ?_ 1 _ rfl; refine blk_put (cs := #[.int .i64 0, .int .i64 0]) ?_ 0 _ rfl; exact KK.out.2.2.2.1)
      exact ⟨rfl, (by repeat (with_reducible first | exact KK.out.2.2.2.2.1 | refine below_set ?_ GE6.out))⟩
end Go.Proofs.Ytckaejgamfllfaa.G
end

section
namespace Go.Proofs.Ytckaejgamfllfaa.G
open Go.RowKit Go.Proofs.YtckaejgamfllfaaW.PrintWords Go.Proofs.YtckaejgamfllfaaW.PrintLast Go.Proofs.YtckaejgamfllfaaW.PrintMore
attribute [local go_sem] max2_int min2_int max_two min_two max_three min_three max_four min_four
set_option linter.unusedVariables false
set_option linter.unusedSimpArgs false
def boundstonelaw02_box.f (a0 : Int) (a1 : Int) (a2 : Int) (a3 : Int) : Option (Int × Int × Int × Int) := some (a0, a1, a2, a3)
set_option maxHeartbeats 8000000 in
set_option maxRecDepth 100000 in
theorem boundstonelaw02_box.calls (a0 : Int) (a1 : Int) (a2 : Int) (a3 : Int) (r1 : Int) (r2 : Int) (r3 : Int) (r4 : Int) (w : World) (h : boundstonelaw02_box.f a0 a1 a2 a3 = some (r1, r2, r3, r4)) :
  Calls Try.prog 103 #[.int .i64 a0, .int .i64 a1, .int .i64 a2, .int .i64 a3] w fun e w' => e = .returned (.agg #[.int .i64 r1, .int .i64 r2, .int .i64 r3, .int .i64 r4]) ∧ Below w.heap.size w w' := by
 have hu52 := Try.underlying52
 have hu50 := Try.underlying50
 have HB := Aside0.mk (Below.refl w.heap.size w)
 have H : (some (a0, a1, a2, a3)) = some (r1, r2, r3, r4) := h
 clear h
 simp only [Option.some.injEq, Prod.mk.injEq] at H
 obtain ⟨rfl, rfl, rfl, rfl⟩ := H
 go_enter Try.func103, Try.ntmps103
 go_wp2_with (first | ((with_reducible refine gate_dst (N := 8) rfl ?_); refine box_event ?hg (N := 8) ?hd (cs := #[.int .i64 0, .int .i64 0, .int .i64 0, .int .i64 0]) (t := 52) ?hr ?_; (case hd => rfl); (case hg => rfl); (case hr => first | (go_simp; done) | (go_simp; rfl)); intro gb616 hg w5 hbox hb; have BK616 := Aside0.mk (hbox); have GW616 := geBA HB hg; have GE616 := geBA HB hg; replace HB := Aside0.mk (below_step (hk HB) hb); clear hb hbox hg; have hcz6_0 : w5.cell? ⟨gb616, 0, none⟩ = some (.int .i64 0) := (blk_cell BK616.out 0).trans rfl; have hcz6_1 : w5.cell? ⟨gb616, 1, none⟩ = some (.int .i64 0) := (blk_cell BK616.out 1).trans rfl; have hcz6_2 : w5.cell? ⟨gb616, 2, none⟩ = some (.int .i64 0) := (blk_cell BK616.out 2).trans rfl; have hcz6_3 : w5.cell? ⟨gb616, 3, none⟩ = some (.int .i64 0) := (blk_cell BK616.out 3).trans rfl; have hfz6_0 := blk_frozen BK616.out 0; have hfz6_1 := blk_frozen BK616.out 1; have hfz6_2 := blk_frozen BK616.out 2; have hfz6_3 := blk_frozen BK616.out 3))
 refine bodyPost_ret (results_cell_row rfl _ _ gb616 52 #[.int .i64 a0, .int .i64 a1, .int .i64 a2, .int .i64 a3] (0, 0) _ rfl (by (with_reducible repeat (first | refine blk_drewN ?_ _ | refine blk_drew ?_ | refine blk_alloc ?_ _)); refine blk_put (cs := #[.int .i64 a0, .int .i64 a1, .int .i64 a2, .int .i64 0]) ?_ 3 _ rfl; (with_reducible repeat (first | refine blk_drewN ?_ _ | refine blk_drew ?_ | refine blk_alloc ?_ _)); refine blk_put (cs := #[.int .i64 a0, .int .i64 a1, .int .i64 0, .int .i64 0]) ?_ 2 _ rfl; (with_reducible repeat (first | refine blk_drewN ?_ _ | refine blk_drew ?_ | refine blk_alloc ?_ _)); refine blk_put (cs := #[.int .i64 a0, .int .i64 0, .int .i64 0, .int .i64 0]) ?_ 1 _ rfl; (with_reducible repeat (first | refine blk_drewN ?_ _ | refine blk_drew ?_ | refine blk_alloc ?_ _)); refine blk_put (cs := #[.int .i64 0, .int .i64 0, .int .i64 0, .int .i64 0]) ?_ 0 _ rfl; (with_reducible repeat (first | refine blk_drewN ?_ _ | refine blk_drew ?_ | refine blk_alloc ?_ _)); exact BK616.out) Try.underlying52 rfl (by kernel_rfl)) rfl ?_
 exact ⟨by first | rfl | (simp [errW_none, errW_some] <;> rfl) | (simp [*, errW_none, errW_some] <;> rfl), by repeat (first | (with_reducible first | exact HB.out | apply below_alloc | apply pw_below_drewN | apply below_drew1 | refine below_set ?_ GE616.out) | exact HB.out)⟩
end Go.Proofs.Ytckaejgamfllfaa.G
end

section
namespace Go.Proofs.Ytckaejgamfllfaa.G
open Go.RowKit Go.Proofs.YtckaejgamfllfaaW.PrintWords Go.Proofs.YtckaejgamfllfaaW.PrintLast Go.Proofs.YtckaejgamfllfaaW.PrintMore
attribute [local go_sem] max2_int min2_int max_two min_two max_three min_three max_four min_four
set_option linter.unusedVariables false
set_option linter.unusedSimpArgs false
attribute [local go_sem high] eqA23
def boundstoneref02_SamePoints.l0 : Nat → List (S23) → List (S23) → Int → Option (Bool)
 | 0, _, _, _ => none
 | k + 1, x0, x1, x5 => if x5 < (x0.length : Int) then (if 0 ≤ x5 then (if x5 < (x1.length : Int) then (if (!(((rd_T23 x0 x5).f0) == ((rd_T23 x1 x5).f0)) || (!(((rd_T23 x0 x5).f1) == ((rd_T23 x1 x5).f1)))) = true then (some false) else (boundstoneref02_SamePoints.l0 k x0 x1 (wrap64 (x5 + 1)))) else (none)) else (none)) else (some true)
def boundstoneref02_SamePoints.f (k : Nat) (l0 : List (S23)) (l1 : List (S23)) : Option (Bool) := if (l0.length : Int) = (l1.length : Int) then (boundstoneref02_SamePoints.l0 k l0 l1 0) else (some false)
theorem boundstoneref02_SamePoints.mono_l : ∀ k, (∀ y0 y1 y2, LeO (boundstoneref02_SamePoints.l0 k y0 y1 y2) (boundstoneref02_SamePoints.l0 (k + 1) y0 y1 y2))
 | 0 => fun _ _ _ r h => by simp [boundstoneref02_SamePoints.l0] at h
 | k + 1 => by
  have ih0 := boundstoneref02_SamePoints.mono_l k
  ·intro y0 y1 y2
   unfold boundstoneref02_SamePoints.l0
   repeat' first
   | (with_reducible exact ih0 _ _ _)
   | (with_reducible exact LeO.refl _)
   | (with_reducible exact LeO.none _)
   | (with_reducible refine LeO.ite ?_ ?_)
   | (with_reducible refine LeO.bind ?_ (fun _ => ?_))
   | exact ih0 _ _ _
   | exact LeO.none _
   | refine LeO.ite ?_ ?_
   | refine LeO.bind ?_ (fun _ => ?_)
theorem boundstoneref02_SamePoints.mono : ∀ a0 a1 k, LeO (boundstoneref02_SamePoints.f k a0 a1) (boundstoneref02_SamePoints.f (k + 1) a0 a1) := by
 intro a0 a1 k
 have ih0 := boundstoneref02_SamePoints.mono_l k
 unfold boundstoneref02_SamePoints.f
 repeat' first
   | (with_reducible exact ih0 _ _ _)
   | (with_reducible exact LeO.refl _)
   | (with_reducible exact LeO.none _)
   | (with_reducible refine LeO.ite ?_ ?_)
   | (with_reducible refine LeO.bind ?_ (fun _ => ?_))
   | exact ih0 _ _ _
   | exact LeO.none _
   | refine LeO.ite ?_ ?_
   | refine LeO.bind ?_ (fun _ => ?_)
set_option maxHeartbeats 8000000 in
set_option maxRecDepth 100000 in
theorem boundstoneref02_SamePoints.calls (k : Nat) (A0 : Option Addr) (c0 : Nat) (l0 : List (S23)) (A1 : Option Addr) (c1 : Nat) (l1 : List (S23)) (r : Bool) (w : World) (hr0 : Kd.C k23 w A0 l0.length l0) (hc0 : l0.length ≤ c0) (hr1 : Kd.C k23 w A1 l1.length l1) (hc1 : l1.length ≤ c1) (h : boundstoneref02_SamePoints.f k l0 l1 = some r) :
  Calls Try.prog 47 #[.slice A0 l0.length c0, .slice A1 l1.length c1] w fun e w' => e = .returned (.bool r) ∧ Drawn0 w w' := by
 have hu23 := Try.underlying23
 have HR0 := Aside0.mk hr0
 have HC0 := Aside0.mk hc0
 clear hr0 hc0
 have HR1 := Aside0.mk hr1
 have HC1 := Aside0.mk hc1
 clear hr1 hc1
 have H : (if (l0.length : Int) = (l1.length : Int) then (boundstoneref02_SamePoints.l0 k l0 l1 0) else (some false)) = some r := h
 clear h
 by_cases c3 : (l0.length : Int) = (l1.length : Int)
 ·rw [if_pos c3] at H
  have c3b0 : ((l0.length : Int) == (l1.length : Int)) = true := beq_iff_eq.mpr c3
  have c3b1 : ((l0.length : Int) != (l1.length : Int)) = false := bne_eq_false_iff_eq.mpr c3
  have c3b2 : (l0.length == l1.length) = true := by first | simpa using c3 | (simp at c3 ⊢; omega)
  clear c3
  have H' := Aside0.mk H
  clear H
  go_enter Try.func47, Try.ntmps47
  go_wp2
  repeat (go_quiet (fail); try go_wp2)
  go_loopg [5] k (fun kq v5 w' => ∃ (x5_1 : Int), v5 = .int .i64 x5_1 ∧ Aside0 (boundstoneref02_SamePoints.l0 kq l0 l1 x5_1 = some r) ∧ Aside0 (kq ≤ k) ∧ Drawn0 w w')
  case atStart => exact ⟨(0), (by first | rfl | (simp; done) | (simp [*]; done)), H', ⟨Nat.le_refl _⟩, by repeat (first | exact Drawn0.refl _ | apply Drawn0.step)⟩
  case round =>
   clear H'
   try clear c1
   try clear p2
   try clear c3
   try clear c3b0
   try clear c3b1
   try clear c3b2
   obtain ⟨x5_1, rfl, HA, HK1, ⟨m1, rfl⟩⟩ := hrel
   cases gk with
   | zero => exact absurd HA.out (by simp [boundstoneref02_SamePoints.l0])
   | succ k1 =>
    have H := HA.out
    clear HA
    simp only [boundstoneref02_SamePoints.l0] at H
    by_cases c4 : x5_1 < (l0.length : Int)
    ·rw [if_pos c4] at H
     have c4b0 : decide (x5_1 < (l0.length : Int)) = true := decide_eq_true c4
     clear c4
     by_cases c5 : 0 ≤ x5_1
     ·rw [if_pos c5] at H
      have c5b0 : decide (0 ≤ x5_1) = true := decide_eq_true c5
      clear c5
      by_cases c6 : x5_1 < (l1.length : Int)
      ·rw [if_pos c6] at H
       have c6b0 : decide (x5_1 < (l1.length : Int)) = true := decide_eq_true c6
       clear c6
       by_cases c7 : (!(((rd_T23 l0 x5_1).f0) == ((rd_T23 l1 x5_1).f0)) || (!(((rd_T23 l0 x5_1).f1) == ((rd_T23 l1 x5_1).f1)))) = true
       ·rw [if_pos c7] at H
        have c7b0 : (!(((rd_T23 l0 x5_1).f0) == ((rd_T23 l1 x5_1).f0)) || (!(((rd_T23 l0 x5_1).f1) == ((rd_T23 l1 x5_1).f1)))) = true := c7
        clear c7
        obtain rfl := Option.some.inj H
        have p586 : 0 ≤ (x5_1 : Int) := of_decide_eq_true (by first | (with_reducible assumption) | assumption)
        have q586 : x5_1 < (l0.length : Int) := of_decide_eq_true (by first | (with_reducible assumption) | assumption)
        obtain ⟨ad586, e586, hx586_0, hx586_1⟩ := at_T23 HR0.out x5_1 p586 q586
        cases e586
        replace p586 := eq_true p586
        replace q586 := eq_true q586
        have p587 : 0 ≤ (x5_1 : Int) := of_decide_eq_true (by first | (with_reducible assumption) | assumption)
        have q587 : x5_1 < (l1.length : Int) := of_decide_eq_true (by first | (with_reducible assumption) | assumption)
        obtain ⟨ad587, e587, hx587_0, hx587_1⟩ := at_T23 HR1.out x5_1 p587 q587
        cases e587
        replace p587 := eq_true p587
        replace q587 := eq_true q587
        go_wp2
        repeat (go_quiet (fail); try go_wp2)
        go_ret
        exact ⟨by first | rfl | (simp; done) | (simp [*]; done), by repeat (first | exact Drawn0.refl _ | apply Drawn0.step)⟩
       ·rw [if_neg c7] at H
        have c7b0 : (!(((rd_T23 l0 x5_1).f0) == ((rd_T23 l1 x5_1).f0)) || (!(((rd_T23 l0 x5_1).f1) == ((rd_T23 l1 x5_1).f1)))) = false := by simpa using c7
        clear c7
        have H' := Aside0.mk H
        clear H
        have p586 : 0 ≤ (x5_1 : Int) := of_decide_eq_true (by first | (with_reducible assumption) | assumption)
        have q586 : x5_1 < (l0.length : Int) := of_decide_eq_true (by first | (with_reducible assumption) | assumption)
        obtain ⟨ad586, e586, hx586_0, hx586_1⟩ := at_T23 HR0.out x5_1 p586 q586
        cases e586
        replace p586 := eq_true p586
        replace q586 := eq_true q586
        have p587 : 0 ≤ (x5_1 : Int) := of_decide_eq_true (by first | (with_reducible assumption) | assumption)
        have q587 : x5_1 < (l1.length : Int) := of_decide_eq_true (by first | (with_reducible assumption) | assumption)
        obtain ⟨ad587, e587, hx587_0, hx587_1⟩ := at_T23 HR1.out x5_1 p587 q587
        cases e587
        replace p587 := eq_true p587
        replace q587 := eq_true q587
        go_wp2
        repeat (go_quiet (fail); try go_wp2)
        go_roundg k1
        case measure => have := HK1.out; omega
        case rel => exact ⟨(wrap64 (x5_1 + 1)), (by first | rfl | (simp; done) | (simp [*]; done)), H', ⟨by have := HK1.out; omega⟩, by repeat (first | exact Drawn0.refl _ | apply Drawn0.step)⟩
      ·rw [if_neg c6] at H
       exact absurd H (by simp)
     ·rw [if_neg c5] at H
      exact absurd H (by simp)
    ·rw [if_neg c4] at H
     have c4b0 : decide (x5_1 < (l0.length : Int)) = false := decide_eq_false c4
     clear c4
     obtain rfl := Option.some.inj H
     go_wp2
     repeat (go_quiet (fail); try go_wp2)
     go_ret
     exact ⟨by first | rfl | (simp; done) | (simp [*]; done), by repeat (first | exact Drawn0.refl _ | apply Drawn0.step)⟩
 ·rw [if_neg c3] at H
  have c3b0 : ((l0.length : Int) == (l1.length : Int)) = false := beq_eq_false_iff_ne.mpr c3
  have c3b1 : ((l0.length : Int) != (l1.length : Int)) = true := bne_iff_ne.mpr c3
  have c3b2 : (l0.length == l1.length) = false := by first | simpa using c3 | (simp at c3 ⊢; omega)
  obtain rfl := Option.some.inj H
  go_enter Try.func47, Try.ntmps47
  go_wp2
  repeat (go_quiet (fail); try go_wp2)
  go_ret
  exact ⟨by first | rfl | (simp; done) | (simp [*]; done), by repeat (first | exact Drawn0.refl _ | apply Drawn0.step)⟩
end Go.Proofs.Ytckaejgamfllfaa.G
end

section
namespace Go.Proofs.Ytckaejgamfllfaa.G
open Go.RowKit Go.Proofs.YtckaejgamfllfaaW.PrintWords Go.Proofs.YtckaejgamfllfaaW.PrintLast Go.Proofs.YtckaejgamfllfaaW.PrintMore
attribute [local go_sem] max2_int min2_int max_two min_two max_three min_three max_four min_four
set_option linter.unusedVariables false
set_option linter.unusedSimpArgs false
def boundstoneref02_SameInts.l0 : Nat → List Int → List Int → Int → Option (Bool)
 | 0, _, _, _ => none
 | k + 1, x0, x1, x5 => if x5 < (x0.length : Int) then (if 0 ≤ x5 then (if x5 < (x1.length : Int) then (if (rd x0 x5) = (rd x1 x5) then (boundstoneref02_SameInts.l0 k x0 x1 (wrap64 (x5 + 1))) else (some false)) else (none)) else (none)) else (some true)
def boundstoneref02_SameInts.f (k : Nat) (l0 : List Int) (l1 : List Int) : Option (Bool) := if (l0.length : Int) = (l1.length : Int) then (boundstoneref02_SameInts.l0 k l0 l1 0) else (some false)
theorem boundstoneref02_SameInts.mono_l : ∀ k, (∀ y0 y1 y2, LeO (boundstoneref02_SameInts.l0 k y0 y1 y2) (boundstoneref02_SameInts.l0 (k + 1) y0 y1 y2))
 | 0 => fun _ _ _ r h => by simp [boundstoneref02_SameInts.l0] at h
 | k + 1 => by
  have ih0 := boundstoneref02_SameInts.mono_l k
  ·intro y0 y1 y2
   unfold boundstoneref02_SameInts.l0
   repeat' first
   | (with_reducible exact ih0 _ _ _)
   | (with_reducible exact LeO.refl _)
   | (with_reducible exact LeO.none _)
   | (with_reducible refine LeO.ite ?_ ?_)
   | (with_reducible refine LeO.bind ?_ (fun _ => ?_))
   | exact ih0 _ _ _
   | exact LeO.none _
   | refine LeO.ite ?_ ?_
   | refine LeO.bind ?_ (fun _ => ?_)
theorem boundstoneref02_SameInts.mono : ∀ a0 a1 k, LeO (boundstoneref02_SameInts.f k a0 a1) (boundstoneref02_SameInts.f (k + 1) a0 a1) := by
 intro a0 a1 k
 have ih0 := boundstoneref02_SameInts.mono_l k
 unfold boundstoneref02_SameInts.f
 repeat' first
   | (with_reducible exact ih0 _ _ _)
   | (with_reducible exact LeO.refl _)
   | (with_reducible exact LeO.none _)
   | (with_reducible refine LeO.ite ?_ ?_)
   | (with_reducible refine LeO.bind ?_ (fun _ => ?_))
   | exact ih0 _ _ _
   | exact LeO.none _
   | refine LeO.ite ?_ ?_
   | refine LeO.bind ?_ (fun _ => ?_)
set_option maxHeartbeats 8000000 in
set_option maxRecDepth 100000 in
theorem boundstoneref02_SameInts.calls (k : Nat) (A0 : Option Addr) (c0 : Nat) (l0 : List Int) (A1 : Option Addr) (c1 : Nat) (l1 : List Int) (r : Bool) (w : World) (hr0 : Kd.C (Kd.int .i64) w A0 l0.length l0) (hc0 : l0.length ≤ c0) (hr1 : Kd.C (Kd.int .i64) w A1 l1.length l1) (hc1 : l1.length ≤ c1) (h : boundstoneref02_SameInts.f k l0 l1 = some r) :
  Calls Try.prog 48 #[.slice A0 l0.length c0, .slice A1 l1.length c1] w fun e w' => e = .returned (.bool r) ∧ Drawn0 w w' := by
 have HR0 := Aside0.mk hr0
 have HC0 := Aside0.mk hc0
 clear hr0 hc0
 have HR1 := Aside0.mk hr1
 have HC1 := Aside0.mk hc1
 clear hr1 hc1
 have H : (if (l0.length : Int) = (l1.length : Int) then (boundstoneref02_SameInts.l0 k l0 l1 0) else (some false)) = some r := h
 clear h
 by_cases c3 : (l0.length : Int) = (l1.length : Int)
 ·rw [if_pos c3] at H
  have c3b0 : ((l0.length : Int) == (l1.length : Int)) = true := beq_iff_eq.mpr c3
  have c3b1 : ((l0.length : Int) != (l1.length : Int)) = false := bne_eq_false_iff_eq.mpr c3
  have c3b2 : (l0.length == l1.length) = true := by first | simpa using c3 | (simp at c3 ⊢; omega)
  clear c3
  have H' := Aside0.mk H
  clear H
  go_enter Try.func48, Try.ntmps48
  go_wp2
  repeat (go_quiet (fail); try go_wp2)
  go_loopg [5] k (fun kq v5 w' => ∃ (x5_1 : Int), v5 = .int .i64 x5_1 ∧ Aside0 (boundstoneref02_SameInts.l0 kq l0 l1 x5_1 = some r) ∧ Aside0 (kq ≤ k) ∧ Drawn0 w w')
  case atStart => exact ⟨(0), (by first | rfl | (simp; done) | (simp [*]; done)), H', ⟨Nat.le_refl _⟩, by repeat (first | exact Drawn0.refl _ | apply Drawn0.step)⟩
  case round =>
   clear H'
   try clear c1
   try clear p2
   try clear c3
   try clear c3b0
   try clear c3b1
   try clear c3b2
   obtain ⟨x5_1, rfl, HA, HK1, ⟨m1, rfl⟩⟩ := hrel
   cases gk with
   | zero => exact absurd HA.out (by simp [boundstoneref02_SameInts.l0])
   | succ k1 =>
    have H := HA.out
    clear HA
    simp only [boundstoneref02_SameInts.l0] at H
    by_cases c4 : x5_1 < (l0.length : Int)
    ·rw [if_pos c4] at H
     have c4b0 : decide (x5_1 < (l0.length : Int)) = true := decide_eq_true c4
     clear c4
     by_cases c5 : 0 ≤ x5_1
     ·rw [if_pos c5] at H
      have c5b0 : decide (0 ≤ x5_1) = true := decide_eq_true c5
      clear c5
      by_cases c6 : x5_1 < (l1.length : Int)
      ·rw [if_pos c6] at H
       have c6b0 : decide (x5_1 < (l1.length : Int)) = true := decide_eq_true c6
       clear c6
       by_cases c7 : (rd l0 x5_1) = (rd l1 x5_1)
       ·rw [if_pos c7] at H
        have c7b0 : ((rd l0 x5_1) == (rd l1 x5_1)) = true := beq_iff_eq.mpr c7
        have c7b1 : ((rd l0 x5_1) != (rd l1 x5_1)) = false := bne_eq_false_iff_eq.mpr c7
        clear c7
        have H' := Aside0.mk H
        clear H
        have p588 : 0 ≤ (x5_1 : Int) := of_decide_eq_true (by first | (with_reducible assumption) | assumption)
        have q588 : x5_1 < (l0.length : Int) := of_decide_eq_true (by first | (with_reducible assumption) | assumption)
        obtain ⟨ad588, e588, hx588_0⟩ := Kd.at_int HR0.out x5_1 p588 q588
        cases e588
        replace p588 := eq_true p588
        replace q588 := eq_true q588
        have p589 : 0 ≤ (x5_1 : Int) := of_decide_eq_true (by first | (with_reducible assumption) | assumption)
        have q589 : x5_1 < (l1.length : Int) := of_decide_eq_true (by first | (with_reducible assumption) | assumption)
        obtain ⟨ad589, e589, hx589_0⟩ := Kd.at_int HR1.out x5_1 p589 q589
        cases e589
        replace p589 := eq_true p589
        replace q589 := eq_true q589
        go_wp2
        repeat (go_quiet (fail); try go_wp2)
        go_roundg k1
        case measure => have := HK1.out; omega
        case rel => exact ⟨(wrap64 (x5_1 + 1)), (by first | rfl | (simp; done) | (simp [*]; done)), H', ⟨by have := HK1.out; omega⟩, by repeat (first | exact Drawn0.refl _ | apply Drawn0.step)⟩
       ·rw [if_neg c7] at H
        have c7b0 : ((rd l0 x5_1) == (rd l1 x5_1)) = false := beq_eq_false_iff_ne.mpr c7
        have c7b1 : ((rd l0 x5_1) != (rd l1 x5_1)) = true := bne_iff_ne.mpr c7
        obtain rfl := Option.some.inj H
        have p588 : 0 ≤ (x5_1 : Int) := of_decide_eq_true (by first | (with_reducible assumption) | assumption)
        have q588 : x5_1 < (l0.length : Int) := of_decide_eq_true (by first | (with_reducible assumption) | assumption)
        obtain ⟨ad588, e588, hx588_0⟩ := Kd.at_int HR0.out x5_1 p588 q588
        cases e588
        replace p588 := eq_true p588
        replace q588 := eq_true q588
        have p589 : 0 ≤ (x5_1 : Int) := of_decide_eq_true (by first | (with_reducible assumption) | assumption)
        have q589 : x5_1 < (l1.length : Int) := of_decide_eq_true (by first | (with_reducible assumption) | assumption)
        obtain ⟨ad589, e589, hx589_0⟩ := Kd.at_int HR1.out x5_1 p589 q589
        cases e589
        replace p589 := eq_true p589
        replace q589 := eq_true q589
        go_wp2
        repeat (go_quiet (fail); try go_wp2)
        go_ret
        exact ⟨by first | rfl | (simp; done) | (simp [*]; done), by repeat (first | exact Drawn0.refl _ | apply Drawn0.step)⟩
      ·rw [if_neg c6] at H
       exact absurd H (by simp)
     ·rw [if_neg c5] at H
      exact absurd H (by simp)
    ·rw [if_neg c4] at H
     have c4b0 : decide (x5_1 < (l0.length : Int)) = false := decide_eq_false c4
     clear c4
     obtain rfl := Option.some.inj H
     go_wp2
     repeat (go_quiet (fail); try go_wp2)
     go_ret
     exact ⟨by first | rfl | (simp; done) | (simp [*]; done), by repeat (first | exact Drawn0.refl _ | apply Drawn0.step)⟩
 ·rw [if_neg c3] at H
  have c3b0 : ((l0.length : Int) == (l1.length : Int)) = false := beq_eq_false_iff_ne.mpr c3
  have c3b1 : ((l0.length : Int) != (l1.length : Int)) = true := bne_iff_ne.mpr c3
  have c3b2 : (l0.length == l1.length) = false := by first | simpa using c3 | (simp at c3 ⊢; omega)
  obtain rfl := Option.some.inj H
  go_enter Try.func48, Try.ntmps48
  go_wp2
  repeat (go_quiet (fail); try go_wp2)
  go_ret
  exact ⟨by first | rfl | (simp; done) | (simp [*]; done), by repeat (first | exact Drawn0.refl _ | apply Drawn0.step)⟩
end Go.Proofs.Ytckaejgamfllfaa.G
end

section
namespace Go.Proofs.Ytckaejgamfllfaa.G
open Go.RowKit Go.Proofs.YtckaejgamfllfaaW.PrintWords Go.Proofs.YtckaejgamfllfaaW.PrintLast Go.Proofs.YtckaejgamfllfaaW.PrintMore
attribute [local go_sem] max2_int min2_int max_two min_two max_three min_three max_four min_four
set_option linter.unusedVariables false
set_option linter.unusedSimpArgs false
def plane_apart.f (a0_0 : Int) (a0_1 : Int) (a1_0 : Int) (a1_1 : Int) : Option (Int × Int) := some (mx (mx 0 (wrap64 (a0_0 - a1_1))) (wrap64 (a1_0 - a0_1)), mx (wrap64 (a0_1 - a1_0)) (wrap64 (a1_1 - a0_0)))
set_option maxHeartbeats 8000000 in
set_option maxRecDepth 100000 in
theorem plane_apart.calls (a0_0 : Int) (a0_1 : Int) (a1_0 : Int) (a1_1 : Int) (r1 : Int) (r2 : Int) (w : World) (h : plane_apart.f a0_0 a0_1 a1_0 a1_1 = some (r1, r2)) :
  Calls Try.prog 116 #[.agg #[.int .i64 a0_0, .int .i64 a0_1], .agg #[.int .i64 a1_0, .int .i64 a1_1]] w fun e w' => e = .returned (.agg #[.int .i64 r1, .int .i64 r2]) ∧ Below w.heap.size w w' := by
 have hu50 := Try.underlying50
 have HB := Aside0.mk (Below.refl w.heap.size w)
 have H : (some (mx (mx 0 (wrap64 (a0_0 - a1_1))) (wrap64 (a1_0 - a0_1)), mx (wrap64 (a0_1 - a1_0)) (wrap64 (a1_1 - a0_0)))) = some (r1, r2) := h
 clear h
 obtain ⟨ji3, hji3⟩ : ∃ j_ : Int, (mx 0 (wrap64 (a0_0 - a1_1))) = j_ := ⟨_, rfl⟩
 replace H : (some (mx (ji3) (wrap64 (a1_0 - a0_1)), mx (wrap64 (a0_1 - a1_0)) (wrap64 (a1_1 - a0_0)))) = some (r1, r2) := by first | (rw [hji3] at H; exact H) | (simp only [hji3] at H ⊢; exact H)
 (try (have hji3l : 0 ≤ ji3 := by (rw [← hji3]; unfold mx; (repeat' split) <;> omega)))
 (try (have hji3m : 0 ≤ ji3 := by omega))
 have hji3_ : (if 0 < (wrap64 (a0_0 - a1_1)) then (wrap64 (a0_0 - a1_1)) else 0) = ji3 := hji3
 obtain ⟨ji4, hji4⟩ : ∃ j_ : Int, (mx (ji3) (wrap64 (a1_0 - a0_1))) = j_ := ⟨_, rfl⟩
 replace H : (some (ji4, mx (wrap64 (a0_1 - a1_0)) (wrap64 (a1_1 - a0_0)))) = some (r1, r2) := by first | (rw [hji4] at H; exact H) | (simp only [hji4] at H ⊢; exact H)
 have hji4_ : (if (ji3) < (wrap64 (a1_0 - a0_1)) then (wrap64 (a1_0 - a0_1)) else (ji3)) = ji4 := hji4
 obtain ⟨ji5, hji5⟩ : ∃ j_ : Int, (mx (wrap64 (a0_1 - a1_0)) (wrap64 (a1_1 - a0_0))) = j_ := ⟨_, rfl⟩
 replace H : (some (ji4, ji5)) = some (r1, r2) := by first | (rw [hji5] at H; exact H) | (simp only [hji5] at H ⊢; exact H)
 have hji5_ : (if (wrap64 (a0_1 - a1_0)) < (wrap64 (a1_1 - a0_0)) then (wrap64 (a1_1 - a0_0)) else (wrap64 (a0_1 - a1_0))) = ji5 := hji5
 simp only [Option.some.injEq, Prod.mk.injEq] at H
 obtain ⟨rfl, rfl⟩ := H
 go_enter Try.func116, Try.ntmps116
 go_wp2_with (first | ((with_reducible refine gate_dst (N := 2) rfl ?_); refine box_event ?hg (N := 2) ?hd (cs := #[.int .i64 a0_0, .int .i64 a0_1]) (t := 50) ?hr ?_; (case hd => rfl); (case hg => rfl); (case hr => first | (go_simp; done) | (go_simp; rfl)); intro gb596 hg w6 hbox hb; have BK596 := Aside0.mk (hbox); have GW596 := geBA HB hg; have GE596 := geBA HB hg; replace HB := Aside0.mk (below_step (hk HB) hb); clear hb hbox hg) | ((with_reducible refine gate_dst (N := 3) rfl ?_); refine box_event ?hg (N := 3) ?hd (cs := #[.int .i64 a1_0, .int .i64 a1_1]) (t := 50) ?hr ?_; (case hd => rfl); (case hg => rfl); (case hr => first | (go_simp; done) | (go_simp; rfl)); intro gb597 hg w7 hbox hb; have BK597 := Aside0.mk (hbox); have GW597 := Aside0.mk ((by rw [hg]; exact (below_size (by repeat (first | (with_reducible first | exact HB.out | apply below_alloc | apply pw_below_drewN | apply below_drew1 | refine below_set ?_ GE596.out) | exact HB.out))) : w.heap.size ≤ gb597)); have GE597 := Aside0.mk ((by rw [hg]; exact (below_size (by repeat (first | (with_reducible first | exact HB.out | apply below_alloc | apply pw_below_drewN | apply below_drew1 | refine below_set ?_ GE596.out) | exact HB.out))) : w.heap.size ≤ gb597)); have NB596_597 := neLA BK596 hg; have NB597_596 := neGA BK596 hg; replace BK596 := bkC BK596 hb; replace HB := Aside0.mk (below_step (by repeat (first | (with_reducible first | exact HB.out | apply below_alloc | apply pw_below_drewN | apply below_drew1 | refine below_set ?_ GE596.out) | exact HB.out)) hb); clear hb hbox hg) | ((with_reducible refine gate_dst (N := 4) rfl ?_); refine box_event ?hg (N := 4) ?hd (cs := #[.int .i64 0, .int .i64 0]) (t := 50) ?hr ?_; (case hd => rfl); (case hg => rfl); (case hr => first | (go_simp; done) | (go_simp; rfl)); intro gb598 hg w8 hbox hb; have BK598 := Aside0.mk (hbox); have GW598 := Aside0.mk ((by rw [hg]; exact (below_size (by repeat (first | (with_reducible first | exact HB.out | apply below_alloc | apply pw_below_drewN | apply below_drew1 | refine below_set ?_ GE596.out | refine below_set ?_ GE597.out) | exact HB.out))) : w.heap.size ≤ gb598)); have GE598 := Aside0.mk ((by rw [hg]; exact (below_size (by repeat (first | (with_reducible first | exact HB.out | apply below_alloc | apply pw_below_drewN | apply below_drew1 | refine below_set ?_ GE596.out | refine below_set ?_ GE597.out) | exact HB.out))) : w.heap.size ≤ gb598)); have NB596_598 := neLA BK596 hg; have NB598_596 := neGA BK596 hg; have NB597_598 := neLA BK597 hg; have NB598_597 := neGA BK597 hg; replace BK596 := bkC BK596 hb; replace BK597 := bkC BK597 hb; replace HB := Aside0.mk (below_step (by repeat (first | (with_reducible first | exact HB.out | apply below_alloc | apply pw_below_drewN | apply below_drew1 | refine below_set ?_ GE596.out | refine below_set ?_ GE597.out) | exact HB.out)) hb); clear hb hbox hg; have hnb9 := NB596_597.out; have hnc9 := NB597_596.out; have hnb10 := NB596_598.out; have hnc10 := NB598_596.out; have hcz11_0 : w8.cell? ⟨gb596, 0, none⟩ = some (.int .i64 a0_0) := (blk_cell BK596.out 0).trans rfl; have hcz11_1 : w8.cell? ⟨gb596, 1, none⟩ = some (.int .i64 a0_1) := (blk_cell BK596.out 1).trans rfl; have hfz11_0 := blk_frozen BK596.out 0; have hfz11_1 := blk_frozen BK596.out 1; have hnb12 := NB597_598.out; have hnc12 := NB598_597.out; have hcz13_0 : w8.cell? ⟨gb597, 0, none⟩ = some (.int .i64 a1_0) := (blk_cell BK597.out 0).trans rfl; have hcz13_1 : w8.cell? ⟨gb597, 1, none⟩ = some (.int .i64 a1_1) := (blk_cell BK597.out 1).trans rfl; have hfz13_0 := blk_frozen BK597.out 0; have hfz13_1 := blk_frozen BK597.out 1; have hcz14_0 : w8.cell? ⟨gb598, 0, none⟩ = some (.int .i64 0) := (blk_cell BK598.out 0).trans rfl; have hcz14_1 : w8.cell? ⟨gb598, 1, none⟩ = some (.int .i64 0) := (blk_cell BK598.out 1).trans rfl; have hfz14_0 := blk_frozen BK598.out 0; have hfz14_1 := blk_frozen BK598.out 1))
 refine bodyPost_ret (results_cell_row rfl _ _ gb598 50 #[.int .i64 ji4, .int .i64 ji5] (0, 0) _ rfl (by (with_reducible repeat (first | refine blk_drewN ?_ _ | refine blk_drew ?_ | refine blk_alloc ?_ _)); refine blk_put (cs := #[.int .i64 ji4, .int .i64 0]) ?_ 1 _ rfl; (with_reducible repeat (first | refine blk_drewN ?_ _ | refine blk_drew ?_ | refine blk_alloc ?_ _)); refine blk_put (cs := #[.int .i64 0, .int .i64 0]) ?_ 0 _ rfl; (with_reducible repeat (first | refine blk_drewN ?_ _ | refine blk_drew ?_ | refine blk_alloc ?_ _)); exact BK598.out) Try.underlying50 rfl (by kernel_rfl)) rfl ?_
 exact ⟨by first | rfl | (simp [errW_none, errW_some] <;> rfl) | (simp only [← hji3, ← hji4, ← hji5]; first | rfl | (simp [errW_none, errW_some] <;> rfl)) | (simp [*, errW_none, errW_some] <;> rfl), by repeat (first | (with_reducible first | exact HB.out | apply below_alloc | apply pw_below_drewN | apply below_drew1 | refine below_set ?_ GE596.out | refine below_set ?_ GE597.out | refine below_set ?_ GE598.out) | exact HB.out)⟩
end Go.Proofs.Ytckaejgamfllfaa.G
end
