/- Part 5 of 6. -/
import Derived.Test.YtckaejgamfllfaaDd
section
namespace Go.Proofs.Ytckaejgamfllfaa.G
open Go.RowKit Go.Proofs.YtckaejgamfllfaaW.PrintWords Go.Proofs.YtckaejgamfllfaaW.PrintLast Go.Proofs.YtckaejgamfllfaaW.PrintMore
attribute [local go_sem] max2_int min2_int max_two min_two max_three min_three max_four min_four
set_option linter.unusedVariables false
set_option linter.unusedSimpArgs false
def plane_Dists.j0 : Nat → Bool → Int → Int → Int → Int → Int → Int → Int → Int → Option (Int × Int × Bool)
 | 0, _, _, _, _, _, _, _, _, _ => none
 | k + 1, x15, x600000, x600001, x600002, x600003, x601000, x601001, x601002, x601003 => if x15 = true then (some (0, 0, false)) else ((plane_apart.f x600000 x600001 x601000 x601001).bind fun bt604 => ((plane_apart.f x600002 x600003 x601002 x601003).bind fun bt606 => (some (wrap64 ((wrap64 (bt604.1 * bt604.1)) + (wrap64 (bt606.1 * bt606.1))), wrap64 ((wrap64 (bt604.2 * bt604.2)) + (wrap64 (bt606.2 * bt606.2))), true))))
def plane_Dists.f (k : Nat) (a0_0 : Int) (a0_1 : Int) (a0_2 : Int) (a0_3 : Int) (a1_0 : Int) (a1_1 : Int) (a1_2 : Int) (a1_3 : Int) : Option (Int × Int × Bool) := (plane_Proper.f a0_0 a0_1 a0_2 a0_3).bind fun t602 => (if t602 = true then ((plane_Proper.f a1_0 a1_1 a1_2 a1_3).bind fun t603 => (plane_Dists.j0 k (!t603) a0_0 a0_1 a0_2 a0_3 a1_0 a1_1 a1_2 a1_3)) else (plane_Dists.j0 k true a0_0 a0_1 a0_2 a0_3 a1_0 a1_1 a1_2 a1_3))
theorem plane_Dists.mono_l : ∀ k, (∀ y0 y1 y2 y3 y4 y5 y6 y7 y8, LeO (plane_Dists.j0 k y0 y1 y2 y3 y4 y5 y6 y7 y8) (plane_Dists.j0 (k + 1) y0 y1 y2 y3 y4 y5 y6 y7 y8))
 | 0 => fun _ _ _ _ _ _ _ _ _ r h => by simp [plane_Dists.j0] at h
 | k + 1 => by
  have ih0 := plane_Dists.mono_l k
  ·intro y0 y1 y2 y3 y4 y5 y6 y7 y8
   unfold plane_Dists.j0
   repeat' first
   | (with_reducible exact ih0 _ _ _ _ _ _ _ _ _)
   | (with_reducible exact LeO.refl _)
   | (with_reducible exact LeO.none _)
   | (with_reducible refine LeO.ite ?_ ?_)
   | (with_reducible refine LeO.bind ?_ (fun _ => ?_))
   | exact ih0 _ _ _ _ _ _ _ _ _
   | exact LeO.none _
   | refine LeO.ite ?_ ?_
   | refine LeO.bind ?_ (fun _ => ?_)
theorem plane_Dists.mono : ∀ a0 a1 a2 a3 a4 a5 a6 a7 k, LeO (plane_Dists.f k a0 a1 a2 a3 a4 a5 a6 a7) (plane_Dists.f (k + 1) a0 a1 a2 a3 a4 a5 a6 a7) := by
 intro a0 a1 a2 a3 a4 a5 a6 a7 k
 have ih0 := plane_Dists.mono_l k
 unfold plane_Dists.f
 repeat' first
   | (with_reducible exact ih0 _ _ _ _ _ _ _ _ _)
   | (with_reducible exact LeO.refl _)
   | (with_reducible exact LeO.none _)
   | (with_reducible refine LeO.ite ?_ ?_)
   | (with_reducible refine LeO.bind ?_ (fun _ => ?_))
   | exact ih0 _ _ _ _ _ _ _ _ _
   | exact LeO.none _
   | refine LeO.ite ?_ ?_
   | refine LeO.bind ?_ (fun _ => ?_)
def plane_Dists.T3 : Bool × List (List Nat × List Nat) := (true, [([], []), ([0], [0]), ([], []), ([2], [2]), ([1, 3], [1, 3]), ([], []), ([5], [5]), ([], []), ([7], [7]), ([6, 8, 4], [6, 8]), ([], []), ([], []), ([10, 4, 9, 0, 1, 2, 3, 4, 10, 11], [4, 10]), ([11, 9, 12, 0, 1, 2, 3, 4, 5, 6, 7, 8, 9, 10, 11, 12], [9, 11])])
def plane_Dists.B3 : List Nat := [0, 1, 0, 4, 15, 0, 32, 0, 128, 511, 0, 0, 4095, 8191]
theorem plane_Dists.tab3 : rtab .any (opsOf Try.f52 3) = plane_Dists.T3 := by kernel_rfl
theorem plane_Dists.bits3 : waitsOk plane_Dists.T3.2 plane_Dists.B3 = true := by kernel_rfl
set_option maxHeartbeats 8000000 in
set_option maxRecDepth 100000 in
theorem plane_Dists.calls (k : Nat) (a0_0 : Int) (a0_1 : Int) (a0_2 : Int) (a0_3 : Int) (a1_0 : Int) (a1_1 : Int) (a1_2 : Int) (a1_3 : Int) (r1 : Int) (r2 : Int) (r3 : Bool) (w : World) (h : plane_Dists.f k a0_0 a0_1 a0_2 a0_3 a1_0 a1_1 a1_2 a1_3 = some (r1, r2, r3)) :
  Calls Try.prog 52 #[.agg #[.int .i64 a0_0, .int .i64 a0_1, .int .i64 a0_2, .int .i64 a0_3], .agg #[.int .i64 a1_0, .int .i64 a1_1, .int .i64 a1_2, .int .i64 a1_3]] w fun e w' => e = .returned (.tuple #[.agg #[.int .i64 r1, .int .i64 r2], .bool r3]) ∧ Below w.heap.size w w' := by
 have hu52 := Try.underlying52
 have hu50 := Try.underlying50
 have HB := Aside0.mk (Below.refl w.heap.size w)
 have H : ((plane_Proper.f a0_0 a0_1 a0_2 a0_3).bind fun t602 => (if t602 = true then ((plane_Proper.f a1_0 a1_1 a1_2 a1_3).bind fun t603 => (plane_Dists.j0 k (!t603) a0_0 a0_1 a0_2 a0_3 a1_0 a1_1 a1_2 a1_3)) else (plane_Dists.j0 k true a0_0 a0_1 a0_2 a0_3 a1_0 a1_1 a1_2 a1_3))) = some (r1, r2, r3) := h
 clear h
 have HC3 := Aside0.mk H
 clear H
 go_enter Try.func52, Try.ntmps52
 go_upto_region 1 with (first | ((with_reducible refine gate_dst (N := 2) rfl ?_); refine box_event ?hg (N := 2) ?hd (cs := #[.int .i64 a0_0, .int .i64 a0_1, .int .i64 a0_2, .int .i64 a0_3]) (t := 52) ?hr ?_; (case hd => rfl); (case hg => rfl); (case hr => first | (go_simp; done) | (go_simp; rfl)); intro gb599 hg w4 hbox hb; have BK599 := Aside0.mk (hbox); have GW599 := geBA HB hg; have GE599 := geBA HB hg; replace HB := Aside0.mk (below_step (hk HB) hb); clear hb hbox hg) | ((with_reducible refine gate_dst (N := 3) rfl ?_); refine box_event ?hg (N := 3) ?hd (cs := #[.int .i64 a1_0, .int .i64 a1_1, .int .i64 a1_2, .int .i64 a1_3]) (t := 52) ?hr ?_; (case hd => rfl); (case hg => rfl); (case hr => first | (go_simp; done) | (go_simp; rfl)); intro gb600 hg w5 hbox hb; have BK600 := Aside0.mk (hbox); have GW600 := Aside0.mk ((by rw [hg]; exact (below_size (by repeat (first | (with_reducible first | exact HB.out | apply below_alloc | apply pw_below_drewN | apply below_drew1 | refine below_set ?_ GE599.out) | exact HB.out))) : w.heap.size ≤ gb600)); have GE600 := Aside0.mk ((by rw [hg]; exact (below_size (by repeat (first | (with_reducible first | exact HB.out | apply below_alloc | apply pw_below_drewN | apply below_drew1 | refine below_set ?_ GE599.out) | exact HB.out))) : w.heap.size ≤ gb600)); have NB599_600 := neLA BK599 hg; have NB600_599 := neGA BK599 hg; replace BK599 := bkC BK599 hb; replace HB := Aside0.mk (below_step (by repeat (first | (with_reducible first | exact HB.out | apply below_alloc | apply pw_below_drewN | apply below_drew1 | refine below_set ?_ GE599.out) | exact HB.out)) hb); clear hb hbox hg) | ((with_reducible refine gate_dst (N := 4) rfl ?_); refine box_event ?hg (N := 4) ?hd (cs := #[.int .i64 0, .int .i64 0]) (t := 50) ?hr ?_; (case hd => rfl); (case hg => rfl); (case hr => first | (go_simp; done) | (go_simp; rfl)); intro gb601 hg w6 hbox hb; have BK601 := Aside0.mk (hbox); have GW601 := Aside0.mk ((by rw [hg]; exact (below_size (by repeat (first | (with_reducible first | exact HB.out | apply below_alloc | apply pw_below_drewN | apply below_drew1 | refine below_set ?_ GE599.out | refine below_set ?_ GE600.out) | exact HB.out))) : w.heap.size ≤ gb601)); have GE601 := Aside0.mk ((by rw [hg]; exact (below_size (by repeat (first | (with_reducible first | exact HB.out | apply below_alloc | apply pw_below_drewN | apply below_drew1 | refine below_set ?_ GE599.out | refine below_set ?_ GE600.out) | exact HB.out))) : w.heap.size ≤ gb601)); have NB599_601 := neLA BK599 hg; have NB601_599 := neGA BK599 hg; have NB600_601 := neLA BK600 hg; have NB601_600 := neGA BK600 hg; replace BK599 := bkC BK599 hb; replace BK600 := bkC BK600 hb; replace HB := Aside0.mk (below_step (by repeat (first | (with_reducible first | exact HB.out | apply below_alloc | apply pw_below_drewN | apply below_drew1 | refine below_set ?_ GE599.out | refine below_set ?_ GE600.out) | exact HB.out)) hb); clear hb hbox hg))
 (try simp only [Act.put, List.setIfInBounds_toArray, List.set_cons_zero, List.set_cons_succ])
 go_cut [15] (fun v15 wc => ∃ (kq : Nat) (x15_2 : Bool), v15 = .bool x15_2 ∧ Aside0 (plane_Dists.j0 kq x15_2 a0_0 a0_1 a0_2 a0_3 a1_0 a1_1 a1_2 a1_3 = some (r1, r2, r3)) ∧ Aside0 (kq ≤ k) ∧ Aside0 (wc.heap[gb599]? = some (.cells #[.int .i64 a0_0, .int .i64 a0_1, .int .i64 a0_2, .int .i64 a0_3] 52 (0, 0))) ∧ Aside0 (wc.heap[gb600]? = some (.cells #[.int .i64 a1_0, .int .i64 a1_1, .int .i64 a1_2, .int .i64 a1_3] 52 (0, 0))) ∧ Aside0 (wc.heap[gb601]? = some (.cells #[.int .i64 0, .int .i64 0] 50 (0, 0))) ∧ Aside0 (Below w.heap.size w wc))
 case first =>
  have H := HC3.out
  clear HC3
  replace H := Option.bind_eq_some_iff.mp H
  obtain ⟨t602, A70, H⟩ := H
  replace H : (if t602 = true then ((plane_Proper.f a1_0 a1_1 a1_2 a1_3).bind fun t603 => (plane_Dists.j0 k (!t603) a0_0 a0_1 a0_2 a0_3 a1_0 a1_1 a1_2 a1_3)) else (plane_Dists.j0 k true a0_0 a0_1 a0_2 a0_3 a1_0 a1_1 a1_2 a1_3)) = some (r1, r2, r3) := H
  have A7 := Aside0.mk A70
  clear A70
  by_cases c8 : t602 = true
  ·subst c8
   have H1 : ((plane_Proper.f a1_0 a1_1 a1_2 a1_3).bind fun t603 => (plane_Dists.j0 k (!t603) a0_0 a0_1 a0_2 a0_3 a1_0 a1_1 a1_2 a1_3)) = some (r1, r2, r3) := by rw [if_pos rfl] at H; exact H
   clear H
   have H := H1
   clear H1
   replace H := Option.bind_eq_some_iff.mp H
   obtain ⟨t603, A90, H⟩ := H
   replace H : (plane_Dists.j0 k (!t603) a0_0 a0_1 a0_2 a0_3 a1_0 a1_1 a1_2 a1_3) = some (r1, r2, r3) := H
   have A9 := Aside0.mk A90
   clear A90
   have H' := Aside0.mk H
   clear H
   have hnb10 := NB599_600.out
   have hnc10 := NB600_599.out
   have hnb11 := NB599_601.out
   have hnc11 := NB601_599.out
   have hcz12_0 : w6.cell? ⟨gb599, 0, none⟩ = some (.int .i64 a0_0) := (blk_cell BK599.out 0).trans rfl
   have hcz12_1 : w6.cell? ⟨gb599, 1, none⟩ = some (.int .i64 a0_1) := (blk_cell BK599.out 1).trans rfl
   have hcz12_2 : w6.cell? ⟨gb599, 2, none⟩ = some (.int .i64 a0_2) := (blk_cell BK599.out 2).trans rfl
   have hcz12_3 : w6.cell? ⟨gb599, 3, none⟩ = some (.int .i64 a0_3) := (blk_cell BK599.out 3).trans rfl
   have hfz12_0 := blk_frozen BK599.out 0
   have hfz12_1 := blk_frozen BK599.out 1
   have hfz12_2 := blk_frozen BK599.out 2
   have hfz12_3 := blk_frozen BK599.out 3
   go_wp2_with (first | ((with_reducible refine gate_callee (f := 64) rfl ?_); refine goesL_ (some 9) rfl rfl Try.func64 (by kernel_rfl) rfl #[.agg #[.int .i64 a0_0, .int .i64 a0_1, .int .i64 a0_2, .int .i64 a0_3]] rfl (by (try simp only [List.map_toArray, List.map_cons, List.map_nil]); first | done | rfl | (simp only [List.length_drop, List.length_take]; rfl)) ?_; (with_reducible refine (plane_Proper.calls a0_0 a0_1 a0_2 a0_3 true _ A7.out).mono ?_); rintro e w13 ⟨rfl, hb⟩; refine ⟨_, rfl, ?_⟩; replace BK599 := bkC BK599 hb; replace BK600 := bkC BK600 hb; replace BK601 := bkC BK601 hb; replace HB := Aside0.mk (below_step (by repeat (first | (with_reducible first | exact HB.out | apply below_alloc | apply pw_below_drewN | apply below_drew1 | refine below_set ?_ GE599.out | refine below_set ?_ GE600.out | refine below_set ?_ GE601.out) | exact HB.out)) hb); (try clear hb); (try clear hb2); (try clear hk); (try clear hi); have hnb14 := NB600_601.out; have hnc14 := NB601_600.out; have hcz15_0 : w13.cell? ⟨gb600, 0, none⟩ = some (.int .i64 a1_0) := (blk_cell BK600.out 0).trans rfl; have hcz15_1 : w13.cell? ⟨gb600, 1, none⟩ = some (.int .i64 a1_1) := (blk_cell BK600.out 1).trans rfl; have hcz15_2 : w13.cell? ⟨gb600, 2, none⟩ = some (.int .i64 a1_2) := (blk_cell BK600.out 2).trans rfl; have hcz15_3 : w13.cell? ⟨gb600, 3, none⟩ = some (.int .i64 a1_3) := (blk_cell BK600.out 3).trans rfl; have hfz15_0 := blk_frozen BK600.out 0; have hfz15_1 := blk_frozen BK600.out 1; have hfz15_2 := blk_frozen BK600.out 2; have hfz15_3 := blk_frozen BK600.out 3) | (go_at_call 64; (with_reducible refine (plane_Proper.calls a1_0 a1_1 a1_2 a1_3 t603 _ A9.out).mono ?_); rintro e w16 ⟨rfl, hb⟩; replace BK599 := bkC BK599 hb; replace BK600 := bkC BK600 hb; replace BK601 := bkC BK601 hb; replace HB := Aside0.mk (below_step (by repeat (first | (with_reducible first | exact HB.out | apply below_alloc | apply pw_below_drewN | apply below_drew1 | refine below_set ?_ GE599.out | refine below_set ?_ GE600.out | refine below_set ?_ GE601.out) | exact HB.out)) hb); (try clear hb); (try clear hb2); (try clear hk); (try clear hi)))
   go_meet
   case rel => exact ⟨_, (!t603), (by first | rfl | (simp; done) | (simp [*]; done)), H', ⟨by first | omega | exact Nat.le_refl _⟩, ⟨bk BK599⟩, ⟨bk BK600⟩, ⟨bk BK601⟩, ⟨by repeat (first | (with_reducible first | exact HB.out | apply below_alloc | apply pw_below_drewN | apply below_drew1 | refine below_set ?_ GE599.out | refine below_set ?_ GE600.out | refine below_set ?_ GE601.out) | exact HB.out)⟩⟩
  ·replace c8 := Bool.eq_false_iff.mpr c8
   subst c8
   have H1 : (plane_Dists.j0 k true a0_0 a0_1 a0_2 a0_3 a1_0 a1_1 a1_2 a1_3) = some (r1, r2, r3) := by rw [if_neg (show ¬ (false = true) by decide)] at H; exact H
   clear H
   have H := H1
   clear H1
   have H' := Aside0.mk H
   clear H
   have hnb17 := NB599_600.out
   have hnc17 := NB600_599.out
   have hnb18 := NB599_601.out
   have hnc18 := NB601_599.out
   have hcz19_0 : w6.cell? ⟨gb599, 0, none⟩ = some (.int .i64 a0_0) := (blk_cell BK599.out 0).trans rfl
   have hcz19_1 : w6.cell? ⟨gb599, 1, none⟩ = some (.int .i64 a0_1) := (blk_cell BK599.out 1).trans rfl
   have hcz19_2 : w6.cell? ⟨gb599, 2, none⟩ = some (.int .i64 a0_2) := (blk_cell BK599.out 2).trans rfl
   have hcz19_3 : w6.cell? ⟨gb599, 3, none⟩ = some (.int .i64 a0_3) := (blk_cell BK599.out 3).trans rfl
   have hfz19_0 := blk_frozen BK599.out 0
   have hfz19_1 := blk_frozen BK599.out 1
   have hfz19_2 := blk_frozen BK599.out 2
   have hfz19_3 := blk_frozen BK599.out 3
   go_wp2_with (first | ((with_reducible refine gate_callee (f := 64) rfl ?_); refine goesL_ (some 9) rfl rfl Try.func64 (by kernel_rfl) rfl #[.agg #[.int .i64 a0_0, .int .i64 a0_1, .int .i64 a0_2, .int .i64 a0_3]] rfl (by (try simp only [List.map_toArray, List.map_cons, List.map_nil]); first | done | rfl | (simp only [List.length_drop, List.length_take]; rfl)) ?_; (with_reducible refine (plane_Proper.calls a0_0 a0_1 a0_2 a0_3 false _ A7.out).mono ?_); rintro e w20 ⟨rfl, hb⟩; refine ⟨_, rfl, ?_⟩; replace BK599 := bkC BK599 hb; replace BK600 := bkC BK600 hb; replace BK601 := bkC BK601 hb; replace HB := Aside0.mk (below_step (by repeat (first | (with_reducible first | exact HB.out | apply below_alloc | apply pw_below_drewN | apply below_drew1 | refine below_set ?_ GE599.out | refine below_set ?_ GE600.out | refine below_set ?_ GE601.out) | exact HB.out)) hb); (try clear hb); (try clear hb2); (try clear hk); (try clear hi)))
   go_meet
   case rel => exact ⟨_, (true), (by first | rfl | (simp; done) | (simp [*]; done)), H', ⟨by first | omega | exact Nat.le_refl _⟩, ⟨bk BK599⟩, ⟨bk BK600⟩, ⟨bk BK601⟩, ⟨by repeat (first | (with_reducible first | exact HB.out | apply below_alloc | apply pw_below_drewN | apply below_drew1 | refine below_set ?_ GE599.out | refine below_set ?_ GE600.out | refine below_set ?_ GE601.out) | exact HB.out)⟩⟩
 case rest =>
  clear HC3
  try clear c1
  try clear p2
  try clear c5
  try clear c6
  try clear c8
  try clear c10
  try clear c11
  try clear c14
  try clear c17
  try clear c18
  try clear hcz12_0
  try clear hcz12_1
  try clear hcz12_2
  try clear hcz12_3
  try clear hcz15_0
  try clear hcz15_1
  try clear hcz15_2
  try clear hcz15_3
  try clear hcz19_0
  try clear hcz19_1
  try clear hcz19_2
  try clear hcz19_3
  try clear hfz12_0
  try clear hfz12_1
  try clear hfz12_2
  try clear hfz12_3
  try clear hfz15_0
  try clear hfz15_1
  try clear hfz15_2
  try clear hfz15_3
  try clear hfz19_0
  try clear hfz19_1
  try clear hfz19_2
  try clear hfz19_3
  obtain ⟨kq, x15_2, rfl, HA, HJ2, BK599, BK600, BK601, HB⟩ := hcut
  cases kq with
  | zero => exact absurd HA.out (by simp [plane_Dists.j0])
  | succ kj2 =>
   have H := HA.out
   clear HA
   simp only [plane_Dists.j0] at H
   by_cases c21 : x15_2 = true
   ·subst c21
    have H1 : (some (0, 0, false)) = some (r1, r2, r3) := by rw [if_pos rfl] at H; exact H
    clear H
    have H := H1
    clear H1
    simp only [Option.some.injEq, Prod.mk.injEq] at H
    obtain ⟨rfl, rfl, rfl⟩ := H
    have hnb22 := NB601_599.out
    have hnc22 := NB599_601.out
    have hnb23 := NB601_600.out
    have hnc23 := NB600_601.out
    have hcz24_0 : wc.cell? ⟨gb601, 0, none⟩ = some (.int .i64 0) := (blk_cell BK601.out 0).trans rfl
    have hcz24_1 : wc.cell? ⟨gb601, 1, none⟩ = some (.int .i64 0) := (blk_cell BK601.out 1).trans rfl
    have hfz24_0 := blk_frozen BK601.out 0
    have hfz24_1 := blk_frozen BK601.out 1
    go_wp2
    refine bodyPost_ret (results_ct rfl _ _ gb601 50 #[.int .i64 0, .int .i64 0] (0, 0) _ rfl (by (with_reducible repeat (first | refine blk_drewN ?_ _ | refine blk_drew ?_ | refine blk_alloc ?_ _)); refine blk_put (cs := #[.int .i64 0, .int .i64 0]) ?_ 1 _ rfl; (with_reducible repeat (first | refine blk_drewN ?_ _ | refine blk_drew ?_ | refine blk_alloc ?_ _)); refine blk_put (cs := #[.int .i64 0, .int .i64 0]) ?_ 0 _ rfl; (with_reducible repeat (first | refine blk_drewN ?_ _ | refine blk_drew ?_ | refine blk_alloc ?_ _)); exact BK601.out) Try.underlying50 rfl (by kernel_rfl)) rfl ?_
    exact ⟨by first | rfl | (simp [errW_none, errW_some] <;> rfl) | (simp [*, errW_none, errW_some] <;> rfl), by repeat (first | (with_reducible first | exact HB.out | apply below_alloc | apply pw_below_drewN | apply below_drew1 | refine below_set ?_ GE599.out | refine below_set ?_ GE600.out | refine below_set ?_ GE601.out) | exact HB.out)⟩
   ·replace c21 := Bool.eq_false_iff.mpr c21
    subst c21
    have H1 : ((plane_apart.f a0_0 a0_1 a1_0 a1_1).bind fun bt604 => ((plane_apart.f a0_2 a0_3 a1_2 a1_3).bind fun bt606 => (some (wrap64 ((wrap64 (bt604.1 * bt604.1)) + (wrap64 (bt606.1 * bt606.1))), wrap64 ((wrap64 (bt604.2 * bt604.2)) + (wrap64 (bt606.2 * bt606.2))), true)))) = some (r1, r2, r3) := by rw [if_neg (show ¬ (false = true) by decide)] at H; exact H
    clear H
    have H := H1
    clear H1
    replace H := Option.bind_eq_some_iff.mp H
    obtain ⟨⟨t604, t605⟩, A250, H⟩ := H
    replace H : ((plane_apart.f a0_2 a0_3 a1_2 a1_3).bind fun bt606 => (some (wrap64 ((wrap64 (t604 * t604)) + (wrap64 (bt606.1 * bt606.1))), wrap64 ((wrap64 (t605 * t605)) + (wrap64 (bt606.2 * bt606.2))), true))) = some (r1, r2, r3) := H
    have A25 := Aside0.mk A250
    clear A250
    replace H := Option.bind_eq_some_iff.mp H
    obtain ⟨⟨t606, t607⟩, A260, H⟩ := H
    replace H : (some (wrap64 ((wrap64 (t604 * t604)) + (wrap64 (t606 * t606))), wrap64 ((wrap64 (t605 * t605)) + (wrap64 (t607 * t607))), true)) = some (r1, r2, r3) := H
    have A26 := Aside0.mk A260
    clear A260
    simp only [Option.some.injEq, Prod.mk.injEq] at H
    obtain ⟨rfl, rfl, rfl⟩ := H
    try go_wp2
    replace BK599 := Aside0.mk (blk_drew BK599.out)
    replace BK600 := Aside0.mk (blk_drew BK600.out)
    replace BK601 := Aside0.mk (blk_drew BK601.out)
    replace HB := Aside0.mk (below_drew1 HB.out)
    refine start_ (n := 14) (S := fun w' => w'.cell? ⟨gb599, 0, none⟩ = some (.int .i64 a0_0) ∧ w'.cell? ⟨gb599, 1, none⟩ = some (.int .i64 a0_1) ∧ w'.cell? ⟨gb599, 2, none⟩ = some (.int .i64 a0_2) ∧ w'.cell? ⟨gb599, 3, none⟩ = some (.int .i64 a0_3) ∧ w'.cell? ⟨gb600, 0, none⟩ = some (.int .i64 a1_0) ∧ w'.cell? ⟨gb600, 1, none⟩ = some (.int .i64 a1_1) ∧ w'.cell? ⟨gb600, 2, none⟩ = some (.int .i64 a1_2) ∧ w'.cell? ⟨gb600, 3, none⟩ = some (.int .i64 a1_3)) (ds := []) #[false, false, false, false, false, false, false, false, false, false, false, false, false, false] (by kernel_rfl) rfl rfl ⟨(blk_cell BK599.out 0).trans rfl, (blk_cell BK599.out 1).trans rfl, (blk_cell BK599.out 2).trans rfl, (blk_cell BK599.out 3).trans rfl, (blk_cell BK600.out 0).trans rfl, (blk_cell BK600.out 1).trans rfl, (blk_cell BK600.out 2).trans rfl, (blk_cell BK600.out 3).trans rfl⟩ (fun hHeld => ?_); refine with_tabW plane_Dists.tab3 plane_Dists.bits3 (fun HT_ HW_ => ?_)
    generalize wc.drew = w27 at BK599 BK600 BK601 HB hHeld ⊢
    refine pure_ (i := 0) (N := some 17) (v := ?_) (a' := ?_) #[true, false, false, false, false, false, false, false, false, false, false, false, false, false] rfl rfl (any_of HT_.out (by kernel_rfl)) (fun _ _ _ h => h) (Or.inl ⟨by rfl, ?_⟩) ?_ ?_
    rotate_left
    ·intro w'
     go_simp
     with_reducible rfl
    rotate_left
    ·simp only [Act.put, List.setIfInBounds_toArray, List.set_cons_zero, List.set_cons_succ, i64_w, i32_w]
     rfl
    refine pure_ (i := 2) (N := some 19) (v := ?_) (a' := ?_) #[true, false, true, false, false, false, false, false, false, false, false, false, false, false] rfl rfl (any_of HT_.out (by kernel_rfl)) (fun _ _ _ h => h) (Or.inl ⟨by rfl, ?_⟩) ?_ ?_
    rotate_left
    ·intro w'
     go_simp
     with_reducible rfl
    rotate_left
    ·simp only [Act.put, List.setIfInBounds_toArray, List.set_cons_zero, List.set_cons_succ, i64_w, i32_w]
     rfl
    refine pure_ (i := 5) (N := some 22) (v := ?_) (a' := ?_) #[true, false, true, false, false, true, false, false, false, false, false, false, false, false] rfl rfl (any_of HT_.out (by kernel_rfl)) (fun _ _ _ h => h) (Or.inl ⟨by rfl, ?_⟩) ?_ ?_
    rotate_left
    ·intro w'
     go_simp
     with_reducible rfl
    rotate_left
    ·simp only [Act.put, List.setIfInBounds_toArray, List.set_cons_zero, List.set_cons_succ, i64_w, i32_w]
     rfl
    refine pure_ (i := 7) (N := some 24) (v := ?_) (a' := ?_) #[true, false, true, false, false, true, false, true, false, false, false, false, false, false] rfl rfl (any_of HT_.out (by kernel_rfl)) (fun _ _ _ h => h) (Or.inl ⟨by rfl, ?_⟩) ?_ ?_
    rotate_left
    ·intro w'
     go_simp
     with_reducible rfl
    rotate_left
    ·simp only [Act.put, List.setIfInBounds_toArray, List.set_cons_zero, List.set_cons_succ, i64_w, i32_w]
     rfl
    refine take_ (i := 1) (N := some 18) (v := ?_) (a' := ?_) #[true, true, true, false, false, true, false, true, false, false, false, false, false, false] rfl rfl (take_ofW HT_.out HW_.out (by kernel_rfl)) (fun _ _ _ h => h) (Or.inl ⟨by rfl, ?_⟩) hHeld ?_ ?_
    rotate_left
    ·rintro w' ⟨s0, s1, s2, s3, s4, s5, s6, s7⟩
     go_simp
     with_reducible rfl
    rotate_left
    ·simp only [Act.put, List.setIfInBounds_toArray, List.set_cons_zero, List.set_cons_succ, i64_w, i32_w]
     rfl
    refine take_ (i := 3) (N := some 20) (v := ?_) (a' := ?_) #[true, true, true, true, false, true, false, true, false, false, false, false, false, false] rfl rfl (take_ofW HT_.out HW_.out (by kernel_rfl)) (fun _ _ _ h => h) (Or.inl ⟨by rfl, ?_⟩) hHeld ?_ ?_
    rotate_left
    ·rintro w' ⟨s0, s1, s2, s3, s4, s5, s6, s7⟩
     go_simp
     with_reducible rfl
    rotate_left
    ·simp only [Act.put, List.setIfInBounds_toArray, List.set_cons_zero, List.set_cons_succ, i64_w, i32_w]
     rfl
    refine take_ (i := 6) (N := some 23) (v := ?_) (a' := ?_) #[true, true, true, true, false, true, true, true, false, false, false, false, false, false] rfl rfl (take_ofW HT_.out HW_.out (by kernel_rfl)) (fun _ _ _ h => h) (Or.inl ⟨by rfl, ?_⟩) hHeld ?_ ?_
    rotate_left
    ·rintro w' ⟨s0, s1, s2, s3, s4, s5, s6, s7⟩
     go_simp
     with_reducible rfl
    rotate_left
    ·simp only [Act.put, List.setIfInBounds_toArray, List.set_cons_zero, List.set_cons_succ, i64_w, i32_w]
     rfl
    refine take_ (i := 8) (N := some 25) (v := ?_) (a' := ?_) #[true, true, true, true, false, true, true, true, true, false, false, false, false, false] rfl rfl (take_ofW HT_.out HW_.out (by kernel_rfl)) (fun _ _ _ h => h) (Or.inl ⟨by rfl, ?_⟩) hHeld ?_ ?_
    rotate_left
    ·rintro w' ⟨s0, s1, s2, s3, s4, s5, s6, s7⟩
     go_simp
     with_reducible rfl
    rotate_left
    ·simp only [Act.put, List.setIfInBounds_toArray, List.set_cons_zero, List.set_cons_succ, i64_w, i32_w]
     rfl
    refine join_ (σ := Nat × Nat) 2 #[true, true, true, true, true, true, true, true, true, true, true, true, false, false] (fun s_ => [(21, .agg #[.int .i64 t604, .int .i64 t605]), (26, .agg #[.int .i64 t606, .int .i64 t607]), (6, .pointer (some ⟨s_.1, 0, none⟩)), (7, .pointer (some ⟨s_.2, 0, none⟩))]) (fun s_ w' => (w'.cell? ⟨gb599, 0, none⟩ = some (.int .i64 a0_0) ∧ w'.cell? ⟨gb599, 1, none⟩ = some (.int .i64 a0_1) ∧ w'.cell? ⟨gb599, 2, none⟩ = some (.int .i64 a0_2) ∧ w'.cell? ⟨gb599, 3, none⟩ = some (.int .i64 a0_3) ∧ w'.cell? ⟨gb600, 0, none⟩ = some (.int .i64 a1_0) ∧ w'.cell? ⟨gb600, 1, none⟩ = some (.int .i64 a1_1) ∧ w'.cell? ⟨gb600, 2, none⟩ = some (.int .i64 a1_2) ∧ w'.cell? ⟨gb600, 3, none⟩ = some (.int .i64 a1_3)) ∧ (w'.heap[gb599]? = some (.cells #[.int .i64 a0_0, .int .i64 a0_1, .int .i64 a0_2, .int .i64 a0_3] 52 (0, 0))) ∧ (w'.heap[gb600]? = some (.cells #[.int .i64 a1_0, .int .i64 a1_1, .int .i64 a1_2, .int .i64 a1_3] 52 (0, 0))) ∧ (w'.heap[gb601]? = some (.cells #[.int .i64 0, .int .i64 0] 50 (0, 0))) ∧ (w'.heap[s_.1]? = some (.cells #[.int .i64 0, .int .i64 0] 50 (0, 0))) ∧ (w'.heap[s_.2]? = some (.cells #[.int .i64 0, .int .i64 0] 50 (0, 0))) ∧ (w.heap.size ≤ s_.1) ∧ (w.heap.size ≤ s_.1) ∧ (gb599 ≠ s_.1) ∧ (s_.1 ≠ gb599) ∧ (gb600 ≠ s_.1) ∧ (s_.1 ≠ gb600) ∧ (gb601 ≠ s_.1) ∧ (s_.1 ≠ gb601) ∧ (s_.2 ≠ s_.1) ∧ (s_.1 ≠ s_.2) ∧ (w.heap.size ≤ s_.2) ∧ (w.heap.size ≤ s_.2) ∧ (gb599 ≠ s_.2) ∧ (s_.2 ≠ gb599) ∧ (gb600 ≠ s_.2) ∧ (s_.2 ≠ gb600) ∧ (gb601 ≠ s_.2) ∧ (s_.2 ≠ gb601) ∧ (Below w.heap.size w w')) ?_ ?_
    rotate_left
    ·intro hJ4_9_10_11
     refine join_ (σ := Nat) 3 #[true, true, true, true, true, true, true, true, true, true, true, false, false, false] (fun s_ => [(21, .agg #[.int .i64 t604, .int .i64 t605]), (26, .agg #[.int .i64 t606, .int .i64 t607]), (6, .pointer (some ⟨s_, 0, none⟩))]) (fun s_ w' => (w'.cell? ⟨gb599, 0, none⟩ = some (.int .i64 a0_0) ∧ w'.cell? ⟨gb599, 1, none⟩ = some (.int .i64 a0_1) ∧ w'.cell? ⟨gb599, 2, none⟩ = some (.int .i64 a0_2) ∧ w'.cell? ⟨gb599, 3, none⟩ = some (.int .i64 a0_3) ∧ w'.cell? ⟨gb600, 0, none⟩ = some (.int .i64 a1_0) ∧ w'.cell? ⟨gb600, 1, none⟩ = some (.int .i64 a1_1) ∧ w'.cell? ⟨gb600, 2, none⟩ = some (.int .i64 a1_2) ∧ w'.cell? ⟨gb600, 3, none⟩ = some (.int .i64 a1_3)) ∧ (w'.heap[gb599]? = some (.cells #[.int .i64 a0_0, .int .i64 a0_1, .int .i64 a0_2, .int .i64 a0_3] 52 (0, 0))) ∧ (w'.heap[gb600]? = some (.cells #[.int .i64 a1_0, .int .i64 a1_1, .int .i64 a1_2, .int .i64 a1_3] 52 (0, 0))) ∧ (w'.heap[gb601]? = some (.cells #[.int .i64 0, .int .i64 0] 50 (0, 0))) ∧ (w'.heap[s_]? = some (.cells #[.int .i64 0, .int .i64 0] 50 (0, 0))) ∧ (w.heap.size ≤ s_) ∧ (w.heap.size ≤ s_) ∧ (gb599 ≠ s_) ∧ (s_ ≠ gb599) ∧ (gb600 ≠ s_) ∧ (s_ ≠ gb600) ∧ (gb601 ≠ s_) ∧ (s_ ≠ gb601) ∧ (Below w.heap.size w w')) ?_ ?_
     rotate_left
     ·intro hJ4_9_10
      refine join_ (σ := Nat) 3 #[true, true, true, true, true, true, true, true, true, true, false, true, false, false] (fun s_ => [(21, .agg #[.int .i64 t604, .int .i64 t605]), (26, .agg #[.int .i64 t606, .int .i64 t607]), (7, .pointer (some ⟨s_, 0, none⟩))]) (fun s_ w' => (w'.cell? ⟨gb599, 0, none⟩ = some (.int .i64 a0_0) ∧ w'.cell? ⟨gb599, 1, none⟩ = some (.int .i64 a0_1) ∧ w'.cell? ⟨gb599, 2, none⟩ = some (.int .i64 a0_2) ∧ w'.cell? ⟨gb599, 3, none⟩ = some (.int .i64 a0_3) ∧ w'.cell? ⟨gb600, 0, none⟩ = some (.int .i64 a1_0) ∧ w'.cell? ⟨gb600, 1, none⟩ = some (.int .i64 a1_1) ∧ w'.cell? ⟨gb600, 2, none⟩ = some (.int .i64 a1_2) ∧ w'.cell? ⟨gb600, 3, none⟩ = some (.int .i64 a1_3)) ∧ (w'.heap[gb599]? = some (.cells #[.int .i64 a0_0, .int .i64 a0_1, .int .i64 a0_2, .int .i64 a0_3] 52 (0, 0))) ∧ (w'.heap[gb600]? = some (.cells #[.int .i64 a1_0, .int .i64 a1_1, .int .i64 a1_2, .int .i64 a1_3] 52 (0, 0))) ∧ (w'.heap[gb601]? = some (.cells #[.int .i64 0, .int .i64 0] 50 (0, 0))) ∧ (w'.heap[s_]? = some (.cells #[.int .i64 0, .int .i64 0] 50 (0, 0))) ∧ (w.heap.size ≤ s_) ∧ (w.heap.size ≤ s_) ∧ (gb599 ≠ s_) ∧ (s_ ≠ gb599) ∧ (gb600 ≠ s_) ∧ (s_ ≠ gb600) ∧ (gb601 ≠ s_) ∧ (s_ ≠ gb601) ∧ (Below w.heap.size w w')) ?_ ?_
      rotate_left
      ·intro hJ4_9_11
       refine join_ (σ := Nat × Nat) 3 #[true, true, true, true, true, true, true, true, true, false, true, true, false, false] (fun s_ => [(21, .agg #[.int .i64 t604, .int .i64 t605]), (6, .pointer (some ⟨s_.1, 0, none⟩)), (7, .pointer (some ⟨s_.2, 0, none⟩))]) (fun s_ w' => (w'.cell? ⟨gb599, 0, none⟩ = some (.int .i64 a0_0) ∧ w'.cell? ⟨gb599, 1, none⟩ = some (.int .i64 a0_1) ∧ w'.cell? ⟨gb599, 2, none⟩ = some (.int .i64 a0_2) ∧ w'.cell? ⟨gb599, 3, none⟩ = some (.int .i64 a0_3) ∧ w'.cell? ⟨gb600, 0, none⟩ = some (.int .i64 a1_0) ∧ w'.cell? ⟨gb600, 1, none⟩ = some (.int .i64 a1_1) ∧ w'.cell? ⟨gb600, 2, none⟩ = some (.int .i64 a1_2) ∧ w'.cell? ⟨gb600, 3, none⟩ = some (.int .i64 a1_3)) ∧ (w'.heap[gb599]? = some (.cells #[.int .i64 a0_0, .int .i64 a0_1, .int .i64 a0_2, .int .i64 a0_3] 52 (0, 0))) ∧ (w'.heap[gb600]? = some (.cells #[.int .i64 a1_0, .int .i64 a1_1, .int .i64 a1_2, .int .i64 a1_3] 52 (0, 0))) ∧ (w'.heap[gb601]? = some (.cells #[.int .i64 0, .int .i64 0] 50 (0, 0))) ∧ (w'.heap[s_.1]? = some (.cells #[.int .i64 0, .int .i64 0] 50 (0, 0))) ∧ (w'.heap[s_.2]? = some (.cells #[.int .i64 0, .int .i64 0] 50 (0, 0))) ∧ (w.heap.size ≤ s_.1) ∧ (w.heap.size ≤ s_.1) ∧ (gb599 ≠ s_.1) ∧ (s_.1 ≠ gb599) ∧ (gb600 ≠ s_.1) ∧ (s_.1 ≠ gb600) ∧ (gb601 ≠ s_.1) ∧ (s_.1 ≠ gb601) ∧ (s_.2 ≠ s_.1) ∧ (s_.1 ≠ s_.2) ∧ (w.heap.size ≤ s_.2) ∧ (w.heap.size ≤ s_.2) ∧ (gb599 ≠ s_.2) ∧ (s_.2 ≠ gb599) ∧ (gb600 ≠ s_.2) ∧ (s_.2 ≠ gb600) ∧ (gb601 ≠ s_.2) ∧ (s_.2 ≠ gb601) ∧ (Below w.heap.size w w')) ?_ ?_
       rotate_left
       ·intro hJ4_10_11
        refine join_ (σ := Unit) 4 #[true, true, true, true, true, true, true, true, true, true, false, false, false, false] (fun s_ => [(21, .agg #[.int .i64 t604, .int .i64 t605]), (26, .agg #[.int .i64 t606, .int .i64 t607])]) (fun s_ w' => (w'.cell? ⟨gb599, 0, none⟩ = some (.int .i64 a0_0) ∧ w'.cell? ⟨gb599, 1, none⟩ = some (.int .i64 a0_1) ∧ w'.cell? ⟨gb599, 2, none⟩ = some (.int .i64 a0_2) ∧ w'.cell? ⟨gb599, 3, none⟩ = some (.int .i64 a0_3) ∧ w'.cell? ⟨gb600, 0, none⟩ = some (.int .i64 a1_0) ∧ w'.cell? ⟨gb600, 1, none⟩ = some (.int .i64 a1_1) ∧ w'.cell? ⟨gb600, 2, none⟩ = some (.int .i64 a1_2) ∧ w'.cell? ⟨gb600, 3, none⟩ = some (.int .i64 a1_3)) ∧ (w'.heap[gb599]? = some (.cells #[.int .i64 a0_0, .int .i64 a0_1, .int .i64 a0_2, .int .i64 a0_3] 52 (0, 0))) ∧ (w'.heap[gb600]? = some (.cells #[.int .i64 a1_0, .int .i64 a1_1, .int .i64 a1_2, .int .i64 a1_3] 52 (0, 0))) ∧ (w'.heap[gb601]? = some (.cells #[.int .i64 0, .int .i64 0] 50 (0, 0))) ∧ (Below w.heap.size w w')) ?_ ?_
        rotate_left
        ·intro hJ4_9
         refine join_ (σ := Nat) 4 #[true, true, true, true, true, true, true, true, true, false, true, false, false, false] (fun s_ => [(21, .agg #[.int .i64 t604, .int .i64 t605]), (6, .pointer (some ⟨s_, 0, none⟩))]) (fun s_ w' => (w'.cell? ⟨gb599, 0, none⟩ = some (.int .i64 a0_0) ∧ w'.cell? ⟨gb599, 1, none⟩ = some (.int .i64 a0_1) ∧ w'.cell? ⟨gb599, 2, none⟩ = some (.int .i64 a0_2) ∧ w'.cell? ⟨gb599, 3, none⟩ = some (.int .i64 a0_3) ∧ w'.cell? ⟨gb600, 0, none⟩ = some (.int .i64 a1_0) ∧ w'.cell? ⟨gb600, 1, none⟩ = some (.int .i64 a1_1) ∧ w'.cell? ⟨gb600, 2, none⟩ = some (.int .i64 a1_2) ∧ w'.cell? ⟨gb600, 3, none⟩ = some (.int .i64 a1_3)) ∧ (w'.heap[gb599]? = some (.cells #[.int .i64 a0_0, .int .i64 a0_1, .int .i64 a0_2, .int .i64 a0_3] 52 (0, 0))) ∧ (w'.heap[gb600]? = some (.cells #[.int .i64 a1_0, .int .i64 a1_1, .int .i64 a1_2, .int .i64 a1_3] 52 (0, 0))) ∧ (w'.heap[gb601]? = some (.cells #[.int .i64 0, .int .i64 0] 50 (0, 0))) ∧ (w'.heap[s_]? = some (.cells #[.int .i64 0, .int .i64 0] 50 (0, 0))) ∧ (w.heap.size ≤ s_) ∧ (w.heap.size ≤ s_) ∧ (gb599 ≠ s_) ∧ (s_ ≠ gb599) ∧ (gb600 ≠ s_) ∧ (s_ ≠ gb600) ∧ (gb601 ≠ s_) ∧ (s_ ≠ gb601) ∧ (Below w.heap.size w w')) ?_ ?_
         rotate_left
         ·intro hJ4_10
          refine join_ (σ := Nat) 4 #[true, true, true, true, true, true, true, true, true, false, false, true, false, false] (fun s_ => [(21, .agg #[.int .i64 t604, .int .i64 t605]), (7, .pointer (some ⟨s_, 0, none⟩))]) (fun s_ w' => (w'.cell? ⟨gb599, 0, none⟩ = some (.int .i64 a0_0) ∧ w'.cell? ⟨gb599, 1, none⟩ = some (.int .i64 a0_1) ∧ w'.cell? ⟨gb599, 2, none⟩ = some (.int .i64 a0_2) ∧ w'.cell? ⟨gb599, 3, none⟩ = some (.int .i64 a0_3) ∧ w'.cell? ⟨gb600, 0, none⟩ = some (.int .i64 a1_0) ∧ w'.cell? ⟨gb600, 1, none⟩ = some (.int .i64 a1_1) ∧ w'.cell? ⟨gb600, 2, none⟩ = some (.int .i64 a1_2) ∧ w'.cell? ⟨gb600, 3, none⟩ = some (.int .i64 a1_3)) ∧ (w'.heap[gb599]? = some (.cells #[.int .i64 a0_0, .int .i64 a0_1, .int .i64 a0_2, .int .i64 a0_3] 52 (0, 0))) ∧ (w'.heap[gb600]? = some (.cells #[.int .i64 a1_0, .int .i64 a1_1, .int .i64 a1_2, .int .i64 a1_3] 52 (0, 0))) ∧ (w'.heap[gb601]? = some (.cells #[.int .i64 0, .int .i64 0] 50 (0, 0))) ∧ (w'.heap[s_]? = some (.cells #[.int .i64 0, .int .i64 0] 50 (0, 0))) ∧ (w.heap.size ≤ s_) ∧ (w.heap.size ≤ s_) ∧ (gb599 ≠ s_) ∧ (s_ ≠ gb599) ∧ (gb600 ≠ s_) ∧ (s_ ≠ gb600) ∧ (gb601 ≠ s_) ∧ (s_ ≠ gb601) ∧ (Below w.heap.size w w')) ?_ ?_
          rotate_left
          ·intro hJ4_11
           refine join_ (σ := Nat × Nat) 4 #[true, true, true, true, false, true, true, true, true, false, true, true, false, false] (fun s_ => [(6, .pointer (some ⟨s_.1, 0, none⟩)), (7, .pointer (some ⟨s_.2, 0, none⟩))]) (fun s_ w' => (w'.cell? ⟨gb599, 0, none⟩ = some (.int .i64 a0_0) ∧ w'.cell? ⟨gb599, 1, none⟩ = some (.int .i64 a0_1) ∧ w'.cell? ⟨gb599, 2, none⟩ = some (.int .i64 a0_2) ∧ w'.cell? ⟨gb599, 3, none⟩ = some (.int .i64 a0_3) ∧ w'.cell? ⟨gb600, 0, none⟩ = some (.int .i64 a1_0) ∧ w'.cell? ⟨gb600, 1, none⟩ = some (.int .i64 a1_1) ∧ w'.cell? ⟨gb600, 2, none⟩ = some (.int .i64 a1_2) ∧ w'.cell? ⟨gb600, 3, none⟩ = some (.int .i64 a1_3)) ∧ (w'.heap[gb599]? = some (.cells #[.int .i64 a0_0, .int .i64 a0_1, .int .i64 a0_2, .int .i64 a0_3] 52 (0, 0))) ∧ (w'.heap[gb600]? = some (.cells #[.int .i64 a1_0, .int .i64 a1_1, .int .i64 a1_2, .int .i64 a1_3] 52 (0, 0))) ∧ (w'.heap[gb601]? = some (.cells #[.int .i64 0, .int .i64 0] 50 (0, 0))) ∧ (w'.heap[s_.1]? = some (.cells #[.int .i64 0, .int .i64 0] 50 (0, 0))) ∧ (w'.heap[s_.2]? = some (.cells #[.int .i64 0, .int .i64 0] 50 (0, 0))) ∧ (w.heap.size ≤ s_.1) ∧ (w.heap.size ≤ s_.1) ∧ (gb599 ≠ s_.1) ∧ (s_.1 ≠ gb599) ∧ (gb600 ≠ s_.1) ∧ (s_.1 ≠ gb600) ∧ (gb601 ≠ s_.1) ∧ (s_.1 ≠ gb601) ∧ (s_.2 ≠ s_.1) ∧ (s_.1 ≠ s_.2) ∧ (w.heap.size ≤ s_.2) ∧ (w.heap.size ≤ s_.2) ∧ (gb599 ≠ s_.2) ∧ (s_.2 ≠ gb599) ∧ (gb600 ≠ s_.2) ∧ (s_.2 ≠ gb600) ∧ (gb601 ≠ s_.2) ∧ (s_.2 ≠ gb601) ∧ (Below w.heap.size w w')) ?_ ?_
           rotate_left
           ·intro hJ10_11
            refine join_ (σ := Unit) 5 #[true, true, true, true, true, true, true, true, true, false, false, false, false, false] (fun s_ => [(21, .agg #[.int .i64 t604, .int .i64 t605])]) (fun s_ w' => (w'.cell? ⟨gb599, 0, none⟩ = some (.int .i64 a0_0) ∧ w'.cell? ⟨gb599, 1, none⟩ = some (.int .i64 a0_1) ∧ w'.cell? ⟨gb599, 2, none⟩ = some (.int .i64 a0_2) ∧ w'.cell? ⟨gb599, 3, none⟩ = some (.int .i64 a0_3) ∧ w'.cell? ⟨gb600, 0, none⟩ = some (.int .i64 a1_0) ∧ w'.cell? ⟨gb600, 1, none⟩ = some (.int .i64 a1_1) ∧ w'.cell? ⟨gb600, 2, none⟩ = some (.int .i64 a1_2) ∧ w'.cell? ⟨gb600, 3, none⟩ = some (.int .i64 a1_3)) ∧ (w'.heap[gb599]? = some (.cells #[.int .i64 a0_0, .int .i64 a0_1, .int .i64 a0_2, .int .i64 a0_3] 52 (0, 0))) ∧ (w'.heap[gb600]? = some (.cells #[.int .i64 a1_0, .int .i64 a1_1, .int .i64 a1_2, .int .i64 a1_3] 52 (0, 0))) ∧ (w'.heap[gb601]? = some (.cells #[.int .i64 0, .int .i64 0] 50 (0, 0))) ∧ (Below w.heap.size w w')) ?_ ?_
            rotate_left
            ·intro hJ4
             refine join_ (σ := Nat) 5 #[true, true, true, true, false, true, true, true, true, false, true, false, false, false] (fun s_ => [(6, .pointer (some ⟨s_, 0, none⟩))]) (fun s_ w' => (w'.cell? ⟨gb599, 0, none⟩ = some (.int .i64 a0_0) ∧ w'.cell? ⟨gb599, 1, none⟩ = some (.int .i64 a0_1) ∧ w'.cell? ⟨gb599, 2, none⟩ = some (.int .i64 a0_2) ∧ w'.cell? ⟨gb599, 3, none⟩ = some (.int .i64 a0_3) ∧ w'.cell? ⟨gb600, 0, none⟩ = some (.int .i64 a1_0) ∧ w'.cell? ⟨gb600, 1, none⟩ = some (.int .i64 a1_1) ∧ w'.cell? ⟨gb600, 2, none⟩ = some (.int .i64 a1_2) ∧ w'.cell? ⟨gb600, 3, none⟩ = some (.int .i64 a1_3)) ∧ (w'.heap[gb599]? = some (.cells #[.int .i64 a0_0, .int .i64 a0_1, .int .i64 a0_2, .int .i64 a0_3] 52 (0, 0))) ∧ (w'.heap[gb600]? = some (.cells #[.int .i64 a1_0, .int .i64 a1_1, .int .i64 a1_2, .int .i64 a1_3] 52 (0, 0))) ∧ (w'.heap[gb601]? = some (.cells #[.int .i64 0, .int .i64 0] 50 (0, 0))) ∧ (w'.heap[s_]? = some (.cells #[.int .i64 0, .int .i64 0] 50 (0, 0))) ∧ (w.heap.size ≤ s_) ∧ (w.heap.size ≤ s_) ∧ (gb599 ≠ s_) ∧ (s_ ≠ gb599) ∧ (gb600 ≠ s_) ∧ (s_ ≠ gb600) ∧ (gb601 ≠ s_) ∧ (s_ ≠ gb601) ∧ (Below w.heap.size w w')) ?_ ?_
             rotate_left
             ·intro hJ10
              refine join_ (σ := Nat) 5 #[true, true, true, true, false, true, true, true, true, false, false, true, false, false] (fun s_ => [(7, .pointer (some ⟨s_, 0, none⟩))]) (fun s_ w' => (w'.cell? ⟨gb599, 0, none⟩ = some (.int .i64 a0_0) ∧ w'.cell? ⟨gb599, 1, none⟩ = some (.int .i64 a0_1) ∧ w'.cell? ⟨gb599, 2, none⟩ = some (.int .i64 a0_2) ∧ w'.cell? ⟨gb599, 3, none⟩ = some (.int .i64 a0_3) ∧ w'.cell? ⟨gb600, 0, none⟩ = some (.int .i64 a1_0) ∧ w'.cell? ⟨gb600, 1, none⟩ = some (.int .i64 a1_1) ∧ w'.cell? ⟨gb600, 2, none⟩ = some (.int .i64 a1_2) ∧ w'.cell? ⟨gb600, 3, none⟩ = some (.int .i64 a1_3)) ∧ (w'.heap[gb599]? = some (.cells #[.int .i64 a0_0, .int .i64 a0_1, .int .i64 a0_2, .int .i64 a0_3] 52 (0, 0))) ∧ (w'.heap[gb600]? = some (.cells #[.int .i64 a1_0, .int .i64 a1_1, .int .i64 a1_2, .int .i64 a1_3] 52 (0, 0))) ∧ (w'.heap[gb601]? = some (.cells #[.int .i64 0, .int .i64 0] 50 (0, 0))) ∧ (w'.heap[s_]? = some (.cells #[.int .i64 0, .int .i64 0] 50 (0, 0))) ∧ (w.heap.size ≤ s_) ∧ (w.heap.size ≤ s_) ∧ (gb599 ≠ s_) ∧ (s_ ≠ gb599) ∧ (gb600 ≠ s_) ∧ (s_ ≠ gb600) ∧ (gb601 ≠ s_) ∧ (s_ ≠ gb601) ∧ (Below w.heap.size w w')) ?_ ?_
              rotate_left
              ·intro hJ11
               refine three_ (i := 4) (j := 10) (k := 11) (Ni := some 21) (Nj := some 6) (Nk := some 7) #[true, true, true, true, true, true, true, true, true, false, false, false, false, false] #[true, true, true, true, false, true, true, true, true, false, true, false, false, false] #[true, true, true, true, false, true, true, true, true, false, false, true, false, false] rfl rfl rfl rfl rfl rfl (three_of HT_.out (by kernel_rfl)) (by decide) (by decide) (by decide) (fun K hK => ?_) (fun K hK => ?_) (fun K hK => ?_)
               ·skip
                refine goes_ Try.func116 (by kernel_rfl) rfl #[.agg #[.int .i64 a0_0, .int .i64 a0_1], .agg #[.int .i64 a1_0, .int .i64 a1_1]] (by rfl) rfl rfl (by (try simp only [List.map_toArray, List.map_cons, List.map_nil]); first | done | rfl | (simp only [List.length_drop, List.length_take]; rfl)) ?_
                with_reducible refine (plane_apart.calls a0_0 a0_1 a1_0 a1_1 t604 t605 _ A25.out).mono ?_
                rintro e w28 ⟨rfl, hb⟩
                refine ⟨_, rfl, ?_⟩
                replace BK599 := bkC BK599 hb
                replace BK600 := bkC BK600 hb
                replace BK601 := bkC BK601 hb
                replace HB := Aside0.mk (below_step (by repeat (first | (with_reducible first | exact HB.out | apply below_alloc | apply pw_below_drewN | apply below_drew1 | refine below_set ?_ GE599.out | refine below_set ?_ GE600.out | refine below_set ?_ GE601.out) | exact HB.out)) hb)
                (try clear hb)
                (try clear hb2)
                (try clear hk)
                (try clear hi)
                refine hK.out _ _ ⟨(blk_cell BK599.out 0).trans rfl, (blk_cell BK599.out 1).trans rfl, (blk_cell BK599.out 2).trans rfl, (blk_cell BK599.out 3).trans rfl, (blk_cell BK600.out 0).trans rfl, (blk_cell BK600.out 1).trans rfl, (blk_cell BK600.out 2).trans rfl, (blk_cell BK600.out 3).trans rfl⟩ (fun hHeld => ?_)
                clear hK K
                refine norm_ (a' := ?_) ?_ ?_
                rotate_left
                ·show Act.put _ (some 21) _ = _
                 simp only [Act.put, List.setIfInBounds_toArray, List.set_cons_zero, List.set_cons_succ, i64_w, i32_w]
                 rfl
                exact norm_ (by first | (simp only [putAll, Act.put, List.setIfInBounds_toArray, List.set_cons_zero, List.set_cons_succ]; done) | (simp only [putAll, Act.put, List.setIfInBounds_toArray, List.set_cons_zero, List.set_cons_succ]; rfl)) (hJ4 () _ ⟨hHeld, (bk BK599), (bk BK600), (bk BK601), (by repeat (first | (with_reducible first | exact HB.out | apply below_alloc | apply pw_below_drewN | apply below_drew1 | refine below_set ?_ GE599.out | refine below_set ?_ GE600.out | refine below_set ?_ GE601.out) | exact HB.out))⟩)
               ·skip
                refine box_step ?hg (N := 6) ?hd (cs := #[.int .i64 0, .int .i64 0]) (t := 50) ?hr ?_; (case hd => rfl); (case hg => rfl); (case hr => first | (go_simp; done) | (go_simp; rfl))
                intro gb608 hg w28 hbox hb
                have BK608 := Aside0.mk (hbox)
                have GW608 := Aside0.mk ((by rw [hg]; exact (below_size (by repeat (first | (with_reducible first | exact HB.out | apply below_alloc | apply pw_below_drewN | apply below_drew1 | refine below_set ?_ GE599.out | refine below_set ?_ GE600.out | refine below_set ?_ GE601.out) | exact HB.out))) : w.heap.size ≤ gb608))
                have GE608 := Aside0.mk ((by rw [hg]; exact (below_size (by repeat (first | (with_reducible first | exact HB.out | apply below_alloc | apply pw_below_drewN | apply below_drew1 | refine below_set ?_ GE599.out | refine below_set ?_ GE600.out | refine below_set ?_ GE601.out) | exact HB.out))) : w.heap.size ≤ gb608))
                have NB599_608 := neLA BK599 hg
                have NB608_599 := neGA BK599 hg
                have NB600_608 := neLA BK600 hg
                have NB608_600 := neGA BK600 hg
                have NB601_608 := neLA BK601 hg
                have NB608_601 := neGA BK601 hg
                replace BK599 := bkC BK599 hb
                replace BK600 := bkC BK600 hb
                replace BK601 := bkC BK601 hb
                replace HB := Aside0.mk (below_step (by repeat (first | (with_reducible first | exact HB.out | apply below_alloc | apply pw_below_drewN | apply below_drew1 | refine below_set ?_ GE599.out | refine below_set ?_ GE600.out | refine below_set ?_ GE601.out) | exact HB.out)) hb)
                clear hb hbox hg
                refine hK.out _ _ ⟨(blk_cell BK599.out 0).trans rfl, (blk_cell BK599.out 1).trans rfl, (blk_cell BK599.out 2).trans rfl, (blk_cell BK599.out 3).trans rfl, (blk_cell BK600.out 0).trans rfl, (blk_cell BK600.out 1).trans rfl, (blk_cell BK600.out 2).trans rfl, (blk_cell BK600.out 3).trans rfl⟩ (fun hHeld => ?_)
                clear hK K
                refine norm_ (a' := ?_) ?_ ?_
                rotate_left
                ·show Act.put _ (some 6) _ = _
                 simp only [Act.put, List.setIfInBounds_toArray, List.set_cons_zero, List.set_cons_succ, i64_w, i32_w]
                 rfl
                exact norm_ (by first | (simp only [putAll, Act.put, List.setIfInBounds_toArray, List.set_cons_zero, List.set_cons_succ]; done) | (simp only [putAll, Act.put, List.setIfInBounds_toArray, List.set_cons_zero, List.set_cons_succ]; rfl)) (hJ10 (gb608) _ ⟨hHeld, (bk BK599), (bk BK600), (bk BK601), (bk BK608), GW608.out, GE608.out, NB599_608.out, NB608_599.out, NB600_608.out, NB608_600.out, NB601_608.out, NB608_601.out, (by repeat (first | (with_reducible first | exact HB.out | apply below_alloc | apply pw_below_drewN | apply below_drew1 | refine below_set ?_ GE599.out | refine below_set ?_ GE600.out | refine below_set ?_ GE601.out | refine below_set ?_ GE608.out) | exact HB.out))⟩)
               ·skip
                refine box_step ?hg (N := 7) ?hd (cs := #[.int .i64 0, .int .i64 0]) (t := 50) ?hr ?_; (case hd => rfl); (case hg => rfl); (case hr => first | (go_simp; done) | (go_simp; rfl))
                intro gb609 hg w28 hbox hb
                have BK609 := Aside0.mk (hbox)
                have GW609 := Aside0.mk ((by rw [hg]; exact (below_size (by repeat (first | (with_reducible first | exact HB.out | apply below_alloc | apply pw_below_drewN | apply below_drew1 | refine below_set ?_ GE599.out | refine below_set ?_ GE600.out | refine below_set ?_ GE601.out) | exact HB.out))) : w.heap.size ≤ gb609))
                have GE609 := Aside0.mk ((by rw [hg]; exact (below_size (by repeat (first | (with_reducible first | exact HB.out | apply below_alloc | apply pw_below_drewN | apply below_drew1 | refine below_set ?_ GE599.out | refine below_set ?_ GE600.out | refine below_set ?_ GE601.out) | exact HB.out))) : w.heap.size ≤ gb609))
                have NB599_609 := neLA BK599 hg
                have NB609_599 := neGA BK599 hg
                have NB600_609 := neLA BK600 hg
                have NB609_600 := neGA BK600 hg
                have NB601_609 := neLA BK601 hg
                have NB609_601 := neGA BK601 hg
                replace BK599 := bkC BK599 hb
                replace BK600 := bkC BK600 hb
                replace BK601 := bkC BK601 hb
                replace HB := Aside0.mk (below_step (by repeat (first | (with_reducible first | exact HB.out | apply below_alloc | apply pw_below_drewN | apply below_drew1 | refine below_set ?_ GE599.out | refine below_set ?_ GE600.out | refine below_set ?_ GE601.out) | exact HB.out)) hb)
                clear hb hbox hg
                refine hK.out _ _ ⟨(blk_cell BK599.out 0).trans rfl, (blk_cell BK599.out 1).trans rfl, (blk_cell BK599.out 2).trans rfl, (blk_cell BK599.out 3).trans rfl, (blk_cell BK600.out 0).trans rfl, (blk_cell BK600.out 1).trans rfl, (blk_cell BK600.out 2).trans rfl, (blk_cell BK600.out 3).trans rfl⟩ (fun hHeld => ?_)
                clear hK K
                refine norm_ (a' := ?_) ?_ ?_
                rotate_left
                ·show Act.put _ (some 7) _ = _
                 simp only [Act.put, List.setIfInBounds_toArray, List.set_cons_zero, List.set_cons_succ, i64_w, i32_w]
                 rfl
                exact norm_ (by first | (simp only [putAll, Act.put, List.setIfInBounds_toArray, List.set_cons_zero, List.set_cons_succ]; done) | (simp only [putAll, Act.put, List.setIfInBounds_toArray, List.set_cons_zero, List.set_cons_succ]; rfl)) (hJ11 (gb609) _ ⟨hHeld, (bk BK599), (bk BK600), (bk BK601), (bk BK609), GW609.out, GE609.out, NB599_609.out, NB609_599.out, NB600_609.out, NB609_600.out, NB601_609.out, NB609_601.out, (by repeat (first | (with_reducible first | exact HB.out | apply below_alloc | apply pw_below_drewN | apply below_drew1 | refine below_set ?_ GE599.out | refine below_set ?_ GE600.out | refine below_set ?_ GE601.out | refine below_set ?_ GE609.out) | exact HB.out))⟩)
              ·skip
               rintro gb609 w29 ⟨hS_, h0_, h1_, h2_, h3_, h4_, h5_, h6_, h7_, h8_, h9_, h10_, h11_, h12_⟩
               have n0_ : Aside0 (w29.heap[gb599]? = some (.cells #[.int .i64 a0_0, .int .i64 a0_1, .int .i64 a0_2, .int .i64 a0_3] 52 (0, 0))) := ⟨h0_⟩
               have n1_ : Aside0 (w29.heap[gb600]? = some (.cells #[.int .i64 a1_0, .int .i64 a1_1, .int .i64 a1_2, .int .i64 a1_3] 52 (0, 0))) := ⟨h1_⟩
               have n2_ : Aside0 (w29.heap[gb601]? = some (.cells #[.int .i64 0, .int .i64 0] 50 (0, 0))) := ⟨h2_⟩
               have n3_ : Aside0 (w29.heap[gb609]? = some (.cells #[.int .i64 0, .int .i64 0] 50 (0, 0))) := ⟨h3_⟩
               have n4_ : Aside0 (w.heap.size ≤ gb609) := ⟨h4_⟩
               have n5_ : Aside0 (w.heap.size ≤ gb609) := ⟨h5_⟩
               have n6_ : Aside0 (gb599 ≠ gb609) := ⟨h6_⟩
               have n7_ : Aside0 (gb609 ≠ gb599) := ⟨h7_⟩
               have n8_ : Aside0 (gb600 ≠ gb609) := ⟨h8_⟩
               have n9_ : Aside0 (gb609 ≠ gb600) := ⟨h9_⟩
               have n10_ : Aside0 (gb601 ≠ gb609) := ⟨h10_⟩
               have n11_ : Aside0 (gb609 ≠ gb601) := ⟨h11_⟩
               have n12_ : Aside0 (Below w.heap.size w w29) := ⟨h12_⟩
               clear BK599
               clear BK600
               clear BK601
               clear HB
               clear h0_ h1_ h2_ h3_ h4_ h5_ h6_ h7_ h8_ h9_ h10_ h11_ h12_
               have BK599 := n0_
               have BK600 := n1_
               have BK601 := n2_
               have BK609 := n3_
               have GW609 := n4_
               have GE609 := n5_
               have NB599_609 := n6_
               have NB609_599 := n7_
               have NB600_609 := n8_
               have NB609_600 := n9_
               have NB601_609 := n10_
               have NB609_601 := n11_
               have HB := n12_
               clear n0_ n1_ n2_ n3_ n4_ n5_ n6_ n7_ n8_ n9_ n10_ n11_ n12_
               have hHeld : w29.cell? ⟨gb599, 0, none⟩ = some (.int .i64 a0_0) ∧ w29.cell? ⟨gb599, 1, none⟩ = some (.int .i64 a0_1) ∧ w29.cell? ⟨gb599, 2, none⟩ = some (.int .i64 a0_2) ∧ w29.cell? ⟨gb599, 3, none⟩ = some (.int .i64 a0_3) ∧ w29.cell? ⟨gb600, 0, none⟩ = some (.int .i64 a1_0) ∧ w29.cell? ⟨gb600, 1, none⟩ = some (.int .i64 a1_1) ∧ w29.cell? ⟨gb600, 2, none⟩ = some (.int .i64 a1_2) ∧ w29.cell? ⟨gb600, 3, none⟩ = some (.int .i64 a1_3) := hS_
               refine norm_ (a' := ?_) ?_ ?_
               rotate_left
               ·simp only [putAll, Act.put, List.setIfInBounds_toArray, List.set_cons_zero, List.set_cons_succ]
                rfl
               refine two_ (i := 4) (j := 10) (Ni := some 21) (Nj := some 6) #[true, true, true, true, true, true, true, true, true, false, false, true, false, false] #[true, true, true, true, false, true, true, true, true, false, true, true, false, false] rfl rfl rfl rfl (two_of HT_.out (by kernel_rfl)) (by decide) (by decide) (fun K hK => ?_) (fun K hK => ?_)
               ·skip
                refine goes_ Try.func116 (by kernel_rfl) rfl #[.agg #[.int .i64 a0_0, .int .i64 a0_1], .agg #[.int .i64 a1_0, .int .i64 a1_1]] (by rfl) rfl rfl (by (try simp only [List.map_toArray, List.map_cons, List.map_nil]); first | done | rfl | (simp only [List.length_drop, List.length_take]; rfl)) ?_
                with_reducible refine (plane_apart.calls a0_0 a0_1 a1_0 a1_1 t604 t605 _ A25.out).mono ?_
                rintro e w30 ⟨rfl, hb⟩
                refine ⟨_, rfl, ?_⟩
                replace BK599 := bkC BK599 hb
                replace BK600 := bkC BK600 hb
                replace BK601 := bkC BK601 hb
                replace BK609 := bkC BK609 hb
                replace HB := Aside0.mk (below_step (by repeat (first | (with_reducible first | exact HB.out | apply below_alloc | apply pw_below_drewN | apply below_drew1 | refine below_set ?_ GE599.out | refine below_set ?_ GE600.out | refine below_set ?_ GE601.out | refine below_set ?_ GE609.out) | exact HB.out)) hb)
                (try clear hb)
                (try clear hb2)
                (try clear hk)
                (try clear hi)
                refine hK.out _ _ ⟨(blk_cell BK599.out 0).trans rfl, (blk_cell BK599.out 1).trans rfl, (blk_cell BK599.out 2).trans rfl, (blk_cell BK599.out 3).trans rfl, (blk_cell BK600.out 0).trans rfl, (blk_cell BK600.out 1).trans rfl, (blk_cell BK600.out 2).trans rfl, (blk_cell BK600.out 3).trans rfl⟩ (fun hHeld => ?_)
                clear hK K
                refine norm_ (a' := ?_) ?_ ?_
                rotate_left
                ·show Act.put _ (some 21) _ = _
                 simp only [Act.put, List.setIfInBounds_toArray, List.set_cons_zero, List.set_cons_succ, i64_w, i32_w]
                 rfl
                exact norm_ (by first | (simp only [putAll, Act.put, List.setIfInBounds_toArray, List.set_cons_zero, List.set_cons_succ]; done) | (simp only [putAll, Act.put, List.setIfInBounds_toArray, List.set_cons_zero, List.set_cons_succ]; rfl)) (hJ4_11 (gb609) _ ⟨hHeld, (bk BK599), (bk BK600), (bk BK601), (bk BK609), GW609.out, GE609.out, NB599_609.out, NB609_599.out, NB600_609.out, NB609_600.out, NB601_609.out, NB609_601.out, (by repeat (first | (with_reducible first | exact HB.out | apply below_alloc | apply pw_below_drewN | apply below_drew1 | refine below_set ?_ GE599.out | refine below_set ?_ GE600.out | refine below_set ?_ GE601.out | refine below_set ?_ GE609.out) | exact HB.out))⟩)
               ·skip
                refine box_step ?hg (N := 6) ?hd (cs := #[.int .i64 0, .int .i64 0]) (t := 50) ?hr ?_; (case hd => rfl); (case hg => rfl); (case hr => first | (go_simp; done) | (go_simp; rfl))
                intro gb608 hg w30 hbox hb
                have BK608 := Aside0.mk (hbox)
                have GW608 := Aside0.mk ((by rw [hg]; exact (below_size (by repeat (first | (with_reducible first | exact HB.out | apply below_alloc | apply pw_below_drewN | apply below_drew1 | refine below_set ?_ GE599.out | refine below_set ?_ GE600.out | refine below_set ?_ GE601.out | refine below_set ?_ GE609.out) | exact HB.out))) : w.heap.size ≤ gb608))
                have GE608 := Aside0.mk ((by rw [hg]; exact (below_size (by repeat (first | (with_reducible first | exact HB.out | apply below_alloc | apply pw_below_drewN | apply below_drew1 | refine below_set ?_ GE599.out | refine below_set ?_ GE600.out | refine below_set ?_ GE601.out | refine below_set ?_ GE609.out) | exact HB.out))) : w.heap.size ≤ gb608))
                have NB599_608 := neLA BK599 hg
                have NB608_599 := neGA BK599 hg
                have NB600_608 := neLA BK600 hg
                have NB608_600 := neGA BK600 hg
                have NB601_608 := neLA BK601 hg
                have NB608_601 := neGA BK601 hg
                have NB609_608 := neLA BK609 hg
                have NB608_609 := neGA BK609 hg
                replace BK599 := bkC BK599 hb
                replace BK600 := bkC BK600 hb
                replace BK601 := bkC BK601 hb
                replace BK609 := bkC BK609 hb
                replace HB := Aside0.mk (below_step (by repeat (first | (with_reducible first | exact HB.out | apply below_alloc | apply pw_below_drewN | apply below_drew1 | refine below_set ?_ GE599.out | refine below_set ?_ GE600.out | refine below_set ?_ GE601.out | refine below_set ?_ GE609.out) | exact HB.out)) hb)
                clear hb hbox hg
                refine hK.out _ _ ⟨(blk_cell BK599.out 0).trans rfl, (blk_cell BK599.out 1).trans rfl, (blk_cell BK599.out 2).trans rfl, (blk_cell BK599.out 3).trans rfl, (blk_cell BK600.out 0).trans rfl, (blk_cell BK600.out 1).trans rfl, (blk_cell BK600.out 2).trans rfl, (blk_cell BK600.out 3).trans rfl⟩ (fun hHeld => ?_)
                clear hK K
                refine norm_ (a' := ?_) ?_ ?_
                rotate_left
                ·show Act.put _ (some 6) _ = _
                 simp only [Act.put, List.setIfInBounds_toArray, List.set_cons_zero, List.set_cons_succ, i64_w, i32_w]
                 rfl
                exact norm_ (by first | (simp only [putAll, Act.put, List.setIfInBounds_toArray, List.set_cons_zero, List.set_cons_succ]; done) | (simp only [putAll, Act.put, List.setIfInBounds_toArray, List.set_cons_zero, List.set_cons_succ]; rfl)) (hJ10_11 (gb608, gb609) _ ⟨hHeld, (bk BK599), (bk BK600), (bk BK601), (bk BK608), (bk BK609), GW608.out, GE608.out, NB599_608.out, NB608_599.out, NB600_608.out, NB608_600.out, NB601_608.out, NB608_601.out, NB609_608.out, NB608_609.out, GW609.out, GE609.out, NB599_609.out, NB609_599.out, NB600_609.out, NB609_600.out, NB601_609.out, NB609_601.out, (by repeat (first | (with_reducible first | exact HB.out | apply below_alloc | apply pw_below_drewN | apply below_drew1 | refine below_set ?_ GE599.out | refine below_set ?_ GE600.out | refine below_set ?_ GE601.out | refine below_set ?_ GE609.out | refine below_set ?_ GE608.out) | exact HB.out))⟩)
             ·skip
              rintro gb608 w29 ⟨hS_, h0_, h1_, h2_, h3_, h4_, h5_, h6_, h7_, h8_, h9_, h10_, h11_, h12_⟩
              have n0_ : Aside0 (w29.heap[gb599]? = some (.cells #[.int .i64 a0_0, .int .i64 a0_1, .int .i64 a0_2, .int .i64 a0_3] 52 (0, 0))) := ⟨h0_⟩
              have n1_ : Aside0 (w29.heap[gb600]? = some (.cells #[.int .i64 a1_0, .int .i64 a1_1, .int .i64 a1_2, .int .i64 a1_3] 52 (0, 0))) := ⟨h1_⟩
              have n2_ : Aside0 (w29.heap[gb601]? = some (.cells #[.int .i64 0, .int .i64 0] 50 (0, 0))) := ⟨h2_⟩
              have n3_ : Aside0 (w29.heap[gb608]? = some (.cells #[.int .i64 0, .int .i64 0] 50 (0, 0))) := ⟨h3_⟩
              have n4_ : Aside0 (w.heap.size ≤ gb608) := ⟨h4_⟩
              have n5_ : Aside0 (w.heap.size ≤ gb608) := ⟨h5_⟩
              have n6_ : Aside0 (gb599 ≠ gb608) := ⟨h6_⟩
              have n7_ : Aside0 (gb608 ≠ gb599) := ⟨h7_⟩
              have n8_ : Aside0 (gb600 ≠ gb608) := ⟨h8_⟩
              have n9_ : Aside0 (gb608 ≠ gb600) := ⟨h9_⟩
              have n10_ : Aside0 (gb601 ≠ gb608) := ⟨h10_⟩
              have n11_ : Aside0 (gb608 ≠ gb601) := ⟨h11_⟩
              have n12_ : Aside0 (Below w.heap.size w w29) := ⟨h12_⟩
              clear BK599
              clear BK600
              clear BK601
              clear HB
              clear h0_ h1_ h2_ h3_ h4_ h5_ h6_ h7_ h8_ h9_ h10_ h11_ h12_
              have BK599 := n0_
              have BK600 := n1_
              have BK601 := n2_
              have BK608 := n3_
              have GW608 := n4_
              have GE608 := n5_
              have NB599_608 := n6_
              have NB608_599 := n7_
              have NB600_608 := n8_
              have NB608_600 := n9_
              have NB601_608 := n10_
              have NB608_601 := n11_
              have HB := n12_
              clear n0_ n1_ n2_ n3_ n4_ n5_ n6_ n7_ n8_ n9_ n10_ n11_ n12_
              have hHeld : w29.cell? ⟨gb599, 0, none⟩ = some (.int .i64 a0_0) ∧ w29.cell? ⟨gb599, 1, none⟩ = some (.int .i64 a0_1) ∧ w29.cell? ⟨gb599, 2, none⟩ = some (.int .i64 a0_2) ∧ w29.cell? ⟨gb599, 3, none⟩ = some (.int .i64 a0_3) ∧ w29.cell? ⟨gb600, 0, none⟩ = some (.int .i64 a1_0) ∧ w29.cell? ⟨gb600, 1, none⟩ = some (.int .i64 a1_1) ∧ w29.cell? ⟨gb600, 2, none⟩ = some (.int .i64 a1_2) ∧ w29.cell? ⟨gb600, 3, none⟩ = some (.int .i64 a1_3) := hS_
              refine norm_ (a' := ?_) ?_ ?_
              rotate_left
              ·simp only [putAll, Act.put, List.setIfInBounds_toArray, List.set_cons_zero, List.set_cons_succ]
               rfl
              refine two_ (i := 4) (j := 11) (Ni := some 21) (Nj := some 7) #[true, true, true, true, true, true, true, true, true, false, true, false, false, false] #[true, true, true, true, false, true, true, true, true, false, true, true, false, false] rfl rfl rfl rfl (two_of HT_.out (by kernel_rfl)) (by decide) (by decide) (fun K hK => ?_) (fun K hK => ?_)
              ·skip
               refine goes_ Try.func116 (by kernel_rfl) rfl #[.agg #[.int .i64 a0_0, .int .i64 a0_1], .agg #[.int .i64 a1_0, .int .i64 a1_1]] (by rfl) rfl rfl (by (try simp only [List.map_toArray, List.map_cons, List.map_nil]); first | done | rfl | (simp only [List.length_drop, List.length_take]; rfl)) ?_
               with_reducible refine (plane_apart.calls a0_0 a0_1 a1_0 a1_1 t604 t605 _ A25.out).mono ?_
               rintro e w30 ⟨rfl, hb⟩
               refine ⟨_, rfl, ?_⟩
               replace BK599 := bkC BK599 hb
               replace BK600 := bkC BK600 hb
               replace BK601 := bkC BK601 hb
               replace BK608 := bkC BK608 hb
               replace HB := Aside0.mk (below_step (by repeat (first | (with_reducible first | exact HB.out | apply below_alloc | apply pw_below_drewN | apply below_drew1 | refine below_set ?_ GE599.out | refine below_set ?_ GE600.out | refine below_set ?_ GE601.out | refine below_set ?_ GE608.out) | exact HB.out)) hb)
               (try clear hb)
               (try clear hb2)
               (try clear hk)
               (try clear hi)
               refine hK.out _ _ ⟨(blk_cell BK599.out 0).trans rfl, (blk_cell BK599.out 1).trans rfl, (blk_cell BK599.out 2).trans rfl, (blk_cell BK599.out 3).trans rfl, (blk_cell BK600.out 0).trans rfl, (blk_cell BK600.out 1).trans rfl, (blk_cell BK600.out 2).trans rfl, (blk_cell BK600.out 3).trans rfl⟩ (fun hHeld => ?_)
               clear hK K
               refine norm_ (a' := ?_) ?_ ?_
               rotate_left
               ·show Act.put _ (some 21) _ = _
                simp only [Act.put, List.setIfInBounds_toArray, List.set_cons_zero, List.set_cons_succ, i64_w, i32_w]
                rfl
               exact norm_ (by first | (simp only [putAll, Act.put, List.setIfInBounds_toArray, List.set_cons_zero, List.set_cons_succ]; done) | (simp only [putAll, Act.put, List.setIfInBounds_toArray, List.set_cons_zero, List.set_cons_succ]; rfl)) (hJ4_10 (gb608) _ ⟨hHeld, (bk BK599), (bk BK600), (bk BK601), (bk BK608), GW608.out, GE608.out, NB599_608.out, NB608_599.out, NB600_608.out, NB608_600.out, NB601_608.out, NB608_601.out, (by repeat (first | (with_reducible first | exact HB.out | apply below_alloc | apply pw_below_drewN | apply below_drew1 | refine below_set ?_ GE599.out | refine below_set ?_ GE600.out | refine below_set ?_ GE601.out | refine below_set ?_ GE608.out) | exact HB.out))⟩)
              ·skip
               refine box_step ?hg (N := 7) ?hd (cs := #[.int .i64 0, .int .i64 0]) (t := 50) ?hr ?_; (case hd => rfl); (case hg => rfl); (case hr => first | (go_simp; done) | (go_simp; rfl))
               intro gb609 hg w30 hbox hb
               have BK609 := Aside0.mk (hbox)
               have GW609 := Aside0.mk ((by rw [hg]; exact (below_size (by repeat (first | (with_reducible first | exact HB.out | apply below_alloc | apply pw_below_drewN | apply below_drew1 | refine below_set ?_ GE599.out | refine below_set ?_ GE600.out | refine below_set ?_ GE601.out | refine below_set ?_ GE608.out) | exact HB.out))) : w.heap.size ≤ gb609))
               have GE609 := Aside0.mk ((by rw [hg]; exact (below_size (by repeat (first | (with_reducible first | exact HB.out | apply below_alloc | apply pw_below_drewN | apply below_drew1 | refine below_set ?_ GE599.out | refine below_set ?_ GE600.out | refine below_set ?_ GE601.out | refine below_set ?_ GE608.out) | exact HB.out))) : w.heap.size ≤ gb609))
               have NB599_609 := neLA BK599 hg
               have NB609_599 := neGA BK599 hg
               have NB600_609 := neLA BK600 hg
               have NB609_600 := neGA BK600 hg
               have NB601_609 := neLA BK601 hg
               have NB609_601 := neGA BK601 hg
               have NB608_609 := neLA BK608 hg
               have NB609_608 := neGA BK608 hg
               replace BK599 := bkC BK599 hb
               replace BK600 := bkC BK600 hb
               replace BK601 := bkC BK601 hb
               replace BK608 := bkC BK608 hb
               replace HB := Aside0.mk (below_step (by repeat (first | (with_reducible first | exact HB.out | apply below_alloc | apply pw_below_drewN | apply below_drew1 | refine below_set ?_ GE599.out | refine below_set ?_ GE600.out | refine below_set ?_ GE601.out | refine below_set ?_ GE608.out) | exact HB.out)) hb)
               clear hb hbox hg
               refine hK.out _ _ ⟨(blk_cell BK599.out 0).trans rfl, (blk_cell BK599.out 1).trans rfl, (blk_cell BK599.out 2).trans rfl, (blk_cell BK599.out 3).trans rfl, (blk_cell BK600.out 0).trans rfl, (blk_cell BK600.out 1).trans rfl, (blk_cell BK600.out 2).trans rfl, (blk_cell BK600.out 3).trans rfl⟩ (fun hHeld => ?_)
               clear hK K
               refine norm_ (a' := ?_) ?_ ?_
               rotate_left
               ·show Act.put _ (some 7) _ = _
                simp only [Act.put, List.setIfInBounds_toArray, List.set_cons_zero, List.set_cons_succ, i64_w, i32_w]
                rfl
               exact norm_ (by first | (simp only [putAll, Act.put, List.setIfInBounds_toArray, List.set_cons_zero, List.set_cons_succ]; done) | (simp only [putAll, Act.put, List.setIfInBounds_toArray, List.set_cons_zero, List.set_cons_succ]; rfl)) (hJ10_11 (gb608, gb609) _ ⟨hHeld, (bk BK599), (bk BK600), (bk BK601), (bk BK608), (bk BK609), GW608.out, GE608.out, NB599_608.out, NB608_599.out, NB600_608.out, NB608_600.out, NB601_608.out, NB608_601.out, NB609_608.out, NB608_609.out, GW609.out, GE609.out, NB599_609.out, NB609_599.out, NB600_609.out, NB609_600.out, NB601_609.out, NB609_601.out, (by repeat (first | (with_reducible first | exact HB.out | apply below_alloc | apply pw_below_drewN | apply below_drew1 | refine below_set ?_ GE599.out | refine below_set ?_ GE600.out | refine below_set ?_ GE601.out | refine below_set ?_ GE608.out | refine below_set ?_ GE609.out) | exact HB.out))⟩)
            ·skip
             rintro _ w29 ⟨hS_, h0_, h1_, h2_, h3_⟩
             have n0_ : Aside0 (w29.heap[gb599]? = some (.cells #[.int .i64 a0_0, .int .i64 a0_1, .int .i64 a0_2, .int .i64 a0_3] 52 (0, 0))) := ⟨h0_⟩
             have n1_ : Aside0 (w29.heap[gb600]? = some (.cells #[.int .i64 a1_0, .int .i64 a1_1, .int .i64 a1_2, .int .i64 a1_3] 52 (0, 0))) := ⟨h1_⟩
             have n2_ : Aside0 (w29.heap[gb601]? = some (.cells #[.int .i64 0, .int .i64 0] 50 (0, 0))) := ⟨h2_⟩
             have n3_ : Aside0 (Below w.heap.size w w29) := ⟨h3_⟩
             clear BK599
             clear BK600
             clear BK601
             clear HB
             clear h0_ h1_ h2_ h3_
             have BK599 := n0_
             have BK600 := n1_
             have BK601 := n2_
             have HB := n3_
             clear n0_ n1_ n2_ n3_
             have hHeld : w29.cell? ⟨gb599, 0, none⟩ = some (.int .i64 a0_0) ∧ w29.cell? ⟨gb599, 1, none⟩ = some (.int .i64 a0_1) ∧ w29.cell? ⟨gb599, 2, none⟩ = some (.int .i64 a0_2) ∧ w29.cell? ⟨gb599, 3, none⟩ = some (.int .i64 a0_3) ∧ w29.cell? ⟨gb600, 0, none⟩ = some (.int .i64 a1_0) ∧ w29.cell? ⟨gb600, 1, none⟩ = some (.int .i64 a1_1) ∧ w29.cell? ⟨gb600, 2, none⟩ = some (.int .i64 a1_2) ∧ w29.cell? ⟨gb600, 3, none⟩ = some (.int .i64 a1_3) := hS_
             refine norm_ (a' := ?_) ?_ ?_
             rotate_left
             ·simp only [putAll, Act.put, List.setIfInBounds_toArray, List.set_cons_zero, List.set_cons_succ]
              rfl
             refine three_ (i := 9) (j := 10) (k := 11) (Ni := some 26) (Nj := some 6) (Nk := some 7) #[true, true, true, true, true, true, true, true, true, true, false, false, false, false] #[true, true, true, true, true, true, true, true, true, false, true, false, false, false] #[true, true, true, true, true, true, true, true, true, false, false, true, false, false] rfl rfl rfl rfl rfl rfl (three_of HT_.out (by kernel_rfl)) (by decide) (by decide) (by decide) (fun K hK => ?_) (fun K hK => ?_) (fun K hK => ?_)
             ·skip
              refine goes_ Try.func116 (by kernel_rfl) rfl #[.agg #[.int .i64 a0_2, .int .i64 a0_3], .agg #[.int .i64 a1_2, .int .i64 a1_3]] (by rfl) rfl rfl (by (try simp only [List.map_toArray, List.map_cons, List.map_nil]); first | done | rfl | (simp only [List.length_drop, List.length_take]; rfl)) ?_
              with_reducible refine (plane_apart.calls a0_2 a0_3 a1_2 a1_3 t606 t607 _ A26.out).mono ?_
              rintro e w30 ⟨rfl, hb⟩
              refine ⟨_, rfl, ?_⟩
              replace BK599 := bkC BK599 hb
              replace BK600 := bkC BK600 hb
              replace BK601 := bkC BK601 hb
              replace HB := Aside0.mk (below_step (by repeat (first | (with_reducible first | exact HB.out | apply below_alloc | apply pw_below_drewN | apply below_drew1 | refine below_set ?_ GE599.out | refine below_set ?_ GE600.out | refine below_set ?_ GE601.out) | exact HB.out)) hb)
              (try clear hb)
              (try clear hb2)
              (try clear hk)
              (try clear hi)
              refine hK.out _ _ ⟨(blk_cell BK599.out 0).trans rfl, (blk_cell BK599.out 1).trans rfl, (blk_cell BK599.out 2).trans rfl, (blk_cell BK599.out 3).trans rfl, (blk_cell BK600.out 0).trans rfl, (blk_cell BK600.out 1).trans rfl, (blk_cell BK600.out 2).trans rfl, (blk_cell BK600.out 3).trans rfl⟩ (fun hHeld => ?_)
              clear hK K
              refine norm_ (a' := ?_) ?_ ?_
              rotate_left
              ·show Act.put _ (some 26) _ = _
               simp only [Act.put, List.setIfInBounds_toArray, List.set_cons_zero, List.set_cons_succ, i64_w, i32_w]
               rfl
              exact norm_ (by first | (simp only [putAll, Act.put, List.setIfInBounds_toArray, List.set_cons_zero, List.set_cons_succ]; done) | (simp only [putAll, Act.put, List.setIfInBounds_toArray, List.set_cons_zero, List.set_cons_succ]; rfl)) (hJ4_9 () _ ⟨hHeld, (bk BK599), (bk BK600), (bk BK601), (by repeat (first | (with_reducible first | exact HB.out | apply below_alloc | apply pw_below_drewN | apply below_drew1 | refine below_set ?_ GE599.out | refine below_set ?_ GE600.out | refine below_set ?_ GE601.out) | exact HB.out))⟩)
             ·skip
              refine box_step ?hg (N := 6) ?hd (cs := #[.int .i64 0, .int .i64 0]) (t := 50) ?hr ?_; (case hd => rfl); (case hg => rfl); (case hr => first | (go_simp; done) | (go_simp; rfl))
              intro gb608 hg w30 hbox hb
              have BK608 := Aside0.mk (hbox)
              have GW608 := Aside0.mk ((by rw [hg]; exact (below_size (by repeat (first | (with_reducible first | exact HB.out | apply below_alloc | apply pw_below_drewN | apply below_drew1 | refine below_set ?_ GE599.out | refine below_set ?_ GE600.out | refine below_set ?_ GE601.out) | exact HB.out))) : w.heap.size ≤ gb608))
              have GE608 := Aside0.mk ((by rw [hg]; exact (below_size (by repeat (first | (with_reducible first | exact HB.out | apply below_alloc | apply pw_below_drewN | apply below_drew1 | refine below_set ?_ GE599.out | refine below_set ?_ GE600.out | refine below_set ?_ GE601.out) | exact HB.out))) : w.heap.size ≤ gb608))
              have NB599_608 := neLA BK599 hg
              have NB608_599 := neGA BK599 hg
              have NB600_608 := neLA BK600 hg
              have NB608_600 := neGA BK600 hg
              have NB601_608 := neLA BK601 hg
              have NB608_601 := neGA BK601 hg
              replace BK599 := bkC BK599 hb
              replace BK600 := bkC BK600 hb
              replace BK601 := bkC BK601 hb
              replace HB := Aside0.mk (below_step (by repeat (first | (with_reducible first | exact HB.out | apply below_alloc | apply pw_below_drewN | apply below_drew1 | refine below_set ?_ GE599.out | refine below_set ?_ GE600.out | refine below_set ?_ GE601.out) | exact HB.out)) hb)
              clear hb hbox hg
              refine hK.out _ _ ⟨(blk_cell BK599.out 0).trans rfl, (blk_cell BK599.out 1).trans rfl, (blk_cell BK599.out 2).trans rfl, (blk_cell BK599.out 3).trans rfl, (blk_cell BK600.out 0).trans rfl, (blk_cell BK600.out 1).trans rfl, (blk_cell BK600.out 2).trans rfl, (blk_cell BK600.out 3).trans rfl⟩ (fun hHeld => ?_)
              clear hK K
              refine norm_ (a' := ?_) ?_ ?_
              rotate_left
              ·show Act.put _ (some 6) _ = _
               simp only [Act.put, List.setIfInBounds_toArray, List.set_cons_zero, List.set_cons_succ, i64_w, i32_w]
               rfl
              exact norm_ (by first | (simp only [putAll, Act.put, List.setIfInBounds_toArray, List.set_cons_zero, List.set_cons_succ]; done) | (simp only [putAll, Act.put, List.setIfInBounds_toArray, List.set_cons_zero, List.set_cons_succ]; rfl)) (hJ4_10 (gb608) _ ⟨hHeld, (bk BK599), (bk BK600), (bk BK601), (bk BK608), GW608.out, GE608.out, NB599_608.out, NB608_599.out, NB600_608.out, NB608_600.out, NB601_608.out, NB608_601.out, (by repeat (first | (with_reducible first | exact HB.out | apply below_alloc | apply pw_below_drewN | apply below_drew1 | refine below_set ?_ GE599.out | refine below_set ?_ GE600.out | refine below_set ?_ GE601.out | refine below_set ?_ GE608.out) | exact HB.out))⟩)
             ·skip
              refine box_step ?hg (N := 7) ?hd (cs := #[.int .i64 0, .int .i64 0]) (t := 50) ?hr ?_; (case hd => rfl); (case hg => rfl); (case hr => first | (go_simp; done) | (go_simp; rfl))
              intro gb609 hg w30 hbox hb
              have BK609 := Aside0.mk (hbox)
              have GW609 := Aside0.mk ((by rw [hg]; exact (below_size (by repeat (first | (with_reducible first | exact HB.out | apply below_alloc | apply pw_below_drewN | apply below_drew1 | refine below_set ?_ GE599.out | refine below_set ?_ GE600.out | refine below_set ?_ GE601.out) | exact HB.out))) : w.heap.size ≤ gb609))
              have GE609 := Aside0.mk ((by rw [hg]; exact (below_size (by repeat (first | (with_reducible first | exact HB.out | apply below_alloc | apply pw_below_drewN | apply below_drew1 | refine below_set ?_ GE599.out | refine below_set ?_ GE600.out | refine below_set ?_ GE601.out) | exact HB.out))) : w.heap.size ≤ gb609))
              have NB599_609 := neLA BK599 hg
              have NB609_599 := neGA BK599 hg
              have NB600_609 := neLA BK600 hg
              have NB609_600 := neGA BK600 hg
              have NB601_609 := neLA BK601 hg
              have NB609_601 := neGA BK601 hg
              replace BK599 := bkC BK599 hb
              replace BK600 := bkC BK600 hb
              replace BK601 := bkC BK601 hb
              replace HB := Aside0.mk (below_step (by repeat (first | (with_reducible first | exact HB.out | apply below_alloc | apply pw_below_drewN | apply below_drew1 | refine below_set ?_ GE599.out | refine below_set ?_ GE600.out | refine below_set ?_ GE601.out) | exact HB.out)) hb)
              clear hb hbox hg
              refine hK.out _ _ ⟨(blk_cell BK599.out 0).trans rfl, (blk_cell BK599.out 1).trans rfl, (blk_cell BK599.out 2).trans rfl, (blk_cell BK599.out 3).trans rfl, (blk_cell BK600.out 0).trans rfl, (blk_cell BK600.out 1).trans rfl, (blk_cell BK600.out 2).trans rfl, (blk_cell BK600.out 3).trans rfl⟩ (fun hHeld => ?_)
              clear hK K
              refine norm_ (a' := ?_) ?_ ?_
              rotate_left
              ·show Act.put _ (some 7) _ = _
               simp only [Act.put, List.setIfInBounds_toArray, List.set_cons_zero, List.set_cons_succ, i64_w, i32_w]
               rfl
              exact norm_ (by first | (simp only [putAll, Act.put, List.setIfInBounds_toArray, List.set_cons_zero, List.set_cons_succ]; done) | (simp only [putAll, Act.put, List.setIfInBounds_toArray, List.set_cons_zero, List.set_cons_succ]; rfl)) (hJ4_11 (gb609) _ ⟨hHeld, (bk BK599), (bk BK600), (bk BK601), (bk BK609), GW609.out, GE609.out, NB599_609.out, NB609_599.out, NB600_609.out, NB609_600.out, NB601_609.out, NB609_601.out, (by repeat (first | (with_reducible first | exact HB.out | apply below_alloc | apply pw_below_drewN | apply below_drew1 | refine below_set ?_ GE599.out | refine below_set ?_ GE600.out | refine below_set ?_ GE601.out | refine below_set ?_ GE609.out) | exact HB.out))⟩)
           ·skip
            rintro ⟨gb608, gb609⟩ w30 ⟨hS_, h0_, h1_, h2_, h3_, h4_, h5_, h6_, h7_, h8_, h9_, h10_, h11_, h12_, h13_, h14_, h15_, h16_, h17_, h18_, h19_, h20_, h21_, h22_, h23_⟩
            have n0_ : Aside0 (w30.heap[gb599]? = some (.cells #[.int .i64 a0_0, .int .i64 a0_1, .int .i64 a0_2, .int .i64 a0_3] 52 (0, 0))) := ⟨h0_⟩
            have n1_ : Aside0 (w30.heap[gb600]? = some (.cells #[.int .i64 a1_0, .int .i64 a1_1, .int .i64 a1_2, .int .i64 a1_3] 52 (0, 0))) := ⟨h1_⟩
            have n2_ : Aside0 (w30.heap[gb601]? = some (.cells #[.int .i64 0, .int .i64 0] 50 (0, 0))) := ⟨h2_⟩
            have n3_ : Aside0 (w30.heap[gb608]? = some (.cells #[.int .i64 0, .int .i64 0] 50 (0, 0))) := ⟨h3_⟩
            have n4_ : Aside0 (w30.heap[gb609]? = some (.cells #[.int .i64 0, .int .i64 0] 50 (0, 0))) := ⟨h4_⟩
            have n5_ : Aside0 (w.heap.size ≤ gb608) := ⟨h5_⟩
            have n6_ : Aside0 (w.heap.size ≤ gb608) := ⟨h6_⟩
            have n7_ : Aside0 (gb599 ≠ gb608) := ⟨h7_⟩
            have n8_ : Aside0 (gb608 ≠ gb599) := ⟨h8_⟩
            have n9_ : Aside0 (gb600 ≠ gb608) := ⟨h9_⟩
            have n10_ : Aside0 (gb608 ≠ gb600) := ⟨h10_⟩
            have n11_ : Aside0 (gb601 ≠ gb608) := ⟨h11_⟩
            have n12_ : Aside0 (gb608 ≠ gb601) := ⟨h12_⟩
            have n13_ : Aside0 (gb609 ≠ gb608) := ⟨h13_⟩
            have n14_ : Aside0 (gb608 ≠ gb609) := ⟨h14_⟩
            have n15_ : Aside0 (w.heap.size ≤ gb609) := ⟨h15_⟩
            have n16_ : Aside0 (w.heap.size ≤ gb609) := ⟨h16_⟩
            have n17_ : Aside0 (gb599 ≠ gb609) := ⟨h17_⟩
            have n18_ : Aside0 (gb609 ≠ gb599) := ⟨h18_⟩
            have n19_ : Aside0 (gb600 ≠ gb609) := ⟨h19_⟩
            have n20_ : Aside0 (gb609 ≠ gb600) := ⟨h20_⟩
            have n21_ : Aside0 (gb601 ≠ gb609) := ⟨h21_⟩
            have n22_ : Aside0 (gb609 ≠ gb601) := ⟨h22_⟩
            have n23_ : Aside0 (Below w.heap.size w w30) := ⟨h23_⟩
            clear BK599
            clear BK600
            clear BK601
            clear HB
            clear h0_ h1_ h2_ h3_ h4_ h5_ h6_ h7_ h8_ h9_ h10_ h11_ h12_ h13_ h14_ h15_ h16_ h17_ h18_ h19_ h20_ h21_ h22_ h23_
            have BK599 := n0_
            have BK600 := n1_
            have BK601 := n2_
            have BK608 := n3_
            have BK609 := n4_
            have GW608 := n5_
            have GE608 := n6_
            have NB599_608 := n7_
            have NB608_599 := n8_
            have NB600_608 := n9_
            have NB608_600 := n10_
            have NB601_608 := n11_
            have NB608_601 := n12_
            have NB609_608 := n13_
            have NB608_609 := n14_
            have GW609 := n15_
            have GE609 := n16_
            have NB599_609 := n17_
            have NB609_599 := n18_
            have NB600_609 := n19_
            have NB609_600 := n20_
            have NB601_609 := n21_
            have NB609_601 := n22_
            have HB := n23_
            clear n0_ n1_ n2_ n3_ n4_ n5_ n6_ n7_ n8_ n9_ n10_ n11_ n12_ n13_ n14_ n15_ n16_ n17_ n18_ n19_ n20_ n21_ n22_ n23_
            have hHeld : w30.cell? ⟨gb599, 0, none⟩ = some (.int .i64 a0_0) ∧ w30.cell? ⟨gb599, 1, none⟩ = some (.int .i64 a0_1) ∧ w30.cell? ⟨gb599, 2, none⟩ = some (.int .i64 a0_2) ∧ w30.cell? ⟨gb599, 3, none⟩ = some (.int .i64 a0_3) ∧ w30.cell? ⟨gb600, 0, none⟩ = some (.int .i64 a1_0) ∧ w30.cell? ⟨gb600, 1, none⟩ = some (.int .i64 a1_1) ∧ w30.cell? ⟨gb600, 2, none⟩ = some (.int .i64 a1_2) ∧ w30.cell? ⟨gb600, 3, none⟩ = some (.int .i64 a1_3) := hS_
            refine norm_ (a' := ?_) ?_ ?_
            rotate_left
            ·simp only [putAll, Act.put, List.setIfInBounds_toArray, List.set_cons_zero, List.set_cons_succ]
             rfl
            refine one_ (i := 4) (N := some 21) #[true, true, true, true, true, true, true, true, true, false, true, true, false, false] rfl rfl (one_of HT_.out (by kernel_rfl)) (by decide) (fun K hK => ?_)
            refine goes_ Try.func116 (by kernel_rfl) rfl #[.agg #[.int .i64 a0_0, .int .i64 a0_1], .agg #[.int .i64 a1_0, .int .i64 a1_1]] (by rfl) rfl rfl (by (try simp only [List.map_toArray, List.map_cons, List.map_nil]); first | done | rfl | (simp only [List.length_drop, List.length_take]; rfl)) ?_
            with_reducible refine (plane_apart.calls a0_0 a0_1 a1_0 a1_1 t604 t605 _ A25.out).mono ?_
            rintro e w31 ⟨rfl, hb⟩
            refine ⟨_, rfl, ?_⟩
            replace BK599 := bkC BK599 hb
            replace BK600 := bkC BK600 hb
            replace BK601 := bkC BK601 hb
            replace BK608 := bkC BK608 hb
            replace BK609 := bkC BK609 hb
            replace HB := Aside0.mk (below_step (by repeat (first | (with_reducible first | exact HB.out | apply below_alloc | apply pw_below_drewN | apply below_drew1 | refine below_set ?_ GE599.out | refine below_set ?_ GE600.out | refine below_set ?_ GE601.out | refine below_set ?_ GE608.out | refine below_set ?_ GE609.out) | exact HB.out)) hb)
            (try clear hb)
            (try clear hb2)
            (try clear hk)
            (try clear hi)
            refine hK.out _ _ ⟨(blk_cell BK599.out 0).trans rfl, (blk_cell BK599.out 1).trans rfl, (blk_cell BK599.out 2).trans rfl, (blk_cell BK599.out 3).trans rfl, (blk_cell BK600.out 0).trans rfl, (blk_cell BK600.out 1).trans rfl, (blk_cell BK600.out 2).trans rfl, (blk_cell BK600.out 3).trans rfl⟩ (fun hHeld => ?_)
            clear hK K
            refine norm_ (a' := ?_) ?_ ?_
            rotate_left
            ·show Act.put _ (some 21) _ = _
             simp only [Act.put, List.setIfInBounds_toArray, List.set_cons_zero, List.set_cons_succ, i64_w, i32_w]
             rfl
            exact norm_ (by first | (simp only [putAll, Act.put, List.setIfInBounds_toArray, List.set_cons_zero, List.set_cons_succ]; done) | (simp only [putAll, Act.put, List.setIfInBounds_toArray, List.set_cons_zero, List.set_cons_succ]; rfl)) (hJ4_10_11 (gb608, gb609) _ ⟨hHeld, (bk BK599), (bk BK600), (bk BK601), (bk BK608), (bk BK609), GW608.out, GE608.out, NB599_608.out, NB608_599.out, NB600_608.out, NB608_600.out, NB601_608.out, NB608_601.out, NB609_608.out, NB608_609.out, GW609.out, GE609.out, NB599_609.out, NB609_599.out, NB600_609.out, NB609_600.out, NB601_609.out, NB609_601.out, (by repeat (first | (with_reducible first | exact HB.out | apply below_alloc | apply pw_below_drewN | apply below_drew1 | refine below_set ?_ GE599.out | refine below_set ?_ GE600.out | refine below_set ?_ GE601.out | refine below_set ?_ GE608.out | refine below_set ?_ GE609.out) | exact HB.out))⟩)
          ·skip
           rintro gb609 w30 ⟨hS_, h0_, h1_, h2_, h3_, h4_, h5_, h6_, h7_, h8_, h9_, h10_, h11_, h12_⟩
           have n0_ : Aside0 (w30.heap[gb599]? = some (.cells #[.int .i64 a0_0, .int .i64 a0_1, .int .i64 a0_2, .int .i64 a0_3] 52 (0, 0))) := ⟨h0_⟩
           have n1_ : Aside0 (w30.heap[gb600]? = some (.cells #[.int .i64 a1_0, .int .i64 a1_1, .int .i64 a1_2, .int .i64 a1_3] 52 (0, 0))) := ⟨h1_⟩
           have n2_ : Aside0 (w30.heap[gb601]? = some (.cells #[.int .i64 0, .int .i64 0] 50 (0, 0))) := ⟨h2_⟩
           have n3_ : Aside0 (w30.heap[gb609]? = some (.cells #[.int .i64 0, .int .i64 0] 50 (0, 0))) := ⟨h3_⟩
           have n4_ : Aside0 (w.heap.size ≤ gb609) := ⟨h4_⟩
           have n5_ : Aside0 (w.heap.size ≤ gb609) := ⟨h5_⟩
           have n6_ : Aside0 (gb599 ≠ gb609) := ⟨h6_⟩
           have n7_ : Aside0 (gb609 ≠ gb599) := ⟨h7_⟩
           have n8_ : Aside0 (gb600 ≠ gb609) := ⟨h8_⟩
           have n9_ : Aside0 (gb609 ≠ gb600) := ⟨h9_⟩
           have n10_ : Aside0 (gb601 ≠ gb609) := ⟨h10_⟩
           have n11_ : Aside0 (gb609 ≠ gb601) := ⟨h11_⟩
           have n12_ : Aside0 (Below w.heap.size w w30) := ⟨h12_⟩
           clear BK599
           clear BK600
           clear BK601
           clear HB
           clear h0_ h1_ h2_ h3_ h4_ h5_ h6_ h7_ h8_ h9_ h10_ h11_ h12_
           have BK599 := n0_
           have BK600 := n1_
           have BK601 := n2_
           have BK609 := n3_
           have GW609 := n4_
           have GE609 := n5_
           have NB599_609 := n6_
           have NB609_599 := n7_
           have NB600_609 := n8_
           have NB609_600 := n9_
           have NB601_609 := n10_
           have NB609_601 := n11_
           have HB := n12_
           clear n0_ n1_ n2_ n3_ n4_ n5_ n6_ n7_ n8_ n9_ n10_ n11_ n12_
           have hHeld : w30.cell? ⟨gb599, 0, none⟩ = some (.int .i64 a0_0) ∧ w30.cell? ⟨gb599, 1, none⟩ = some (.int .i64 a0_1) ∧ w30.cell? ⟨gb599, 2, none⟩ = some (.int .i64 a0_2) ∧ w30.cell? ⟨gb599, 3, none⟩ = some (.int .i64 a0_3) ∧ w30.cell? ⟨gb600, 0, none⟩ = some (.int .i64 a1_0) ∧ w30.cell? ⟨gb600, 1, none⟩ = some (.int .i64 a1_1) ∧ w30.cell? ⟨gb600, 2, none⟩ = some (.int .i64 a1_2) ∧ w30.cell? ⟨gb600, 3, none⟩ = some (.int .i64 a1_3) := hS_
           refine norm_ (a' := ?_) ?_ ?_
           rotate_left
           ·simp only [putAll, Act.put, List.setIfInBounds_toArray, List.set_cons_zero, List.set_cons_succ]
            rfl
           refine two_ (i := 9) (j := 10) (Ni := some 26) (Nj := some 6) #[true, true, true, true, true, true, true, true, true, true, false, true, false, false] #[true, true, true, true, true, true, true, true, true, false, true, true, false, false] rfl rfl rfl rfl (two_of HT_.out (by kernel_rfl)) (by decide) (by decide) (fun K hK => ?_) (fun K hK => ?_)
           ·skip
            refine goes_ Try.func116 (by kernel_rfl) rfl #[.agg #[.int .i64 a0_2, .int .i64 a0_3], .agg #[.int .i64 a1_2, .int .i64 a1_3]] (by rfl) rfl rfl (by (try simp only [List.map_toArray, List.map_cons, List.map_nil]); first | done | rfl | (simp only [List.length_drop, List.length_take]; rfl)) ?_
            with_reducible refine (plane_apart.calls a0_2 a0_3 a1_2 a1_3 t606 t607 _ A26.out).mono ?_
            rintro e w31 ⟨rfl, hb⟩
            refine ⟨_, rfl, ?_⟩
            replace BK599 := bkC BK599 hb
            replace BK600 := bkC BK600 hb
            replace BK601 := bkC BK601 hb
            replace BK609 := bkC BK609 hb
            replace HB := Aside0.mk (below_step (by repeat (first | (with_reducible first | exact HB.out | apply below_alloc | apply pw_below_drewN | apply below_drew1 | refine below_set ?_ GE599.out | refine below_set ?_ GE600.out | refine below_set ?_ GE601.out | refine below_set ?_ GE609.out) | exact HB.out)) hb)
            (try clear hb)
            (try clear hb2)
            (try clear hk)
            (try clear hi)
            refine hK.out _ _ ⟨(blk_cell BK599.out 0).trans rfl, (blk_cell BK599.out 1).trans rfl, (blk_cell BK599.out 2).trans rfl, (blk_cell BK599.out 3).trans rfl, (blk_cell BK600.out 0).trans rfl, (blk_cell BK600.out 1).trans rfl, (blk_cell BK600.out 2).trans rfl, (blk_cell BK600.out 3).trans rfl⟩ (fun hHeld => ?_)
            clear hK K
            refine norm_ (a' := ?_) ?_ ?_
            rotate_left
            ·show Act.put _ (some 26) _ = _
             simp only [Act.put, List.setIfInBounds_toArray, List.set_cons_zero, List.set_cons_succ, i64_w, i32_w]
             rfl
            exact norm_ (by first | (simp only [putAll, Act.put, List.setIfInBounds_toArray, List.set_cons_zero, List.set_cons_succ]; done) | (simp only [putAll, Act.put, List.setIfInBounds_toArray, List.set_cons_zero, List.set_cons_succ]; rfl)) (hJ4_9_11 (gb609) _ ⟨hHeld, (bk BK599), (bk BK600), (bk BK601), (bk BK609), GW609.out, GE609.out, NB599_609.out, NB609_599.out, NB600_609.out, NB609_600.out, NB601_609.out, NB609_601.out, (by repeat (first | (with_reducible first | exact HB.out | apply below_alloc | apply pw_below_drewN | apply below_drew1 | refine below_set ?_ GE599.out | refine below_set ?_ GE600.out | refine below_set ?_ GE601.out | refine below_set ?_ GE609.out) | exact HB.out))⟩)
           ·skip
            refine box_step ?hg (N := 6) ?hd (cs := #[.int .i64 0, .int .i64 0]) (t := 50) ?hr ?_; (case hd => rfl); (case hg => rfl); (case hr => first | (go_simp; done) | (go_simp; rfl))
            intro gb608 hg w31 hbox hb
            have BK608 := Aside0.mk (hbox)
            have GW608 := Aside0.mk ((by rw [hg]; exact (below_size (by repeat (first | (with_reducible first | exact HB.out | apply below_alloc | apply pw_below_drewN | apply below_drew1 | refine below_set ?_ GE599.out | refine below_set ?_ GE600.out | refine below_set ?_ GE601.out | refine below_set ?_ GE609.out) | exact HB.out))) : w.heap.size ≤ gb608))
            have GE608 := Aside0.mk ((by rw [hg]; exact (below_size (by repeat (first | (with_reducible first | exact HB.out | apply below_alloc | apply pw_below_drewN | apply below_drew1 | refine below_set ?_ GE599.out | refine below_set ?_ GE600.out | refine below_set ?_ GE601.out | refine below_set ?_ GE609.out) | exact HB.out))) : w.heap.size ≤ gb608))
            have NB599_608 := neLA BK599 hg
            have NB608_599 := neGA BK599 hg
            have NB600_608 := neLA BK600 hg
            have NB608_600 := neGA BK600 hg
            have NB601_608 := neLA BK601 hg
            have NB608_601 := neGA BK601 hg
            have NB609_608 := neLA BK609 hg
            have NB608_609 := neGA BK609 hg
            replace BK599 := bkC BK599 hb
            replace BK600 := bkC BK600 hb
            replace BK601 := bkC BK601 hb
            replace BK609 := bkC BK609 hb
            replace HB := Aside0.mk (below_step (by repeat (first | (with_reducible first | exact HB.out | apply below_alloc | apply pw_below_drewN | apply below_drew1 | refine below_set ?_ GE599.out | refine below_set ?_ GE600.out | refine below_set ?_ GE601.out | refine below_set ?_ GE609.out) | exact HB.out)) hb)
            clear hb hbox hg
            refine hK.out _ _ ⟨(blk_cell BK599.out 0).trans rfl, (blk_cell BK599.out 1).trans rfl, (blk_cell BK599.out 2).trans rfl, (blk_cell BK599.out 3).trans rfl, (blk_cell BK600.out 0).trans rfl, (blk_cell BK600.out 1).trans rfl, (blk_cell BK600.out 2).trans rfl, (blk_cell BK600.out 3).trans rfl⟩ (fun hHeld => ?_)
            clear hK K
            refine norm_ (a' := ?_) ?_ ?_
            rotate_left
            ·show Act.put _ (some 6) _ = _
             simp only [Act.put, List.setIfInBounds_toArray, List.set_cons_zero, List.set_cons_succ, i64_w, i32_w]
             rfl
            exact norm_ (by first | (simp only [putAll, Act.put, List.setIfInBounds_toArray, List.set_cons_zero, List.set_cons_succ]; done) | (simp only [putAll, Act.put, List.setIfInBounds_toArray, List.set_cons_zero, List.set_cons_succ]; rfl)) (hJ4_10_11 (gb608, gb609) _ ⟨hHeld, (bk BK599), (bk BK600), (bk BK601), (bk BK608), (bk BK609), GW608.out, GE608.out, NB599_608.out, NB608_599.out, NB600_608.out, NB608_600.out, NB601_608.out, NB608_601.out, NB609_608.out, NB608_609.out, GW609.out, GE609.out, NB599_609.out, NB609_599.out, NB600_609.out, NB609_600.out, NB601_609.out, NB609_601.out, (by repeat (first | (with_reducible first | exact HB.out | apply below_alloc | apply pw_below_drewN | apply below_drew1 | refine below_set ?_ GE599.out | refine below_set ?_ GE600.out | refine below_set ?_ GE601.out | refine below_set ?_ GE609.out | refine below_set ?_ GE608.out) | exact HB.out))⟩)
         ·skip
          rintro gb608 w30 ⟨hS_, h0_, h1_, h2_, h3_, h4_, h5_, h6_, h7_, h8_, h9_, h10_, h11_, h12_⟩
          have n0_ : Aside0 (w30.heap[gb599]? = some (.cells #[.int .i64 a0_0, .int .i64 a0_1, .int .i64 a0_2, .int .i64 a0_3] 52 (0, 0))) := ⟨h0_⟩
          have n1_ : Aside0 (w30.heap[gb600]? = some (.cells #[.int .i64 a1_0, .int .i64 a1_1, .int .i64 a1_2, .int .i64 a1_3] 52 (0, 0))) := ⟨h1_⟩
          have n2_ : Aside0 (w30.heap[gb601]? = some (.cells #[.int .i64 0, .int .i64 0] 50 (0, 0))) := ⟨h2_⟩
          have n3_ : Aside0 (w30.heap[gb608]? = some (.cells #[.int .i64 0, .int .i64 0] 50 (0, 0))) := ⟨h3_⟩
          have n4_ : Aside0 (w.heap.size ≤ gb608) := ⟨h4_⟩
          have n5_ : Aside0 (w.heap.size ≤ gb608) := ⟨h5_⟩
          have n6_ : Aside0 (gb599 ≠ gb608) := ⟨h6_⟩
          have n7_ : Aside0 (gb608 ≠ gb599) := ⟨h7_⟩
          have n8_ : Aside0 (gb600 ≠ gb608) := ⟨h8_⟩
          have n9_ : Aside0 (gb608 ≠ gb600) := ⟨h9_⟩
          have n10_ : Aside0 (gb601 ≠ gb608) := ⟨h10_⟩
          have n11_ : Aside0 (gb608 ≠ gb601) := ⟨h11_⟩
          have n12_ : Aside0 (Below w.heap.size w w30) := ⟨h12_⟩
          clear BK599
          clear BK600
          clear BK601
          clear HB
          clear h0_ h1_ h2_ h3_ h4_ h5_ h6_ h7_ h8_ h9_ h10_ h11_ h12_
          have BK599 := n0_
          have BK600 := n1_
          have BK601 := n2_
          have BK608 := n3_
          have GW608 := n4_
          have GE608 := n5_
          have NB599_608 := n6_
          have NB608_599 := n7_
          have NB600_608 := n8_
          have NB608_600 := n9_
          have NB601_608 := n10_
          have NB608_601 := n11_
          have HB := n12_
          clear n0_ n1_ n2_ n3_ n4_ n5_ n6_ n7_ n8_ n9_ n10_ n11_ n12_
          have hHeld : w30.cell? ⟨gb599, 0, none⟩ = some (.int .i64 a0_0) ∧ w30.cell? ⟨gb599, 1, none⟩ = some (.int .i64 a0_1) ∧ w30.cell? ⟨gb599, 2, none⟩ = some (.int .i64 a0_2) ∧ w30.cell? ⟨gb599, 3, none⟩ = some (.int .i64 a0_3) ∧ w30.cell? ⟨gb600, 0, none⟩ = some (.int .i64 a1_0) ∧ w30.cell? ⟨gb600, 1, none⟩ = some (.int .i64 a1_1) ∧ w30.cell? ⟨gb600, 2, none⟩ = some (.int .i64 a1_2) ∧ w30.cell? ⟨gb600, 3, none⟩ = some (.int .i64 a1_3) := hS_
          refine norm_ (a' := ?_) ?_ ?_
          rotate_left
          ·simp only [putAll, Act.put, List.setIfInBounds_toArray, List.set_cons_zero, List.set_cons_succ]
           rfl
          refine two_ (i := 9) (j := 11) (Ni := some 26) (Nj := some 7) #[true, true, true, true, true, true, true, true, true, true, true, false, false, false] #[true, true, true, true, true, true, true, true, true, false, true, true, false, false] rfl rfl rfl rfl (two_of HT_.out (by kernel_rfl)) (by decide) (by decide) (fun K hK => ?_) (fun K hK => ?_)
          ·skip
           refine goes_ Try.func116 (by kernel_rfl) rfl #[.agg #[.int .i64 a0_2, .int .i64 a0_3], .agg #[.int .i64 a1_2, .int .i64 a1_3]] (by rfl) rfl rfl (by (try simp only [List.map_toArray, List.map_cons, List.map_nil]); first | done | rfl | (simp only [List.length_drop, List.length_take]; rfl)) ?_
           with_reducible refine (plane_apart.calls a0_2 a0_3 a1_2 a1_3 t606 t607 _ A26.out).mono ?_
           rintro e w31 ⟨rfl, hb⟩
           refine ⟨_, rfl, ?_⟩
           replace BK599 := bkC BK599 hb
           replace BK600 := bkC BK600 hb
           replace BK601 := bkC BK601 hb
           replace BK608 := bkC BK608 hb
           replace HB := Aside0.mk (below_step (by repeat (first | (with_reducible first | exact HB.out | apply below_alloc | apply pw_below_drewN | apply below_drew1 | refine below_set ?_ GE599.out | refine below_set ?_ GE600.out | refine below_set ?_ GE601.out | refine below_set ?_ GE608.out) | exact HB.out)) hb)
           (try clear hb)
           (try clear hb2)
           (try clear hk)
           (try clear hi)
           refine hK.out _ _ ⟨(blk_cell BK599.out 0).trans rfl, (blk_cell BK599.out 1).trans rfl, (blk_cell BK599.out 2).trans rfl, (blk_cell BK599.out 3).trans rfl, (blk_cell BK600.out 0).trans rfl, (blk_cell BK600.out 1).trans rfl, (blk_cell BK600.out 2).trans rfl, (blk_cell BK600.out 3).trans rfl⟩ (fun hHeld => ?_)
           clear hK K
           refine norm_ (a' := ?_) ?_ ?_
           rotate_left
           ·show Act.put _ (some 26) _ = _
            simp only [Act.put, List.setIfInBounds_toArray, List.set_cons_zero, List.set_cons_succ, i64_w, i32_w]
            rfl
           exact norm_ (by first | (simp only [putAll, Act.put, List.setIfInBounds_toArray, List.set_cons_zero, List.set_cons_succ]; done) | (simp only [putAll, Act.put, List.setIfInBounds_toArray, List.set_cons_zero, List.set_cons_succ]; rfl)) (hJ4_9_10 (gb608) _ ⟨hHeld, (bk BK599), (bk BK600), (bk BK601), (bk BK608), GW608.out, GE608.out, NB599_608.out, NB608_599.out, NB600_608.out, NB608_600.out, NB601_608.out, NB608_601.out, (by repeat (first | (with_reducible first | exact HB.out | apply below_alloc | apply pw_below_drewN | apply below_drew1 | refine below_set ?_ GE599.out | refine below_set ?_ GE600.out | refine below_set ?_ GE601.out | refine below_set ?_ GE608.out) | exact HB.out))⟩)
          ·skip
           refine box_step ?hg (N := 7) ?hd (cs := #[.int .i64 0, .int .i64 0]) (t := 50) ?hr ?_; (case hd => rfl); (case hg => rfl); (case hr => first | (go_simp; done) | (go_simp; rfl))
           intro gb609 hg w31 hbox hb
           have BK609 := Aside0.mk (hbox)
           have GW609 := Aside0.mk ((by rw [hg]; exact (below_size (by repeat (first | (with_reducible first | exact HB.out | apply below_alloc | apply pw_below_drewN | apply below_drew1 | refine below_set ?_ GE599.out | refine below_set ?_ GE600.out | refine below_set ?_ GE601.out | refine below_set ?_ GE608.out) | exact HB.out))) : w.heap.size ≤ gb609))
           have GE609 := Aside0.mk ((by rw [hg]; exact (below_size (by repeat (first | (with_reducible first | exact HB.out | apply below_alloc | apply pw_below_drewN | apply below_drew1 | refine below_set ?_ GE599.out | refine below_set ?_ GE600.out | refine below_set ?_ GE601.out | refine below_set ?_ GE608.out) | exact HB.out))) : w.heap.size ≤ gb609))
           have NB599_609 := neLA BK599 hg
           have NB609_599 := neGA BK599 hg
           have NB600_609 := neLA BK600 hg
           have NB609_600 := neGA BK600 hg
           have NB601_609 := neLA BK601 hg
           have NB609_601 := neGA BK601 hg
           have NB608_609 := neLA BK608 hg
           have NB609_608 := neGA BK608 hg
           replace BK599 := bkC BK599 hb
           replace BK600 := bkC BK600 hb
           replace BK601 := bkC BK601 hb
           replace BK608 := bkC BK608 hb
           replace HB := Aside0.mk (below_step (by repeat (first | (with_reducible first | exact HB.out | apply below_alloc | apply pw_below_drewN | apply below_drew1 | refine below_set ?_ GE599.out | refine below_set ?_ GE600.out | refine below_set ?_ GE601.out | refine below_set ?_ GE608.out) | exact HB.out)) hb)
           clear hb hbox hg
           refine hK.out _ _ ⟨(blk_cell BK599.out 0).trans rfl, (blk_cell BK599.out 1).trans rfl, (blk_cell BK599.out 2).trans rfl, (blk_cell BK599.out 3).trans rfl, (blk_cell BK600.out 0).trans rfl, (blk_cell BK600.out 1).trans rfl, (blk_cell BK600.out 2).trans rfl, (blk_cell BK600.out 3).trans rfl⟩ (fun hHeld => ?_)
           clear hK K
           refine norm_ (a' := ?_) ?_ ?_
           rotate_left
           ·show Act.put _ (some 7) _ = _
            simp only [Act.put, List.setIfInBounds_toArray, List.set_cons_zero, List.set_cons_succ, i64_w, i32_w]
            rfl
           exact norm_ (by first | (simp only [putAll, Act.put, List.setIfInBounds_toArray, List.set_cons_zero, List.set_cons_succ]; done) | (simp only [putAll, Act.put, List.setIfInBounds_toArray, List.set_cons_zero, List.set_cons_succ]; rfl)) (hJ4_10_11 (gb608, gb609) _ ⟨hHeld, (bk BK599), (bk BK600), (bk BK601), (bk BK608), (bk BK609), GW608.out, GE608.out, NB599_608.out, NB608_599.out, NB600_608.out, NB608_600.out, NB601_608.out, NB608_601.out, NB609_608.out, NB608_609.out, GW609.out, GE609.out, NB599_609.out, NB609_599.out, NB600_609.out, NB609_600.out, NB601_609.out, NB609_601.out, (by repeat (first | (with_reducible first | exact HB.out | apply below_alloc | apply pw_below_drewN | apply below_drew1 | refine below_set ?_ GE599.out | refine below_set ?_ GE600.out | refine below_set ?_ GE601.out | refine below_set ?_ GE608.out | refine below_set ?_ GE609.out) | exact HB.out))⟩)
        ·skip
         rintro _ w30 ⟨hS_, h0_, h1_, h2_, h3_⟩
         have n0_ : Aside0 (w30.heap[gb599]? = some (.cells #[.int .i64 a0_0, .int .i64 a0_1, .int .i64 a0_2, .int .i64 a0_3] 52 (0, 0))) := ⟨h0_⟩
         have n1_ : Aside0 (w30.heap[gb600]? = some (.cells #[.int .i64 a1_0, .int .i64 a1_1, .int .i64 a1_2, .int .i64 a1_3] 52 (0, 0))) := ⟨h1_⟩
         have n2_ : Aside0 (w30.heap[gb601]? = some (.cells #[.int .i64 0, .int .i64 0] 50 (0, 0))) := ⟨h2_⟩
         have n3_ : Aside0 (Below w.heap.size w w30) := ⟨h3_⟩
         clear BK599
         clear BK600
         clear BK601
         clear HB
         clear h0_ h1_ h2_ h3_
         have BK599 := n0_
         have BK600 := n1_
         have BK601 := n2_
         have HB := n3_
         clear n0_ n1_ n2_ n3_
         have hHeld : w30.cell? ⟨gb599, 0, none⟩ = some (.int .i64 a0_0) ∧ w30.cell? ⟨gb599, 1, none⟩ = some (.int .i64 a0_1) ∧ w30.cell? ⟨gb599, 2, none⟩ = some (.int .i64 a0_2) ∧ w30.cell? ⟨gb599, 3, none⟩ = some (.int .i64 a0_3) ∧ w30.cell? ⟨gb600, 0, none⟩ = some (.int .i64 a1_0) ∧ w30.cell? ⟨gb600, 1, none⟩ = some (.int .i64 a1_1) ∧ w30.cell? ⟨gb600, 2, none⟩ = some (.int .i64 a1_2) ∧ w30.cell? ⟨gb600, 3, none⟩ = some (.int .i64 a1_3) := hS_
         refine norm_ (a' := ?_) ?_ ?_
         rotate_left
         ·simp only [putAll, Act.put, List.setIfInBounds_toArray, List.set_cons_zero, List.set_cons_succ]
          rfl
         refine two_ (i := 10) (j := 11) (Ni := some 6) (Nj := some 7) #[true, true, true, true, true, true, true, true, true, true, true, false, false, false] #[true, true, true, true, true, true, true, true, true, true, false, true, false, false] rfl rfl rfl rfl (two_of HT_.out (by kernel_rfl)) (by decide) (by decide) (fun K hK => ?_) (fun K hK => ?_)
         ·skip
          refine box_step ?hg (N := 6) ?hd (cs := #[.int .i64 0, .int .i64 0]) (t := 50) ?hr ?_; (case hd => rfl); (case hg => rfl); (case hr => first | (go_simp; done) | (go_simp; rfl))
          intro gb608 hg w31 hbox hb
          have BK608 := Aside0.mk (hbox)
          have GW608 := Aside0.mk ((by rw [hg]; exact (below_size (by repeat (first | (with_reducible first | exact HB.out | apply below_alloc | apply pw_below_drewN | apply below_drew1 | refine below_set ?_ GE599.out | refine below_set ?_ GE600.out | refine below_set ?_ GE601.out) | exact HB.out))) : w.heap.size ≤ gb608))
          have GE608 := Aside0.mk ((by rw [hg]; exact (below_size (by repeat (first | (with_reducible first | exact HB.out | apply below_alloc | apply pw_below_drewN | apply below_drew1 | refine below_set ?_ GE599.out | refine below_set ?_ GE600.out | refine below_set ?_ GE601.out) | exact HB.out))) : w.heap.size ≤ gb608))
          have NB599_608 := neLA BK599 hg
          have NB608_599 := neGA BK599 hg
          have NB600_608 := neLA BK600 hg
          have NB608_600 := neGA BK600 hg
          have NB601_608 := neLA BK601 hg
          have NB608_601 := neGA BK601 hg
          replace BK599 := bkC BK599 hb
          replace BK600 := bkC BK600 hb
          replace BK601 := bkC BK601 hb
          replace HB := Aside0.mk (below_step (by repeat (first | (with_reducible first | exact HB.out | apply below_alloc | apply pw_below_drewN | apply below_drew1 | refine below_set ?_ GE599.out | refine below_set ?_ GE600.out | refine below_set ?_ GE601.out) | exact HB.out)) hb)
          clear hb hbox hg
          refine hK.out _ _ ⟨(blk_cell BK599.out 0).trans rfl, (blk_cell BK599.out 1).trans rfl, (blk_cell BK599.out 2).trans rfl, (blk_cell BK599.out 3).trans rfl, (blk_cell BK600.out 0).trans rfl, (blk_cell BK600.out 1).trans rfl, (blk_cell BK600.out 2).trans rfl, (blk_cell BK600.out 3).trans rfl⟩ (fun hHeld => ?_)
          clear hK K
          refine norm_ (a' := ?_) ?_ ?_
          rotate_left
          ·show Act.put _ (some 6) _ = _
           simp only [Act.put, List.setIfInBounds_toArray, List.set_cons_zero, List.set_cons_succ, i64_w, i32_w]
           rfl
          exact norm_ (by first | (simp only [putAll, Act.put, List.setIfInBounds_toArray, List.set_cons_zero, List.set_cons_succ]; done) | (simp only [putAll, Act.put, List.setIfInBounds_toArray, List.set_cons_zero, List.set_cons_succ]; rfl)) (hJ4_9_10 (gb608) _ ⟨hHeld, (bk BK599), (bk BK600), (bk BK601), (bk BK608), GW608.out, GE608.out, NB599_608.out, NB608_599.out, NB600_608.out, NB608_600.out, NB601_608.out, NB608_601.out, (by repeat (first | (with_reducible first | exact HB.out | apply below_alloc | apply pw_below_drewN | apply below_drew1 | refine below_set ?_ GE599.out | refine below_set ?_ GE600.out | refine below_set ?_ GE601.out | refine below_set ?_ GE608.out) | exact HB.out))⟩)
         ·skip
          refine box_step ?hg (N := 7) ?hd (cs := #[.int .i64 0, .int .i64 0]) (t := 50) ?hr ?_; (case hd => rfl); (case hg => rfl); (case hr => first | (go_simp; done) | (go_simp; rfl))
          intro gb609 hg w31 hbox hb
          have BK609 := Aside0.mk (hbox)
          have GW609 := Aside0.mk ((by rw [hg]; exact (below_size (by repeat (first | (with_reducible first | exact HB.out | apply below_alloc | apply pw_below_drewN | apply below_drew1 | refine below_set ?_ GE599.out | refine below_set ?_ GE600.out | refine below_set ?_ GE601.out) | exact HB.out))) : w.heap.size ≤ gb609))
          have GE609 := Aside0.mk ((by rw [hg]; exact (below_size (by repeat (first | (with_reducible first | exact HB.out | apply below_alloc | apply pw_below_drewN | apply below_drew1 | refine below_set ?_ GE599.out | refine below_set ?_ GE600.out | refine below_set ?_ GE601.out) | exact HB.out))) : w.heap.size ≤ gb609))
          have NB599_609 := neLA BK599 hg
          have NB609_599 := neGA BK599 hg
          have NB600_609 := neLA BK600 hg
          have NB609_600 := neGA BK600 hg
          have NB601_609 := neLA BK601 hg
          have NB609_601 := neGA BK601 hg
          replace BK599 := bkC BK599 hb
          replace BK600 := bkC BK600 hb
          replace BK601 := bkC BK601 hb
          replace HB := Aside0.mk (below_step (by repeat (first | (with_reducible first | exact HB.out | apply below_alloc | apply pw_below_drewN | apply below_drew1 | refine below_set ?_ GE599.out | refine below_set ?_ GE600.out | refine below_set ?_ GE601.out) | exact HB.out)) hb)
          clear hb hbox hg
          refine hK.out _ _ ⟨(blk_cell BK599.out 0).trans rfl, (blk_cell BK599.out 1).trans rfl, (blk_cell BK599.out 2).trans rfl, (blk_cell BK599.out 3).trans rfl, (blk_cell BK600.out 0).trans rfl, (blk_cell BK600.out 1).trans rfl, (blk_cell BK600.out 2).trans rfl, (blk_cell BK600.out 3).trans rfl⟩ (fun hHeld => ?_)
          clear hK K
          refine norm_ (a' := ?_) ?_ ?_
          rotate_left
          ·show Act.put _ (some 7) _ = _
           simp only [Act.put, List.setIfInBounds_toArray, List.set_cons_zero, List.set_cons_succ, i64_w, i32_w]
           rfl
          exact norm_ (by first | (simp only [putAll, Act.put, List.setIfInBounds_toArray, List.set_cons_zero, List.set_cons_succ]; done) | (simp only [putAll, Act.put, List.setIfInBounds_toArray, List.set_cons_zero, List.set_cons_succ]; rfl)) (hJ4_9_11 (gb609) _ ⟨hHeld, (bk BK599), (bk BK600), (bk BK601), (bk BK609), GW609.out, GE609.out, NB599_609.out, NB609_599.out, NB600_609.out, NB609_600.out, NB601_609.out, NB609_601.out, (by repeat (first | (with_reducible first | exact HB.out | apply below_alloc | apply pw_below_drewN | apply below_drew1 | refine below_set ?_ GE599.out | refine below_set ?_ GE600.out | refine below_set ?_ GE601.out | refine below_set ?_ GE609.out) | exact HB.out))⟩)
       ·skip
        rintro ⟨gb608, gb609⟩ w31 ⟨hS_, h0_, h1_, h2_, h3_, h4_, h5_, h6_, h7_, h8_, h9_, h10_, h11_, h12_, h13_, h14_, h15_, h16_, h17_, h18_, h19_, h20_, h21_, h22_, h23_⟩
        have n0_ : Aside0 (w31.heap[gb599]? = some (.cells #[.int .i64 a0_0, .int .i64 a0_1, .int .i64 a0_2, .int .i64 a0_3] 52 (0, 0))) := ⟨h0_⟩
        have n1_ : Aside0 (w31.heap[gb600]? = some (.cells #[.int .i64 a1_0, .int .i64 a1_1, .int .i64 a1_2, .int .i64 a1_3] 52 (0, 0))) := ⟨h1_⟩
        have n2_ : Aside0 (w31.heap[gb601]? = some (.cells #[.int .i64 0, .int .i64 0] 50 (0, 0))) := ⟨h2_⟩
        have n3_ : Aside0 (w31.heap[gb608]? = some (.cells #[.int .i64 0, .int .i64 0] 50 (0, 0))) := ⟨h3_⟩
        have n4_ : Aside0 (w31.heap[gb609]? = some (.cells #[.int .i64 0, .int .i64 0] 50 (0, 0))) := ⟨h4_⟩
        have n5_ : Aside0 (w.heap.size ≤ gb608) := ⟨h5_⟩
        have n6_ : Aside0 (w.heap.size ≤ gb608) := ⟨h6_⟩
        have n7_ : Aside0 (gb599 ≠ gb608) := ⟨h7_⟩
        have n8_ : Aside0 (gb608 ≠ gb599) := ⟨h8_⟩
        have n9_ : Aside0 (gb600 ≠ gb608) := ⟨h9_⟩
        have n10_ : Aside0 (gb608 ≠ gb600) := ⟨h10_⟩
        have n11_ : Aside0 (gb601 ≠ gb608) := ⟨h11_⟩
        have n12_ : Aside0 (gb608 ≠ gb601) := ⟨h12_⟩
        have n13_ : Aside0 (gb609 ≠ gb608) := ⟨h13_⟩
        have n14_ : Aside0 (gb608 ≠ gb609) := ⟨h14_⟩
        have n15_ : Aside0 (w.heap.size ≤ gb609) := ⟨h15_⟩
        have n16_ : Aside0 (w.heap.size ≤ gb609) := ⟨h16_⟩
        have n17_ : Aside0 (gb599 ≠ gb609) := ⟨h17_⟩
        have n18_ : Aside0 (gb609 ≠ gb599) := ⟨h18_⟩
        have n19_ : Aside0 (gb600 ≠ gb609) := ⟨h19_⟩
        have n20_ : Aside0 (gb609 ≠ gb600) := ⟨h20_⟩
        have n21_ : Aside0 (gb601 ≠ gb609) := ⟨h21_⟩
        have n22_ : Aside0 (gb609 ≠ gb601) := ⟨h22_⟩
        have n23_ : Aside0 (Below w.heap.size w w31) := ⟨h23_⟩
        clear BK599
        clear BK600
        clear BK601
        clear HB
        clear h0_ h1_ h2_ h3_ h4_ h5_ h6_ h7_ h8_ h9_ h10_ h11_ h12_ h13_ h14_ h15_ h16_ h17_ h18_ h19_ h20_ h21_ h22_ h23_
        have BK599 := n0_
        have BK600 := n1_
        have BK601 := n2_
        have BK608 := n3_
        have BK609 := n4_
        have GW608 := n5_
        have GE608 := n6_
        have NB599_608 := n7_
        have NB608_599 := n8_
        have NB600_608 := n9_
        have NB608_600 := n10_
        have NB601_608 := n11_
        have NB608_601 := n12_
        have NB609_608 := n13_
        have NB608_609 := n14_
        have GW609 := n15_
        have GE609 := n16_
        have NB599_609 := n17_
        have NB609_599 := n18_
        have NB600_609 := n19_
        have NB609_600 := n20_
        have NB601_609 := n21_
        have NB609_601 := n22_
        have HB := n23_
        clear n0_ n1_ n2_ n3_ n4_ n5_ n6_ n7_ n8_ n9_ n10_ n11_ n12_ n13_ n14_ n15_ n16_ n17_ n18_ n19_ n20_ n21_ n22_ n23_
        have hHeld : w31.cell? ⟨gb599, 0, none⟩ = some (.int .i64 a0_0) ∧ w31.cell? ⟨gb599, 1, none⟩ = some (.int .i64 a0_1) ∧ w31.cell? ⟨gb599, 2, none⟩ = some (.int .i64 a0_2) ∧ w31.cell? ⟨gb599, 3, none⟩ = some (.int .i64 a0_3) ∧ w31.cell? ⟨gb600, 0, none⟩ = some (.int .i64 a1_0) ∧ w31.cell? ⟨gb600, 1, none⟩ = some (.int .i64 a1_1) ∧ w31.cell? ⟨gb600, 2, none⟩ = some (.int .i64 a1_2) ∧ w31.cell? ⟨gb600, 3, none⟩ = some (.int .i64 a1_3) := hS_
        refine norm_ (a' := ?_) ?_ ?_
        rotate_left
        ·simp only [putAll, Act.put, List.setIfInBounds_toArray, List.set_cons_zero, List.set_cons_succ]
         rfl
        refine one_ (i := 9) (N := some 26) #[true, true, true, true, true, true, true, true, true, true, true, true, false, false] rfl rfl (one_of HT_.out (by kernel_rfl)) (by decide) (fun K hK => ?_)
        refine goes_ Try.func116 (by kernel_rfl) rfl #[.agg #[.int .i64 a0_2, .int .i64 a0_3], .agg #[.int .i64 a1_2, .int .i64 a1_3]] (by rfl) rfl rfl (by (try simp only [List.map_toArray, List.map_cons, List.map_nil]); first | done | rfl | (simp only [List.length_drop, List.length_take]; rfl)) ?_
        with_reducible refine (plane_apart.calls a0_2 a0_3 a1_2 a1_3 t606 t607 _ A26.out).mono ?_
        rintro e w32 ⟨rfl, hb⟩
        refine ⟨_, rfl, ?_⟩
        replace BK599 := bkC BK599 hb
        replace BK600 := bkC BK600 hb
        replace BK601 := bkC BK601 hb
        replace BK608 := bkC BK608 hb
        replace BK609 := bkC BK609 hb
        replace HB := Aside0.mk (below_step (by repeat (first | (with_reducible first | exact HB.out | apply below_alloc | apply pw_below_drewN | apply below_drew1 | refine below_set ?_ GE599.out | refine below_set ?_ GE600.out | refine below_set ?_ GE601.out | refine below_set ?_ GE608.out | refine below_set ?_ GE609.out) | exact HB.out)) hb)
        (try clear hb)
        (try clear hb2)
        (try clear hk)
        (try clear hi)
        refine hK.out _ _ ⟨(blk_cell BK599.out 0).trans rfl, (blk_cell BK599.out 1).trans rfl, (blk_cell BK599.out 2).trans rfl, (blk_cell BK599.out 3).trans rfl, (blk_cell BK600.out 0).trans rfl, (blk_cell BK600.out 1).trans rfl, (blk_cell BK600.out 2).trans rfl, (blk_cell BK600.out 3).trans rfl⟩ (fun hHeld => ?_)
        clear hK K
        refine norm_ (a' := ?_) ?_ ?_
        rotate_left
        ·show Act.put _ (some 26) _ = _
         simp only [Act.put, List.setIfInBounds_toArray, List.set_cons_zero, List.set_cons_succ, i64_w, i32_w]
         rfl
        exact norm_ (by first | (simp only [putAll, Act.put, List.setIfInBounds_toArray, List.set_cons_zero, List.set_cons_succ]; done) | (simp only [putAll, Act.put, List.setIfInBounds_toArray, List.set_cons_zero, List.set_cons_succ]; rfl)) (hJ4_9_10_11 (gb608, gb609) _ ⟨hHeld, (bk BK599), (bk BK600), (bk BK601), (bk BK608), (bk BK609), GW608.out, GE608.out, NB599_608.out, NB608_599.out, NB600_608.out, NB608_600.out, NB601_608.out, NB608_601.out, NB609_608.out, NB608_609.out, GW609.out, GE609.out, NB599_609.out, NB609_599.out, NB600_609.out, NB609_600.out, NB601_609.out, NB609_601.out, (by repeat (first | (with_reducible first | exact HB.out | apply below_alloc | apply pw_below_drewN | apply below_drew1 | refine below_set ?_ GE599.out | refine below_set ?_ GE600.out | refine below_set ?_ GE601.out | refine below_set ?_ GE608.out | refine below_set ?_ GE609.out) | exact HB.out))⟩)
      ·skip
       rintro gb609 w31 ⟨hS_, h0_, h1_, h2_, h3_, h4_, h5_, h6_, h7_, h8_, h9_, h10_, h11_, h12_⟩
       have n0_ : Aside0 (w31.heap[gb599]? = some (.cells #[.int .i64 a0_0, .int .i64 a0_1, .int .i64 a0_2, .int .i64 a0_3] 52 (0, 0))) := ⟨h0_⟩
       have n1_ : Aside0 (w31.heap[gb600]? = some (.cells #[.int .i64 a1_0, .int .i64 a1_1, .int .i64 a1_2, .int .i64 a1_3] 52 (0, 0))) := ⟨h1_⟩
       have n2_ : Aside0 (w31.heap[gb601]? = some (.cells #[.int .i64 0, .int .i64 0] 50 (0, 0))) := ⟨h2_⟩
       have n3_ : Aside0 (w31.heap[gb609]? = some (.cells #[.int .i64 0, .int .i64 0] 50 (0, 0))) := ⟨h3_⟩
       have n4_ : Aside0 (w.heap.size ≤ gb609) := ⟨h4_⟩
       have n5_ : Aside0 (w.heap.size ≤ gb609) := ⟨h5_⟩
       have n6_ : Aside0 (gb599 ≠ gb609) := ⟨h6_⟩
       have n7_ : Aside0 (gb609 ≠ gb599) := ⟨h7_⟩
       have n8_ : Aside0 (gb600 ≠ gb609) := ⟨h8_⟩
       have n9_ : Aside0 (gb609 ≠ gb600) := ⟨h9_⟩
       have n10_ : Aside0 (gb601 ≠ gb609) := ⟨h10_⟩
       have n11_ : Aside0 (gb609 ≠ gb601) := ⟨h11_⟩
       have n12_ : Aside0 (Below w.heap.size w w31) := ⟨h12_⟩
       clear BK599
       clear BK600
       clear BK601
       clear HB
       clear h0_ h1_ h2_ h3_ h4_ h5_ h6_ h7_ h8_ h9_ h10_ h11_ h12_
       have BK599 := n0_
       have BK600 := n1_
       have BK601 := n2_
       have BK609 := n3_
       have GW609 := n4_
       have GE609 := n5_
       have NB599_609 := n6_
       have NB609_599 := n7_
       have NB600_609 := n8_
       have NB609_600 := n9_
       have NB601_609 := n10_
       have NB609_601 := n11_
       have HB := n12_
       clear n0_ n1_ n2_ n3_ n4_ n5_ n6_ n7_ n8_ n9_ n10_ n11_ n12_
       have hHeld : w31.cell? ⟨gb599, 0, none⟩ = some (.int .i64 a0_0) ∧ w31.cell? ⟨gb599, 1, none⟩ = some (.int .i64 a0_1) ∧ w31.cell? ⟨gb599, 2, none⟩ = some (.int .i64 a0_2) ∧ w31.cell? ⟨gb599, 3, none⟩ = some (.int .i64 a0_3) ∧ w31.cell? ⟨gb600, 0, none⟩ = some (.int .i64 a1_0) ∧ w31.cell? ⟨gb600, 1, none⟩ = some (.int .i64 a1_1) ∧ w31.cell? ⟨gb600, 2, none⟩ = some (.int .i64 a1_2) ∧ w31.cell? ⟨gb600, 3, none⟩ = some (.int .i64 a1_3) := hS_
       refine norm_ (a' := ?_) ?_ ?_
       rotate_left
       ·simp only [putAll, Act.put, List.setIfInBounds_toArray, List.set_cons_zero, List.set_cons_succ]
        rfl
       refine one_ (i := 10) (N := some 6) #[true, true, true, true, true, true, true, true, true, true, true, true, false, false] rfl rfl (one_of HT_.out (by kernel_rfl)) (by decide) (fun K hK => ?_)
       refine box_step ?hg (N := 6) ?hd (cs := #[.int .i64 0, .int .i64 0]) (t := 50) ?hr ?_; (case hd => rfl); (case hg => rfl); (case hr => first | (go_simp; done) | (go_simp; rfl))
       intro gb608 hg w32 hbox hb
       have BK608 := Aside0.mk (hbox)
       have GW608 := Aside0.mk ((by rw [hg]; exact (below_size (by repeat (first | (with_reducible first | exact HB.out | apply below_alloc | apply pw_below_drewN | apply below_drew1 | refine below_set ?_ GE599.out | refine below_set ?_ GE600.out | refine below_set ?_ GE601.out | refine below_set ?_ GE609.out) | exact HB.out))) : w.heap.size ≤ gb608))
       have GE608 := Aside0.mk ((by rw [hg]; exact (below_size (by repeat (first | (with_reducible first | exact HB.out | apply below_alloc | apply pw_below_drewN | apply below_drew1 | refine below_set ?_ GE599.out | refine below_set ?_ GE600.out | refine below_set ?_ GE601.out | refine below_set ?_ GE609.out) | exact HB.out))) : w.heap.size ≤ gb608))
       have NB599_608 := neLA BK599 hg
       have NB608_599 := neGA BK599 hg
       have NB600_608 := neLA BK600 hg
       have NB608_600 := neGA BK600 hg
       have NB601_608 := neLA BK601 hg
       have NB608_601 := neGA BK601 hg
       have NB609_608 := neLA BK609 hg
       have NB608_609 := neGA BK609 hg
       replace BK599 := bkC BK599 hb
       replace BK600 := bkC BK600 hb
       replace BK601 := bkC BK601 hb
       replace BK609 := bkC BK609 hb
       replace HB := Aside0.mk (below_step (by repeat (first | (with_reducible first | exact HB.out | apply below_alloc | apply pw_below_drewN | apply below_drew1 | refine below_set ?_ GE599.out | refine below_set ?_ GE600.out | refine below_set ?_ GE601.out | refine below_set ?_ GE609.out) | exact HB.out)) hb)
       clear hb hbox hg
       refine hK.out _ _ ⟨(blk_cell BK599.out 0).trans rfl, (blk_cell BK599.out 1).trans rfl, (blk_cell BK599.out 2).trans rfl, (blk_cell BK599.out 3).trans rfl, (blk_cell BK600.out 0).trans rfl, (blk_cell BK600.out 1).trans rfl, (blk_cell BK600.out 2).trans rfl, (blk_cell BK600.out 3).trans rfl⟩ (fun hHeld => ?_)
       clear hK K
       refine norm_ (a' := ?_) ?_ ?_
       rotate_left
       ·show Act.put _ (some 6) _ = _
        simp only [Act.put, List.setIfInBounds_toArray, List.set_cons_zero, List.set_cons_succ, i64_w, i32_w]
        rfl
       exact norm_ (by first | (simp only [putAll, Act.put, List.setIfInBounds_toArray, List.set_cons_zero, List.set_cons_succ]; done) | (simp only [putAll, Act.put, List.setIfInBounds_toArray, List.set_cons_zero, List.set_cons_succ]; rfl)) (hJ4_9_10_11 (gb608, gb609) _ ⟨hHeld, (bk BK599), (bk BK600), (bk BK601), (bk BK608), (bk BK609), GW608.out, GE608.out, NB599_608.out, NB608_599.out, NB600_608.out, NB608_600.out, NB601_608.out, NB608_601.out, NB609_608.out, NB608_609.out, GW609.out, GE609.out, NB599_609.out, NB609_599.out, NB600_609.out, NB609_600.out, NB601_609.out, NB609_601.out, (by repeat (first | (with_reducible first | exact HB.out | apply below_alloc | apply pw_below_drewN | apply below_drew1 | refine below_set ?_ GE599.out | refine below_set ?_ GE600.out | refine below_set ?_ GE601.out | refine below_set ?_ GE609.out | refine below_set ?_ GE608.out) | exact HB.out))⟩)
     ·skip
      rintro gb608 w31 ⟨hS_, h0_, h1_, h2_, h3_, h4_, h5_, h6_, h7_, h8_, h9_, h10_, h11_, h12_⟩
      have n0_ : Aside0 (w31.heap[gb599]? = some (.cells #[.int .i64 a0_0, .int .i64 a0_1, .int .i64 a0_2, .int .i64 a0_3] 52 (0, 0))) := ⟨h0_⟩
      have n1_ : Aside0 (w31.heap[gb600]? = some (.cells #[.int .i64 a1_0, .int .i64 a1_1, .int .i64 a1_2, .int .i64 a1_3] 52 (0, 0))) := ⟨h1_⟩
      have n2_ : Aside0 (w31.heap[gb601]? = some (.cells #[.int .i64 0, .int .i64 0] 50 (0, 0))) := ⟨h2_⟩
      have n3_ : Aside0 (w31.heap[gb608]? = some (.cells #[.int .i64 0, .int .i64 0] 50 (0, 0))) := ⟨h3_⟩
      have n4_ : Aside0 (w.heap.size ≤ gb608) := ⟨h4_⟩
      have n5_ : Aside0 (w.heap.size ≤ gb608) := ⟨h5_⟩
      have n6_ : Aside0 (gb599 ≠ gb608) := ⟨h6_⟩
      have n7_ : Aside0 (gb608 ≠ gb599) := ⟨h7_⟩
      have n8_ : Aside0 (gb600 ≠ gb608) := ⟨h8_⟩
      have n9_ : Aside0 (gb608 ≠ gb600) := ⟨h9_⟩
      have n10_ : Aside0 (gb601 ≠ gb608) := ⟨h10_⟩
      have n11_ : Aside0 (gb608 ≠ gb601) := ⟨h11_⟩
      have n12_ : Aside0 (Below w.heap.size w w31) := ⟨h12_⟩
      clear BK599
      clear BK600
      clear BK601
      clear HB
      clear h0_ h1_ h2_ h3_ h4_ h5_ h6_ h7_ h8_ h9_ h10_ h11_ h12_
      have BK599 := n0_
      have BK600 := n1_
      have BK601 := n2_
      have BK608 := n3_
      have GW608 := n4_
      have GE608 := n5_
      have NB599_608 := n6_
      have NB608_599 := n7_
      have NB600_608 := n8_
      have NB608_600 := n9_
      have NB601_608 := n10_
      have NB608_601 := n11_
      have HB := n12_
      clear n0_ n1_ n2_ n3_ n4_ n5_ n6_ n7_ n8_ n9_ n10_ n11_ n12_
      have hHeld : w31.cell? ⟨gb599, 0, none⟩ = some (.int .i64 a0_0) ∧ w31.cell? ⟨gb599, 1, none⟩ = some (.int .i64 a0_1) ∧ w31.cell? ⟨gb599, 2, none⟩ = some (.int .i64 a0_2) ∧ w31.cell? ⟨gb599, 3, none⟩ = some (.int .i64 a0_3) ∧ w31.cell? ⟨gb600, 0, none⟩ = some (.int .i64 a1_0) ∧ w31.cell? ⟨gb600, 1, none⟩ = some (.int .i64 a1_1) ∧ w31.cell? ⟨gb600, 2, none⟩ = some (.int .i64 a1_2) ∧ w31.cell? ⟨gb600, 3, none⟩ = some (.int .i64 a1_3) := hS_
      refine norm_ (a' := ?_) ?_ ?_
      rotate_left
      ·simp only [putAll, Act.put, List.setIfInBounds_toArray, List.set_cons_zero, List.set_cons_succ]
       rfl
      refine one_ (i := 11) (N := some 7) #[true, true, true, true, true, true, true, true, true, true, true, true, false, false] rfl rfl (one_of HT_.out (by kernel_rfl)) (by decide) (fun K hK => ?_)
      refine box_step ?hg (N := 7) ?hd (cs := #[.int .i64 0, .int .i64 0]) (t := 50) ?hr ?_; (case hd => rfl); (case hg => rfl); (case hr => first | (go_simp; done) | (go_simp; rfl))
      intro gb609 hg w32 hbox hb
      have BK609 := Aside0.mk (hbox)
      have GW609 := Aside0.mk ((by rw [hg]; exact (below_size (by repeat (first | (with_reducible first | exact HB.out | apply below_alloc | apply pw_below_drewN | apply below_drew1 | refine below_set ?_ GE599.out | refine below_set ?_ GE600.out | refine below_set ?_ GE601.out | refine below_set ?_ GE608.out) | exact HB.out))) : w.heap.size ≤ gb609))
      have GE609 := Aside0.mk ((by rw [hg]; exact (below_size (by repeat (first | (with_reducible first | exact HB.out | apply below_alloc | apply pw_below_drewN | apply below_drew1 | refine below_set ?_ GE599.out | refine below_set ?_ GE600.out | refine below_set ?_ GE601.out | refine below_set ?_ GE608.out) | exact HB.out))) : w.heap.size ≤ gb609))
      have NB599_609 := neLA BK599 hg
      have NB609_599 := neGA BK599 hg
      have NB600_609 := neLA BK600 hg
      have NB609_600 := neGA BK600 hg
      have NB601_609 := neLA BK601 hg
      have NB609_601 := neGA BK601 hg
      have NB608_609 := neLA BK608 hg
      have NB609_608 := neGA BK608 hg
      replace BK599 := bkC BK599 hb
      replace BK600 := bkC BK600 hb
      replace BK601 := bkC BK601 hb
      replace BK608 := bkC BK608 hb
      replace HB := Aside0.mk (below_step (by repeat (first | (with_reducible first | exact HB.out | apply below_alloc | apply pw_below_drewN | apply below_drew1 | refine below_set ?_ GE599.out | refine below_set ?_ GE600.out | refine below_set ?_ GE601.out | refine below_set ?_ GE608.out) | exact HB.out)) hb)
      clear hb hbox hg
      refine hK.out _ _ ⟨(blk_cell BK599.out 0).trans rfl, (blk_cell BK599.out 1).trans rfl, (blk_cell BK599.out 2).trans rfl, (blk_cell BK599.out 3).trans rfl, (blk_cell BK600.out 0).trans rfl, (blk_cell BK600.out 1).trans rfl, (blk_cell BK600.out 2).trans rfl, (blk_cell BK600.out 3).trans rfl⟩ (fun hHeld => ?_)
      clear hK K
      refine norm_ (a' := ?_) ?_ ?_
      rotate_left
      ·show Act.put _ (some 7) _ = _
       simp only [Act.put, List.setIfInBounds_toArray, List.set_cons_zero, List.set_cons_succ, i64_w, i32_w]
       rfl
      exact norm_ (by first | (simp only [putAll, Act.put, List.setIfInBounds_toArray, List.set_cons_zero, List.set_cons_succ]; done) | (simp only [putAll, Act.put, List.setIfInBounds_toArray, List.set_cons_zero, List.set_cons_succ]; rfl)) (hJ4_9_10_11 (gb608, gb609) _ ⟨hHeld, (bk BK599), (bk BK600), (bk BK601), (bk BK608), (bk BK609), GW608.out, GE608.out, NB599_608.out, NB608_599.out, NB600_608.out, NB608_600.out, NB601_608.out, NB608_601.out, NB609_608.out, NB608_609.out, GW609.out, GE609.out, NB599_609.out, NB609_599.out, NB600_609.out, NB609_600.out, NB601_609.out, NB609_601.out, (by repeat (first | (with_reducible first | exact HB.out | apply below_alloc | apply pw_below_drewN | apply below_drew1 | refine below_set ?_ GE599.out | refine below_set ?_ GE600.out | refine below_set ?_ GE601.out | refine below_set ?_ GE608.out | refine below_set ?_ GE609.out) | exact HB.out))⟩)
    rintro ⟨gb608, gb609⟩ w32 ⟨hS_, h0_, h1_, h2_, h3_, h4_, h5_, h6_, h7_, h8_, h9_, h10_, h11_, h12_, h13_, h14_, h15_, h16_, h17_, h18_, h19_, h20_, h21_, h22_, h23_⟩
    have n0_ : Aside0 (w32.heap[gb599]? = some (.cells #[.int .i64 a0_0, .int .i64 a0_1, .int .i64 a0_2, .int .i64 a0_3] 52 (0, 0))) := ⟨h0_⟩
    have n1_ : Aside0 (w32.heap[gb600]? = some (.cells #[.int .i64 a1_0, .int .i64 a1_1, .int .i64 a1_2, .int .i64 a1_3] 52 (0, 0))) := ⟨h1_⟩
    have n2_ : Aside0 (w32.heap[gb601]? = some (.cells #[.int .i64 0, .int .i64 0] 50 (0, 0))) := ⟨h2_⟩
    have n3_ : Aside0 (w32.heap[gb608]? = some (.cells #[.int .i64 0, .int .i64 0] 50 (0, 0))) := ⟨h3_⟩
    have n4_ : Aside0 (w32.heap[gb609]? = some (.cells #[.int .i64 0, .int .i64 0] 50 (0, 0))) := ⟨h4_⟩
    have n5_ : Aside0 (w.heap.size ≤ gb608) := ⟨h5_⟩
    have n6_ : Aside0 (w.heap.size ≤ gb608) := ⟨h6_⟩
    have n7_ : Aside0 (gb599 ≠ gb608) := ⟨h7_⟩
    have n8_ : Aside0 (gb608 ≠ gb599) := ⟨h8_⟩
    have n9_ : Aside0 (gb600 ≠ gb608) := ⟨h9_⟩
    have n10_ : Aside0 (gb608 ≠ gb600) := ⟨h10_⟩
    have n11_ : Aside0 (gb601 ≠ gb608) := ⟨h11_⟩
    have n12_ : Aside0 (gb608 ≠ gb601) := ⟨h12_⟩
    have n13_ : Aside0 (gb609 ≠ gb608) := ⟨h13_⟩
    have n14_ : Aside0 (gb608 ≠ gb609) := ⟨h14_⟩
    have n15_ : Aside0 (w.heap.size ≤ gb609) := ⟨h15_⟩
    have n16_ : Aside0 (w.heap.size ≤ gb609) := ⟨h16_⟩
    have n17_ : Aside0 (gb599 ≠ gb609) := ⟨h17_⟩
    have n18_ : Aside0 (gb609 ≠ gb599) := ⟨h18_⟩
    have n19_ : Aside0 (gb600 ≠ gb609) := ⟨h19_⟩
    have n20_ : Aside0 (gb609 ≠ gb600) := ⟨h20_⟩
    have n21_ : Aside0 (gb601 ≠ gb609) := ⟨h21_⟩
    have n22_ : Aside0 (gb609 ≠ gb601) := ⟨h22_⟩
    have n23_ : Aside0 (Below w.heap.size w w32) := ⟨h23_⟩
    clear BK599
    clear BK600
    clear BK601
    clear HB
    clear h0_ h1_ h2_ h3_ h4_ h5_ h6_ h7_ h8_ h9_ h10_ h11_ h12_ h13_ h14_ h15_ h16_ h17_ h18_ h19_ h20_ h21_ h22_ h23_
    have BK599 := n0_
    have BK600 := n1_
    have BK601 := n2_
    have BK608 := n3_
    have BK609 := n4_
    have GW608 := n5_
    have GE608 := n6_
    have NB599_608 := n7_
    have NB608_599 := n8_
    have NB600_608 := n9_
    have NB608_600 := n10_
    have NB601_608 := n11_
    have NB608_601 := n12_
    have NB609_608 := n13_
    have NB608_609 := n14_
    have GW609 := n15_
    have GE609 := n16_
    have NB599_609 := n17_
    have NB609_599 := n18_
    have NB600_609 := n19_
    have NB609_600 := n20_
    have NB601_609 := n21_
    have NB609_601 := n22_
    have HB := n23_
    clear n0_ n1_ n2_ n3_ n4_ n5_ n6_ n7_ n8_ n9_ n10_ n11_ n12_ n13_ n14_ n15_ n16_ n17_ n18_ n19_ n20_ n21_ n22_ n23_
    have hHeld : w32.cell? ⟨gb599, 0, none⟩ = some (.int .i64 a0_0) ∧ w32.cell? ⟨gb599, 1, none⟩ = some (.int .i64 a0_1) ∧ w32.cell? ⟨gb599, 2, none⟩ = some (.int .i64 a0_2) ∧ w32.cell? ⟨gb599, 3, none⟩ = some (.int .i64 a0_3) ∧ w32.cell? ⟨gb600, 0, none⟩ = some (.int .i64 a1_0) ∧ w32.cell? ⟨gb600, 1, none⟩ = some (.int .i64 a1_1) ∧ w32.cell? ⟨gb600, 2, none⟩ = some (.int .i64 a1_2) ∧ w32.cell? ⟨gb600, 3, none⟩ = some (.int .i64 a1_3) := hS_
    refine norm_ (a' := ?_) ?_ ?_
    rotate_left
    ·simp only [putAll, Act.put, List.setIfInBounds_toArray, List.set_cons_zero, List.set_cons_succ]
     rfl
    refine one_ (i := 12) (N := none) #[true, true, true, true, true, true, true, true, true, true, true, true, true, false] rfl rfl (one_of HT_.out (by kernel_rfl)) (by decide) (fun K hK => ?_)
    have hs33 : w32.cell? ⟨gb608, 0, none⟩ = some (.int .i64 0) := (blk_cell BK608.out 0).trans rfl
    have hfs33 := blk_frozen BK608.out 0
    have hns33_0 := NB599_608.out
    have hns33_1 := NB600_608.out
    have hns33_2 := NB601_608.out
    have hns33_4 := NB609_608.out
    have hms33_0 := NB608_599.out
    have hms33_1 := NB608_600.out
    have hms33_2 := NB608_601.out
    have hms33_4 := NB608_609.out
    have hs34 : w32.cell? ⟨gb608, 1, none⟩ = some (.int .i64 0) := (blk_cell BK608.out 1).trans rfl
    have hfs34 := blk_frozen BK608.out 1
    have hns34_0 := NB599_608.out
    have hns34_1 := NB600_608.out
    have hns34_2 := NB601_608.out
    have hns34_4 := NB609_608.out
    have hms34_0 := NB608_599.out
    have hms34_1 := NB608_600.out
    have hms34_2 := NB608_601.out
    have hms34_4 := NB608_609.out
    refine skip_ (w1 := ?_) (by rfl) rfl ?_ ?_
    rotate_left
    ·go_simp
     rfl
    refine hK.out _ _ ⟨((cell_far (p := ⟨gb608, _, none⟩) NB599_608.out _).trans (((cell_far (p := ⟨gb608, _, none⟩) NB599_608.out _).trans (hHeld.1)))), ((cell_far (p := ⟨gb608, _, none⟩) NB599_608.out _).trans (((cell_far (p := ⟨gb608, _, none⟩) NB599_608.out _).trans (hHeld.2.1)))), ((cell_far (p := ⟨gb608, _, none⟩) NB599_608.out _).trans (((cell_far (p := ⟨gb608, _, none⟩) NB599_608.out _).trans (hHeld.2.2.1)))), ((cell_far (p := ⟨gb608, _, none⟩) NB599_608.out _).trans (((cell_far (p := ⟨gb608, _, none⟩) NB599_608.out _).trans (hHeld.2.2.2.1)))), ((cell_far (p := ⟨gb608, _, none⟩) NB600_608.out _).trans (((cell_far (p := ⟨gb608, _, none⟩) NB600_608.out _).trans (hHeld.2.2.2.2.1)))), ((cell_far (p := ⟨gb608, _, none⟩) NB600_608.out _).trans (((cell_far (p := ⟨gb608, _, none⟩) NB600_608.out _).trans (hHeld.2.2.2.2.2.1)))), ((cell_far (p := ⟨gb608, _, none⟩) NB600_608.out _).trans (((cell_far (p := ⟨gb608, _, none⟩) NB600_608.out _).trans (hHeld.2.2.2.2.2.2.1)))), ((cell_far (p := ⟨gb608, _, none⟩) NB600_608.out _).trans (((cell_far (p := ⟨gb608, _, none⟩) NB600_608.out _).trans (hHeld.2.2.2.2.2.2.2))))⟩ (fun hHeld => ?_)
    clear hK K
    refine one_ (i := 13) (N := none) #[true, true, true, true, true, true, true, true, true, true, true, true, true, true] rfl rfl (one_of HT_.out (by kernel_rfl)) (by decide) (fun K hK => ?_)
    have hs35 : w32.cell? ⟨gb609, 0, none⟩ = some (.int .i64 0) := (blk_cell BK609.out 0).trans rfl
    have hfs35 := blk_frozen BK609.out 0
    have hns35_0 := NB599_609.out
    have hns35_1 := NB600_609.out
    have hns35_2 := NB601_609.out
    have hns35_3 := NB608_609.out
    have hms35_0 := NB609_599.out
    have hms35_1 := NB609_600.out
    have hms35_2 := NB609_601.out
    have hms35_3 := NB609_608.out
    have hs36 : w32.cell? ⟨gb609, 1, none⟩ = some (.int .i64 0) := (blk_cell BK609.out 1).trans rfl
    have hfs36 := blk_frozen BK609.out 1
    have hns36_0 := NB599_609.out
    have hns36_1 := NB600_609.out
    have hns36_2 := NB601_609.out
    have hns36_3 := NB608_609.out
    have hms36_0 := NB609_599.out
    have hms36_1 := NB609_600.out
    have hms36_2 := NB609_601.out
    have hms36_3 := NB609_608.out
    refine skip_ (w1 := ?_) (by rfl) rfl ?_ ?_
    rotate_left
    ·go_simp
     rfl
    refine hK.out _ _ ⟨((cell_far (p := ⟨gb609, _, none⟩) NB599_609.out _).trans (((cell_far (p := ⟨gb609, _, none⟩) NB599_609.out _).trans (hHeld.1)))), ((cell_far (p := ⟨gb609, _, none⟩) NB599_609.out _).trans (((cell_far (p := ⟨gb609, _, none⟩) NB599_609.out _).trans (hHeld.2.1)))), ((cell_far (p := ⟨gb609, _, none⟩) NB599_609.out _).trans (((cell_far (p := ⟨gb609, _, none⟩) NB599_609.out _).trans (hHeld.2.2.1)))), ((cell_far (p := ⟨gb609, _, none⟩) NB599_609.out _).trans (((cell_far (p := ⟨gb609, _, none⟩) NB599_609.out _).trans (hHeld.2.2.2.1)))), ((cell_far (p := ⟨gb609, _, none⟩) NB600_609.out _).trans (((cell_far (p := ⟨gb609, _, none⟩) NB600_609.out _).trans (hHeld.2.2.2.2.1)))), ((cell_far (p := ⟨gb609, _, none⟩) NB600_609.out _).trans (((cell_far (p := ⟨gb609, _, none⟩) NB600_609.out _).trans (hHeld.2.2.2.2.2.1)))), ((cell_far (p := ⟨gb609, _, none⟩) NB600_609.out _).trans (((cell_far (p := ⟨gb609, _, none⟩) NB600_609.out _).trans (hHeld.2.2.2.2.2.2.1)))), ((cell_far (p := ⟨gb609, _, none⟩) NB600_609.out _).trans (((cell_far (p := ⟨gb609, _, none⟩) NB600_609.out _).trans (hHeld.2.2.2.2.2.2.2))))⟩ (fun hHeld => ?_)
    clear hK K
    refine done_ (done_of HT_.out (by kernel_rfl)) ?_
    have hnb37 := NB608_599.out
    have hnc37 := NB599_608.out
    have hnb38 := NB608_600.out
    have hnc38 := NB600_608.out
    have hnb39 := NB608_601.out
    have hnc39 := NB601_608.out
    have hnb40 := NB608_609.out
    have hnc40 := NB609_608.out
    have hcz41_0 : w32.cell? ⟨gb608, 0, none⟩ = some (.int .i64 0) := (blk_cell BK608.out 0).trans rfl
    have hcz41_1 : w32.cell? ⟨gb608, 1, none⟩ = some (.int .i64 0) := (blk_cell BK608.out 1).trans rfl
    have hfz41_0 := blk_frozen BK608.out 0
    have hfz41_1 := blk_frozen BK608.out 1
    have hnb42 := NB609_599.out
    have hnc42 := NB599_609.out
    have hnb43 := NB609_600.out
    have hnc43 := NB600_609.out
    have hnb44 := NB609_601.out
    have hnc44 := NB601_609.out
    have hcz45_0 : w32.cell? ⟨gb609, 0, none⟩ = some (.int .i64 0) := (blk_cell BK609.out 0).trans rfl
    have hcz45_1 : w32.cell? ⟨gb609, 1, none⟩ = some (.int .i64 0) := (blk_cell BK609.out 1).trans rfl
    have hfz45_0 := blk_frozen BK609.out 0
    have hfz45_1 := blk_frozen BK609.out 1
    have hnb46 := NB601_599.out
    have hnc46 := NB599_601.out
    have hnb47 := NB601_600.out
    have hnc47 := NB600_601.out
    have hcz48_0 : w32.cell? ⟨gb601, 0, none⟩ = some (.int .i64 0) := (blk_cell BK601.out 0).trans rfl
    have hcz48_1 : w32.cell? ⟨gb601, 1, none⟩ = some (.int .i64 0) := (blk_cell BK601.out 1).trans rfl
    have hfz48_0 := blk_frozen BK601.out 0
    have hfz48_1 := blk_frozen BK601.out 1
    try go_wp2
    refine bodyPost_ret (results_ct rfl _ _ gb601 50 #[.int .i64 (wrap64 ((wrap64 (t604 * t604)) + (wrap64 (t606 * t606)))), .int .i64 (wrap64 ((wrap64 (t605 * t605)) + (wrap64 (t607 * t607))))] (0, 0) _ rfl (by (with_reducible repeat (first | refine blk_drewN ?_ _ | refine blk_drew ?_ | refine blk_alloc ?_ _)); refine blk_put (cs := #[.int .i64 (wrap64 ((wrap64 (t604 * t604)) + (wrap64 (t606 * t606)))), .int .i64 0]) ?_ 1 _ rfl; (with_reducible repeat (first | refine blk_drewN ?_ _ | refine blk_drew ?_ | refine blk_alloc ?_ _)); refine blk_put (cs := #[.int .i64 0, .int .i64 0]) ?_ 0 _ rfl; (with_reducible repeat (first | refine blk_drewN ?_ _ | refine blk_drew ?_ | refine blk_alloc ?_ _)); refine blk_far ?_ NB601_609.out _; (with_reducible repeat (first | refine blk_drewN ?_ _ | refine blk_drew ?_ | refine blk_alloc ?_ _)); refine blk_far ?_ NB601_609.out _; (with_reducible repeat (first | refine blk_drewN ?_ _ | refine blk_drew ?_ | refine blk_alloc ?_ _)); refine blk_far ?_ NB601_608.out _; (with_reducible repeat (first | refine blk_drewN ?_ _ | refine blk_drew ?_ | refine blk_alloc ?_ _)); refine blk_far ?_ NB601_608.out _; (with_reducible repeat (first | refine blk_drewN ?_ _ | refine blk_drew ?_ | refine blk_alloc ?_ _)); exact BK601.out) Try.underlying50 rfl (by kernel_rfl)) rfl ?_
    exact ⟨by first | rfl | (simp [errW_none, errW_some] <;> rfl) | (simp [*, errW_none, errW_some] <;> rfl), by repeat (first | (with_reducible first | exact HB.out | apply below_alloc | apply pw_below_drewN | apply below_drew1 | refine below_set ?_ GE599.out | refine below_set ?_ GE600.out | refine below_set ?_ GE601.out | refine below_set ?_ GE608.out | refine below_set ?_ GE609.out) | exact HB.out)⟩
end Go.Proofs.Ytckaejgamfllfaa.G
end

section
namespace Go.Proofs.Ytckaejgamfllfaa.G
open Go.RowKit Go.Proofs.YtckaejgamfllfaaW.PrintWords Go.Proofs.YtckaejgamfllfaaW.PrintLast Go.Proofs.YtckaejgamfllfaaW.PrintMore
attribute [local go_sem] max2_int min2_int max_two min_two max_three min_three max_four min_four
set_option linter.unusedVariables false
set_option linter.unusedSimpArgs false
def boundstonelaw02_at.f (a0 : Int) (a1 : Int) : Option (Int × Int) := some (a0, a1)
set_option maxHeartbeats 8000000 in
set_option maxRecDepth 100000 in
theorem boundstonelaw02_at.calls (a0 : Int) (a1 : Int) (r1 : Int) (r2 : Int) (w : World) (h : boundstonelaw02_at.f a0 a1 = some (r1, r2)) :
  Calls Try.prog 74 #[.int .i64 a0, .int .i64 a1] w fun e w' => e = .returned (.agg #[.int .i64 r1, .int .i64 r2]) ∧ Below w.heap.size w w' := by
 have hu23 := Try.underlying23
 have HB := Aside0.mk (Below.refl w.heap.size w)
 have H : (some (a0, a1)) = some (r1, r2) := h
 clear h
 simp only [Option.some.injEq, Prod.mk.injEq] at H
 obtain ⟨rfl, rfl⟩ := H
 go_enter Try.func74, Try.ntmps74
 go_wp2_with (first | ((with_reducible refine gate_dst (N := 4) rfl ?_); refine box_event ?hg (N := 4) ?hd (cs := #[.int .i64 0, .int .i64 0]) (t := 23) ?hr ?_; (case hd => rfl); (case hg => rfl); (case hr => first | (go_simp; done) | (go_simp; rfl)); intro gb195 hg w3 hbox hb; have BK195 := Aside0.mk (hbox); have GW195 := geBA HB hg; have GE195 := geBA HB hg; replace HB := Aside0.mk (below_step (hk HB) hb); clear hb hbox hg; have hcz4_0 : w3.cell? ⟨gb195, 0, none⟩ = some (.int .i64 0) := (blk_cell BK195.out 0).trans rfl; have hcz4_1 : w3.cell? ⟨gb195, 1, none⟩ = some (.int .i64 0) := (blk_cell BK195.out 1).trans rfl; have hfz4_0 := blk_frozen BK195.out 0; have hfz4_1 := blk_frozen BK195.out 1))
 refine bodyPost_ret (results_cell_row rfl _ _ gb195 23 #[.int .i64 a0, .int .i64 a1] (0, 0) _ rfl (by (with_reducible repeat (first | refine blk_drewN ?_ _ | refine blk_drew ?_ | refine blk_alloc ?_ _)); refine blk_put (cs := #[.int .i64 a0, .int .i64 0]) ?_ 1 _ rfl; (with_reducible repeat (first | refine blk_drewN ?_ _ | refine blk_drew ?_ | refine blk_alloc ?_ _)); refine blk_put (cs := #[.int .i64 0, .int .i64 0]) ?_ 0 _ rfl; (with_reducible repeat (first | refine blk_drewN ?_ _ | refine blk_drew ?_ | refine blk_alloc ?_ _)); exact BK195.out) Try.underlying23 rfl (by kernel_rfl)) rfl ?_
 exact ⟨by first | rfl | (simp [errW_none, errW_some] <;> rfl) | (simp [*, errW_none, errW_some] <;> rfl), by repeat (first | (with_reducible first | exact HB.out | apply below_alloc | apply pw_below_drewN | apply below_drew1 | refine below_set ?_ GE195.out) | exact HB.out)⟩
end Go.Proofs.Ytckaejgamfllfaa.G
end

section
namespace Go.Proofs.Ytckaejgamfllfaa.G
open Go.RowKit Go.Proofs.YtckaejgamfllfaaW.PrintWords Go.Proofs.YtckaejgamfllfaaW.PrintLast Go.Proofs.YtckaejgamfllfaaW.PrintMore
attribute [local go_sem] max2_int min2_int max_two min_two max_three min_three max_four min_four
set_option linter.unusedVariables false
set_option linter.unusedSimpArgs false
theorem eqA50 (d : Nat) (w : World) (x0 y0 : Int) (x1 y1 : Int) :
    (Op.equalIn (d + 2) 50 (.agg #[.int .i64 x0, .int .i64 x1]) (.agg #[.int .i64 y0, .int .i64 y1])).run Try.prog w = .ok (x0 == y0 && (x1 == y1)) w := by
  refine eqA_of Try.underlying50 (by kernel_rfl) ?_
  refine eqf_cons (by rfl) (by go_simp; rfl) (by go_simp; rfl) (by go_simp) ?_
  exact eqf_last (by rfl) (by go_simp; rfl) (by go_simp; rfl) (by go_simp)
end Go.Proofs.Ytckaejgamfllfaa.G
end

section
namespace Go.Proofs.Ytckaejgamfllfaa.G
open Go.RowKit Go.Proofs.YtckaejgamfllfaaW.PrintWords Go.Proofs.YtckaejgamfllfaaW.PrintLast Go.Proofs.YtckaejgamfllfaaW.PrintMore
attribute [local go_sem] max2_int min2_int max_two min_two max_three min_three max_four min_four
set_option linter.unusedVariables false
set_option linter.unusedSimpArgs false
theorem eqA52 (d : Nat) (w : World) (x0 y0 : Int) (x1 y1 : Int) (x2 y2 : Int) (x3 y3 : Int) :
    (Op.equalIn (d + 3) 52 (.agg #[.int .i64 x0, .int .i64 x1, .int .i64 x2, .int .i64 x3]) (.agg #[.int .i64 y0, .int .i64 y1, .int .i64 y2, .int .i64 y3])).run Try.prog w = .ok ((x0 == y0 && (x1 == y1)) && ((x2 == y2 && (x3 == y3)))) w := by
  refine eqA_of Try.underlying52 (by kernel_rfl) ?_
  refine eqf_cons (by rfl) (by go_simp) (by go_simp) (eqA50 (d + 0) w _ _ _ _) ?_
  exact eqf_last (by rfl) (by go_simp) (by go_simp) (eqA50 (d + 0) w _ _ _ _)
end Go.Proofs.Ytckaejgamfllfaa.G
end
