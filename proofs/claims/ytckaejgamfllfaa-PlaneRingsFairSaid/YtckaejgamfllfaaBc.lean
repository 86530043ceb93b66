/- Part 3 of 4. -/
import Derived.Test.YtckaejgamfllfaaBb
import Derived.StillTail
import Derived.StillTailTactics
import Derived.OrdersIn
import Derived.TacticsIn
import Derived.RangeFuncCalls
import Derived.RangeFuncNested
import Derived.RangeFuncBound
import Derived.RangeFuncLeaves
import Derived.RangeFuncBox
import Derived.Shelf.Abstract
import Derived.Shelf.RegionOpen
import Derived.OwnWalkIn
import Derived.TacticsInMore
import Derived.LoopNIn
import Derived.LoopIn
import Derived.BigQuiet
section
namespace Go.Proofs.Ytckaejgamfllfaa.G
open Go.RowKit Go.Proofs.YtckaejgamfllfaaW.PrintWords Go.Proofs.YtckaejgamfllfaaW.PrintLast Go.Proofs.YtckaejgamfllfaaW.PrintMore
attribute [local go_sem] max2_int min2_int max_two min_two max_three min_three max_four min_four
set_option linter.unusedVariables false
set_option linter.unusedSimpArgs false
mutual
def plane_Meeting.j0 : Nat → Bool → Int → Int → Int → Int → Int → Int → Int → Int → Option (Int)
  | 0, _, _, _, _, _, _, _, _, _ => none
  | k + 1, x16, x162000, x162001, x162002, x162003, x163000, x163001, x163002, x163003 => if x16 = true then (some 0) else ((plane_twice.f x162000 x162001 x162002 x162003 x163000 x163001).bind fun t165 => ((plane_sign.f t165).bind fun t166 => ((plane_twice.f x162000 x162001 x162002 x162003 x163002 x163003).bind fun t167 => ((plane_sign.f t167).bind fun t168 => ((plane_twice.f x163000 x163001 x163002 x163003 x162000 x162001).bind fun t169 => ((plane_sign.f t169).bind fun t170 => ((plane_twice.f x163000 x163001 x163002 x163003 x162002 x162003).bind fun t171 => ((plane_sign.f t171).bind fun t172 => (if t166 = 0 then (plane_Meeting.j1 k t166 t168 t170 t172 (t168 == 0) x162000 x162001 x162002 x162003 x163000 x163001 x163002 x163003) else (plane_Meeting.j1 k t166 t168 t170 t172 false x162000 x162001 x162002 x162003 x163000 x163001 x163002 x163003))))))))))
def plane_Meeting.j1 : Nat → Int → Int → Int → Int → Bool → Int → Int → Int → Int → Int → Int → Int → Int → Option (Int)
  | 0, _, _, _, _, _, _, _, _, _, _, _, _, _ => none
  | k + 1, x5, x6, x7, x8, x54, x162000, x162001, x162002, x162003, x163000, x163001, x163002, x163003 => if x54 = true then ((plane_along.f k x162000 x162001 x162002 x162003 x163000 x163001 x163002 x163003).bind fun t173 => (some t173)) else (if (wrap64 (x5 * x6)) < 0 then (plane_Meeting.j2 k (decide ((wrap64 (x7 * x8)) < 0)) x162000 x162001 x162002 x162003 x163000 x163001 x163002 x163003) else (plane_Meeting.j2 k false x162000 x162001 x162002 x162003 x163000 x163001 x163002 x163003))
def plane_Meeting.j2 : Nat → Bool → Int → Int → Int → Int → Int → Int → Int → Int → Option (Int)
  | 0, _, _, _, _, _, _, _, _, _ => none
  | k + 1, x58, x162000, x162001, x162002, x162003, x163000, x163001, x163002, x163003 => if x58 = true then (some 2) else ((plane_on.f x162000 x162001 x162002 x162003 x163000 x163001).bind fun t174 => (if t174 = true then (plane_Meeting.j3 k t174) else ((plane_on.f x162000 x162001 x162002 x162003 x163002 x163003).bind fun t175 => (if t175 = true then (plane_Meeting.j3 k t175) else ((plane_on.f x163000 x163001 x163002 x163003 x162000 x162001).bind fun t176 => (if t176 = true then (plane_Meeting.j3 k t176) else ((plane_on.f x163000 x163001 x163002 x163003 x162002 x162003).bind fun t177 => (plane_Meeting.j3 k t177))))))))
def plane_Meeting.j3 : Nat → Bool → Option (Int)
  | 0, _ => none
  | k + 1, x69 => if x69 = true then (some 1) else (some 0)
end
def plane_Meeting.f (k : Nat) (a0_0 : Int) (a0_1 : Int) (a0_2 : Int) (a0_3 : Int) (a1_0 : Int) (a1_1 : Int) (a1_2 : Int) (a1_3 : Int) : Option (Int) := (plane_proper.f a0_0 a0_1 a0_2 a0_3).bind fun t163 => (if t163 = true then ((plane_proper.f a1_0 a1_1 a1_2 a1_3).bind fun t164 => (plane_Meeting.j0 k (!t164) a0_0 a0_1 a0_2 a0_3 a1_0 a1_1 a1_2 a1_3)) else (plane_Meeting.j0 k true a0_0 a0_1 a0_2 a0_3 a1_0 a1_1 a1_2 a1_3))
theorem plane_Meeting.mono_l : ∀ k, (∀ y0 y1 y2 y3 y4 y5 y6 y7 y8, LeO (plane_Meeting.j0 k y0 y1 y2 y3 y4 y5 y6 y7 y8) (plane_Meeting.j0 (k + 1) y0 y1 y2 y3 y4 y5 y6 y7 y8)) ∧ (∀ y0 y1 y2 y3 y4 y5 y6 y7 y8 y9 y10 y11 y12, LeO (plane_Meeting.j1 k y0 y1 y2 y3 y4 y5 y6 y7 y8 y9 y10 y11 y12) (plane_Meeting.j1 (k + 1) y0 y1 y2 y3 y4 y5 y6 y7 y8 y9 y10 y11 y12)) ∧ (∀ y0 y1 y2 y3 y4 y5 y6 y7 y8, LeO (plane_Meeting.j2 k y0 y1 y2 y3 y4 y5 y6 y7 y8) (plane_Meeting.j2 (k + 1) y0 y1 y2 y3 y4 y5 y6 y7 y8)) ∧ (∀ y0, LeO (plane_Meeting.j3 k y0) (plane_Meeting.j3 (k + 1) y0))
  | 0 => ⟨fun _ _ _ _ _ _ _ _ _ r h => by simp [plane_Meeting.j0] at h, fun _ _ _ _ _ _ _ _ _ _ _ _ _ r h => by simp [plane_Meeting.j1] at h, fun _ _ _ _ _ _ _ _ _ r h => by simp [plane_Meeting.j2] at h, fun _ r h => by simp [plane_Meeting.j3] at h⟩
  | k + 1 => by
    obtain ⟨ih0, ih1, ih2, ih3⟩ := plane_Meeting.mono_l k
    refine ⟨?_, ?_, ?_, ?_⟩
    · intro y0 y1 y2 y3 y4 y5 y6 y7 y8
      unfold plane_Meeting.j0
      repeat' first
      | (with_reducible exact ih0 _ _ _ _ _ _ _ _ _)
      | (with_reducible exact ih1 _ _ _ _ _ _ _ _ _ _ _ _ _)
      | (with_reducible exact ih2 _ _ _ _ _ _ _ _ _)
      | (with_reducible exact ih3 _)
      | (with_reducible exact plane_along.mono _ _ _ _ _ _ _ _ _)
      | (with_reducible exact LeO.refl _)
      | (with_reducible exact LeO.none _)
      | (with_reducible refine LeO.ite ?_ ?_)
      | (with_reducible refine LeO.bind ?_ (fun _ => ?_))
      | exact ih0 _ _ _ _ _ _ _ _ _
      | exact ih1 _ _ _ _ _ _ _ _ _ _ _ _ _
      | exact ih2 _ _ _ _ _ _ _ _ _
      | exact ih3 _
      | exact plane_along.mono _ _ _ _ _ _ _ _ _
      | exact LeO.none _
      | refine LeO.ite ?_ ?_
      | refine LeO.bind ?_ (fun _ => ?_)
    · intro y0 y1 y2 y3 y4 y5 y6 y7 y8 y9 y10 y11 y12
      unfold plane_Meeting.j1
      repeat' first
      | (with_reducible exact ih0 _ _ _ _ _ _ _ _ _)
      | (with_reducible exact ih1 _ _ _ _ _ _ _ _ _ _ _ _ _)
      | (with_reducible exact ih2 _ _ _ _ _ _ _ _ _)
      | (with_reducible exact ih3 _)
      | (with_reducible exact plane_along.mono _ _ _ _ _ _ _ _ _)
      | (with_reducible exact LeO.refl _)
      | (with_reducible exact LeO.none _)
      | (with_reducible refine LeO.ite ?_ ?_)
      | (with_reducible refine LeO.bind ?_ (fun _ => ?_))
      | exact ih0 _ _ _ _ _ _ _ _ _
      | exact ih1 _ _ _ _ _ _ _ _ _ _ _ _ _
      | exact ih2 _ _ _ _ _ _ _ _ _
      | exact ih3 _
      | exact plane_along.mono _ _ _ _ _ _ _ _ _
      | exact LeO.none _
      | refine LeO.ite ?_ ?_
      | refine LeO.bind ?_ (fun _ => ?_)
    · intro y0 y1 y2 y3 y4 y5 y6 y7 y8
      unfold plane_Meeting.j2
      repeat' first
      | (with_reducible exact ih0 _ _ _ _ _ _ _ _ _)
      | (with_reducible exact ih1 _ _ _ _ _ _ _ _ _ _ _ _ _)
      | (with_reducible exact ih2 _ _ _ _ _ _ _ _ _)
      | (with_reducible exact ih3 _)
      | (with_reducible exact plane_along.mono _ _ _ _ _ _ _ _ _)
      | (with_reducible exact LeO.refl _)
      | (with_reducible exact LeO.none _)
      | (with_reducible refine LeO.ite ?_ ?_)
      | (with_reducible refine LeO.bind ?_ (fun _ => ?_))
      | exact ih0 _ _ _ _ _ _ _ _ _
      | exact ih1 _ _ _ _ _ _ _ _ _ _ _ _ _
      | exact ih2 _ _ _ _ _ _ _ _ _
      | exact ih3 _
      | exact plane_along.mono _ _ _ _ _ _ _ _ _
      | exact LeO.none _
      | refine LeO.ite ?_ ?_
      | refine LeO.bind ?_ (fun _ => ?_)
    · intro y0
      unfold plane_Meeting.j3
      repeat' first
      | (with_reducible exact ih0 _ _ _ _ _ _ _ _ _)
      | (with_reducible exact ih1 _ _ _ _ _ _ _ _ _ _ _ _ _)
      | (with_reducible exact ih2 _ _ _ _ _ _ _ _ _)
      | (with_reducible exact ih3 _)
      | (with_reducible exact plane_along.mono _ _ _ _ _ _ _ _ _)
      | (with_reducible exact LeO.refl _)
      | (with_reducible exact LeO.none _)
      | (with_reducible refine LeO.ite ?_ ?_)
      | (with_reducible refine LeO.bind ?_ (fun _ => ?_))
      | exact ih0 _ _ _ _ _ _ _ _ _
      | exact ih1 _ _ _ _ _ _ _ _ _ _ _ _ _
      | exact ih2 _ _ _ _ _ _ _ _ _
      | exact ih3 _
      | exact plane_along.mono _ _ _ _ _ _ _ _ _
      | exact LeO.none _
      | refine LeO.ite ?_ ?_
      | refine LeO.bind ?_ (fun _ => ?_)
theorem plane_Meeting.mono : ∀ a0 a1 a2 a3 a4 a5 a6 a7 k, LeO (plane_Meeting.f k a0 a1 a2 a3 a4 a5 a6 a7) (plane_Meeting.f (k + 1) a0 a1 a2 a3 a4 a5 a6 a7) := by
  intro a0 a1 a2 a3 a4 a5 a6 a7 k
  obtain ⟨ih0, ih1, ih2, ih3⟩ := plane_Meeting.mono_l k
  unfold plane_Meeting.f
  repeat' first
      | (with_reducible exact ih0 _ _ _ _ _ _ _ _ _)
      | (with_reducible exact ih1 _ _ _ _ _ _ _ _ _ _ _ _ _)
      | (with_reducible exact ih2 _ _ _ _ _ _ _ _ _)
      | (with_reducible exact ih3 _)
      | (with_reducible exact plane_along.mono _ _ _ _ _ _ _ _ _)
      | (with_reducible exact LeO.refl _)
      | (with_reducible exact LeO.none _)
      | (with_reducible refine LeO.ite ?_ ?_)
      | (with_reducible refine LeO.bind ?_ (fun _ => ?_))
      | exact ih0 _ _ _ _ _ _ _ _ _
      | exact ih1 _ _ _ _ _ _ _ _ _ _ _ _ _
      | exact ih2 _ _ _ _ _ _ _ _ _
      | exact ih3 _
      | exact plane_along.mono _ _ _ _ _ _ _ _ _
      | exact LeO.none _
      | refine LeO.ite ?_ ?_
      | refine LeO.bind ?_ (fun _ => ?_)
def plane_Meeting.T3 : Bool × List (List Nat × List Nat) := (true, [([], []), ([0], [0]), ([], []), ([2], [2]), ([], []), ([4], [4]), ([1, 3, 5], [1, 3, 5]), ([6, 6], [6]), ([], []), ([8], [8]), ([], []), ([10], [10]), ([], []), ([12], [12]), ([9, 11, 13, 7], [9, 11, 13]), ([14, 14], [14]), ([7, 15, 0, 1, 2, 3, 4, 5, 6, 7], [7]), ([15, 16, 0, 1, 2, 3, 4, 5, 6, 7, 8, 9, 10, 11, 12, 13, 14, 15, 16], [15])])
def plane_Meeting.B3 : List Nat := [0, 1, 0, 4, 0, 16, 63, 127, 0, 256, 0, 1024, 0, 4096, 16383, 32767, 65535, 131071]
theorem plane_Meeting.tab3 : rtab .any (opsOf Try.f28 3) = plane_Meeting.T3 := by kernel_rfl
theorem plane_Meeting.bits3 : waitsOk plane_Meeting.T3.2 plane_Meeting.B3 = true := by kernel_rfl
def plane_Meeting.T4 : Bool × List (List Nat × List Nat) := (true, [([], []), ([0], [0]), ([], []), ([2], [2]), ([], []), ([4], [4]), ([1, 3, 5], [1, 3, 5]), ([6, 6], [6]), ([], []), ([8], [8]), ([], []), ([10], [10]), ([], []), ([12], [12]), ([9, 11, 13, 7], [9, 11, 13]), ([14, 14], [14]), ([7, 15, 0, 1, 2, 3, 4, 5, 6, 7], [7]), ([15, 16, 0, 1, 2, 3, 4, 5, 6, 7, 8, 9, 10, 11, 12, 13, 14, 15, 16], [15])])
def plane_Meeting.B4 : List Nat := [0, 1, 0, 4, 0, 16, 63, 127, 0, 256, 0, 1024, 0, 4096, 16383, 32767, 65535, 131071]
theorem plane_Meeting.tab4 : rtab .any (opsOf Try.f28 4) = plane_Meeting.T4 := by kernel_rfl
theorem plane_Meeting.bits4 : waitsOk plane_Meeting.T4.2 plane_Meeting.B4 = true := by kernel_rfl
set_option maxHeartbeats 8000000 in
set_option maxRecDepth 100000 in
theorem plane_Meeting.calls (k : Nat) (a0_0 : Int) (a0_1 : Int) (a0_2 : Int) (a0_3 : Int) (a1_0 : Int) (a1_1 : Int) (a1_2 : Int) (a1_3 : Int) (r : Int) (w : World) (h : plane_Meeting.f k a0_0 a0_1 a0_2 a0_3 a1_0 a1_1 a1_2 a1_3 = some r) :
    Calls Try.prog 28 #[.agg #[.int .i64 a0_0, .int .i64 a0_1, .int .i64 a0_2, .int .i64 a0_3], .agg #[.int .i64 a1_0, .int .i64 a1_1, .int .i64 a1_2, .int .i64 a1_3]] w fun e w' => e = .returned (.int .i64 r) ∧ Below w.heap.size w w' := by
  have hu34 := Try.underlying34
  have hu23 := Try.underlying23
  have HB := Aside0.mk (Below.refl w.heap.size w)
  have H : ((plane_proper.f a0_0 a0_1 a0_2 a0_3).bind fun t163 => (if t163 = true then ((plane_proper.f a1_0 a1_1 a1_2 a1_3).bind fun t164 => (plane_Meeting.j0 k (!t164) a0_0 a0_1 a0_2 a0_3 a1_0 a1_1 a1_2 a1_3)) else (plane_Meeting.j0 k true a0_0 a0_1 a0_2 a0_3 a1_0 a1_1 a1_2 a1_3))) = some r := h
  clear h
  have HC3 := Aside0.mk H
  clear H
  go_enter Try.func28, Try.ntmps28
  go_upto_region 1 with (first | ((with_reducible refine gate_dst (N := 2) rfl ?_); refine box_event ?hg (N := 2) ?hd (cs := #[.int .i64 a0_0, .int .i64 a0_1, .int .i64 a0_2, .int .i64 a0_3]) (t := 34) ?hr ?_; (case hd => rfl); (case hg => rfl); (case hr => first | (go_simp; done) | (go_simp; rfl)); intro gb161 hg w4 hbox hb; have n0_ := Aside0.mk (below_step (by repeat (first | (with_reducible first | exact HB.out | apply below_alloc | apply pw_below_drewN | apply below_drew1) | exact HB.out)) hb); have n1_ := Aside0.mk (hbox); have n2_ := Aside0.mk ((by rw [hg]; exact (below_size (by repeat (first | (with_reducible first | exact HB.out | apply below_alloc | apply pw_below_drewN | apply below_drew1) | exact HB.out))) : w.heap.size ≤ gb161)); have n3_ := Aside0.mk ((by rw [hg]; exact (below_size (by repeat (first | (with_reducible first | exact HB.out | apply below_alloc | apply pw_below_drewN | apply below_drew1) | exact HB.out))) : w.heap.size ≤ gb161)); clear HB; have HB := n0_; have BK161 := n1_; have GW161 := n2_; have GE161 := n3_; clear n0_ n1_ n2_ n3_; clear hb hbox hg) | ((with_reducible refine gate_dst (N := 3) rfl ?_); refine box_event ?hg (N := 3) ?hd (cs := #[.int .i64 a1_0, .int .i64 a1_1, .int .i64 a1_2, .int .i64 a1_3]) (t := 34) ?hr ?_; (case hd => rfl); (case hg => rfl); (case hr => first | (go_simp; done) | (go_simp; rfl)); intro gb162 hg w5 hbox hb; have n0_ := Aside0.mk (blk_below (g := gb161) (o := .cells #[.int .i64 a0_0, .int .i64 a0_1, .int .i64 a0_2, .int .i64 a0_3] 34 (0, 0)) (by (with_reducible repeat (first | refine blk_drewN ?_ _ | refine blk_drew ?_ | refine blk_alloc ?_ _)); exact BK161.out) hb); have n1_ := Aside0.mk (below_step (by repeat (first | (with_reducible first | exact HB.out | apply below_alloc | apply pw_below_drewN | apply below_drew1 | refine below_set ?_ GE161.out) | exact HB.out)) hb); have n2_ := Aside0.mk (hbox); have n3_ := Aside0.mk ((by rw [hg]; exact (below_size (by repeat (first | (with_reducible first | exact HB.out | apply below_alloc | apply pw_below_drewN | apply below_drew1 | refine below_set ?_ GE161.out) | exact HB.out))) : w.heap.size ≤ gb162)); have n4_ := Aside0.mk ((by rw [hg]; exact (below_size (by repeat (first | (with_reducible first | exact HB.out | apply below_alloc | apply pw_below_drewN | apply below_drew1 | refine below_set ?_ GE161.out) | exact HB.out))) : w.heap.size ≤ gb162)); have n5_ := Aside0.mk ((by rw [hg]; exact Nat.ne_of_lt (blk_lt (g := gb161) (o := .cells #[.int .i64 a0_0, .int .i64 a0_1, .int .i64 a0_2, .int .i64 a0_3] 34 (0, 0)) (by (with_reducible repeat (first | refine blk_drewN ?_ _ | refine blk_drew ?_ | refine blk_alloc ?_ _)); exact BK161.out)) : gb161 ≠ gb162)); have n6_ := Aside0.mk ((by rw [hg]; exact Nat.ne_of_gt (blk_lt (g := gb161) (o := .cells #[.int .i64 a0_0, .int .i64 a0_1, .int .i64 a0_2, .int .i64 a0_3] 34 (0, 0)) (by (with_reducible repeat (first | refine blk_drewN ?_ _ | refine blk_drew ?_ | refine blk_alloc ?_ _)); exact BK161.out)) : gb162 ≠ gb161)); clear BK161; clear HB; have BK161 := n0_; have HB := n1_; have BK162 := n2_; have GW162 := n3_; have GE162 := n4_; have NB161_162 := n5_; have NB162_161 := n6_; clear n0_ n1_ n2_ n3_ n4_ n5_ n6_; clear hb hbox hg))
  (try simp only [Act.put, List.setIfInBounds_toArray, List.set_cons_zero, List.set_cons_succ])
  go_cut [16] (fun v16 wc => ∃ (kq : Nat) (x16_2 : Bool), v16 = .bool x16_2 ∧ Aside0 (plane_Meeting.j0 kq x16_2 a0_0 a0_1 a0_2 a0_3 a1_0 a1_1 a1_2 a1_3 = some r) ∧ Aside0 (kq ≤ k) ∧ Aside0 (wc.heap[gb161]? = some (.cells #[.int .i64 a0_0, .int .i64 a0_1, .int .i64 a0_2, .int .i64 a0_3] 34 (0, 0))) ∧ Aside0 (wc.heap[gb162]? = some (.cells #[.int .i64 a1_0, .int .i64 a1_1, .int .i64 a1_2, .int .i64 a1_3] 34 (0, 0))) ∧ Aside0 (Below w.heap.size w wc))
  case first =>
    have H := HC3.out
    clear HC3
    replace H := Option.bind_eq_some_iff.mp H
    obtain ⟨t163, A60, H⟩ := H
    replace H : (if t163 = true then ((plane_proper.f a1_0 a1_1 a1_2 a1_3).bind fun t164 => (plane_Meeting.j0 k (!t164) a0_0 a0_1 a0_2 a0_3 a1_0 a1_1 a1_2 a1_3)) else (plane_Meeting.j0 k true a0_0 a0_1 a0_2 a0_3 a1_0 a1_1 a1_2 a1_3)) = some r := H
    have A6 := Aside0.mk A60
    clear A60
    by_cases c7 : t163 = true
    · subst c7
      have H1 : ((plane_proper.f a1_0 a1_1 a1_2 a1_3).bind fun t164 => (plane_Meeting.j0 k (!t164) a0_0 a0_1 a0_2 a0_3 a1_0 a1_1 a1_2 a1_3)) = some r := by rw [if_pos rfl] at H; exact H
      clear H
      have H := H1
      clear H1
      replace H := Option.bind_eq_some_iff.mp H
      obtain ⟨t164, A80, H⟩ := H
      replace H : (plane_Meeting.j0 k (!t164) a0_0 a0_1 a0_2 a0_3 a1_0 a1_1 a1_2 a1_3) = some r := H
      have A8 := Aside0.mk A80
      clear A80
      have H' := Aside0.mk H
      clear H
      have hnb9 := NB161_162.out
      have hnc9 := NB162_161.out
      have hcz10_0 : w5.cell? ⟨gb161, 0, none⟩ = some (.int .i64 a0_0) := (blk_cell BK161.out 0).trans rfl
      have hcz10_1 : w5.cell? ⟨gb161, 1, none⟩ = some (.int .i64 a0_1) := (blk_cell BK161.out 1).trans rfl
      have hcz10_2 : w5.cell? ⟨gb161, 2, none⟩ = some (.int .i64 a0_2) := (blk_cell BK161.out 2).trans rfl
      have hcz10_3 : w5.cell? ⟨gb161, 3, none⟩ = some (.int .i64 a0_3) := (blk_cell BK161.out 3).trans rfl
      have hfz10_0 := blk_frozen BK161.out 0
      have hfz10_1 := blk_frozen BK161.out 1
      have hfz10_2 := blk_frozen BK161.out 2
      have hfz10_3 := blk_frozen BK161.out 3
      go_wp2_with (first | ((with_reducible refine gate_callee (f := 87) rfl ?_); refine goesL_ (some 10) rfl rfl Try.func87 (by kernel_rfl) rfl #[.agg #[.int .i64 a0_0, .int .i64 a0_1, .int .i64 a0_2, .int .i64 a0_3]] rfl (by (try simp only [List.map_toArray, List.map_cons, List.map_nil]); first | done | rfl | (simp only [List.length_drop, List.length_take]; rfl)) ?_; (with_reducible refine (plane_proper.calls a0_0 a0_1 a0_2 a0_3 true _ A6.out).mono ?_); rintro e w11 ⟨rfl, hb⟩; refine ⟨_, rfl, ?_⟩; have n0_ := Aside0.mk (blk_below (g := gb161) (o := .cells #[.int .i64 a0_0, .int .i64 a0_1, .int .i64 a0_2, .int .i64 a0_3] 34 (0, 0)) (by (with_reducible repeat (first | refine blk_drewN ?_ _ | refine blk_drew ?_ | refine blk_alloc ?_ _)); exact BK161.out) hb); have n1_ := Aside0.mk (blk_below (g := gb162) (o := .cells #[.int .i64 a1_0, .int .i64 a1_1, .int .i64 a1_2, .int .i64 a1_3] 34 (0, 0)) (by (with_reducible repeat (first | refine blk_drewN ?_ _ | refine blk_drew ?_ | refine blk_alloc ?_ _)); exact BK162.out) hb); have n2_ := Aside0.mk (below_step (by repeat (first | (with_reducible first | exact HB.out | apply below_alloc | apply pw_below_drewN | apply below_drew1 | refine below_set ?_ GE161.out | refine below_set ?_ GE162.out) | exact HB.out)) hb); clear BK161; clear BK162; clear HB; have BK161 := n0_; have BK162 := n1_; have HB := n2_; clear n0_ n1_ n2_; (try clear hb); (try clear hb2); (try clear hk); (try clear hi); have hcz12_0 : w11.cell? ⟨gb162, 0, none⟩ = some (.int .i64 a1_0) := (blk_cell BK162.out 0).trans rfl; have hcz12_1 : w11.cell? ⟨gb162, 1, none⟩ = some (.int .i64 a1_1) := (blk_cell BK162.out 1).trans rfl; have hcz12_2 : w11.cell? ⟨gb162, 2, none⟩ = some (.int .i64 a1_2) := (blk_cell BK162.out 2).trans rfl; have hcz12_3 : w11.cell? ⟨gb162, 3, none⟩ = some (.int .i64 a1_3) := (blk_cell BK162.out 3).trans rfl; have hfz12_0 := blk_frozen BK162.out 0; have hfz12_1 := blk_frozen BK162.out 1; have hfz12_2 := blk_frozen BK162.out 2; have hfz12_3 := blk_frozen BK162.out 3) | (go_at_call 87; (with_reducible refine (plane_proper.calls a1_0 a1_1 a1_2 a1_3 t164 _ A8.out).mono ?_); rintro e w13 ⟨rfl, hb⟩; have n0_ := Aside0.mk (blk_below (g := gb161) (o := .cells #[.int .i64 a0_0, .int .i64 a0_1, .int .i64 a0_2, .int .i64 a0_3] 34 (0, 0)) (by (with_reducible repeat (first | refine blk_drewN ?_ _ | refine blk_drew ?_ | refine blk_alloc ?_ _)); exact BK161.out) hb); have n1_ := Aside0.mk (blk_below (g := gb162) (o := .cells #[.int .i64 a1_0, .int .i64 a1_1, .int .i64 a1_2, .int .i64 a1_3] 34 (0, 0)) (by (with_reducible repeat (first | refine blk_drewN ?_ _ | refine blk_drew ?_ | refine blk_alloc ?_ _)); exact BK162.out) hb); have n2_ := Aside0.mk (below_step (by repeat (first | (with_reducible first | exact HB.out | apply below_alloc | apply pw_below_drewN | apply below_drew1 | refine below_set ?_ GE161.out | refine below_set ?_ GE162.out) | exact HB.out)) hb); clear BK161; clear BK162; clear HB; have BK161 := n0_; have BK162 := n1_; have HB := n2_; clear n0_ n1_ n2_; (try clear hb); (try clear hb2); (try clear hk); (try clear hi)))
      go_meet
      case rel => exact ⟨_, (!t164), (by first | rfl | (simp; done) | (simp [*]; done)), H', ⟨by first | omega | exact Nat.le_refl _⟩, ⟨by (with_reducible repeat (first | refine blk_drewN ?_ _ | refine blk_drew ?_ | refine blk_alloc ?_ _)); exact BK161.out⟩, ⟨by (with_reducible repeat (first | refine blk_drewN ?_ _ | refine blk_drew ?_ | refine blk_alloc ?_ _)); exact BK162.out⟩, ⟨by repeat (first | (with_reducible first | exact HB.out | apply below_alloc | apply pw_below_drewN | apply below_drew1 | refine below_set ?_ GE161.out | refine below_set ?_ GE162.out) | exact HB.out)⟩⟩
    · replace c7 := Bool.eq_false_iff.mpr c7
      subst c7
      have H1 : (plane_Meeting.j0 k true a0_0 a0_1 a0_2 a0_3 a1_0 a1_1 a1_2 a1_3) = some r := by rw [if_neg (show ¬ (false = true) by decide)] at H; exact H
      clear H
      have H := H1
      clear H1
      have H' := Aside0.mk H
      clear H
      have hnb14 := NB161_162.out
      have hnc14 := NB162_161.out
      have hcz15_0 : w5.cell? ⟨gb161, 0, none⟩ = some (.int .i64 a0_0) := (blk_cell BK161.out 0).trans rfl
      have hcz15_1 : w5.cell? ⟨gb161, 1, none⟩ = some (.int .i64 a0_1) := (blk_cell BK161.out 1).trans rfl
      have hcz15_2 : w5.cell? ⟨gb161, 2, none⟩ = some (.int .i64 a0_2) := (blk_cell BK161.out 2).trans rfl
      have hcz15_3 : w5.cell? ⟨gb161, 3, none⟩ = some (.int .i64 a0_3) := (blk_cell BK161.out 3).trans rfl
      have hfz15_0 := blk_frozen BK161.out 0
      have hfz15_1 := blk_frozen BK161.out 1
      have hfz15_2 := blk_frozen BK161.out 2
      have hfz15_3 := blk_frozen BK161.out 3
      go_wp2_with (first | ((with_reducible refine gate_callee (f := 87) rfl ?_); refine goesL_ (some 10) rfl rfl Try.func87 (by kernel_rfl) rfl #[.agg #[.int .i64 a0_0, .int .i64 a0_1, .int .i64 a0_2, .int .i64 a0_3]] rfl (by (try simp only [List.map_toArray, List.map_cons, List.map_nil]); first | done | rfl | (simp only [List.length_drop, List.length_take]; rfl)) ?_; (with_reducible refine (plane_proper.calls a0_0 a0_1 a0_2 a0_3 false _ A6.out).mono ?_); rintro e w16 ⟨rfl, hb⟩; refine ⟨_, rfl, ?_⟩; have n0_ := Aside0.mk (blk_below (g := gb161) (o := .cells #[.int .i64 a0_0, .int .i64 a0_1, .int .i64 a0_2, .int .i64 a0_3] 34 (0, 0)) (by (with_reducible repeat (first | refine blk_drewN ?_ _ | refine blk_drew ?_ | refine blk_alloc ?_ _)); exact BK161.out) hb); have n1_ := Aside0.mk (blk_below (g := gb162) (o := .cells #[.int .i64 a1_0, .int .i64 a1_1, .int .i64 a1_2, .int .i64 a1_3] 34 (0, 0)) (by (with_reducible repeat (first | refine blk_drewN ?_ _ | refine blk_drew ?_ | refine blk_alloc ?_ _)); exact BK162.out) hb); have n2_ := Aside0.mk (below_step (by repeat (first | (with_reducible first | exact HB.out | apply below_alloc | apply pw_below_drewN | apply below_drew1 | refine below_set ?_ GE161.out | refine below_set ?_ GE162.out) | exact HB.out)) hb); clear BK161; clear BK162; clear HB; have BK161 := n0_; have BK162 := n1_; have HB := n2_; clear n0_ n1_ n2_; (try clear hb); (try clear hb2); (try clear hk); (try clear hi)))
      go_meet
      case rel => exact ⟨_, (true), (by first | rfl | (simp; done) | (simp [*]; done)), H', ⟨by first | omega | exact Nat.le_refl _⟩, ⟨by (with_reducible repeat (first | refine blk_drewN ?_ _ | refine blk_drew ?_ | refine blk_alloc ?_ _)); exact BK161.out⟩, ⟨by (with_reducible repeat (first | refine blk_drewN ?_ _ | refine blk_drew ?_ | refine blk_alloc ?_ _)); exact BK162.out⟩, ⟨by repeat (first | (with_reducible first | exact HB.out | apply below_alloc | apply pw_below_drewN | apply below_drew1 | refine below_set ?_ GE161.out | refine below_set ?_ GE162.out) | exact HB.out)⟩⟩
  case rest =>
    clear HC3
    try clear c1
    try clear c2
    try clear p2
    try clear c7
    try clear c8
    try clear c9
    try clear c14
    try clear hcz10_0
    try clear hcz10_1
    try clear hcz10_2
    try clear hcz10_3
    try clear hcz12_0
    try clear hcz12_1
    try clear hcz12_2
    try clear hcz12_3
    try clear hcz15_0
    try clear hcz15_1
    try clear hcz15_2
    try clear hcz15_3
    try clear hfz10_0
    try clear hfz10_1
    try clear hfz10_2
    try clear hfz10_3
    try clear hfz12_0
    try clear hfz12_1
    try clear hfz12_2
    try clear hfz12_3
    try clear hfz15_0
    try clear hfz15_1
    try clear hfz15_2
    try clear hfz15_3
    obtain ⟨kq, x16_2, rfl, HA, HJ2, BK161, BK162, HB⟩ := hcut
    cases kq with
    | zero => exact absurd HA.out (by simp [plane_Meeting.j0])
    | succ kj2 =>
      have H := HA.out
      clear HA
      simp only [plane_Meeting.j0] at H
      by_cases c17 : x16_2 = true
      · subst c17
        have H1 : (some 0) = some r := by rw [if_pos rfl] at H; exact H
        clear H
        have H := H1
        clear H1
        obtain rfl := Option.some.inj H
        go_wp2
        go_ret
        exact ⟨by first | rfl | (simp [errW_none, errW_some] <;> rfl) | (simp [*, errW_none, errW_some] <;> rfl), by repeat (first | (with_reducible first | exact HB.out | apply below_alloc | apply pw_below_drewN | apply below_drew1 | refine below_set ?_ GE161.out | refine below_set ?_ GE162.out) | exact HB.out)⟩
      · replace c17 := Bool.eq_false_iff.mpr c17
        subst c17
        have H1 : ((plane_twice.f a0_0 a0_1 a0_2 a0_3 a1_0 a1_1).bind fun t165 => ((plane_sign.f t165).bind fun t166 => ((plane_twice.f a0_0 a0_1 a0_2 a0_3 a1_2 a1_3).bind fun t167 => ((plane_sign.f t167).bind fun t168 => ((plane_twice.f a1_0 a1_1 a1_2 a1_3 a0_0 a0_1).bind fun t169 => ((plane_sign.f t169).bind fun t170 => ((plane_twice.f a1_0 a1_1 a1_2 a1_3 a0_2 a0_3).bind fun t171 => ((plane_sign.f t171).bind fun t172 => (if t166 = 0 then (plane_Meeting.j1 kj2 t166 t168 t170 t172 (t168 == 0) a0_0 a0_1 a0_2 a0_3 a1_0 a1_1 a1_2 a1_3) else (plane_Meeting.j1 kj2 t166 t168 t170 t172 false a0_0 a0_1 a0_2 a0_3 a1_0 a1_1 a1_2 a1_3)))))))))) = some r := by rw [if_neg (show ¬ (false = true) by decide)] at H; exact H
        clear H
        have H := H1
        clear H1
        replace H := Option.bind_eq_some_iff.mp H
        obtain ⟨t165, A180, H⟩ := H
        try dsimp only at H
        have A18 := Aside0.mk A180
        clear A180
        replace H := Option.bind_eq_some_iff.mp H
        obtain ⟨t166, A190, H⟩ := H
        try dsimp only at H
        have A19 := Aside0.mk A190
        clear A190
        replace H := Option.bind_eq_some_iff.mp H
        obtain ⟨t167, A200, H⟩ := H
        try dsimp only at H
        have A20 := Aside0.mk A200
        clear A200
        replace H := Option.bind_eq_some_iff.mp H
        obtain ⟨t168, A210, H⟩ := H
        try dsimp only at H
        have A21 := Aside0.mk A210
        clear A210
        replace H := Option.bind_eq_some_iff.mp H
        obtain ⟨t169, A220, H⟩ := H
        replace H : ((plane_sign.f t169).bind fun t170 => ((plane_twice.f a1_0 a1_1 a1_2 a1_3 a0_2 a0_3).bind fun t171 => ((plane_sign.f t171).bind fun t172 => (if t166 = 0 then (plane_Meeting.j1 kj2 t166 t168 t170 t172 (t168 == 0) a0_0 a0_1 a0_2 a0_3 a1_0 a1_1 a1_2 a1_3) else (plane_Meeting.j1 kj2 t166 t168 t170 t172 false a0_0 a0_1 a0_2 a0_3 a1_0 a1_1 a1_2 a1_3))))) = some r := H
        have A22 := Aside0.mk A220
        clear A220
        replace H := Option.bind_eq_some_iff.mp H
        obtain ⟨t170, A230, H⟩ := H
        replace H : ((plane_twice.f a1_0 a1_1 a1_2 a1_3 a0_2 a0_3).bind fun t171 => ((plane_sign.f t171).bind fun t172 => (if t166 = 0 then (plane_Meeting.j1 kj2 t166 t168 t170 t172 (t168 == 0) a0_0 a0_1 a0_2 a0_3 a1_0 a1_1 a1_2 a1_3) else (plane_Meeting.j1 kj2 t166 t168 t170 t172 false a0_0 a0_1 a0_2 a0_3 a1_0 a1_1 a1_2 a1_3)))) = some r := H
        have A23 := Aside0.mk A230
        clear A230
        replace H := Option.bind_eq_some_iff.mp H
        obtain ⟨t171, A240, H⟩ := H
        replace H : ((plane_sign.f t171).bind fun t172 => (if t166 = 0 then (plane_Meeting.j1 kj2 t166 t168 t170 t172 (t168 == 0) a0_0 a0_1 a0_2 a0_3 a1_0 a1_1 a1_2 a1_3) else (plane_Meeting.j1 kj2 t166 t168 t170 t172 false a0_0 a0_1 a0_2 a0_3 a1_0 a1_1 a1_2 a1_3))) = some r := H
        have A24 := Aside0.mk A240
        clear A240
        replace H := Option.bind_eq_some_iff.mp H
        obtain ⟨t172, A250, H⟩ := H
        replace H : (if t166 = 0 then (plane_Meeting.j1 kj2 t166 t168 t170 t172 (t168 == 0) a0_0 a0_1 a0_2 a0_3 a1_0 a1_1 a1_2 a1_3) else (plane_Meeting.j1 kj2 t166 t168 t170 t172 false a0_0 a0_1 a0_2 a0_3 a1_0 a1_1 a1_2 a1_3)) = some r := H
        have A25 := Aside0.mk A250
        clear A250
        have HC26 := Aside0.mk H
        clear H
        try go_wp2
        have n0_ := Aside0.mk (blk_drew BK161.out)
        have n1_ := Aside0.mk (blk_drew BK162.out)
        have n2_ := Aside0.mk (below_drew1 HB.out)
        clear BK161
        clear BK162
        clear HB
        have BK161 := n0_
        have BK162 := n1_
        have HB := n2_
        clear n0_ n1_ n2_
        refine start_ (n := 18) (S := fun w' => w'.cell? ⟨gb161, 0, none⟩ = some (.int .i64 a0_0) ∧ w'.cell? ⟨gb161, 1, none⟩ = some (.int .i64 a0_1) ∧ w'.cell? ⟨gb161, 2, none⟩ = some (.int .i64 a0_2) ∧ w'.cell? ⟨gb161, 3, none⟩ = some (.int .i64 a0_3) ∧ w'.cell? ⟨gb162, 0, none⟩ = some (.int .i64 a1_0) ∧ w'.cell? ⟨gb162, 1, none⟩ = some (.int .i64 a1_1) ∧ w'.cell? ⟨gb162, 2, none⟩ = some (.int .i64 a1_2) ∧ w'.cell? ⟨gb162, 3, none⟩ = some (.int .i64 a1_3)) (ds := []) #[false, false, false, false, false, false, false, false, false, false, false, false, false, false, false, false, false, false] (by kernel_rfl) rfl rfl ⟨(blk_cell BK161.out 0).trans rfl, (blk_cell BK161.out 1).trans rfl, (blk_cell BK161.out 2).trans rfl, (blk_cell BK161.out 3).trans rfl, (blk_cell BK162.out 0).trans rfl, (blk_cell BK162.out 1).trans rfl, (blk_cell BK162.out 2).trans rfl, (blk_cell BK162.out 3).trans rfl⟩ (fun hHeld => ?_); refine with_tabW plane_Meeting.tab3 plane_Meeting.bits3 (fun HT_ HW_ => ?_)
        generalize wc.drew = w27 at BK161 BK162 HB hHeld ⊢
        refine pure_ (i := 0) (N := some 17) (v := ?_) (a' := ?_) #[true, false, false, false, false, false, false, false, false, false, false, false, false, false, false, false, false, false] rfl rfl (any_of HT_.out (by kernel_rfl)) (fun _ _ _ h => h) (Or.inl ⟨by rfl, ?_⟩) ?_ ?_
        rotate_left
        · intro w'
          go_simp
          with_reducible rfl
        rotate_left
        · simp only [Act.put, List.setIfInBounds_toArray, List.set_cons_zero, List.set_cons_succ, i64_w, i32_w]
          rfl
        refine pure_ (i := 2) (N := some 19) (v := ?_) (a' := ?_) #[true, false, true, false, false, false, false, false, false, false, false, false, false, false, false, false, false, false] rfl rfl (any_of HT_.out (by kernel_rfl)) (fun _ _ _ h => h) (Or.inl ⟨by rfl, ?_⟩) ?_ ?_
        rotate_left
        · intro w'
          go_simp
          with_reducible rfl
        rotate_left
        · simp only [Act.put, List.setIfInBounds_toArray, List.set_cons_zero, List.set_cons_succ, i64_w, i32_w]
          rfl
        refine pure_ (i := 4) (N := some 21) (v := ?_) (a' := ?_) #[true, false, true, false, true, false, false, false, false, false, false, false, false, false, false, false, false, false] rfl rfl (any_of HT_.out (by kernel_rfl)) (fun _ _ _ h => h) (Or.inl ⟨by rfl, ?_⟩) ?_ ?_
        rotate_left
        · intro w'
          go_simp
          with_reducible rfl
        rotate_left
        · simp only [Act.put, List.setIfInBounds_toArray, List.set_cons_zero, List.set_cons_succ, i64_w, i32_w]
          rfl
        refine pure_ (i := 8) (N := some 25) (v := ?_) (a' := ?_) #[true, false, true, false, true, false, false, false, true, false, false, false, false, false, false, false, false, false] rfl rfl (any_of HT_.out (by kernel_rfl)) (fun _ _ _ h => h) (Or.inl ⟨by rfl, ?_⟩) ?_ ?_
        rotate_left
        · intro w'
          go_simp
          with_reducible rfl
        rotate_left
        · simp only [Act.put, List.setIfInBounds_toArray, List.set_cons_zero, List.set_cons_succ, i64_w, i32_w]
          rfl
        refine pure_ (i := 10) (N := some 27) (v := ?_) (a' := ?_) #[true, false, true, false, true, false, false, false, true, false, true, false, false, false, false, false, false, false] rfl rfl (any_of HT_.out (by kernel_rfl)) (fun _ _ _ h => h) (Or.inl ⟨by rfl, ?_⟩) ?_ ?_
        rotate_left
        · intro w'
          go_simp
          with_reducible rfl
        rotate_left
        · simp only [Act.put, List.setIfInBounds_toArray, List.set_cons_zero, List.set_cons_succ, i64_w, i32_w]
          rfl
        refine pure_ (i := 12) (N := some 29) (v := ?_) (a' := ?_) #[true, false, true, false, true, false, false, false, true, false, true, false, true, false, false, false, false, false] rfl rfl (any_of HT_.out (by kernel_rfl)) (fun _ _ _ h => h) (Or.inl ⟨by rfl, ?_⟩) ?_ ?_
        rotate_left
        · intro w'
          go_simp
          with_reducible rfl
        rotate_left
        · simp only [Act.put, List.setIfInBounds_toArray, List.set_cons_zero, List.set_cons_succ, i64_w, i32_w]
          rfl
        refine take_ (i := 1) (N := some 18) (v := ?_) (a' := ?_) #[true, true, true, false, true, false, false, false, true, false, true, false, true, false, false, false, false, false] rfl rfl (take_ofW HT_.out HW_.out (by kernel_rfl)) (fun _ _ _ h => h) (Or.inl ⟨by rfl, ?_⟩) hHeld ?_ ?_
        rotate_left
        · rintro w' ⟨s0, s1, s2, s3, s4, s5, s6, s7⟩
          go_simp
          with_reducible rfl
        rotate_left
        · simp only [Act.put, List.setIfInBounds_toArray, List.set_cons_zero, List.set_cons_succ, i64_w, i32_w]
          rfl
        refine take_ (i := 3) (N := some 20) (v := ?_) (a' := ?_) #[true, true, true, true, true, false, false, false, true, false, true, false, true, false, false, false, false, false] rfl rfl (take_ofW HT_.out HW_.out (by kernel_rfl)) (fun _ _ _ h => h) (Or.inl ⟨by rfl, ?_⟩) hHeld ?_ ?_
        rotate_left
        · rintro w' ⟨s0, s1, s2, s3, s4, s5, s6, s7⟩
          go_simp
          with_reducible rfl
        rotate_left
        · simp only [Act.put, List.setIfInBounds_toArray, List.set_cons_zero, List.set_cons_succ, i64_w, i32_w]
          rfl
        refine take_ (i := 5) (N := some 22) (v := ?_) (a' := ?_) #[true, true, true, true, true, true, false, false, true, false, true, false, true, false, false, false, false, false] rfl rfl (take_ofW HT_.out HW_.out (by kernel_rfl)) (fun _ _ _ h => h) (Or.inl ⟨by rfl, ?_⟩) hHeld ?_ ?_
        rotate_left
        · rintro w' ⟨s0, s1, s2, s3, s4, s5, s6, s7⟩
          go_simp
          with_reducible rfl
        rotate_left
        · simp only [Act.put, List.setIfInBounds_toArray, List.set_cons_zero, List.set_cons_succ, i64_w, i32_w]
          rfl
        refine take_ (i := 9) (N := some 26) (v := ?_) (a' := ?_) #[true, true, true, true, true, true, false, false, true, true, true, false, true, false, false, false, false, false] rfl rfl (take_ofW HT_.out HW_.out (by kernel_rfl)) (fun _ _ _ h => h) (Or.inl ⟨by rfl, ?_⟩) hHeld ?_ ?_
        rotate_left
        · rintro w' ⟨s0, s1, s2, s3, s4, s5, s6, s7⟩
          go_simp
          with_reducible rfl
        rotate_left
        · simp only [Act.put, List.setIfInBounds_toArray, List.set_cons_zero, List.set_cons_succ, i64_w, i32_w]
          rfl
        refine take_ (i := 11) (N := some 28) (v := ?_) (a' := ?_) #[true, true, true, true, true, true, false, false, true, true, true, true, true, false, false, false, false, false] rfl rfl (take_ofW HT_.out HW_.out (by kernel_rfl)) (fun _ _ _ h => h) (Or.inl ⟨by rfl, ?_⟩) hHeld ?_ ?_
        rotate_left
        · rintro w' ⟨s0, s1, s2, s3, s4, s5, s6, s7⟩
          go_simp
          with_reducible rfl
        rotate_left
        · simp only [Act.put, List.setIfInBounds_toArray, List.set_cons_zero, List.set_cons_succ, i64_w, i32_w]
          rfl
        refine take_ (i := 13) (N := some 30) (v := ?_) (a' := ?_) #[true, true, true, true, true, true, false, false, true, true, true, true, true, true, false, false, false, false] rfl rfl (take_ofW HT_.out HW_.out (by kernel_rfl)) (fun _ _ _ h => h) (Or.inl ⟨by rfl, ?_⟩) hHeld ?_ ?_
        rotate_left
        · rintro w' ⟨s0, s1, s2, s3, s4, s5, s6, s7⟩
          go_simp
          with_reducible rfl
        rotate_left
        · simp only [Act.put, List.setIfInBounds_toArray, List.set_cons_zero, List.set_cons_succ, i64_w, i32_w]
          rfl
        refine one_ (i := 6) (N := some 23) #[true, true, true, true, true, true, true, false, true, true, true, true, true, true, false, false, false, false] rfl rfl (one_of HT_.out (by kernel_rfl)) (by decide) (fun K hK => ?_)
        refine goes_ Try.func80 (by kernel_rfl) rfl #[.agg #[.int .i64 a0_0, .int .i64 a0_1], .agg #[.int .i64 a0_2, .int .i64 a0_3], .agg #[.int .i64 a1_0, .int .i64 a1_1]] (by rfl) rfl rfl (by (try simp only [List.map_toArray, List.map_cons, List.map_nil]); first | done | rfl | (simp only [List.length_drop, List.length_take]; rfl)) ?_
        with_reducible refine (plane_twice.calls a0_0 a0_1 a0_2 a0_3 a1_0 a1_1 t165 _ A18.out).mono ?_
        rintro e w28 ⟨rfl, hb⟩
        refine ⟨_, rfl, ?_⟩
        have n0_ := Aside0.mk (blk_below (g := gb161) (o := .cells #[.int .i64 a0_0, .int .i64 a0_1, .int .i64 a0_2, .int .i64 a0_3] 34 (0, 0)) (by (with_reducible repeat (first | refine blk_drewN ?_ _ | refine blk_drew ?_ | refine blk_alloc ?_ _)); exact BK161.out) hb)
        have n1_ := Aside0.mk (blk_below (g := gb162) (o := .cells #[.int .i64 a1_0, .int .i64 a1_1, .int .i64 a1_2, .int .i64 a1_3] 34 (0, 0)) (by (with_reducible repeat (first | refine blk_drewN ?_ _ | refine blk_drew ?_ | refine blk_alloc ?_ _)); exact BK162.out) hb)
        have n2_ := Aside0.mk (below_step (by repeat (first | (with_reducible first | exact HB.out | apply below_alloc | apply pw_below_drewN | apply below_drew1 | refine below_set ?_ GE161.out | refine below_set ?_ GE162.out) | exact HB.out)) hb)
        clear BK161
        clear BK162
        clear HB
        have BK161 := n0_
        have BK162 := n1_
        have HB := n2_
        clear n0_ n1_ n2_
        (try clear hb)
        (try clear hb2)
        (try clear hk)
        (try clear hi)
        refine hK.out _ _ ⟨(blk_cell BK161.out 0).trans rfl, (blk_cell BK161.out 1).trans rfl, (blk_cell BK161.out 2).trans rfl, (blk_cell BK161.out 3).trans rfl, (blk_cell BK162.out 0).trans rfl, (blk_cell BK162.out 1).trans rfl, (blk_cell BK162.out 2).trans rfl, (blk_cell BK162.out 3).trans rfl⟩ (fun hHeld => ?_)
        clear hK K
        refine norm_ (a' := ?_) ?_ ?_
        rotate_left
        · show Act.put _ (some 23) _ = _
          simp only [Act.put, List.setIfInBounds_toArray, List.set_cons_zero, List.set_cons_succ, i64_w, i32_w]
          rfl
        refine one_ (i := 7) (N := some 24) #[true, true, true, true, true, true, true, true, true, true, true, true, true, true, false, false, false, false] rfl rfl (one_of HT_.out (by kernel_rfl)) (by decide) (fun K hK => ?_)
        refine goes_ Try.func79 (by kernel_rfl) rfl #[.int .i64 t165] (by rfl) rfl rfl (by (try simp only [List.map_toArray, List.map_cons, List.map_nil]); first | done | rfl | (simp only [List.length_drop, List.length_take]; rfl)) ?_
        with_reducible refine (plane_sign.calls t165 t166 _ A19.out).mono ?_
        rintro e w' ⟨rfl, ⟨nd, rfl⟩⟩
        refine ⟨_, rfl, ?_⟩
        refine hK.out _ _ ⟨(blk_cell BK161.out 0).trans rfl, (blk_cell BK161.out 1).trans rfl, (blk_cell BK161.out 2).trans rfl, (blk_cell BK161.out 3).trans rfl, (blk_cell BK162.out 0).trans rfl, (blk_cell BK162.out 1).trans rfl, (blk_cell BK162.out 2).trans rfl, (blk_cell BK162.out 3).trans rfl⟩ (fun hHeld => ?_)
        clear hK K
        refine norm_ (a' := ?_) ?_ ?_
        rotate_left
        · show Act.put _ (some 24) _ = _
          simp only [Act.put, List.setIfInBounds_toArray, List.set_cons_zero, List.set_cons_succ, i64_w, i32_w]
          rfl
        refine one_ (i := 14) (N := some 31) #[true, true, true, true, true, true, true, true, true, true, true, true, true, true, true, false, false, false] rfl rfl (one_of HT_.out (by kernel_rfl)) (by decide) (fun K hK => ?_)
        refine goes_ Try.func80 (by kernel_rfl) rfl #[.agg #[.int .i64 a0_0, .int .i64 a0_1], .agg #[.int .i64 a0_2, .int .i64 a0_3], .agg #[.int .i64 a1_2, .int .i64 a1_3]] (by rfl) rfl rfl (by (try simp only [List.map_toArray, List.map_cons, List.map_nil]); first | done | rfl | (simp only [List.length_drop, List.length_take]; rfl)) ?_
        with_reducible refine (plane_twice.calls a0_0 a0_1 a0_2 a0_3 a1_2 a1_3 t167 _ A20.out).mono ?_
        rintro e w29 ⟨rfl, hb⟩
        refine ⟨_, rfl, ?_⟩
        have n0_ := Aside0.mk (blk_below (g := gb161) (o := .cells #[.int .i64 a0_0, .int .i64 a0_1, .int .i64 a0_2, .int .i64 a0_3] 34 (0, 0)) (by (with_reducible repeat (first | refine blk_drewN ?_ _ | refine blk_drew ?_ | refine blk_alloc ?_ _)); exact BK161.out) hb)
        have n1_ := Aside0.mk (blk_below (g := gb162) (o := .cells #[.int .i64 a1_0, .int .i64 a1_1, .int .i64 a1_2, .int .i64 a1_3] 34 (0, 0)) (by (with_reducible repeat (first | refine blk_drewN ?_ _ | refine blk_drew ?_ | refine blk_alloc ?_ _)); exact BK162.out) hb)
        have n2_ := Aside0.mk (below_step (by repeat (first | (with_reducible first | exact HB.out | apply below_alloc | apply pw_below_drewN | apply below_drew1 | refine below_set ?_ GE161.out | refine below_set ?_ GE162.out) | exact HB.out)) hb)
        clear BK161
        clear BK162
        clear HB
        have BK161 := n0_
        have BK162 := n1_
        have HB := n2_
        clear n0_ n1_ n2_
        (try clear hb)
        (try clear hb2)
        (try clear hk)
        (try clear hi)
        refine hK.out _ _ ⟨(blk_cell BK161.out 0).trans rfl, (blk_cell BK161.out 1).trans rfl, (blk_cell BK161.out 2).trans rfl, (blk_cell BK161.out 3).trans rfl, (blk_cell BK162.out 0).trans rfl, (blk_cell BK162.out 1).trans rfl, (blk_cell BK162.out 2).trans rfl, (blk_cell BK162.out 3).trans rfl⟩ (fun hHeld => ?_)
        clear hK K
        refine norm_ (a' := ?_) ?_ ?_
        rotate_left
        · show Act.put _ (some 31) _ = _
          simp only [Act.put, List.setIfInBounds_toArray, List.set_cons_zero, List.set_cons_succ, i64_w, i32_w]
          rfl
        refine one_ (i := 15) (N := some 32) #[true, true, true, true, true, true, true, true, true, true, true, true, true, true, true, true, false, false] rfl rfl (one_of HT_.out (by kernel_rfl)) (by decide) (fun K hK => ?_)
        refine goes_ Try.func79 (by kernel_rfl) rfl #[.int .i64 t167] (by rfl) rfl rfl (by (try simp only [List.map_toArray, List.map_cons, List.map_nil]); first | done | rfl | (simp only [List.length_drop, List.length_take]; rfl)) ?_
        with_reducible refine (plane_sign.calls t167 t168 _ A21.out).mono ?_
        rintro e w' ⟨rfl, ⟨nd, rfl⟩⟩
        refine ⟨_, rfl, ?_⟩
        refine hK.out _ _ ⟨(blk_cell BK161.out 0).trans rfl, (blk_cell BK161.out 1).trans rfl, (blk_cell BK161.out 2).trans rfl, (blk_cell BK161.out 3).trans rfl, (blk_cell BK162.out 0).trans rfl, (blk_cell BK162.out 1).trans rfl, (blk_cell BK162.out 2).trans rfl, (blk_cell BK162.out 3).trans rfl⟩ (fun hHeld => ?_)
        clear hK K
        refine norm_ (a' := ?_) ?_ ?_
        rotate_left
        · show Act.put _ (some 32) _ = _
          simp only [Act.put, List.setIfInBounds_toArray, List.set_cons_zero, List.set_cons_succ, i64_w, i32_w]
          rfl
        refine pure_ (i := 16) (N := some 5) (v := ?_) (a' := ?_) #[true, true, true, true, true, true, true, true, true, true, true, true, true, true, true, true, true, false] rfl rfl (any_of HT_.out (by kernel_rfl)) (fun _ _ _ h => h) (Or.inl ⟨by rfl, ?_⟩) ?_ ?_
        rotate_left
        · intro w'
          go_simp
          with_reducible rfl
        rotate_left
        · simp only [Act.put, List.setIfInBounds_toArray, List.set_cons_zero, List.set_cons_succ, i64_w, i32_w]
          rfl
        refine pure_ (i := 17) (N := some 6) (v := ?_) (a' := ?_) #[true, true, true, true, true, true, true, true, true, true, true, true, true, true, true, true, true, true] rfl rfl (any_of HT_.out (by kernel_rfl)) (fun _ _ _ h => h) (Or.inl ⟨by rfl, ?_⟩) ?_ ?_
        rotate_left
        · intro w'
          go_simp
          with_reducible rfl
        rotate_left
        · simp only [Act.put, List.setIfInBounds_toArray, List.set_cons_zero, List.set_cons_succ, i64_w, i32_w]
          rfl
        refine done_ (done_of HT_.out (by kernel_rfl)) ?_
        try go_wp2
        (try (rw [drewN_self w29]; generalize hq_ : World.drewN w29 _ = w29; have n0_ : Aside0 (w29.heap[gb161]? = some (.cells #[.int .i64 a0_0, .int .i64 a0_1, .int .i64 a0_2, .int .i64 a0_3] 34 (0, 0))) := ⟨by rw [← hq_]; exact (by (with_reducible repeat (first | refine blk_drewN ?_ _ | refine blk_drew ?_ | refine blk_alloc ?_ _)); exact BK161.out)⟩; have n1_ : Aside0 (w29.heap[gb162]? = some (.cells #[.int .i64 a1_0, .int .i64 a1_1, .int .i64 a1_2, .int .i64 a1_3] 34 (0, 0))) := ⟨by rw [← hq_]; exact (by (with_reducible repeat (first | refine blk_drewN ?_ _ | refine blk_drew ?_ | refine blk_alloc ?_ _)); exact BK162.out)⟩; have n2_ : Aside0 (Below w.heap.size w w29) := ⟨by rw [← hq_]; exact (by repeat (first | (with_reducible first | exact HB.out | apply below_alloc | apply pw_below_drewN | apply below_drew1 | refine below_set ?_ GE161.out | refine below_set ?_ GE162.out) | exact HB.out))⟩; clear BK161 BK162 HB hq_; have BK161 := n0_; have BK162 := n1_; have HB := n2_; clear n0_ n1_ n2_))
        have n0_ := Aside0.mk (blk_drew BK161.out)
        have n1_ := Aside0.mk (blk_drew BK162.out)
        have n2_ := Aside0.mk (below_drew1 HB.out)
        clear BK161
        clear BK162
        clear HB
        have BK161 := n0_
        have BK162 := n1_
        have HB := n2_
        clear n0_ n1_ n2_
        refine start_ (n := 18) (S := fun w' => w'.cell? ⟨gb162, 0, none⟩ = some (.int .i64 a1_0) ∧ w'.cell? ⟨gb162, 1, none⟩ = some (.int .i64 a1_1) ∧ w'.cell? ⟨gb162, 2, none⟩ = some (.int .i64 a1_2) ∧ w'.cell? ⟨gb162, 3, none⟩ = some (.int .i64 a1_3) ∧ w'.cell? ⟨gb161, 0, none⟩ = some (.int .i64 a0_0) ∧ w'.cell? ⟨gb161, 1, none⟩ = some (.int .i64 a0_1) ∧ w'.cell? ⟨gb161, 2, none⟩ = some (.int .i64 a0_2) ∧ w'.cell? ⟨gb161, 3, none⟩ = some (.int .i64 a0_3)) (ds := []) #[false, false, false, false, false, false, false, false, false, false, false, false, false, false, false, false, false, false] (by kernel_rfl) rfl rfl ⟨(blk_cell BK162.out 0).trans rfl, (blk_cell BK162.out 1).trans rfl, (blk_cell BK162.out 2).trans rfl, (blk_cell BK162.out 3).trans rfl, (blk_cell BK161.out 0).trans rfl, (blk_cell BK161.out 1).trans rfl, (blk_cell BK161.out 2).trans rfl, (blk_cell BK161.out 3).trans rfl⟩ (fun hHeld => ?_); refine with_tabW plane_Meeting.tab4 plane_Meeting.bits4 (fun HT_ HW_ => ?_)
        generalize w29.drew = w30 at BK161 BK162 HB hHeld ⊢
        refine pure_ (i := 0) (N := some 33) (v := ?_) (a' := ?_) #[true, false, false, false, false, false, false, false, false, false, false, false, false, false, false, false, false, false] rfl rfl (any_of HT_.out (by kernel_rfl)) (fun _ _ _ h => h) (Or.inl ⟨by rfl, ?_⟩) ?_ ?_
        rotate_left
        · intro w'
          go_simp
          with_reducible rfl
        rotate_left
        · simp only [Act.put, List.setIfInBounds_toArray, List.set_cons_zero, List.set_cons_succ, i64_w, i32_w]
          rfl
        refine pure_ (i := 2) (N := some 35) (v := ?_) (a' := ?_) #[true, false, true, false, false, false, false, false, false, false, false, false, false, false, false, false, false, false] rfl rfl (any_of HT_.out (by kernel_rfl)) (fun _ _ _ h => h) (Or.inl ⟨by rfl, ?_⟩) ?_ ?_
        rotate_left
        · intro w'
          go_simp
          with_reducible rfl
        rotate_left
        · simp only [Act.put, List.setIfInBounds_toArray, List.set_cons_zero, List.set_cons_succ, i64_w, i32_w]
          rfl
        refine pure_ (i := 4) (N := some 37) (v := ?_) (a' := ?_) #[true, false, true, false, true, false, false, false, false, false, false, false, false, false, false, false, false, false] rfl rfl (any_of HT_.out (by kernel_rfl)) (fun _ _ _ h => h) (Or.inl ⟨by rfl, ?_⟩) ?_ ?_
        rotate_left
        · intro w'
          go_simp
          with_reducible rfl
        rotate_left
        · simp only [Act.put, List.setIfInBounds_toArray, List.set_cons_zero, List.set_cons_succ, i64_w, i32_w]
          rfl
        refine pure_ (i := 8) (N := some 41) (v := ?_) (a' := ?_) #[true, false, true, false, true, false, false, false, true, false, false, false, false, false, false, false, false, false] rfl rfl (any_of HT_.out (by kernel_rfl)) (fun _ _ _ h => h) (Or.inl ⟨by rfl, ?_⟩) ?_ ?_
        rotate_left
        · intro w'
          go_simp
          with_reducible rfl
        rotate_left
        · simp only [Act.put, List.setIfInBounds_toArray, List.set_cons_zero, List.set_cons_succ, i64_w, i32_w]
          rfl
        refine pure_ (i := 10) (N := some 43) (v := ?_) (a' := ?_) #[true, false, true, false, true, false, false, false, true, false, true, false, false, false, false, false, false, false] rfl rfl (any_of HT_.out (by kernel_rfl)) (fun _ _ _ h => h) (Or.inl ⟨by rfl, ?_⟩) ?_ ?_
        rotate_left
        · intro w'
          go_simp
          with_reducible rfl
        rotate_left
        · simp only [Act.put, List.setIfInBounds_toArray, List.set_cons_zero, List.set_cons_succ, i64_w, i32_w]
          rfl
        refine pure_ (i := 12) (N := some 45) (v := ?_) (a' := ?_) #[true, false, true, false, true, false, false, false, true, false, true, false, true, false, false, false, false, false] rfl rfl (any_of HT_.out (by kernel_rfl)) (fun _ _ _ h => h) (Or.inl ⟨by rfl, ?_⟩) ?_ ?_
        rotate_left
        · intro w'
          go_simp
          with_reducible rfl
        rotate_left
        · simp only [Act.put, List.setIfInBounds_toArray, List.set_cons_zero, List.set_cons_succ, i64_w, i32_w]
          rfl
        refine take_ (i := 1) (N := some 34) (v := ?_) (a' := ?_) #[true, true, true, false, true, false, false, false, true, false, true, false, true, false, false, false, false, false] rfl rfl (take_ofW HT_.out HW_.out (by kernel_rfl)) (fun _ _ _ h => h) (Or.inl ⟨by rfl, ?_⟩) hHeld ?_ ?_
        rotate_left
        · rintro w' ⟨s0, s1, s2, s3, s4, s5, s6, s7⟩
          go_simp
          with_reducible rfl
        rotate_left
        · simp only [Act.put, List.setIfInBounds_toArray, List.set_cons_zero, List.set_cons_succ, i64_w, i32_w]
          rfl
        refine take_ (i := 3) (N := some 36) (v := ?_) (a' := ?_) #[true, true, true, true, true, false, false, false, true, false, true, false, true, false, false, false, false, false] rfl rfl (take_ofW HT_.out HW_.out (by kernel_rfl)) (fun _ _ _ h => h) (Or.inl ⟨by rfl, ?_⟩) hHeld ?_ ?_
        rotate_left
        · rintro w' ⟨s0, s1, s2, s3, s4, s5, s6, s7⟩
          go_simp
          with_reducible rfl
        rotate_left
        · simp only [Act.put, List.setIfInBounds_toArray, List.set_cons_zero, List.set_cons_succ, i64_w, i32_w]
          rfl
        refine take_ (i := 5) (N := some 38) (v := ?_) (a' := ?_) #[true, true, true, true, true, true, false, false, true, false, true, false, true, false, false, false, false, false] rfl rfl (take_ofW HT_.out HW_.out (by kernel_rfl)) (fun _ _ _ h => h) (Or.inl ⟨by rfl, ?_⟩) hHeld ?_ ?_
        rotate_left
        · rintro w' ⟨s0, s1, s2, s3, s4, s5, s6, s7⟩
          go_simp
          with_reducible rfl
        rotate_left
        · simp only [Act.put, List.setIfInBounds_toArray, List.set_cons_zero, List.set_cons_succ, i64_w, i32_w]
          rfl
        refine take_ (i := 9) (N := some 42) (v := ?_) (a' := ?_) #[true, true, true, true, true, true, false, false, true, true, true, false, true, false, false, false, false, false] rfl rfl (take_ofW HT_.out HW_.out (by kernel_rfl)) (fun _ _ _ h => h) (Or.inl ⟨by rfl, ?_⟩) hHeld ?_ ?_
        rotate_left
        · rintro w' ⟨s0, s1, s2, s3, s4, s5, s6, s7⟩
          go_simp
          with_reducible rfl
        rotate_left
        · simp only [Act.put, List.setIfInBounds_toArray, List.set_cons_zero, List.set_cons_succ, i64_w, i32_w]
          rfl
        refine take_ (i := 11) (N := some 44) (v := ?_) (a' := ?_) #[true, true, true, true, true, true, false, false, true, true, true, true, true, false, false, false, false, false] rfl rfl (take_ofW HT_.out HW_.out (by kernel_rfl)) (fun _ _ _ h => h) (Or.inl ⟨by rfl, ?_⟩) hHeld ?_ ?_
        rotate_left
        · rintro w' ⟨s0, s1, s2, s3, s4, s5, s6, s7⟩
          go_simp
          with_reducible rfl
        rotate_left
        · simp only [Act.put, List.setIfInBounds_toArray, List.set_cons_zero, List.set_cons_succ, i64_w, i32_w]
          rfl
        refine take_ (i := 13) (N := some 46) (v := ?_) (a' := ?_) #[true, true, true, true, true, true, false, false, true, true, true, true, true, true, false, false, false, false] rfl rfl (take_ofW HT_.out HW_.out (by kernel_rfl)) (fun _ _ _ h => h) (Or.inl ⟨by rfl, ?_⟩) hHeld ?_ ?_
        rotate_left
        · rintro w' ⟨s0, s1, s2, s3, s4, s5, s6, s7⟩
          go_simp
          with_reducible rfl
        rotate_left
        · simp only [Act.put, List.setIfInBounds_toArray, List.set_cons_zero, List.set_cons_succ, i64_w, i32_w]
          rfl
        refine one_ (i := 6) (N := some 39) #[true, true, true, true, true, true, true, false, true, true, true, true, true, true, false, false, false, false] rfl rfl (one_of HT_.out (by kernel_rfl)) (by decide) (fun K hK => ?_)
        refine goes_ Try.func80 (by kernel_rfl) rfl #[.agg #[.int .i64 a1_0, .int .i64 a1_1], .agg #[.int .i64 a1_2, .int .i64 a1_3], .agg #[.int .i64 a0_0, .int .i64 a0_1]] (by rfl) rfl rfl (by (try simp only [List.map_toArray, List.map_cons, List.map_nil]); first | done | rfl | (simp only [List.length_drop, List.length_take]; rfl)) ?_
        with_reducible refine (plane_twice.calls a1_0 a1_1 a1_2 a1_3 a0_0 a0_1 t169 _ A22.out).mono ?_
        rintro e w31 ⟨rfl, hb⟩
        refine ⟨_, rfl, ?_⟩
        have n0_ := Aside0.mk (blk_below (g := gb161) (o := .cells #[.int .i64 a0_0, .int .i64 a0_1, .int .i64 a0_2, .int .i64 a0_3] 34 (0, 0)) (by (with_reducible repeat (first | refine blk_drewN ?_ _ | refine blk_drew ?_ | refine blk_alloc ?_ _)); exact BK161.out) hb)
        have n1_ := Aside0.mk (blk_below (g := gb162) (o := .cells #[.int .i64 a1_0, .int .i64 a1_1, .int .i64 a1_2, .int .i64 a1_3] 34 (0, 0)) (by (with_reducible repeat (first | refine blk_drewN ?_ _ | refine blk_drew ?_ | refine blk_alloc ?_ _)); exact BK162.out) hb)
        have n2_ := Aside0.mk (below_step (by repeat (first | (with_reducible first | exact HB.out | apply below_alloc | apply pw_below_drewN | apply below_drew1 | refine below_set ?_ GE161.out | refine below_set ?_ GE162.out) | exact HB.out)) hb)
        clear BK161
        clear BK162
        clear HB
        have BK161 := n0_
        have BK162 := n1_
        have HB := n2_
        clear n0_ n1_ n2_
        (try clear hb)
        (try clear hb2)
        (try clear hk)
        (try clear hi)
        refine hK.out _ _ ⟨(blk_cell BK162.out 0).trans rfl, (blk_cell BK162.out 1).trans rfl, (blk_cell BK162.out 2).trans rfl, (blk_cell BK162.out 3).trans rfl, (blk_cell BK161.out 0).trans rfl, (blk_cell BK161.out 1).trans rfl, (blk_cell BK161.out 2).trans rfl, (blk_cell BK161.out 3).trans rfl⟩ (fun hHeld => ?_)
        clear hK K
        refine norm_ (a' := ?_) ?_ ?_
        rotate_left
        · show Act.put _ (some 39) _ = _
          simp only [Act.put, List.setIfInBounds_toArray, List.set_cons_zero, List.set_cons_succ, i64_w, i32_w]
          rfl
        refine one_ (i := 7) (N := some 40) #[true, true, true, true, true, true, true, true, true, true, true, true, true, true, false, false, false, false] rfl rfl (one_of HT_.out (by kernel_rfl)) (by decide) (fun K hK => ?_)
        refine goes_ Try.func79 (by kernel_rfl) rfl #[.int .i64 t169] (by rfl) rfl rfl (by (try simp only [List.map_toArray, List.map_cons, List.map_nil]); first | done | rfl | (simp only [List.length_drop, List.length_take]; rfl)) ?_
        with_reducible refine (plane_sign.calls t169 t170 _ A23.out).mono ?_
        rintro e w' ⟨rfl, ⟨nd, rfl⟩⟩
        refine ⟨_, rfl, ?_⟩
        refine hK.out _ _ ⟨(blk_cell BK162.out 0).trans rfl, (blk_cell BK162.out 1).trans rfl, (blk_cell BK162.out 2).trans rfl, (blk_cell BK162.out 3).trans rfl, (blk_cell BK161.out 0).trans rfl, (blk_cell BK161.out 1).trans rfl, (blk_cell BK161.out 2).trans rfl, (blk_cell BK161.out 3).trans rfl⟩ (fun hHeld => ?_)
        clear hK K
        refine norm_ (a' := ?_) ?_ ?_
        rotate_left
        · show Act.put _ (some 40) _ = _
          simp only [Act.put, List.setIfInBounds_toArray, List.set_cons_zero, List.set_cons_succ, i64_w, i32_w]
          rfl
        refine one_ (i := 14) (N := some 47) #[true, true, true, true, true, true, true, true, true, true, true, true, true, true, true, false, false, false] rfl rfl (one_of HT_.out (by kernel_rfl)) (by decide) (fun K hK => ?_)
        refine goes_ Try.func80 (by kernel_rfl) rfl #[.agg #[.int .i64 a1_0, .int .i64 a1_1], .agg #[.int .i64 a1_2, .int .i64 a1_3], .agg #[.int .i64 a0_2, .int .i64 a0_3]] (by rfl) rfl rfl (by (try simp only [List.map_toArray, List.map_cons, List.map_nil]); first | done | rfl | (simp only [List.length_drop, List.length_take]; rfl)) ?_
        with_reducible refine (plane_twice.calls a1_0 a1_1 a1_2 a1_3 a0_2 a0_3 t171 _ A24.out).mono ?_
        rintro e w32 ⟨rfl, hb⟩
        refine ⟨_, rfl, ?_⟩
        have n0_ := Aside0.mk (blk_below (g := gb161) (o := .cells #[.int .i64 a0_0, .int .i64 a0_1, .int .i64 a0_2, .int .i64 a0_3] 34 (0, 0)) (by (with_reducible repeat (first | refine blk_drewN ?_ _ | refine blk_drew ?_ | refine blk_alloc ?_ _)); exact BK161.out) hb)
        have n1_ := Aside0.mk (blk_below (g := gb162) (o := .cells #[.int .i64 a1_0, .int .i64 a1_1, .int .i64 a1_2, .int .i64 a1_3] 34 (0, 0)) (by (with_reducible repeat (first | refine blk_drewN ?_ _ | refine blk_drew ?_ | refine blk_alloc ?_ _)); exact BK162.out) hb)
        have n2_ := Aside0.mk (below_step (by repeat (first | (with_reducible first | exact HB.out | apply below_alloc | apply pw_below_drewN | apply below_drew1 | refine below_set ?_ GE161.out | refine below_set ?_ GE162.out) | exact HB.out)) hb)
        clear BK161
        clear BK162
        clear HB
        have BK161 := n0_
        have BK162 := n1_
        have HB := n2_
        clear n0_ n1_ n2_
        (try clear hb)
        (try clear hb2)
        (try clear hk)
        (try clear hi)
        refine hK.out _ _ ⟨(blk_cell BK162.out 0).trans rfl, (blk_cell BK162.out 1).trans rfl, (blk_cell BK162.out 2).trans rfl, (blk_cell BK162.out 3).trans rfl, (blk_cell BK161.out 0).trans rfl, (blk_cell BK161.out 1).trans rfl, (blk_cell BK161.out 2).trans rfl, (blk_cell BK161.out 3).trans rfl⟩ (fun hHeld => ?_)
        clear hK K
        refine norm_ (a' := ?_) ?_ ?_
        rotate_left
        · show Act.put _ (some 47) _ = _
          simp only [Act.put, List.setIfInBounds_toArray, List.set_cons_zero, List.set_cons_succ, i64_w, i32_w]
          rfl
        refine one_ (i := 15) (N := some 48) #[true, true, true, true, true, true, true, true, true, true, true, true, true, true, true, true, false, false] rfl rfl (one_of HT_.out (by kernel_rfl)) (by decide) (fun K hK => ?_)
        refine goes_ Try.func79 (by kernel_rfl) rfl #[.int .i64 t171] (by rfl) rfl rfl (by (try simp only [List.map_toArray, List.map_cons, List.map_nil]); first | done | rfl | (simp only [List.length_drop, List.length_take]; rfl)) ?_
        with_reducible refine (plane_sign.calls t171 t172 _ A25.out).mono ?_
        rintro e w' ⟨rfl, ⟨nd, rfl⟩⟩
        refine ⟨_, rfl, ?_⟩
        refine hK.out _ _ ⟨(blk_cell BK162.out 0).trans rfl, (blk_cell BK162.out 1).trans rfl, (blk_cell BK162.out 2).trans rfl, (blk_cell BK162.out 3).trans rfl, (blk_cell BK161.out 0).trans rfl, (blk_cell BK161.out 1).trans rfl, (blk_cell BK161.out 2).trans rfl, (blk_cell BK161.out 3).trans rfl⟩ (fun hHeld => ?_)
        clear hK K
        refine norm_ (a' := ?_) ?_ ?_
        rotate_left
        · show Act.put _ (some 48) _ = _
          simp only [Act.put, List.setIfInBounds_toArray, List.set_cons_zero, List.set_cons_succ, i64_w, i32_w]
          rfl
        refine pure_ (i := 16) (N := some 7) (v := ?_) (a' := ?_) #[true, true, true, true, true, true, true, true, true, true, true, true, true, true, true, true, true, false] rfl rfl (any_of HT_.out (by kernel_rfl)) (fun _ _ _ h => h) (Or.inl ⟨by rfl, ?_⟩) ?_ ?_
        rotate_left
        · intro w'
          go_simp
          with_reducible rfl
        rotate_left
        · simp only [Act.put, List.setIfInBounds_toArray, List.set_cons_zero, List.set_cons_succ, i64_w, i32_w]
          rfl
        refine pure_ (i := 17) (N := some 8) (v := ?_) (a' := ?_) #[true, true, true, true, true, true, true, true, true, true, true, true, true, true, true, true, true, true] rfl rfl (any_of HT_.out (by kernel_rfl)) (fun _ _ _ h => h) (Or.inl ⟨by rfl, ?_⟩) ?_ ?_
        rotate_left
        · intro w'
          go_simp
          with_reducible rfl
        rotate_left
        · simp only [Act.put, List.setIfInBounds_toArray, List.set_cons_zero, List.set_cons_succ, i64_w, i32_w]
          rfl
        refine done_ (done_of HT_.out (by kernel_rfl)) ?_
        go_upto_region 5 with (fail)
        go_cut [54] (fun v54 wc => ∃ (kq : Nat) (x54_25 : Bool), v54 = .bool x54_25 ∧ Aside0 (plane_Meeting.j1 kq t166 t168 t170 t172 x54_25 a0_0 a0_1 a0_2 a0_3 a1_0 a1_1 a1_2 a1_3 = some r) ∧ Aside0 (kq ≤ kj2) ∧ Aside0 (wc.heap[gb161]? = some (.cells #[.int .i64 a0_0, .int .i64 a0_1, .int .i64 a0_2, .int .i64 a0_3] 34 (0, 0))) ∧ Aside0 (wc.heap[gb162]? = some (.cells #[.int .i64 a1_0, .int .i64 a1_1, .int .i64 a1_2, .int .i64 a1_3] 34 (0, 0))) ∧ Aside0 (Below w.heap.size w wc))
        case first =>
          have H := HC26.out
          clear HC26
          by_cases c33 : t166 = 0
          · rw [if_pos c33] at H
            have c33b0 : (t166 == 0) = true := beq_iff_eq.mpr c33
            have c33b1 : (t166 != 0) = false := bne_eq_false_iff_eq.mpr c33
            clear c33
            (first | rw [c33b0] | (simp only [i64_w, i32_w]; rw [c33b0]) | skip)
            have H' := Aside0.mk H
            clear H
            go_wp2
            go_meet
            case rel => exact ⟨_, ((t168 == 0)), (by first | rfl | (simp; done) | (simp [*]; done)), H', ⟨by have := HJ2.out; first | omega | exact Nat.le_refl _⟩, ⟨by (with_reducible repeat (first | refine blk_drewN ?_ _ | refine blk_drew ?_ | refine blk_alloc ?_ _)); exact BK161.out⟩, ⟨by (with_reducible repeat (first | refine blk_drewN ?_ _ | refine blk_drew ?_ | refine blk_alloc ?_ _)); exact BK162.out⟩, ⟨by repeat (first | (with_reducible first | exact HB.out | apply below_alloc | apply pw_below_drewN | apply below_drew1 | refine below_set ?_ GE161.out | refine below_set ?_ GE162.out) | exact HB.out)⟩⟩
          · rw [if_neg c33] at H
            have c33b0 : (t166 == 0) = false := beq_eq_false_iff_ne.mpr c33
            have c33b1 : (t166 != 0) = true := bne_iff_ne.mpr c33
            (first | rw [c33b0] | (simp only [i64_w, i32_w]; rw [c33b0]) | skip)
            have H' := Aside0.mk H
            clear H
            go_wp2
            go_meet
            case rel => exact ⟨_, (false), (by first | rfl | (simp; done) | (simp [*]; done)), H', ⟨by have := HJ2.out; first | omega | exact Nat.le_refl _⟩, ⟨by (with_reducible repeat (first | refine blk_drewN ?_ _ | refine blk_drew ?_ | refine blk_alloc ?_ _)); exact BK161.out⟩, ⟨by (with_reducible repeat (first | refine blk_drewN ?_ _ | refine blk_drew ?_ | refine blk_alloc ?_ _)); exact BK162.out⟩, ⟨by repeat (first | (with_reducible first | exact HB.out | apply below_alloc | apply pw_below_drewN | apply below_drew1 | refine below_set ?_ GE161.out | refine below_set ?_ GE162.out) | exact HB.out)⟩⟩
        case rest =>
          clear HC26
          try clear c1
          try clear c2
          try clear p2
          try clear c3
          try clear c7
          try clear c8
          try clear c9
          try clear c14
          try clear c17
          try clear c28
          try clear c33
          try clear c33b0
          try clear c33b1
          try clear hcz10_0
          try clear hcz10_1
          try clear hcz10_2
          try clear hcz10_3
          try clear hcz12_0
          try clear hcz12_1
          try clear hcz12_2
          try clear hcz12_3
          try clear hcz15_0
          try clear hcz15_1
          try clear hcz15_2
          try clear hcz15_3
          try clear hfz10_0
          try clear hfz10_1
          try clear hfz10_2
          try clear hfz10_3
          try clear hfz12_0
          try clear hfz12_1
          try clear hfz12_2
          try clear hfz12_3
          try clear hfz15_0
          try clear hfz15_1
          try clear hfz15_2
          try clear hfz15_3
          try clear p2
          obtain ⟨kq, x54_25, rfl, HA, HJ25, BK161, BK162, HB⟩ := hcut
          cases kq with
          | zero => exact absurd HA.out (by simp [plane_Meeting.j1])
          | succ kj25 =>
            have H := HA.out
            clear HA
            simp only [plane_Meeting.j1] at H
            by_cases c34 : x54_25 = true
            · subst c34
              have H1 : ((plane_along.f kj25 a0_0 a0_1 a0_2 a0_3 a1_0 a1_1 a1_2 a1_3).bind fun t173 => (some t173)) = some r := by rw [if_pos rfl] at H; exact H
              clear H
              have H := H1
              clear H1
              replace H := Option.bind_eq_some_iff.mp H
              obtain ⟨t173, A350, H⟩ := H
              replace H : (some t173) = some r := H
              have A35 := Aside0.mk A350
              clear A350
              obtain rfl := Option.some.inj H
              have hnb36 := NB161_162.out
              have hnc36 := NB162_161.out
              have hcz37_0 : wc.cell? ⟨gb161, 0, none⟩ = some (.int .i64 a0_0) := (blk_cell BK161.out 0).trans rfl
              have hcz37_1 : wc.cell? ⟨gb161, 1, none⟩ = some (.int .i64 a0_1) := (blk_cell BK161.out 1).trans rfl
              have hcz37_2 : wc.cell? ⟨gb161, 2, none⟩ = some (.int .i64 a0_2) := (blk_cell BK161.out 2).trans rfl
              have hcz37_3 : wc.cell? ⟨gb161, 3, none⟩ = some (.int .i64 a0_3) := (blk_cell BK161.out 3).trans rfl
              have hfz37_0 := blk_frozen BK161.out 0
              have hfz37_1 := blk_frozen BK161.out 1
              have hfz37_2 := blk_frozen BK161.out 2
              have hfz37_3 := blk_frozen BK161.out 3
              have hcz38_0 : wc.cell? ⟨gb162, 0, none⟩ = some (.int .i64 a1_0) := (blk_cell BK162.out 0).trans rfl
              have hcz38_1 : wc.cell? ⟨gb162, 1, none⟩ = some (.int .i64 a1_1) := (blk_cell BK162.out 1).trans rfl
              have hcz38_2 : wc.cell? ⟨gb162, 2, none⟩ = some (.int .i64 a1_2) := (blk_cell BK162.out 2).trans rfl
              have hcz38_3 : wc.cell? ⟨gb162, 3, none⟩ = some (.int .i64 a1_3) := (blk_cell BK162.out 3).trans rfl
              have hfz38_0 := blk_frozen BK162.out 0
              have hfz38_1 := blk_frozen BK162.out 1
              have hfz38_2 := blk_frozen BK162.out 2
              have hfz38_3 := blk_frozen BK162.out 3
              go_wp2_with (first | ((with_reducible refine gate_callee (f := 91) rfl ?_); refine goesL_ (some 57) rfl rfl Try.func91 (by kernel_rfl) rfl #[.agg #[.int .i64 a0_0, .int .i64 a0_1, .int .i64 a0_2, .int .i64 a0_3], .agg #[.int .i64 a1_0, .int .i64 a1_1, .int .i64 a1_2, .int .i64 a1_3]] rfl (by (try simp only [List.map_toArray, List.map_cons, List.map_nil]); first | done | rfl | (simp only [List.length_drop, List.length_take]; rfl)) ?_; (with_reducible refine (plane_along.calls kj25 a0_0 a0_1 a0_2 a0_3 a1_0 a1_1 a1_2 a1_3 t173 _ A35.out).mono ?_); rintro e w39 ⟨rfl, hb⟩; refine ⟨_, rfl, ?_⟩; have n0_ := Aside0.mk (blk_below (g := gb161) (o := .cells #[.int .i64 a0_0, .int .i64 a0_1, .int .i64 a0_2, .int .i64 a0_3] 34 (0, 0)) (by (with_reducible repeat (first | refine blk_drewN ?_ _ | refine blk_drew ?_ | refine blk_alloc ?_ _)); exact BK161.out) hb); have n1_ := Aside0.mk (blk_below (g := gb162) (o := .cells #[.int .i64 a1_0, .int .i64 a1_1, .int .i64 a1_2, .int .i64 a1_3] 34 (0, 0)) (by (with_reducible repeat (first | refine blk_drewN ?_ _ | refine blk_drew ?_ | refine blk_alloc ?_ _)); exact BK162.out) hb); have n2_ := Aside0.mk (below_step (by repeat (first | (with_reducible first | exact HB.out | apply below_alloc | apply pw_below_drewN | apply below_drew1 | refine below_set ?_ GE161.out | refine below_set ?_ GE162.out) | exact HB.out)) hb); clear BK161; clear BK162; clear HB; have BK161 := n0_; have BK162 := n1_; have HB := n2_; clear n0_ n1_ n2_; (try clear hb); (try clear hb2); (try clear hk); (try clear hi)))
              go_ret
              exact ⟨by first | rfl | (simp [errW_none, errW_some] <;> rfl) | (simp [*, errW_none, errW_some] <;> rfl), by repeat (first | (with_reducible first | exact HB.out | apply below_alloc | apply pw_below_drewN | apply below_drew1 | refine below_set ?_ GE161.out | refine below_set ?_ GE162.out) | exact HB.out)⟩
            · replace c34 := Bool.eq_false_iff.mpr c34
              subst c34
              have H1 : (if (wrap64 (t166 * t168)) < 0 then (plane_Meeting.j2 kj25 (decide ((wrap64 (t170 * t172)) < 0)) a0_0 a0_1 a0_2 a0_3 a1_0 a1_1 a1_2 a1_3) else (plane_Meeting.j2 kj25 false a0_0 a0_1 a0_2 a0_3 a1_0 a1_1 a1_2 a1_3)) = some r := by rw [if_neg (show ¬ (false = true) by decide)] at H; exact H
              clear H
              have H := H1
              clear H1
              have HC40 := Aside0.mk H
              clear H
              go_upto_region 7 with (fail)
              go_cut [58] (fun v58 wc => ∃ (kq : Nat) (x58_39 : Bool), v58 = .bool x58_39 ∧ Aside0 (plane_Meeting.j2 kq x58_39 a0_0 a0_1 a0_2 a0_3 a1_0 a1_1 a1_2 a1_3 = some r) ∧ Aside0 (kq ≤ kj25) ∧ Aside0 (wc.heap[gb161]? = some (.cells #[.int .i64 a0_0, .int .i64 a0_1, .int .i64 a0_2, .int .i64 a0_3] 34 (0, 0))) ∧ Aside0 (wc.heap[gb162]? = some (.cells #[.int .i64 a1_0, .int .i64 a1_1, .int .i64 a1_2, .int .i64 a1_3] 34 (0, 0))) ∧ Aside0 (Below w.heap.size w wc))
              case first =>
                have H := HC40.out
                clear HC40
                by_cases c41 : (wrap64 (t166 * t168)) < 0
                · rw [if_pos c41] at H
                  have c41b0 : decide ((wrap64 (t166 * t168)) < 0) = true := decide_eq_true c41
                  clear c41
                  (first | rw [c41b0] | (simp only [i64_w, i32_w]; rw [c41b0]) | skip)
                  have H' := Aside0.mk H
                  clear H
                  go_wp2
                  go_meet
                  case rel => exact ⟨_, (decide ((wrap64 (t170 * t172)) < 0)), (by first | rfl | (simp; done) | (simp [*]; done)), H', ⟨by have := HJ2.out; have := HJ25.out; first | omega | exact Nat.le_refl _⟩, ⟨by (with_reducible repeat (first | refine blk_drewN ?_ _ | refine blk_drew ?_ | refine blk_alloc ?_ _)); exact BK161.out⟩, ⟨by (with_reducible repeat (first | refine blk_drewN ?_ _ | refine blk_drew ?_ | refine blk_alloc ?_ _)); exact BK162.out⟩, ⟨by repeat (first | (with_reducible first | exact HB.out | apply below_alloc | apply pw_below_drewN | apply below_drew1 | refine below_set ?_ GE161.out | refine below_set ?_ GE162.out) | exact HB.out)⟩⟩
                · rw [if_neg c41] at H
                  have c41b0 : decide ((wrap64 (t166 * t168)) < 0) = false := decide_eq_false c41
                  clear c41
                  (first | rw [c41b0] | (simp only [i64_w, i32_w]; rw [c41b0]) | skip)
                  have H' := Aside0.mk H
                  clear H
                  go_wp2
                  go_meet
                  case rel => exact ⟨_, (false), (by first | rfl | (simp; done) | (simp [*]; done)), H', ⟨by have := HJ2.out; have := HJ25.out; first | omega | exact Nat.le_refl _⟩, ⟨by (with_reducible repeat (first | refine blk_drewN ?_ _ | refine blk_drew ?_ | refine blk_alloc ?_ _)); exact BK161.out⟩, ⟨by (with_reducible repeat (first | refine blk_drewN ?_ _ | refine blk_drew ?_ | refine blk_alloc ?_ _)); exact BK162.out⟩, ⟨by repeat (first | (with_reducible first | exact HB.out | apply below_alloc | apply pw_below_drewN | apply below_drew1 | refine below_set ?_ GE161.out | refine below_set ?_ GE162.out) | exact HB.out)⟩⟩
              case rest =>
                clear HC40
                try clear c1
                try clear c2
                try clear p2
                try clear c3
                try clear c4
                try clear p6
                try clear c7
                try clear c8
                try clear c9
                try clear c14
                try clear c17
                try clear c28
                try clear c33
                try clear c33b0
                try clear c33b1
                try clear c34
                try clear c36
                try clear c41
                try clear c41b0
                try clear hcz10_0
                try clear hcz10_1
                try clear hcz10_2
                try clear hcz10_3
                try clear hcz12_0
                try clear hcz12_1
                try clear hcz12_2
                try clear hcz12_3
                try clear hcz15_0
                try clear hcz15_1
                try clear hcz15_2
                try clear hcz15_3
                try clear hcz37_0
                try clear hcz37_1
                try clear hcz37_2
                try clear hcz37_3
                try clear hcz38_0
                try clear hcz38_1
                try clear hcz38_2
                try clear hcz38_3
                try clear hfz10_0
                try clear hfz10_1
                try clear hfz10_2
                try clear hfz10_3
                try clear hfz12_0
                try clear hfz12_1
                try clear hfz12_2
                try clear hfz12_3
                try clear hfz15_0
                try clear hfz15_1
                try clear hfz15_2
                try clear hfz15_3
                try clear hfz37_0
                try clear hfz37_1
                try clear hfz37_2
                try clear hfz37_3
                try clear hfz38_0
                try clear hfz38_1
                try clear hfz38_2
                try clear hfz38_3
                try clear p2
                obtain ⟨kq, x58_39, rfl, HA, HJ39, BK161, BK162, HB⟩ := hcut
                cases kq with
                | zero => exact absurd HA.out (by simp [plane_Meeting.j2])
                | succ kj39 =>
                  have H := HA.out
                  clear HA
                  simp only [plane_Meeting.j2] at H
                  by_cases c42 : x58_39 = true
                  · subst c42
                    have H1 : (some 2) = some r := by rw [if_pos rfl] at H; exact H
                    clear H
                    have H := H1
                    clear H1
                    obtain rfl := Option.some.inj H
                    go_wp2
                    go_ret
                    exact ⟨by first | rfl | (simp [errW_none, errW_some] <;> rfl) | (simp [*, errW_none, errW_some] <;> rfl), by repeat (first | (with_reducible first | exact HB.out | apply below_alloc | apply pw_below_drewN | apply below_drew1 | refine below_set ?_ GE161.out | refine below_set ?_ GE162.out) | exact HB.out)⟩
                  · replace c42 := Bool.eq_false_iff.mpr c42
                    subst c42
                    have H1 : ((plane_on.f a0_0 a0_1 a0_2 a0_3 a1_0 a1_1).bind fun t174 => (if t174 = true then (plane_Meeting.j3 kj39 t174) else ((plane_on.f a0_0 a0_1 a0_2 a0_3 a1_2 a1_3).bind fun t175 => (if t175 = true then (plane_Meeting.j3 kj39 t175) else ((plane_on.f a1_0 a1_1 a1_2 a1_3 a0_0 a0_1).bind fun t176 => (if t176 = true then (plane_Meeting.j3 kj39 t176) else ((plane_on.f a1_0 a1_1 a1_2 a1_3 a0_2 a0_3).bind fun t177 => (plane_Meeting.j3 kj39 t177)))))))) = some r := by rw [if_neg (show ¬ (false = true) by decide)] at H; exact H
                    clear H
                    have H := H1
                    clear H1
                    replace H := Option.bind_eq_some_iff.mp H
                    obtain ⟨t174, A430, H⟩ := H
                    try dsimp only at H
                    have A43 := Aside0.mk A430
                    clear A430
                    have HC44 := Aside0.mk H
                    clear H
                    have hnb45 := NB161_162.out
                    have hnc45 := NB162_161.out
                    have hcz46_0 : wc.cell? ⟨gb161, 0, none⟩ = some (.int .i64 a0_0) := (blk_cell BK161.out 0).trans rfl
                    have hcz46_1 : wc.cell? ⟨gb161, 1, none⟩ = some (.int .i64 a0_1) := (blk_cell BK161.out 1).trans rfl
                    have hcz46_2 : wc.cell? ⟨gb161, 2, none⟩ = some (.int .i64 a0_2) := (blk_cell BK161.out 2).trans rfl
                    have hcz46_3 : wc.cell? ⟨gb161, 3, none⟩ = some (.int .i64 a0_3) := (blk_cell BK161.out 3).trans rfl
                    have hfz46_0 := blk_frozen BK161.out 0
                    have hfz46_1 := blk_frozen BK161.out 1
                    have hfz46_2 := blk_frozen BK161.out 2
                    have hfz46_3 := blk_frozen BK161.out 3
                    have hcz47_0 : wc.cell? ⟨gb162, 0, none⟩ = some (.int .i64 a1_0) := (blk_cell BK162.out 0).trans rfl
                    have hcz47_1 : wc.cell? ⟨gb162, 1, none⟩ = some (.int .i64 a1_1) := (blk_cell BK162.out 1).trans rfl
                    have hcz47_2 : wc.cell? ⟨gb162, 2, none⟩ = some (.int .i64 a1_2) := (blk_cell BK162.out 2).trans rfl
                    have hcz47_3 : wc.cell? ⟨gb162, 3, none⟩ = some (.int .i64 a1_3) := (blk_cell BK162.out 3).trans rfl
                    have hfz47_0 := blk_frozen BK162.out 0
                    have hfz47_1 := blk_frozen BK162.out 1
                    have hfz47_2 := blk_frozen BK162.out 2
                    have hfz47_3 := blk_frozen BK162.out 3
                    go_upto_if 69 with (first | ((with_reducible refine gate_callee (f := 88) rfl ?_); refine goesL_ (some 76) rfl rfl Try.func88 (by kernel_rfl) rfl #[.agg #[.int .i64 a0_0, .int .i64 a0_1], .agg #[.int .i64 a0_2, .int .i64 a0_3], .agg #[.int .i64 a1_0, .int .i64 a1_1]] rfl (by (try simp only [List.map_toArray, List.map_cons, List.map_nil]); first | done | rfl | (simp only [List.length_drop, List.length_take]; rfl)) ?_; (with_reducible refine (plane_on.calls a0_0 a0_1 a0_2 a0_3 a1_0 a1_1 t174 _ A43.out).mono ?_); rintro e w48 ⟨rfl, hb⟩; refine ⟨_, rfl, ?_⟩; have n0_ := Aside0.mk (blk_below (g := gb161) (o := .cells #[.int .i64 a0_0, .int .i64 a0_1, .int .i64 a0_2, .int .i64 a0_3] 34 (0, 0)) (by (with_reducible repeat (first | refine blk_drewN ?_ _ | refine blk_drew ?_ | refine blk_alloc ?_ _)); exact BK161.out) hb); have n1_ := Aside0.mk (blk_below (g := gb162) (o := .cells #[.int .i64 a1_0, .int .i64 a1_1, .int .i64 a1_2, .int .i64 a1_3] 34 (0, 0)) (by (with_reducible repeat (first | refine blk_drewN ?_ _ | refine blk_drew ?_ | refine blk_alloc ?_ _)); exact BK162.out) hb); have n2_ := Aside0.mk (below_step (by repeat (first | (with_reducible first | exact HB.out | apply below_alloc | apply pw_below_drewN | apply below_drew1 | refine below_set ?_ GE161.out | refine below_set ?_ GE162.out) | exact HB.out)) hb); clear BK161; clear BK162; clear HB; have BK161 := n0_; have BK162 := n1_; have HB := n2_; clear n0_ n1_ n2_; (try clear hb); (try clear hb2); (try clear hk); (try clear hi)))
                    (try simp only [Act.put, List.setIfInBounds_toArray, List.set_cons_zero, List.set_cons_succ])
                    go_cut [69] (fun v69 wc => ∃ (kq : Nat) (x69_43 : Bool), v69 = .bool x69_43 ∧ Aside0 (plane_Meeting.j3 kq x69_43 = some r) ∧ Aside0 (kq ≤ kj39) ∧ Aside0 (wc.heap[gb161]? = some (.cells #[.int .i64 a0_0, .int .i64 a0_1, .int .i64 a0_2, .int .i64 a0_3] 34 (0, 0))) ∧ Aside0 (wc.heap[gb162]? = some (.cells #[.int .i64 a1_0, .int .i64 a1_1, .int .i64 a1_2, .int .i64 a1_3] 34 (0, 0))) ∧ Aside0 (Below w.heap.size w wc))
                    case first =>
                      have H := HC44.out
                      clear HC44
                      by_cases c49 : t174 = true
                      · subst c49
                        have H1 : (plane_Meeting.j3 kj39 true) = some r := by rw [if_pos rfl] at H; exact H
                        clear H
                        have H := H1
                        clear H1
                        have H' := Aside0.mk H
                        clear H
                        go_wp2
                        go_meet
                        case rel => exact ⟨_, (true), (by first | rfl | (simp; done) | (simp [*]; done)), H', ⟨by have := HJ2.out; have := HJ25.out; have := HJ39.out; first | omega | exact Nat.le_refl _⟩, ⟨by (with_reducible repeat (first | refine blk_drewN ?_ _ | refine blk_drew ?_ | refine blk_alloc ?_ _)); exact BK161.out⟩, ⟨by (with_reducible repeat (first | refine blk_drewN ?_ _ | refine blk_drew ?_ | refine blk_alloc ?_ _)); exact BK162.out⟩, ⟨by repeat (first | (with_reducible first | exact HB.out | apply below_alloc | apply pw_below_drewN | apply below_drew1 | refine below_set ?_ GE161.out | refine below_set ?_ GE162.out) | exact HB.out)⟩⟩
                      · replace c49 := Bool.eq_false_iff.mpr c49
                        subst c49
                        have H1 : ((plane_on.f a0_0 a0_1 a0_2 a0_3 a1_2 a1_3).bind fun t175 => (if t175 = true then (plane_Meeting.j3 kj39 t175) else ((plane_on.f a1_0 a1_1 a1_2 a1_3 a0_0 a0_1).bind fun t176 => (if t176 = true then (plane_Meeting.j3 kj39 t176) else ((plane_on.f a1_0 a1_1 a1_2 a1_3 a0_2 a0_3).bind fun t177 => (plane_Meeting.j3 kj39 t177)))))) = some r := by rw [if_neg (show ¬ (false = true) by decide)] at H; exact H
                        clear H
                        have H := H1
                        clear H1
                        replace H := Option.bind_eq_some_iff.mp H
                        obtain ⟨t175, A500, H⟩ := H
                        replace H : (if t175 = true then (plane_Meeting.j3 kj39 t175) else ((plane_on.f a1_0 a1_1 a1_2 a1_3 a0_0 a0_1).bind fun t176 => (if t176 = true then (plane_Meeting.j3 kj39 t176) else ((plane_on.f a1_0 a1_1 a1_2 a1_3 a0_2 a0_3).bind fun t177 => (plane_Meeting.j3 kj39 t177))))) = some r := H
                        have A50 := Aside0.mk A500
                        clear A500
                        by_cases c51 : t175 = true
                        · subst c51
                          have H1 : (plane_Meeting.j3 kj39 true) = some r := by rw [if_pos rfl] at H; exact H
                          clear H
                          have H := H1
                          clear H1
                          have H' := Aside0.mk H
                          clear H
                          have hnb52 := NB161_162.out
                          have hnc52 := NB162_161.out
                          have hcz53_0 : w48.cell? ⟨gb161, 0, none⟩ = some (.int .i64 a0_0) := (blk_cell BK161.out 0).trans rfl
                          have hcz53_1 : w48.cell? ⟨gb161, 1, none⟩ = some (.int .i64 a0_1) := (blk_cell BK161.out 1).trans rfl
                          have hcz53_2 : w48.cell? ⟨gb161, 2, none⟩ = some (.int .i64 a0_2) := (blk_cell BK161.out 2).trans rfl
                          have hcz53_3 : w48.cell? ⟨gb161, 3, none⟩ = some (.int .i64 a0_3) := (blk_cell BK161.out 3).trans rfl
                          have hfz53_0 := blk_frozen BK161.out 0
                          have hfz53_1 := blk_frozen BK161.out 1
                          have hfz53_2 := blk_frozen BK161.out 2
                          have hfz53_3 := blk_frozen BK161.out 3
                          have hcz54_0 : w48.cell? ⟨gb162, 0, none⟩ = some (.int .i64 a1_0) := (blk_cell BK162.out 0).trans rfl
                          have hcz54_1 : w48.cell? ⟨gb162, 1, none⟩ = some (.int .i64 a1_1) := (blk_cell BK162.out 1).trans rfl
                          have hcz54_2 : w48.cell? ⟨gb162, 2, none⟩ = some (.int .i64 a1_2) := (blk_cell BK162.out 2).trans rfl
                          have hcz54_3 : w48.cell? ⟨gb162, 3, none⟩ = some (.int .i64 a1_3) := (blk_cell BK162.out 3).trans rfl
                          have hfz54_0 := blk_frozen BK162.out 0
                          have hfz54_1 := blk_frozen BK162.out 1
                          have hfz54_2 := blk_frozen BK162.out 2
                          have hfz54_3 := blk_frozen BK162.out 3
                          go_wp2_with (first | ((with_reducible refine gate_callee (f := 88) rfl ?_); refine goesL_ (some 83) rfl rfl Try.func88 (by kernel_rfl) rfl #[.agg #[.int .i64 a0_0, .int .i64 a0_1], .agg #[.int .i64 a0_2, .int .i64 a0_3], .agg #[.int .i64 a1_2, .int .i64 a1_3]] rfl (by (try simp only [List.map_toArray, List.map_cons, List.map_nil]); first | done | rfl | (simp only [List.length_drop, List.length_take]; rfl)) ?_; (with_reducible refine (plane_on.calls a0_0 a0_1 a0_2 a0_3 a1_2 a1_3 true _ A50.out).mono ?_); rintro e w55 ⟨rfl, hb⟩; refine ⟨_, rfl, ?_⟩; have n0_ := Aside0.mk (blk_below (g := gb161) (o := .cells #[.int .i64 a0_0, .int .i64 a0_1, .int .i64 a0_2, .int .i64 a0_3] 34 (0, 0)) (by (with_reducible repeat (first | refine blk_drewN ?_ _ | refine blk_drew ?_ | refine blk_alloc ?_ _)); exact BK161.out) hb); have n1_ := Aside0.mk (blk_below (g := gb162) (o := .cells #[.int .i64 a1_0, .int .i64 a1_1, .int .i64 a1_2, .int .i64 a1_3] 34 (0, 0)) (by (with_reducible repeat (first | refine blk_drewN ?_ _ | refine blk_drew ?_ | refine blk_alloc ?_ _)); exact BK162.out) hb); have n2_ := Aside0.mk (below_step (by repeat (first | (with_reducible first | exact HB.out | apply below_alloc | apply pw_below_drewN | apply below_drew1 | refine below_set ?_ GE161.out | refine below_set ?_ GE162.out) | exact HB.out)) hb); clear BK161; clear BK162; clear HB; have BK161 := n0_; have BK162 := n1_; have HB := n2_; clear n0_ n1_ n2_; (try clear hb); (try clear hb2); (try clear hk); (try clear hi)))
                          go_meet
                          case rel => exact ⟨_, (true), (by first | rfl | (simp; done) | (simp [*]; done)), H', ⟨by have := HJ2.out; have := HJ25.out; have := HJ39.out; first | omega | exact Nat.le_refl _⟩, ⟨by (with_reducible repeat (first | refine blk_drewN ?_ _ | refine blk_drew ?_ | refine blk_alloc ?_ _)); exact BK161.out⟩, ⟨by (with_reducible repeat (first | refine blk_drewN ?_ _ | refine blk_drew ?_ | refine blk_alloc ?_ _)); exact BK162.out⟩, ⟨by repeat (first | (with_reducible first | exact HB.out | apply below_alloc | apply pw_below_drewN | apply below_drew1 | refine below_set ?_ GE161.out | refine below_set ?_ GE162.out) | exact HB.out)⟩⟩
                        · replace c51 := Bool.eq_false_iff.mpr c51
                          subst c51
                          have H1 : ((plane_on.f a1_0 a1_1 a1_2 a1_3 a0_0 a0_1).bind fun t176 => (if t176 = true then (plane_Meeting.j3 kj39 t176) else ((plane_on.f a1_0 a1_1 a1_2 a1_3 a0_2 a0_3).bind fun t177 => (plane_Meeting.j3 kj39 t177)))) = some r := by rw [if_neg (show ¬ (false = true) by decide)] at H; exact H
                          clear H
                          have H := H1
                          clear H1
                          replace H := Option.bind_eq_some_iff.mp H
                          obtain ⟨t176, A560, H⟩ := H
                          replace H : (if t176 = true then (plane_Meeting.j3 kj39 t176) else ((plane_on.f a1_0 a1_1 a1_2 a1_3 a0_2 a0_3).bind fun t177 => (plane_Meeting.j3 kj39 t177))) = some r := H
                          have A56 := Aside0.mk A560
                          clear A560
                          by_cases c57 : t176 = true
                          · subst c57
                            have H1 : (plane_Meeting.j3 kj39 true) = some r := by rw [if_pos rfl] at H; exact H
                            clear H
                            have H := H1
                            clear H1
                            have H' := Aside0.mk H
                            clear H
                            have hnb58 := NB161_162.out
                            have hnc58 := NB162_161.out
                            have hcz59_0 : w48.cell? ⟨gb161, 0, none⟩ = some (.int .i64 a0_0) := (blk_cell BK161.out 0).trans rfl
                            have hcz59_1 : w48.cell? ⟨gb161, 1, none⟩ = some (.int .i64 a0_1) := (blk_cell BK161.out 1).trans rfl
                            have hcz59_2 : w48.cell? ⟨gb161, 2, none⟩ = some (.int .i64 a0_2) := (blk_cell BK161.out 2).trans rfl
                            have hcz59_3 : w48.cell? ⟨gb161, 3, none⟩ = some (.int .i64 a0_3) := (blk_cell BK161.out 3).trans rfl
                            have hfz59_0 := blk_frozen BK161.out 0
                            have hfz59_1 := blk_frozen BK161.out 1
                            have hfz59_2 := blk_frozen BK161.out 2
                            have hfz59_3 := blk_frozen BK161.out 3
                            have hcz60_0 : w48.cell? ⟨gb162, 0, none⟩ = some (.int .i64 a1_0) := (blk_cell BK162.out 0).trans rfl
                            have hcz60_1 : w48.cell? ⟨gb162, 1, none⟩ = some (.int .i64 a1_1) := (blk_cell BK162.out 1).trans rfl
                            have hcz60_2 : w48.cell? ⟨gb162, 2, none⟩ = some (.int .i64 a1_2) := (blk_cell BK162.out 2).trans rfl
                            have hcz60_3 : w48.cell? ⟨gb162, 3, none⟩ = some (.int .i64 a1_3) := (blk_cell BK162.out 3).trans rfl
                            have hfz60_0 := blk_frozen BK162.out 0
                            have hfz60_1 := blk_frozen BK162.out 1
                            have hfz60_2 := blk_frozen BK162.out 2
                            have hfz60_3 := blk_frozen BK162.out 3
                            go_wp2_with (first | ((with_reducible refine gate_callee (f := 88) rfl ?_); refine goesL_ (some 83) rfl rfl Try.func88 (by kernel_rfl) rfl #[.agg #[.int .i64 a0_0, .int .i64 a0_1], .agg #[.int .i64 a0_2, .int .i64 a0_3], .agg #[.int .i64 a1_2, .int .i64 a1_3]] rfl (by (try simp only [List.map_toArray, List.map_cons, List.map_nil]); first | done | rfl | (simp only [List.length_drop, List.length_take]; rfl)) ?_; (with_reducible refine (plane_on.calls a0_0 a0_1 a0_2 a0_3 a1_2 a1_3 false _ A50.out).mono ?_); rintro e w61 ⟨rfl, hb⟩; refine ⟨_, rfl, ?_⟩; have n0_ := Aside0.mk (blk_below (g := gb161) (o := .cells #[.int .i64 a0_0, .int .i64 a0_1, .int .i64 a0_2, .int .i64 a0_3] 34 (0, 0)) (by (with_reducible repeat (first | refine blk_drewN ?_ _ | refine blk_drew ?_ | refine blk_alloc ?_ _)); exact BK161.out) hb); have n1_ := Aside0.mk (blk_below (g := gb162) (o := .cells #[.int .i64 a1_0, .int .i64 a1_1, .int .i64 a1_2, .int .i64 a1_3] 34 (0, 0)) (by (with_reducible repeat (first | refine blk_drewN ?_ _ | refine blk_drew ?_ | refine blk_alloc ?_ _)); exact BK162.out) hb); have n2_ := Aside0.mk (below_step (by repeat (first | (with_reducible first | exact HB.out | apply below_alloc | apply pw_below_drewN | apply below_drew1 | refine below_set ?_ GE161.out | refine below_set ?_ GE162.out) | exact HB.out)) hb); clear BK161; clear BK162; clear HB; have BK161 := n0_; have BK162 := n1_; have HB := n2_; clear n0_ n1_ n2_; (try clear hb); (try clear hb2); (try clear hk); (try clear hi); have hcz62_0 : w61.cell? ⟨gb162, 0, none⟩ = some (.int .i64 a1_0) := (blk_cell BK162.out 0).trans rfl; have hcz62_1 : w61.cell? ⟨gb162, 1, none⟩ = some (.int .i64 a1_1) := (blk_cell BK162.out 1).trans rfl; have hcz62_2 : w61.cell? ⟨gb162, 2, none⟩ = some (.int .i64 a1_2) := (blk_cell BK162.out 2).trans rfl; have hcz62_3 : w61.cell? ⟨gb162, 3, none⟩ = some (.int .i64 a1_3) := (blk_cell BK162.out 3).trans rfl; have hfz62_0 := blk_frozen BK162.out 0; have hfz62_1 := blk_frozen BK162.out 1; have hfz62_2 := blk_frozen BK162.out 2; have hfz62_3 := blk_frozen BK162.out 3; have hcz63_0 : w61.cell? ⟨gb161, 0, none⟩ = some (.int .i64 a0_0) := (blk_cell BK161.out 0).trans rfl; have hcz63_1 : w61.cell? ⟨gb161, 1, none⟩ = some (.int .i64 a0_1) := (blk_cell BK161.out 1).trans rfl; have hcz63_2 : w61.cell? ⟨gb161, 2, none⟩ = some (.int .i64 a0_2) := (blk_cell BK161.out 2).trans rfl; have hcz63_3 : w61.cell? ⟨gb161, 3, none⟩ = some (.int .i64 a0_3) := (blk_cell BK161.out 3).trans rfl; have hfz63_0 := blk_frozen BK161.out 0; have hfz63_1 := blk_frozen BK161.out 1; have hfz63_2 := blk_frozen BK161.out 2; have hfz63_3 := blk_frozen BK161.out 3) | ((with_reducible refine gate_callee (f := 88) rfl ?_); refine goesL_ (some 90) rfl rfl Try.func88 (by kernel_rfl) rfl #[.agg #[.int .i64 a1_0, .int .i64 a1_1], .agg #[.int .i64 a1_2, .int .i64 a1_3], .agg #[.int .i64 a0_0, .int .i64 a0_1]] rfl (by (try simp only [List.map_toArray, List.map_cons, List.map_nil]); first | done | rfl | (simp only [List.length_drop, List.length_take]; rfl)) ?_; (with_reducible refine (plane_on.calls a1_0 a1_1 a1_2 a1_3 a0_0 a0_1 true _ A56.out).mono ?_); rintro e w64 ⟨rfl, hb⟩; refine ⟨_, rfl, ?_⟩; have n0_ := Aside0.mk (blk_below (g := gb161) (o := .cells #[.int .i64 a0_0, .int .i64 a0_1, .int .i64 a0_2, .int .i64 a0_3] 34 (0, 0)) (by (with_reducible repeat (first | refine blk_drewN ?_ _ | refine blk_drew ?_ | refine blk_alloc ?_ _)); exact BK161.out) hb); have n1_ := Aside0.mk (blk_below (g := gb162) (o := .cells #[.int .i64 a1_0, .int .i64 a1_1, .int .i64 a1_2, .int .i64 a1_3] 34 (0, 0)) (by (with_reducible repeat (first | refine blk_drewN ?_ _ | refine blk_drew ?_ | refine blk_alloc ?_ _)); exact BK162.out) hb); have n2_ := Aside0.mk (below_step (by repeat (first | (with_reducible first | exact HB.out | apply below_alloc | apply pw_below_drewN | apply below_drew1 | refine below_set ?_ GE161.out | refine below_set ?_ GE162.out) | exact HB.out)) hb); clear BK161; clear BK162; clear HB; have BK161 := n0_; have BK162 := n1_; have HB := n2_; clear n0_ n1_ n2_; (try clear hb); (try clear hb2); (try clear hk); (try clear hi)))
                            go_meet
                            case rel => exact ⟨_, (true), (by first | rfl | (simp; done) | (simp [*]; done)), H', ⟨by have := HJ2.out; have := HJ25.out; have := HJ39.out; first | omega | exact Nat.le_refl _⟩, ⟨by (with_reducible repeat (first | refine blk_drewN ?_ _ | refine blk_drew ?_ | refine blk_alloc ?_ _)); exact BK161.out⟩, ⟨by (with_reducible repeat (first | refine blk_drewN ?_ _ | refine blk_drew ?_ | refine blk_alloc ?_ _)); exact BK162.out⟩, ⟨by repeat (first | (with_reducible first | exact HB.out | apply below_alloc | apply pw_below_drewN | apply below_drew1 | refine below_set ?_ GE161.out | refine below_set ?_ GE162.out) | exact HB.out)⟩⟩
                          · replace c57 := Bool.eq_false_iff.mpr c57
                            subst c57
                            have H1 : ((plane_on.f a1_0 a1_1 a1_2 a1_3 a0_2 a0_3).bind fun t177 => (plane_Meeting.j3 kj39 t177)) = some r := by rw [if_neg (show ¬ (false = true) by decide)] at H; exact H
                            clear H
                            have H := H1
                            clear H1
                            replace H := Option.bind_eq_some_iff.mp H
                            obtain ⟨t177, A650, H⟩ := H
                            replace H : (plane_Meeting.j3 kj39 t177) = some r := H
                            have A65 := Aside0.mk A650
                            clear A650
                            have H' := Aside0.mk H
                            clear H
                            have hnb66 := NB161_162.out
                            have hnc66 := NB162_161.out
                            have hcz67_0 : w48.cell? ⟨gb161, 0, none⟩ = some (.int .i64 a0_0) := (blk_cell BK161.out 0).trans rfl
                            have hcz67_1 : w48.cell? ⟨gb161, 1, none⟩ = some (.int .i64 a0_1) := (blk_cell BK161.out 1).trans rfl
                            have hcz67_2 : w48.cell? ⟨gb161, 2, none⟩ = some (.int .i64 a0_2) := (blk_cell BK161.out 2).trans rfl
                            have hcz67_3 : w48.cell? ⟨gb161, 3, none⟩ = some (.int .i64 a0_3) := (blk_cell BK161.out 3).trans rfl
                            have hfz67_0 := blk_frozen BK161.out 0
                            have hfz67_1 := blk_frozen BK161.out 1
                            have hfz67_2 := blk_frozen BK161.out 2
                            have hfz67_3 := blk_frozen BK161.out 3
                            have hcz68_0 : w48.cell? ⟨gb162, 0, none⟩ = some (.int .i64 a1_0) := (blk_cell BK162.out 0).trans rfl
                            have hcz68_1 : w48.cell? ⟨gb162, 1, none⟩ = some (.int .i64 a1_1) := (blk_cell BK162.out 1).trans rfl
                            have hcz68_2 : w48.cell? ⟨gb162, 2, none⟩ = some (.int .i64 a1_2) := (blk_cell BK162.out 2).trans rfl
                            have hcz68_3 : w48.cell? ⟨gb162, 3, none⟩ = some (.int .i64 a1_3) := (blk_cell BK162.out 3).trans rfl
                            have hfz68_0 := blk_frozen BK162.out 0
                            have hfz68_1 := blk_frozen BK162.out 1
                            have hfz68_2 := blk_frozen BK162.out 2
                            have hfz68_3 := blk_frozen BK162.out 3
                            go_wp2_with (first | ((with_reducible refine gate_callee (f := 88) rfl ?_); refine goesL_ (some 83) rfl rfl Try.func88 (by kernel_rfl) rfl #[.agg #[.int .i64 a0_0, .int .i64 a0_1], .agg #[.int .i64 a0_2, .int .i64 a0_3], .agg #[.int .i64 a1_2, .int .i64 a1_3]] rfl (by (try simp only [List.map_toArray, List.map_cons, List.map_nil]); first | done | rfl | (simp only [List.length_drop, List.length_take]; rfl)) ?_; (with_reducible refine (plane_on.calls a0_0 a0_1 a0_2 a0_3 a1_2 a1_3 false _ A50.out).mono ?_); rintro e w69 ⟨rfl, hb⟩; refine ⟨_, rfl, ?_⟩; have n0_ := Aside0.mk (blk_below (g := gb161) (o := .cells #[.int .i64 a0_0, .int .i64 a0_1, .int .i64 a0_2, .int .i64 a0_3] 34 (0, 0)) (by (with_reducible repeat (first | refine blk_drewN ?_ _ | refine blk_drew ?_ | refine blk_alloc ?_ _)); exact BK161.out) hb); have n1_ := Aside0.mk (blk_below (g := gb162) (o := .cells #[.int .i64 a1_0, .int .i64 a1_1, .int .i64 a1_2, .int .i64 a1_3] 34 (0, 0)) (by (with_reducible repeat (first | refine blk_drewN ?_ _ | refine blk_drew ?_ | refine blk_alloc ?_ _)); exact BK162.out) hb); have n2_ := Aside0.mk (below_step (by repeat (first | (with_reducible first | exact HB.out | apply below_alloc | apply pw_below_drewN | apply below_drew1 | refine below_set ?_ GE161.out | refine below_set ?_ GE162.out) | exact HB.out)) hb); clear BK161; clear BK162; clear HB; have BK161 := n0_; have BK162 := n1_; have HB := n2_; clear n0_ n1_ n2_; (try clear hb); (try clear hb2); (try clear hk); (try clear hi); have hcz70_0 : w69.cell? ⟨gb162, 0, none⟩ = some (.int .i64 a1_0) := (blk_cell BK162.out 0).trans rfl; have hcz70_1 : w69.cell? ⟨gb162, 1, none⟩ = some (.int .i64 a1_1) := (blk_cell BK162.out 1).trans rfl; have hcz70_2 : w69.cell? ⟨gb162, 2, none⟩ = some (.int .i64 a1_2) := (blk_cell BK162.out 2).trans rfl; have hcz70_3 : w69.cell? ⟨gb162, 3, none⟩ = some (.int .i64 a1_3) := (blk_cell BK162.out 3).trans rfl; have hfz70_0 := blk_frozen BK162.out 0; have hfz70_1 := blk_frozen BK162.out 1; have hfz70_2 := blk_frozen BK162.out 2; have hfz70_3 := blk_frozen BK162.out 3; have hcz71_0 : w69.cell? ⟨gb161, 0, none⟩ = some (.int .i64 a0_0) := (blk_cell BK161.out 0).trans rfl; have hcz71_1 : w69.cell? ⟨gb161, 1, none⟩ = some (.int .i64 a0_1) := (blk_cell BK161.out 1).trans rfl; have hcz71_2 : w69.cell? ⟨gb161, 2, none⟩ = some (.int .i64 a0_2) := (blk_cell BK161.out 2).trans rfl; have hcz71_3 : w69.cell? ⟨gb161, 3, none⟩ = some (.int .i64 a0_3) := (blk_cell BK161.out 3).trans rfl; have hfz71_0 := blk_frozen BK161.out 0; have hfz71_1 := blk_frozen BK161.out 1; have hfz71_2 := blk_frozen BK161.out 2; have hfz71_3 := blk_frozen BK161.out 3) | ((with_reducible refine gate_callee (f := 88) rfl ?_); refine goesL_ (some 90) rfl rfl Try.func88 (by kernel_rfl) rfl #[.agg #[.int .i64 a1_0, .int .i64 a1_1], .agg #[.int .i64 a1_2, .int .i64 a1_3], .agg #[.int .i64 a0_0, .int .i64 a0_1]] rfl (by (try simp only [List.map_toArray, List.map_cons, List.map_nil]); first | done | rfl | (simp only [List.length_drop, List.length_take]; rfl)) ?_; (with_reducible refine (plane_on.calls a1_0 a1_1 a1_2 a1_3 a0_0 a0_1 false _ A56.out).mono ?_); rintro e w72 ⟨rfl, hb⟩; refine ⟨_, rfl, ?_⟩; have n0_ := Aside0.mk (blk_below (g := gb161) (o := .cells #[.int .i64 a0_0, .int .i64 a0_1, .int .i64 a0_2, .int .i64 a0_3] 34 (0, 0)) (by (with_reducible repeat (first | refine blk_drewN ?_ _ | refine blk_drew ?_ | refine blk_alloc ?_ _)); exact BK161.out) hb); have n1_ := Aside0.mk (blk_below (g := gb162) (o := .cells #[.int .i64 a1_0, .int .i64 a1_1, .int .i64 a1_2, .int .i64 a1_3] 34 (0, 0)) (by (with_reducible repeat (first | refine blk_drewN ?_ _ | refine blk_drew ?_ | refine blk_alloc ?_ _)); exact BK162.out) hb); have n2_ := Aside0.mk (below_step (by repeat (first | (with_reducible first | exact HB.out | apply below_alloc | apply pw_below_drewN | apply below_drew1 | refine below_set ?_ GE161.out | refine below_set ?_ GE162.out) | exact HB.out)) hb); clear BK161; clear BK162; clear HB; have BK161 := n0_; have BK162 := n1_; have HB := n2_; clear n0_ n1_ n2_; (try clear hb); (try clear hb2); (try clear hk); (try clear hi); have hcz73_0 : w72.cell? ⟨gb162, 0, none⟩ = some (.int .i64 a1_0) := (blk_cell BK162.out 0).trans rfl; have hcz73_1 : w72.cell? ⟨gb162, 1, none⟩ = some (.int .i64 a1_1) := (blk_cell BK162.out 1).trans rfl; have hcz73_2 : w72.cell? ⟨gb162, 2, none⟩ = some (.int .i64 a1_2) := (blk_cell BK162.out 2).trans rfl; have hcz73_3 : w72.cell? ⟨gb162, 3, none⟩ = some (.int .i64 a1_3) := (blk_cell BK162.out 3).trans rfl; have hfz73_0 := blk_frozen BK162.out 0; have hfz73_1 := blk_frozen BK162.out 1; have hfz73_2 := blk_frozen BK162.out 2; have hfz73_3 := blk_frozen BK162.out 3; have hcz74_0 : w72.cell? ⟨gb161, 0, none⟩ = some (.int .i64 a0_0) := (blk_cell BK161.out 0).trans rfl; have hcz74_1 : w72.cell? ⟨gb161, 1, none⟩ = some (.int .i64 a0_1) := (blk_cell BK161.out 1).trans rfl; have hcz74_2 : w72.cell? ⟨gb161, 2, none⟩ = some (.int .i64 a0_2) := (blk_cell BK161.out 2).trans rfl; have hcz74_3 : w72.cell? ⟨gb161, 3, none⟩ = some (.int .i64 a0_3) := (blk_cell BK161.out 3).trans rfl; have hfz74_0 := blk_frozen BK161.out 0; have hfz74_1 := blk_frozen BK161.out 1; have hfz74_2 := blk_frozen BK161.out 2; have hfz74_3 := blk_frozen BK161.out 3) | ((with_reducible refine gate_callee (f := 88) rfl ?_); refine goesL_ (some 97) rfl rfl Try.func88 (by kernel_rfl) rfl #[.agg #[.int .i64 a1_0, .int .i64 a1_1], .agg #[.int .i64 a1_2, .int .i64 a1_3], .agg #[.int .i64 a0_2, .int .i64 a0_3]] rfl (by (try simp only [List.map_toArray, List.map_cons, List.map_nil]); first | done | rfl | (simp only [List.length_drop, List.length_take]; rfl)) ?_; (with_reducible refine (plane_on.calls a1_0 a1_1 a1_2 a1_3 a0_2 a0_3 t177 _ A65.out).mono ?_); rintro e w75 ⟨rfl, hb⟩; refine ⟨_, rfl, ?_⟩; have n0_ := Aside0.mk (blk_below (g := gb161) (o := .cells #[.int .i64 a0_0, .int .i64 a0_1, .int .i64 a0_2, .int .i64 a0_3] 34 (0, 0)) (by (with_reducible repeat (first | refine blk_drewN ?_ _ | refine blk_drew ?_ | refine blk_alloc ?_ _)); exact BK161.out) hb); have n1_ := Aside0.mk (blk_below (g := gb162) (o := .cells #[.int .i64 a1_0, .int .i64 a1_1, .int .i64 a1_2, .int .i64 a1_3] 34 (0, 0)) (by (with_reducible repeat (first | refine blk_drewN ?_ _ | refine blk_drew ?_ | refine blk_alloc ?_ _)); exact BK162.out) hb); have n2_ := Aside0.mk (below_step (by repeat (first | (with_reducible first | exact HB.out | apply below_alloc | apply pw_below_drewN | apply below_drew1 | refine below_set ?_ GE161.out | refine below_set ?_ GE162.out) | exact HB.out)) hb); clear BK161; clear BK162; clear HB; have BK161 := n0_; have BK162 := n1_; have HB := n2_; clear n0_ n1_ n2_; (try clear hb); (try clear hb2); (try clear hk); (try clear hi)))
                            go_meet
                            case rel => exact ⟨_, (t177), (by first | rfl | (simp; done) | (simp [*]; done)), H', ⟨by have := HJ2.out; have := HJ25.out; have := HJ39.out; first | omega | exact Nat.le_refl _⟩, ⟨by (with_reducible repeat (first | refine blk_drewN ?_ _ | refine blk_drew ?_ | refine blk_alloc ?_ _)); exact BK161.out⟩, ⟨by (with_reducible repeat (first | refine blk_drewN ?_ _ | refine blk_drew ?_ | refine blk_alloc ?_ _)); exact BK162.out⟩, ⟨by repeat (first | (with_reducible first | exact HB.out | apply below_alloc | apply pw_below_drewN | apply below_drew1 | refine below_set ?_ GE161.out | refine below_set ?_ GE162.out) | exact HB.out)⟩⟩
                    case rest =>
                      clear HC44
                      try clear c1
                      try clear c2
                      try clear p2
                      try clear c3
                      try clear c4
                      try clear c5
                      try clear c6
                      try clear p6
                      try clear c7
                      try clear c8
                      try clear c9
                      try clear c14
                      try clear c17
                      try clear c28
                      try clear c33
                      try clear c33b0
                      try clear c33b1
                      try clear c34
                      try clear c36
                      try clear c41
                      try clear c41b0
                      try clear c42
                      try clear c45
                      try clear c49
                      try clear c51
                      try clear c52
                      try clear c57
                      try clear c58
                      try clear p64
                      try clear c66
                      try clear hcz10_0
                      try clear hcz10_1
                      try clear hcz10_2
                      try clear hcz10_3
                      try clear hcz12_0
                      try clear hcz12_1
                      try clear hcz12_2
                      try clear hcz12_3
                      try clear hcz15_0
                      try clear hcz15_1
                      try clear hcz15_2
                      try clear hcz15_3
                      try clear hcz37_0
                      try clear hcz37_1
                      try clear hcz37_2
                      try clear hcz37_3
                      try clear hcz38_0
                      try clear hcz38_1
                      try clear hcz38_2
                      try clear hcz38_3
                      try clear hcz46_0
                      try clear hcz46_1
                      try clear hcz46_2
                      try clear hcz46_3
                      try clear hcz47_0
                      try clear hcz47_1
                      try clear hcz47_2
                      try clear hcz47_3
                      try clear hcz53_0
                      try clear hcz53_1
                      try clear hcz53_2
                      try clear hcz53_3
                      try clear hcz54_0
                      try clear hcz54_1
                      try clear hcz54_2
                      try clear hcz54_3
                      try clear hcz59_0
                      try clear hcz59_1
                      try clear hcz59_2
                      try clear hcz59_3
                      try clear hcz60_0
                      try clear hcz60_1
                      try clear hcz60_2
                      try clear hcz60_3
                      try clear hcz62_0
                      try clear hcz62_1
                      try clear hcz62_2
                      try clear hcz62_3
                      try clear hcz63_0
                      try clear hcz63_1
                      try clear hcz63_2
                      try clear hcz63_3
                      try clear hcz67_0
                      try clear hcz67_1
                      try clear hcz67_2
                      try clear hcz67_3
                      try clear hcz68_0
                      try clear hcz68_1
                      try clear hcz68_2
                      try clear hcz68_3
                      try clear hcz70_0
                      try clear hcz70_1
                      try clear hcz70_2
                      try clear hcz70_3
                      try clear hcz71_0
                      try clear hcz71_1
                      try clear hcz71_2
                      try clear hcz71_3
                      try clear hcz73_0
                      try clear hcz73_1
                      try clear hcz73_2
                      try clear hcz73_3
                      try clear hcz74_0
                      try clear hcz74_1
                      try clear hcz74_2
                      try clear hcz74_3
                      try clear hfz10_0
                      try clear hfz10_1
                      try clear hfz10_2
                      try clear hfz10_3
                      try clear hfz12_0
                      try clear hfz12_1
                      try clear hfz12_2
                      try clear hfz12_3
                      try clear hfz15_0
                      try clear hfz15_1
                      try clear hfz15_2
                      try clear hfz15_3
                      try clear hfz37_0
                      try clear hfz37_1
                      try clear hfz37_2
                      try clear hfz37_3
                      try clear hfz38_0
                      try clear hfz38_1
                      try clear hfz38_2
                      try clear hfz38_3
                      try clear hfz46_0
                      try clear hfz46_1
                      try clear hfz46_2
                      try clear hfz46_3
                      try clear hfz47_0
                      try clear hfz47_1
                      try clear hfz47_2
                      try clear hfz47_3
                      try clear hfz53_0
                      try clear hfz53_1
                      try clear hfz53_2
                      try clear hfz53_3
                      try clear hfz54_0
                      try clear hfz54_1
                      try clear hfz54_2
                      try clear hfz54_3
                      try clear hfz59_0
                      try clear hfz59_1
                      try clear hfz59_2
                      try clear hfz59_3
                      try clear hfz60_0
                      try clear hfz60_1
                      try clear hfz60_2
                      try clear hfz60_3
                      try clear hfz62_0
                      try clear hfz62_1
                      try clear hfz62_2
                      try clear hfz62_3
                      try clear hfz63_0
                      try clear hfz63_1
                      try clear hfz63_2
                      try clear hfz63_3
                      try clear hfz67_0
                      try clear hfz67_1
                      try clear hfz67_2
                      try clear hfz67_3
                      try clear hfz68_0
                      try clear hfz68_1
                      try clear hfz68_2
                      try clear hfz68_3
                      try clear hfz70_0
                      try clear hfz70_1
                      try clear hfz70_2
                      try clear hfz70_3
                      try clear hfz71_0
                      try clear hfz71_1
                      try clear hfz71_2
                      try clear hfz71_3
                      try clear hfz73_0
                      try clear hfz73_1
                      try clear hfz73_2
                      try clear hfz73_3
                      try clear hfz74_0
                      try clear hfz74_1
                      try clear hfz74_2
                      try clear hfz74_3
                      try clear p2
                      try clear p6
                      obtain ⟨kq, x69_43, rfl, HA, HJ43, BK161, BK162, HB⟩ := hcut
                      cases kq with
                      | zero => exact absurd HA.out (by simp [plane_Meeting.j3])
                      | succ kj43 =>
                        have H := HA.out
                        clear HA
                        simp only [plane_Meeting.j3] at H
                        by_cases c76 : x69_43 = true
                        · subst c76
                          have H1 : (some 1) = some r := by rw [if_pos rfl] at H; exact H
                          clear H
                          have H := H1
                          clear H1
                          obtain rfl := Option.some.inj H
                          go_wp2
                          go_ret
                          exact ⟨by first | rfl | (simp [errW_none, errW_some] <;> rfl) | (simp [*, errW_none, errW_some] <;> rfl), by repeat (first | (with_reducible first | exact HB.out | apply below_alloc | apply pw_below_drewN | apply below_drew1 | refine below_set ?_ GE161.out | refine below_set ?_ GE162.out) | exact HB.out)⟩
                        · replace c76 := Bool.eq_false_iff.mpr c76
                          subst c76
                          have H1 : (some 0) = some r := by rw [if_neg (show ¬ (false = true) by decide)] at H; exact H
                          clear H
                          have H := H1
                          clear H1
                          obtain rfl := Option.some.inj H
                          go_wp2
                          go_ret
                          exact ⟨by first | rfl | (simp [errW_none, errW_some] <;> rfl) | (simp [*, errW_none, errW_some] <;> rfl), by repeat (first | (with_reducible first | exact HB.out | apply below_alloc | apply pw_below_drewN | apply below_drew1 | refine below_set ?_ GE161.out | refine below_set ?_ GE162.out) | exact HB.out)⟩
end Go.Proofs.Ytckaejgamfllfaa.G
end

section
namespace Go.Proofs.Ytckaejgamfllfaa
variable {F : Fence} {n : Nat} {P : Program} {ops : Array Oper} {md : Region.Mode} {w : World}
structure Open (F : Fence) (n : Nat) (P : Program) : Prop where
  fn : ∀ f, F.fn f
  depth : F.depth = none
  call : ∀ {f args w R}, Calls P f args w R → CallsIn F n P f args w R
theorem open_wide (n : Nat) (P : Program) : Open Fence.wide n P := ⟨fun _ => trivial, rfl, fun h => callsIn_wide.2 h⟩
theorem Open.inRound (h : Open F n P) (l : Nat) : Open (F.inRound l) n P := ⟨h.fn, h.depth, fun x => CallsIn.inRound l (h.call x)⟩
def notDefer (o : Oper) : Bool := match o.op with | .defer _ => false | _ => true
theorem notDefer_sem {o : Oper} (h : notDefer o = true) (ro : Option Nat) (ρ : Operand → Value) : o.semAt ro ρ = execOp ρ o := by
  refine Oper.semAt_eq ro ρ o (fun c hc => ?_)
  unfold notDefer at h
  rw [hc] at h
  cases h
theorem wpIn_of_still (HF : Open F (n - 1) P) {o : Oper} {a : Act} {K : Act → Prop} {K' : Act → World → Prop} {Q' : Exit → Act → World → Prop} (h : ∀ a, K a → K' a w) (hdf : notDefer o = true) (hh : o.still P a w K) : o.wpIn F n P a w K' Q' := by
  refine ⟨fun f _ => HF.fn f, ?_⟩
  have hs : o.semAt F.round a.eval = execOp a.eval o := notDefer_sem hdf _ _
  rw [hs]
  unfold Oper.still at hh
  generalize (execOp a.eval o).run P w = r at *
  cases r with
  | ok n w' =>
    cases n <;> simp only [Oper.stillUpon] at hh <;> simp only [Oper.uponIn]
    case enter f args =>
      obtain ⟨rfl, v, hc, hn⟩ := hh
      refine ⟨fun h1 => (by rw [HF.depth] at h1; cases h1), ?_⟩
      exact HF.call (hc.mono fun e w'' ⟨he, hw⟩ => by subst he; subst hw; exact h _ hn)
    all_goals (obtain ⟨rfl, h2⟩ := hh; exact h _ h2)
  | halt x w' => simp only [Oper.stillUpon] at hh
theorem wpOpIn_of_stOp (HF : Open F (n - 1) P) (hdf : ∀ o ∈ ops, notDefer o = true) {i : Nat} {a : Act} {K : Act → Prop} {K' : Act → World → Prop} {Q' : Exit → Act → World → Prop} (h : ∀ a, K a → K' a w) (hh : stOp P ops w i K a) : wpOpIn F n P ops Q' i K' a w := by
  unfold stOp at hh
  unfold wpOpIn
  split
  · rename_i ho; simp only [ho] at hh; exact h _ hh
  · rename_i o ho
    simp only [ho] at hh
    split
    · rename_i hw; simp only [hw, if_true] at hh; exact wpIn_of_still HF h (hdf o (Array.mem_of_getElem? ho)) hh
    · rename_i hw; simp only [hw] at hh; exact ⟨fun f _ => HF.fn f, h _ hh⟩
theorem wpAnyIn_of_head (HF : Open F (n - 1) P) (hdf : ∀ o ∈ ops, notDefer o = true) {N g : Nat} {L : Array Bool → Act → Prop} {Q' : Exit → Act → World → Prop} (hL : ∀ listed a, L listed a → wpAnyIn F n P md ops Q' g listed a w) :
    ∀ (f : Nat) (listed : Array Bool) (a : Act), wpAnyL P md ops w N L f listed a → wpAnyIn F n P md ops Q' (f + g) listed a w
  | 0, listed, a, h => by rw [Nat.zero_add]; exact hL _ _ h
  | f + 1, listed, a, h => by
    rw [show f + 1 + g = (f + g) + 1 by omega]
    exact ⟨fun h0 => absurd h0 h.1, fun i hi => wpOpIn_of_stOp HF hdf (fun a' h' => wpAnyIn_of_head HF hdf hL f _ a' h') (h.2 i hi).2⟩
theorem wpAnyIn_of_seq {Q' : Exit → Act → World → Prop} : ∀ (l : List Oper) (k : Nat) (listed : Array Bool) (a : Act) (w : World), (∀ j, l[j]? = ops[k + j]?) →
    Region.seqB md ops l.length k listed = true → wpListIn F n P ops Q' l a w → wpAnyIn F n P md ops Q' l.length listed a w
  | [], _, _, _, _, _, hB, h => ⟨by simpa [Region.seqB] using hB, h⟩
  | o :: l, k, listed, a, w, hl, hB, h => by
    have h0 : ops[k]? = some o := by simpa using (hl 0).symm
    simp only [List.length_cons, Region.seqB, Bool.and_eq_true, decide_eq_true_eq] at hB
    refine ⟨fun h1 => (by rw [hB.1] at h1; cases h1), fun i hi => ?_⟩
    rw [hB.1] at hi
    have hik : i = k := by simpa using hi
    subst hik
    have hw : wpOpIn F n P ops Q' i (wpListIn F n P ops Q' l) a w := by unfold wpOpIn; simp only [h0]; exact h
    exact wpOpIn_mono (fun a' w' h' => wpAnyIn_of_seq l (i + 1) _ a' w' (fun j => by have := hl (j + 1); simpa [Nat.add_assoc, Nat.add_comm 1 j] using this) hB.2 h') hw
theorem wpIn_region_still_tail (HF : Open F (n - 1) P) {id : Nat} {Q : Exit → Act → World → Prop} {a : Act} {w : World} {l : List Oper} (N : Nat) (hm : P.follows .mixedOrders = true) (hB : Region.lexTailB .any l.toArray N = true) (hdf : l.all notDefer = true)
    (h : wpStill P l.toArray w.drew (fun a' => wpListIn F n P l.toArray Q (l.drop N) a' w.drew) (l.take N) a) : (Code.region id l.toArray true).wpIn F n P Q a w := by
  simp only [Region.lexTailB, Bool.and_eq_true, decide_eq_true_eq] at hB
  obtain ⟨⟨⟨⟨hsel, hn⟩, hs⟩, hc⟩, hlex⟩ := hB
  have hn' : N < l.length := by simpa using hn
  have htl : (l.take N).length = N := by simp; omega
  have hdl : (l.drop N).length = l.toArray.size - N := by simp
  have inv0 : HeadInv .any l.toArray N (Array.replicate l.toArray.size false) :=
    ⟨by simp, fun j oj _ hl => (by rw [getD_replicate_false] at hl; cases hl), fun t _ ht => getD_in (by simpa using ht) (getD_replicate_false _ _)⟩
  have H := wpAnyL_lex (md := .any) (g := l.toArray.size - N) hsel hs hc hn (l.take N) 0 _ a (fun j hj => by
    have hj' : j < N := by rw [htl] at hj; exact hj
    simp [hj']) (by simpa using htl) inv0 (by rw [htl]; exact hlex) h
  refine wpIn_region_any hm ?_
  have := wpAnyIn_of_head (n := n) HF (fun o ho => List.all_eq_true.1 hdf o (by simpa using ho)) (Q' := Q) (g := l.toArray.size - N) (fun listed a' hL => by
    have := wpAnyIn_of_seq (n := n) (md := .any) (Q' := Q) (l.drop N) N listed a' w.drew (fun j => by simp [List.getElem?_drop]) (by rw [hdl]; exact hL.1) hL.2
    rwa [hdl] at this) _ _ _ H
  rw [htl, show N + (l.toArray.size - N) = l.toArray.size by omega] at this
  exact this
end Go.Proofs.Ytckaejgamfllfaa
end

section
namespace Go.Proofs.Ytckaejgamfllfaa.G
open Go.RowKit Go.Shelf Go.Proofs.YtckaejgamfllfaaW.PrintWords Go.Proofs.YtckaejgamfllfaaW.PrintLast Go.Proofs.YtckaejgamfllfaaW.PrintMore
set_option linter.unusedVariables false
set_option linter.unusedSimpArgs false
attribute [local go_sem] Oper.semAt_some
def edgeAt (l : List S23) (k : Nat) : Nat × S23 × S23 := (k, l.getD k z23, l.getD ((k + 1) % l.length) z23)
def edgesTo (l : List S23) (k : Nat) : List (Nat × S23 × S23) := (List.range k).map (edgeAt l)
theorem edgesTo_succ (l : List S23) (k : Nat) : edgesTo l (k + 1) = edgesTo l k ++ [edgeAt l k] := by simp [edgesTo, List.range_succ]
theorem edgesTo_length (l : List S23) (k : Nat) : (edgesTo l k).length = k := by simp [edgesTo]
def edgeV (x : Nat × S23 × S23) : Array Value := #[.int .i64 (x.1 : Int), .agg #[.int .i64 x.2.1.f0, .int .i64 x.2.1.f1, .int .i64 x.2.2.f0, .int .i64 x.2.2.f1]]
set_option maxHeartbeats 1000000 in
theorem edges.calls (a : Option Addr) (len cap : Nat) (w : World) :
    Calls Try.prog 131 #[.slice a len cap] w fun e w' => e = .returned (.func (.func 138) #[] #[.pointer (some ⟨w.heap.size, 0, none⟩)]) ∧ w' = w.alloc (.cells #[.slice a len cap] 39) := by
  go_enter Try.func131, Try.ntmps131
  go_wp2
  go_ret
  exact ⟨rfl, rfl⟩
set_option maxRecDepth 100000 in
set_option maxHeartbeats 2000000 in
theorem edges_in (n : Nat) (hn : 1 ≤ n) (l Bs : Nat) (A0 : Option Addr) (cap : Nat) (l0 : List S23) (w : World) (hr0 : Kd.C k23 w A0 l0.length l0) (hm : l0.length ≤ 9223372036854775806) (J Jx : List (Nat × S23 × S23) → World → Prop)
    (hY : ∀ pre x W, J pre W → pre.length < l0.length → YieldAt Fence.wide (n - 1) Try.prog l (edgeV x) W fun e W' =>
      (e = .returned (.bool true) ∧ J (pre ++ [x]) W' ∧ Below w.heap.size W W') ∨ (e = .returned (.bool false) ∧ Jx (pre ++ [x]) W'))
    (W : World) (hBW : Below w.heap.size w W) (hBs : W.cell? ⟨Bs, 0, none⟩ = some (.slice A0 l0.length cap)) (hwB : w.heap.size ≤ Bs) (hd : ∀ pre W', J pre W' → J pre W'.drew) (hkeep : ∀ pre W', J pre W' → W'.cell? ⟨Bs, 0, none⟩ = some (.slice A0 l0.length cap)) (h0 : J [] W) :
    CallsIn Fence.wide n Try.prog 138 #[.func (.yield l) #[] #[], .pointer (some ⟨Bs, 0, none⟩)] W fun e W' => (∃ v, e = .returned v) ∧
      ((∃ ys, ys = edgesTo l0 l0.length ∧ J ys W') ∨ (∃ pre, (∃ k, k ≤ l0.length ∧ pre = edgesTo l0 k) ∧ Jx pre W')) := by
  have HR0 := Aside0.mk hr0
  clear hr0
  have hu23 := Try.underlying23
  refine callsIn_of_wp Try.func138 rfl trivial ?_ rfl
  simp only [Try.ntmps138, List.size_toArray, List.length_cons, List.length_nil, Nat.reduceAdd, Nat.reduceSub, Array.replicate_succ, Array.replicate_zero, List.push_toArray, List.append_toArray, List.nil_append, List.cons_append]
  gi_wp2
  gi_loopw [6] (fun i wr => ∃ k : Nat, k ≤ l0.length ∧ i = .int .i64 k ∧ J (edgesTo l0 k) wr ∧ Below w.heap.size w wr)
    (fun i _ => l0.length - (intOf i).toNat)
  case atStart => exact ⟨0, Nat.zero_le _, rfl, h0, hBW⟩
  case round =>
    obtain ⟨k, hk, rfl, hJs, hB⟩ := hrel
    by_cases hlt : k < l0.length
    · obtain ⟨ad, e294, hx0, hx1⟩ := at_T23 HR0.out (k : Int) (by omega) (by omega)
      have hmod : (k + 1) % l0.length < l0.length := Nat.mod_lt _ (by omega)
      obtain ⟨ad', e295, hy0, hy1⟩ := at_T23 HR0.out (((k + 1) % l0.length : Nat) : Int) (by omega) (by omega)
      cases e294
      obtain rfl := Option.some.inj e295
      replace hx0 := (hB.cell (World.block_lt_of_cell? w _ hx0)).trans hx0
      replace hx1 := (hB.cell (World.block_lt_of_cell? w _ hx1)).trans hx1
      replace hy0 := (hB.cell (World.block_lt_of_cell? w _ hy0)).trans hy0
      replace hy1 := (hB.cell (World.block_lt_of_cell? w _ hy1)).trans hy1
      simp only [Int.toNat_natCast] at hx0 hx1 hy0 hy1
      have hbox := hkeep _ _ hJs
      obtain ⟨fn, tmps, assign, body, hy, hR⟩ := hY _ (edgeAt l0 k) wr.drew (hd _ _ hJs) (by rw [edgesTo_length]; exact hlt)
      dsimp only [edgeV, edgeAt] at hy
      clear e295
      simp only [show rd_T23 l0 (k : Int) = l0.getD k z23 from rfl, show rd_T23 l0 (((k + 1) % l0.length : Nat) : Int) = l0.getD ((k + 1) % l0.length) z23 from rfl] at hx0 hx1 hy0 hy1
      generalize l0.getD k z23 = P at hx0 hx1 hy
      generalize l0.getD ((k + 1) % l0.length) z23 = P' at hy0 hy1 hy
      generalize hmm : (k + 1) % l0.length = m at hmod hy0 hy1
      have hq : Int.tmod ((k : Int) + 1) (l0.length : Int) = (m : Int) := by
        rw [← hmm]; rfl
      have hw1 : IntKind.i64.wrap ((k : Int) + 1) = (k : Int) + 1 := by rw [IntKind.wrap_i64]; omega
      have hne : ¬ l0 = [] := fun h => by rw [h] at hlt; exact absurd hlt (by simp)
      have hne2 : ¬ ((l0.length : Int) = 0) := by omega
      have hmo : Try.prog.follows .mixedOrders = true := by kernel_rfl
      clear hm hmm hY hkeep hBW hBs h0
      replace hR := hR.mono (R' := fun e W' => ∃ b : Bool, e = .returned (.bool b) ∧ Aside0 ((b = true ∧ J (edgesTo l0 k ++ [edgeAt l0 k]) W' ∧ Below w.heap.size wr.drew W') ∨ (b = false ∧ Jx (edgesTo l0 k ++ [edgeAt l0 k]) W')))
        (by rintro e W3 (⟨rfl, h1, h2⟩ | ⟨rfl, h1⟩)
            · exact ⟨true, rfl, ⟨.inl ⟨rfl, h1, h2⟩⟩⟩
            · exact ⟨false, rfl, ⟨.inr ⟨rfl, h1⟩⟩⟩)
      gi_wp2
      refine wpIn_region_still_tail (open_wide _ _) 15 hmo (by kernel_rfl) (by rfl) ?_
      simp only [List.take_succ_cons, List.take_zero, List.drop_succ_cons, List.drop_zero]
      repeat still_step
      refine wpStill_nil ?_
      gi_wp2
      refine hR.mono ?_
      rintro e W3 ⟨b, rfl, hQ⟩
      cases b with
      | true =>
        have hQ2 := Aside0.mk (show J (edgesTo l0 (k + 1)) W3 ∧ Below w.heap.size w W3 by
          rcases hQ.out with ⟨_, h1, h2⟩ | ⟨h1, _⟩
          · exact ⟨by rw [edgesTo_succ]; exact h1, hB.trans (⟨h2.os, h2.tape, h2.output, h2.size, h2.block⟩ : Below w.heap.size wr W3)⟩
          · cases h1)
        clear hQ
        gi_wp2
        go_roundw
        case rel => exact ⟨k + 1, by omega, by simp, hQ2.out.1, hQ2.out.2⟩
        case measure => simp [intOf]; omega
      | false =>
        have hQ2 := Aside0.mk (show Jx (edgesTo l0 (k + 1)) W3 by
          rcases hQ.out with ⟨h1, _⟩ | ⟨_, h1⟩
          · cases h1
          · rw [edgesTo_succ]; exact h1)
        clear hQ
        gi_wp2
        refine bodyPost_ret (results_none rfl _ _ _) rfl ?_
        exact ⟨⟨_, rfl⟩, .inr ⟨_, ⟨k + 1, by omega, rfl⟩, hQ2.out⟩⟩
    · obtain rfl : k = l0.length := by omega
      clear hY hkeep hBW hBs h0
      gi_wp2
      go_end0
      exact ⟨⟨_, rfl⟩, .inl ⟨_, rfl, hJs⟩⟩
def KpE (n0 Bs : Nat) (A B : World) : Prop := Below n0 A B ∧ B.heap[Bs]? = A.heap[Bs]?
theorem KpE.refl (n0 Bs : Nat) (A : World) : KpE n0 Bs A A := ⟨Below.refl _ _, rfl⟩
theorem KpE.trans {n0 Bs : Nat} {A B C : World} (h : KpE n0 Bs A B) (k : KpE n0 Bs B C) : KpE n0 Bs A C := ⟨h.1.trans k.1, k.2.trans h.2⟩
theorem KpE.put {n0 Bs : Nat} {w : World} (hn : n0 ≤ w.heap.size) (hB : Bs < w.heap.size) (W : World) (l : Nat) (o o' : Obj) (hl : w.heap.size ≤ l) (h : W.heap[l]? = some o) (h1 : o.isCells = false) (h2 : o.isWalk = false) : KpE n0 Bs W (W.putObj l o') :=
  ⟨belowK_b hn W l o o' hl h h1 h2, by rw [World.putObj_heap_other (by omega)]⟩
theorem KpE.of_below {n0 Bs : Nat} {A B : World} (hB : Bs < A.heap.size) (hn : n0 ≤ A.heap.size) (h : Below A.heap.size A B) : KpE n0 Bs A B := ⟨h.mono hn, h.block _ hB⟩
theorem KpE.setCell {n0 Bs : Nat} (A : World) {b : Nat} (hn : n0 ≤ b) (hb : b ≠ Bs) (v : Value) : KpE n0 Bs A (A.setCell ⟨b, 0, none⟩ v) := ⟨(Below.refl _ _).setCell (p := ⟨b, 0, none⟩) hn v, Below.heap_setCell _ _ _ _ (Ne.symm hb)⟩
theorem KpE.alloc {n0 Bs : Nat} (A : World) (hn : n0 ≤ A.heap.size) (hB : Bs < A.heap.size) (o : Obj) : KpE n0 Bs A (A.alloc o) := ⟨(Below.refl _ _).alloc hn o, Below.heap_alloc _ _ _ hB⟩
theorem edges_stops (n : Nat) (hn : 1 ≤ n) (Bs : Nat) (A0 : Option Addr) (cap : Nat) (l0 : List S23) (w W0 : World) (hr0 : Kd.C k23 w A0 l0.length l0) (hm : l0.length ≤ 9223372036854775806)
    (hB : Below w.heap.size w W0) (hwB : w.heap.size ≤ Bs) (hBs : W0.heap[Bs]? = some (.cells #[.slice A0 l0.length cap] 39 (0, 0))) :
    SeqStopsK Fence.wide n Try.prog 138 #[.pointer (some ⟨Bs, 0, none⟩)] edgeV (KpE w.heap.size Bs) (fun ys => ys = edgesTo l0 l0.length) (fun pre => ∃ k, k ≤ l0.length ∧ pre = edgesTo l0 k) l0.length W0 := by
  intro l J Jx W hW hJ hJx hY h0
  have hlt : Bs < W0.heap.size := (Array.getElem?_eq_some_iff.1 hBs).1
  have hcell : ∀ W' : World, W'.heap[Bs]? = W0.heap[Bs]? → W'.cell? ⟨Bs, 0, none⟩ = some (.slice A0 l0.length cap) := fun W' h => by
    simp [World.cell?, h, hBs]
  refine (edges_in n hn l Bs A0 cap l0 w hr0 hm (fun pre W' => J pre W' ∧ W'.heap[Bs]? = W0.heap[Bs]?) (fun pre W' => Jx pre W')
    (fun pre x W1 h1 h2 => ?_) W (hB.trans (hW.mono hB.size)) (hcell W (hW.block _ hlt)) hwB
    (fun pre W' h => ⟨hJ _ _ _ none h.1 ⟨rfl, rfl, rfl, Nat.le_refl _, fun _ _ _ => rfl⟩ (fun r e => by cases e), h.2⟩) (fun pre W' h => hcell W' h.2) ⟨h0, hW.block _ hlt⟩).mono ?_
  · obtain ⟨fn, tmps, assign, body, hy, hR⟩ := hY pre x W1 h1.1 h2
    refine ⟨fn, tmps, assign, body, hy, hR.mono ?_⟩
    rintro e W' (⟨he, h3, h4⟩ | ⟨he, h3⟩)
    · exact .inl ⟨he, ⟨h3, h4.2.trans h1.2⟩, h4.1⟩
    · exact .inr ⟨he, h3⟩
  · rintro e W' ⟨he, ⟨ys, h1, h2⟩ | ⟨pre, h1, h2⟩⟩
    · exact ⟨he, .inl ⟨ys, h1, h2.1⟩⟩
    · exact ⟨he, .inr ⟨pre, h1, h2⟩⟩
end Go.Proofs.Ytckaejgamfllfaa.G
end

section
namespace Go.Proofs.Ytckaejgamfllfaa.G
open Go.RowKit Go.Proofs.YtckaejgamfllfaaW.PrintWords Go.Proofs.YtckaejgamfllfaaW.PrintLast Go.Proofs.YtckaejgamfllfaaW.PrintMore
def Blk (W : World) (B : Nat) (cs : Array Value) (t : TypeId) : Prop := W.heap[B]? = some (.cells cs t (0, 0))
theorem Blk.lt {W : World} {B : Nat} {t : TypeId} {cs : Array Value} (h : Blk W B cs t) : B < W.heap.size := (Array.getElem?_eq_some_iff.1 h).1
theorem Blk.new (W : World) (t : TypeId) (cs : Array Value) : Blk (W.alloc (.cells cs t)) W.heap.size cs t := World.alloc_heap_new W _
theorem Blk.cell {W : World} {B : Nat} {t : TypeId} {cs : Array Value} (h : Blk W B cs t) (j : Nat) : W.cell? ⟨B, j, none⟩ = cs[j]? := by simp [World.cell?, show W.heap[B]? = _ from h]
theorem Blk.frozen {W : World} {B : Nat} {t : TypeId} {cs : Array Value} (h : Blk W B cs t) (j : Nat) : W.frozen? ⟨B, j, none⟩ = false := by simp [World.frozen?, show W.heap[B]? = _ from h]
theorem Blk.kept {W W' : World} {row : Option Nat} {B : Nat} {t : TypeId} {cs : Array Value} (h : Blk W B cs t) (hg : W.grownBy W' row) (hne : some B ≠ row) : Blk W' B cs t := (hg.block B h.lt hne).trans h
theorem Blk.alloc {W : World} {B : Nat} {t : TypeId} {cs : Array Value} (h : Blk W B cs t) (o : Obj) : Blk (W.alloc o) B cs t := h.kept (World.grownBy_alloc W o none) (by simp)
theorem Blk.below {W W' : World} {B : Nat} {t : TypeId} {cs : Array Value} (h : Blk W B cs t) (hb : Below W.heap.size W W') : Blk W' B cs t := (hb.block B h.lt).trans h
theorem Blk.other {W : World} {B B' : Nat} {t : TypeId} {cs : Array Value} (h : Blk W B cs t) (hne : B ≠ B') (u : Value) : Blk (W.setCell ⟨B', 0, none⟩ u) B cs t := h.kept (grownBy_setCell' W B' u) (fun e => hne (by cases e; rfl))
theorem blk_own {β : Type} (B : Nat) (t : TypeId) (f : β → Array Value) : Own (fun s W => Blk W B (f s) t) := fun s X Y row hs hg hrow =>
  hs.kept hg (fun e' => by obtain ⟨o, ho, hc⟩ := hrow B e'.symm; rw [show X.heap[B]? = _ from hs] at ho; cases ho; cases hc)
theorem boxed_below {W W' : World} {B : Nat} {t : TypeId} {v : Value} (h : Boxed W B t v) (hb : Below W.heap.size W W') : Boxed W' B t v := (hb.block B h.lt).trans h
theorem boxed_drew {W : World} {B : Nat} {t : TypeId} {v : Value} (h : Boxed W B t v) : Boxed W.drew B t v := h
theorem Blk.drew {W : World} {B : Nat} {t : TypeId} {cs : Array Value} (h : Blk W B cs t) : Blk W.drew B cs t := h
theorem wrap_i64_eq (n : Int) : IntKind.i64.wrap n = wrap64 n := by rw [IntKind.wrap_i64]; unfold wrap64; rfl
theorem keepsFrom_below (B : Nat) {W W' : World} (h : Below W.heap.size W W') : KeepsFrom B W W' := KeepsFrom.of_grownBy (grown_of_below h none) (fun j e => by cases e)
end Go.Proofs.Ytckaejgamfllfaa.G
end

section
namespace Go.Proofs.Ytckaejgamfllfaa.G
open Go.RowKit Go.Shelf Go.Proofs.YtckaejgamfllfaaW.PrintWords Go.Proofs.YtckaejgamfllfaaW.PrintLast Go.Proofs.YtckaejgamfllfaaW.PrintMore
set_option linter.unusedVariables false
set_option linter.unusedSimpArgs false
attribute [local go_sem] Oper.semAt_some
def areaStep (n : Int) (e : Nat × S23 × S23) : Int := wrap64 (n + wrap64 (wrap64 (e.2.1.f0 * e.2.2.f1) - wrap64 (e.2.2.f0 * e.2.1.f1)))
def areaOf (l : List (Nat × S23 × S23)) : Int := l.foldl areaStep 0
theorem areaOf_snoc (l : List (Nat × S23 × S23)) (e : Nat × S23 × S23) : areaOf (l ++ [e]) = areaStep (areaOf l) e := by simp [areaOf]
def plane_area.f (l0 : List S23) : Option Int := if l0.length ≤ 9223372036854775806 then some (areaOf (edgesTo l0 l0.length)) else none
set_option maxRecDepth 100000 in
set_option maxHeartbeats 4000000 in
theorem area_any (A0 : Option Addr) (c0 : Nat) (l0 : List S23) (w : World) (hr0 : Kd.C k23 w A0 l0.length l0) (hm : l0.length ≤ 9223372036854775806) :
    Calls Try.prog 93 #[.slice A0 l0.length c0] w fun e w' => e = .returned (.int .i64 (areaOf (edgesTo l0 l0.length))) ∧ Below w.heap.size w w' := by
  refine (callsIn_wide (n := 6)).1 ?_
  have HM := Aside0.mk hm
  clear hm
  refine callsIn_of_wp_marks Try.func93 rfl trivial ?_ rfl
  simp only [Try.ntmps93, List.size_toArray, List.length_cons, List.length_nil, Nat.reduceAdd, Nat.reduceSub, Array.replicate_succ, Array.replicate_zero, List.push_toArray, List.append_toArray, List.nil_append, List.cons_append]
  gi_wp2_with (refine ⟨trivial, ?_⟩; gi_at_call 131; refine (callsIn_wide.2 (edges.calls _ _ _ _)).mono ?_; rintro e w' ⟨rfl, rfl⟩)
  have bS := (Boxed.new w 3 (.int .i64 0)).alloc (.cells #[.slice A0 l0.length c0] 39)
  have bN := Blk.new (w.alloc (.cells #[.int .i64 0] 3)) 39 #[.slice A0 l0.length c0]
  simp only [World.size_alloc] at bN
  have hB0 : Below w.heap.size w ((w.alloc (.cells #[.int .i64 0] 3)).alloc (.cells #[.slice A0 l0.length c0] 39)) := ((Below.refl _ w).alloc (Nat.le_refl _) _).alloc (by simp) _
  have hsz : ((w.alloc (.cells #[.int .i64 0] 3)).alloc (.cells #[.slice A0 l0.length c0] 39)).heap.size = w.heap.size + 2 := by simp
  obtain ⟨W0, hW0⟩ : ∃ W0, (w.alloc (.cells #[.int .i64 0] 3)).alloc (.cells #[.slice A0 l0.length c0] 39) = W0 := ⟨_, rfl⟩
  rw [hW0] at bS bN hB0 hsz ⊢
  clear hW0
  have hu34 := Try.underlying34
  have hu23 := Try.underlying23
  refine wpIn_rangeFunc_ownH rfl (by omega) (gf := 138) (lb := #[.pointer (some ⟨w.heap.size + 1, 0, none⟩)]) rfl trivial (enters_of Try.func138 (by kernel_rfl) rfl)
    (edges_stops 5 (by omega) (w.heap.size + 1) A0 c0 l0 w W0 hr0 HM.out hB0 (by omega) bN) KpE.trans (KpE.put (by omega) (by omega)) (Below.refl _ _) (fun _ => rfl)
    (fun pre W => Boxed W w.heap.size 3 (.int .i64 (areaOf pre)) ∧ Below w.heap.size w W ∧ w.heap.size + 2 ≤ W.heap.size)
    (fun _ _ _ => False)
    (OwnFrom.and (Own.from (boxed_own _ _ _) _) (OwnFrom.and (ownFrom_below (Nat.le_refl _) (by omega)) (fun s W W' row hs hg hr => Nat.le_trans hs hg.size)))
    (fun _ _ _ _ _ hs _ _ => hs)
    ⟨bS, hB0, by omega⟩
    (fun x a' W => ∃ Bx, w.heap.size + 2 ≤ Bx ∧ Blk W Bx #[.int .i64 x.2.1.f0, .int .i64 x.2.1.f1, .int .i64 x.2.2.f0, .int .i64 x.2.2.f1] 34 ∧ a' = { tmps := #[.slice A0 l0.length c0, undef, .int .i64 0, .pointer (some ⟨w.heap.size, 0, none⟩), undef, .pointer (some ⟨Bx, 0, none⟩), .slice A0 l0.length c0, .func (.func 138) #[] #[.pointer (some ⟨w.heap.size + 1, 0, none⟩)], .int .i64 (x.1 : Int), .agg #[.int .i64 x.2.1.f0, .int .i64 x.2.1.f1, .int .i64 x.2.2.f0, .int .i64 x.2.2.f1], undef, undef, undef, undef, undef, undef, undef, undef, undef, undef, undef, undef, undef, undef, undef, undef, undef, undef], defers := [] })
    (fun x a' _ X Y row hs hg hr => by obtain ⟨Bx, h1, h2, h3⟩ := hs; exact ⟨Bx, h1, blk_own Bx 34 (fun (_ : Unit) => #[.int .i64 x.2.1.f0, .int .i64 x.2.1.f1, .int .i64 x.2.2.f0, .int .i64 x.2.2.f1]) () X Y row h2 hg (fun r e => (hr r e).2), h3⟩)
    ?assign ?body ?done ?stop
  case assign =>
    rintro l pre x W K ⟨bS1, hB1, hs1⟩ hK
    simp only [edgeV]
    gi_wp2
    exact hK _ _ ((KeepsOthers.alloc _ _).from _) (KpE.alloc _ (by omega) (by omega) _) ⟨bS1.alloc _, hB1.alloc hB1.size _, by simp; omega⟩ ⟨W.heap.size, hs1, Blk.new W 34 _, rfl⟩
  case body =>
    rintro l pre x a' W hl ⟨r, hr⟩ ⟨bS1, hB1, hs1⟩ ⟨Bx, hBx, bX, rfl⟩ hlt
    have cS := bS1.cell
    have fS := bS1.frozen
    have c0' : W.cell? ⟨Bx, 0, none⟩ = some (.int .i64 x.2.1.f0) := bX.cell 0
    have c1' : W.cell? ⟨Bx, 1, none⟩ = some (.int .i64 x.2.1.f1) := bX.cell 1
    have c2' : W.cell? ⟨Bx, 2, none⟩ = some (.int .i64 x.2.2.f0) := bX.cell 2
    have c3' : W.cell? ⟨Bx, 3, none⟩ = some (.int .i64 x.2.2.f1) := bX.cell 3
    have c3'' : W.cell? ⟨Bx, 2 + 1, none⟩ = some (.int .i64 x.2.2.f1) := bX.cell 3
    gi_wp2
    exact ⟨(KeepsOthers.setCell _ _ _).from _, KpE.setCell _ (Nat.le_refl _) (by omega) _, by rw [areaOf_snoc]; exact bS1.set _, hB1.setCell (p := ⟨w.heap.size, 0, none⟩) (Nat.le_refl _) _, by simp; omega⟩
  case done =>
    rintro D zs W hD rfl ⟨bS1, hB1, hs1⟩ hK
    have cS := bS1.cell
    gi_wp2
    refine ⟨by simp, .inl ⟨_, _, rfl, run_takeDeferred hK, ?_⟩⟩
    exact ⟨_, results_tmp rfl _ _ _, rfl, hB1.trans (belowK_b (w := w) (Nat.le_refl _) W D _ _ (by omega) hK rfl rfl)⟩
  case stop =>
    rintro D c pre W _ _ h _
    exact h.elim
theorem plane_area.calls (A0 : Option Addr) (c0 : Nat) (l0 : List (S23)) (r : Int) (w : World) (hr0 : Kd.C k23 w A0 l0.length l0) (hc0 : l0.length ≤ c0) (h : plane_area.f l0 = some r) :
    Calls Try.prog 93 #[.slice A0 l0.length c0] w fun e w' => e = .returned (.int .i64 r) ∧ Below w.heap.size w w' := by
  unfold plane_area.f at h
  split at h
  · rename_i hm
    obtain rfl := Option.some.inj h
    exact area_any A0 c0 l0 w hr0 hm
  · exact absurd h (by simp)
end Go.Proofs.Ytckaejgamfllfaa.G
end

section
namespace Go.Proofs.Ytckaejgamfllfaa.G
open Go.RowKit Go.Proofs.YtckaejgamfllfaaW.PrintWords Go.Proofs.YtckaejgamfllfaaW.PrintLast Go.Proofs.YtckaejgamfllfaaW.PrintMore
attribute [local go_sem] max2_int min2_int max_two min_two max_three min_three max_four min_four
set_option linter.unusedVariables false
set_option linter.unusedSimpArgs false
def plane_ring.j0 : Nat → Bool → Option (Int)
  | 0, _ => none
  | k + 1, x10 => if x10 = true then (some 1) else (some 0)
def plane_ring.f (k : Nat) (l0 : List (S23)) (l1 : List (S23)) : Option (Int) := (plane_within.f (l0.length : Int) 3 200).bind fun t178 => (if t178 = true then ((plane_valid.f l0).bind fun t179 => (if t179 = true then ((plane_valid.f l1).bind fun t180 => (plane_ring.j0 k (!t180))) else (plane_ring.j0 k true))) else (some 2))
theorem plane_ring.mono_l : ∀ k, (∀ y0, LeO (plane_ring.j0 k y0) (plane_ring.j0 (k + 1) y0))
  | 0 => fun _ r h => by simp [plane_ring.j0] at h
  | k + 1 => by
    have ih0 := plane_ring.mono_l k
    · intro y0
      unfold plane_ring.j0
      repeat' first
      | (with_reducible exact ih0 _)
      | (with_reducible exact LeO.refl _)
      | (with_reducible exact LeO.none _)
      | (with_reducible refine LeO.ite ?_ ?_)
      | (with_reducible refine LeO.bind ?_ (fun _ => ?_))
      | exact ih0 _
      | exact LeO.none _
      | refine LeO.ite ?_ ?_
      | refine LeO.bind ?_ (fun _ => ?_)
theorem plane_ring.mono : ∀ a0 a1 k, LeO (plane_ring.f k a0 a1) (plane_ring.f (k + 1) a0 a1) := by
  intro a0 a1 k
  have ih0 := plane_ring.mono_l k
  unfold plane_ring.f
  repeat' first
      | (with_reducible exact ih0 _)
      | (with_reducible exact LeO.refl _)
      | (with_reducible exact LeO.none _)
      | (with_reducible refine LeO.ite ?_ ?_)
      | (with_reducible refine LeO.bind ?_ (fun _ => ?_))
      | exact ih0 _
      | exact LeO.none _
      | refine LeO.ite ?_ ?_
      | refine LeO.bind ?_ (fun _ => ?_)
set_option maxHeartbeats 8000000 in
set_option maxRecDepth 100000 in
theorem plane_ring.calls (k : Nat) (A0 : Option Addr) (c0 : Nat) (l0 : List (S23)) (A1 : Option Addr) (c1 : Nat) (l1 : List (S23)) (r : Int) (w : World) (hr0 : Kd.C k23 w A0 l0.length l0) (hc0 : l0.length ≤ c0) (hr1 : Kd.C k23 w A1 l1.length l1) (hc1 : l1.length ≤ c1) (h : plane_ring.f k l0 l1 = some r) :
    Calls Try.prog 92 #[.slice A0 l0.length c0, .slice A1 l1.length c1] w fun e w' => e = .returned (.int .i64 r) ∧ Below w.heap.size w w' := by
  have HR0 := Aside0.mk hr0
  have HC0 := Aside0.mk hc0
  clear hr0 hc0
  have HR1 := Aside0.mk hr1
  have HC1 := Aside0.mk hc1
  clear hr1 hc1
  have HB := Aside0.mk (Below.refl w.heap.size w)
  have H : ((plane_within.f (l0.length : Int) 3 200).bind fun t178 => (if t178 = true then ((plane_valid.f l0).bind fun t179 => (if t179 = true then ((plane_valid.f l1).bind fun t180 => (plane_ring.j0 k (!t180))) else (plane_ring.j0 k true))) else (some 2))) = some r := h
  clear h
  replace H := Option.bind_eq_some_iff.mp H
  obtain ⟨t178, A30, H⟩ := H
  replace H : (if t178 = true then ((plane_valid.f l0).bind fun t179 => (if t179 = true then ((plane_valid.f l1).bind fun t180 => (plane_ring.j0 k (!t180))) else (plane_ring.j0 k true))) else (some 2)) = some r := H
  have A3 := Aside0.mk A30
  clear A30
  by_cases c4 : t178 = true
  · subst c4
    have H1 : ((plane_valid.f l0).bind fun t179 => (if t179 = true then ((plane_valid.f l1).bind fun t180 => (plane_ring.j0 k (!t180))) else (plane_ring.j0 k true))) = some r := by rw [if_pos rfl] at H; exact H
    clear H
    have H := H1
    clear H1
    have HC5 := Aside0.mk H
    clear H
    go_enter Try.func92, Try.ntmps92
    go_upto_region 3 with (first | ((with_reducible refine gate_callee (f := 76) rfl ?_); refine goesL_ (some 8) rfl rfl Try.func76 (by kernel_rfl) rfl #[.int .i64 (l0.length : Int), .int .i64 3, .int .i64 200] rfl (by (try simp only [List.map_toArray, List.map_cons, List.map_nil]); first | done | rfl | (simp only [List.length_drop, List.length_take]; rfl)) ?_; (with_reducible refine (plane_within.calls (l0.length : Int) 3 200 true _ A3.out).mono ?_); rintro e w' ⟨rfl, ⟨nd, rfl⟩⟩; refine ⟨_, rfl, ?_⟩))
    (try simp only [Act.put, List.setIfInBounds_toArray, List.set_cons_zero, List.set_cons_succ])
    go_cut [10] (fun v10 wc => ∃ (kq : Nat) (x10_4 : Bool), v10 = .bool x10_4 ∧ Aside0 (plane_ring.j0 kq x10_4 = some r) ∧ Aside0 (kq ≤ k) ∧ Aside0 (Below w.heap.size w wc))
    case first =>
      have H := HC5.out
      clear HC5
      replace H := Option.bind_eq_some_iff.mp H
      obtain ⟨t179, A60, H⟩ := H
      replace H : (if t179 = true then ((plane_valid.f l1).bind fun t180 => (plane_ring.j0 k (!t180))) else (plane_ring.j0 k true)) = some r := H
      have A6 := Aside0.mk A60
      clear A60
      by_cases c7 : t179 = true
      · subst c7
        have H1 : ((plane_valid.f l1).bind fun t180 => (plane_ring.j0 k (!t180))) = some r := by rw [if_pos rfl] at H; exact H
        clear H
        have H := H1
        clear H1
        replace H := Option.bind_eq_some_iff.mp H
        obtain ⟨t180, A80, H⟩ := H
        replace H : (plane_ring.j0 k (!t180)) = some r := H
        have A8 := Aside0.mk A80
        clear A80
        have H' := Aside0.mk H
        clear H
        go_wp2_with (first | ((with_reducible refine gate_callee (f := 78) rfl ?_); refine goesL_ (some 12) rfl rfl Try.func78 (by kernel_rfl) rfl #[.slice A0 l0.length c0] rfl (by (try simp only [List.map_toArray, List.map_cons, List.map_nil]); first | done | rfl | (simp only [List.length_drop, List.length_take]; rfl)) ?_; (with_reducible refine (plane_valid.calls _ _ l0 true _ ?side1 ?side2 A6.out).mono ?_); (case side1 => repeat (first | exact (Kd.C_below HR0.out HB.out) | (with_reducible refine Kd.C_alloc ?_ _) | (with_reducible refine Kd.C_drewN ?_ _) | (with_reducible refine Kd.C_drew ?_))); (case side2 => exact HC0.out); rintro e w9 ⟨rfl, hb⟩; refine ⟨_, rfl, ?_⟩; have n0_ := Aside0.mk (below_step (by repeat (first | (with_reducible first | exact HB.out | apply below_alloc | apply pw_below_drewN | apply below_drew1) | exact HB.out)) hb); clear HB; have HB := n0_; clear n0_; (try clear hb); (try clear hb2); (try clear hk); (try clear hi)) | (go_at_call 78; (with_reducible refine (plane_valid.calls _ _ l1 t180 _ ?side1 ?side2 A8.out).mono ?_); (case side1 => repeat (first | exact (Kd.C_below HR1.out HB.out) | (with_reducible refine Kd.C_alloc ?_ _) | (with_reducible refine Kd.C_drewN ?_ _) | (with_reducible refine Kd.C_drew ?_))); (case side2 => exact HC1.out); rintro e w10 ⟨rfl, hb⟩; have n0_ := Aside0.mk (below_step (by repeat (first | (with_reducible first | exact HB.out | apply below_alloc | apply pw_below_drewN | apply below_drew1) | exact HB.out)) hb); clear HB; have HB := n0_; clear n0_; (try clear hb); (try clear hb2); (try clear hk); (try clear hi)))
        go_meet
        case rel => exact ⟨_, (!t180), (by first | rfl | (simp; done) | (simp [*]; done)), H', ⟨by first | omega | exact Nat.le_refl _⟩, ⟨by repeat (first | (with_reducible first | exact HB.out | apply below_alloc | apply pw_below_drewN | apply below_drew1) | exact HB.out)⟩⟩
      · replace c7 := Bool.eq_false_iff.mpr c7
        subst c7
        have H1 : (plane_ring.j0 k true) = some r := by rw [if_neg (show ¬ (false = true) by decide)] at H; exact H
        clear H
        have H := H1
        clear H1
        have H' := Aside0.mk H
        clear H
        go_wp2_with (first | ((with_reducible refine gate_callee (f := 78) rfl ?_); refine goesL_ (some 12) rfl rfl Try.func78 (by kernel_rfl) rfl #[.slice A0 l0.length c0] rfl (by (try simp only [List.map_toArray, List.map_cons, List.map_nil]); first | done | rfl | (simp only [List.length_drop, List.length_take]; rfl)) ?_; (with_reducible refine (plane_valid.calls _ _ l0 false _ ?side1 ?side2 A6.out).mono ?_); (case side1 => repeat (first | exact (Kd.C_below HR0.out HB.out) | (with_reducible refine Kd.C_alloc ?_ _) | (with_reducible refine Kd.C_drewN ?_ _) | (with_reducible refine Kd.C_drew ?_))); (case side2 => exact HC0.out); rintro e w11 ⟨rfl, hb⟩; refine ⟨_, rfl, ?_⟩; have n0_ := Aside0.mk (below_step (by repeat (first | (with_reducible first | exact HB.out | apply below_alloc | apply pw_below_drewN | apply below_drew1) | exact HB.out)) hb); clear HB; have HB := n0_; clear n0_; (try clear hb); (try clear hb2); (try clear hk); (try clear hi)))
        go_meet
        case rel => exact ⟨_, (true), (by first | rfl | (simp; done) | (simp [*]; done)), H', ⟨by first | omega | exact Nat.le_refl _⟩, ⟨by repeat (first | (with_reducible first | exact HB.out | apply below_alloc | apply pw_below_drewN | apply below_drew1) | exact HB.out)⟩⟩
    case rest =>
      clear HC5
      try clear c1
      try clear p2
      try clear c4
      try clear c7
      try clear c9
      obtain ⟨kq, x10_4, rfl, HA, HJ4, HB⟩ := hcut
      cases kq with
      | zero => exact absurd HA.out (by simp [plane_ring.j0])
      | succ kj4 =>
        have H := HA.out
        clear HA
        simp only [plane_ring.j0] at H
        by_cases c12 : x10_4 = true
        · subst c12
          have H1 : (some 1) = some r := by rw [if_pos rfl] at H; exact H
          clear H
          have H := H1
          clear H1
          obtain rfl := Option.some.inj H
          go_wp2
          go_ret
          exact ⟨by first | rfl | (simp [errW_none, errW_some] <;> rfl) | (simp [*, errW_none, errW_some] <;> rfl), by repeat (first | (with_reducible first | exact HB.out | apply below_alloc | apply pw_below_drewN | apply below_drew1) | exact HB.out)⟩
        · replace c12 := Bool.eq_false_iff.mpr c12
          subst c12
          have H1 : (some 0) = some r := by rw [if_neg (show ¬ (false = true) by decide)] at H; exact H
          clear H
          have H := H1
          clear H1
          obtain rfl := Option.some.inj H
          go_wp2
          go_ret
          exact ⟨by first | rfl | (simp [errW_none, errW_some] <;> rfl) | (simp [*, errW_none, errW_some] <;> rfl), by repeat (first | (with_reducible first | exact HB.out | apply below_alloc | apply pw_below_drewN | apply below_drew1) | exact HB.out)⟩
  · replace c4 := Bool.eq_false_iff.mpr c4
    subst c4
    have H1 : (some 2) = some r := by rw [if_neg (show ¬ (false = true) by decide)] at H; exact H
    clear H
    have H := H1
    clear H1
    obtain rfl := Option.some.inj H
    go_enter Try.func92, Try.ntmps92
    go_wp2_with (first | ((with_reducible refine gate_callee (f := 76) rfl ?_); refine goesL_ (some 8) rfl rfl Try.func76 (by kernel_rfl) rfl #[.int .i64 (l0.length : Int), .int .i64 3, .int .i64 200] rfl (by (try simp only [List.map_toArray, List.map_cons, List.map_nil]); first | done | rfl | (simp only [List.length_drop, List.length_take]; rfl)) ?_; (with_reducible refine (plane_within.calls (l0.length : Int) 3 200 false _ A3.out).mono ?_); rintro e w' ⟨rfl, ⟨nd, rfl⟩⟩; refine ⟨_, rfl, ?_⟩))
    go_ret
    exact ⟨by first | rfl | (simp [errW_none, errW_some] <;> rfl) | (simp [*, errW_none, errW_some] <;> rfl), by repeat (first | (with_reducible first | exact HB.out | apply below_alloc | apply pw_below_drewN | apply below_drew1) | exact HB.out)⟩
end Go.Proofs.Ytckaejgamfllfaa.G
end

section
namespace Go.Proofs.Ytckaejgamfllfaa.G
open Go.RowKit Go.Proofs.YtckaejgamfllfaaW.PrintWords Go.Proofs.YtckaejgamfllfaaW.PrintLast Go.Proofs.YtckaejgamfllfaaW.PrintMore
attribute [local go_sem] max2_int min2_int max_two min_two max_three min_three max_four min_four
set_option linter.unusedVariables false
set_option linter.unusedSimpArgs false
def plane_Area.f (k : Nat) (l0 : List (S23)) : Option (Int × Int) := (plane_ring.f k l0 ([] : List (S23))).bind fun t181 => (if t181 = 0 then ((plane_area.f l0).bind fun t182 => (some (t182, 0))) else (some (0, t181)))
theorem plane_Area.mono : ∀ a0 k, LeO (plane_Area.f k a0) (plane_Area.f (k + 1) a0) := by
  intro a0 k
  unfold plane_Area.f
  repeat' first
      | (with_reducible exact plane_ring.mono _ _ _)
      | (with_reducible exact LeO.refl _)
      | (with_reducible exact LeO.none _)
      | (with_reducible refine LeO.ite ?_ ?_)
      | (with_reducible refine LeO.bind ?_ (fun _ => ?_))
      | exact plane_ring.mono _ _ _
      | exact LeO.none _
      | refine LeO.ite ?_ ?_
      | refine LeO.bind ?_ (fun _ => ?_)
set_option maxHeartbeats 8000000 in
set_option maxRecDepth 100000 in
theorem plane_Area.calls (k : Nat) (A0 : Option Addr) (c0 : Nat) (l0 : List (S23)) (r1 : Int) (r2 : Int) (w : World) (hr0 : Kd.C k23 w A0 l0.length l0) (hc0 : l0.length ≤ c0) (h : plane_Area.f k l0 = some (r1, r2)) :
    Calls Try.prog 31 #[.slice A0 l0.length c0] w fun e w' => e = .returned (.tuple #[.int .i64 r1, .int .i64 r2]) ∧ Below w.heap.size w w' := by
  have HR0 := Aside0.mk hr0
  have HC0 := Aside0.mk hc0
  clear hr0 hc0
  have HB := Aside0.mk (Below.refl w.heap.size w)
  have H : ((plane_ring.f k l0 ([] : List (S23))).bind fun t181 => (if t181 = 0 then ((plane_area.f l0).bind fun t182 => (some (t182, 0))) else (some (0, t181)))) = some (r1, r2) := h
  clear h
  replace H := Option.bind_eq_some_iff.mp H
  obtain ⟨t181, A20, H⟩ := H
  replace H : (if t181 = 0 then ((plane_area.f l0).bind fun t182 => (some (t182, 0))) else (some (0, t181))) = some (r1, r2) := H
  have A2 := Aside0.mk A20
  clear A20
  by_cases c3 : t181 = 0
  · rw [if_pos c3] at H
    have c3b0 : (t181 == 0) = true := beq_iff_eq.mpr c3
    have c3b1 : (t181 != 0) = false := bne_eq_false_iff_eq.mpr c3
    clear c3
    replace H := Option.bind_eq_some_iff.mp H
    obtain ⟨t182, A40, H⟩ := H
    replace H : (some (t182, 0)) = some (r1, r2) := H
    have A4 := Aside0.mk A40
    clear A40
    simp only [Option.some.injEq, Prod.mk.injEq] at H
    obtain ⟨rfl, rfl⟩ := H
    go_enter Try.func31, Try.ntmps31
    go_wp2_with (first | ((with_reducible refine gate_callee (f := 92) rfl ?_); refine goesL_ (some 6) rfl rfl Try.func92 (by kernel_rfl) rfl #[.slice A0 l0.length c0, .slice none 0 0] rfl (by (try simp only [List.map_toArray, List.map_cons, List.map_nil]); first | done | rfl | (simp only [List.length_drop, List.length_take]; rfl)) ?_; (refine (plane_ring.calls k _ _ l0 _ _ ([] : List (S23)) t181 _ ?side1 ?side2 ?side3 ?side4 A2.out).mono ?_); (case side1 => repeat (first | exact HR0.out | (with_reducible refine Kd.C_alloc ?_ _) | (with_reducible refine Kd.C_drewN ?_ _) | (with_reducible refine Kd.C_drew ?_))); (case side2 => exact HC0.out); (case side3 => exact Kd.C_nil _ _); (case side4 => exact Nat.le_refl _); rintro e w5 ⟨rfl, hb⟩; refine ⟨_, rfl, ?_⟩; have n0_ := Aside0.mk (below_step (by repeat (first | (with_reducible first | exact HB.out | apply below_alloc | apply pw_below_drewN | apply below_drew1) | exact HB.out)) hb); clear HB; have HB := n0_; clear n0_; (try clear hb); (try clear hb2); (try clear hk); (try clear hi)) | ((with_reducible refine gate_callee (f := 93) rfl ?_); refine goesL_ (some 11) rfl rfl Try.func93 (by kernel_rfl) rfl #[.slice A0 l0.length c0] rfl (by (try simp only [List.map_toArray, List.map_cons, List.map_nil]); first | done | rfl | (simp only [List.length_drop, List.length_take]; rfl)) ?_; (with_reducible refine (plane_area.calls _ _ l0 t182 _ ?side1 ?side2 A4.out).mono ?_); (case side1 => repeat (first | exact (Kd.C_below HR0.out HB.out) | (with_reducible refine Kd.C_alloc ?_ _) | (with_reducible refine Kd.C_drewN ?_ _) | (with_reducible refine Kd.C_drew ?_))); (case side2 => exact HC0.out); rintro e w6 ⟨rfl, hb⟩; refine ⟨_, rfl, ?_⟩; have n0_ := Aside0.mk (below_step (by repeat (first | (with_reducible first | exact HB.out | apply below_alloc | apply pw_below_drewN | apply below_drew1) | exact HB.out)) hb); clear HB; have HB := n0_; clear n0_; (try clear hb); (try clear hb2); (try clear hk); (try clear hi)))
    go_ret2
    exact ⟨by first | rfl | (simp [errW_none, errW_some] <;> rfl) | (simp [*, errW_none, errW_some] <;> rfl), by repeat (first | (with_reducible first | exact HB.out | apply below_alloc | apply pw_below_drewN | apply below_drew1) | exact HB.out)⟩
  · rw [if_neg c3] at H
    have c3b0 : (t181 == 0) = false := beq_eq_false_iff_ne.mpr c3
    have c3b1 : (t181 != 0) = true := bne_iff_ne.mpr c3
    simp only [Option.some.injEq, Prod.mk.injEq] at H
    obtain ⟨rfl, rfl⟩ := H
    go_enter Try.func31, Try.ntmps31
    go_wp2_with (first | ((with_reducible refine gate_callee (f := 92) rfl ?_); refine goesL_ (some 6) rfl rfl Try.func92 (by kernel_rfl) rfl #[.slice A0 l0.length c0, .slice none 0 0] rfl (by (try simp only [List.map_toArray, List.map_cons, List.map_nil]); first | done | rfl | (simp only [List.length_drop, List.length_take]; rfl)) ?_; (refine (plane_ring.calls k _ _ l0 _ _ ([] : List (S23)) t181 _ ?side1 ?side2 ?side3 ?side4 A2.out).mono ?_); (case side1 => repeat (first | exact HR0.out | (with_reducible refine Kd.C_alloc ?_ _) | (with_reducible refine Kd.C_drewN ?_ _) | (with_reducible refine Kd.C_drew ?_))); (case side2 => exact HC0.out); (case side3 => exact Kd.C_nil _ _); (case side4 => exact Nat.le_refl _); rintro e w7 ⟨rfl, hb⟩; refine ⟨_, rfl, ?_⟩; have n0_ := Aside0.mk (below_step (by repeat (first | (with_reducible first | exact HB.out | apply below_alloc | apply pw_below_drewN | apply below_drew1) | exact HB.out)) hb); clear HB; have HB := n0_; clear n0_; (try clear hb); (try clear hb2); (try clear hk); (try clear hi)))
    go_ret2
    exact ⟨by first | rfl | (simp [errW_none, errW_some] <;> rfl) | (simp [*, errW_none, errW_some] <;> rfl), by repeat (first | (with_reducible first | exact HB.out | apply below_alloc | apply pw_below_drewN | apply below_drew1) | exact HB.out)⟩
end Go.Proofs.Ytckaejgamfllfaa.G
end

section
namespace Go.Proofs.Ytckaejgamfllfaa.G
open Go.RowKit Go.Proofs.YtckaejgamfllfaaW.PrintWords Go.Proofs.YtckaejgamfllfaaW.PrintLast Go.Proofs.YtckaejgamfllfaaW.PrintMore
def btwP (a b p : S23) : Bool := decide (mn a.f0 b.f0 ≤ p.f0) && decide (p.f0 ≤ mx a.f0 b.f0) && (decide (mn a.f1 b.f1 ≤ p.f1) && decide (p.f1 ≤ mx a.f1 b.f1))
def twW (a b c : S23) : Int := wrap64 ((wrap64 ((wrap64 (b.f0 - a.f0)) * (wrap64 (c.f1 - a.f1)))) - (wrap64 ((wrap64 (b.f1 - a.f1)) * (wrap64 (c.f0 - a.f0)))))
def onP (a b p : S23) : Bool := decide (twW a b p = 0) && btwP a b p
theorem plane_twice_eq (a b c : S23) : plane_twice.f a.f0 a.f1 b.f0 b.f1 c.f0 c.f1 = some (twW a b c) := rfl
theorem plane_between_eq (a b p : S23) : plane_between.f a.f0 a.f1 b.f0 b.f1 p.f0 p.f1 = some (btwP a b p) := by
  unfold plane_between.f plane_within.f btwP
  by_cases h1 : mn a.f0 b.f0 ≤ p.f0 <;> by_cases h2 : p.f0 ≤ mx a.f0 b.f0 <;> by_cases h3 : mn a.f1 b.f1 ≤ p.f1 <;> simp [h1, h2, h3]
theorem plane_on_eq (a b p : S23) : plane_on.f a.f0 a.f1 b.f0 b.f1 p.f0 p.f1 = some (onP a b p) := by
  unfold plane_on.f onP
  rw [plane_twice_eq, plane_between_eq]
  by_cases h : twW a b p = 0 <;> simp [h]
end Go.Proofs.Ytckaejgamfllfaa.G
end

section
namespace Go.Proofs.Ytckaejgamfllfaa.G
open Go.RowKit Go.Proofs.YtckaejgamfllfaaW.PrintWords Go.Proofs.YtckaejgamfllfaaW.PrintLast Go.Proofs.YtckaejgamfllfaaW.PrintMore
def eqP (a b : S23) : Bool := a.f0 == b.f0 && (a.f1 == b.f1)
theorem eqP_iff (a b : S23) : eqP a b = true ↔ a = b := by
  cases a; cases b; simp [eqP]
theorem eqP_false (a b : S23) : eqP a b = false ↔ a ≠ b := by
  rw [← Bool.not_eq_true, eqP_iff]
theorem wrap_small {x : Int} (h0 : -9223372036854775808 ≤ x) (h1 : x ≤ 9223372036854775807) : wrap64 x = x := by unfold wrap64; omega
theorem rd_at (pre rest : List S23) (x : S23) : rd_T23 (pre ++ x :: rest) (pre.length : Int) = x := by
  unfold rd_T23; simp
theorem index_eq (p : S23) (l : List S23) (hl : l.length ≤ 1000) : ∀ (rest pre : List S23) (k : Nat), l = pre ++ rest → rest.length < k →
    ∃ j, api_Point_134.l0 k l (l.length : Int) (pre.length : Int) p.f0 p.f1 = some j ∧ decide (j ≥ 0) = rest.any (eqP p) := by
  intro rest
  induction rest with
  | nil =>
    intro pre k h hk
    obtain ⟨k, rfl⟩ : ∃ m, k = m + 1 := ⟨k - 1, by simp at hk; omega⟩
    refine ⟨-1, ?_, by simp⟩
    simp only [api_Point_134.l0]
    rw [if_neg (by rw [h]; simp)]
  | cons x rest ih =>
    intro pre k h hk
    obtain ⟨k, rfl⟩ : ∃ m, k = m + 1 := ⟨k - 1, by simp at hk; omega⟩
    have hlt : (pre.length : Int) < (l.length : Int) := by rw [h]; simp; omega
    have hx : rd_T23 l (pre.length : Int) = x := by rw [h]; exact rd_at _ _ _
    simp only [api_Point_134.l0]
    rw [if_pos hlt, if_pos (by omega), if_pos hlt, hx, show (p.f0 == x.f0 && (p.f1 == x.f1)) = eqP p x from rfl]
    by_cases e : eqP p x = true
    · rw [if_pos e]
      exact ⟨_, rfl, by simp [e]⟩
    · rw [if_neg e]
      obtain ⟨j, h1, h2⟩ := ih (pre ++ [x]) k (by simp [h]) (by simp at hk; omega)
      refine ⟨j, ?_, by rw [h2]; simp [e]⟩
      rw [wrap_small (by omega) (by omega)]
      simpa using h1
theorem contains_eq (p : S23) (l : List S23) (hl : l.length ≤ 1000) (k : Nat) (hk : l.length < k) : api_Point_110.f k l p.f0 p.f1 = some (l.any (eqP p)) := by
  obtain ⟨j, h1, h2⟩ := index_eq p l hl l [] k rfl hk
  unfold api_Point_110.f api_Point_134.f
  rw [show (0 : Int) = (([] : List S23).length : Int) from rfl, h1]
  simpa using h2
def commonP (a b c d : S23) : List S23 → List S23 → List S23
  | acc, [] => acc
  | acc, p :: ps => commonP a b c d (if onP a b p && onP c d p && !acc.any (eqP p) then acc ++ [p] else acc) ps
theorem commonP_length (a b c d : S23) (ps acc : List S23) : acc.length ≤ (commonP a b c d acc ps).length ∧ (commonP a b c d acc ps).length ≤ acc.length + ps.length := by
  induction ps generalizing acc with
  | nil => simp [commonP]
  | cons p ps ih =>
    unfold commonP
    have := ih (if onP a b p && onP c d p && !acc.any (eqP p) then acc ++ [p] else acc)
    split at this <;> rename_i h
    · rw [if_pos h]; simp at this ⊢; omega
    · rw [if_neg h]; simp at this ⊢; omega
def alongP (a b c d : S23) : Int := rd [0, 1, 3, 3, 3] ((commonP a b c d [] [a, b, c, d]).length : Int)
theorem along_l0 (a b c d : S23) (l : List S23) (hl : l.length ≤ 4) : ∀ (rest pre acc : List S23) (k : Nat), l = pre ++ rest → acc.length ≤ pre.length → 2 * rest.length + 6 ≤ k →
    plane_along.l0 k acc l (l.length : Int) (pre.length : Int) a.f0 a.f1 b.f0 b.f1 c.f0 c.f1 d.f0 d.f1 = some (rd [0, 1, 3, 3, 3] ((commonP a b c d acc rest).length : Int)) := by
  intro rest
  induction rest with
  | nil =>
    intro pre acc k h hacc hk
    obtain ⟨k, rfl⟩ : ∃ m, k = m + 1 := ⟨k - 1, by omega⟩
    simp only [plane_along.l0]
    have hlen : pre.length ≤ 4 := by rw [h] at hl; simpa using hl
    rw [if_neg (by rw [h]; simp)]
    simp only [Option.bind_some]
    rw [if_pos (by omega), if_pos (by simp; omega)]
    rfl
  | cons p rest ih =>
    intro pre acc k h hacc hk
    obtain ⟨k, rfl⟩ : ∃ m, k = m + 1 := ⟨k - 1, by omega⟩
    have hlen : pre.length + rest.length + 1 ≤ 4 := by rw [h] at hl; simp at hl; omega
    have hlt : (pre.length : Int) < (l.length : Int) := by rw [h]; simp; omega
    have hx : rd_T23 l (pre.length : Int) = p := by rw [h]; exact rd_at _ _ _
    have hk' : 2 * rest.length + 7 ≤ k := by simp at hk; omega
    have step : ∀ (acc' : List S23), acc'.length ≤ pre.length + 1 → ∀ m, 2 * rest.length + 6 ≤ m →
        plane_along.l0 m acc' l (l.length : Int) (wrap64 ((pre.length : Int) + 1)) a.f0 a.f1 b.f0 b.f1 c.f0 c.f1 d.f0 d.f1 = some (rd [0, 1, 3, 3, 3] ((commonP a b c d acc' rest).length : Int)) := by
      intro acc' ha m hm
      rw [wrap_small (by omega) (by omega)]
      have := ih (pre ++ [p]) acc' m (by simp [h]) (by simpa using ha) hm
      simpa using this
    obtain ⟨k, rfl⟩ : ∃ m, k = m + 1 := ⟨k - 1, by omega⟩
    have jump : ∀ (b1 : Bool) (q0 q1 : Int), plane_along.j1 (k + 1) acc l (l.length : Int) (pre.length : Int) b1 a.f0 a.f1 b.f0 b.f1 c.f0 c.f1 d.f0 d.f1 q0 q1 =
        some (rd [0, 1, 3, 3, 3] ((commonP a b c d (if b1 then acc ++ [⟨q0, q1⟩] else acc) rest).length : Int)) := by
      intro b1 q0 q1
      simp only [plane_along.j1]
      cases b1 with
      | true =>
        rw [if_pos rfl, if_pos (by omega), if_pos rfl]
        exact step _ (by simp; omega) _ (by omega)
      | false =>
        rw [if_neg (by simp), if_neg (by simp)]
        exact step _ (by omega) _ (by omega)
    simp only [plane_along.l0]
    rw [if_pos hlt, if_pos (by omega), if_pos hlt, hx, plane_on_eq a b p, plane_on_eq c d p]
    simp only [Option.bind_some]
    rw [contains_eq p acc (by omega) (k + 1) (by omega)]
    simp only [Option.bind_some, jump]
    rw [commonP]
    cases onP a b p <;> cases onP c d p <;> simp
theorem along_eq (a b c d : S23) (k : Nat) (hk : 14 ≤ k) : plane_along.f k a.f0 a.f1 b.f0 b.f1 c.f0 c.f1 d.f0 d.f1 = some (alongP a b c d) := by
  unfold plane_along.f alongP
  simp only [Option.bind_some]
  exact along_l0 a b c d [a, b, c, d] (by simp) [a, b, c, d] [] [] k rfl (by simp) (by simp; omega)
def sgn (n : Int) : Int := if n < 0 then -1 else if n > 0 then 1 else 0
theorem plane_sign_eq (n : Int) : plane_sign.f n = some (sgn n) := by
  unfold plane_sign.f sgn
  split
  · rfl
  · split <;> rfl
def propP (a b : S23) : Bool := validP a && validP b && !eqP a b
theorem plane_proper_eq (a b : S23) : plane_proper.f a.f0 a.f1 b.f0 b.f1 = some (propP a b) := by
  unfold plane_proper.f plane_valid.f propP eqP
  rw [if_pos (by simp)]
  simp only [Option.bind_some, List.all_cons, List.all_nil, Bool.and_true]
  cases hv : validP ⟨a.f0, a.f1⟩ && validP ⟨b.f0, b.f1⟩
  · simp only [show (⟨a.f0, a.f1⟩ : S23) = a from rfl, show (⟨b.f0, b.f1⟩ : S23) = b from rfl] at hv
    simp
  · simp only [show (⟨a.f0, a.f1⟩ : S23) = a from rfl, show (⟨b.f0, b.f1⟩ : S23) = b from rfl] at hv
    simp
def meetP (a b c d : S23) : Int :=
  if propP a b && propP c d then
    if sgn (twW a b c) = 0 ∧ sgn (twW a b d) = 0 then alongP a b c d
    else if sgn (twW a b c) * sgn (twW a b d) < 0 ∧ sgn (twW c d a) * sgn (twW c d b) < 0 then 2
    else if onP a b c || onP a b d || onP c d a || onP c d b then 1 else 0
  else 0
theorem sgn_range (n : Int) : sgn n = -1 ∨ sgn n = 0 ∨ sgn n = 1 := by
  unfold sgn
  split
  · simp
  · split <;> simp
theorem wrap_sgn (m n : Int) : wrap64 (sgn m * sgn n) = sgn m * sgn n := by
  rcases sgn_range m with h | h | h <;> rcases sgn_range n with h' | h' | h' <;> rw [h, h'] <;> exact wrap_small (by decide) (by decide)
theorem meet_j3 (k : Nat) (b : Bool) : plane_Meeting.j3 (k + 1) b = some (if b then 1 else 0) := by cases b <;> simp [plane_Meeting.j3]
theorem meet_j2 (k : Nat) (x : Bool) (a b c d : S23) : plane_Meeting.j2 (k + 2) x a.f0 a.f1 b.f0 b.f1 c.f0 c.f1 d.f0 d.f1 = some (if x then 2 else if onP a b c || onP a b d || onP c d a || onP c d b then 1 else 0) := by
  simp only [plane_Meeting.j2]
  rw [plane_on_eq a b c, plane_on_eq a b d, plane_on_eq c d a, plane_on_eq c d b]
  cases x with
  | true => simp
  | false =>
    simp only [Option.bind_some, meet_j3]
    cases onP a b c <;> cases onP a b d <;> cases onP c d a <;> simp
theorem meet_j1 (k : Nat) (m1 m2 m3 m4 : Int) (x : Bool) (a b c d : S23) (hk : 14 ≤ k + 2) : plane_Meeting.j1 (k + 3) (sgn m1) (sgn m2) (sgn m3) (sgn m4) x a.f0 a.f1 b.f0 b.f1 c.f0 c.f1 d.f0 d.f1 =
    some (if x then alongP a b c d else if sgn m1 * sgn m2 < 0 ∧ sgn m3 * sgn m4 < 0 then 2 else if onP a b c || onP a b d || onP c d a || onP c d b then 1 else 0) := by
  simp only [plane_Meeting.j1]
  cases x with
  | true => rw [if_pos rfl, along_eq a b c d _ hk]; simp
  | false =>
    rw [if_neg (by simp), wrap_sgn, wrap_sgn]
    simp only [meet_j2]
    by_cases h : sgn m1 * sgn m2 < 0
    · rw [if_pos h]
      by_cases h' : sgn m3 * sgn m4 < 0 <;> simp [h, h']
    · rw [if_neg h]; simp [h]
theorem meet_j0 (k : Nat) (x : Bool) (a b c d : S23) (hk : 14 ≤ k + 2) : plane_Meeting.j0 (k + 4) x a.f0 a.f1 b.f0 b.f1 c.f0 c.f1 d.f0 d.f1 =
    some (if x then 0 else if sgn (twW a b c) = 0 ∧ sgn (twW a b d) = 0 then alongP a b c d
    else if sgn (twW a b c) * sgn (twW a b d) < 0 ∧ sgn (twW c d a) * sgn (twW c d b) < 0 then 2
    else if onP a b c || onP a b d || onP c d a || onP c d b then 1 else 0) := by
  simp only [plane_Meeting.j0]
  cases x with
  | true => simp
  | false =>
    rw [if_neg (by simp), plane_twice_eq a b c, plane_twice_eq a b d, plane_twice_eq c d a, plane_twice_eq c d b]
    simp only [Option.bind_some, plane_sign_eq, meet_j1 _ _ _ _ _ _ a b c d hk]
    by_cases h : sgn (twW a b c) = 0
    · rw [if_pos h]
      by_cases h' : sgn (twW a b d) = 0 <;> simp [h, h']
    · rw [if_neg h]; simp [h]
theorem meet_eq (a b c d : S23) (k : Nat) (hk : 16 ≤ k) : plane_Meeting.f k a.f0 a.f1 b.f0 b.f1 c.f0 c.f1 d.f0 d.f1 = some (meetP a b c d) := by
  obtain ⟨k, rfl⟩ : ∃ m, k = m + 4 := ⟨k - 4, by omega⟩
  unfold plane_Meeting.f meetP
  rw [plane_proper_eq a b, plane_proper_eq c d]
  simp only [Option.bind_some, meet_j0 _ _ a b c d (show 14 ≤ k + 2 by omega)]
  cases propP a b <;> cases propP c d <;> simp
end Go.Proofs.Ytckaejgamfllfaa.G
end

section
namespace Go.Proofs.Ytckaejgamfllfaa.G
open Go.RowKit Go.Shelf Go.Proofs.YtckaejgamfllfaaW.PrintWords Go.Proofs.YtckaejgamfllfaaW.PrintLast Go.Proofs.YtckaejgamfllfaaW.PrintMore
set_option linter.unusedVariables false
set_option linter.unusedSimpArgs false
attribute [local go_sem] Oper.semAt_some
attribute [local go_sem high] eqA23
def pairOk (n : Nat) (x y : Nat × S23 × S23) : Bool :=
  if y.1 ≤ x.1 then true else if eqP y.2.1 y.2.2 then true
  else if (y.1 : Int) = wrap64 ((x.1 : Int) + 1) then (if (x.1 : Int) = 0 ∧ (y.1 : Int) = (n : Int) - 1 then false else decide (meetP x.2.1 x.2.2 y.2.1 y.2.2 = 1))
  else if (x.1 : Int) = 0 ∧ (y.1 : Int) = (n : Int) - 1 then decide (meetP x.2.1 x.2.2 y.2.1 y.2.2 = 1) else decide (meetP x.2.1 x.2.2 y.2.1 y.2.2 = 0)
def edgeOk (l : List S23) (x : Nat × S23 × S23) : Bool := !eqP x.2.1 x.2.2 && (edgesTo l l.length).all (pairOk l.length x)
def simpleP (l : List S23) : Bool := (edgesTo l l.length).all (edgeOk l)
def plane_simple.f (l0 : List S23) : Option Bool := if l0.length ≤ 9223372036854775806 then some (simpleP l0) else none
theorem all_snoc {α : Type} (f : α → Bool) (l : List α) (x : α) : (l ++ [x]).all f = (l.all f && f x) := by simp
theorem all_part {l0 : List S23} {f : Nat × S23 × S23 → Bool} {k : Nat} (hk : k ≤ l0.length) (h : (edgesTo l0 k).all f = false) : (edgesTo l0 l0.length).all f = false := by
  rw [List.all_eq_false] at *
  obtain ⟨x, hx, hp⟩ := h
  refine ⟨x, ?_, hp⟩
  unfold edgesTo at *
  rw [List.mem_map] at *
  obtain ⟨i, hi, he⟩ := hx
  rw [List.mem_range] at hi
  exact ⟨i, List.mem_range.2 (by omega), he⟩
theorem ownFrom_KpE {β : Type} {n0 Bs B : Nat} {w₀ : World} (hn : n0 ≤ w₀.heap.size) (hB : n0 ≤ B) (hs : Bs < B) (hs2 : Bs < w₀.heap.size) : OwnFrom B (fun (_ : β) W => KpE n0 Bs w₀ W) :=
  fun s W W' row h hg hr => ⟨ownFrom_below (β := β) hn hB s W W' row h.1 hg hr, (hg.block Bs (Nat.lt_of_lt_of_le hs2 h.1.size) (fun e => by have := (hr Bs e.symm).1; omega)).trans h.2⟩
theorem KpE_drew {n0 Bs : Nat} (W : World) : KpE n0 Bs W W.drew := ⟨⟨rfl, rfl, rfl, Nat.le_refl _, fun _ _ => rfl⟩, rfl⟩
set_option maxRecDepth 100000 in
set_option maxHeartbeats 40000000 in
theorem simple_any (A0 : Option Addr) (c0 : Nat) (l0 : List S23) (w : World) (hr0 : Kd.C k23 w A0 l0.length l0) (hc0 : l0.length ≤ c0) (hm : l0.length ≤ 9223372036854775806) :
    Calls Try.prog 95 #[.slice A0 l0.length c0] w fun e w' => e = .returned (.bool (simpleP l0)) ∧ Below w.heap.size w w' := by
  refine (callsIn_wide (n := 9)).1 ?_
  have HM := Aside0.mk hm
  have HC := Aside0.mk hc0
  clear hm hc0
  have hu34 := Try.underlying34
  have hu23 := Try.underlying23
  have hmo : Try.prog.follows .mixedOrders = true := by kernel_rfl
  refine callsIn_of_wp_marks Try.func95 rfl trivial ?_ rfl
  simp only [Try.ntmps95, List.size_toArray, List.length_cons, List.length_nil, Nat.reduceAdd, Nat.reduceSub, Array.replicate_succ, Array.replicate_zero, List.push_toArray, List.append_toArray, List.nil_append, List.cons_append]
  gi_wp2_with (refine ⟨trivial, ?_⟩; gi_at_call 131; refine (callsIn_wide.2 (edges.calls _ _ _ _)).mono ?_; rintro e w' ⟨rfl, rfl⟩)
  have bP := ((Blk.new w 39 #[.slice A0 l0.length c0]).alloc (.cells #[.bool false] 4)).alloc (.cells #[.slice A0 l0.length c0] 39)
  have bS := (Boxed.new (w.alloc (.cells #[.slice A0 l0.length c0] 39)) 4 (.bool false)).alloc (.cells #[.slice A0 l0.length c0] 39)
  have bN := Blk.new ((w.alloc (.cells #[.slice A0 l0.length c0] 39)).alloc (.cells #[.bool false] 4)) 39 #[.slice A0 l0.length c0]
  simp only [World.size_alloc] at bS bN
  have hB0 : Below w.heap.size w (((w.alloc (.cells #[.slice A0 l0.length c0] 39)).alloc (.cells #[.bool false] 4)).alloc (.cells #[.slice A0 l0.length c0] 39)) := (((Below.refl _ w).alloc (Nat.le_refl _) _).alloc (by simp) _).alloc (by simp; omega) _
  have hsz : (((w.alloc (.cells #[.slice A0 l0.length c0] 39)).alloc (.cells #[.bool false] 4)).alloc (.cells #[.slice A0 l0.length c0] 39)).heap.size = w.heap.size + 3 := by simp
  obtain ⟨W0, hW0⟩ : ∃ W0, ((w.alloc (.cells #[.slice A0 l0.length c0] 39)).alloc (.cells #[.bool false] 4)).alloc (.cells #[.slice A0 l0.length c0] 39) = W0 := ⟨_, rfl⟩
  rw [hW0] at bP bS bN hB0 hsz ⊢
  clear hW0
  refine wpIn_rangeFunc_ownH rfl (by omega) (gf := 138) (lb := #[.pointer (some ⟨w.heap.size + 1 + 1, 0, none⟩)]) rfl trivial (enters_of Try.func138 (by kernel_rfl) rfl)
    (edges_stops 8 (by omega) (w.heap.size + 1 + 1) A0 c0 l0 w W0 hr0 HM.out hB0 (by omega) bN) KpE.trans (KpE.put (by omega) (by omega)) (Below.refl _ _) (fun _ => rfl)
    (fun pre W => (pre.all (edgeOk l0) = true ∧ Boxed W (w.heap.size + 1) 4 (.bool false) ∧ Blk W w.heap.size #[.slice A0 l0.length c0] 39) ∧ Below w.heap.size w W ∧ w.heap.size + 3 ≤ W.heap.size)
    (fun c pre W => (c = .ret ∧ pre.all (edgeOk l0) = false) ∧ Boxed W (w.heap.size + 1) 4 (.bool false) ∧ Below w.heap.size w W)
    (OwnFrom.and (OwnFrom.and (ownFrom_pure _ _) (OwnFrom.and (Own.from (boxed_own _ _ (fun _ => .bool false)) _) (Own.from (blk_own _ _ (fun _ => #[.slice A0 l0.length c0])) _))) (OwnFrom.and (ownFrom_below (Nat.le_refl _) (by omega)) (fun s W W' row hs hg hr => Nat.le_trans hs hg.size)))
    (fun c => OwnFrom.and (ownFrom_pure _ _) (OwnFrom.and (Own.from (boxed_own _ _ (fun _ => .bool false)) _) (ownFrom_below (Nat.le_refl _) (by omega))))
    ⟨⟨rfl, bS, bP⟩, hB0, by omega⟩
    (fun x a' W => ∃ Bi, w.heap.size + 3 ≤ Bi ∧ (Boxed W Bi 3 (.int .i64 (x.1 : Int)) ∧ Blk W (Bi + 1) #[.int .i64 x.2.1.f0, .int .i64 x.2.1.f1, .int .i64 x.2.2.f0, .int .i64 x.2.2.f1] 34) ∧ a' = { tmps := #[.slice A0 l0.length c0, .pointer (some ⟨w.heap.size, 0, none⟩), .pointer (some ⟨w.heap.size + 1, 0, none⟩), .pointer (some ⟨Bi, 0, none⟩), .pointer (some ⟨Bi + 1, 0, none⟩), undef, undef, undef, undef, undef, .slice A0 l0.length c0, .func (.func 138) #[] #[.pointer (some ⟨w.heap.size + 1 + 1, 0, none⟩)], .int .i64 (x.1 : Int), .agg #[.int .i64 x.2.1.f0, .int .i64 x.2.1.f1, .int .i64 x.2.2.f0, .int .i64 x.2.2.f1], undef, undef, undef, undef, undef, undef, undef, undef, undef, undef, undef, undef, undef, undef, undef, undef, undef, undef, undef, undef, undef, undef, undef, undef, undef, undef, undef, undef, undef, undef, undef, undef, undef, undef, undef, undef, undef, undef, undef, undef, undef, undef, undef, undef, undef, undef, undef, undef, undef, undef, undef, undef], defers := [] })
    (fun x a' _ X Y row hs hg hr => by obtain ⟨Bi, h1, ⟨h2, h2'⟩, h3⟩ := hs; exact ⟨Bi, h1, ⟨boxed_own Bi 3 (fun (_ : Unit) => .int .i64 (x.1 : Int)) () X Y row h2 hg (fun r e => (hr r e).2), blk_own (Bi + 1) 34 (fun (_ : Unit) => #[.int .i64 x.2.1.f0, .int .i64 x.2.1.f1, .int .i64 x.2.2.f0, .int .i64 x.2.2.f1]) () X Y row h2' hg (fun r e => (hr r e).2)⟩, h3⟩)
    ?assign ?body ?done ?stop
  case assign =>
    rintro l pre x W K ⟨⟨hp1, bS1, bP1⟩, hB1, hs1⟩ hK
    have HP := Aside0.mk hp1
    clear hp1
    simp only [edgeV]
    gi_wp2
    have bI := (Boxed.new W 3 (.int .i64 (x.1 : Int))).alloc (.cells #[.int .i64 x.2.1.f0, .int .i64 x.2.1.f1, .int .i64 x.2.2.f0, .int .i64 x.2.2.f1] 34)
    have bX := Blk.new (W.alloc (.cells #[.int .i64 (x.1 : Int)] 3)) 34 #[.int .i64 x.2.1.f0, .int .i64 x.2.1.f1, .int .i64 x.2.2.f0, .int .i64 x.2.2.f1]
    rw [World.size_alloc] at bX
    exact hK _ _ (((KeepsOthers.alloc _ _).trans (KeepsOthers.alloc _ _)).from _) ((KpE.alloc _ (by omega) (by omega) _).trans (KpE.alloc _ (by simp; omega) (by simp; omega) _)) ⟨⟨HP.out, (bS1.alloc _).alloc _, (bP1.alloc _).alloc _⟩, (hB1.alloc hB1.size _).alloc (by simp; omega) _, by simp; omega⟩ ⟨W.heap.size, hs1, ⟨bI, bX⟩, rfl⟩
  case body =>
    rintro l pre x a' W hl ⟨r, hr⟩ ⟨⟨hp1, bS1, bP1⟩, hB1, hs1⟩ ⟨Bi, hBi, ⟨bI, bX⟩, rfl⟩ hlt
    have HP := Aside0.mk hp1
    clear hp1
    have l0' : W.cell? ⟨w.heap.size, 0, none⟩ = some (.slice A0 l0.length c0) := bP1.cell 0
    have i0' := bI.cell
    have s0' := bS1.cell
    have f0' := bS1.frozen
    have c0' : W.cell? ⟨Bi + 1, 0, none⟩ = some (.int .i64 x.2.1.f0) := bX.cell 0
    have c1' : W.cell? ⟨Bi + 1, 1, none⟩ = some (.int .i64 x.2.1.f1) := bX.cell 1
    have c2' : W.cell? ⟨Bi + 1, 2, none⟩ = some (.int .i64 x.2.2.f0) := bX.cell 2
    have c3' : W.cell? ⟨Bi + 1, 3, none⟩ = some (.int .i64 x.2.2.f1) := bX.cell 3
    have c4' : W.cell? ⟨Bi + 1, 2 + 1, none⟩ = some (.int .i64 x.2.2.f1) := bX.cell 3
    by_cases he : eqP x.2.1 x.2.2 = true
    · have HE := Aside0.mk he
      have he' : (x.2.1.f0 == x.2.2.f0 && (x.2.1.f1 == x.2.2.f1)) = true := he
      clear he
      gi_wp2
      exact ⟨(KeepsOthers.setCell _ _ _).from _, ⟨rfl, by rw [all_snoc]; unfold edgeOk; rw [HE.out]; simp⟩, bS1.set _, hB1.setCell (p := ⟨w.heap.size + 1, 0, none⟩) (by simp) _⟩
    · have HE := Aside0.mk (Bool.eq_false_iff.mpr he)
      have he' : (x.2.1.f0 == x.2.2.f0 && (x.2.1.f1 == x.2.2.f1)) = false := Bool.eq_false_iff.mpr he
      clear he
      have hcc := HC.out
      gi_wp2_with (refine ⟨trivial, ?_⟩; gi_at_call 131; refine (CallsIn.inRound l (callsIn_wide.2 (edges.calls _ _ _ _))).mono ?_; rintro e w' ⟨rfl, rfl⟩)
      have hsW := hB1.size
      have bN2 := Blk.new W 39 #[.slice A0 l0.length c0]
      have hr' : (W.alloc (.cells #[.slice A0 l0.length c0] 39)).heap[l]? = some (.loop r) := (Below.heap_alloc W _ l (Array.getElem?_eq_some_iff.1 hr).1).trans hr
      refine wpIn_rangeFunc_ownN (l₀ := l) (r₀ := r) rfl hr' (by omega) (gf := 138) (lb := #[.pointer (some ⟨W.heap.size, 0, none⟩)]) rfl trivial (enters_of Try.func138 (by kernel_rfl) rfl)
        (SeqStopsK.inRound l (edges_stops 6 (by omega) W.heap.size A0 c0 l0 w _ hr0 HM.out (hB1.alloc hsW _) (by omega) bN2)) KpE.trans (KpE.put (by simp; omega) (by simp)) (Below.refl _ _) (fun _ => rfl)
        (fun pre' W' => ((pre'.all (pairOk l0.length x) = true ∧ Boxed W' (w.heap.size + 1) 4 (.bool false) ∧ Blk W' w.heap.size #[.slice A0 l0.length c0] 39) ∧ Boxed W' Bi 3 (.int .i64 (x.1 : Int)) ∧ Blk W' (Bi + 1) #[.int .i64 x.2.1.f0, .int .i64 x.2.1.f1, .int .i64 x.2.2.f0, .int .i64 x.2.2.f1] 34) ∧ Below w.heap.size W W' ∧ (KeepsFrom W0.heap.size W W' ∧ KpE w.heap.size (w.heap.size + 1 + 1) W W') ∧ W.heap.size + 1 ≤ W'.heap.size)
        (fun c pre' W' => (c = .ret ∧ pre'.all (pairOk l0.length x) = false) ∧ Boxed W' (w.heap.size + 1) 4 (.bool false) ∧ Below w.heap.size W W' ∧ KeepsFrom W0.heap.size W W')
        (OwnFrom.and (OwnFrom.and (OwnFrom.and (ownFrom_pure _ _) (OwnFrom.and (Own.from (boxed_own _ _ (fun _ => .bool false)) _) (Own.from (blk_own _ _ (fun _ => #[.slice A0 l0.length c0])) _))) (OwnFrom.and (Own.from (boxed_own _ _ (fun _ => .int .i64 (x.1 : Int))) _) (Own.from (blk_own _ _ (fun _ => #[.int .i64 x.2.1.f0, .int .i64 x.2.1.f1, .int .i64 x.2.2.f0, .int .i64 x.2.2.f1])) _))) (OwnFrom.and (ownFrom_below hsW (by simp; omega)) (OwnFrom.and (OwnFrom.and (ownFrom_keepsFrom (by simp)) (ownFrom_KpE (by omega) (by simp; omega) (by simp; omega) (by omega))) (fun s W W' row hs hg hr => Nat.le_trans hs hg.size))))
        (fun c => OwnFrom.and (ownFrom_pure _ _) (OwnFrom.and (Own.from (boxed_own _ _ (fun _ => .bool false)) _) (OwnFrom.and (ownFrom_below hsW (by simp; omega)) (ownFrom_keepsFrom (by simp)))))
        ⟨⟨⟨rfl, bS1.alloc _, bP1.alloc _⟩, bI.alloc _, bX.alloc _⟩, (Below.refl _ W).alloc hsW _, ⟨(KeepsOthers.alloc _ _).from _, KpE.alloc _ (by omega) (by omega) _⟩, by simp⟩
        (fun y a'' W' => ∃ Bt, W.heap.size + 1 ≤ Bt ∧ Blk W' Bt #[.int .i64 y.2.1.f0, .int .i64 y.2.1.f1, .int .i64 y.2.2.f0, .int .i64 y.2.2.f1] 34 ∧ a'' = { tmps := #[.slice A0 l0.length c0, .pointer (some ⟨w.heap.size, 0, none⟩), .pointer (some ⟨w.heap.size + 1, 0, none⟩), .pointer (some ⟨Bi, 0, none⟩), .pointer (some ⟨Bi + 1, 0, none⟩), .int .i64 (y.1 : Int), .pointer (some ⟨Bt, 0, none⟩), undef, undef, undef, .slice A0 l0.length c0, .func (.func 138) #[] #[.pointer (some ⟨w.heap.size + 1 + 1, 0, none⟩)], .int .i64 (x.1 : Int), .agg #[.int .i64 x.2.1.f0, .int .i64 x.2.1.f1, .int .i64 x.2.2.f0, .int .i64 x.2.2.f1], .pointer (some ⟨Bi + 1, 0, none⟩), .agg #[.int .i64 x.2.1.f0, .int .i64 x.2.1.f1], .pointer (some ⟨Bi + 1, 2, none⟩), .agg #[.int .i64 x.2.2.f0, .int .i64 x.2.2.f1], .bool false, .slice A0 l0.length c0, .slice A0 l0.length c0, .func (.func 138) #[] #[.pointer (some ⟨W.heap.size, 0, none⟩)], .int .i64 (y.1 : Int), .agg #[.int .i64 y.2.1.f0, .int .i64 y.2.1.f1, .int .i64 y.2.2.f0, .int .i64 y.2.2.f1], undef, undef, undef, undef, undef, undef, undef, undef, undef, undef, undef, undef, undef, undef, undef, undef, undef, undef, undef, undef, undef, undef, undef, undef, undef, undef, undef, undef, undef, undef, undef, undef, undef, undef, undef, undef, undef, undef, undef, undef, undef, undef], defers := [] })
        (fun y a'' _ X Y row hs hg hr => by obtain ⟨Bt, h1, h2, h3⟩ := hs; exact ⟨Bt, h1, blk_own Bt 34 (fun (_ : Unit) => #[.int .i64 y.2.1.f0, .int .i64 y.2.1.f1, .int .i64 y.2.2.f0, .int .i64 y.2.2.f1]) () X Y row h2 hg (fun r e => (hr r e).2), h3⟩)
        ?assign2 ?body2 ?done2 ?stop2
      case assign2 =>
        rintro l2 pre' y W' K ⟨⟨⟨hp2, bS2, bP2⟩, bI2, bX2⟩, hB2, ⟨hK2, hE2⟩, hs2⟩ hK
        have HP2 := Aside0.mk hp2
        clear hp2
        simp only [edgeV]
        gi_wp2
        exact hK _ _ ((KeepsOthers.alloc _ _).from _) (KpE.alloc _ (by omega) (by omega) _) ⟨⟨⟨HP2.out, bS2.alloc _, bP2.alloc _⟩, bI2.alloc _, bX2.alloc _⟩, hB2.alloc (by omega) _, ⟨hK2.trans ((KeepsOthers.alloc _ _).from _), hE2.trans (KpE.alloc _ (by omega) (by omega) _)⟩, by simp; omega⟩ ⟨W'.heap.size, hs2, Blk.new W' 34 _, rfl⟩
      case body2 =>
        rintro l2 pre' y a'' W' _ _ ⟨⟨⟨hp2, bS2, bP2⟩, bI2, bX2⟩, hB2, ⟨hK2, hE2⟩, hs2⟩ ⟨Bt, hBt, bT, rfl⟩ hlt2
        have HP2 := Aside0.mk hp2
        clear hp2
        clear l0' i0' s0' f0' c0' c1' c2' c3' c4' he'
        have l0' : W'.cell? ⟨w.heap.size, 0, none⟩ = some (.slice A0 l0.length c0) := bP2.cell 0
        have i0' := bI2.cell
        have c0' : W'.cell? ⟨Bi + 1, 0, none⟩ = some (.int .i64 x.2.1.f0) := bX2.cell 0
        have c1' : W'.cell? ⟨Bi + 1, 1, none⟩ = some (.int .i64 x.2.1.f1) := bX2.cell 1
        have c2' : W'.cell? ⟨Bi + 1, 2, none⟩ = some (.int .i64 x.2.2.f0) := bX2.cell 2
        have c3' : W'.cell? ⟨Bi + 1, 3, none⟩ = some (.int .i64 x.2.2.f1) := bX2.cell 3
        have c4' : W'.cell? ⟨Bi + 1, 2 + 1, none⟩ = some (.int .i64 x.2.2.f1) := bX2.cell 3
        have d0' : W'.cell? ⟨Bt, 0, none⟩ = some (.int .i64 y.2.1.f0) := bT.cell 0
        have d1' : W'.cell? ⟨Bt, 1, none⟩ = some (.int .i64 y.2.1.f1) := bT.cell 1
        have d2' : W'.cell? ⟨Bt, 2, none⟩ = some (.int .i64 y.2.2.f0) := bT.cell 2
        have d3' : W'.cell? ⟨Bt, 3, none⟩ = some (.int .i64 y.2.2.f1) := bT.cell 3
        have d4' : W'.cell? ⟨Bt, 2 + 1, none⟩ = some (.int .i64 y.2.2.f1) := bT.cell 3
        have HS := Aside0.mk (all_snoc (pairOk l0.length x) pre' y)
        by_cases h1 : y.1 ≤ x.1
        · have HO := Aside0.mk (show pairOk l0.length x y = true by unfold pairOk; rw [if_pos h1])
          have h1' : (y.1 : Int) ≤ (x.1 : Int) := by omega
          gi_wp2
          exact ⟨KeepsFrom.refl _ _, KpE.refl _ _ _, ⟨⟨by rw [HS.out, HP2.out, HO.out]; rfl, bS2, bP2⟩, bI2, bX2⟩, hB2, ⟨hK2, hE2⟩, hs2⟩
        · have h1' : (x.1 : Int) < (y.1 : Int) := by omega
          by_cases h2 : eqP y.2.1 y.2.2 = true
          · have HO := Aside0.mk (show pairOk l0.length x y = true by unfold pairOk; rw [if_neg h1, if_pos h2])
            have h2' : (y.2.1.f0 == y.2.2.f0 && (y.2.1.f1 == y.2.2.f1)) = true := h2
            clear h2 h1
            gi_wp2
            exact ⟨KeepsFrom.refl _ _, KpE.refl _ _ _, ⟨⟨by rw [HS.out, HP2.out, HO.out]; rfl, bS2, bP2⟩, bI2, bX2⟩, hB2, ⟨hK2, hE2⟩, hs2⟩
          · have h2' : (y.2.1.f0 == y.2.2.f0 && (y.2.1.f1 == y.2.2.f1)) = false := Bool.eq_false_iff.mpr h2
            obtain ⟨m, hm⟩ : ∃ m, meetP x.2.1 x.2.2 y.2.1 y.2.2 = m := ⟨_, rfl⟩
            have AM := Aside0.mk (show plane_Meeting.f 16 x.2.1.f0 x.2.1.f1 x.2.2.f0 x.2.2.f1 y.2.1.f0 y.2.1.f1 y.2.2.f0 y.2.2.f1 = some m by rw [meet_eq _ _ _ _ 16 (by omega), hm])
            have HN := Aside0.mk (show pairOk l0.length x y = (if (y.1 : Int) = wrap64 ((x.1 : Int) + 1) then (if (x.1 : Int) = 0 ∧ (y.1 : Int) = (l0.length : Int) - 1 then false else decide (m = 1)) else if (x.1 : Int) = 0 ∧ (y.1 : Int) = (l0.length : Int) - 1 then decide (m = 1) else decide (m = 0)) by unfold pairOk; rw [if_neg h1, if_neg h2, hm])
            clear h2 h1 hm
            obtain ⟨q, hq⟩ : ∃ q, wrap64 ((x.1 : Int) + 1) = q := ⟨_, rfl⟩
            have hq2 : IntKind.i64.wrap ((x.1 : Int) + 1) = q := by rw [← hq]; exact wrap_i64_eq _
            have HQ := Aside0.mk hq
            have hpos : 0 < l0.length := by omega
            have hl1 : IntKind.i64.wrap ((l0.length : Int) - 1) = (l0.length : Int) - 1 := by rw [IntKind.wrap_i64]; have := HM.out; omega
            rw [hq] at HN
            by_cases hn : (y.1 : Int) = q
            · have hn' : ((y.1 : Int) == q) = true := by simpa using hn
              by_cases hz : (x.1 : Int) = 0
              · have hz' : ((x.1 : Int) == 0) = true := by simpa using hz
                by_cases hl : (y.1 : Int) = (l0.length : Int) - 1
                · have hl' : ((y.1 : Int) == (l0.length : Int) - 1) = true := by simpa using hl
                  by_cases hmm : m = 1
                  · have hm1 : (m != 1) = false := by simpa using hmm
                    have HO := Aside0.mk (show pairOk l0.length x y = false by have h := HN.out; rw [if_pos hn, if_pos ⟨hz, hl⟩] at h; rw [h])
                    clear HN hn hz hl hmm HQ
                    gi_wp2_with (refine ⟨trivial, ?_⟩; gi_at_call 28; refine (CallsIn.inRound l2 (callsIn_wide.2 (plane_Meeting.calls 16 x.2.1.f0 x.2.1.f1 x.2.2.f0 x.2.2.f1 y.2.1.f0 y.2.1.f1 y.2.2.f0 y.2.2.f1 m _ AM.out))).mono ?_; rintro e w6 ⟨rfl, hb⟩; have l0'' : w6.cell? ⟨w.heap.size, 0, none⟩ = some (.slice A0 l0.length c0) := (bP2.below hb).cell 0; have i0'' := (boxed_below bI2 hb).cell; have s0'' := (boxed_below bS2 hb).cell; have f0'' := (boxed_below bS2 hb).frozen; have HB := Aside0.mk hb; clear hb l0' i0' c0' c1' c2' c3' c4' d0' d1' d2' d3' d4' h2')
                    refine wpIn_region_still_tail (((open_wide _ _).inRound l).inRound l2) 14 hmo (by kernel_rfl) (by rfl) ?_
                    simp only [List.take_succ_cons, List.take_zero, List.drop_succ_cons, List.drop_zero]
                    repeat still_step
                    refine wpStill_nil ?_
                    gi_wp2
                    exact ⟨((keepsFrom_below _ HB.out).trans ((KeepsOthers.drew _).from _)).trans ((KeepsOthers.setCell _ _ _).from _), ⟨rfl, by rw [HS.out, HO.out]; simp⟩, (boxed_drew (boxed_below bS2 HB.out)).set _, ((hB2.trans (HB.out.mono (by omega))).drew).setCell (p := ⟨w.heap.size + 1, 0, none⟩) (by simp) _, ((hK2.trans (keepsFrom_below _ HB.out)).trans ((KeepsOthers.drew _).from _)).trans ((KeepsOthers.setCell _ _ _).from _)⟩
                  · have hm1 : (m != 1) = true := by simpa using hmm
                    have HO := Aside0.mk (show pairOk l0.length x y = false by have h := HN.out; rw [if_pos hn, if_pos ⟨hz, hl⟩] at h; rw [h])
                    clear HN hn hz hl hmm HQ
                    gi_wp2_with (refine ⟨trivial, ?_⟩; gi_at_call 28; refine (CallsIn.inRound l2 (callsIn_wide.2 (plane_Meeting.calls 16 x.2.1.f0 x.2.1.f1 x.2.2.f0 x.2.2.f1 y.2.1.f0 y.2.1.f1 y.2.2.f0 y.2.2.f1 m _ AM.out))).mono ?_; rintro e w6 ⟨rfl, hb⟩; have l0'' : w6.cell? ⟨w.heap.size, 0, none⟩ = some (.slice A0 l0.length c0) := (bP2.below hb).cell 0; have i0'' := (boxed_below bI2 hb).cell; have s0'' := (boxed_below bS2 hb).cell; have f0'' := (boxed_below bS2 hb).frozen; have HB := Aside0.mk hb; clear hb l0' i0' c0' c1' c2' c3' c4' d0' d1' d2' d3' d4' h2')
                    refine wpIn_region_still_tail (((open_wide _ _).inRound l).inRound l2) 14 hmo (by kernel_rfl) (by rfl) ?_
                    simp only [List.take_succ_cons, List.take_zero, List.drop_succ_cons, List.drop_zero]
                    repeat still_step
                    refine wpStill_nil ?_
                    gi_wp2
                    exact ⟨((keepsFrom_below _ HB.out).trans ((KeepsOthers.drew _).from _)).trans ((KeepsOthers.setCell _ _ _).from _), ⟨rfl, by rw [HS.out, HO.out]; simp⟩, (boxed_drew (boxed_below bS2 HB.out)).set _, ((hB2.trans (HB.out.mono (by omega))).drew).setCell (p := ⟨w.heap.size + 1, 0, none⟩) (by simp) _, ((hK2.trans (keepsFrom_below _ HB.out)).trans ((KeepsOthers.drew _).from _)).trans ((KeepsOthers.setCell _ _ _).from _)⟩
                · have hl' : ((y.1 : Int) == (l0.length : Int) - 1) = false := by simpa using hl
                  by_cases hmm : m = 1
                  · have hm1 : (m != 1) = false := by simpa using hmm
                    have HO := Aside0.mk (show pairOk l0.length x y = true by have h := HN.out; rw [if_pos hn, if_neg (fun h => hl h.2)] at h; rw [h]; simp [hmm])
                    clear HN hn hz hl hmm HQ
                    gi_wp2_with (refine ⟨trivial, ?_⟩; gi_at_call 28; refine (CallsIn.inRound l2 (callsIn_wide.2 (plane_Meeting.calls 16 x.2.1.f0 x.2.1.f1 x.2.2.f0 x.2.2.f1 y.2.1.f0 y.2.1.f1 y.2.2.f0 y.2.2.f1 m _ AM.out))).mono ?_; rintro e w6 ⟨rfl, hb⟩; have l0'' : w6.cell? ⟨w.heap.size, 0, none⟩ = some (.slice A0 l0.length c0) := (bP2.below hb).cell 0; have i0'' := (boxed_below bI2 hb).cell; have s0'' := (boxed_below bS2 hb).cell; have f0'' := (boxed_below bS2 hb).frozen; have HB := Aside0.mk hb; clear hb l0' i0' c0' c1' c2' c3' c4' d0' d1' d2' d3' d4' h2')
                    refine wpIn_region_still_tail (((open_wide _ _).inRound l).inRound l2) 14 hmo (by kernel_rfl) (by rfl) ?_
                    simp only [List.take_succ_cons, List.take_zero, List.drop_succ_cons, List.drop_zero]
                    repeat still_step
                    refine wpStill_nil ?_
                    gi_wp2
                    exact ⟨(keepsFrom_below _ HB.out).trans ((KeepsOthers.drew _).from _), (KpE.of_below (by omega) (by omega) HB.out).trans (KpE_drew _), ⟨⟨by rw [HS.out, HP2.out, HO.out]; rfl, boxed_drew (boxed_below bS2 HB.out), (bP2.below HB.out).drew⟩, boxed_drew (boxed_below bI2 HB.out), (bX2.below HB.out).drew⟩, (hB2.trans (HB.out.mono (by omega))).drew, ⟨(hK2.trans (keepsFrom_below _ HB.out)).trans ((KeepsOthers.drew _).from _), (hE2.trans (KpE.of_below (by omega) (by omega) HB.out)).trans (KpE_drew _)⟩, Nat.le_trans hs2 HB.out.size⟩
                  · have hm1 : (m != 1) = true := by simpa using hmm
                    have HO := Aside0.mk (show pairOk l0.length x y = false by have h := HN.out; rw [if_pos hn, if_neg (fun h => hl h.2)] at h; rw [h]; simp [hmm])
                    clear HN hn hz hl hmm HQ
                    gi_wp2_with (refine ⟨trivial, ?_⟩; gi_at_call 28; refine (CallsIn.inRound l2 (callsIn_wide.2 (plane_Meeting.calls 16 x.2.1.f0 x.2.1.f1 x.2.2.f0 x.2.2.f1 y.2.1.f0 y.2.1.f1 y.2.2.f0 y.2.2.f1 m _ AM.out))).mono ?_; rintro e w6 ⟨rfl, hb⟩; have l0'' : w6.cell? ⟨w.heap.size, 0, none⟩ = some (.slice A0 l0.length c0) := (bP2.below hb).cell 0; have i0'' := (boxed_below bI2 hb).cell; have s0'' := (boxed_below bS2 hb).cell; have f0'' := (boxed_below bS2 hb).frozen; have HB := Aside0.mk hb; clear hb l0' i0' c0' c1' c2' c3' c4' d0' d1' d2' d3' d4' h2')
                    refine wpIn_region_still_tail (((open_wide _ _).inRound l).inRound l2) 14 hmo (by kernel_rfl) (by rfl) ?_
                    simp only [List.take_succ_cons, List.take_zero, List.drop_succ_cons, List.drop_zero]
                    repeat still_step
                    refine wpStill_nil ?_
                    gi_wp2
                    exact ⟨((keepsFrom_below _ HB.out).trans ((KeepsOthers.drew _).from _)).trans ((KeepsOthers.setCell _ _ _).from _), ⟨rfl, by rw [HS.out, HO.out]; simp⟩, (boxed_drew (boxed_below bS2 HB.out)).set _, ((hB2.trans (HB.out.mono (by omega))).drew).setCell (p := ⟨w.heap.size + 1, 0, none⟩) (by simp) _, ((hK2.trans (keepsFrom_below _ HB.out)).trans ((KeepsOthers.drew _).from _)).trans ((KeepsOthers.setCell _ _ _).from _)⟩
              · have hz' : ((x.1 : Int) == 0) = false := by simpa using hz
                by_cases hmm : m = 1
                · have hm1 : (m != 1) = false := by simpa using hmm
                  have HO := Aside0.mk (show pairOk l0.length x y = true by have h := HN.out; rw [if_pos hn, if_neg (fun h => hz h.1)] at h; rw [h]; simp [hmm])
                  clear HN hn hz hmm HQ
                  gi_wp2_with (refine ⟨trivial, ?_⟩; gi_at_call 28; refine (CallsIn.inRound l2 (callsIn_wide.2 (plane_Meeting.calls 16 x.2.1.f0 x.2.1.f1 x.2.2.f0 x.2.2.f1 y.2.1.f0 y.2.1.f1 y.2.2.f0 y.2.2.f1 m _ AM.out))).mono ?_; rintro e w6 ⟨rfl, hb⟩; have l0'' : w6.cell? ⟨w.heap.size, 0, none⟩ = some (.slice A0 l0.length c0) := (bP2.below hb).cell 0; have i0'' := (boxed_below bI2 hb).cell; have s0'' := (boxed_below bS2 hb).cell; have f0'' := (boxed_below bS2 hb).frozen; have HB := Aside0.mk hb; clear hb l0' i0' c0' c1' c2' c3' c4' d0' d1' d2' d3' d4' h2')
                  refine wpIn_region_still_tail (((open_wide _ _).inRound l).inRound l2) 14 hmo (by kernel_rfl) (by rfl) ?_
                  simp only [List.take_succ_cons, List.take_zero, List.drop_succ_cons, List.drop_zero]
                  repeat still_step
                  refine wpStill_nil ?_
                  gi_wp2
                  exact ⟨(keepsFrom_below _ HB.out).trans ((KeepsOthers.drew _).from _), (KpE.of_below (by omega) (by omega) HB.out).trans (KpE_drew _), ⟨⟨by rw [HS.out, HP2.out, HO.out]; rfl, boxed_drew (boxed_below bS2 HB.out), (bP2.below HB.out).drew⟩, boxed_drew (boxed_below bI2 HB.out), (bX2.below HB.out).drew⟩, (hB2.trans (HB.out.mono (by omega))).drew, ⟨(hK2.trans (keepsFrom_below _ HB.out)).trans ((KeepsOthers.drew _).from _), (hE2.trans (KpE.of_below (by omega) (by omega) HB.out)).trans (KpE_drew _)⟩, Nat.le_trans hs2 HB.out.size⟩
                · have hm1 : (m != 1) = true := by simpa using hmm
                  have HO := Aside0.mk (show pairOk l0.length x y = false by have h := HN.out; rw [if_pos hn, if_neg (fun h => hz h.1)] at h; rw [h]; simp [hmm])
                  clear HN hn hz hmm HQ
                  gi_wp2_with (refine ⟨trivial, ?_⟩; gi_at_call 28; refine (CallsIn.inRound l2 (callsIn_wide.2 (plane_Meeting.calls 16 x.2.1.f0 x.2.1.f1 x.2.2.f0 x.2.2.f1 y.2.1.f0 y.2.1.f1 y.2.2.f0 y.2.2.f1 m _ AM.out))).mono ?_; rintro e w6 ⟨rfl, hb⟩; have l0'' : w6.cell? ⟨w.heap.size, 0, none⟩ = some (.slice A0 l0.length c0) := (bP2.below hb).cell 0; have i0'' := (boxed_below bI2 hb).cell; have s0'' := (boxed_below bS2 hb).cell; have f0'' := (boxed_below bS2 hb).frozen; have HB := Aside0.mk hb; clear hb l0' i0' c0' c1' c2' c3' c4' d0' d1' d2' d3' d4' h2')
                  refine wpIn_region_still_tail (((open_wide _ _).inRound l).inRound l2) 14 hmo (by kernel_rfl) (by rfl) ?_
                  simp only [List.take_succ_cons, List.take_zero, List.drop_succ_cons, List.drop_zero]
                  repeat still_step
                  refine wpStill_nil ?_
                  gi_wp2
                  exact ⟨((keepsFrom_below _ HB.out).trans ((KeepsOthers.drew _).from _)).trans ((KeepsOthers.setCell _ _ _).from _), ⟨rfl, by rw [HS.out, HO.out]; simp⟩, (boxed_drew (boxed_below bS2 HB.out)).set _, ((hB2.trans (HB.out.mono (by omega))).drew).setCell (p := ⟨w.heap.size + 1, 0, none⟩) (by simp) _, ((hK2.trans (keepsFrom_below _ HB.out)).trans ((KeepsOthers.drew _).from _)).trans ((KeepsOthers.setCell _ _ _).from _)⟩
            · have hn' : ((y.1 : Int) == q) = false := by simpa using hn
              by_cases hz : (x.1 : Int) = 0
              · have hz' : ((x.1 : Int) == 0) = true := by simpa using hz
                by_cases hl : (y.1 : Int) = (l0.length : Int) - 1
                · have hl' : ((y.1 : Int) == (l0.length : Int) - 1) = true := by simpa using hl
                  by_cases hmm : m = 1
                  · have hm1 : (m != 1) = false := by simpa using hmm
                    have HO := Aside0.mk (show pairOk l0.length x y = true by have h := HN.out; rw [if_neg hn, if_pos ⟨hz, hl⟩] at h; rw [h]; simp [hmm])
                    clear HN hn hz hl hmm HQ
                    gi_wp2_with (refine ⟨trivial, ?_⟩; gi_at_call 28; refine (CallsIn.inRound l2 (callsIn_wide.2 (plane_Meeting.calls 16 x.2.1.f0 x.2.1.f1 x.2.2.f0 x.2.2.f1 y.2.1.f0 y.2.1.f1 y.2.2.f0 y.2.2.f1 m _ AM.out))).mono ?_; rintro e w6 ⟨rfl, hb⟩; have l0'' : w6.cell? ⟨w.heap.size, 0, none⟩ = some (.slice A0 l0.length c0) := (bP2.below hb).cell 0; have i0'' := (boxed_below bI2 hb).cell; have s0'' := (boxed_below bS2 hb).cell; have f0'' := (boxed_below bS2 hb).frozen; have HB := Aside0.mk hb; clear hb l0' i0' c0' c1' c2' c3' c4' d0' d1' d2' d3' d4' h2')
                    refine wpIn_region_still_tail (((open_wide _ _).inRound l).inRound l2) 14 hmo (by kernel_rfl) (by rfl) ?_
                    simp only [List.take_succ_cons, List.take_zero, List.drop_succ_cons, List.drop_zero]
                    repeat still_step
                    refine wpStill_nil ?_
                    gi_wp2
                    exact ⟨(keepsFrom_below _ HB.out).trans ((KeepsOthers.drew _).from _), (KpE.of_below (by omega) (by omega) HB.out).trans (KpE_drew _), ⟨⟨by rw [HS.out, HP2.out, HO.out]; rfl, boxed_drew (boxed_below bS2 HB.out), (bP2.below HB.out).drew⟩, boxed_drew (boxed_below bI2 HB.out), (bX2.below HB.out).drew⟩, (hB2.trans (HB.out.mono (by omega))).drew, ⟨(hK2.trans (keepsFrom_below _ HB.out)).trans ((KeepsOthers.drew _).from _), (hE2.trans (KpE.of_below (by omega) (by omega) HB.out)).trans (KpE_drew _)⟩, Nat.le_trans hs2 HB.out.size⟩
                  · have hm1 : (m != 1) = true := by simpa using hmm
                    have HO := Aside0.mk (show pairOk l0.length x y = false by have h := HN.out; rw [if_neg hn, if_pos ⟨hz, hl⟩] at h; rw [h]; simp [hmm])
                    clear HN hn hz hl hmm HQ
                    gi_wp2_with (refine ⟨trivial, ?_⟩; gi_at_call 28; refine (CallsIn.inRound l2 (callsIn_wide.2 (plane_Meeting.calls 16 x.2.1.f0 x.2.1.f1 x.2.2.f0 x.2.2.f1 y.2.1.f0 y.2.1.f1 y.2.2.f0 y.2.2.f1 m _ AM.out))).mono ?_; rintro e w6 ⟨rfl, hb⟩; have l0'' : w6.cell? ⟨w.heap.size, 0, none⟩ = some (.slice A0 l0.length c0) := (bP2.below hb).cell 0; have i0'' := (boxed_below bI2 hb).cell; have s0'' := (boxed_below bS2 hb).cell; have f0'' := (boxed_below bS2 hb).frozen; have HB := Aside0.mk hb; clear hb l0' i0' c0' c1' c2' c3' c4' d0' d1' d2' d3' d4' h2')
                    refine wpIn_region_still_tail (((open_wide _ _).inRound l).inRound l2) 14 hmo (by kernel_rfl) (by rfl) ?_
                    simp only [List.take_succ_cons, List.take_zero, List.drop_succ_cons, List.drop_zero]
                    repeat still_step
                    refine wpStill_nil ?_
                    gi_wp2
                    exact ⟨((keepsFrom_below _ HB.out).trans ((KeepsOthers.drew _).from _)).trans ((KeepsOthers.setCell _ _ _).from _), ⟨rfl, by rw [HS.out, HO.out]; simp⟩, (boxed_drew (boxed_below bS2 HB.out)).set _, ((hB2.trans (HB.out.mono (by omega))).drew).setCell (p := ⟨w.heap.size + 1, 0, none⟩) (by simp) _, ((hK2.trans (keepsFrom_below _ HB.out)).trans ((KeepsOthers.drew _).from _)).trans ((KeepsOthers.setCell _ _ _).from _)⟩
                · have hl' : ((y.1 : Int) == (l0.length : Int) - 1) = false := by simpa using hl
                  by_cases hmm : m = 0
                  · have hm1 : (m != 0) = false := by simpa using hmm
                    have HO := Aside0.mk (show pairOk l0.length x y = true by have h := HN.out; rw [if_neg hn, if_neg (fun h => hl h.2)] at h; rw [h]; simp [hmm])
                    clear HN hn hz hl hmm HQ
                    gi_wp2_with (refine ⟨trivial, ?_⟩; gi_at_call 28; refine (CallsIn.inRound l2 (callsIn_wide.2 (plane_Meeting.calls 16 x.2.1.f0 x.2.1.f1 x.2.2.f0 x.2.2.f1 y.2.1.f0 y.2.1.f1 y.2.2.f0 y.2.2.f1 m _ AM.out))).mono ?_; rintro e w6 ⟨rfl, hb⟩; have l0'' : w6.cell? ⟨w.heap.size, 0, none⟩ = some (.slice A0 l0.length c0) := (bP2.below hb).cell 0; have i0'' := (boxed_below bI2 hb).cell; have s0'' := (boxed_below bS2 hb).cell; have f0'' := (boxed_below bS2 hb).frozen; have HB := Aside0.mk hb; clear hb l0' i0' c0' c1' c2' c3' c4' d0' d1' d2' d3' d4' h2')
                    refine wpIn_region_still_tail (((open_wide _ _).inRound l).inRound l2) 14 hmo (by kernel_rfl) (by rfl) ?_
                    simp only [List.take_succ_cons, List.take_zero, List.drop_succ_cons, List.drop_zero]
                    repeat still_step
                    refine wpStill_nil ?_
                    gi_wp2
                    exact ⟨(keepsFrom_below _ HB.out).trans ((KeepsOthers.drew _).from _), (KpE.of_below (by omega) (by omega) HB.out).trans (KpE_drew _), ⟨⟨by rw [HS.out, HP2.out, HO.out]; rfl, boxed_drew (boxed_below bS2 HB.out), (bP2.below HB.out).drew⟩, boxed_drew (boxed_below bI2 HB.out), (bX2.below HB.out).drew⟩, (hB2.trans (HB.out.mono (by omega))).drew, ⟨(hK2.trans (keepsFrom_below _ HB.out)).trans ((KeepsOthers.drew _).from _), (hE2.trans (KpE.of_below (by omega) (by omega) HB.out)).trans (KpE_drew _)⟩, Nat.le_trans hs2 HB.out.size⟩
                  · have hm1 : (m != 0) = true := by simpa using hmm
                    have HO := Aside0.mk (show pairOk l0.length x y = false by have h := HN.out; rw [if_neg hn, if_neg (fun h => hl h.2)] at h; rw [h]; simp [hmm])
                    clear HN hn hz hl hmm HQ
                    gi_wp2_with (refine ⟨trivial, ?_⟩; gi_at_call 28; refine (CallsIn.inRound l2 (callsIn_wide.2 (plane_Meeting.calls 16 x.2.1.f0 x.2.1.f1 x.2.2.f0 x.2.2.f1 y.2.1.f0 y.2.1.f1 y.2.2.f0 y.2.2.f1 m _ AM.out))).mono ?_; rintro e w6 ⟨rfl, hb⟩; have l0'' : w6.cell? ⟨w.heap.size, 0, none⟩ = some (.slice A0 l0.length c0) := (bP2.below hb).cell 0; have i0'' := (boxed_below bI2 hb).cell; have s0'' := (boxed_below bS2 hb).cell; have f0'' := (boxed_below bS2 hb).frozen; have HB := Aside0.mk hb; clear hb l0' i0' c0' c1' c2' c3' c4' d0' d1' d2' d3' d4' h2')
                    refine wpIn_region_still_tail (((open_wide _ _).inRound l).inRound l2) 14 hmo (by kernel_rfl) (by rfl) ?_
                    simp only [List.take_succ_cons, List.take_zero, List.drop_succ_cons, List.drop_zero]
                    repeat still_step
                    refine wpStill_nil ?_
                    gi_wp2
                    exact ⟨((keepsFrom_below _ HB.out).trans ((KeepsOthers.drew _).from _)).trans ((KeepsOthers.setCell _ _ _).from _), ⟨rfl, by rw [HS.out, HO.out]; simp⟩, (boxed_drew (boxed_below bS2 HB.out)).set _, ((hB2.trans (HB.out.mono (by omega))).drew).setCell (p := ⟨w.heap.size + 1, 0, none⟩) (by simp) _, ((hK2.trans (keepsFrom_below _ HB.out)).trans ((KeepsOthers.drew _).from _)).trans ((KeepsOthers.setCell _ _ _).from _)⟩
              · have hz' : ((x.1 : Int) == 0) = false := by simpa using hz
                by_cases hmm : m = 0
                · have hm1 : (m != 0) = false := by simpa using hmm
                  have HO := Aside0.mk (show pairOk l0.length x y = true by have h := HN.out; rw [if_neg hn, if_neg (fun h => hz h.1)] at h; rw [h]; simp [hmm])
                  clear HN hn hz hmm HQ
                  gi_wp2_with (refine ⟨trivial, ?_⟩; gi_at_call 28; refine (CallsIn.inRound l2 (callsIn_wide.2 (plane_Meeting.calls 16 x.2.1.f0 x.2.1.f1 x.2.2.f0 x.2.2.f1 y.2.1.f0 y.2.1.f1 y.2.2.f0 y.2.2.f1 m _ AM.out))).mono ?_; rintro e w6 ⟨rfl, hb⟩; have l0'' : w6.cell? ⟨w.heap.size, 0, none⟩ = some (.slice A0 l0.length c0) := (bP2.below hb).cell 0; have i0'' := (boxed_below bI2 hb).cell; have s0'' := (boxed_below bS2 hb).cell; have f0'' := (boxed_below bS2 hb).frozen; have HB := Aside0.mk hb; clear hb l0' i0' c0' c1' c2' c3' c4' d0' d1' d2' d3' d4' h2')
                  refine wpIn_region_still_tail (((open_wide _ _).inRound l).inRound l2) 14 hmo (by kernel_rfl) (by rfl) ?_
                  simp only [List.take_succ_cons, List.take_zero, List.drop_succ_cons, List.drop_zero]
                  repeat still_step
                  refine wpStill_nil ?_
                  gi_wp2
                  exact ⟨(keepsFrom_below _ HB.out).trans ((KeepsOthers.drew _).from _), (KpE.of_below (by omega) (by omega) HB.out).trans (KpE_drew _), ⟨⟨by rw [HS.out, HP2.out, HO.out]; rfl, boxed_drew (boxed_below bS2 HB.out), (bP2.below HB.out).drew⟩, boxed_drew (boxed_below bI2 HB.out), (bX2.below HB.out).drew⟩, (hB2.trans (HB.out.mono (by omega))).drew, ⟨(hK2.trans (keepsFrom_below _ HB.out)).trans ((KeepsOthers.drew _).from _), (hE2.trans (KpE.of_below (by omega) (by omega) HB.out)).trans (KpE_drew _)⟩, Nat.le_trans hs2 HB.out.size⟩
                · have hm1 : (m != 0) = true := by simpa using hmm
                  have HO := Aside0.mk (show pairOk l0.length x y = false by have h := HN.out; rw [if_neg hn, if_neg (fun h => hz h.1)] at h; rw [h]; simp [hmm])
                  clear HN hn hz hmm HQ
                  gi_wp2_with (refine ⟨trivial, ?_⟩; gi_at_call 28; refine (CallsIn.inRound l2 (callsIn_wide.2 (plane_Meeting.calls 16 x.2.1.f0 x.2.1.f1 x.2.2.f0 x.2.2.f1 y.2.1.f0 y.2.1.f1 y.2.2.f0 y.2.2.f1 m _ AM.out))).mono ?_; rintro e w6 ⟨rfl, hb⟩; have l0'' : w6.cell? ⟨w.heap.size, 0, none⟩ = some (.slice A0 l0.length c0) := (bP2.below hb).cell 0; have i0'' := (boxed_below bI2 hb).cell; have s0'' := (boxed_below bS2 hb).cell; have f0'' := (boxed_below bS2 hb).frozen; have HB := Aside0.mk hb; clear hb l0' i0' c0' c1' c2' c3' c4' d0' d1' d2' d3' d4' h2')
                  refine wpIn_region_still_tail (((open_wide _ _).inRound l).inRound l2) 14 hmo (by kernel_rfl) (by rfl) ?_
                  simp only [List.take_succ_cons, List.take_zero, List.drop_succ_cons, List.drop_zero]
                  repeat still_step
                  refine wpStill_nil ?_
                  gi_wp2
                  exact ⟨((keepsFrom_below _ HB.out).trans ((KeepsOthers.drew _).from _)).trans ((KeepsOthers.setCell _ _ _).from _), ⟨rfl, by rw [HS.out, HO.out]; simp⟩, (boxed_drew (boxed_below bS2 HB.out)).set _, ((hB2.trans (HB.out.mono (by omega))).drew).setCell (p := ⟨w.heap.size + 1, 0, none⟩) (by simp) _, ((hK2.trans (keepsFrom_below _ HB.out)).trans ((KeepsOthers.drew _).from _)).trans ((KeepsOthers.setCell _ _ _).from _)⟩
      case done2 =>
        rintro ys' W' rfl ⟨⟨⟨hp2, bS2, bP2⟩, bI2, bX2⟩, hB2, ⟨hK2, hE2⟩, hs2⟩
        have HP2 := Aside0.mk hp2
        clear hp2
        gi_wp2
        exact ⟨hK2, hE2, ⟨by rw [all_snoc, HP.out]; unfold edgeOk; rw [HE.out, HP2.out]; rfl, bS2, bP2⟩, hB1.trans hB2, by omega⟩
      case stop2 =>
        rintro c pre' W' ⟨k, hk, rfl⟩ ⟨⟨rfl, hp2⟩, bS2, hB2, hK2⟩
        have HP2 := Aside0.mk (all_part hk hp2)
        clear hp2
        gi_wp2
        exact ⟨hK2, ⟨rfl, by rw [all_snoc]; unfold edgeOk; rw [HE.out, HP2.out]; simp⟩, bS2, hB1.trans hB2⟩
  case done =>
    rintro D zs W hD rfl ⟨⟨hp1, bS1, bP1⟩, hB1, hs1⟩ hK
    have HP := Aside0.mk hp1
    clear hp1
    have cS := bS1.cell
    have fS := bS1.frozen
    gi_wp2
    have hK' := (KeepsOthers.setCell W ⟨w.heap.size + 1, 0, none⟩ (.bool true)).same D _ hK rfl
    refine ⟨by simp, .inl ⟨_, _, rfl, run_takeDeferred hK', ?_⟩⟩
    have hc5 := cell_kept (World.cell?_setCell_same' W ⟨w.heap.size + 1, 0, none⟩ (.bool true) (by rw [cS]; rfl)) (grownBy_putObj' _ D (.deferred none)) (fun r e => by cases e; exact ⟨_, hK', rfl⟩)
    refine ⟨.bool true, ?_, by unfold simpleP; rw [HP.out], (hB1.setCell (p := ⟨w.heap.size + 1, 0, none⟩) (by simp) _).trans (belowK_b (w := w) (Nat.le_refl _) _ D _ _ (by omega) hK' rfl rfl)⟩
    simp [results, Try.f95, go_sem, hc5]
  case stop =>
    rintro D c pre W hD ⟨k, hk, rfl⟩ ⟨⟨rfl, hp1⟩, bS1, hB1⟩ hK
    have HP := Aside0.mk (all_part hk hp1)
    clear hp1
    have cS := bS1.cell
    gi_wp2
    refine ⟨by simp, .inl ⟨_, _, rfl, run_takeDeferred hK, ?_⟩⟩
    have hc5 := cell_kept cS (grownBy_putObj' _ D (.deferred none)) (fun r e => by cases e; exact ⟨_, hK, rfl⟩)
    refine ⟨.bool false, ?_, by unfold simpleP; rw [HP.out], hB1.trans (belowK_b (w := w) (Nat.le_refl _) W D _ _ (by omega) hK rfl rfl)⟩
    simp [results, Try.f95, go_sem, hc5]
theorem plane_simple.calls (A0 : Option Addr) (c0 : Nat) (l0 : List (S23)) (r : Bool) (w : World) (hr0 : Kd.C k23 w A0 l0.length l0) (hc0 : l0.length ≤ c0) (h : plane_simple.f l0 = some r) :
    Calls Try.prog 95 #[.slice A0 l0.length c0] w fun e w' => e = .returned (.bool r) ∧ Below w.heap.size w w' := by
  unfold plane_simple.f at h
  split at h
  · rename_i hm
    obtain rfl := Option.some.inj h
    exact simple_any A0 c0 l0 w hr0 hc0 hm
  · exact absurd h (by simp)
end Go.Proofs.Ytckaejgamfllfaa.G
end

section
namespace Go.Proofs.Ytckaejgamfllfaa.G
open Go.RowKit Go.Proofs.YtckaejgamfllfaaW.PrintWords Go.Proofs.YtckaejgamfllfaaW.PrintLast Go.Proofs.YtckaejgamfllfaaW.PrintMore
attribute [local go_sem] max2_int min2_int max_two min_two max_three min_three max_four min_four
set_option linter.unusedVariables false
set_option linter.unusedSimpArgs false
def plane_Simple.f (k : Nat) (l0 : List (S23)) : Option (Bool × Int) := (plane_ring.f k l0 ([] : List (S23))).bind fun t183 => (if t183 = 0 then ((plane_simple.f l0).bind fun t184 => (some (t184, 0))) else (some (false, t183)))
theorem plane_Simple.mono : ∀ a0 k, LeO (plane_Simple.f k a0) (plane_Simple.f (k + 1) a0) := by
  intro a0 k
  unfold plane_Simple.f
  repeat' first
      | (with_reducible exact plane_ring.mono _ _ _)
      | (with_reducible exact LeO.refl _)
      | (with_reducible exact LeO.none _)
      | (with_reducible refine LeO.ite ?_ ?_)
      | (with_reducible refine LeO.bind ?_ (fun _ => ?_))
      | exact plane_ring.mono _ _ _
      | exact LeO.none _
      | refine LeO.ite ?_ ?_
      | refine LeO.bind ?_ (fun _ => ?_)
set_option maxHeartbeats 8000000 in
set_option maxRecDepth 100000 in
theorem plane_Simple.calls (k : Nat) (A0 : Option Addr) (c0 : Nat) (l0 : List (S23)) (r1 : Bool) (r2 : Int) (w : World) (hr0 : Kd.C k23 w A0 l0.length l0) (hc0 : l0.length ≤ c0) (h : plane_Simple.f k l0 = some (r1, r2)) :
    Calls Try.prog 33 #[.slice A0 l0.length c0] w fun e w' => e = .returned (.tuple #[.bool r1, .int .i64 r2]) ∧ Below w.heap.size w w' := by
  have HR0 := Aside0.mk hr0
  have HC0 := Aside0.mk hc0
  clear hr0 hc0
  have HB := Aside0.mk (Below.refl w.heap.size w)
  have H : ((plane_ring.f k l0 ([] : List (S23))).bind fun t183 => (if t183 = 0 then ((plane_simple.f l0).bind fun t184 => (some (t184, 0))) else (some (false, t183)))) = some (r1, r2) := h
  clear h
  replace H := Option.bind_eq_some_iff.mp H
  obtain ⟨t183, A20, H⟩ := H
  replace H : (if t183 = 0 then ((plane_simple.f l0).bind fun t184 => (some (t184, 0))) else (some (false, t183))) = some (r1, r2) := H
  have A2 := Aside0.mk A20
  clear A20
  by_cases c3 : t183 = 0
  · rw [if_pos c3] at H
    have c3b0 : (t183 == 0) = true := beq_iff_eq.mpr c3
    have c3b1 : (t183 != 0) = false := bne_eq_false_iff_eq.mpr c3
    clear c3
    replace H := Option.bind_eq_some_iff.mp H
    obtain ⟨t184, A40, H⟩ := H
    replace H : (some (t184, 0)) = some (r1, r2) := H
    have A4 := Aside0.mk A40
    clear A40
    simp only [Option.some.injEq, Prod.mk.injEq] at H
    obtain ⟨rfl, rfl⟩ := H
    go_enter Try.func33, Try.ntmps33
    go_wp2_with (first | ((with_reducible refine gate_callee (f := 92) rfl ?_); refine goesL_ (some 6) rfl rfl Try.func92 (by kernel_rfl) rfl #[.slice A0 l0.length c0, .slice none 0 0] rfl (by (try simp only [List.map_toArray, List.map_cons, List.map_nil]); first | done | rfl | (simp only [List.length_drop, List.length_take]; rfl)) ?_; (refine (plane_ring.calls k _ _ l0 _ _ ([] : List (S23)) t183 _ ?side1 ?side2 ?side3 ?side4 A2.out).mono ?_); (case side1 => repeat (first | exact HR0.out | (with_reducible refine Kd.C_alloc ?_ _) | (with_reducible refine Kd.C_drewN ?_ _) | (with_reducible refine Kd.C_drew ?_))); (case side2 => exact HC0.out); (case side3 => exact Kd.C_nil _ _); (case side4 => exact Nat.le_refl _); rintro e w5 ⟨rfl, hb⟩; refine ⟨_, rfl, ?_⟩; have n0_ := Aside0.mk (below_step (by repeat (first | (with_reducible first | exact HB.out | apply below_alloc | apply pw_below_drewN | apply below_drew1) | exact HB.out)) hb); clear HB; have HB := n0_; clear n0_; (try clear hb); (try clear hb2); (try clear hk); (try clear hi)) | ((with_reducible refine gate_callee (f := 95) rfl ?_); refine goesL_ (some 11) rfl rfl Try.func95 (by kernel_rfl) rfl #[.slice A0 l0.length c0] rfl (by (try simp only [List.map_toArray, List.map_cons, List.map_nil]); first | done | rfl | (simp only [List.length_drop, List.length_take]; rfl)) ?_; (with_reducible refine (plane_simple.calls _ _ l0 t184 _ ?side1 ?side2 A4.out).mono ?_); (case side1 => repeat (first | exact (Kd.C_below HR0.out HB.out) | (with_reducible refine Kd.C_alloc ?_ _) | (with_reducible refine Kd.C_drewN ?_ _) | (with_reducible refine Kd.C_drew ?_))); (case side2 => exact HC0.out); rintro e w6 ⟨rfl, hb⟩; refine ⟨_, rfl, ?_⟩; have n0_ := Aside0.mk (below_step (by repeat (first | (with_reducible first | exact HB.out | apply below_alloc | apply pw_below_drewN | apply below_drew1) | exact HB.out)) hb); clear HB; have HB := n0_; clear n0_; (try clear hb); (try clear hb2); (try clear hk); (try clear hi)))
    go_ret2
    exact ⟨by first | rfl | (simp [errW_none, errW_some] <;> rfl) | (simp [*, errW_none, errW_some] <;> rfl), by repeat (first | (with_reducible first | exact HB.out | apply below_alloc | apply pw_below_drewN | apply below_drew1) | exact HB.out)⟩
  · rw [if_neg c3] at H
    have c3b0 : (t183 == 0) = false := beq_eq_false_iff_ne.mpr c3
    have c3b1 : (t183 != 0) = true := bne_iff_ne.mpr c3
    simp only [Option.some.injEq, Prod.mk.injEq] at H
    obtain ⟨rfl, rfl⟩ := H
    go_enter Try.func33, Try.ntmps33
    go_wp2_with (first | ((with_reducible refine gate_callee (f := 92) rfl ?_); refine goesL_ (some 6) rfl rfl Try.func92 (by kernel_rfl) rfl #[.slice A0 l0.length c0, .slice none 0 0] rfl (by (try simp only [List.map_toArray, List.map_cons, List.map_nil]); first | done | rfl | (simp only [List.length_drop, List.length_take]; rfl)) ?_; (refine (plane_ring.calls k _ _ l0 _ _ ([] : List (S23)) t183 _ ?side1 ?side2 ?side3 ?side4 A2.out).mono ?_); (case side1 => repeat (first | exact HR0.out | (with_reducible refine Kd.C_alloc ?_ _) | (with_reducible refine Kd.C_drewN ?_ _) | (with_reducible refine Kd.C_drew ?_))); (case side2 => exact HC0.out); (case side3 => exact Kd.C_nil _ _); (case side4 => exact Nat.le_refl _); rintro e w7 ⟨rfl, hb⟩; refine ⟨_, rfl, ?_⟩; have n0_ := Aside0.mk (below_step (by repeat (first | (with_reducible first | exact HB.out | apply below_alloc | apply pw_below_drewN | apply below_drew1) | exact HB.out)) hb); clear HB; have HB := n0_; clear n0_; (try clear hb); (try clear hb2); (try clear hk); (try clear hi)))
    go_ret2
    exact ⟨by first | rfl | (simp [errW_none, errW_some] <;> rfl) | (simp [*, errW_none, errW_some] <;> rfl), by repeat (first | (with_reducible first | exact HB.out | apply below_alloc | apply pw_below_drewN | apply below_drew1) | exact HB.out)⟩
end Go.Proofs.Ytckaejgamfllfaa.G
end

section
namespace Go.Proofs.Ytckaejgamfllfaa.G
open Go.RowKit Go.Shelf Go.Proofs.YtckaejgamfllfaaW.PrintWords Go.Proofs.YtckaejgamfllfaaW.PrintLast Go.Proofs.YtckaejgamfllfaaW.PrintMore
set_option linter.unusedVariables false
set_option linter.unusedSimpArgs false
attribute [local go_sem] Oper.semAt_some
def bordOf (p : S23) (l : List (Nat × S23 × S23)) : Bool := l.any fun e => onP e.2.1 e.2.2 p
theorem bordOf_snoc (p : S23) (l : List (Nat × S23 × S23)) (e : Nat × S23 × S23) : bordOf p (l ++ [e]) = (bordOf p l || onP e.2.1 e.2.2 p) := by simp [bordOf]
def plane_border.f (l0 : List S23) (a1_0 a1_1 : Int) : Option Bool := if l0.length ≤ 9223372036854775806 then some (bordOf ⟨a1_0, a1_1⟩ (edgesTo l0 l0.length)) else none
theorem bordOf_part {p : S23} {l0 : List S23} {k : Nat} (hk : k ≤ l0.length) (h : bordOf p (edgesTo l0 k) = true) : bordOf p (edgesTo l0 l0.length) = true := by
  unfold bordOf edgesTo at *
  rw [List.any_eq_true] at *
  obtain ⟨x, hx, hp⟩ := h
  refine ⟨x, ?_, hp⟩
  rw [List.mem_map] at *
  obtain ⟨i, hi, he⟩ := hx
  rw [List.mem_range] at hi
  exact ⟨i, List.mem_range.2 (by omega), he⟩
set_option maxRecDepth 100000 in
set_option maxHeartbeats 8000000 in
theorem border_any (A0 : Option Addr) (c0 : Nat) (l0 : List S23) (p : S23) (w : World) (hr0 : Kd.C k23 w A0 l0.length l0) (hm : l0.length ≤ 9223372036854775806) :
    Calls Try.prog 97 #[.slice A0 l0.length c0, .agg #[.int .i64 p.f0, .int .i64 p.f1]] w fun e w' => e = .returned (.bool (bordOf p (edgesTo l0 l0.length))) ∧ Below w.heap.size w w' := by
  refine (callsIn_wide (n := 6)).1 ?_
  have HM := Aside0.mk hm
  clear hm
  have hu34 := Try.underlying34
  have hu23 := Try.underlying23
  refine callsIn_of_wp_marks Try.func97 rfl trivial ?_ rfl
  simp only [Try.ntmps97, List.size_toArray, List.length_cons, List.length_nil, Nat.reduceAdd, Nat.reduceSub, Array.replicate_succ, Array.replicate_zero, List.push_toArray, List.append_toArray, List.nil_append, List.cons_append]
  gi_wp2_with (refine ⟨trivial, ?_⟩; gi_at_call 131; refine (callsIn_wide.2 (edges.calls _ _ _ _)).mono ?_; rintro e w' ⟨rfl, rfl⟩)
  have bP := ((Blk.new w 23 #[.int .i64 p.f0, .int .i64 p.f1]).alloc (.cells #[.bool false] 4)).alloc (.cells #[.slice A0 l0.length c0] 39)
  have bS := (Boxed.new (w.alloc (.cells #[.int .i64 p.f0, .int .i64 p.f1] 23)) 4 (.bool false)).alloc (.cells #[.slice A0 l0.length c0] 39)
  have bN := Blk.new ((w.alloc (.cells #[.int .i64 p.f0, .int .i64 p.f1] 23)).alloc (.cells #[.bool false] 4)) 39 #[.slice A0 l0.length c0]
  simp only [World.size_alloc] at bS bN
  have hB0 : Below w.heap.size w (((w.alloc (.cells #[.int .i64 p.f0, .int .i64 p.f1] 23)).alloc (.cells #[.bool false] 4)).alloc (.cells #[.slice A0 l0.length c0] 39)) := (((Below.refl _ w).alloc (Nat.le_refl _) _).alloc (by simp) _).alloc (by simp; omega) _
  have hsz : (((w.alloc (.cells #[.int .i64 p.f0, .int .i64 p.f1] 23)).alloc (.cells #[.bool false] 4)).alloc (.cells #[.slice A0 l0.length c0] 39)).heap.size = w.heap.size + 3 := by simp
  obtain ⟨W0, hW0⟩ : ∃ W0, ((w.alloc (.cells #[.int .i64 p.f0, .int .i64 p.f1] 23)).alloc (.cells #[.bool false] 4)).alloc (.cells #[.slice A0 l0.length c0] 39) = W0 := ⟨_, rfl⟩
  rw [hW0] at bP bS bN hB0 hsz ⊢
  clear hW0
  refine wpIn_rangeFunc_ownH rfl (by omega) (gf := 138) (lb := #[.pointer (some ⟨w.heap.size + 1 + 1, 0, none⟩)]) rfl trivial (enters_of Try.func138 (by kernel_rfl) rfl)
    (edges_stops 5 (by omega) (w.heap.size + 1 + 1) A0 c0 l0 w W0 hr0 HM.out hB0 (by omega) bN) KpE.trans (KpE.put (by omega) (by omega)) (Below.refl _ _) (fun _ => rfl)
    (fun pre W => (bordOf p pre = false ∧ Boxed W (w.heap.size + 1) 4 (.bool false) ∧ Blk W w.heap.size #[.int .i64 p.f0, .int .i64 p.f1] 23) ∧ Below w.heap.size w W ∧ w.heap.size + 3 ≤ W.heap.size)
    (fun c pre W => (c = .ret ∧ bordOf p pre = true) ∧ Boxed W (w.heap.size + 1) 4 (.bool true) ∧ Below w.heap.size w W)
    (OwnFrom.and (OwnFrom.and (ownFrom_pure _ _) (OwnFrom.and (Own.from (boxed_own _ _ (fun _ => .bool false)) _) (Own.from (blk_own _ _ _) _))) (OwnFrom.and (ownFrom_below (Nat.le_refl _) (by omega)) (fun s W W' row hs hg hr => Nat.le_trans hs hg.size)))
    (fun c => OwnFrom.and (ownFrom_pure _ _) (OwnFrom.and (Own.from (boxed_own _ _ (fun _ => .bool true)) _) (ownFrom_below (Nat.le_refl _) (by omega))))
    ⟨⟨rfl, bS, bP⟩, hB0, by omega⟩
    (fun x a' W => ∃ Bx, w.heap.size + 3 ≤ Bx ∧ Blk W Bx #[.int .i64 x.2.1.f0, .int .i64 x.2.1.f1, .int .i64 x.2.2.f0, .int .i64 x.2.2.f1] 34 ∧ a' = { tmps := #[.slice A0 l0.length c0, .agg #[.int .i64 p.f0, .int .i64 p.f1], undef, .pointer (some ⟨w.heap.size, 0, none⟩), .pointer (some ⟨w.heap.size + 1, 0, none⟩), undef, .pointer (some ⟨Bx, 0, none⟩), .slice A0 l0.length c0, .func (.func 138) #[] #[.pointer (some ⟨w.heap.size + 1 + 1, 0, none⟩)], .int .i64 (x.1 : Int), .agg #[.int .i64 x.2.1.f0, .int .i64 x.2.1.f1, .int .i64 x.2.2.f0, .int .i64 x.2.2.f1], undef, undef, undef, undef, undef, undef], defers := [] })
    (fun x a' _ X Y row hs hg hr => by obtain ⟨Bx, h1, h2, h3⟩ := hs; exact ⟨Bx, h1, blk_own Bx 34 (fun (_ : Unit) => #[.int .i64 x.2.1.f0, .int .i64 x.2.1.f1, .int .i64 x.2.2.f0, .int .i64 x.2.2.f1]) () X Y row h2 hg (fun r e => (hr r e).2), h3⟩)
    ?assign ?body ?done ?stop
  case assign =>
    rintro l pre x W K ⟨⟨hp1, bS1, bP1⟩, hB1, hs1⟩ hK
    have HP := Aside0.mk hp1
    clear hp1
    simp only [edgeV]
    gi_wp2
    exact hK _ _ ((KeepsOthers.alloc _ _).from _) (KpE.alloc _ (by omega) (by omega) _) ⟨⟨HP.out, bS1.alloc _, bP1.alloc _⟩, hB1.alloc hB1.size _, by simp; omega⟩ ⟨W.heap.size, hs1, Blk.new W 34 _, rfl⟩
  case body =>
    rintro l pre x a' W hl ⟨r, hr⟩ ⟨⟨hp1, bS1, bP1⟩, hB1, hs1⟩ ⟨Bx, hBx, bX, rfl⟩ hlt
    have HP := Aside0.mk hp1
    clear hp1
    have c0' : W.cell? ⟨Bx, 0, none⟩ = some (.int .i64 x.2.1.f0) := bX.cell 0
    have c1' : W.cell? ⟨Bx, 1, none⟩ = some (.int .i64 x.2.1.f1) := bX.cell 1
    have c2' : W.cell? ⟨Bx, 2, none⟩ = some (.int .i64 x.2.2.f0) := bX.cell 2
    have c3' : W.cell? ⟨Bx, 3, none⟩ = some (.int .i64 x.2.2.f1) := bX.cell 3
    have c4' : W.cell? ⟨Bx, 2 + 1, none⟩ = some (.int .i64 x.2.2.f1) := bX.cell 3
    have p0' : W.cell? ⟨w.heap.size, 0, none⟩ = some (.int .i64 p.f0) := bP1.cell 0
    have p1' : W.cell? ⟨w.heap.size, 1, none⟩ = some (.int .i64 p.f1) := bP1.cell 1
    have HS := Aside0.mk (bordOf_snoc p pre x)
    obtain ⟨t, ht⟩ : ∃ t, onP x.2.1 x.2.2 p = t := ⟨_, rfl⟩
    have A := Aside0.mk (show plane_on.f x.2.1.f0 x.2.1.f1 x.2.2.f0 x.2.2.f1 p.f0 p.f1 = some t by rw [plane_on_eq, ht])
    have HT := Aside0.mk ht
    clear ht
    cases t with
    | true =>
      gi_wp2_with (refine ⟨trivial, ?_⟩; gi_at_call 88; refine (CallsIn.inRound l (callsIn_wide.2 (plane_on.calls x.2.1.f0 x.2.1.f1 x.2.2.f0 x.2.2.f1 p.f0 p.f1 true _ A.out))).mono ?_; rintro e w6 ⟨rfl, hb⟩; have s'' := (boxed_below bS1 hb).cell; have f'' := (boxed_below bS1 hb).frozen; have HB := Aside0.mk hb; clear hb)
      exact ⟨(keepsFrom_below _ HB.out).trans ((KeepsOthers.setCell _ _ _).from _), ⟨rfl, by rw [HS.out, HT.out]; simp⟩, (boxed_below bS1 HB.out).set _, (hB1.trans (HB.out.mono (by omega))).setCell (p := ⟨w.heap.size + 1, 0, none⟩) (by simp) _⟩
    | false =>
      gi_wp2_with (refine ⟨trivial, ?_⟩; gi_at_call 88; refine (CallsIn.inRound l (callsIn_wide.2 (plane_on.calls x.2.1.f0 x.2.1.f1 x.2.2.f0 x.2.2.f1 p.f0 p.f1 false _ A.out))).mono ?_; rintro e w6 ⟨rfl, hb⟩; have HB := Aside0.mk hb; clear hb)
      exact ⟨keepsFrom_below _ HB.out, KpE.of_below (by omega) (by omega) HB.out, ⟨by rw [HS.out, HP.out, HT.out]; rfl, boxed_below bS1 HB.out, bP1.below HB.out⟩, hB1.trans (HB.out.mono (by omega)), Nat.le_trans hs1 HB.out.size⟩
  case done =>
    rintro D zs W hD rfl ⟨⟨hp1, bS1, bP1⟩, hB1, hs1⟩ hK
    have HP := Aside0.mk hp1
    clear hp1
    have cS := bS1.cell
    have fS := bS1.frozen
    gi_wp2
    have hK' := (KeepsOthers.setCell W ⟨w.heap.size + 1, 0, none⟩ (.bool false)).same D _ hK rfl
    refine ⟨by simp, .inl ⟨_, _, rfl, run_takeDeferred hK', ?_⟩⟩
    have hc5 := cell_kept (World.cell?_setCell_same' W ⟨w.heap.size + 1, 0, none⟩ (.bool false) (by rw [cS]; rfl)) (grownBy_putObj' _ D (.deferred none)) (fun r e => by cases e; exact ⟨_, hK', rfl⟩)
    refine ⟨.bool false, ?_, by rw [HP.out], (hB1.setCell (p := ⟨w.heap.size + 1, 0, none⟩) (by simp) _).trans (belowK_b (w := w) (Nat.le_refl _) _ D _ _ (by omega) hK' rfl rfl)⟩
    simp [results, Try.f97, go_sem, hc5]
  case stop =>
    rintro D c pre W hD ⟨k, hk, rfl⟩ ⟨⟨rfl, hp1⟩, bS1, hB1⟩ hK
    have HP := Aside0.mk (bordOf_part hk hp1)
    clear hp1
    have cS := bS1.cell
    gi_wp2
    refine ⟨by simp, .inl ⟨_, _, rfl, run_takeDeferred hK, ?_⟩⟩
    have hc5 := cell_kept cS (grownBy_putObj' _ D (.deferred none)) (fun r e => by cases e; exact ⟨_, hK, rfl⟩)
    refine ⟨.bool true, ?_, by rw [HP.out], hB1.trans (belowK_b (w := w) (Nat.le_refl _) W D _ _ (by omega) hK rfl rfl)⟩
    simp [results, Try.f97, go_sem, hc5]
theorem plane_border.calls (A0 : Option Addr) (c0 : Nat) (l0 : List (S23)) (a1_0 : Int) (a1_1 : Int) (r : Bool) (w : World) (hr0 : Kd.C k23 w A0 l0.length l0) (hc0 : l0.length ≤ c0) (h : plane_border.f l0 a1_0 a1_1 = some r) :
    Calls Try.prog 97 #[.slice A0 l0.length c0, .agg #[.int .i64 a1_0, .int .i64 a1_1]] w fun e w' => e = .returned (.bool r) ∧ Below w.heap.size w w' := by
  unfold plane_border.f at h
  split at h
  · rename_i hm
    obtain rfl := Option.some.inj h
    exact border_any A0 c0 l0 ⟨a1_0, a1_1⟩ w hr0 hm
  · exact absurd h (by simp)
end Go.Proofs.Ytckaejgamfllfaa.G
end

section
namespace Go.Proofs.Ytckaejgamfllfaa.G
open Go.RowKit Go.Shelf Go.Proofs.YtckaejgamfllfaaW.PrintWords Go.Proofs.YtckaejgamfllfaaW.PrintLast Go.Proofs.YtckaejgamfllfaaW.PrintMore
set_option linter.unusedVariables false
set_option linter.unusedSimpArgs false
attribute [local go_sem] Oper.semAt_some
def windStep (p : S23) (n : Int) (e : Nat × S23 × S23) : Int :=
  if e.2.1.f1 ≤ p.f1 then (if p.f1 < e.2.2.f1 then (if 0 < twW e.2.1 e.2.2 p then wrap64 (n + 1) else n) else n)
  else (if e.2.2.f1 ≤ p.f1 then (if twW e.2.1 e.2.2 p < 0 then wrap64 (n - 1) else n) else n)
def windOf (p : S23) (l : List (Nat × S23 × S23)) : Int := l.foldl (windStep p) 0
theorem windOf_snoc (p : S23) (l : List (Nat × S23 × S23)) (e : Nat × S23 × S23) : windOf p (l ++ [e]) = windStep p (windOf p l) e := by simp [windOf]
def plane_winding.f (l0 : List S23) (a1_0 a1_1 : Int) : Option Int := if l0.length ≤ 9223372036854775806 then some (windOf ⟨a1_0, a1_1⟩ (edgesTo l0 l0.length)) else none
set_option maxRecDepth 100000 in
set_option maxHeartbeats 8000000 in
theorem winding_any (A0 : Option Addr) (c0 : Nat) (l0 : List S23) (p : S23) (w : World) (hr0 : Kd.C k23 w A0 l0.length l0) (hm : l0.length ≤ 9223372036854775806) :
    Calls Try.prog 98 #[.slice A0 l0.length c0, .agg #[.int .i64 p.f0, .int .i64 p.f1]] w fun e w' => e = .returned (.int .i64 (windOf p (edgesTo l0 l0.length))) ∧ Below w.heap.size w w' := by
  refine (callsIn_wide (n := 6)).1 ?_
  have HM := Aside0.mk hm
  clear hm
  have hu34 := Try.underlying34
  have hu23 := Try.underlying23
  refine callsIn_of_wp_marks Try.func98 rfl trivial ?_ rfl
  simp only [Try.ntmps98, List.size_toArray, List.length_cons, List.length_nil, Nat.reduceAdd, Nat.reduceSub, Array.replicate_succ, Array.replicate_zero, List.push_toArray, List.append_toArray, List.nil_append, List.cons_append]
  gi_wp2_with (refine ⟨trivial, ?_⟩; gi_at_call 131; refine (callsIn_wide.2 (edges.calls _ _ _ _)).mono ?_; rintro e w' ⟨rfl, rfl⟩)
  have bP := ((Blk.new w 23 #[.int .i64 p.f0, .int .i64 p.f1]).alloc (.cells #[.int .i64 0] 3)).alloc (.cells #[.slice A0 l0.length c0] 39)
  have bS := (Boxed.new (w.alloc (.cells #[.int .i64 p.f0, .int .i64 p.f1] 23)) 3 (.int .i64 0)).alloc (.cells #[.slice A0 l0.length c0] 39)
  have bN := Blk.new ((w.alloc (.cells #[.int .i64 p.f0, .int .i64 p.f1] 23)).alloc (.cells #[.int .i64 0] 3)) 39 #[.slice A0 l0.length c0]
  simp only [World.size_alloc] at bS bN
  have hB0 : Below w.heap.size w (((w.alloc (.cells #[.int .i64 p.f0, .int .i64 p.f1] 23)).alloc (.cells #[.int .i64 0] 3)).alloc (.cells #[.slice A0 l0.length c0] 39)) := (((Below.refl _ w).alloc (Nat.le_refl _) _).alloc (by simp) _).alloc (by simp; omega) _
  have hsz : (((w.alloc (.cells #[.int .i64 p.f0, .int .i64 p.f1] 23)).alloc (.cells #[.int .i64 0] 3)).alloc (.cells #[.slice A0 l0.length c0] 39)).heap.size = w.heap.size + 3 := by simp
  obtain ⟨W0, hW0⟩ : ∃ W0, ((w.alloc (.cells #[.int .i64 p.f0, .int .i64 p.f1] 23)).alloc (.cells #[.int .i64 0] 3)).alloc (.cells #[.slice A0 l0.length c0] 39) = W0 := ⟨_, rfl⟩
  rw [hW0] at bP bS bN hB0 hsz ⊢
  clear hW0
  refine wpIn_rangeFunc_ownH rfl (by omega) (gf := 138) (lb := #[.pointer (some ⟨w.heap.size + 1 + 1, 0, none⟩)]) rfl trivial (enters_of Try.func138 (by kernel_rfl) rfl)
    (edges_stops 5 (by omega) (w.heap.size + 1 + 1) A0 c0 l0 w W0 hr0 HM.out hB0 (by omega) bN) KpE.trans (KpE.put (by omega) (by omega)) (Below.refl _ _) (fun _ => rfl)
    (fun pre W => (Boxed W (w.heap.size + 1) 3 (.int .i64 (windOf p pre)) ∧ Blk W w.heap.size #[.int .i64 p.f0, .int .i64 p.f1] 23) ∧ Below w.heap.size w W ∧ w.heap.size + 3 ≤ W.heap.size)
    (fun _ _ _ => False)
    (OwnFrom.and (OwnFrom.and (Own.from (boxed_own _ _ _) _) (Own.from (blk_own _ _ _) _)) (OwnFrom.and (ownFrom_below (Nat.le_refl _) (by omega)) (fun s W W' row hs hg hr => Nat.le_trans hs hg.size)))
    (fun _ _ _ _ _ hs _ _ => hs)
    ⟨⟨bS, bP⟩, hB0, by omega⟩
    (fun x a' W => ∃ Bx, w.heap.size + 3 ≤ Bx ∧ Blk W Bx #[.int .i64 x.2.1.f0, .int .i64 x.2.1.f1, .int .i64 x.2.2.f0, .int .i64 x.2.2.f1] 34 ∧ a' = { tmps := #[.slice A0 l0.length c0, .agg #[.int .i64 p.f0, .int .i64 p.f1], undef, .pointer (some ⟨w.heap.size, 0, none⟩), .int .i64 0, .pointer (some ⟨w.heap.size + 1, 0, none⟩), undef, .pointer (some ⟨Bx, 0, none⟩), undef, .slice A0 l0.length c0, .func (.func 138) #[] #[.pointer (some ⟨w.heap.size + 1 + 1, 0, none⟩)], .int .i64 (x.1 : Int), .agg #[.int .i64 x.2.1.f0, .int .i64 x.2.1.f1, .int .i64 x.2.2.f0, .int .i64 x.2.2.f1], undef, undef, undef, undef, undef, undef, undef, undef, undef, undef, undef, undef, undef, undef, undef, undef, undef, undef, undef, undef, undef, undef, undef, undef, undef, undef, undef, undef, undef, undef, undef, undef, undef, undef, undef, undef, undef, undef, undef, undef, undef, undef, undef, undef, undef, undef, undef], defers := [] })
    (fun x a' _ X Y row hs hg hr => by obtain ⟨Bx, h1, h2, h3⟩ := hs; exact ⟨Bx, h1, blk_own Bx 34 (fun (_ : Unit) => #[.int .i64 x.2.1.f0, .int .i64 x.2.1.f1, .int .i64 x.2.2.f0, .int .i64 x.2.2.f1]) () X Y row h2 hg (fun r e => (hr r e).2), h3⟩)
    ?assign ?body ?done ?stop
  case assign =>
    rintro l pre x W K ⟨⟨bS1, bP1⟩, hB1, hs1⟩ hK
    simp only [edgeV]
    gi_wp2
    exact hK _ _ ((KeepsOthers.alloc _ _).from _) (KpE.alloc _ (by omega) (by omega) _) ⟨⟨bS1.alloc _, bP1.alloc _⟩, hB1.alloc hB1.size _, by simp; omega⟩ ⟨W.heap.size, hs1, Blk.new W 34 _, rfl⟩
  case body =>
    rintro l pre x a' W hl ⟨r, hr⟩ ⟨⟨bS1, bP1⟩, hB1, hs1⟩ ⟨Bx, hBx, bX, rfl⟩ hlt
    have c0' : W.cell? ⟨Bx, 0, none⟩ = some (.int .i64 x.2.1.f0) := bX.cell 0
    have c1' : W.cell? ⟨Bx, 1, none⟩ = some (.int .i64 x.2.1.f1) := bX.cell 1
    have c2' : W.cell? ⟨Bx, 2, none⟩ = some (.int .i64 x.2.2.f0) := bX.cell 2
    have c3' : W.cell? ⟨Bx, 3, none⟩ = some (.int .i64 x.2.2.f1) := bX.cell 3
    have c4' : W.cell? ⟨Bx, 2 + 1, none⟩ = some (.int .i64 x.2.2.f1) := bX.cell 3
    have p0' : W.cell? ⟨w.heap.size, 0, none⟩ = some (.int .i64 p.f0) := bP1.cell 0
    have p1' : W.cell? ⟨w.heap.size, 1, none⟩ = some (.int .i64 p.f1) := bP1.cell 1
    obtain ⟨t, ht⟩ : ∃ t, twW x.2.1 x.2.2 p = t := ⟨_, rfl⟩
    have A := Aside0.mk (show plane_twice.f x.2.1.f0 x.2.1.f1 x.2.2.f0 x.2.2.f1 p.f0 p.f1 = some t by rw [plane_twice_eq, ht])
    have HT := Aside0.mk ht
    clear ht
    have HS := Aside0.mk (show windOf p (pre ++ [x]) = windStep p (windOf p pre) x from windOf_snoc _ _ _)
    have hn1 : w.heap.size ≠ w.heap.size + 1 := by omega
    by_cases h1 : x.2.1.f1 ≤ p.f1
    · by_cases h2 : p.f1 < x.2.2.f1
      · by_cases h3 : 0 < t
        · have HE := Aside0.mk (show windStep p (windOf p pre) x = wrap64 (windOf p pre + 1) by unfold windStep; rw [if_pos h1, if_pos h2, HT.out, if_pos h3])
          gi_wp2_with (refine ⟨trivial, ?_⟩; gi_at_call 80; refine (CallsIn.inRound l (callsIn_wide.2 (plane_twice.calls x.2.1.f0 x.2.1.f1 x.2.2.f0 x.2.2.f1 p.f0 p.f1 t _ A.out))).mono ?_; rintro e w6 ⟨rfl, hb⟩; have c0'' : w6.cell? ⟨Bx, 0, none⟩ = some (.int .i64 x.2.1.f0) := (bX.below hb).cell 0; have c1'' : w6.cell? ⟨Bx, 1, none⟩ = some (.int .i64 x.2.1.f1) := (bX.below hb).cell 1; have c3'' : w6.cell? ⟨Bx, 3, none⟩ = some (.int .i64 x.2.2.f1) := (bX.below hb).cell 3; have c4'' : w6.cell? ⟨Bx, 2 + 1, none⟩ = some (.int .i64 x.2.2.f1) := (bX.below hb).cell 3; have p1'' : w6.cell? ⟨w.heap.size, 1, none⟩ = some (.int .i64 p.f1) := (bP1.below hb).cell 1; have s'' := (boxed_below bS1 hb).cell; have f'' := (boxed_below bS1 hb).frozen; have HB := Aside0.mk hb; clear hb)
          exact ⟨(keepsFrom_below _ HB.out).trans ((KeepsOthers.setCell _ _ _).from _), (KpE.of_below (by omega) (by omega) HB.out).trans (KpE.setCell _ (by omega) (by omega) _), ⟨by rw [HS.out, HE.out]; exact (boxed_below bS1 HB.out).set _, (bP1.below HB.out).other (by omega) _⟩, (hB1.trans (HB.out.mono (by omega))).setCell (p := ⟨w.heap.size + 1, 0, none⟩) (by simp) _, by simp; exact Nat.le_trans hs1 HB.out.size⟩
        · have HE := Aside0.mk (show windStep p (windOf p pre) x = windOf p pre by unfold windStep; rw [if_pos h1, if_pos h2, HT.out, if_neg h3])
          gi_wp2_with (refine ⟨trivial, ?_⟩; gi_at_call 80; refine (CallsIn.inRound l (callsIn_wide.2 (plane_twice.calls x.2.1.f0 x.2.1.f1 x.2.2.f0 x.2.2.f1 p.f0 p.f1 t _ A.out))).mono ?_; rintro e w6 ⟨rfl, hb⟩; have c0'' : w6.cell? ⟨Bx, 0, none⟩ = some (.int .i64 x.2.1.f0) := (bX.below hb).cell 0; have c1'' : w6.cell? ⟨Bx, 1, none⟩ = some (.int .i64 x.2.1.f1) := (bX.below hb).cell 1; have c3'' : w6.cell? ⟨Bx, 3, none⟩ = some (.int .i64 x.2.2.f1) := (bX.below hb).cell 3; have c4'' : w6.cell? ⟨Bx, 2 + 1, none⟩ = some (.int .i64 x.2.2.f1) := (bX.below hb).cell 3; have p1'' : w6.cell? ⟨w.heap.size, 1, none⟩ = some (.int .i64 p.f1) := (bP1.below hb).cell 1; have s'' := (boxed_below bS1 hb).cell; have f'' := (boxed_below bS1 hb).frozen; have HB := Aside0.mk hb; clear hb)
          exact ⟨keepsFrom_below _ HB.out, KpE.of_below (by omega) (by omega) HB.out, ⟨by rw [HS.out, HE.out]; exact boxed_below bS1 HB.out, bP1.below HB.out⟩, hB1.trans (HB.out.mono (by omega)), Nat.le_trans hs1 HB.out.size⟩
      · have HE := Aside0.mk (show windStep p (windOf p pre) x = windOf p pre by unfold windStep; rw [if_pos h1, if_neg h2])
        gi_wp2_with (refine ⟨trivial, ?_⟩; gi_at_call 80; refine (CallsIn.inRound l (callsIn_wide.2 (plane_twice.calls x.2.1.f0 x.2.1.f1 x.2.2.f0 x.2.2.f1 p.f0 p.f1 t _ A.out))).mono ?_; rintro e w6 ⟨rfl, hb⟩; have c0'' : w6.cell? ⟨Bx, 0, none⟩ = some (.int .i64 x.2.1.f0) := (bX.below hb).cell 0; have c1'' : w6.cell? ⟨Bx, 1, none⟩ = some (.int .i64 x.2.1.f1) := (bX.below hb).cell 1; have c3'' : w6.cell? ⟨Bx, 3, none⟩ = some (.int .i64 x.2.2.f1) := (bX.below hb).cell 3; have c4'' : w6.cell? ⟨Bx, 2 + 1, none⟩ = some (.int .i64 x.2.2.f1) := (bX.below hb).cell 3; have p1'' : w6.cell? ⟨w.heap.size, 1, none⟩ = some (.int .i64 p.f1) := (bP1.below hb).cell 1; have s'' := (boxed_below bS1 hb).cell; have f'' := (boxed_below bS1 hb).frozen; have HB := Aside0.mk hb; clear hb)
        exact ⟨keepsFrom_below _ HB.out, KpE.of_below (by omega) (by omega) HB.out, ⟨by rw [HS.out, HE.out]; exact boxed_below bS1 HB.out, bP1.below HB.out⟩, hB1.trans (HB.out.mono (by omega)), Nat.le_trans hs1 HB.out.size⟩
    · by_cases h2 : x.2.2.f1 ≤ p.f1
      · by_cases h3 : t < 0
        · have HE := Aside0.mk (show windStep p (windOf p pre) x = wrap64 (windOf p pre - 1) by unfold windStep; rw [if_neg h1, if_pos h2, HT.out, if_pos h3])
          gi_wp2_with (refine ⟨trivial, ?_⟩; gi_at_call 80; refine (CallsIn.inRound l (callsIn_wide.2 (plane_twice.calls x.2.1.f0 x.2.1.f1 x.2.2.f0 x.2.2.f1 p.f0 p.f1 t _ A.out))).mono ?_; rintro e w6 ⟨rfl, hb⟩; have c0'' : w6.cell? ⟨Bx, 0, none⟩ = some (.int .i64 x.2.1.f0) := (bX.below hb).cell 0; have c1'' : w6.cell? ⟨Bx, 1, none⟩ = some (.int .i64 x.2.1.f1) := (bX.below hb).cell 1; have c3'' : w6.cell? ⟨Bx, 3, none⟩ = some (.int .i64 x.2.2.f1) := (bX.below hb).cell 3; have c4'' : w6.cell? ⟨Bx, 2 + 1, none⟩ = some (.int .i64 x.2.2.f1) := (bX.below hb).cell 3; have p1'' : w6.cell? ⟨w.heap.size, 1, none⟩ = some (.int .i64 p.f1) := (bP1.below hb).cell 1; have s'' := (boxed_below bS1 hb).cell; have f'' := (boxed_below bS1 hb).frozen; have HB := Aside0.mk hb; clear hb)
          exact ⟨(keepsFrom_below _ HB.out).trans ((KeepsOthers.setCell _ _ _).from _), (KpE.of_below (by omega) (by omega) HB.out).trans (KpE.setCell _ (by omega) (by omega) _), ⟨by rw [HS.out, HE.out]; exact (boxed_below bS1 HB.out).set _, (bP1.below HB.out).other (by omega) _⟩, (hB1.trans (HB.out.mono (by omega))).setCell (p := ⟨w.heap.size + 1, 0, none⟩) (by simp) _, by simp; exact Nat.le_trans hs1 HB.out.size⟩
        · have HE := Aside0.mk (show windStep p (windOf p pre) x = windOf p pre by unfold windStep; rw [if_neg h1, if_pos h2, HT.out, if_neg h3])
          gi_wp2_with (refine ⟨trivial, ?_⟩; gi_at_call 80; refine (CallsIn.inRound l (callsIn_wide.2 (plane_twice.calls x.2.1.f0 x.2.1.f1 x.2.2.f0 x.2.2.f1 p.f0 p.f1 t _ A.out))).mono ?_; rintro e w6 ⟨rfl, hb⟩; have c0'' : w6.cell? ⟨Bx, 0, none⟩ = some (.int .i64 x.2.1.f0) := (bX.below hb).cell 0; have c1'' : w6.cell? ⟨Bx, 1, none⟩ = some (.int .i64 x.2.1.f1) := (bX.below hb).cell 1; have c3'' : w6.cell? ⟨Bx, 3, none⟩ = some (.int .i64 x.2.2.f1) := (bX.below hb).cell 3; have c4'' : w6.cell? ⟨Bx, 2 + 1, none⟩ = some (.int .i64 x.2.2.f1) := (bX.below hb).cell 3; have p1'' : w6.cell? ⟨w.heap.size, 1, none⟩ = some (.int .i64 p.f1) := (bP1.below hb).cell 1; have s'' := (boxed_below bS1 hb).cell; have f'' := (boxed_below bS1 hb).frozen; have HB := Aside0.mk hb; clear hb)
          exact ⟨keepsFrom_below _ HB.out, KpE.of_below (by omega) (by omega) HB.out, ⟨by rw [HS.out, HE.out]; exact boxed_below bS1 HB.out, bP1.below HB.out⟩, hB1.trans (HB.out.mono (by omega)), Nat.le_trans hs1 HB.out.size⟩
      · have HE := Aside0.mk (show windStep p (windOf p pre) x = windOf p pre by unfold windStep; rw [if_neg h1, if_neg h2])
        gi_wp2_with (refine ⟨trivial, ?_⟩; gi_at_call 80; refine (CallsIn.inRound l (callsIn_wide.2 (plane_twice.calls x.2.1.f0 x.2.1.f1 x.2.2.f0 x.2.2.f1 p.f0 p.f1 t _ A.out))).mono ?_; rintro e w6 ⟨rfl, hb⟩; have c0'' : w6.cell? ⟨Bx, 0, none⟩ = some (.int .i64 x.2.1.f0) := (bX.below hb).cell 0; have c1'' : w6.cell? ⟨Bx, 1, none⟩ = some (.int .i64 x.2.1.f1) := (bX.below hb).cell 1; have c3'' : w6.cell? ⟨Bx, 3, none⟩ = some (.int .i64 x.2.2.f1) := (bX.below hb).cell 3; have c4'' : w6.cell? ⟨Bx, 2 + 1, none⟩ = some (.int .i64 x.2.2.f1) := (bX.below hb).cell 3; have p1'' : w6.cell? ⟨w.heap.size, 1, none⟩ = some (.int .i64 p.f1) := (bP1.below hb).cell 1; have s'' := (boxed_below bS1 hb).cell; have f'' := (boxed_below bS1 hb).frozen; have HB := Aside0.mk hb; clear hb)
        exact ⟨keepsFrom_below _ HB.out, KpE.of_below (by omega) (by omega) HB.out, ⟨by rw [HS.out, HE.out]; exact boxed_below bS1 HB.out, bP1.below HB.out⟩, hB1.trans (HB.out.mono (by omega)), Nat.le_trans hs1 HB.out.size⟩
  case done =>
    rintro D zs W hD rfl ⟨⟨bS1, bP1⟩, hB1, hs1⟩ hK
    have cS := bS1.cell
    gi_wp2
    refine ⟨by simp, .inl ⟨_, _, rfl, run_takeDeferred hK, ?_⟩⟩
    exact ⟨_, results_tmp rfl _ _ _, rfl, hB1.trans (belowK_b (w := w) (Nat.le_refl _) W D _ _ (by omega) hK rfl rfl)⟩
  case stop =>
    rintro D c pre W _ _ h _
    exact h.elim
theorem plane_winding.calls (A0 : Option Addr) (c0 : Nat) (l0 : List (S23)) (a1_0 : Int) (a1_1 : Int) (r : Int) (w : World) (hr0 : Kd.C k23 w A0 l0.length l0) (hc0 : l0.length ≤ c0) (h : plane_winding.f l0 a1_0 a1_1 = some r) :
    Calls Try.prog 98 #[.slice A0 l0.length c0, .agg #[.int .i64 a1_0, .int .i64 a1_1]] w fun e w' => e = .returned (.int .i64 r) ∧ Below w.heap.size w w' := by
  unfold plane_winding.f at h
  split at h
  · rename_i hm
    obtain rfl := Option.some.inj h
    exact winding_any A0 c0 l0 ⟨a1_0, a1_1⟩ w hr0 hm
  · exact absurd h (by simp)
end Go.Proofs.Ytckaejgamfllfaa.G
end

section
namespace Go.Proofs.Ytckaejgamfllfaa.G
open Go.RowKit Go.Proofs.YtckaejgamfllfaaW.PrintWords Go.Proofs.YtckaejgamfllfaaW.PrintLast Go.Proofs.YtckaejgamfllfaaW.PrintMore
attribute [local go_sem] max2_int min2_int max_two min_two max_three min_three max_four min_four
set_option linter.unusedVariables false
set_option linter.unusedSimpArgs false
def plane_where.f (l0 : List (S23)) (a1_0 : Int) (a1_1 : Int) : Option (Int) := (plane_border.f l0 a1_0 a1_1).bind fun t186 => (if t186 = true then (some 0) else ((plane_winding.f l0 a1_0 a1_1).bind fun t187 => (if t187 = 0 then (some (-1)) else (some 1))))
set_option maxHeartbeats 8000000 in
set_option maxRecDepth 100000 in
theorem plane_where.calls (A0 : Option Addr) (c0 : Nat) (l0 : List (S23)) (a1_0 : Int) (a1_1 : Int) (r : Int) (w : World) (hr0 : Kd.C k23 w A0 l0.length l0) (hc0 : l0.length ≤ c0) (h : plane_where.f l0 a1_0 a1_1 = some r) :
    Calls Try.prog 101 #[.slice A0 l0.length c0, .agg #[.int .i64 a1_0, .int .i64 a1_1]] w fun e w' => e = .returned (.int .i64 r) ∧ Below w.heap.size w w' := by
  have hu23 := Try.underlying23
  have HR0 := Aside0.mk hr0
  have HC0 := Aside0.mk hc0
  clear hr0 hc0
  have HB := Aside0.mk (Below.refl w.heap.size w)
  have H : ((plane_border.f l0 a1_0 a1_1).bind fun t186 => (if t186 = true then (some 0) else ((plane_winding.f l0 a1_0 a1_1).bind fun t187 => (if t187 = 0 then (some (-1)) else (some 1))))) = some r := h
  clear h
  replace H := Option.bind_eq_some_iff.mp H
  obtain ⟨t186, A30, H⟩ := H
  replace H : (if t186 = true then (some 0) else ((plane_winding.f l0 a1_0 a1_1).bind fun t187 => (if t187 = 0 then (some (-1)) else (some 1)))) = some r := H
  have A3 := Aside0.mk A30
  clear A30
  by_cases c4 : t186 = true
  · subst c4
    have H1 : (some 0) = some r := by rw [if_pos rfl] at H; exact H
    clear H
    have H := H1
    clear H1
    obtain rfl := Option.some.inj H
    go_enter Try.func101, Try.ntmps101
    go_wp2_with (first | ((with_reducible refine gate_dst (N := 3) rfl ?_); refine box_event ?hg (N := 3) ?hd (cs := #[.int .i64 a1_0, .int .i64 a1_1]) (t := 23) ?hr ?_; (case hd => rfl); (case hg => rfl); (case hr => first | (go_simp; done) | (go_simp; rfl)); intro gb185 hg w5 hbox hb; have n0_ := Aside0.mk (below_step (by repeat (first | (with_reducible first | exact HB.out | apply below_alloc | apply pw_below_drewN | apply below_drew1) | exact HB.out)) hb); have n1_ := Aside0.mk (hbox); have n2_ := Aside0.mk ((by rw [hg]; exact (below_size (by repeat (first | (with_reducible first | exact HB.out | apply below_alloc | apply pw_below_drewN | apply below_drew1) | exact HB.out))) : w.heap.size ≤ gb185)); have n3_ := Aside0.mk ((by rw [hg]; exact (below_size (by repeat (first | (with_reducible first | exact HB.out | apply below_alloc | apply pw_below_drewN | apply below_drew1) | exact HB.out))) : w.heap.size ≤ gb185)); clear HB; have HB := n0_; have BK185 := n1_; have GW185 := n2_; have GE185 := n3_; clear n0_ n1_ n2_ n3_; clear hb hbox hg; have hcz6_0 : w5.cell? ⟨gb185, 0, none⟩ = some (.int .i64 a1_0) := (blk_cell BK185.out 0).trans rfl; have hcz6_1 : w5.cell? ⟨gb185, 1, none⟩ = some (.int .i64 a1_1) := (blk_cell BK185.out 1).trans rfl; have hfz6_0 := blk_frozen BK185.out 0; have hfz6_1 := blk_frozen BK185.out 1) | ((with_reducible refine gate_callee (f := 97) rfl ?_); refine goesL_ (some 8) rfl rfl Try.func97 (by kernel_rfl) rfl #[.slice A0 l0.length c0, .agg #[.int .i64 a1_0, .int .i64 a1_1]] rfl (by (try simp only [List.map_toArray, List.map_cons, List.map_nil]); first | done | rfl | (simp only [List.length_drop, List.length_take]; rfl)) ?_; (with_reducible refine (plane_border.calls _ _ l0 a1_0 a1_1 true _ ?side1 ?side2 A3.out).mono ?_); (case side1 => repeat (first | exact (Kd.C_below HR0.out HB.out) | (with_reducible refine Kd.C_alloc ?_ _) | (with_reducible refine Kd.C_drewN ?_ _) | (with_reducible refine Kd.C_drew ?_))); (case side2 => exact HC0.out); rintro e w7 ⟨rfl, hb⟩; refine ⟨_, rfl, ?_⟩; have n0_ := Aside0.mk (blk_below (g := gb185) (o := .cells #[.int .i64 a1_0, .int .i64 a1_1] 23 (0, 0)) (by (with_reducible repeat (first | refine blk_drewN ?_ _ | refine blk_drew ?_ | refine blk_alloc ?_ _)); exact BK185.out) hb); have n1_ := Aside0.mk (below_step (by repeat (first | (with_reducible first | exact HB.out | apply below_alloc | apply pw_below_drewN | apply below_drew1 | refine below_set ?_ GE185.out) | exact HB.out)) hb); clear BK185; clear HB; have BK185 := n0_; have HB := n1_; clear n0_ n1_; (try clear hb); (try clear hb2); (try clear hk); (try clear hi)))
    go_ret
    exact ⟨by first | rfl | (simp [errW_none, errW_some] <;> rfl) | (simp [*, errW_none, errW_some] <;> rfl), by repeat (first | (with_reducible first | exact HB.out | apply below_alloc | apply pw_below_drewN | apply below_drew1 | refine below_set ?_ GE185.out) | exact HB.out)⟩
  · replace c4 := Bool.eq_false_iff.mpr c4
    subst c4
    have H1 : ((plane_winding.f l0 a1_0 a1_1).bind fun t187 => (if t187 = 0 then (some (-1)) else (some 1))) = some r := by rw [if_neg (show ¬ (false = true) by decide)] at H; exact H
    clear H
    have H := H1
    clear H1
    replace H := Option.bind_eq_some_iff.mp H
    obtain ⟨t187, A80, H⟩ := H
    replace H : (if t187 = 0 then (some (-1)) else (some 1)) = some r := H
    have A8 := Aside0.mk A80
    clear A80
    by_cases c9 : t187 = 0
    · rw [if_pos c9] at H
      have c9b0 : (t187 == 0) = true := beq_iff_eq.mpr c9
      have c9b1 : (t187 != 0) = false := bne_eq_false_iff_eq.mpr c9
      clear c9
      obtain rfl := Option.some.inj H
      go_enter Try.func101, Try.ntmps101
      go_wp2_with (first | ((with_reducible refine gate_dst (N := 3) rfl ?_); refine box_event ?hg (N := 3) ?hd (cs := #[.int .i64 a1_0, .int .i64 a1_1]) (t := 23) ?hr ?_; (case hd => rfl); (case hg => rfl); (case hr => first | (go_simp; done) | (go_simp; rfl)); intro gb185 hg w10 hbox hb; have n0_ := Aside0.mk (below_step (by repeat (first | (with_reducible first | exact HB.out | apply below_alloc | apply pw_below_drewN | apply below_drew1) | exact HB.out)) hb); have n1_ := Aside0.mk (hbox); have n2_ := Aside0.mk ((by rw [hg]; exact (below_size (by repeat (first | (with_reducible first | exact HB.out | apply below_alloc | apply pw_below_drewN | apply below_drew1) | exact HB.out))) : w.heap.size ≤ gb185)); have n3_ := Aside0.mk ((by rw [hg]; exact (below_size (by repeat (first | (with_reducible first | exact HB.out | apply below_alloc | apply pw_below_drewN | apply below_drew1) | exact HB.out))) : w.heap.size ≤ gb185)); clear HB; have HB := n0_; have BK185 := n1_; have GW185 := n2_; have GE185 := n3_; clear n0_ n1_ n2_ n3_; clear hb hbox hg; have hcz11_0 : w10.cell? ⟨gb185, 0, none⟩ = some (.int .i64 a1_0) := (blk_cell BK185.out 0).trans rfl; have hcz11_1 : w10.cell? ⟨gb185, 1, none⟩ = some (.int .i64 a1_1) := (blk_cell BK185.out 1).trans rfl; have hfz11_0 := blk_frozen BK185.out 0; have hfz11_1 := blk_frozen BK185.out 1) | ((with_reducible refine gate_callee (f := 97) rfl ?_); refine goesL_ (some 8) rfl rfl Try.func97 (by kernel_rfl) rfl #[.slice A0 l0.length c0, .agg #[.int .i64 a1_0, .int .i64 a1_1]] rfl (by (try simp only [List.map_toArray, List.map_cons, List.map_nil]); first | done | rfl | (simp only [List.length_drop, List.length_take]; rfl)) ?_; (with_reducible refine (plane_border.calls _ _ l0 a1_0 a1_1 false _ ?side1 ?side2 A3.out).mono ?_); (case side1 => repeat (first | exact (Kd.C_below HR0.out HB.out) | (with_reducible refine Kd.C_alloc ?_ _) | (with_reducible refine Kd.C_drewN ?_ _) | (with_reducible refine Kd.C_drew ?_))); (case side2 => exact HC0.out); rintro e w12 ⟨rfl, hb⟩; refine ⟨_, rfl, ?_⟩; have n0_ := Aside0.mk (blk_below (g := gb185) (o := .cells #[.int .i64 a1_0, .int .i64 a1_1] 23 (0, 0)) (by (with_reducible repeat (first | refine blk_drewN ?_ _ | refine blk_drew ?_ | refine blk_alloc ?_ _)); exact BK185.out) hb); have n1_ := Aside0.mk (below_step (by repeat (first | (with_reducible first | exact HB.out | apply below_alloc | apply pw_below_drewN | apply below_drew1 | refine below_set ?_ GE185.out) | exact HB.out)) hb); clear BK185; clear HB; have BK185 := n0_; have HB := n1_; clear n0_ n1_; (try clear hb); (try clear hb2); (try clear hk); (try clear hi); have hcz13_0 : w12.cell? ⟨gb185, 0, none⟩ = some (.int .i64 a1_0) := (blk_cell BK185.out 0).trans rfl; have hcz13_1 : w12.cell? ⟨gb185, 1, none⟩ = some (.int .i64 a1_1) := (blk_cell BK185.out 1).trans rfl; have hfz13_0 := blk_frozen BK185.out 0; have hfz13_1 := blk_frozen BK185.out 1) | ((with_reducible refine gate_callee (f := 98) rfl ?_); refine goesL_ (some 12) rfl rfl Try.func98 (by kernel_rfl) rfl #[.slice A0 l0.length c0, .agg #[.int .i64 a1_0, .int .i64 a1_1]] rfl (by (try simp only [List.map_toArray, List.map_cons, List.map_nil]); first | done | rfl | (simp only [List.length_drop, List.length_take]; rfl)) ?_; (with_reducible refine (plane_winding.calls _ _ l0 a1_0 a1_1 t187 _ ?side1 ?side2 A8.out).mono ?_); (case side1 => repeat (first | exact (Kd.C_below HR0.out HB.out) | (with_reducible refine Kd.C_alloc ?_ _) | (with_reducible refine Kd.C_drewN ?_ _) | (with_reducible refine Kd.C_drew ?_))); (case side2 => exact HC0.out); rintro e w14 ⟨rfl, hb⟩; refine ⟨_, rfl, ?_⟩; have n0_ := Aside0.mk (blk_below (g := gb185) (o := .cells #[.int .i64 a1_0, .int .i64 a1_1] 23 (0, 0)) (by (with_reducible repeat (first | refine blk_drewN ?_ _ | refine blk_drew ?_ | refine blk_alloc ?_ _)); exact BK185.out) hb); have n1_ := Aside0.mk (below_step (by repeat (first | (with_reducible first | exact HB.out | apply below_alloc | apply pw_below_drewN | apply below_drew1 | refine below_set ?_ GE185.out) | exact HB.out)) hb); clear BK185; clear HB; have BK185 := n0_; have HB := n1_; clear n0_ n1_; (try clear hb); (try clear hb2); (try clear hk); (try clear hi)))
      go_ret
      exact ⟨by first | rfl | (simp [errW_none, errW_some] <;> rfl) | (simp [*, errW_none, errW_some] <;> rfl), by repeat (first | (with_reducible first | exact HB.out | apply below_alloc | apply pw_below_drewN | apply below_drew1 | refine below_set ?_ GE185.out) | exact HB.out)⟩
    · rw [if_neg c9] at H
      have c9b0 : (t187 == 0) = false := beq_eq_false_iff_ne.mpr c9
      have c9b1 : (t187 != 0) = true := bne_iff_ne.mpr c9
      obtain rfl := Option.some.inj H
      go_enter Try.func101, Try.ntmps101
      go_wp2_with (first | ((with_reducible refine gate_dst (N := 3) rfl ?_); refine box_event ?hg (N := 3) ?hd (cs := #[.int .i64 a1_0, .int .i64 a1_1]) (t := 23) ?hr ?_; (case hd => rfl); (case hg => rfl); (case hr => first | (go_simp; done) | (go_simp; rfl)); intro gb185 hg w15 hbox hb; have n0_ := Aside0.mk (below_step (by repeat (first | (with_reducible first | exact HB.out | apply below_alloc | apply pw_below_drewN | apply below_drew1) | exact HB.out)) hb); have n1_ := Aside0.mk (hbox); have n2_ := Aside0.mk ((by rw [hg]; exact (below_size (by repeat (first | (with_reducible first | exact HB.out | apply below_alloc | apply pw_below_drewN | apply below_drew1) | exact HB.out))) : w.heap.size ≤ gb185)); have n3_ := Aside0.mk ((by rw [hg]; exact (below_size (by repeat (first | (with_reducible first | exact HB.out | apply below_alloc | apply pw_below_drewN | apply below_drew1) | exact HB.out))) : w.heap.size ≤ gb185)); clear HB; have HB := n0_; have BK185 := n1_; have GW185 := n2_; have GE185 := n3_; clear n0_ n1_ n2_ n3_; clear hb hbox hg; have hcz16_0 : w15.cell? ⟨gb185, 0, none⟩ = some (.int .i64 a1_0) := (blk_cell BK185.out 0).trans rfl; have hcz16_1 : w15.cell? ⟨gb185, 1, none⟩ = some (.int .i64 a1_1) := (blk_cell BK185.out 1).trans rfl; have hfz16_0 := blk_frozen BK185.out 0; have hfz16_1 := blk_frozen BK185.out 1) | ((with_reducible refine gate_callee (f := 97) rfl ?_); refine goesL_ (some 8) rfl rfl Try.func97 (by kernel_rfl) rfl #[.slice A0 l0.length c0, .agg #[.int .i64 a1_0, .int .i64 a1_1]] rfl (by (try simp only [List.map_toArray, List.map_cons, List.map_nil]); first | done | rfl | (simp only [List.length_drop, List.length_take]; rfl)) ?_; (with_reducible refine (plane_border.calls _ _ l0 a1_0 a1_1 false _ ?side1 ?side2 A3.out).mono ?_); (case side1 => repeat (first | exact (Kd.C_below HR0.out HB.out) | (with_reducible refine Kd.C_alloc ?_ _) | (with_reducible refine Kd.C_drewN ?_ _) | (with_reducible refine Kd.C_drew ?_))); (case side2 => exact HC0.out); rintro e w17 ⟨rfl, hb⟩; refine ⟨_, rfl, ?_⟩; have n0_ := Aside0.mk (blk_below (g := gb185) (o := .cells #[.int .i64 a1_0, .int .i64 a1_1] 23 (0, 0)) (by (with_reducible repeat (first | refine blk_drewN ?_ _ | refine blk_drew ?_ | refine blk_alloc ?_ _)); exact BK185.out) hb); have n1_ := Aside0.mk (below_step (by repeat (first | (with_reducible first | exact HB.out | apply below_alloc | apply pw_below_drewN | apply below_drew1 | refine below_set ?_ GE185.out) | exact HB.out)) hb); clear BK185; clear HB; have BK185 := n0_; have HB := n1_; clear n0_ n1_; (try clear hb); (try clear hb2); (try clear hk); (try clear hi); have hcz18_0 : w17.cell? ⟨gb185, 0, none⟩ = some (.int .i64 a1_0) := (blk_cell BK185.out 0).trans rfl; have hcz18_1 : w17.cell? ⟨gb185, 1, none⟩ = some (.int .i64 a1_1) := (blk_cell BK185.out 1).trans rfl; have hfz18_0 := blk_frozen BK185.out 0; have hfz18_1 := blk_frozen BK185.out 1) | ((with_reducible refine gate_callee (f := 98) rfl ?_); refine goesL_ (some 12) rfl rfl Try.func98 (by kernel_rfl) rfl #[.slice A0 l0.length c0, .agg #[.int .i64 a1_0, .int .i64 a1_1]] rfl (by (try simp only [List.map_toArray, List.map_cons, List.map_nil]); first | done | rfl | (simp only [List.length_drop, List.length_take]; rfl)) ?_; (with_reducible refine (plane_winding.calls _ _ l0 a1_0 a1_1 t187 _ ?side1 ?side2 A8.out).mono ?_); (case side1 => repeat (first | exact (Kd.C_below HR0.out HB.out) | (with_reducible refine Kd.C_alloc ?_ _) | (with_reducible refine Kd.C_drewN ?_ _) | (with_reducible refine Kd.C_drew ?_))); (case side2 => exact HC0.out); rintro e w19 ⟨rfl, hb⟩; refine ⟨_, rfl, ?_⟩; have n0_ := Aside0.mk (blk_below (g := gb185) (o := .cells #[.int .i64 a1_0, .int .i64 a1_1] 23 (0, 0)) (by (with_reducible repeat (first | refine blk_drewN ?_ _ | refine blk_drew ?_ | refine blk_alloc ?_ _)); exact BK185.out) hb); have n1_ := Aside0.mk (below_step (by repeat (first | (with_reducible first | exact HB.out | apply below_alloc | apply pw_below_drewN | apply below_drew1 | refine below_set ?_ GE185.out) | exact HB.out)) hb); clear BK185; clear HB; have BK185 := n0_; have HB := n1_; clear n0_ n1_; (try clear hb); (try clear hb2); (try clear hk); (try clear hi)))
      go_ret
      exact ⟨by first | rfl | (simp [errW_none, errW_some] <;> rfl) | (simp [*, errW_none, errW_some] <;> rfl), by repeat (first | (with_reducible first | exact HB.out | apply below_alloc | apply pw_below_drewN | apply below_drew1 | refine below_set ?_ GE185.out) | exact HB.out)⟩
end Go.Proofs.Ytckaejgamfllfaa.G
end

section
namespace Go.Proofs.Ytckaejgamfllfaa.G
open Go.RowKit Go.Proofs.YtckaejgamfllfaaW.PrintWords Go.Proofs.YtckaejgamfllfaaW.PrintLast Go.Proofs.YtckaejgamfllfaaW.PrintMore
attribute [local go_sem] max2_int min2_int max_two min_two max_three min_three max_four min_four
set_option linter.unusedVariables false
set_option linter.unusedSimpArgs false
def plane_Where.f (k : Nat) (l0 : List (S23)) (a1_0 : Int) (a1_1 : Int) : Option (Int × Int) := (plane_ring.f k l0 (([(⟨a1_0, a1_1⟩ : S23)] : List (S23)))).bind fun t192 => (if t192 = 0 then ((plane_simple.f l0).bind fun t193 => (if t193 = true then ((plane_where.f l0 a1_0 a1_1).bind fun t194 => (some (t194, 0))) else (some (0, 4)))) else (some (0, t192)))
theorem plane_Where.mono : ∀ a0 a1 a2 k, LeO (plane_Where.f k a0 a1 a2) (plane_Where.f (k + 1) a0 a1 a2) := by
  intro a0 a1 a2 k
  unfold plane_Where.f
  repeat' first
      | (with_reducible exact plane_ring.mono _ _ _)
      | (with_reducible exact LeO.refl _)
      | (with_reducible exact LeO.none _)
      | (with_reducible refine LeO.ite ?_ ?_)
      | (with_reducible refine LeO.bind ?_ (fun _ => ?_))
      | exact plane_ring.mono _ _ _
      | exact LeO.none _
      | refine LeO.ite ?_ ?_
      | refine LeO.bind ?_ (fun _ => ?_)
set_option maxHeartbeats 8000000 in
set_option maxRecDepth 100000 in
theorem plane_Where.calls (k : Nat) (A0 : Option Addr) (c0 : Nat) (l0 : List (S23)) (a1_0 : Int) (a1_1 : Int) (r1 : Int) (r2 : Int) (w : World) (hr0 : Kd.C k23 w A0 l0.length l0) (hc0 : l0.length ≤ c0) (h : plane_Where.f k l0 a1_0 a1_1 = some (r1, r2)) :
    Calls Try.prog 37 #[.slice A0 l0.length c0, .agg #[.int .i64 a1_0, .int .i64 a1_1]] w fun e w' => e = .returned (.tuple #[.int .i64 r1, .int .i64 r2]) ∧ Below w.heap.size w w' := by
  have hu23 := Try.underlying23
  have HR0 := Aside0.mk hr0
  have HC0 := Aside0.mk hc0
  clear hr0 hc0
  have HB := Aside0.mk (Below.refl w.heap.size w)
  have H : ((plane_ring.f k l0 (([(⟨a1_0, a1_1⟩ : S23)] : List (S23)))).bind fun t192 => (if t192 = 0 then ((plane_simple.f l0).bind fun t193 => (if t193 = true then ((plane_where.f l0 a1_0 a1_1).bind fun t194 => (some (t194, 0))) else (some (0, 4)))) else (some (0, t192)))) = some (r1, r2) := h
  clear h
  obtain ⟨y189, hy189⟩ : ∃ y_ : List (S23), y_ = (([(⟨a1_0, a1_1⟩ : S23)] : List (S23))) := ⟨_, rfl⟩
  replace H : ((plane_ring.f k l0 y189).bind fun t192 => (if t192 = 0 then ((plane_simple.f l0).bind fun t193 => (if t193 = true then ((plane_where.f l0 a1_0 a1_1).bind fun t194 => (some (t194, 0))) else (some (0, 4)))) else (some (0, t192)))) = some (r1, r2) := by first | (rw [hy189]; with_reducible exact H) | (have H2_ := (Option.bind_some _ _).symm.trans H; rw [hy189]; with_reducible exact H2_) | (have H2_ := (Option.bind_some _ _).symm.trans H; with_reducible exact H2_) | with_reducible exact H | (rw [hy189]; exact H) | exact H
  have Ny189 := Aside0.mk hy189
  clear hy189
  replace H := Option.bind_eq_some_iff.mp H
  obtain ⟨t192, A30, H⟩ := H
  replace H : (if t192 = 0 then ((plane_simple.f l0).bind fun t193 => (if t193 = true then ((plane_where.f l0 a1_0 a1_1).bind fun t194 => (some (t194, 0))) else (some (0, 4)))) else (some (0, t192))) = some (r1, r2) := H
  have A3 := Aside0.mk A30
  clear A30
  by_cases c4 : t192 = 0
  · rw [if_pos c4] at H
    have c4b0 : (t192 == 0) = true := beq_iff_eq.mpr c4
    have c4b1 : (t192 != 0) = false := bne_eq_false_iff_eq.mpr c4
    clear c4
    replace H := Option.bind_eq_some_iff.mp H
    obtain ⟨t193, A50, H⟩ := H
    replace H : (if t193 = true then ((plane_where.f l0 a1_0 a1_1).bind fun t194 => (some (t194, 0))) else (some (0, 4))) = some (r1, r2) := H
    have A5 := Aside0.mk A50
    clear A50
    by_cases c6 : t193 = true
    · subst c6
      have H1 : ((plane_where.f l0 a1_0 a1_1).bind fun t194 => (some (t194, 0))) = some (r1, r2) := by rw [if_pos rfl] at H; exact H
      clear H
      have H := H1
      clear H1
      replace H := Option.bind_eq_some_iff.mp H
      obtain ⟨t194, A70, H⟩ := H
      replace H : (some (t194, 0)) = some (r1, r2) := H
      have A7 := Aside0.mk A70
      clear A70
      simp only [Option.some.injEq, Prod.mk.injEq] at H
      obtain ⟨rfl, rfl⟩ := H
      go_enter Try.func37, Try.ntmps37
      go_wp2_with (first | ((with_reducible refine gate_dst (N := 3) rfl ?_); refine box_event ?hg (N := 3) ?hd (cs := #[.int .i64 a1_0, .int .i64 a1_1]) (t := 23) ?hr ?_; (case hd => rfl); (case hg => rfl); (case hr => first | (go_simp; done) | (go_simp; rfl)); intro gb188 hg w8 hbox hb; have n0_ := Aside0.mk (below_step (by repeat (first | (with_reducible first | exact HB.out | apply below_alloc | apply pw_below_drewN | apply below_drew1) | exact HB.out)) hb); have n1_ := Aside0.mk (hbox); have n2_ := Aside0.mk ((by rw [hg]; exact (below_size (by repeat (first | (with_reducible first | exact HB.out | apply below_alloc | apply pw_below_drewN | apply below_drew1) | exact HB.out))) : w.heap.size ≤ gb188)); have n3_ := Aside0.mk ((by rw [hg]; exact (below_size (by repeat (first | (with_reducible first | exact HB.out | apply below_alloc | apply pw_below_drewN | apply below_drew1) | exact HB.out))) : w.heap.size ≤ gb188)); clear HB; have HB := n0_; have BK188 := n1_; have GW188 := n2_; have GE188 := n3_; clear n0_ n1_ n2_ n3_; clear hb hbox hg; have hcz9_0 : w8.cell? ⟨gb188, 0, none⟩ = some (.int .i64 a1_0) := (blk_cell BK188.out 0).trans rfl; have hcz9_1 : w8.cell? ⟨gb188, 1, none⟩ = some (.int .i64 a1_1) := (blk_cell BK188.out 1).trans rfl; have hfz9_0 := blk_frozen BK188.out 0; have hfz9_1 := blk_frozen BK188.out 1) | ((with_reducible refine gate_dst (N := 9) rfl ?_); refine Kd.R_lit k23 _ 23 ?hg (N := 9) ?hd (xs := ([(⟨a1_0, a1_1⟩ : S23)] : List (S23))) (inner := [.int .i64 a1_0, .int .i64 a1_1]) (ok := fun _ => True) (okp := fun _ => True) ?hr ?hp (fun _ hk => hk) trivial (Below.refl _ _) (Nat.le_refl _) (by simp) ?_; (case hd => rfl); (case hg => rfl); (case hr => first | (go_simp; done) | (go_simp; rfl)); (case hp => exact (Reps.c2 (show Kd.M k23 _ _ _ (⟨a1_0, a1_1⟩ : S23) [.int .i64 a1_0, .int .i64 a1_1] from (k23_mkM _ _ _ (⟨a1_0, a1_1⟩ : S23) )) (Reps.none _ _))); intro v190 w10 ho11 hb hg_ hnew_; clear hg_ hnew_; (first | rw [← Ny189.out] at ho11 | (simp only [Int.reduceToNat] at ho11; rw [← Ny189.out] at ho11)); have n0_ := Aside0.mk (Kd.R_lower (Kd.R_newB ho11 (g := gb188) (o := .cells #[.int .i64 a1_0, .int .i64 a1_1] 23 (0, 0)) (by (with_reducible repeat (first | refine blk_drewN ?_ _ | refine blk_drew ?_ | refine blk_alloc ?_ _)); exact BK188.out)) (below_size (by repeat (first | (with_reducible first | exact HB.out | apply below_alloc | apply pw_below_drewN | apply below_drew1 | refine below_set ?_ GE188.out) | exact HB.out)))); have n1_ := Aside0.mk (blk_below (g := gb188) (o := .cells #[.int .i64 a1_0, .int .i64 a1_1] 23 (0, 0)) (by (with_reducible repeat (first | refine blk_drewN ?_ _ | refine blk_drew ?_ | refine blk_alloc ?_ _)); exact BK188.out) hb); have n2_ := Aside0.mk (below_step (by repeat (first | (with_reducible first | exact HB.out | apply below_alloc | apply pw_below_drewN | apply below_drew1 | refine below_set ?_ GE188.out) | exact HB.out)) hb); clear BK188; clear HB; have HO191 := n0_; have BK188 := n1_; have HB := n2_; clear n0_ n1_ n2_; clear hb ho11; obtain ⟨Ao12, co12, eo12⟩ := Kd.R_slice HO191.out; subst eo12) | ((with_reducible refine gate_callee (f := 92) rfl ?_); refine goesL_ (some 10) rfl rfl Try.func92 (by kernel_rfl) rfl #[.slice A0 l0.length c0, .slice Ao12 y189.length co12] rfl (by (try simp only [List.map_toArray, List.map_cons, List.map_nil]); first | done | rfl | (simp only [List.length_drop, List.length_take]; rfl)) ?_; (with_reducible refine (plane_ring.calls k _ _ l0 _ _ y189 t192 _ ?side1 ?side2 ?side3 ?side4 A3.out).mono ?_); (case side1 => repeat (first | exact (Kd.C_below HR0.out HB.out) | (with_reducible refine Kd.C_alloc ?_ _) | (with_reducible refine Kd.C_drewN ?_ _) | (with_reducible refine Kd.C_drew ?_))); (case side2 => exact HC0.out); (case side3 => repeat (first | exact (Kd.R_reads' HO191.out).2.2 | (with_reducible refine Kd.C_alloc ?_ _) | (with_reducible refine Kd.C_drewN ?_ _) | (with_reducible refine Kd.C_drew ?_))); (case side4 => exact (Kd.R_reads' HO191.out).2.1); rintro e w13 ⟨rfl, hb⟩; refine ⟨_, rfl, ?_⟩; have n0_ := Aside0.mk (Kd.R_below (by (with_reducible repeat (first | apply Kd.R_alloc | apply Kd.R_drewN | apply Kd.R_drew)); exact HO191.out) hb); have n1_ := Aside0.mk (blk_below (g := gb188) (o := .cells #[.int .i64 a1_0, .int .i64 a1_1] 23 (0, 0)) (by (with_reducible repeat (first | refine blk_drewN ?_ _ | refine blk_drew ?_ | refine blk_alloc ?_ _)); exact BK188.out) hb); have n2_ := Aside0.mk (below_step (by repeat (first | (with_reducible first | exact HB.out | apply below_alloc | apply pw_below_drewN | apply below_drew1 | refine below_set ?_ GE188.out) | exact HB.out)) hb); clear HO191; clear BK188; clear HB; have HO191 := n0_; have BK188 := n1_; have HB := n2_; clear n0_ n1_ n2_; (try clear hb); (try clear hb2); (try clear hk); (try clear hi)) | ((with_reducible refine gate_callee (f := 95) rfl ?_); refine goesL_ (some 15) rfl rfl Try.func95 (by kernel_rfl) rfl #[.slice A0 l0.length c0] rfl (by (try simp only [List.map_toArray, List.map_cons, List.map_nil]); first | done | rfl | (simp only [List.length_drop, List.length_take]; rfl)) ?_; (with_reducible refine (plane_simple.calls _ _ l0 true _ ?side1 ?side2 A5.out).mono ?_); (case side1 => repeat (first | exact (Kd.C_below HR0.out HB.out) | (with_reducible refine Kd.C_alloc ?_ _) | (with_reducible refine Kd.C_drewN ?_ _) | (with_reducible refine Kd.C_drew ?_))); (case side2 => exact HC0.out); rintro e w14 ⟨rfl, hb⟩; refine ⟨_, rfl, ?_⟩; have n0_ := Aside0.mk (Kd.R_below (by (with_reducible repeat (first | apply Kd.R_alloc | apply Kd.R_drewN | apply Kd.R_drew)); exact HO191.out) hb); have n1_ := Aside0.mk (blk_below (g := gb188) (o := .cells #[.int .i64 a1_0, .int .i64 a1_1] 23 (0, 0)) (by (with_reducible repeat (first | refine blk_drewN ?_ _ | refine blk_drew ?_ | refine blk_alloc ?_ _)); exact BK188.out) hb); have n2_ := Aside0.mk (below_step (by repeat (first | (with_reducible first | exact HB.out | apply below_alloc | apply pw_below_drewN | apply below_drew1 | refine below_set ?_ GE188.out) | exact HB.out)) hb); clear HO191; clear BK188; clear HB; have HO191 := n0_; have BK188 := n1_; have HB := n2_; clear n0_ n1_ n2_; (try clear hb); (try clear hb2); (try clear hk); (try clear hi); have hcz15_0 : w14.cell? ⟨gb188, 0, none⟩ = some (.int .i64 a1_0) := (blk_cell BK188.out 0).trans rfl; have hcz15_1 : w14.cell? ⟨gb188, 1, none⟩ = some (.int .i64 a1_1) := (blk_cell BK188.out 1).trans rfl; have hfz15_0 := blk_frozen BK188.out 0; have hfz15_1 := blk_frozen BK188.out 1) | ((with_reducible refine gate_callee (f := 101) rfl ?_); refine goesL_ (some 19) rfl rfl Try.func101 (by kernel_rfl) rfl #[.slice A0 l0.length c0, .agg #[.int .i64 a1_0, .int .i64 a1_1]] rfl (by (try simp only [List.map_toArray, List.map_cons, List.map_nil]); first | done | rfl | (simp only [List.length_drop, List.length_take]; rfl)) ?_; (with_reducible refine (plane_where.calls _ _ l0 a1_0 a1_1 t194 _ ?side1 ?side2 A7.out).mono ?_); (case side1 => repeat (first | exact (Kd.C_below HR0.out HB.out) | (with_reducible refine Kd.C_alloc ?_ _) | (with_reducible refine Kd.C_drewN ?_ _) | (with_reducible refine Kd.C_drew ?_))); (case side2 => exact HC0.out); rintro e w16 ⟨rfl, hb⟩; refine ⟨_, rfl, ?_⟩; have n0_ := Aside0.mk (Kd.R_below (by (with_reducible repeat (first | apply Kd.R_alloc | apply Kd.R_drewN | apply Kd.R_drew)); exact HO191.out) hb); have n1_ := Aside0.mk (blk_below (g := gb188) (o := .cells #[.int .i64 a1_0, .int .i64 a1_1] 23 (0, 0)) (by (with_reducible repeat (first | refine blk_drewN ?_ _ | refine blk_drew ?_ | refine blk_alloc ?_ _)); exact BK188.out) hb); have n2_ := Aside0.mk (below_step (by repeat (first | (with_reducible first | exact HB.out | apply below_alloc | apply pw_below_drewN | apply below_drew1 | refine below_set ?_ GE188.out) | exact HB.out)) hb); clear HO191; clear BK188; clear HB; have HO191 := n0_; have BK188 := n1_; have HB := n2_; clear n0_ n1_ n2_; (try clear hb); (try clear hb2); (try clear hk); (try clear hi)))
      go_ret2
      exact ⟨by first | rfl | (simp [errW_none, errW_some] <;> rfl) | (simp [*, errW_none, errW_some] <;> rfl), by repeat (first | (with_reducible first | exact HB.out | apply below_alloc | apply pw_below_drewN | apply below_drew1 | refine below_set ?_ GE188.out) | exact HB.out)⟩
    · replace c6 := Bool.eq_false_iff.mpr c6
      subst c6
      have H1 : (some (0, 4)) = some (r1, r2) := by rw [if_neg (show ¬ (false = true) by decide)] at H; exact H
      clear H
      have H := H1
      clear H1
      simp only [Option.some.injEq, Prod.mk.injEq] at H
      obtain ⟨rfl, rfl⟩ := H
      go_enter Try.func37, Try.ntmps37
      go_wp2_with (first | ((with_reducible refine gate_dst (N := 3) rfl ?_); refine box_event ?hg (N := 3) ?hd (cs := #[.int .i64 a1_0, .int .i64 a1_1]) (t := 23) ?hr ?_; (case hd => rfl); (case hg => rfl); (case hr => first | (go_simp; done) | (go_simp; rfl)); intro gb188 hg w17 hbox hb; have n0_ := Aside0.mk (below_step (by repeat (first | (with_reducible first | exact HB.out | apply below_alloc | apply pw_below_drewN | apply below_drew1) | exact HB.out)) hb); have n1_ := Aside0.mk (hbox); have n2_ := Aside0.mk ((by rw [hg]; exact (below_size (by repeat (first | (with_reducible first | exact HB.out | apply below_alloc | apply pw_below_drewN | apply below_drew1) | exact HB.out))) : w.heap.size ≤ gb188)); have n3_ := Aside0.mk ((by rw [hg]; exact (below_size (by repeat (first | (with_reducible first | exact HB.out | apply below_alloc | apply pw_below_drewN | apply below_drew1) | exact HB.out))) : w.heap.size ≤ gb188)); clear HB; have HB := n0_; have BK188 := n1_; have GW188 := n2_; have GE188 := n3_; clear n0_ n1_ n2_ n3_; clear hb hbox hg; have hcz18_0 : w17.cell? ⟨gb188, 0, none⟩ = some (.int .i64 a1_0) := (blk_cell BK188.out 0).trans rfl; have hcz18_1 : w17.cell? ⟨gb188, 1, none⟩ = some (.int .i64 a1_1) := (blk_cell BK188.out 1).trans rfl; have hfz18_0 := blk_frozen BK188.out 0; have hfz18_1 := blk_frozen BK188.out 1) | ((with_reducible refine gate_dst (N := 9) rfl ?_); refine Kd.R_lit k23 _ 23 ?hg (N := 9) ?hd (xs := ([(⟨a1_0, a1_1⟩ : S23)] : List (S23))) (inner := [.int .i64 a1_0, .int .i64 a1_1]) (ok := fun _ => True) (okp := fun _ => True) ?hr ?hp (fun _ hk => hk) trivial (Below.refl _ _) (Nat.le_refl _) (by simp) ?_; (case hd => rfl); (case hg => rfl); (case hr => first | (go_simp; done) | (go_simp; rfl)); (case hp => exact (Reps.c2 (show Kd.M k23 _ _ _ (⟨a1_0, a1_1⟩ : S23) [.int .i64 a1_0, .int .i64 a1_1] from (k23_mkM _ _ _ (⟨a1_0, a1_1⟩ : S23) )) (Reps.none _ _))); intro v190 w19 ho20 hb hg_ hnew_; clear hg_ hnew_; (first | rw [← Ny189.out] at ho20 | (simp only [Int.reduceToNat] at ho20; rw [← Ny189.out] at ho20)); have n0_ := Aside0.mk (Kd.R_lower (Kd.R_newB ho20 (g := gb188) (o := .cells #[.int .i64 a1_0, .int .i64 a1_1] 23 (0, 0)) (by (with_reducible repeat (first | refine blk_drewN ?_ _ | refine blk_drew ?_ | refine blk_alloc ?_ _)); exact BK188.out)) (below_size (by repeat (first | (with_reducible first | exact HB.out | apply below_alloc | apply pw_below_drewN | apply below_drew1 | refine below_set ?_ GE188.out) | exact HB.out)))); have n1_ := Aside0.mk (blk_below (g := gb188) (o := .cells #[.int .i64 a1_0, .int .i64 a1_1] 23 (0, 0)) (by (with_reducible repeat (first | refine blk_drewN ?_ _ | refine blk_drew ?_ | refine blk_alloc ?_ _)); exact BK188.out) hb); have n2_ := Aside0.mk (below_step (by repeat (first | (with_reducible first | exact HB.out | apply below_alloc | apply pw_below_drewN | apply below_drew1 | refine below_set ?_ GE188.out) | exact HB.out)) hb); clear BK188; clear HB; have HO191 := n0_; have BK188 := n1_; have HB := n2_; clear n0_ n1_ n2_; clear hb ho20; obtain ⟨Ao21, co21, eo21⟩ := Kd.R_slice HO191.out; subst eo21) | ((with_reducible refine gate_callee (f := 92) rfl ?_); refine goesL_ (some 10) rfl rfl Try.func92 (by kernel_rfl) rfl #[.slice A0 l0.length c0, .slice Ao21 y189.length co21] rfl (by (try simp only [List.map_toArray, List.map_cons, List.map_nil]); first | done | rfl | (simp only [List.length_drop, List.length_take]; rfl)) ?_; (with_reducible refine (plane_ring.calls k _ _ l0 _ _ y189 t192 _ ?side1 ?side2 ?side3 ?side4 A3.out).mono ?_); (case side1 => repeat (first | exact (Kd.C_below HR0.out HB.out) | (with_reducible refine Kd.C_alloc ?_ _) | (with_reducible refine Kd.C_drewN ?_ _) | (with_reducible refine Kd.C_drew ?_))); (case side2 => exact HC0.out); (case side3 => repeat (first | exact (Kd.R_reads' HO191.out).2.2 | (with_reducible refine Kd.C_alloc ?_ _) | (with_reducible refine Kd.C_drewN ?_ _) | (with_reducible refine Kd.C_drew ?_))); (case side4 => exact (Kd.R_reads' HO191.out).2.1); rintro e w22 ⟨rfl, hb⟩; refine ⟨_, rfl, ?_⟩; have n0_ := Aside0.mk (Kd.R_below (by (with_reducible repeat (first | apply Kd.R_alloc | apply Kd.R_drewN | apply Kd.R_drew)); exact HO191.out) hb); have n1_ := Aside0.mk (blk_below (g := gb188) (o := .cells #[.int .i64 a1_0, .int .i64 a1_1] 23 (0, 0)) (by (with_reducible repeat (first | refine blk_drewN ?_ _ | refine blk_drew ?_ | refine blk_alloc ?_ _)); exact BK188.out) hb); have n2_ := Aside0.mk (below_step (by repeat (first | (with_reducible first | exact HB.out | apply below_alloc | apply pw_below_drewN | apply below_drew1 | refine below_set ?_ GE188.out) | exact HB.out)) hb); clear HO191; clear BK188; clear HB; have HO191 := n0_; have BK188 := n1_; have HB := n2_; clear n0_ n1_ n2_; (try clear hb); (try clear hb2); (try clear hk); (try clear hi)) | ((with_reducible refine gate_callee (f := 95) rfl ?_); refine goesL_ (some 15) rfl rfl Try.func95 (by kernel_rfl) rfl #[.slice A0 l0.length c0] rfl (by (try simp only [List.map_toArray, List.map_cons, List.map_nil]); first | done | rfl | (simp only [List.length_drop, List.length_take]; rfl)) ?_; (with_reducible refine (plane_simple.calls _ _ l0 false _ ?side1 ?side2 A5.out).mono ?_); (case side1 => repeat (first | exact (Kd.C_below HR0.out HB.out) | (with_reducible refine Kd.C_alloc ?_ _) | (with_reducible refine Kd.C_drewN ?_ _) | (with_reducible refine Kd.C_drew ?_))); (case side2 => exact HC0.out); rintro e w23 ⟨rfl, hb⟩; refine ⟨_, rfl, ?_⟩; have n0_ := Aside0.mk (Kd.R_below (by (with_reducible repeat (first | apply Kd.R_alloc | apply Kd.R_drewN | apply Kd.R_drew)); exact HO191.out) hb); have n1_ := Aside0.mk (blk_below (g := gb188) (o := .cells #[.int .i64 a1_0, .int .i64 a1_1] 23 (0, 0)) (by (with_reducible repeat (first | refine blk_drewN ?_ _ | refine blk_drew ?_ | refine blk_alloc ?_ _)); exact BK188.out) hb); have n2_ := Aside0.mk (below_step (by repeat (first | (with_reducible first | exact HB.out | apply below_alloc | apply pw_below_drewN | apply below_drew1 | refine below_set ?_ GE188.out) | exact HB.out)) hb); clear HO191; clear BK188; clear HB; have HO191 := n0_; have BK188 := n1_; have HB := n2_; clear n0_ n1_ n2_; (try clear hb); (try clear hb2); (try clear hk); (try clear hi)))
      go_ret2
      exact ⟨by first | rfl | (simp [errW_none, errW_some] <;> rfl) | (simp [*, errW_none, errW_some] <;> rfl), by repeat (first | (with_reducible first | exact HB.out | apply below_alloc | apply pw_below_drewN | apply below_drew1 | refine below_set ?_ GE188.out) | exact HB.out)⟩
  · rw [if_neg c4] at H
    have c4b0 : (t192 == 0) = false := beq_eq_false_iff_ne.mpr c4
    have c4b1 : (t192 != 0) = true := bne_iff_ne.mpr c4
    simp only [Option.some.injEq, Prod.mk.injEq] at H
    obtain ⟨rfl, rfl⟩ := H
    go_enter Try.func37, Try.ntmps37
    go_wp2_with (first | ((with_reducible refine gate_dst (N := 3) rfl ?_); refine box_event ?hg (N := 3) ?hd (cs := #[.int .i64 a1_0, .int .i64 a1_1]) (t := 23) ?hr ?_; (case hd => rfl); (case hg => rfl); (case hr => first | (go_simp; done) | (go_simp; rfl)); intro gb188 hg w24 hbox hb; have n0_ := Aside0.mk (below_step (by repeat (first | (with_reducible first | exact HB.out | apply below_alloc | apply pw_below_drewN | apply below_drew1) | exact HB.out)) hb); have n1_ := Aside0.mk (hbox); have n2_ := Aside0.mk ((by rw [hg]; exact (below_size (by repeat (first | (with_reducible first | exact HB.out | apply below_alloc | apply pw_below_drewN | apply below_drew1) | exact HB.out))) : w.heap.size ≤ gb188)); have n3_ := Aside0.mk ((by rw [hg]; exact (below_size (by repeat (first | (with_reducible first | exact HB.out | apply below_alloc | apply pw_below_drewN | apply below_drew1) | exact HB.out))) : w.heap.size ≤ gb188)); clear HB; have HB := n0_; have BK188 := n1_; have GW188 := n2_; have GE188 := n3_; clear n0_ n1_ n2_ n3_; clear hb hbox hg; have hcz25_0 : w24.cell? ⟨gb188, 0, none⟩ = some (.int .i64 a1_0) := (blk_cell BK188.out 0).trans rfl; have hcz25_1 : w24.cell? ⟨gb188, 1, none⟩ = some (.int .i64 a1_1) := (blk_cell BK188.out 1).trans rfl; have hfz25_0 := blk_frozen BK188.out 0; have hfz25_1 := blk_frozen BK188.out 1) | ((with_reducible refine gate_dst (N := 9) rfl ?_); refine Kd.R_lit k23 _ 23 ?hg (N := 9) ?hd (xs := ([(⟨a1_0, a1_1⟩ : S23)] : List (S23))) (inner := [.int .i64 a1_0, .int .i64 a1_1]) (ok := fun _ => True) (okp := fun _ => True) ?hr ?hp (fun _ hk => hk) trivial (Below.refl _ _) (Nat.le_refl _) (by simp) ?_; (case hd => rfl); (case hg => rfl); (case hr => first | (go_simp; done) | (go_simp; rfl)); (case hp => exact (Reps.c2 (show Kd.M k23 _ _ _ (⟨a1_0, a1_1⟩ : S23) [.int .i64 a1_0, .int .i64 a1_1] from (k23_mkM _ _ _ (⟨a1_0, a1_1⟩ : S23) )) (Reps.none _ _))); intro v190 w26 ho27 hb hg_ hnew_; clear hg_ hnew_; (first | rw [← Ny189.out] at ho27 | (simp only [Int.reduceToNat] at ho27; rw [← Ny189.out] at ho27)); have n0_ := Aside0.mk (Kd.R_lower (Kd.R_newB ho27 (g := gb188) (o := .cells #[.int .i64 a1_0, .int .i64 a1_1] 23 (0, 0)) (by (with_reducible repeat (first | refine blk_drewN ?_ _ | refine blk_drew ?_ | refine blk_alloc ?_ _)); exact BK188.out)) (below_size (by repeat (first | (with_reducible first | exact HB.out | apply below_alloc | apply pw_below_drewN | apply below_drew1 | refine below_set ?_ GE188.out) | exact HB.out)))); have n1_ := Aside0.mk (blk_below (g := gb188) (o := .cells #[.int .i64 a1_0, .int .i64 a1_1] 23 (0, 0)) (by (with_reducible repeat (first | refine blk_drewN ?_ _ | refine blk_drew ?_ | refine blk_alloc ?_ _)); exact BK188.out) hb); have n2_ := Aside0.mk (below_step (by repeat (first | (with_reducible first | exact HB.out | apply below_alloc | apply pw_below_drewN | apply below_drew1 | refine below_set ?_ GE188.out) | exact HB.out)) hb); clear BK188; clear HB; have HO191 := n0_; have BK188 := n1_; have HB := n2_; clear n0_ n1_ n2_; clear hb ho27; obtain ⟨Ao28, co28, eo28⟩ := Kd.R_slice HO191.out; subst eo28) | ((with_reducible refine gate_callee (f := 92) rfl ?_); refine goesL_ (some 10) rfl rfl Try.func92 (by kernel_rfl) rfl #[.slice A0 l0.length c0, .slice Ao28 y189.length co28] rfl (by (try simp only [List.map_toArray, List.map_cons, List.map_nil]); first | done | rfl | (simp only [List.length_drop, List.length_take]; rfl)) ?_; (with_reducible refine (plane_ring.calls k _ _ l0 _ _ y189 t192 _ ?side1 ?side2 ?side3 ?side4 A3.out).mono ?_); (case side1 => repeat (first | exact (Kd.C_below HR0.out HB.out) | (with_reducible refine Kd.C_alloc ?_ _) | (with_reducible refine Kd.C_drewN ?_ _) | (with_reducible refine Kd.C_drew ?_))); (case side2 => exact HC0.out); (case side3 => repeat (first | exact (Kd.R_reads' HO191.out).2.2 | (with_reducible refine Kd.C_alloc ?_ _) | (with_reducible refine Kd.C_drewN ?_ _) | (with_reducible refine Kd.C_drew ?_))); (case side4 => exact (Kd.R_reads' HO191.out).2.1); rintro e w29 ⟨rfl, hb⟩; refine ⟨_, rfl, ?_⟩; have n0_ := Aside0.mk (Kd.R_below (by (with_reducible repeat (first | apply Kd.R_alloc | apply Kd.R_drewN | apply Kd.R_drew)); exact HO191.out) hb); have n1_ := Aside0.mk (blk_below (g := gb188) (o := .cells #[.int .i64 a1_0, .int .i64 a1_1] 23 (0, 0)) (by (with_reducible repeat (first | refine blk_drewN ?_ _ | refine blk_drew ?_ | refine blk_alloc ?_ _)); exact BK188.out) hb); have n2_ := Aside0.mk (below_step (by repeat (first | (with_reducible first | exact HB.out | apply below_alloc | apply pw_below_drewN | apply below_drew1 | refine below_set ?_ GE188.out) | exact HB.out)) hb); clear HO191; clear BK188; clear HB; have HO191 := n0_; have BK188 := n1_; have HB := n2_; clear n0_ n1_ n2_; (try clear hb); (try clear hb2); (try clear hk); (try clear hi)))
    go_ret2
    exact ⟨by first | rfl | (simp [errW_none, errW_some] <;> rfl) | (simp [*, errW_none, errW_some] <;> rfl), by repeat (first | (with_reducible first | exact HB.out | apply below_alloc | apply pw_below_drewN | apply below_drew1 | refine below_set ?_ GE188.out) | exact HB.out)⟩
end Go.Proofs.Ytckaejgamfllfaa.G
end

section
namespace Go.Proofs.Ytckaejgamfllfaa.G
open Go.RowKit Go.Proofs.YtckaejgamfllfaaW.PrintWords Go.Proofs.YtckaejgamfllfaaW.PrintLast Go.Proofs.YtckaejgamfllfaaW.PrintMore
attribute [local go_sem] max2_int min2_int max_two min_two max_three min_three max_four min_four
set_option linter.unusedVariables false
set_option linter.unusedSimpArgs false
def boundstonelaw02_at.f (a0 : Int) (a1 : Int) : Option (Int × Int) := some (a0, a1)
set_option maxHeartbeats 8000000 in
set_option maxRecDepth 100000 in
theorem boundstonelaw02_at.calls (a0 : Int) (a1 : Int) (r1 : Int) (r2 : Int) (w : World) (h : boundstonelaw02_at.f a0 a1 = some (r1, r2)) :
    Calls Try.prog 74 #[.int .i64 a0, .int .i64 a1] w fun e w' => e = .returned (.agg #[.int .i64 r1, .int .i64 r2]) ∧ Below w.heap.size w w' := by
  have hu23 := Try.underlying23
  have HB := Aside0.mk (Below.refl w.heap.size w)
  have H : (some (a0, a1)) = some (r1, r2) := h
  clear h
  simp only [Option.some.injEq, Prod.mk.injEq] at H
  obtain ⟨rfl, rfl⟩ := H
  go_enter Try.func74, Try.ntmps74
  go_wp2_with (first | ((with_reducible refine gate_dst (N := 4) rfl ?_); refine box_event ?hg (N := 4) ?hd (cs := #[.int .i64 0, .int .i64 0]) (t := 23) ?hr ?_; (case hd => rfl); (case hg => rfl); (case hr => first | (go_simp; done) | (go_simp; rfl)); intro gb195 hg w3 hbox hb; have n0_ := Aside0.mk (below_step (by repeat (first | (with_reducible first | exact HB.out | apply below_alloc | apply pw_below_drewN | apply below_drew1) | exact HB.out)) hb); have n1_ := Aside0.mk (hbox); have n2_ := Aside0.mk ((by rw [hg]; exact (below_size (by repeat (first | (with_reducible first | exact HB.out | apply below_alloc | apply pw_below_drewN | apply below_drew1) | exact HB.out))) : w.heap.size ≤ gb195)); have n3_ := Aside0.mk ((by rw [hg]; exact (below_size (by repeat (first | (with_reducible first | exact HB.out | apply below_alloc | apply pw_below_drewN | apply below_drew1) | exact HB.out))) : w.heap.size ≤ gb195)); clear HB; have HB := n0_; have BK195 := n1_; have GW195 := n2_; have GE195 := n3_; clear n0_ n1_ n2_ n3_; clear hb hbox hg; have hcz4_0 : w3.cell? ⟨gb195, 0, none⟩ = some (.int .i64 0) := (blk_cell BK195.out 0).trans rfl; have hcz4_1 : w3.cell? ⟨gb195, 1, none⟩ = some (.int .i64 0) := (blk_cell BK195.out 1).trans rfl; have hfz4_0 := blk_frozen BK195.out 0; have hfz4_1 := blk_frozen BK195.out 1))
  refine bodyPost_ret (results_cell_row rfl _ _ gb195 23 #[.int .i64 a0, .int .i64 a1] (0, 0) _ rfl (by (with_reducible repeat (first | refine blk_drewN ?_ _ | refine blk_drew ?_ | refine blk_alloc ?_ _)); refine blk_put (cs := #[.int .i64 a0, .int .i64 0]) ?_ 1 _ rfl; (with_reducible repeat (first | refine blk_drewN ?_ _ | refine blk_drew ?_ | refine blk_alloc ?_ _)); refine blk_put (cs := #[.int .i64 0, .int .i64 0]) ?_ 0 _ rfl; (with_reducible repeat (first | refine blk_drewN ?_ _ | refine blk_drew ?_ | refine blk_alloc ?_ _)); exact BK195.out) Try.underlying23 rfl (by kernel_rfl)) rfl ?_
  exact ⟨by first | rfl | (simp [errW_none, errW_some] <;> rfl) | (simp [*, errW_none, errW_some] <;> rfl), by repeat (first | (with_reducible first | exact HB.out | apply below_alloc | apply pw_below_drewN | apply below_drew1 | refine below_set ?_ GE195.out) | exact HB.out)⟩
end Go.Proofs.Ytckaejgamfllfaa.G
end
