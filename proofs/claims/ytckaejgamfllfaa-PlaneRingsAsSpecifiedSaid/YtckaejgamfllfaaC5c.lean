/- Part 3 of 4. -/
import Derived.Test.YtckaejgamfllfaaC5b
section
namespace Go.Proofs.Ytckaejgamfllfaa.G
open Go.RowKit Go.Proofs.YtckaejgamfllfaaW.PrintWords Go.Proofs.YtckaejgamfllfaaW.PrintLast Go.Proofs.YtckaejgamfllfaaW.PrintMore
attribute [local go_sem] max2_int min2_int max_two min_two max_three min_three max_four min_four
set_option linter.unusedVariables false
set_option linter.unusedSimpArgs false
def boundstoneref02_where.f (k : Nat) (l0 : List (S23)) (a1_0 : Int) (a1_1 : Int) : Option (Int) := (boundstoneref02_along.f k l0 a1_0 a1_1).bind fun t485 => (if t485 = true then (some 0) else ((boundstoneref02_winding.f k l0 a1_0 a1_1).bind fun t486 => (if t486 = 0 then (some (-1)) else (some 1))))
set_option maxHeartbeats 8000000 in
set_option maxRecDepth 100000 in
theorem boundstoneref02_where.calls (k : Nat) (A0 : Option Addr) (c0 : Nat) (l0 : List (S23)) (a1_0 : Int) (a1_1 : Int) (r : Int) (w : World) (hr0 : Kd.C k23 w A0 l0.length l0) (hc0 : l0.length ≤ c0) (h : boundstoneref02_where.f k l0 a1_0 a1_1 = some r) :
    Calls Try.prog 102 #[.slice A0 l0.length c0, .agg #[.int .i64 a1_0, .int .i64 a1_1]] w fun e w' => e = .returned (.int .i64 r) ∧ Below w.heap.size w w' := by
  have hu23 := Try.underlying23
  have HR0 := Aside0.mk hr0
  have HC0 := Aside0.mk hc0
  clear hr0 hc0
  have HB := Aside0.mk (Below.refl w.heap.size w)
  have H : ((boundstoneref02_along.f k l0 a1_0 a1_1).bind fun t485 => (if t485 = true then (some 0) else ((boundstoneref02_winding.f k l0 a1_0 a1_1).bind fun t486 => (if t486 = 0 then (some (-1)) else (some 1))))) = some r := h
  clear h
  replace H := Option.bind_eq_some_iff.mp H
  obtain ⟨t485, A30, H⟩ := H
  replace H : (if t485 = true then (some 0) else ((boundstoneref02_winding.f k l0 a1_0 a1_1).bind fun t486 => (if t486 = 0 then (some (-1)) else (some 1)))) = some r := H
  have A3 := Aside0.mk A30
  clear A30
  by_cases c4 : t485 = true
  · subst c4
    have H1 : (some 0) = some r := by rw [if_pos rfl] at H; exact H
    clear H
    have H := H1
    clear H1
    obtain rfl := Option.some.inj H
    go_enter Try.func102, Try.ntmps102
    go_wp2_with (first | ((with_reducible refine gate_dst (N := 3) rfl ?_); refine box_event ?hg (N := 3) ?hd (cs := #[.int .i64 a1_0, .int .i64 a1_1]) (t := 23) ?hr ?_; (case hd => rfl); (case hg => rfl); (case hr => first | (go_simp; done) | (go_simp; rfl)); intro gb484 hg w5 hbox hb; have n0_ := Aside0.mk (below_step (by repeat (first | (with_reducible first | exact HB.out | apply below_alloc | apply pw_below_drewN | apply below_drew1) | exact HB.out)) hb); have n1_ := Aside0.mk (hbox); have n2_ := Aside0.mk ((by rw [hg]; exact (below_size (by repeat (first | (with_reducible first | exact HB.out | apply below_alloc | apply pw_below_drewN | apply below_drew1) | exact HB.out))) : w.heap.size ≤ gb484)); have n3_ := Aside0.mk ((by rw [hg]; exact (below_size (by repeat (first | (with_reducible first | exact HB.out | apply below_alloc | apply pw_below_drewN | apply below_drew1) | exact HB.out))) : w.heap.size ≤ gb484)); clear HB; have HB := n0_; have BK484 := n1_; have GW484 := n2_; have GE484 := n3_; clear n0_ n1_ n2_ n3_; clear hb hbox hg; have hcz6_0 : w5.cell? ⟨gb484, 0, none⟩ = some (.int .i64 a1_0) := (blk_cell BK484.out 0).trans rfl; have hcz6_1 : w5.cell? ⟨gb484, 1, none⟩ = some (.int .i64 a1_1) := (blk_cell BK484.out 1).trans rfl; have hfz6_0 := blk_frozen BK484.out 0; have hfz6_1 := blk_frozen BK484.out 1) | ((with_reducible refine gate_callee (f := 99) rfl ?_); refine goesL_ (some 8) rfl rfl Try.func99 (by kernel_rfl) rfl #[.slice A0 l0.length c0, .agg #[.int .i64 a1_0, .int .i64 a1_1]] rfl (by (try simp only [List.map_toArray, List.map_cons, List.map_nil]); first | done | rfl | (simp only [List.length_drop, List.length_take]; rfl)) ?_; (with_reducible refine (boundstoneref02_along.calls k _ _ l0 a1_0 a1_1 true _ ?side1 ?side2 A3.out).mono ?_); (case side1 => repeat (first | exact (Kd.C_below HR0.out HB.out) | (with_reducible refine Kd.C_alloc ?_ _) | (with_reducible refine Kd.C_drewN ?_ _) | (with_reducible refine Kd.C_drew ?_))); (case side2 => exact HC0.out); rintro e w7 ⟨rfl, hb⟩; refine ⟨_, rfl, ?_⟩; have n0_ := Aside0.mk (blk_below (g := gb484) (o := .cells #[.int .i64 a1_0, .int .i64 a1_1] 23 (0, 0)) (by (with_reducible repeat (first | refine blk_drewN ?_ _ | refine blk_drew ?_ | refine blk_alloc ?_ _)); exact BK484.out) hb); have n1_ := Aside0.mk (below_step (by repeat (first | (with_reducible first | exact HB.out | apply below_alloc | apply pw_below_drewN | apply below_drew1 | refine below_set ?_ GE484.out) | exact HB.out)) hb); clear BK484; clear HB; have BK484 := n0_; have HB := n1_; clear n0_ n1_; (try clear hb); (try clear hb2); (try clear hk); (try clear hi)))
    go_ret
    exact ⟨by first | rfl | (simp [errW_none, errW_some] <;> rfl) | (simp [*, errW_none, errW_some] <;> rfl), by repeat (first | (with_reducible first | exact HB.out | apply below_alloc | apply pw_below_drewN | apply below_drew1 | refine below_set ?_ GE484.out) | exact HB.out)⟩
  · replace c4 := Bool.eq_false_iff.mpr c4
    subst c4
    have H1 : ((boundstoneref02_winding.f k l0 a1_0 a1_1).bind fun t486 => (if t486 = 0 then (some (-1)) else (some 1))) = some r := by rw [if_neg (show ¬ (false = true) by decide)] at H; exact H
    clear H
    have H := H1
    clear H1
    replace H := Option.bind_eq_some_iff.mp H
    obtain ⟨t486, A80, H⟩ := H
    replace H : (if t486 = 0 then (some (-1)) else (some 1)) = some r := H
    have A8 := Aside0.mk A80
    clear A80
    by_cases c9 : t486 = 0
    · rw [if_pos c9] at H
      have c9b0 : (t486 == 0) = true := beq_iff_eq.mpr c9
      have c9b1 : (t486 != 0) = false := bne_eq_false_iff_eq.mpr c9
      clear c9
      obtain rfl := Option.some.inj H
      go_enter Try.func102, Try.ntmps102
      go_wp2_with (first | ((with_reducible refine gate_dst (N := 3) rfl ?_); refine box_event ?hg (N := 3) ?hd (cs := #[.int .i64 a1_0, .int .i64 a1_1]) (t := 23) ?hr ?_; (case hd => rfl); (case hg => rfl); (case hr => first | (go_simp; done) | (go_simp; rfl)); intro gb484 hg w10 hbox hb; have n0_ := Aside0.mk (below_step (by repeat (first | (with_reducible first | exact HB.out | apply below_alloc | apply pw_below_drewN | apply below_drew1) | exact HB.out)) hb); have n1_ := Aside0.mk (hbox); have n2_ := Aside0.mk ((by rw [hg]; exact (below_size (by repeat (first | (with_reducible first | exact HB.out | apply below_alloc | apply pw_below_drewN | apply below_drew1) | exact HB.out))) : w.heap.size ≤ gb484)); have n3_ := Aside0.mk ((by rw [hg]; exact (below_size (by repeat (first | (with_reducible first | exact HB.out | apply below_alloc | apply pw_below_drewN | apply below_drew1) | exact HB.out))) : w.heap.size ≤ gb484)); clear HB; have HB := n0_; have BK484 := n1_; have GW484 := n2_; have GE484 := n3_; clear n0_ n1_ n2_ n3_; clear hb hbox hg; have hcz11_0 : w10.cell? ⟨gb484, 0, none⟩ = some (.int .i64 a1_0) := (blk_cell BK484.out 0).trans rfl; have hcz11_1 : w10.cell? ⟨gb484, 1, none⟩ = some (.int .i64 a1_1) := (blk_cell BK484.out 1).trans rfl; have hfz11_0 := blk_frozen BK484.out 0; have hfz11_1 := blk_frozen BK484.out 1) | ((with_reducible refine gate_callee (f := 99) rfl ?_); refine goesL_ (some 8) rfl rfl Try.func99 (by kernel_rfl) rfl #[.slice A0 l0.length c0, .agg #[.int .i64 a1_0, .int .i64 a1_1]] rfl (by (try simp only [List.map_toArray, List.map_cons, List.map_nil]); first | done | rfl | (simp only [List.length_drop, List.length_take]; rfl)) ?_; (with_reducible refine (boundstoneref02_along.calls k _ _ l0 a1_0 a1_1 false _ ?side1 ?side2 A3.out).mono ?_); (case side1 => repeat (first | exact (Kd.C_below HR0.out HB.out) | (with_reducible refine Kd.C_alloc ?_ _) | (with_reducible refine Kd.C_drewN ?_ _) | (with_reducible refine Kd.C_drew ?_))); (case side2 => exact HC0.out); rintro e w12 ⟨rfl, hb⟩; refine ⟨_, rfl, ?_⟩; have n0_ := Aside0.mk (blk_below (g := gb484) (o := .cells #[.int .i64 a1_0, .int .i64 a1_1] 23 (0, 0)) (by (with_reducible repeat (first | refine blk_drewN ?_ _ | refine blk_drew ?_ | refine blk_alloc ?_ _)); exact BK484.out) hb); have n1_ := Aside0.mk (below_step (by repeat (first | (with_reducible first | exact HB.out | apply below_alloc | apply pw_below_drewN | apply below_drew1 | refine below_set ?_ GE484.out) | exact HB.out)) hb); clear BK484; clear HB; have BK484 := n0_; have HB := n1_; clear n0_ n1_; (try clear hb); (try clear hb2); (try clear hk); (try clear hi); have hcz13_0 : w12.cell? ⟨gb484, 0, none⟩ = some (.int .i64 a1_0) := (blk_cell BK484.out 0).trans rfl; have hcz13_1 : w12.cell? ⟨gb484, 1, none⟩ = some (.int .i64 a1_1) := (blk_cell BK484.out 1).trans rfl; have hfz13_0 := blk_frozen BK484.out 0; have hfz13_1 := blk_frozen BK484.out 1) | ((with_reducible refine gate_callee (f := 100) rfl ?_); refine goesL_ (some 12) rfl rfl Try.func100 (by kernel_rfl) rfl #[.slice A0 l0.length c0, .agg #[.int .i64 a1_0, .int .i64 a1_1]] rfl (by (try simp only [List.map_toArray, List.map_cons, List.map_nil]); first | done | rfl | (simp only [List.length_drop, List.length_take]; rfl)) ?_; (with_reducible refine (boundstoneref02_winding.calls k _ _ l0 a1_0 a1_1 t486 _ ?side1 ?side2 A8.out).mono ?_); (case side1 => repeat (first | exact (Kd.C_below HR0.out HB.out) | (with_reducible refine Kd.C_alloc ?_ _) | (with_reducible refine Kd.C_drewN ?_ _) | (with_reducible refine Kd.C_drew ?_))); (case side2 => exact HC0.out); rintro e w14 ⟨rfl, hb⟩; refine ⟨_, rfl, ?_⟩; have n0_ := Aside0.mk (blk_below (g := gb484) (o := .cells #[.int .i64 a1_0, .int .i64 a1_1] 23 (0, 0)) (by (with_reducible repeat (first | refine blk_drewN ?_ _ | refine blk_drew ?_ | refine blk_alloc ?_ _)); exact BK484.out) hb); have n1_ := Aside0.mk (below_step (by repeat (first | (with_reducible first | exact HB.out | apply below_alloc | apply pw_below_drewN | apply below_drew1 | refine below_set ?_ GE484.out) | exact HB.out)) hb); clear BK484; clear HB; have BK484 := n0_; have HB := n1_; clear n0_ n1_; (try clear hb); (try clear hb2); (try clear hk); (try clear hi)))
      go_ret
      exact ⟨by first | rfl | (simp [errW_none, errW_some] <;> rfl) | (simp [*, errW_none, errW_some] <;> rfl), by repeat (first | (with_reducible first | exact HB.out | apply below_alloc | apply pw_below_drewN | apply below_drew1 | refine below_set ?_ GE484.out) | exact HB.out)⟩
    · rw [if_neg c9] at H
      have c9b0 : (t486 == 0) = false := beq_eq_false_iff_ne.mpr c9
      have c9b1 : (t486 != 0) = true := bne_iff_ne.mpr c9
      obtain rfl := Option.some.inj H
      go_enter Try.func102, Try.ntmps102
      go_wp2_with (first | ((with_reducible refine gate_dst (N := 3) rfl ?_); refine box_event ?hg (N := 3) ?hd (cs := #[.int .i64 a1_0, .int .i64 a1_1]) (t := 23) ?hr ?_; (case hd => rfl); (case hg => rfl); (case hr => first | (go_simp; done) | (go_simp; rfl)); intro gb484 hg w15 hbox hb; have n0_ := Aside0.mk (below_step (by repeat (first | (with_reducible first | exact HB.out | apply below_alloc | apply pw_below_drewN | apply below_drew1) | exact HB.out)) hb); have n1_ := Aside0.mk (hbox); have n2_ := Aside0.mk ((by rw [hg]; exact (below_size (by repeat (first | (with_reducible first | exact HB.out | apply below_alloc | apply pw_below_drewN | apply below_drew1) | exact HB.out))) : w.heap.size ≤ gb484)); have n3_ := Aside0.mk ((by rw [hg]; exact (below_size (by repeat (first | (with_reducible first | exact HB.out | apply below_alloc | apply pw_below_drewN | apply below_drew1) | exact HB.out))) : w.heap.size ≤ gb484)); clear HB; have HB := n0_; have BK484 := n1_; have GW484 := n2_; have GE484 := n3_; clear n0_ n1_ n2_ n3_; clear hb hbox hg; have hcz16_0 : w15.cell? ⟨gb484, 0, none⟩ = some (.int .i64 a1_0) := (blk_cell BK484.out 0).trans rfl; have hcz16_1 : w15.cell? ⟨gb484, 1, none⟩ = some (.int .i64 a1_1) := (blk_cell BK484.out 1).trans rfl; have hfz16_0 := blk_frozen BK484.out 0; have hfz16_1 := blk_frozen BK484.out 1) | ((with_reducible refine gate_callee (f := 99) rfl ?_); refine goesL_ (some 8) rfl rfl Try.func99 (by kernel_rfl) rfl #[.slice A0 l0.length c0, .agg #[.int .i64 a1_0, .int .i64 a1_1]] rfl (by (try simp only [List.map_toArray, List.map_cons, List.map_nil]); first | done | rfl | (simp only [List.length_drop, List.length_take]; rfl)) ?_; (with_reducible refine (boundstoneref02_along.calls k _ _ l0 a1_0 a1_1 false _ ?side1 ?side2 A3.out).mono ?_); (case side1 => repeat (first | exact (Kd.C_below HR0.out HB.out) | (with_reducible refine Kd.C_alloc ?_ _) | (with_reducible refine Kd.C_drewN ?_ _) | (with_reducible refine Kd.C_drew ?_))); (case side2 => exact HC0.out); rintro e w17 ⟨rfl, hb⟩; refine ⟨_, rfl, ?_⟩; have n0_ := Aside0.mk (blk_below (g := gb484) (o := .cells #[.int .i64 a1_0, .int .i64 a1_1] 23 (0, 0)) (by (with_reducible repeat (first | refine blk_drewN ?_ _ | refine blk_drew ?_ | refine blk_alloc ?_ _)); exact BK484.out) hb); have n1_ := Aside0.mk (below_step (by repeat (first | (with_reducible first | exact HB.out | apply below_alloc | apply pw_below_drewN | apply below_drew1 | refine below_set ?_ GE484.out) | exact HB.out)) hb); clear BK484; clear HB; have BK484 := n0_; have HB := n1_; clear n0_ n1_; (try clear hb); (try clear hb2); (try clear hk); (try clear hi); have hcz18_0 : w17.cell? ⟨gb484, 0, none⟩ = some (.int .i64 a1_0) := (blk_cell BK484.out 0).trans rfl; have hcz18_1 : w17.cell? ⟨gb484, 1, none⟩ = some (.int .i64 a1_1) := (blk_cell BK484.out 1).trans rfl; have hfz18_0 := blk_frozen BK484.out 0; have hfz18_1 := blk_frozen BK484.out 1) | ((with_reducible refine gate_callee (f := 100) rfl ?_); refine goesL_ (some 12) rfl rfl Try.func100 (by kernel_rfl) rfl #[.slice A0 l0.length c0, .agg #[.int .i64 a1_0, .int .i64 a1_1]] rfl (by (try simp only [List.map_toArray, List.map_cons, List.map_nil]); first | done | rfl | (simp only [List.length_drop, List.length_take]; rfl)) ?_; (with_reducible refine (boundstoneref02_winding.calls k _ _ l0 a1_0 a1_1 t486 _ ?side1 ?side2 A8.out).mono ?_); (case side1 => repeat (first | exact (Kd.C_below HR0.out HB.out) | (with_reducible refine Kd.C_alloc ?_ _) | (with_reducible refine Kd.C_drewN ?_ _) | (with_reducible refine Kd.C_drew ?_))); (case side2 => exact HC0.out); rintro e w19 ⟨rfl, hb⟩; refine ⟨_, rfl, ?_⟩; have n0_ := Aside0.mk (blk_below (g := gb484) (o := .cells #[.int .i64 a1_0, .int .i64 a1_1] 23 (0, 0)) (by (with_reducible repeat (first | refine blk_drewN ?_ _ | refine blk_drew ?_ | refine blk_alloc ?_ _)); exact BK484.out) hb); have n1_ := Aside0.mk (below_step (by repeat (first | (with_reducible first | exact HB.out | apply below_alloc | apply pw_below_drewN | apply below_drew1 | refine below_set ?_ GE484.out) | exact HB.out)) hb); clear BK484; clear HB; have BK484 := n0_; have HB := n1_; clear n0_ n1_; (try clear hb); (try clear hb2); (try clear hk); (try clear hi)))
      go_ret
      exact ⟨by first | rfl | (simp [errW_none, errW_some] <;> rfl) | (simp [*, errW_none, errW_some] <;> rfl), by repeat (first | (with_reducible first | exact HB.out | apply below_alloc | apply pw_below_drewN | apply below_drew1 | refine below_set ?_ GE484.out) | exact HB.out)⟩
end Go.Proofs.Ytckaejgamfllfaa.G
end

section
namespace Go.Proofs.Ytckaejgamfllfaa.G
open Go.RowKit Go.Proofs.YtckaejgamfllfaaW.PrintWords Go.Proofs.YtckaejgamfllfaaW.PrintLast Go.Proofs.YtckaejgamfllfaaW.PrintMore
attribute [local go_sem] max2_int min2_int max_two min_two max_three min_three max_four min_four
set_option linter.unusedVariables false
set_option linter.unusedSimpArgs false
def boundstoneref02_Where.f (k : Nat) (l0 : List (S23)) (a1_0 : Int) (a1_1 : Int) : Option (Int × Int) := (boundstoneref02_points.f k l0 3).bind fun t488 => (if t488 = 0 then ((boundstoneref02_Valid.f a1_0 a1_1).bind fun t489 => (if t489 = true then ((boundstoneref02_simple.f k l0).bind fun t490 => (if t490 = true then ((boundstoneref02_where.f k l0 a1_0 a1_1).bind fun t491 => (some (t491, 0))) else (some (0, 4)))) else (some (0, 1)))) else (some (0, t488)))
set_option maxHeartbeats 8000000 in
set_option maxRecDepth 100000 in
theorem boundstoneref02_Where.calls (k : Nat) (A0 : Option Addr) (c0 : Nat) (l0 : List (S23)) (a1_0 : Int) (a1_1 : Int) (r1 : Int) (r2 : Int) (w : World) (hr0 : Kd.C k23 w A0 l0.length l0) (hc0 : l0.length ≤ c0) (h : boundstoneref02_Where.f k l0 a1_0 a1_1 = some (r1, r2)) :
    Calls Try.prog 38 #[.slice A0 l0.length c0, .agg #[.int .i64 a1_0, .int .i64 a1_1]] w fun e w' => e = .returned (.tuple #[.int .i64 r1, .int .i64 r2]) ∧ Below w.heap.size w w' := by
  have hu23 := Try.underlying23
  have HR0 := Aside0.mk hr0
  have HC0 := Aside0.mk hc0
  clear hr0 hc0
  have HB := Aside0.mk (Below.refl w.heap.size w)
  have H : ((boundstoneref02_points.f k l0 3).bind fun t488 => (if t488 = 0 then ((boundstoneref02_Valid.f a1_0 a1_1).bind fun t489 => (if t489 = true then ((boundstoneref02_simple.f k l0).bind fun t490 => (if t490 = true then ((boundstoneref02_where.f k l0 a1_0 a1_1).bind fun t491 => (some (t491, 0))) else (some (0, 4)))) else (some (0, 1)))) else (some (0, t488)))) = some (r1, r2) := h
  clear h
  replace H := Option.bind_eq_some_iff.mp H
  obtain ⟨t488, A30, H⟩ := H
  replace H : (if t488 = 0 then ((boundstoneref02_Valid.f a1_0 a1_1).bind fun t489 => (if t489 = true then ((boundstoneref02_simple.f k l0).bind fun t490 => (if t490 = true then ((boundstoneref02_where.f k l0 a1_0 a1_1).bind fun t491 => (some (t491, 0))) else (some (0, 4)))) else (some (0, 1)))) else (some (0, t488))) = some (r1, r2) := H
  have A3 := Aside0.mk A30
  clear A30
  by_cases c4 : t488 = 0
  · rw [if_pos c4] at H
    have c4b0 : (t488 == 0) = true := beq_iff_eq.mpr c4
    have c4b1 : (t488 != 0) = false := bne_eq_false_iff_eq.mpr c4
    clear c4
    replace H := Option.bind_eq_some_iff.mp H
    obtain ⟨t489, A50, H⟩ := H
    replace H : (if t489 = true then ((boundstoneref02_simple.f k l0).bind fun t490 => (if t490 = true then ((boundstoneref02_where.f k l0 a1_0 a1_1).bind fun t491 => (some (t491, 0))) else (some (0, 4)))) else (some (0, 1))) = some (r1, r2) := H
    have A5 := Aside0.mk A50
    clear A50
    by_cases c6 : t489 = true
    · subst c6
      have H1 : ((boundstoneref02_simple.f k l0).bind fun t490 => (if t490 = true then ((boundstoneref02_where.f k l0 a1_0 a1_1).bind fun t491 => (some (t491, 0))) else (some (0, 4)))) = some (r1, r2) := by rw [if_pos rfl] at H; exact H
      clear H
      have H := H1
      clear H1
      replace H := Option.bind_eq_some_iff.mp H
      obtain ⟨t490, A70, H⟩ := H
      replace H : (if t490 = true then ((boundstoneref02_where.f k l0 a1_0 a1_1).bind fun t491 => (some (t491, 0))) else (some (0, 4))) = some (r1, r2) := H
      have A7 := Aside0.mk A70
      clear A70
      by_cases c8 : t490 = true
      · subst c8
        have H1 : ((boundstoneref02_where.f k l0 a1_0 a1_1).bind fun t491 => (some (t491, 0))) = some (r1, r2) := by rw [if_pos rfl] at H; exact H
        clear H
        have H := H1
        clear H1
        replace H := Option.bind_eq_some_iff.mp H
        obtain ⟨t491, A90, H⟩ := H
        replace H : (some (t491, 0)) = some (r1, r2) := H
        have A9 := Aside0.mk A90
        clear A90
        simp only [Option.some.injEq, Prod.mk.injEq] at H
        obtain ⟨rfl, rfl⟩ := H
        go_enter Try.func38, Try.ntmps38
        go_wp2_with (first | ((with_reducible refine gate_dst (N := 3) rfl ?_); refine box_event ?hg (N := 3) ?hd (cs := #[.int .i64 a1_0, .int .i64 a1_1]) (t := 23) ?hr ?_; (case hd => rfl); (case hg => rfl); (case hr => first | (go_simp; done) | (go_simp; rfl)); intro gb487 hg w10 hbox hb; have n0_ := Aside0.mk (below_step (by repeat (first | (with_reducible first | exact HB.out | apply below_alloc | apply pw_below_drewN | apply below_drew1) | exact HB.out)) hb); have n1_ := Aside0.mk (hbox); have n2_ := Aside0.mk ((by rw [hg]; exact (below_size (by repeat (first | (with_reducible first | exact HB.out | apply below_alloc | apply pw_below_drewN | apply below_drew1) | exact HB.out))) : w.heap.size ≤ gb487)); have n3_ := Aside0.mk ((by rw [hg]; exact (below_size (by repeat (first | (with_reducible first | exact HB.out | apply below_alloc | apply pw_below_drewN | apply below_drew1) | exact HB.out))) : w.heap.size ≤ gb487)); clear HB; have HB := n0_; have BK487 := n1_; have GW487 := n2_; have GE487 := n3_; clear n0_ n1_ n2_ n3_; clear hb hbox hg) | ((with_reducible refine gate_callee (f := 94) rfl ?_); refine goesL_ (some 10) rfl rfl Try.func94 (by kernel_rfl) rfl #[.slice A0 l0.length c0, .int .i64 3] rfl (by (try simp only [List.map_toArray, List.map_cons, List.map_nil]); first | done | rfl | (simp only [List.length_drop, List.length_take]; rfl)) ?_; (with_reducible refine (boundstoneref02_points.calls k _ _ l0 3 t488 _ ?side1 ?side2 A3.out).mono ?_); (case side1 => repeat (first | exact (Kd.C_below HR0.out HB.out) | (with_reducible refine Kd.C_alloc ?_ _) | (with_reducible refine Kd.C_drewN ?_ _) | (with_reducible refine Kd.C_drew ?_))); (case side2 => exact HC0.out); rintro e w11 ⟨rfl, hb⟩; refine ⟨_, rfl, ?_⟩; have n0_ := Aside0.mk (blk_below (g := gb487) (o := .cells #[.int .i64 a1_0, .int .i64 a1_1] 23 (0, 0)) (by (with_reducible repeat (first | refine blk_drewN ?_ _ | refine blk_drew ?_ | refine blk_alloc ?_ _)); exact BK487.out) hb); have n1_ := Aside0.mk (below_step (by repeat (first | (with_reducible first | exact HB.out | apply below_alloc | apply pw_below_drewN | apply below_drew1 | refine below_set ?_ GE487.out) | exact HB.out)) hb); clear BK487; clear HB; have BK487 := n0_; have HB := n1_; clear n0_ n1_; (try clear hb); (try clear hb2); (try clear hk); (try clear hi); have hcz12_0 : w11.cell? ⟨gb487, 0, none⟩ = some (.int .i64 a1_0) := (blk_cell BK487.out 0).trans rfl; have hcz12_1 : w11.cell? ⟨gb487, 1, none⟩ = some (.int .i64 a1_1) := (blk_cell BK487.out 1).trans rfl; have hfz12_0 := blk_frozen BK487.out 0; have hfz12_1 := blk_frozen BK487.out 1) | ((with_reducible refine gate_callee (f := 18) rfl ?_); refine goesL_ (some 15) rfl rfl Try.func18 (by kernel_rfl) rfl #[.agg #[.int .i64 a1_0, .int .i64 a1_1]] rfl (by (try simp only [List.map_toArray, List.map_cons, List.map_nil]); first | done | rfl | (simp only [List.length_drop, List.length_take]; rfl)) ?_; (with_reducible refine (boundstoneref02_Valid.calls a1_0 a1_1 true _ A5.out).mono ?_); rintro e w13 ⟨rfl, hb⟩; refine ⟨_, rfl, ?_⟩; have n0_ := Aside0.mk (blk_below (g := gb487) (o := .cells #[.int .i64 a1_0, .int .i64 a1_1] 23 (0, 0)) (by (with_reducible repeat (first | refine blk_drewN ?_ _ | refine blk_drew ?_ | refine blk_alloc ?_ _)); exact BK487.out) hb); have n1_ := Aside0.mk (below_step (by repeat (first | (with_reducible first | exact HB.out | apply below_alloc | apply pw_below_drewN | apply below_drew1 | refine below_set ?_ GE487.out) | exact HB.out)) hb); clear BK487; clear HB; have BK487 := n0_; have HB := n1_; clear n0_ n1_; (try clear hb); (try clear hb2); (try clear hk); (try clear hi)) | ((with_reducible refine gate_callee (f := 96) rfl ?_); refine goesL_ (some 19) rfl rfl Try.func96 (by kernel_rfl) rfl #[.slice A0 l0.length c0] rfl (by (try simp only [List.map_toArray, List.map_cons, List.map_nil]); first | done | rfl | (simp only [List.length_drop, List.length_take]; rfl)) ?_; (with_reducible refine (boundstoneref02_simple.calls k _ _ l0 true _ ?side1 ?side2 A7.out).mono ?_); (case side1 => repeat (first | exact (Kd.C_below HR0.out HB.out) | (with_reducible refine Kd.C_alloc ?_ _) | (with_reducible refine Kd.C_drewN ?_ _) | (with_reducible refine Kd.C_drew ?_))); (case side2 => exact HC0.out); rintro e w14 ⟨rfl, hb⟩; refine ⟨_, rfl, ?_⟩; have n0_ := Aside0.mk (blk_below (g := gb487) (o := .cells #[.int .i64 a1_0, .int .i64 a1_1] 23 (0, 0)) (by (with_reducible repeat (first | refine blk_drewN ?_ _ | refine blk_drew ?_ | refine blk_alloc ?_ _)); exact BK487.out) hb); have n1_ := Aside0.mk (below_step (by repeat (first | (with_reducible first | exact HB.out | apply below_alloc | apply pw_below_drewN | apply below_drew1 | refine below_set ?_ GE487.out) | exact HB.out)) hb); clear BK487; clear HB; have BK487 := n0_; have HB := n1_; clear n0_ n1_; (try clear hb); (try clear hb2); (try clear hk); (try clear hi); have hcz15_0 : w14.cell? ⟨gb487, 0, none⟩ = some (.int .i64 a1_0) := (blk_cell BK487.out 0).trans rfl; have hcz15_1 : w14.cell? ⟨gb487, 1, none⟩ = some (.int .i64 a1_1) := (blk_cell BK487.out 1).trans rfl; have hfz15_0 := blk_frozen BK487.out 0; have hfz15_1 := blk_frozen BK487.out 1) | ((with_reducible refine gate_callee (f := 102) rfl ?_); refine goesL_ (some 24) rfl rfl Try.func102 (by kernel_rfl) rfl #[.slice A0 l0.length c0, .agg #[.int .i64 a1_0, .int .i64 a1_1]] rfl (by (try simp only [List.map_toArray, List.map_cons, List.map_nil]); first | done | rfl | (simp only [List.length_drop, List.length_take]; rfl)) ?_; (with_reducible refine (boundstoneref02_where.calls k _ _ l0 a1_0 a1_1 t491 _ ?side1 ?side2 A9.out).mono ?_); (case side1 => repeat (first | exact (Kd.C_below HR0.out HB.out) | (with_reducible refine Kd.C_alloc ?_ _) | (with_reducible refine Kd.C_drewN ?_ _) | (with_reducible refine Kd.C_drew ?_))); (case side2 => exact HC0.out); rintro e w16 ⟨rfl, hb⟩; refine ⟨_, rfl, ?_⟩; have n0_ := Aside0.mk (blk_below (g := gb487) (o := .cells #[.int .i64 a1_0, .int .i64 a1_1] 23 (0, 0)) (by (with_reducible repeat (first | refine blk_drewN ?_ _ | refine blk_drew ?_ | refine blk_alloc ?_ _)); exact BK487.out) hb); have n1_ := Aside0.mk (below_step (by repeat (first | (with_reducible first | exact HB.out | apply below_alloc | apply pw_below_drewN | apply below_drew1 | refine below_set ?_ GE487.out) | exact HB.out)) hb); clear BK487; clear HB; have BK487 := n0_; have HB := n1_; clear n0_ n1_; (try clear hb); (try clear hb2); (try clear hk); (try clear hi)))
        go_ret2
        exact ⟨by first | rfl | (simp [errW_none, errW_some] <;> rfl) | (simp [*, errW_none, errW_some] <;> rfl), by repeat (first | (with_reducible first | exact HB.out | apply below_alloc | apply pw_below_drewN | apply below_drew1 | refine below_set ?_ GE487.out) | exact HB.out)⟩
      · replace c8 := Bool.eq_false_iff.mpr c8
        subst c8
        have H1 : (some (0, 4)) = some (r1, r2) := by rw [if_neg (show ¬ (false = true) by decide)] at H; exact H
        clear H
        have H := H1
        clear H1
        simp only [Option.some.injEq, Prod.mk.injEq] at H
        obtain ⟨rfl, rfl⟩ := H
        go_enter Try.func38, Try.ntmps38
        go_wp2_with (first | ((with_reducible refine gate_dst (N := 3) rfl ?_); refine box_event ?hg (N := 3) ?hd (cs := #[.int .i64 a1_0, .int .i64 a1_1]) (t := 23) ?hr ?_; (case hd => rfl); (case hg => rfl); (case hr => first | (go_simp; done) | (go_simp; rfl)); intro gb487 hg w17 hbox hb; have n0_ := Aside0.mk (below_step (by repeat (first | (with_reducible first | exact HB.out | apply below_alloc | apply pw_below_drewN | apply below_drew1) | exact HB.out)) hb); have n1_ := Aside0.mk (hbox); have n2_ := Aside0.mk ((by rw [hg]; exact (below_size (by repeat (first | (with_reducible first | exact HB.out | apply below_alloc | apply pw_below_drewN | apply below_drew1) | exact HB.out))) : w.heap.size ≤ gb487)); have n3_ := Aside0.mk ((by rw [hg]; exact (below_size (by repeat (first | (with_reducible first | exact HB.out | apply below_alloc | apply pw_below_drewN | apply below_drew1) | exact HB.out))) : w.heap.size ≤ gb487)); clear HB; have HB := n0_; have BK487 := n1_; have GW487 := n2_; have GE487 := n3_; clear n0_ n1_ n2_ n3_; clear hb hbox hg) | ((with_reducible refine gate_callee (f := 94) rfl ?_); refine goesL_ (some 10) rfl rfl Try.func94 (by kernel_rfl) rfl #[.slice A0 l0.length c0, .int .i64 3] rfl (by (try simp only [List.map_toArray, List.map_cons, List.map_nil]); first | done | rfl | (simp only [List.length_drop, List.length_take]; rfl)) ?_; (with_reducible refine (boundstoneref02_points.calls k _ _ l0 3 t488 _ ?side1 ?side2 A3.out).mono ?_); (case side1 => repeat (first | exact (Kd.C_below HR0.out HB.out) | (with_reducible refine Kd.C_alloc ?_ _) | (with_reducible refine Kd.C_drewN ?_ _) | (with_reducible refine Kd.C_drew ?_))); (case side2 => exact HC0.out); rintro e w18 ⟨rfl, hb⟩; refine ⟨_, rfl, ?_⟩; have n0_ := Aside0.mk (blk_below (g := gb487) (o := .cells #[.int .i64 a1_0, .int .i64 a1_1] 23 (0, 0)) (by (with_reducible repeat (first | refine blk_drewN ?_ _ | refine blk_drew ?_ | refine blk_alloc ?_ _)); exact BK487.out) hb); have n1_ := Aside0.mk (below_step (by repeat (first | (with_reducible first | exact HB.out | apply below_alloc | apply pw_below_drewN | apply below_drew1 | refine below_set ?_ GE487.out) | exact HB.out)) hb); clear BK487; clear HB; have BK487 := n0_; have HB := n1_; clear n0_ n1_; (try clear hb); (try clear hb2); (try clear hk); (try clear hi); have hcz19_0 : w18.cell? ⟨gb487, 0, none⟩ = some (.int .i64 a1_0) := (blk_cell BK487.out 0).trans rfl; have hcz19_1 : w18.cell? ⟨gb487, 1, none⟩ = some (.int .i64 a1_1) := (blk_cell BK487.out 1).trans rfl; have hfz19_0 := blk_frozen BK487.out 0; have hfz19_1 := blk_frozen BK487.out 1) | ((with_reducible refine gate_callee (f := 18) rfl ?_); refine goesL_ (some 15) rfl rfl Try.func18 (by kernel_rfl) rfl #[.agg #[.int .i64 a1_0, .int .i64 a1_1]] rfl (by (try simp only [List.map_toArray, List.map_cons, List.map_nil]); first | done | rfl | (simp only [List.length_drop, List.length_take]; rfl)) ?_; (with_reducible refine (boundstoneref02_Valid.calls a1_0 a1_1 true _ A5.out).mono ?_); rintro e w20 ⟨rfl, hb⟩; refine ⟨_, rfl, ?_⟩; have n0_ := Aside0.mk (blk_below (g := gb487) (o := .cells #[.int .i64 a1_0, .int .i64 a1_1] 23 (0, 0)) (by (with_reducible repeat (first | refine blk_drewN ?_ _ | refine blk_drew ?_ | refine blk_alloc ?_ _)); exact BK487.out) hb); have n1_ := Aside0.mk (below_step (by repeat (first | (with_reducible first | exact HB.out | apply below_alloc | apply pw_below_drewN | apply below_drew1 | refine below_set ?_ GE487.out) | exact HB.out)) hb); clear BK487; clear HB; have BK487 := n0_; have HB := n1_; clear n0_ n1_; (try clear hb); (try clear hb2); (try clear hk); (try clear hi)) | ((with_reducible refine gate_callee (f := 96) rfl ?_); refine goesL_ (some 19) rfl rfl Try.func96 (by kernel_rfl) rfl #[.slice A0 l0.length c0] rfl (by (try simp only [List.map_toArray, List.map_cons, List.map_nil]); first | done | rfl | (simp only [List.length_drop, List.length_take]; rfl)) ?_; (with_reducible refine (boundstoneref02_simple.calls k _ _ l0 false _ ?side1 ?side2 A7.out).mono ?_); (case side1 => repeat (first | exact (Kd.C_below HR0.out HB.out) | (with_reducible refine Kd.C_alloc ?_ _) | (with_reducible refine Kd.C_drewN ?_ _) | (with_reducible refine Kd.C_drew ?_))); (case side2 => exact HC0.out); rintro e w21 ⟨rfl, hb⟩; refine ⟨_, rfl, ?_⟩; have n0_ := Aside0.mk (blk_below (g := gb487) (o := .cells #[.int .i64 a1_0, .int .i64 a1_1] 23 (0, 0)) (by (with_reducible repeat (first | refine blk_drewN ?_ _ | refine blk_drew ?_ | refine blk_alloc ?_ _)); exact BK487.out) hb); have n1_ := Aside0.mk (below_step (by repeat (first | (with_reducible first | exact HB.out | apply below_alloc | apply pw_below_drewN | apply below_drew1 | refine below_set ?_ GE487.out) | exact HB.out)) hb); clear BK487; clear HB; have BK487 := n0_; have HB := n1_; clear n0_ n1_; (try clear hb); (try clear hb2); (try clear hk); (try clear hi)))
        go_ret2
        exact ⟨by first | rfl | (simp [errW_none, errW_some] <;> rfl) | (simp [*, errW_none, errW_some] <;> rfl), by repeat (first | (with_reducible first | exact HB.out | apply below_alloc | apply pw_below_drewN | apply below_drew1 | refine below_set ?_ GE487.out) | exact HB.out)⟩
    · replace c6 := Bool.eq_false_iff.mpr c6
      subst c6
      have H1 : (some (0, 1)) = some (r1, r2) := by rw [if_neg (show ¬ (false = true) by decide)] at H; exact H
      clear H
      have H := H1
      clear H1
      simp only [Option.some.injEq, Prod.mk.injEq] at H
      obtain ⟨rfl, rfl⟩ := H
      go_enter Try.func38, Try.ntmps38
      go_wp2_with (first | ((with_reducible refine gate_dst (N := 3) rfl ?_); refine box_event ?hg (N := 3) ?hd (cs := #[.int .i64 a1_0, .int .i64 a1_1]) (t := 23) ?hr ?_; (case hd => rfl); (case hg => rfl); (case hr => first | (go_simp; done) | (go_simp; rfl)); intro gb487 hg w22 hbox hb; have n0_ := Aside0.mk (below_step (by repeat (first | (with_reducible first | exact HB.out | apply below_alloc | apply pw_below_drewN | apply below_drew1) | exact HB.out)) hb); have n1_ := Aside0.mk (hbox); have n2_ := Aside0.mk ((by rw [hg]; exact (below_size (by repeat (first | (with_reducible first | exact HB.out | apply below_alloc | apply pw_below_drewN | apply below_drew1) | exact HB.out))) : w.heap.size ≤ gb487)); have n3_ := Aside0.mk ((by rw [hg]; exact (below_size (by repeat (first | (with_reducible first | exact HB.out | apply below_alloc | apply pw_below_drewN | apply below_drew1) | exact HB.out))) : w.heap.size ≤ gb487)); clear HB; have HB := n0_; have BK487 := n1_; have GW487 := n2_; have GE487 := n3_; clear n0_ n1_ n2_ n3_; clear hb hbox hg) | ((with_reducible refine gate_callee (f := 94) rfl ?_); refine goesL_ (some 10) rfl rfl Try.func94 (by kernel_rfl) rfl #[.slice A0 l0.length c0, .int .i64 3] rfl (by (try simp only [List.map_toArray, List.map_cons, List.map_nil]); first | done | rfl | (simp only [List.length_drop, List.length_take]; rfl)) ?_; (with_reducible refine (boundstoneref02_points.calls k _ _ l0 3 t488 _ ?side1 ?side2 A3.out).mono ?_); (case side1 => repeat (first | exact (Kd.C_below HR0.out HB.out) | (with_reducible refine Kd.C_alloc ?_ _) | (with_reducible refine Kd.C_drewN ?_ _) | (with_reducible refine Kd.C_drew ?_))); (case side2 => exact HC0.out); rintro e w23 ⟨rfl, hb⟩; refine ⟨_, rfl, ?_⟩; have n0_ := Aside0.mk (blk_below (g := gb487) (o := .cells #[.int .i64 a1_0, .int .i64 a1_1] 23 (0, 0)) (by (with_reducible repeat (first | refine blk_drewN ?_ _ | refine blk_drew ?_ | refine blk_alloc ?_ _)); exact BK487.out) hb); have n1_ := Aside0.mk (below_step (by repeat (first | (with_reducible first | exact HB.out | apply below_alloc | apply pw_below_drewN | apply below_drew1 | refine below_set ?_ GE487.out) | exact HB.out)) hb); clear BK487; clear HB; have BK487 := n0_; have HB := n1_; clear n0_ n1_; (try clear hb); (try clear hb2); (try clear hk); (try clear hi); have hcz24_0 : w23.cell? ⟨gb487, 0, none⟩ = some (.int .i64 a1_0) := (blk_cell BK487.out 0).trans rfl; have hcz24_1 : w23.cell? ⟨gb487, 1, none⟩ = some (.int .i64 a1_1) := (blk_cell BK487.out 1).trans rfl; have hfz24_0 := blk_frozen BK487.out 0; have hfz24_1 := blk_frozen BK487.out 1) | ((with_reducible refine gate_callee (f := 18) rfl ?_); refine goesL_ (some 15) rfl rfl Try.func18 (by kernel_rfl) rfl #[.agg #[.int .i64 a1_0, .int .i64 a1_1]] rfl (by (try simp only [List.map_toArray, List.map_cons, List.map_nil]); first | done | rfl | (simp only [List.length_drop, List.length_take]; rfl)) ?_; (with_reducible refine (boundstoneref02_Valid.calls a1_0 a1_1 false _ A5.out).mono ?_); rintro e w25 ⟨rfl, hb⟩; refine ⟨_, rfl, ?_⟩; have n0_ := Aside0.mk (blk_below (g := gb487) (o := .cells #[.int .i64 a1_0, .int .i64 a1_1] 23 (0, 0)) (by (with_reducible repeat (first | refine blk_drewN ?_ _ | refine blk_drew ?_ | refine blk_alloc ?_ _)); exact BK487.out) hb); have n1_ := Aside0.mk (below_step (by repeat (first | (with_reducible first | exact HB.out | apply below_alloc | apply pw_below_drewN | apply below_drew1 | refine below_set ?_ GE487.out) | exact HB.out)) hb); clear BK487; clear HB; have BK487 := n0_; have HB := n1_; clear n0_ n1_; (try clear hb); (try clear hb2); (try clear hk); (try clear hi)))
      go_ret2
      exact ⟨by first | rfl | (simp [errW_none, errW_some] <;> rfl) | (simp [*, errW_none, errW_some] <;> rfl), by repeat (first | (with_reducible first | exact HB.out | apply below_alloc | apply pw_below_drewN | apply below_drew1 | refine below_set ?_ GE487.out) | exact HB.out)⟩
  · rw [if_neg c4] at H
    have c4b0 : (t488 == 0) = false := beq_eq_false_iff_ne.mpr c4
    have c4b1 : (t488 != 0) = true := bne_iff_ne.mpr c4
    simp only [Option.some.injEq, Prod.mk.injEq] at H
    obtain ⟨rfl, rfl⟩ := H
    go_enter Try.func38, Try.ntmps38
    go_wp2_with (first | ((with_reducible refine gate_dst (N := 3) rfl ?_); refine box_event ?hg (N := 3) ?hd (cs := #[.int .i64 a1_0, .int .i64 a1_1]) (t := 23) ?hr ?_; (case hd => rfl); (case hg => rfl); (case hr => first | (go_simp; done) | (go_simp; rfl)); intro gb487 hg w26 hbox hb; have n0_ := Aside0.mk (below_step (by repeat (first | (with_reducible first | exact HB.out | apply below_alloc | apply pw_below_drewN | apply below_drew1) | exact HB.out)) hb); have n1_ := Aside0.mk (hbox); have n2_ := Aside0.mk ((by rw [hg]; exact (below_size (by repeat (first | (with_reducible first | exact HB.out | apply below_alloc | apply pw_below_drewN | apply below_drew1) | exact HB.out))) : w.heap.size ≤ gb487)); have n3_ := Aside0.mk ((by rw [hg]; exact (below_size (by repeat (first | (with_reducible first | exact HB.out | apply below_alloc | apply pw_below_drewN | apply below_drew1) | exact HB.out))) : w.heap.size ≤ gb487)); clear HB; have HB := n0_; have BK487 := n1_; have GW487 := n2_; have GE487 := n3_; clear n0_ n1_ n2_ n3_; clear hb hbox hg) | ((with_reducible refine gate_callee (f := 94) rfl ?_); refine goesL_ (some 10) rfl rfl Try.func94 (by kernel_rfl) rfl #[.slice A0 l0.length c0, .int .i64 3] rfl (by (try simp only [List.map_toArray, List.map_cons, List.map_nil]); first | done | rfl | (simp only [List.length_drop, List.length_take]; rfl)) ?_; (with_reducible refine (boundstoneref02_points.calls k _ _ l0 3 t488 _ ?side1 ?side2 A3.out).mono ?_); (case side1 => repeat (first | exact (Kd.C_below HR0.out HB.out) | (with_reducible refine Kd.C_alloc ?_ _) | (with_reducible refine Kd.C_drewN ?_ _) | (with_reducible refine Kd.C_drew ?_))); (case side2 => exact HC0.out); rintro e w27 ⟨rfl, hb⟩; refine ⟨_, rfl, ?_⟩; have n0_ := Aside0.mk (blk_below (g := gb487) (o := .cells #[.int .i64 a1_0, .int .i64 a1_1] 23 (0, 0)) (by (with_reducible repeat (first | refine blk_drewN ?_ _ | refine blk_drew ?_ | refine blk_alloc ?_ _)); exact BK487.out) hb); have n1_ := Aside0.mk (below_step (by repeat (first | (with_reducible first | exact HB.out | apply below_alloc | apply pw_below_drewN | apply below_drew1 | refine below_set ?_ GE487.out) | exact HB.out)) hb); clear BK487; clear HB; have BK487 := n0_; have HB := n1_; clear n0_ n1_; (try clear hb); (try clear hb2); (try clear hk); (try clear hi)))
    go_ret2
    exact ⟨by first | rfl | (simp [errW_none, errW_some] <;> rfl) | (simp [*, errW_none, errW_some] <;> rfl), by repeat (first | (with_reducible first | exact HB.out | apply below_alloc | apply pw_below_drewN | apply below_drew1 | refine below_set ?_ GE487.out) | exact HB.out)⟩
end Go.Proofs.Ytckaejgamfllfaa.G
end

section
namespace Go.Proofs.Ytckaejgamfllfaa.G
open Go.RowKit Go.Proofs.YtckaejgamfllfaaW.PrintWords Go.Proofs.YtckaejgamfllfaaW.PrintLast Go.Proofs.YtckaejgamfllfaaW.PrintMore
attribute [local go_sem] max2_int min2_int max_two min_two max_three min_three max_four min_four
set_option linter.unusedVariables false
set_option linter.unusedSimpArgs false
def boundstonelaw02_PlaneRingsAsSpecified.f (k : Nat) (l0 : List (S23)) (a1_0 : Int) (a1_1 : Int) : Option (Bool) := (boundstonelaw02_few.f l0).bind fun t493 => (if t493 = true then ((plane_Area.f k l0).bind fun bt495 => ((boundstoneref02_Area.f k l0).bind fun bt497 => ((plane_Simple.f k l0).bind fun bt499 => ((boundstoneref02_Simple.f k l0).bind fun bt501 => ((plane_Winding.f k l0 a1_0 a1_1).bind fun bt503 => ((boundstoneref02_Winding.f k l0 a1_0 a1_1).bind fun bt505 => ((plane_Where.f k l0 a1_0 a1_1).bind fun bt507 => ((boundstoneref02_Where.f k l0 a1_0 a1_1).bind fun bt509 => ((boundstonelaw02_sanity.f k).bind fun t511 => (if t511 = true then (if bt495.1 = bt497.1 then (if bt495.2 = bt497.2 then (if (bt499.1 == bt501.1) = true then (if bt499.2 = bt501.2 then (if bt503.1 = bt505.1 then (if bt503.2 = bt505.2 then (if bt507.1 = bt509.1 then (some (bt507.2 == bt509.2)) else (none)) else (none)) else (none)) else (none)) else (none)) else (none)) else (none)) else (none))))))))))) else ((boundstonelaw02_sanity.f k).bind fun t494 => (some t494)))
set_option maxHeartbeats 8000000 in
set_option maxRecDepth 100000 in
theorem boundstonelaw02_PlaneRingsAsSpecified.calls (k : Nat) (A0 : Option Addr) (c0 : Nat) (l0 : List (S23)) (a1_0 : Int) (a1_1 : Int) (r : Bool) (w : World) (hr0 : Kd.C k23 w A0 l0.length l0) (hc0 : l0.length ≤ c0) (h : boundstonelaw02_PlaneRingsAsSpecified.f k l0 a1_0 a1_1 = some r) :
    Calls Try.prog 7 #[.slice A0 l0.length c0, .agg #[.int .i64 a1_0, .int .i64 a1_1]] w fun e w' => e = .returned (.bool r) ∧ Below w.heap.size w w' := by
  have hu23 := Try.underlying23
  have HR0 := Aside0.mk hr0
  have HC0 := Aside0.mk hc0
  clear hr0 hc0
  have HB := Aside0.mk (Below.refl w.heap.size w)
  have H : ((boundstonelaw02_few.f l0).bind fun t493 => (if t493 = true then ((plane_Area.f k l0).bind fun bt495 => ((boundstoneref02_Area.f k l0).bind fun bt497 => ((plane_Simple.f k l0).bind fun bt499 => ((boundstoneref02_Simple.f k l0).bind fun bt501 => ((plane_Winding.f k l0 a1_0 a1_1).bind fun bt503 => ((boundstoneref02_Winding.f k l0 a1_0 a1_1).bind fun bt505 => ((plane_Where.f k l0 a1_0 a1_1).bind fun bt507 => ((boundstoneref02_Where.f k l0 a1_0 a1_1).bind fun bt509 => ((boundstonelaw02_sanity.f k).bind fun t511 => (if t511 = true then (if bt495.1 = bt497.1 then (if bt495.2 = bt497.2 then (if (bt499.1 == bt501.1) = true then (if bt499.2 = bt501.2 then (if bt503.1 = bt505.1 then (if bt503.2 = bt505.2 then (if bt507.1 = bt509.1 then (some (bt507.2 == bt509.2)) else (none)) else (none)) else (none)) else (none)) else (none)) else (none)) else (none)) else (none))))))))))) else ((boundstonelaw02_sanity.f k).bind fun t494 => (some t494)))) = some r := h
  clear h
  replace H := Option.bind_eq_some_iff.mp H
  obtain ⟨t493, A30, H⟩ := H
  try dsimp only at H
  have A3 := Aside0.mk A30
  clear A30
  by_cases c4 : t493 = true
  · subst c4
    have H1 : ((plane_Area.f k l0).bind fun bt495 => ((boundstoneref02_Area.f k l0).bind fun bt497 => ((plane_Simple.f k l0).bind fun bt499 => ((boundstoneref02_Simple.f k l0).bind fun bt501 => ((plane_Winding.f k l0 a1_0 a1_1).bind fun bt503 => ((boundstoneref02_Winding.f k l0 a1_0 a1_1).bind fun bt505 => ((plane_Where.f k l0 a1_0 a1_1).bind fun bt507 => ((boundstoneref02_Where.f k l0 a1_0 a1_1).bind fun bt509 => ((boundstonelaw02_sanity.f k).bind fun t511 => (if t511 = true then (if bt495.1 = bt497.1 then (if bt495.2 = bt497.2 then (if (bt499.1 == bt501.1) = true then (if bt499.2 = bt501.2 then (if bt503.1 = bt505.1 then (if bt503.2 = bt505.2 then (if bt507.1 = bt509.1 then (some (bt507.2 == bt509.2)) else (none)) else (none)) else (none)) else (none)) else (none)) else (none)) else (none)) else (none))))))))))) = some r := by rw [if_pos rfl] at H; exact H
    clear H
    have H := H1
    clear H1
    replace H := Option.bind_eq_some_iff.mp H
    obtain ⟨⟨t495, t496⟩, A50, H⟩ := H
    try dsimp only at H
    have A5 := Aside0.mk A50
    clear A50
    replace H := Option.bind_eq_some_iff.mp H
    obtain ⟨⟨t497, t498⟩, A60, H⟩ := H
    try dsimp only at H
    have A6 := Aside0.mk A60
    clear A60
    replace H := Option.bind_eq_some_iff.mp H
    obtain ⟨⟨t499, t500⟩, A70, H⟩ := H
    try dsimp only at H
    have A7 := Aside0.mk A70
    clear A70
    replace H := Option.bind_eq_some_iff.mp H
    obtain ⟨⟨t501, t502⟩, A80, H⟩ := H
    try dsimp only at H
    have A8 := Aside0.mk A80
    clear A80
    replace H := Option.bind_eq_some_iff.mp H
    obtain ⟨⟨t503, t504⟩, A90, H⟩ := H
    try dsimp only at H
    have A9 := Aside0.mk A90
    clear A90
    replace H := Option.bind_eq_some_iff.mp H
    obtain ⟨⟨t505, t506⟩, A100, H⟩ := H
    try dsimp only at H
    have A10 := Aside0.mk A100
    clear A100
    replace H := Option.bind_eq_some_iff.mp H
    obtain ⟨⟨t507, t508⟩, A110, H⟩ := H
    try dsimp only at H
    have A11 := Aside0.mk A110
    clear A110
    replace H := Option.bind_eq_some_iff.mp H
    obtain ⟨⟨t509, t510⟩, A120, H⟩ := H
    replace H : ((boundstonelaw02_sanity.f k).bind fun t511 => (if t511 = true then (if t495 = t497 then (if t496 = t498 then (if (t499 == t501) = true then (if t500 = t502 then (if t503 = t505 then (if t504 = t506 then (if t507 = t509 then (some (t508 == t510)) else (none)) else (none)) else (none)) else (none)) else (none)) else (none)) else (none)) else (none))) = some r := H
    have A12 := Aside0.mk A120
    clear A120
    replace H := Option.bind_eq_some_iff.mp H
    obtain ⟨t511, A130, H⟩ := H
    replace H : (if t511 = true then (if t495 = t497 then (if t496 = t498 then (if (t499 == t501) = true then (if t500 = t502 then (if t503 = t505 then (if t504 = t506 then (if t507 = t509 then (some (t508 == t510)) else (none)) else (none)) else (none)) else (none)) else (none)) else (none)) else (none)) else (none)) = some r := H
    have A13 := Aside0.mk A130
    clear A130
    by_cases c14 : t511 = true
    · subst c14
      have H1 : (if t495 = t497 then (if t496 = t498 then (if (t499 == t501) = true then (if t500 = t502 then (if t503 = t505 then (if t504 = t506 then (if t507 = t509 then (some (t508 == t510)) else (none)) else (none)) else (none)) else (none)) else (none)) else (none)) else (none)) = some r := by rw [if_pos rfl] at H; exact H
      clear H
      have H := H1
      clear H1
      by_cases c15 : t495 = t497
      · rw [if_pos c15] at H
        have c15b0 : (t495 == t497) = true := beq_iff_eq.mpr c15
        have c15b1 : (t495 != t497) = false := bne_eq_false_iff_eq.mpr c15
        clear c15
        by_cases c16 : t496 = t498
        · rw [if_pos c16] at H
          have c16b0 : (t496 == t498) = true := beq_iff_eq.mpr c16
          have c16b1 : (t496 != t498) = false := bne_eq_false_iff_eq.mpr c16
          clear c16
          by_cases c17 : (t499 == t501) = true
          · rw [if_pos c17] at H
            have c17b0 : (t499 == t501) = true := c17
            (try (have c17b1 : decide (t499 = t501) = true := by simpa using c17))
            (try (have c17b2 : (t499 == t501) = true := by simpa using c17))
            clear c17
            by_cases c18 : t500 = t502
            · rw [if_pos c18] at H
              have c18b0 : (t500 == t502) = true := beq_iff_eq.mpr c18
              have c18b1 : (t500 != t502) = false := bne_eq_false_iff_eq.mpr c18
              clear c18
              by_cases c19 : t503 = t505
              · rw [if_pos c19] at H
                have c19b0 : (t503 == t505) = true := beq_iff_eq.mpr c19
                have c19b1 : (t503 != t505) = false := bne_eq_false_iff_eq.mpr c19
                clear c19
                by_cases c20 : t504 = t506
                · rw [if_pos c20] at H
                  have c20b0 : (t504 == t506) = true := beq_iff_eq.mpr c20
                  have c20b1 : (t504 != t506) = false := bne_eq_false_iff_eq.mpr c20
                  clear c20
                  by_cases c21 : t507 = t509
                  · rw [if_pos c21] at H
                    have c21b0 : (t507 == t509) = true := beq_iff_eq.mpr c21
                    have c21b1 : (t507 != t509) = false := bne_eq_false_iff_eq.mpr c21
                    clear c21
                    obtain rfl := Option.some.inj H
                    go_enter Try.func7, Try.ntmps7
                    go_wp2_with (first | ((with_reducible refine gate_dst (N := 3) rfl ?_); refine box_event ?hg (N := 3) ?hd (cs := #[.int .i64 a1_0, .int .i64 a1_1]) (t := 23) ?hr ?_; (case hd => rfl); (case hg => rfl); (case hr => first | (go_simp; done) | (go_simp; rfl)); intro gb492 hg w22 hbox hb; have n0_ := Aside0.mk (below_step (by repeat (first | (with_reducible first | exact HB.out | apply below_alloc | apply pw_below_drewN | apply below_drew1) | exact HB.out)) hb); have n1_ := Aside0.mk (hbox); have n2_ := Aside0.mk ((by rw [hg]; exact (below_size (by repeat (first | (with_reducible first | exact HB.out | apply below_alloc | apply pw_below_drewN | apply below_drew1) | exact HB.out))) : w.heap.size ≤ gb492)); have n3_ := Aside0.mk ((by rw [hg]; exact (below_size (by repeat (first | (with_reducible first | exact HB.out | apply below_alloc | apply pw_below_drewN | apply below_drew1) | exact HB.out))) : w.heap.size ≤ gb492)); clear HB; have HB := n0_; have BK492 := n1_; have GW492 := n2_; have GE492 := n3_; clear n0_ n1_ n2_ n3_; clear hb hbox hg) | ((with_reducible refine gate_callee (f := 30) rfl ?_); refine goesL_ (some 22) rfl rfl Try.func30 (by kernel_rfl) rfl #[.slice A0 l0.length c0] rfl (by (try simp only [List.map_toArray, List.map_cons, List.map_nil]); first | done | rfl | (simp only [List.length_drop, List.length_take]; rfl)) ?_; (with_reducible refine (boundstonelaw02_few.calls _ _ l0 true _ ?side1 ?side2 A3.out).mono ?_); (case side1 => repeat (first | exact (Kd.C_below HR0.out HB.out) | (with_reducible refine Kd.C_alloc ?_ _) | (with_reducible refine Kd.C_drewN ?_ _) | (with_reducible refine Kd.C_drew ?_))); (case side2 => exact HC0.out); rintro e w' ⟨rfl, ⟨nd, rfl⟩⟩; refine ⟨_, rfl, ?_⟩) | ((with_reducible refine gate_callee (f := 31) rfl ?_); refine goesL_ (some 27) rfl rfl Try.func31 (by kernel_rfl) rfl #[.slice A0 l0.length c0] rfl (by (try simp only [List.map_toArray, List.map_cons, List.map_nil]); first | done | rfl | (simp only [List.length_drop, List.length_take]; rfl)) ?_; (with_reducible refine (plane_Area.calls k _ _ l0 t495 t496 _ ?side1 ?side2 A5.out).mono ?_); (case side1 => repeat (first | exact (Kd.C_below HR0.out (by repeat (first | (with_reducible first | exact HB.out | apply below_alloc | apply pw_below_drewN | apply below_drew1 | refine below_set ?_ GE492.out) | exact HB.out))) | (with_reducible refine Kd.C_alloc ?_ _) | (with_reducible refine Kd.C_drewN ?_ _) | (with_reducible refine Kd.C_drew ?_))); (case side2 => exact HC0.out); rintro e w23 ⟨rfl, hb⟩; refine ⟨_, rfl, ?_⟩; have n0_ := Aside0.mk (blk_below (g := gb492) (o := .cells #[.int .i64 a1_0, .int .i64 a1_1] 23 (0, 0)) (by (with_reducible repeat (first | refine blk_drewN ?_ _ | refine blk_drew ?_ | refine blk_alloc ?_ _)); exact BK492.out) hb); have n1_ := Aside0.mk (below_step (by repeat (first | (with_reducible first | exact HB.out | apply below_alloc | apply pw_below_drewN | apply below_drew1 | refine below_set ?_ GE492.out) | exact HB.out)) hb); clear BK492; clear HB; have BK492 := n0_; have HB := n1_; clear n0_ n1_; (try clear hb); (try clear hb2); (try clear hk); (try clear hi)) | ((with_reducible refine gate_callee (f := 32) rfl ?_); refine goesL_ (some 32) rfl rfl Try.func32 (by kernel_rfl) rfl #[.slice A0 l0.length c0] rfl (by (try simp only [List.map_toArray, List.map_cons, List.map_nil]); first | done | rfl | (simp only [List.length_drop, List.length_take]; rfl)) ?_; (with_reducible refine (boundstoneref02_Area.calls k _ _ l0 t497 t498 _ ?side1 ?side2 A6.out).mono ?_); (case side1 => repeat (first | exact (Kd.C_below HR0.out HB.out) | (with_reducible refine Kd.C_alloc ?_ _) | (with_reducible refine Kd.C_drewN ?_ _) | (with_reducible refine Kd.C_drew ?_))); (case side2 => exact HC0.out); rintro e w24 ⟨rfl, hb⟩; refine ⟨_, rfl, ?_⟩; have n0_ := Aside0.mk (blk_below (g := gb492) (o := .cells #[.int .i64 a1_0, .int .i64 a1_1] 23 (0, 0)) (by (with_reducible repeat (first | refine blk_drewN ?_ _ | refine blk_drew ?_ | refine blk_alloc ?_ _)); exact BK492.out) hb); have n1_ := Aside0.mk (below_step (by repeat (first | (with_reducible first | exact HB.out | apply below_alloc | apply pw_below_drewN | apply below_drew1 | refine below_set ?_ GE492.out) | exact HB.out)) hb); clear BK492; clear HB; have BK492 := n0_; have HB := n1_; clear n0_ n1_; (try clear hb); (try clear hb2); (try clear hk); (try clear hi)) | ((with_reducible refine gate_callee (f := 33) rfl ?_); refine goesL_ (some 37) rfl rfl Try.func33 (by kernel_rfl) rfl #[.slice A0 l0.length c0] rfl (by (try simp only [List.map_toArray, List.map_cons, List.map_nil]); first | done | rfl | (simp only [List.length_drop, List.length_take]; rfl)) ?_; (with_reducible refine (plane_Simple.calls k _ _ l0 t499 t500 _ ?side1 ?side2 A7.out).mono ?_); (case side1 => repeat (first | exact (Kd.C_below HR0.out HB.out) | (with_reducible refine Kd.C_alloc ?_ _) | (with_reducible refine Kd.C_drewN ?_ _) | (with_reducible refine Kd.C_drew ?_))); (case side2 => exact HC0.out); rintro e w25 ⟨rfl, hb⟩; refine ⟨_, rfl, ?_⟩; have n0_ := Aside0.mk (blk_below (g := gb492) (o := .cells #[.int .i64 a1_0, .int .i64 a1_1] 23 (0, 0)) (by (with_reducible repeat (first | refine blk_drewN ?_ _ | refine blk_drew ?_ | refine blk_alloc ?_ _)); exact BK492.out) hb); have n1_ := Aside0.mk (below_step (by repeat (first | (with_reducible first | exact HB.out | apply below_alloc | apply pw_below_drewN | apply below_drew1 | refine below_set ?_ GE492.out) | exact HB.out)) hb); clear BK492; clear HB; have BK492 := n0_; have HB := n1_; clear n0_ n1_; (try clear hb); (try clear hb2); (try clear hk); (try clear hi)) | ((with_reducible refine gate_callee (f := 34) rfl ?_); refine goesL_ (some 42) rfl rfl Try.func34 (by kernel_rfl) rfl #[.slice A0 l0.length c0] rfl (by (try simp only [List.map_toArray, List.map_cons, List.map_nil]); first | done | rfl | (simp only [List.length_drop, List.length_take]; rfl)) ?_; (with_reducible refine (boundstoneref02_Simple.calls k _ _ l0 t501 t502 _ ?side1 ?side2 A8.out).mono ?_); (case side1 => repeat (first | exact (Kd.C_below HR0.out HB.out) | (with_reducible refine Kd.C_alloc ?_ _) | (with_reducible refine Kd.C_drewN ?_ _) | (with_reducible refine Kd.C_drew ?_))); (case side2 => exact HC0.out); rintro e w26 ⟨rfl, hb⟩; refine ⟨_, rfl, ?_⟩; have n0_ := Aside0.mk (blk_below (g := gb492) (o := .cells #[.int .i64 a1_0, .int .i64 a1_1] 23 (0, 0)) (by (with_reducible repeat (first | refine blk_drewN ?_ _ | refine blk_drew ?_ | refine blk_alloc ?_ _)); exact BK492.out) hb); have n1_ := Aside0.mk (below_step (by repeat (first | (with_reducible first | exact HB.out | apply below_alloc | apply pw_below_drewN | apply below_drew1 | refine below_set ?_ GE492.out) | exact HB.out)) hb); clear BK492; clear HB; have BK492 := n0_; have HB := n1_; clear n0_ n1_; (try clear hb); (try clear hb2); (try clear hk); (try clear hi); have hcz27_0 : w26.cell? ⟨gb492, 0, none⟩ = some (.int .i64 a1_0) := (blk_cell BK492.out 0).trans rfl; have hcz27_1 : w26.cell? ⟨gb492, 1, none⟩ = some (.int .i64 a1_1) := (blk_cell BK492.out 1).trans rfl; have hfz27_0 := blk_frozen BK492.out 0; have hfz27_1 := blk_frozen BK492.out 1) | ((with_reducible refine gate_callee (f := 35) rfl ?_); refine goesL_ (some 48) rfl rfl Try.func35 (by kernel_rfl) rfl #[.slice A0 l0.length c0, .agg #[.int .i64 a1_0, .int .i64 a1_1]] rfl (by (try simp only [List.map_toArray, List.map_cons, List.map_nil]); first | done | rfl | (simp only [List.length_drop, List.length_take]; rfl)) ?_; (with_reducible refine (plane_Winding.calls k _ _ l0 a1_0 a1_1 t503 t504 _ ?side1 ?side2 A9.out).mono ?_); (case side1 => repeat (first | exact (Kd.C_below HR0.out HB.out) | (with_reducible refine Kd.C_alloc ?_ _) | (with_reducible refine Kd.C_drewN ?_ _) | (with_reducible refine Kd.C_drew ?_))); (case side2 => exact HC0.out); rintro e w28 ⟨rfl, hb⟩; refine ⟨_, rfl, ?_⟩; have n0_ := Aside0.mk (blk_below (g := gb492) (o := .cells #[.int .i64 a1_0, .int .i64 a1_1] 23 (0, 0)) (by (with_reducible repeat (first | refine blk_drewN ?_ _ | refine blk_drew ?_ | refine blk_alloc ?_ _)); exact BK492.out) hb); have n1_ := Aside0.mk (below_step (by repeat (first | (with_reducible first | exact HB.out | apply below_alloc | apply pw_below_drewN | apply below_drew1 | refine below_set ?_ GE492.out) | exact HB.out)) hb); clear BK492; clear HB; have BK492 := n0_; have HB := n1_; clear n0_ n1_; (try clear hb); (try clear hb2); (try clear hk); (try clear hi); have hcz29_0 : w28.cell? ⟨gb492, 0, none⟩ = some (.int .i64 a1_0) := (blk_cell BK492.out 0).trans rfl; have hcz29_1 : w28.cell? ⟨gb492, 1, none⟩ = some (.int .i64 a1_1) := (blk_cell BK492.out 1).trans rfl; have hfz29_0 := blk_frozen BK492.out 0; have hfz29_1 := blk_frozen BK492.out 1) | ((with_reducible refine gate_callee (f := 36) rfl ?_); refine goesL_ (some 54) rfl rfl Try.func36 (by kernel_rfl) rfl #[.slice A0 l0.length c0, .agg #[.int .i64 a1_0, .int .i64 a1_1]] rfl (by (try simp only [List.map_toArray, List.map_cons, List.map_nil]); first | done | rfl | (simp only [List.length_drop, List.length_take]; rfl)) ?_; (with_reducible refine (boundstoneref02_Winding.calls k _ _ l0 a1_0 a1_1 t505 t506 _ ?side1 ?side2 A10.out).mono ?_); (case side1 => repeat (first | exact (Kd.C_below HR0.out HB.out) | (with_reducible refine Kd.C_alloc ?_ _) | (with_reducible refine Kd.C_drewN ?_ _) | (with_reducible refine Kd.C_drew ?_))); (case side2 => exact HC0.out); rintro e w30 ⟨rfl, hb⟩; refine ⟨_, rfl, ?_⟩; have n0_ := Aside0.mk (blk_below (g := gb492) (o := .cells #[.int .i64 a1_0, .int .i64 a1_1] 23 (0, 0)) (by (with_reducible repeat (first | refine blk_drewN ?_ _ | refine blk_drew ?_ | refine blk_alloc ?_ _)); exact BK492.out) hb); have n1_ := Aside0.mk (below_step (by repeat (first | (with_reducible first | exact HB.out | apply below_alloc | apply pw_below_drewN | apply below_drew1 | refine below_set ?_ GE492.out) | exact HB.out)) hb); clear BK492; clear HB; have BK492 := n0_; have HB := n1_; clear n0_ n1_; (try clear hb); (try clear hb2); (try clear hk); (try clear hi); have hcz31_0 : w30.cell? ⟨gb492, 0, none⟩ = some (.int .i64 a1_0) := (blk_cell BK492.out 0).trans rfl; have hcz31_1 : w30.cell? ⟨gb492, 1, none⟩ = some (.int .i64 a1_1) := (blk_cell BK492.out 1).trans rfl; have hfz31_0 := blk_frozen BK492.out 0; have hfz31_1 := blk_frozen BK492.out 1) | ((with_reducible refine gate_callee (f := 37) rfl ?_); refine goesL_ (some 60) rfl rfl Try.func37 (by kernel_rfl) rfl #[.slice A0 l0.length c0, .agg #[.int .i64 a1_0, .int .i64 a1_1]] rfl (by (try simp only [List.map_toArray, List.map_cons, List.map_nil]); first | done | rfl | (simp only [List.length_drop, List.length_take]; rfl)) ?_; (with_reducible refine (plane_Where.calls k _ _ l0 a1_0 a1_1 t507 t508 _ ?side1 ?side2 A11.out).mono ?_); (case side1 => repeat (first | exact (Kd.C_below HR0.out HB.out) | (with_reducible refine Kd.C_alloc ?_ _) | (with_reducible refine Kd.C_drewN ?_ _) | (with_reducible refine Kd.C_drew ?_))); (case side2 => exact HC0.out); rintro e w32 ⟨rfl, hb⟩; refine ⟨_, rfl, ?_⟩; have n0_ := Aside0.mk (blk_below (g := gb492) (o := .cells #[.int .i64 a1_0, .int .i64 a1_1] 23 (0, 0)) (by (with_reducible repeat (first | refine blk_drewN ?_ _ | refine blk_drew ?_ | refine blk_alloc ?_ _)); exact BK492.out) hb); have n1_ := Aside0.mk (below_step (by repeat (first | (with_reducible first | exact HB.out | apply below_alloc | apply pw_below_drewN | apply below_drew1 | refine below_set ?_ GE492.out) | exact HB.out)) hb); clear BK492; clear HB; have BK492 := n0_; have HB := n1_; clear n0_ n1_; (try clear hb); (try clear hb2); (try clear hk); (try clear hi); have hcz33_0 : w32.cell? ⟨gb492, 0, none⟩ = some (.int .i64 a1_0) := (blk_cell BK492.out 0).trans rfl; have hcz33_1 : w32.cell? ⟨gb492, 1, none⟩ = some (.int .i64 a1_1) := (blk_cell BK492.out 1).trans rfl; have hfz33_0 := blk_frozen BK492.out 0; have hfz33_1 := blk_frozen BK492.out 1) | ((with_reducible refine gate_callee (f := 38) rfl ?_); refine goesL_ (some 66) rfl rfl Try.func38 (by kernel_rfl) rfl #[.slice A0 l0.length c0, .agg #[.int .i64 a1_0, .int .i64 a1_1]] rfl (by (try simp only [List.map_toArray, List.map_cons, List.map_nil]); first | done | rfl | (simp only [List.length_drop, List.length_take]; rfl)) ?_; (with_reducible refine (boundstoneref02_Where.calls k _ _ l0 a1_0 a1_1 t509 t510 _ ?side1 ?side2 A12.out).mono ?_); (case side1 => repeat (first | exact (Kd.C_below HR0.out HB.out) | (with_reducible refine Kd.C_alloc ?_ _) | (with_reducible refine Kd.C_drewN ?_ _) | (with_reducible refine Kd.C_drew ?_))); (case side2 => exact HC0.out); rintro e w34 ⟨rfl, hb⟩; refine ⟨_, rfl, ?_⟩; have n0_ := Aside0.mk (blk_below (g := gb492) (o := .cells #[.int .i64 a1_0, .int .i64 a1_1] 23 (0, 0)) (by (with_reducible repeat (first | refine blk_drewN ?_ _ | refine blk_drew ?_ | refine blk_alloc ?_ _)); exact BK492.out) hb); have n1_ := Aside0.mk (below_step (by repeat (first | (with_reducible first | exact HB.out | apply below_alloc | apply pw_below_drewN | apply below_drew1 | refine below_set ?_ GE492.out) | exact HB.out)) hb); clear BK492; clear HB; have BK492 := n0_; have HB := n1_; clear n0_ n1_; (try clear hb); (try clear hb2); (try clear hk); (try clear hi)) | ((with_reducible refine gate_callee (f := 16) rfl ?_); refine goesL_ (some 69) rfl rfl Try.func16 (by kernel_rfl) rfl #[] rfl (by (try simp only [List.map_toArray, List.map_cons, List.map_nil]); first | done | rfl | (simp only [List.length_drop, List.length_take]; rfl)) ?_; (with_reducible refine (boundstonelaw02_sanity.calls k  true _ A13.out).mono ?_); rintro e w35 ⟨rfl, hb⟩; refine ⟨_, rfl, ?_⟩; have n0_ := Aside0.mk (blk_below (g := gb492) (o := .cells #[.int .i64 a1_0, .int .i64 a1_1] 23 (0, 0)) (by (with_reducible repeat (first | refine blk_drewN ?_ _ | refine blk_drew ?_ | refine blk_alloc ?_ _)); exact BK492.out) hb); have n1_ := Aside0.mk (below_step (by repeat (first | (with_reducible first | exact HB.out | apply below_alloc | apply pw_below_drewN | apply below_drew1 | refine below_set ?_ GE492.out) | exact HB.out)) hb); clear BK492; clear HB; have BK492 := n0_; have HB := n1_; clear n0_ n1_; (try clear hb); (try clear hb2); (try clear hk); (try clear hi)))
                    go_ret
                    exact ⟨by first | rfl | (simp [errW_none, errW_some] <;> rfl) | (simp [*, errW_none, errW_some] <;> rfl), by repeat (first | (with_reducible first | exact HB.out | apply below_alloc | apply pw_below_drewN | apply below_drew1 | refine below_set ?_ GE492.out) | exact HB.out)⟩
                  · rw [if_neg c21] at H
                    exact absurd H (by simp)
                · rw [if_neg c20] at H
                  exact absurd H (by simp)
              · rw [if_neg c19] at H
                exact absurd H (by simp)
            · rw [if_neg c18] at H
              exact absurd H (by simp)
          · rw [if_neg c17] at H
            exact absurd H (by simp)
        · rw [if_neg c16] at H
          exact absurd H (by simp)
      · rw [if_neg c15] at H
        exact absurd H (by simp)
    · replace c14 := Bool.eq_false_iff.mpr c14
      subst c14
      have H1 : (none) = some r := by rw [if_neg (show ¬ (false = true) by decide)] at H; exact H
      clear H
      have H := H1
      clear H1
      exact absurd H (by simp)
  · replace c4 := Bool.eq_false_iff.mpr c4
    subst c4
    have H1 : ((boundstonelaw02_sanity.f k).bind fun t494 => (some t494)) = some r := by rw [if_neg (show ¬ (false = true) by decide)] at H; exact H
    clear H
    have H := H1
    clear H1
    replace H := Option.bind_eq_some_iff.mp H
    obtain ⟨t494, A360, H⟩ := H
    replace H : (some t494) = some r := H
    have A36 := Aside0.mk A360
    clear A360
    obtain rfl := Option.some.inj H
    go_enter Try.func7, Try.ntmps7
    go_wp2_with (first | ((with_reducible refine gate_dst (N := 3) rfl ?_); refine box_event ?hg (N := 3) ?hd (cs := #[.int .i64 a1_0, .int .i64 a1_1]) (t := 23) ?hr ?_; (case hd => rfl); (case hg => rfl); (case hr => first | (go_simp; done) | (go_simp; rfl)); intro gb492 hg w37 hbox hb; have n0_ := Aside0.mk (below_step (by repeat (first | (with_reducible first | exact HB.out | apply below_alloc | apply pw_below_drewN | apply below_drew1) | exact HB.out)) hb); have n1_ := Aside0.mk (hbox); have n2_ := Aside0.mk ((by rw [hg]; exact (below_size (by repeat (first | (with_reducible first | exact HB.out | apply below_alloc | apply pw_below_drewN | apply below_drew1) | exact HB.out))) : w.heap.size ≤ gb492)); have n3_ := Aside0.mk ((by rw [hg]; exact (below_size (by repeat (first | (with_reducible first | exact HB.out | apply below_alloc | apply pw_below_drewN | apply below_drew1) | exact HB.out))) : w.heap.size ≤ gb492)); clear HB; have HB := n0_; have BK492 := n1_; have GW492 := n2_; have GE492 := n3_; clear n0_ n1_ n2_ n3_; clear hb hbox hg) | ((with_reducible refine gate_callee (f := 30) rfl ?_); refine goesL_ (some 22) rfl rfl Try.func30 (by kernel_rfl) rfl #[.slice A0 l0.length c0] rfl (by (try simp only [List.map_toArray, List.map_cons, List.map_nil]); first | done | rfl | (simp only [List.length_drop, List.length_take]; rfl)) ?_; (with_reducible refine (boundstonelaw02_few.calls _ _ l0 false _ ?side1 ?side2 A3.out).mono ?_); (case side1 => repeat (first | exact (Kd.C_below HR0.out HB.out) | (with_reducible refine Kd.C_alloc ?_ _) | (with_reducible refine Kd.C_drewN ?_ _) | (with_reducible refine Kd.C_drew ?_))); (case side2 => exact HC0.out); rintro e w' ⟨rfl, ⟨nd, rfl⟩⟩; refine ⟨_, rfl, ?_⟩) | ((with_reducible refine gate_callee (f := 16) rfl ?_); refine goesL_ (some 24) rfl rfl Try.func16 (by kernel_rfl) rfl #[] rfl (by (try simp only [List.map_toArray, List.map_cons, List.map_nil]); first | done | rfl | (simp only [List.length_drop, List.length_take]; rfl)) ?_; (with_reducible refine (boundstonelaw02_sanity.calls k  t494 _ A36.out).mono ?_); rintro e w38 ⟨rfl, hb⟩; refine ⟨_, rfl, ?_⟩; have n0_ := Aside0.mk (blk_below (g := gb492) (o := .cells #[.int .i64 a1_0, .int .i64 a1_1] 23 (0, 0)) (by (with_reducible repeat (first | refine blk_drewN ?_ _ | refine blk_drew ?_ | refine blk_alloc ?_ _)); exact BK492.out) hb); have n1_ := Aside0.mk (below_step (by repeat (first | (with_reducible first | exact HB.out | apply below_alloc | apply pw_below_drewN | apply below_drew1 | refine below_set ?_ GE492.out) | exact HB.out)) hb); clear BK492; clear HB; have BK492 := n0_; have HB := n1_; clear n0_ n1_; (try clear hb); (try clear hb2); (try clear hk); (try clear hi)))
    go_ret
    exact ⟨by first | rfl | (simp [errW_none, errW_some] <;> rfl) | (simp [*, errW_none, errW_some] <;> rfl), by repeat (first | (with_reducible first | exact HB.out | apply below_alloc | apply pw_below_drewN | apply below_drew1 | refine below_set ?_ GE492.out) | exact HB.out)⟩
end Go.Proofs.Ytckaejgamfllfaa.G
end

section
namespace Go.Proofs.Ytckaejgamfllfaa.G
set_option linter.unusedSimpArgs false
open Go.RowKit Go.Proofs.YtckaejgamfllfaaW.PrintWords Go.Proofs.YtckaejgamfllfaaW.PrintLast Go.Proofs.YtckaejgamfllfaaW.PrintMore
theorem rd_getD (l : List S23) (i : Nat) : rd_T23 l (i : Int) = l.getD i z23 := by
  unfold rd_T23; simp [z23]
theorem tmod_nat (a n : Nat) : Int.tmod (a : Int) (n : Int) = ((a % n : Nat) : Int) := by
  exact (Int.ofNat_tmod a n).symm
theorem edges_drop (l : List S23) {i : Nat} (h : i < l.length) : (edgesTo l l.length).drop i = edgeAt l i :: (edgesTo l l.length).drop (i + 1) := by
  have hl : i < (edgesTo l l.length).length := by rw [edgesTo_length]; exact h
  rw [List.drop_eq_getElem_cons hl]
  simp [edgesTo]
theorem edges_end (l : List S23) {i : Nat} (h : l.length ≤ i) : (edgesTo l l.length).drop i = [] := by
  rw [List.drop_eq_nil_iff, edgesTo_length]; exact h
theorem round_facts (l : List S23) (hl : l.length ≤ 1000) {i : Nat} (h : i < l.length) :
    wrap64 ((i : Int) + 1) = ((i + 1 : Nat) : Int) ∧ Int.tmod (((i + 1 : Nat) : Int)) (l.length : Int) = (((i + 1) % l.length : Nat) : Int) ∧
    (0 : Int) ≤ (((i + 1) % l.length : Nat) : Int) ∧ (((i + 1) % l.length : Nat) : Int) < (l.length : Int) ∧ ((l.length : Int) = 0) = False ∧ ((i : Int) < (l.length : Int)) = True ∧ ((0 : Int) ≤ (i : Int)) = True := by
  refine ⟨by rw [wrap_small (by omega) (by omega)]; simp, tmod_nat _ _, by omega, ?_, ?_, ?_, ?_⟩
  · have := Nat.mod_lt (i + 1) (show 0 < l.length by omega); omega
  · simp only [eq_iff_iff, iff_true, iff_false]; omega
  · simp only [eq_iff_iff, iff_true, iff_false]; omega
  · simp only [eq_iff_iff, iff_true, iff_false]; omega
theorem ref_along_l0 (p : S23) (l : List S23) (hl : l.length ≤ 1000) : ∀ (m i k : Nat), l.length - i = m → i ≤ l.length → m < k →
    boundstoneref02_along.l0 k l (i : Int) p.f0 p.f1 = some (bordOf p ((edgesTo l l.length).drop i)) := by
  intro m
  induction m with
  | zero =>
    intro i k hm hi hk
    obtain ⟨k, rfl⟩ : ∃ m, k = m + 1 := ⟨k - 1, by omega⟩
    simp only [boundstoneref02_along.l0]
    rw [if_neg (by omega), edges_end l (by omega)]; rfl
  | succ m ih =>
    intro i k hm hi hk
    obtain ⟨k, rfl⟩ : ∃ m, k = m + 1 := ⟨k - 1, by omega⟩
    obtain ⟨e1, e2, e3, e4, e5, e6, e7⟩ := round_facts l hl (i := i) (by omega)
    simp only [boundstoneref02_along.l0]
    simp only [e1, e2, e3, e4, e5, e6, e7, if_true, if_false, rd_getD]
    rw [ref_on_eq, edges_drop l (by omega)]
    simp only [Option.bind_some]
    cases ho : onP (l.getD i z23) (l.getD ((i + 1) % l.length) z23) p with
    | true => simp only [bordOf, edgeAt, List.any_cons, ho, Bool.true_or, if_true]
    | false =>
      rw [if_neg (by simp), ih (i + 1) k (by omega) (by omega) (by omega)]
      simp only [bordOf, edgeAt, List.any_cons, ho, Bool.false_or]
theorem ref_along_eq (p : S23) (l : List S23) (hl : l.length ≤ 1000) (k : Nat) (hk : l.length < k) : boundstoneref02_along.f k l p.f0 p.f1 = some (bordOf p (edgesTo l l.length)) := by
  have := ref_along_l0 p l hl l.length 0 k (by omega) (by omega) hk
  unfold boundstoneref02_along.f
  simpa using this
theorem area_l0 (l : List S23) (hl : l.length ≤ 1000) : ∀ (m i k : Nat) (acc : Int), l.length - i = m → i ≤ l.length → m < k →
    boundstoneref02_Area.l0 k l acc (i : Int) = some (((edgesTo l l.length).drop i).foldl areaStep acc, 0) := by
  intro m
  induction m with
  | zero =>
    intro i k acc hm hi hk
    obtain ⟨k, rfl⟩ : ∃ m, k = m + 1 := ⟨k - 1, by omega⟩
    simp only [boundstoneref02_Area.l0]
    rw [if_neg (by omega), edges_end l (by omega)]; rfl
  | succ m ih =>
    intro i k acc hm hi hk
    obtain ⟨k, rfl⟩ : ∃ m, k = m + 1 := ⟨k - 1, by omega⟩
    obtain ⟨e1, e2, e3, e4, e5, e6, e7⟩ := round_facts l hl (i := i) (by omega)
    simp only [boundstoneref02_Area.l0]
    simp only [e1, e2, e3, e4, e5, e6, e7, if_true, if_false, rd_getD]
    rw [edges_drop l (by omega), ih (i + 1) k _ (by omega) (by omega) (by omega)]
    simp only [List.foldl_cons]
    congr 3
    unfold areaStep edgeAt
    generalize (l.getD i z23).f0 * (l.getD ((i + 1) % l.length) z23).f1 = x
    generalize (l.getD ((i + 1) % l.length) z23).f0 * (l.getD i z23).f1 = y
    unfold wrap64
    omega
theorem ref_wind_j3 (k : Nat) (l : List S23) (acc x : Int) (b : Bool) (p : S23) : boundstoneref02_winding.j3 (k + 1) l acc x b p.f0 p.f1 = boundstoneref02_winding.l0 k l (if b then wrap64 (acc - 1) else acc) (wrap64 (x + 1)) p.f0 p.f1 := by
  simp only [boundstoneref02_winding.j3]
  cases b <;> simp
theorem wind_l0 (p : S23) (l : List S23) (hl : l.length ≤ 1000) : ∀ (m i k : Nat) (acc : Int), l.length - i = m → i ≤ l.length → 4 * m < k →
    boundstoneref02_winding.l0 k l acc (i : Int) p.f0 p.f1 = some (((edgesTo l l.length).drop i).foldl (windStep p) acc) := by
  intro m
  induction m with
  | zero =>
    intro i k acc hm hi hk
    obtain ⟨k, rfl⟩ : ∃ m, k = m + 1 := ⟨k - 1, by omega⟩
    simp only [boundstoneref02_winding.l0]
    rw [if_neg (by omega), edges_end l (by omega)]; rfl
  | succ m ih =>
    intro i k acc hm hi hk
    obtain ⟨k, rfl⟩ : ∃ m, k = m + 4 := ⟨k - 4, by omega⟩
    obtain ⟨e1, e2, e3, e4, e5, e6, e7⟩ := round_facts l hl (i := i) (by omega)
    simp only [boundstoneref02_winding.l0, boundstoneref02_winding.j1, boundstoneref02_winding.j2]
    simp only [e1, e2, e3, e4, e5, e6, e7, if_true, if_false, rd_getD, ref_twice_eq, Option.bind_some, ref_wind_j3]
    rw [edges_drop l (by omega)]
    have ih' := fun acc => ih (i + 1) k acc (by omega) (by omega) (by omega)
    simp only [ih', List.foldl_cons]
    generalize hx : l.getD i z23 = u
    generalize hy : l.getD ((i + 1) % l.length) z23 = v
    have hs : edgeAt l i = (i, u, v) := by unfold edgeAt; rw [hx, hy]
    rw [hs]
    unfold windStep
    by_cases h1 : u.f1 ≤ p.f1
    · have h2 : ¬ u.f1 > p.f1 := by omega
      by_cases h3 : v.f1 > p.f1
      · by_cases h4 : twW u v p > 0 <;> simp [h1, h2, h3, h4]
      · simp [h1, h2, h3]
    · have h2 : u.f1 > p.f1 := by omega
      by_cases h3 : v.f1 ≤ p.f1
      · by_cases h4 : twW u v p < 0 <;> simp [h1, h2, h3, h4]
      · simp [h1, h2, h3]
theorem ref_winding_eq (p : S23) (l : List S23) (hl : l.length ≤ 1000) (k : Nat) (hk : 4 * l.length < k) : boundstoneref02_winding.f k l p.f0 p.f1 = some (windOf p (edgesTo l l.length)) := by
  have := wind_l0 p l hl l.length 0 k 0 (by omega) (by omega) hk
  unfold boundstoneref02_winding.f windOf
  simpa using this
def adjP (n k i : Nat) : Prop := k + 1 = i ∨ (i + 1 = n ∧ k = 0)
def edgeA (l : List S23) (i : Nat) : S23 := l.getD i z23
def edgeB (l : List S23) (i : Nat) : S23 := l.getD ((i + 1) % l.length) z23
def pairP (l : List S23) (k i : Nat) : Prop :=
  (adjP l.length k i → meetP (edgeA l i) (edgeB l i) (edgeA l k) (edgeB l k) = 1) ∧ (¬ adjP l.length k i → meetP (edgeA l i) (edgeB l i) (edgeA l k) (edgeB l k) = 0)
def SimpleP (l : List S23) : Prop := (∀ i, i < l.length → edgeA l i ≠ edgeB l i) ∧ ∀ i, i < l.length → ∀ k, k < i → pairP l k i
theorem mem_edges (l : List S23) (x : Nat × S23 × S23) : x ∈ edgesTo l l.length ↔ ∃ i, i < l.length ∧ x = (i, edgeA l i, edgeB l i) := by
  unfold edgesTo
  rw [List.mem_map]
  constructor
  · rintro ⟨i, hi, rfl⟩; exact ⟨i, List.mem_range.1 hi, rfl⟩
  · rintro ⟨i, hi, rfl⟩; exact ⟨i, List.mem_range.2 hi, rfl⟩
theorem simpleP_iff (l : List S23) (h3 : 3 ≤ l.length) (hl : l.length ≤ 1000) : simpleP l = true ↔ SimpleP l := by
  unfold simpleP edgeOk SimpleP
  rw [List.all_eq_true]
  simp only [Bool.and_eq_true, Bool.not_eq_true', eqP_false, List.all_eq_true, mem_edges]
  constructor
  · intro h
    have h0 : ∀ i, i < l.length → edgeA l i ≠ edgeB l i := fun i hi => (h _ ⟨i, hi, rfl⟩).1
    refine ⟨h0, fun i hi k hk => ?_⟩
    have := (h _ ⟨k, by omega, rfl⟩).2 _ ⟨i, hi, rfl⟩
    unfold pairOk at this
    simp only at this
    rw [if_neg (by omega), if_neg (by rw [eqP_iff]; exact h0 i hi), wrap_small (by omega) (by omega)] at this
    unfold pairP adjP
    rw [meet_sym]
    split at this
    · rename_i h1
      split at this
      · cases this
      · rename_i h2
        refine ⟨fun _ => by simpa using this, fun hn => absurd (.inl (by omega)) hn⟩
    · rename_i h1
      split at this
      · rename_i h2
        refine ⟨fun _ => by simpa using this, fun hn => absurd (.inr (by omega)) hn⟩
      · rename_i h2
        refine ⟨fun hn => ?_, fun _ => by simpa using this⟩
        rcases hn with h | h
        · omega
        · exfalso; apply h2; omega
  · rintro ⟨h0, h⟩ x ⟨k, hk, rfl⟩
    refine ⟨h0 k hk, ?_⟩
    rintro y ⟨i, hi, rfl⟩
    unfold pairOk
    simp only
    split
    · rfl
    · rename_i hlt
      rw [if_neg (by rw [eqP_iff]; exact h0 i hi), wrap_small (by omega) (by omega)]
      obtain ⟨p1, p2⟩ := h i hi k (by omega)
      rw [meet_sym] at p1 p2
      unfold adjP at p1 p2
      split
      · rw [if_neg (by omega)]
        simpa using p1 (.inl (by omega))
      · split
        · simpa using p1 (.inr (by omega))
        · simpa using p2 (by omega)
theorem ref_simple_j3 (k : Nat) (l : List S23) (n x y m : Int) (b : Bool) : boundstoneref02_simple.j3 (k + 2) l n x y m b =
    if (if b then m = 1 else m = 0) then boundstoneref02_simple.l2 k l n x (wrap64 (y + 1)) else some false := by
  simp only [boundstoneref02_simple.j3, boundstoneref02_simple.j4]
  cases b with
  | true => by_cases h : m = 1 <;> simp [h]
  | false => by_cases h : m = 0 <;> simp [h]
instance (n k i : Nat) : Decidable (adjP n k i) := by unfold adjP; infer_instance
theorem pairP_iff (l : List S23) (k i : Nat) : pairP l k i ↔ (if (decide (adjP l.length k i)) = true then meetP (edgeA l i) (edgeB l i) (edgeA l k) (edgeB l k) = 1 else meetP (edgeA l i) (edgeB l i) (edgeA l k) (edgeB l k) = 0) := by
  unfold pairP
  by_cases h : adjP l.length k i <;> simp [h]
theorem simple_l2 (l : List S23) (hl : l.length ≤ 1000) (i : Nat) (hi : i < l.length) (F : Nat) (hF : 20 ≤ F) (Q : Prop)
    (next : ∀ k, F ≤ k → ∃ b, boundstoneref02_simple.l1 k l (l.length : Int) ((i + 1 : Nat) : Int) = some b ∧ (b = true ↔ Q)) :
    ∀ (m y k : Nat), i - y = m → y ≤ i → 3 * m + 1 + F ≤ k →
    ∃ b, boundstoneref02_simple.l2 k l (l.length : Int) (i : Int) (y : Int) = some b ∧ (b = true ↔ (∀ z, y ≤ z → z < i → pairP l z i) ∧ Q) := by
  intro m
  induction m with
  | zero =>
    intro y k hm hy hk
    obtain ⟨k, rfl⟩ : ∃ m, k = m + 1 := ⟨k - 1, by omega⟩
    obtain ⟨e1, e2, e3, e4, e5, e6, e7⟩ := round_facts l hl (i := i) (by omega)
    simp only [boundstoneref02_simple.l2]
    rw [if_neg (by omega), e1]
    obtain ⟨b, h1, h2⟩ := next k (by omega)
    refine ⟨b, h1, h2.trans ⟨fun q => ⟨fun z h1 h2 => by omega, q⟩, fun q => q.2⟩⟩
  | succ m ih =>
    intro y k hm hy hk
    obtain ⟨k, rfl⟩ : ∃ m, k = m + 3 := ⟨k - 3, by omega⟩
    have g : ((y : Int) < (i : Int)) = True := by simp only [eq_iff_iff, iff_true]; omega
    have hi' : i + 1 ≤ 1000 := by omega
    obtain ⟨b, h1, h2⟩ := ih (y + 1) k (by omega) (by omega) (by omega)
    have hy' : y < l.length := by omega
    have hk14 : 14 ≤ k + 2 := by omega
    have w1 : ((i : Int) + 1 = ((i + 1 : Nat) : Int)) := by omega
    obtain ⟨e1, e2, e3, e4, e5, e6, e7⟩ := round_facts l hl hi
    obtain ⟨f1, f2, f3, f4, f5, f6, f7⟩ := round_facts l hl hy'
    simp only [boundstoneref02_simple.l2]
    simp only [e1, e2, e3, e4, e5, e6, e7, f1, f2, f3, f4, f5, f6, f7, g, if_true, if_false, rd_getD]
    rw [ref_Meeting_eq _ _ _ _ _ hk14]
    clear e1 e2 e3 e4 e5 e6 e7 f2 f3 f4 f5 f6 f7
    simp only [Option.bind_some]
    have key : ∀ nx : Bool, nx = decide (adjP l.length y i) → ∃ b, boundstoneref02_simple.j3 (k + 2) l (l.length : Int) (i : Int) (y : Int) (meetP (l.getD i z23) (l.getD ((i + 1) % l.length) z23) (l.getD y z23) (l.getD ((y + 1) % l.length) z23)) nx = some b ∧
        (b = true ↔ (∀ z, y ≤ z → z < i → pairP l z i) ∧ Q) := by
      intro nx hnx
      rw [ref_simple_j3, f1]
      have hp := pairP_iff l y i
      rw [← hnx] at hp
      unfold edgeA edgeB at hp
      by_cases hc : pairP l y i
      · rw [if_pos (hp.1 hc)]
        refine ⟨b, h1, h2.trans ⟨fun q => ⟨fun z z1 z2 => ?_, q.2⟩, fun q => ⟨fun z z1 z2 => q.1 z (by omega) z2, q.2⟩⟩⟩
        rcases Nat.lt_or_ge y z with h | h
        · exact q.1 z h z2
        · have : z = y := by omega
          rw [this]; exact hc
      · rw [if_neg (fun h => hc (hp.2 h))]
        refine ⟨false, rfl, ⟨fun h => by (cases h), fun q => absurd (q.1 y (Nat.le_refl _) (by omega)) hc⟩⟩
    split
    · rename_i h
      exact key true (by symm; rw [decide_eq_true_eq]; exact .inl (by omega))
    · rename_i h
      split
      · rename_i h'
        refine key _ ?_
        rw [Bool.eq_iff_iff, decide_eq_true_eq, beq_iff_eq]
        unfold adjP
        omega
      · rename_i h'
        refine key false ?_
        symm
        rw [decide_eq_false_iff_not]
        unfold adjP
        omega
theorem simple_l1 (l : List S23) (hl : l.length ≤ 1000) : ∀ (m i k : Nat), l.length - i = m → i ≤ l.length → m * (3 * l.length + 2) + 21 ≤ k →
    ∃ b, boundstoneref02_simple.l1 k l (l.length : Int) (i : Int) = some b ∧ (b = true ↔ ∀ j, i ≤ j → j < l.length → ∀ z, z < j → pairP l z j) := by
  intro m
  induction m with
  | zero =>
    intro i k hm hi hk
    obtain ⟨k, rfl⟩ : ∃ m, k = m + 1 := ⟨k - 1, by omega⟩
    simp only [boundstoneref02_simple.l1]
    rw [if_neg (by omega)]
    exact ⟨true, rfl, ⟨fun _ j h1 h2 => by omega, fun _ => rfl⟩⟩
  | succ m ih =>
    intro i k hm hi hk
    obtain ⟨k, rfl⟩ : ∃ m, k = m + 1 := ⟨k - 1, by omega⟩
    simp only [boundstoneref02_simple.l1]
    rw [if_pos (by omega)]
    have hmm : (m + 1) * (3 * l.length + 2) = m * (3 * l.length + 2) + (3 * l.length + 2) := by rw [Nat.add_mul, Nat.one_mul]
    obtain ⟨b, h1, h2⟩ := simple_l2 l hl i (by omega) (m * (3 * l.length + 2) + 21) (by omega) _ (fun k hk => ih (i + 1) k (by omega) (by omega) hk) i 0 k (by omega) (by omega) (by omega)
    refine ⟨b, h1, h2.trans ⟨fun q j j1 j2 z z1 => ?_, fun q => ⟨fun z _ z2 => q i (Nat.le_refl _) (by omega) z z2, fun j j1 j2 => q j (by omega) j2⟩⟩⟩
    rcases Nat.lt_or_ge i j with h | h
    · exact q.2 j h j2 z z1
    · have : j = i := by omega
      subst this
      exact q.1 z (Nat.zero_le _) z1
theorem simple_l0 (l : List S23) (hl : l.length ≤ 1000) : ∀ (m i k : Nat), l.length - i = m → i ≤ l.length → m + l.length * (3 * l.length + 2) + 22 ≤ k →
    ∃ b, boundstoneref02_simple.l0 k l (l.length : Int) (i : Int) = some b ∧ (b = true ↔ (∀ j, i ≤ j → j < l.length → edgeA l j ≠ edgeB l j) ∧ ∀ j, j < l.length → ∀ z, z < j → pairP l z j) := by
  intro m
  induction m with
  | zero =>
    intro i k hm hi hk
    obtain ⟨k, rfl⟩ : ∃ m, k = m + 1 := ⟨k - 1, by omega⟩
    simp only [boundstoneref02_simple.l0]
    rw [if_neg (by omega)]
    obtain ⟨b, h1, h2⟩ := simple_l1 l hl l.length 0 k (by omega) (by omega) (by omega)
    exact ⟨b, h1, h2.trans ⟨fun q => ⟨fun j h1 h2 => by omega, fun j j2 => q j (Nat.zero_le _) j2⟩, fun q j _ j2 => q.2 j j2⟩⟩
  | succ m ih =>
    intro i k hm hi hk
    obtain ⟨k, rfl⟩ : ∃ m, k = m + 1 := ⟨k - 1, by omega⟩
    obtain ⟨e1, e2, e3, e4, e5, e6, e7⟩ := round_facts l hl (i := i) (by omega)
    simp only [boundstoneref02_simple.l0]
    simp only [e1, e2, e3, e4, e5, e6, e7, if_true, if_false, rd_getD]
    have hq : (((l.getD i z23).f0 == (l.getD ((i + 1) % l.length) z23).f0) && ((l.getD i z23).f1 == (l.getD ((i + 1) % l.length) z23).f1)) = eqP (edgeA l i) (edgeB l i) := rfl
    rw [hq]
    cases he : eqP (edgeA l i) (edgeB l i) with
    | true =>
      rw [if_pos rfl]
      rw [eqP_iff] at he
      exact ⟨false, rfl, ⟨fun h => by (cases h), fun q => absurd he (q.1 i (Nat.le_refl _) (by omega))⟩⟩
    | false =>
      rw [if_neg (by simp)]
      rw [eqP_false] at he
      obtain ⟨b, h1, h2⟩ := ih (i + 1) k (by omega) (by omega) (by omega)
      refine ⟨b, h1, h2.trans ⟨fun q => ⟨fun j j1 j2 => ?_, q.2⟩, fun q => ⟨fun j j1 j2 => q.1 j (by omega) j2, q.2⟩⟩⟩
      rcases Nat.lt_or_ge i j with h | h
      · exact q.1 j h j2
      · have : j = i := by omega
        rw [this]; exact he
theorem ref_simple_eq (l : List S23) (h3 : 3 ≤ l.length) (hl : l.length ≤ 1000) (k : Nat) (hk : l.length + l.length * (3 * l.length + 2) + 22 ≤ k) : boundstoneref02_simple.f k l = some (simpleP l) := by
  obtain ⟨b, h1, h2⟩ := simple_l0 l hl l.length 0 k (by omega) (by omega) hk
  have : b = simpleP l := by
    rw [Bool.eq_iff_iff, h2, simpleP_iff l h3 hl]
    unfold SimpleP
    exact ⟨fun q => ⟨fun j j2 => q.1 j (Nat.zero_le _) j2, q.2⟩, fun q => ⟨fun j _ j2 => q.1 j j2, q.2⟩⟩
  unfold boundstoneref02_simple.f
  rw [← this]; exact h1
def ringOk (l : List S23) : Int := if 3 ≤ l.length ∧ l.length ≤ 200 then (if l.all validP then 0 else 1) else 2
theorem ref_points_eq (l : List S23) (k : Nat) (hk : 202 ≤ k) : boundstoneref02_points.f k l 3 = some (ringOk l) := by
  obtain ⟨k, rfl⟩ : ∃ m, k = m + 1 := ⟨k - 1, by omega⟩
  unfold boundstoneref02_points.f ringOk
  simp only [boundstoneref02_points.j0]
  by_cases h1 : (l.length : Int) < 3
  · rw [if_pos h1]
    have h2 : ¬ (3 ≤ l.length ∧ l.length ≤ 200) := by omega
    simp [h2]
  · rw [if_neg h1]
    by_cases h2 : (l.length : Int) > 200
    · rw [if_pos (by simpa using h2), if_neg (by omega)]
    · rw [if_neg (by simpa using h2), if_pos (by omega), ref_valid_eq l (by omega) k (by omega)]
      cases l.all validP <;> rfl
theorem plane_ring_eq (l more : List S23) (k : Nat) (hk : 1 ≤ k) (hm : more.length ≤ 1000) : plane_ring.f k l more = some (if ringOk l = 0 then (if more.all validP then 0 else 1) else ringOk l) := by
  obtain ⟨k, rfl⟩ : ∃ m, k = m + 1 := ⟨k - 1, by omega⟩
  unfold plane_ring.f plane_within.f ringOk plane_valid.f
  simp only [plane_ring.j0]
  have a2 : more.length ≤ 9223372036854775806 := by omega
  by_cases h : 3 ≤ l.length ∧ l.length ≤ 200
  · have a1 : l.length ≤ 9223372036854775806 := by omega
    have h1 : (3 : Int) ≤ (l.length : Int) := by omega
    have h2 : (l.length : Int) ≤ 200 := by omega
    rw [if_pos h, if_pos h1, if_pos a1, if_pos a2]
    cases l.all validP <;> cases more.all validP <;> simp [h2]
  · rw [if_neg h]
    by_cases h1 : (3 : Int) ≤ (l.length : Int)
    · have h2 : ¬ (l.length : Int) ≤ 200 := by omega
      simp [h1, h2]
    · simp [h1]
def AreaP (l : List S23) : Int × Int := if ringOk l = 0 then (areaOf (edgesTo l l.length), 0) else (0, ringOk l)
def SimpP (l : List S23) : Bool × Int := if ringOk l = 0 then (simpleP l, 0) else (false, ringOk l)
def ringPt (l : List S23) (p : S23) : Int := if ringOk l = 0 then (if validP p then 0 else 1) else ringOk l
def WindP (l : List S23) (p : S23) : Int × Int := if ringPt l p = 0 then (if bordOf p (edgesTo l l.length) then (0, 4) else (windOf p (edgesTo l l.length), 0)) else (0, ringPt l p)
def whereP (l : List S23) (p : S23) : Int := if bordOf p (edgesTo l l.length) then 0 else if windOf p (edgesTo l l.length) = 0 then -1 else 1
def WhereP (l : List S23) (p : S23) : Int × Int := if ringPt l p = 0 then (if simpleP l then (whereP l p, 0) else (0, 4)) else (0, ringPt l p)
theorem ringOk_len {l : List S23} (h : ringOk l = 0) : 3 ≤ l.length ∧ l.length ≤ 200 ∧ l.all validP = true := by
  unfold ringOk at h
  split at h
  · rename_i h'
    split at h
    · rename_i h''; exact ⟨h'.1, h'.2, h''⟩
    · simp at h
  · simp at h
theorem ringPt_ring {l : List S23} {p : S23} (h : ringPt l p = 0) : ringOk l = 0 ∧ validP p = true := by
  unfold ringPt at h
  split at h
  · rename_i h'
    split at h
    · rename_i h''; exact ⟨h', h''⟩
    · simp at h
  · rename_i h'; exact absurd h h'
theorem plane_ring_none (l : List S23) (k : Nat) (hk : 1 ≤ k) : plane_ring.f k l [] = some (ringOk l) := by
  rw [plane_ring_eq l [] k hk (by simp)]
  simp only [List.all_nil, if_true]
  congr 1
  split
  · rename_i h; exact h.symm
  · rfl
theorem plane_ring_one (l : List S23) (p : S23) (k : Nat) (hk : 1 ≤ k) : plane_ring.f k l [⟨p.f0, p.f1⟩] = some (ringPt l p) := by
  rw [plane_ring_eq l _ k hk (by simp)]
  simp only [List.all_cons, List.all_nil, Bool.and_true]
  rfl
theorem plane_Area_eq (l : List S23) (k : Nat) (hk : 1 ≤ k) : plane_Area.f k l = some (AreaP l) := by
  unfold plane_Area.f AreaP
  rw [plane_ring_none l k hk]
  simp only [Option.bind_some]
  split
  · rename_i h
    have := (ringOk_len h).2.1
    unfold plane_area.f
    rw [if_pos (by omega)]; rfl
  · rfl
theorem plane_Simple_eq (l : List S23) (k : Nat) (hk : 1 ≤ k) : plane_Simple.f k l = some (SimpP l) := by
  unfold plane_Simple.f SimpP
  rw [plane_ring_none l k hk]
  simp only [Option.bind_some]
  split
  · rename_i h
    have := (ringOk_len h).2.1
    unfold plane_simple.f
    rw [if_pos (by omega)]; rfl
  · rfl
theorem plane_border_eq (l : List S23) (p : S23) (h : l.length ≤ 200) : plane_border.f l p.f0 p.f1 = some (bordOf p (edgesTo l l.length)) := by
  unfold plane_border.f
  rw [if_pos (by omega)]
theorem plane_winding_eq (l : List S23) (p : S23) (h : l.length ≤ 200) : plane_winding.f l p.f0 p.f1 = some (windOf p (edgesTo l l.length)) := by
  unfold plane_winding.f
  rw [if_pos (by omega)]
theorem plane_Winding_eq (l : List S23) (p : S23) (k : Nat) (hk : 1 ≤ k) : plane_Winding.f k l p.f0 p.f1 = some (WindP l p) := by
  unfold plane_Winding.f WindP
  rw [plane_ring_one l p k hk]
  simp only [Option.bind_some]
  split
  · rename_i h
    have := (ringOk_len (ringPt_ring h).1).2.1
    rw [plane_border_eq l p this, plane_winding_eq l p this]
    simp only [Option.bind_some]
    split <;> rfl
  · rfl
theorem plane_where_eq (l : List S23) (p : S23) (h : l.length ≤ 200) : plane_where.f l p.f0 p.f1 = some (whereP l p) := by
  unfold plane_where.f whereP
  rw [plane_border_eq l p h, plane_winding_eq l p h]
  simp only [Option.bind_some]
  split
  · rfl
  · split <;> rfl
theorem plane_Where_eq (l : List S23) (p : S23) (k : Nat) (hk : 1 ≤ k) : plane_Where.f k l p.f0 p.f1 = some (WhereP l p) := by
  unfold plane_Where.f WhereP
  rw [plane_ring_one l p k hk]
  simp only [Option.bind_some]
  split
  · rename_i h
    have := (ringOk_len (ringPt_ring h).1).2.1
    unfold plane_simple.f
    rw [if_pos (by omega)]
    simp only [Option.bind_some]
    rw [plane_where_eq l p this]
    split <;> rfl
  · rfl
theorem fuel_simple {l : List S23} (h : l.length ≤ 200) : l.length + l.length * (3 * l.length + 2) + 22 ≤ 121000 := by
  have : l.length * (3 * l.length + 2) ≤ 200 * 602 := Nat.mul_le_mul h (by omega)
  omega
theorem ref_Area_eq (l : List S23) (k : Nat) (hk : 202 ≤ k) : boundstoneref02_Area.f k l = some (AreaP l) := by
  unfold boundstoneref02_Area.f AreaP
  rw [ref_points_eq l k hk]
  simp only [Option.bind_some]
  split
  · rename_i h
    have := (ringOk_len h).2.1
    have e := area_l0 l (by omega) l.length 0 k 0 (by omega) (by omega) (by omega)
    simpa [areaOf] using e
  · rfl
theorem ref_Simple_eq (l : List S23) (k : Nat) (hk : 121000 ≤ k) : boundstoneref02_Simple.f k l = some (SimpP l) := by
  unfold boundstoneref02_Simple.f SimpP
  rw [ref_points_eq l k (by omega)]
  simp only [Option.bind_some]
  split
  · rename_i h
    obtain ⟨h3, h4, _⟩ := ringOk_len h
    have := fuel_simple h4
    rw [ref_simple_eq l h3 (by omega) k (by omega)]; rfl
  · rfl
theorem ref_Winding_eq (l : List S23) (p : S23) (k : Nat) (hk : 1000 ≤ k) : boundstoneref02_Winding.f k l p.f0 p.f1 = some (WindP l p) := by
  unfold boundstoneref02_Winding.f WindP ringPt
  rw [ref_points_eq l k (by omega), ref_Valid_eq]
  simp only [Option.bind_some, show (⟨p.f0, p.f1⟩ : S23) = p from rfl]
  by_cases h : ringOk l = 0
  · obtain ⟨h3, h4, _⟩ := ringOk_len h
    rw [if_pos h, if_pos h, ref_along_eq p l (by omega) k (by omega), ref_winding_eq p l (by omega) k (by omega)]
    simp only [Option.bind_some]
    cases validP p
    · simp
    · simp only [if_true]
      split <;> rfl
  · rw [if_neg h, if_neg h, if_neg h]
theorem ref_Where_eq (l : List S23) (p : S23) (k : Nat) (hk : 121000 ≤ k) : boundstoneref02_Where.f k l p.f0 p.f1 = some (WhereP l p) := by
  unfold boundstoneref02_Where.f boundstoneref02_where.f WhereP ringPt whereP
  rw [ref_points_eq l k (by omega), ref_Valid_eq]
  simp only [Option.bind_some, show (⟨p.f0, p.f1⟩ : S23) = p from rfl]
  by_cases h : ringOk l = 0
  · obtain ⟨h3, h4, _⟩ := ringOk_len h
    have := fuel_simple h4
    rw [if_pos h, if_pos h, ref_simple_eq l h3 (by omega) k (by omega), ref_along_eq p l (by omega) k (by omega), ref_winding_eq p l (by omega) k (by omega)]
    simp only [Option.bind_some]
    cases validP p
    · simp
    · simp only [if_true]
      cases simpleP l
      · simp
      · simp only [if_true]
        cases bordOf p (edgesTo l l.length)
        · simp only [Bool.false_eq_true, if_false]; split <;> rfl
        · rfl
  · rw [if_neg h, if_neg h, if_neg h]
end Go.Proofs.Ytckaejgamfllfaa.G
end

section
namespace Go.Proofs.Ytckaejgamfllfaa.G
open Go.RowKit Go.Proofs.YtckaejgamfllfaaW.PrintWords Go.Proofs.YtckaejgamfllfaaW.PrintLast Go.Proofs.YtckaejgamfllfaaW.PrintMore
theorem few_eq (l : List S23) : ∃ b, boundstonelaw02_few.f l = some b := by
  unfold boundstonelaw02_few.f
  split <;> exact ⟨_, rfl⟩
theorem law5 (l : List S23) (p : S23) : boundstonelaw02_PlaneRingsAsSpecified.f 121000 l p.f0 p.f1 = some true := by
  unfold boundstonelaw02_PlaneRingsAsSpecified.f
  obtain ⟨b, hb⟩ := few_eq l
  rw [hb, sanity_mono (by omega)]
  cases b with
  | false => rfl
  | true =>
    rw [plane_Area_eq l _ (by omega), ref_Area_eq l _ (by omega), plane_Simple_eq l _ (by omega), ref_Simple_eq l _ (by omega), plane_Winding_eq l p _ (by omega), ref_Winding_eq l p _ (by omega), plane_Where_eq l p _ (by omega), ref_Where_eq l p _ (by omega)]
    simp
end Go.Proofs.Ytckaejgamfllfaa.G
end
