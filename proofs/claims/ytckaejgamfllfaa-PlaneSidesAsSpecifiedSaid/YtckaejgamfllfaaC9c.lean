/- Part 3 of 4. -/
import Derived.Test.YtckaejgamfllfaaC9b
section
namespace Go.Proofs.Ytckaejgamfllfaa.G
open Go.RowKit Go.Proofs.YtckaejgamfllfaaW.PrintWords Go.Proofs.YtckaejgamfllfaaW.PrintLast Go.Proofs.YtckaejgamfllfaaW.PrintMore
attribute [local go_sem] max2_int min2_int max_two min_two max_three min_three max_four min_four
set_option linter.unusedVariables false
set_option linter.unusedSimpArgs false
def boundstoneref02_Proper.f (a0_0 : Int) (a0_1 : Int) (a0_2 : Int) (a0_3 : Int) : Option (Bool) := (boundstoneref02_Valid.f a0_0 a0_2).bind fun t560 => ((boundstoneref02_Valid.f a0_1 a0_3).bind fun t561 => (if t560 = true then (if t561 = true then (if a0_0 ≤ a0_1 then (some (decide (a0_2 ≤ a0_3))) else (some false)) else (some false)) else (some false)))
set_option maxHeartbeats 8000000 in
set_option maxRecDepth 100000 in
theorem boundstoneref02_Proper.calls (a0_0 : Int) (a0_1 : Int) (a0_2 : Int) (a0_3 : Int) (r : Bool) (w : World) (h : boundstoneref02_Proper.f a0_0 a0_1 a0_2 a0_3 = some r) :
    Calls Try.prog 65 #[.agg #[.int .i64 a0_0, .int .i64 a0_1, .int .i64 a0_2, .int .i64 a0_3]] w fun e w' => e = .returned (.bool r) ∧ Below w.heap.size w w' := by
  have hu52 := Try.underlying52
  have hu23 := Try.underlying23
  have HB := Aside0.mk (Below.refl w.heap.size w)
  have H : ((boundstoneref02_Valid.f a0_0 a0_2).bind fun t560 => ((boundstoneref02_Valid.f a0_1 a0_3).bind fun t561 => (if t560 = true then (if t561 = true then (if a0_0 ≤ a0_1 then (some (decide (a0_2 ≤ a0_3))) else (some false)) else (some false)) else (some false)))) = some r := h
  clear h
  replace H := Option.bind_eq_some_iff.mp H
  obtain ⟨t560, A20, H⟩ := H
  replace H : ((boundstoneref02_Valid.f a0_1 a0_3).bind fun t561 => (if t560 = true then (if t561 = true then (if a0_0 ≤ a0_1 then (some (decide (a0_2 ≤ a0_3))) else (some false)) else (some false)) else (some false))) = some r := H
  have A2 := Aside0.mk A20
  clear A20
  replace H := Option.bind_eq_some_iff.mp H
  obtain ⟨t561, A30, H⟩ := H
  replace H : (if t560 = true then (if t561 = true then (if a0_0 ≤ a0_1 then (some (decide (a0_2 ≤ a0_3))) else (some false)) else (some false)) else (some false)) = some r := H
  have A3 := Aside0.mk A30
  clear A30
  by_cases c4 : t560 = true
  · subst c4
    have H1 : (if t561 = true then (if a0_0 ≤ a0_1 then (some (decide (a0_2 ≤ a0_3))) else (some false)) else (some false)) = some r := by rw [if_pos rfl] at H; exact H
    clear H
    have H := H1
    clear H1
    by_cases c5 : t561 = true
    · subst c5
      have H1 : (if a0_0 ≤ a0_1 then (some (decide (a0_2 ≤ a0_3))) else (some false)) = some r := by rw [if_pos rfl] at H; exact H
      clear H
      have H := H1
      clear H1
      by_cases c6 : a0_0 ≤ a0_1
      · rw [if_pos c6] at H
        have c6b0 : decide (a0_0 ≤ a0_1) = true := decide_eq_true c6
        clear c6
        obtain rfl := Option.some.inj H
        go_enter Try.func65, Try.ntmps65
        go_wp2_with (first | ((with_reducible refine gate_dst (N := 1) rfl ?_); refine box_event ?hg (N := 1) ?hd (cs := #[.int .i64 a0_0, .int .i64 a0_1, .int .i64 a0_2, .int .i64 a0_3]) (t := 52) ?hr ?_; (case hd => rfl); (case hg => rfl); (case hr => first | (go_simp; done) | (go_simp; rfl)); intro gb559 hg w7 hbox hb; have n0_ := Aside0.mk (below_step (by repeat (first | (with_reducible first | exact HB.out | apply below_alloc | apply pw_below_drewN | apply below_drew1) | exact HB.out)) hb); have n1_ := Aside0.mk (hbox); have n2_ := Aside0.mk ((by rw [hg]; exact (below_size (by repeat (first | (with_reducible first | exact HB.out | apply below_alloc | apply pw_below_drewN | apply below_drew1) | exact HB.out))) : w.heap.size ≤ gb559)); have n3_ := Aside0.mk ((by rw [hg]; exact (below_size (by repeat (first | (with_reducible first | exact HB.out | apply below_alloc | apply pw_below_drewN | apply below_drew1) | exact HB.out))) : w.heap.size ≤ gb559)); clear HB; have HB := n0_; have BK559 := n1_; have GW559 := n2_; have GE559 := n3_; clear n0_ n1_ n2_ n3_; clear hb hbox hg; have hcz8_0 : w7.cell? ⟨gb559, 0, none⟩ = some (.int .i64 a0_0) := (blk_cell BK559.out 0).trans rfl; have hcz8_1 : w7.cell? ⟨gb559, 1, none⟩ = some (.int .i64 a0_1) := (blk_cell BK559.out 1).trans rfl; have hcz8_2 : w7.cell? ⟨gb559, 2, none⟩ = some (.int .i64 a0_2) := (blk_cell BK559.out 2).trans rfl; have hcz8_3 : w7.cell? ⟨gb559, 3, none⟩ = some (.int .i64 a0_3) := (blk_cell BK559.out 3).trans rfl; have hfz8_0 := blk_frozen BK559.out 0; have hfz8_1 := blk_frozen BK559.out 1; have hfz8_2 := blk_frozen BK559.out 2; have hfz8_3 := blk_frozen BK559.out 3) | ((with_reducible refine gate_callee (f := 18) rfl ?_); refine goesL_ (some 12) rfl rfl Try.func18 (by kernel_rfl) rfl #[.agg #[.int .i64 a0_0, .int .i64 a0_2]] rfl (by (try simp only [List.map_toArray, List.map_cons, List.map_nil]); first | done | rfl | (simp only [List.length_drop, List.length_take]; rfl)) ?_; (with_reducible refine (boundstoneref02_Valid.calls a0_0 a0_2 true _ A2.out).mono ?_); rintro e w9 ⟨rfl, hb⟩; refine ⟨_, rfl, ?_⟩; have n0_ := Aside0.mk (blk_below (g := gb559) (o := .cells #[.int .i64 a0_0, .int .i64 a0_1, .int .i64 a0_2, .int .i64 a0_3] 52 (0, 0)) (by (with_reducible repeat (first | refine blk_drewN ?_ _ | refine blk_drew ?_ | refine blk_alloc ?_ _)); exact BK559.out) hb); have n1_ := Aside0.mk (below_step (by repeat (first | (with_reducible first | exact HB.out | apply below_alloc | apply pw_below_drewN | apply below_drew1 | refine below_set ?_ GE559.out) | exact HB.out)) hb); clear BK559; clear HB; have BK559 := n0_; have HB := n1_; clear n0_ n1_; (try clear hb); (try clear hb2); (try clear hk); (try clear hi); have hcz10_0 : w9.cell? ⟨gb559, 0, none⟩ = some (.int .i64 a0_0) := (blk_cell BK559.out 0).trans rfl; have hcz10_1 : w9.cell? ⟨gb559, 1, none⟩ = some (.int .i64 a0_1) := (blk_cell BK559.out 1).trans rfl; have hcz10_2 : w9.cell? ⟨gb559, 2, none⟩ = some (.int .i64 a0_2) := (blk_cell BK559.out 2).trans rfl; have hcz10_3 : w9.cell? ⟨gb559, 3, none⟩ = some (.int .i64 a0_3) := (blk_cell BK559.out 3).trans rfl; have hfz10_0 := blk_frozen BK559.out 0; have hfz10_1 := blk_frozen BK559.out 1; have hfz10_2 := blk_frozen BK559.out 2; have hfz10_3 := blk_frozen BK559.out 3) | ((with_reducible refine gate_callee (f := 18) rfl ?_); refine goesL_ (some 20) rfl rfl Try.func18 (by kernel_rfl) rfl #[.agg #[.int .i64 a0_1, .int .i64 a0_3]] rfl (by (try simp only [List.map_toArray, List.map_cons, List.map_nil]); first | done | rfl | (simp only [List.length_drop, List.length_take]; rfl)) ?_; (with_reducible refine (boundstoneref02_Valid.calls a0_1 a0_3 true _ A3.out).mono ?_); rintro e w11 ⟨rfl, hb⟩; refine ⟨_, rfl, ?_⟩; have n0_ := Aside0.mk (blk_below (g := gb559) (o := .cells #[.int .i64 a0_0, .int .i64 a0_1, .int .i64 a0_2, .int .i64 a0_3] 52 (0, 0)) (by (with_reducible repeat (first | refine blk_drewN ?_ _ | refine blk_drew ?_ | refine blk_alloc ?_ _)); exact BK559.out) hb); have n1_ := Aside0.mk (below_step (by repeat (first | (with_reducible first | exact HB.out | apply below_alloc | apply pw_below_drewN | apply below_drew1 | refine below_set ?_ GE559.out) | exact HB.out)) hb); clear BK559; clear HB; have BK559 := n0_; have HB := n1_; clear n0_ n1_; (try clear hb); (try clear hb2); (try clear hk); (try clear hi); have hcz12_0 : w11.cell? ⟨gb559, 0, none⟩ = some (.int .i64 a0_0) := (blk_cell BK559.out 0).trans rfl; have hcz12_1 : w11.cell? ⟨gb559, 1, none⟩ = some (.int .i64 a0_1) := (blk_cell BK559.out 1).trans rfl; have hcz12_2 : w11.cell? ⟨gb559, 2, none⟩ = some (.int .i64 a0_2) := (blk_cell BK559.out 2).trans rfl; have hcz12_3 : w11.cell? ⟨gb559, 3, none⟩ = some (.int .i64 a0_3) := (blk_cell BK559.out 3).trans rfl; have hfz12_0 := blk_frozen BK559.out 0; have hfz12_1 := blk_frozen BK559.out 1; have hfz12_2 := blk_frozen BK559.out 2; have hfz12_3 := blk_frozen BK559.out 3))
        go_ret
        exact ⟨by first | rfl | (simp [errW_none, errW_some] <;> rfl) | (simp [*, errW_none, errW_some] <;> rfl), by repeat (first | (with_reducible first | exact HB.out | apply below_alloc | apply pw_below_drewN | apply below_drew1 | refine below_set ?_ GE559.out) | exact HB.out)⟩
      · rw [if_neg c6] at H
        have c6b0 : decide (a0_0 ≤ a0_1) = false := decide_eq_false c6
        clear c6
        obtain rfl := Option.some.inj H
        go_enter Try.func65, Try.ntmps65
        go_wp2_with (first | ((with_reducible refine gate_dst (N := 1) rfl ?_); refine box_event ?hg (N := 1) ?hd (cs := #[.int .i64 a0_0, .int .i64 a0_1, .int .i64 a0_2, .int .i64 a0_3]) (t := 52) ?hr ?_; (case hd => rfl); (case hg => rfl); (case hr => first | (go_simp; done) | (go_simp; rfl)); intro gb559 hg w13 hbox hb; have n0_ := Aside0.mk (below_step (by repeat (first | (with_reducible first | exact HB.out | apply below_alloc | apply pw_below_drewN | apply below_drew1) | exact HB.out)) hb); have n1_ := Aside0.mk (hbox); have n2_ := Aside0.mk ((by rw [hg]; exact (below_size (by repeat (first | (with_reducible first | exact HB.out | apply below_alloc | apply pw_below_drewN | apply below_drew1) | exact HB.out))) : w.heap.size ≤ gb559)); have n3_ := Aside0.mk ((by rw [hg]; exact (below_size (by repeat (first | (with_reducible first | exact HB.out | apply below_alloc | apply pw_below_drewN | apply below_drew1) | exact HB.out))) : w.heap.size ≤ gb559)); clear HB; have HB := n0_; have BK559 := n1_; have GW559 := n2_; have GE559 := n3_; clear n0_ n1_ n2_ n3_; clear hb hbox hg; have hcz14_0 : w13.cell? ⟨gb559, 0, none⟩ = some (.int .i64 a0_0) := (blk_cell BK559.out 0).trans rfl; have hcz14_1 : w13.cell? ⟨gb559, 1, none⟩ = some (.int .i64 a0_1) := (blk_cell BK559.out 1).trans rfl; have hcz14_2 : w13.cell? ⟨gb559, 2, none⟩ = some (.int .i64 a0_2) := (blk_cell BK559.out 2).trans rfl; have hcz14_3 : w13.cell? ⟨gb559, 3, none⟩ = some (.int .i64 a0_3) := (blk_cell BK559.out 3).trans rfl; have hfz14_0 := blk_frozen BK559.out 0; have hfz14_1 := blk_frozen BK559.out 1; have hfz14_2 := blk_frozen BK559.out 2; have hfz14_3 := blk_frozen BK559.out 3) | ((with_reducible refine gate_callee (f := 18) rfl ?_); refine goesL_ (some 12) rfl rfl Try.func18 (by kernel_rfl) rfl #[.agg #[.int .i64 a0_0, .int .i64 a0_2]] rfl (by (try simp only [List.map_toArray, List.map_cons, List.map_nil]); first | done | rfl | (simp only [List.length_drop, List.length_take]; rfl)) ?_; (with_reducible refine (boundstoneref02_Valid.calls a0_0 a0_2 true _ A2.out).mono ?_); rintro e w15 ⟨rfl, hb⟩; refine ⟨_, rfl, ?_⟩; have n0_ := Aside0.mk (blk_below (g := gb559) (o := .cells #[.int .i64 a0_0, .int .i64 a0_1, .int .i64 a0_2, .int .i64 a0_3] 52 (0, 0)) (by (with_reducible repeat (first | refine blk_drewN ?_ _ | refine blk_drew ?_ | refine blk_alloc ?_ _)); exact BK559.out) hb); have n1_ := Aside0.mk (below_step (by repeat (first | (with_reducible first | exact HB.out | apply below_alloc | apply pw_below_drewN | apply below_drew1 | refine below_set ?_ GE559.out) | exact HB.out)) hb); clear BK559; clear HB; have BK559 := n0_; have HB := n1_; clear n0_ n1_; (try clear hb); (try clear hb2); (try clear hk); (try clear hi); have hcz16_0 : w15.cell? ⟨gb559, 0, none⟩ = some (.int .i64 a0_0) := (blk_cell BK559.out 0).trans rfl; have hcz16_1 : w15.cell? ⟨gb559, 1, none⟩ = some (.int .i64 a0_1) := (blk_cell BK559.out 1).trans rfl; have hcz16_2 : w15.cell? ⟨gb559, 2, none⟩ = some (.int .i64 a0_2) := (blk_cell BK559.out 2).trans rfl; have hcz16_3 : w15.cell? ⟨gb559, 3, none⟩ = some (.int .i64 a0_3) := (blk_cell BK559.out 3).trans rfl; have hfz16_0 := blk_frozen BK559.out 0; have hfz16_1 := blk_frozen BK559.out 1; have hfz16_2 := blk_frozen BK559.out 2; have hfz16_3 := blk_frozen BK559.out 3) | ((with_reducible refine gate_callee (f := 18) rfl ?_); refine goesL_ (some 20) rfl rfl Try.func18 (by kernel_rfl) rfl #[.agg #[.int .i64 a0_1, .int .i64 a0_3]] rfl (by (try simp only [List.map_toArray, List.map_cons, List.map_nil]); first | done | rfl | (simp only [List.length_drop, List.length_take]; rfl)) ?_; (with_reducible refine (boundstoneref02_Valid.calls a0_1 a0_3 true _ A3.out).mono ?_); rintro e w17 ⟨rfl, hb⟩; refine ⟨_, rfl, ?_⟩; have n0_ := Aside0.mk (blk_below (g := gb559) (o := .cells #[.int .i64 a0_0, .int .i64 a0_1, .int .i64 a0_2, .int .i64 a0_3] 52 (0, 0)) (by (with_reducible repeat (first | refine blk_drewN ?_ _ | refine blk_drew ?_ | refine blk_alloc ?_ _)); exact BK559.out) hb); have n1_ := Aside0.mk (below_step (by repeat (first | (with_reducible first | exact HB.out | apply below_alloc | apply pw_below_drewN | apply below_drew1 | refine below_set ?_ GE559.out) | exact HB.out)) hb); clear BK559; clear HB; have BK559 := n0_; have HB := n1_; clear n0_ n1_; (try clear hb); (try clear hb2); (try clear hk); (try clear hi); have hcz18_0 : w17.cell? ⟨gb559, 0, none⟩ = some (.int .i64 a0_0) := (blk_cell BK559.out 0).trans rfl; have hcz18_1 : w17.cell? ⟨gb559, 1, none⟩ = some (.int .i64 a0_1) := (blk_cell BK559.out 1).trans rfl; have hcz18_2 : w17.cell? ⟨gb559, 2, none⟩ = some (.int .i64 a0_2) := (blk_cell BK559.out 2).trans rfl; have hcz18_3 : w17.cell? ⟨gb559, 3, none⟩ = some (.int .i64 a0_3) := (blk_cell BK559.out 3).trans rfl; have hfz18_0 := blk_frozen BK559.out 0; have hfz18_1 := blk_frozen BK559.out 1; have hfz18_2 := blk_frozen BK559.out 2; have hfz18_3 := blk_frozen BK559.out 3))
        go_ret
        exact ⟨by first | rfl | (simp [errW_none, errW_some] <;> rfl) | (simp [*, errW_none, errW_some] <;> rfl), by repeat (first | (with_reducible first | exact HB.out | apply below_alloc | apply pw_below_drewN | apply below_drew1 | refine below_set ?_ GE559.out) | exact HB.out)⟩
    · replace c5 := Bool.eq_false_iff.mpr c5
      subst c5
      have H1 : (some false) = some r := by rw [if_neg (show ¬ (false = true) by decide)] at H; exact H
      clear H
      have H := H1
      clear H1
      obtain rfl := Option.some.inj H
      go_enter Try.func65, Try.ntmps65
      go_wp2_with (first | ((with_reducible refine gate_dst (N := 1) rfl ?_); refine box_event ?hg (N := 1) ?hd (cs := #[.int .i64 a0_0, .int .i64 a0_1, .int .i64 a0_2, .int .i64 a0_3]) (t := 52) ?hr ?_; (case hd => rfl); (case hg => rfl); (case hr => first | (go_simp; done) | (go_simp; rfl)); intro gb559 hg w19 hbox hb; have n0_ := Aside0.mk (below_step (by repeat (first | (with_reducible first | exact HB.out | apply below_alloc | apply pw_below_drewN | apply below_drew1) | exact HB.out)) hb); have n1_ := Aside0.mk (hbox); have n2_ := Aside0.mk ((by rw [hg]; exact (below_size (by repeat (first | (with_reducible first | exact HB.out | apply below_alloc | apply pw_below_drewN | apply below_drew1) | exact HB.out))) : w.heap.size ≤ gb559)); have n3_ := Aside0.mk ((by rw [hg]; exact (below_size (by repeat (first | (with_reducible first | exact HB.out | apply below_alloc | apply pw_below_drewN | apply below_drew1) | exact HB.out))) : w.heap.size ≤ gb559)); clear HB; have HB := n0_; have BK559 := n1_; have GW559 := n2_; have GE559 := n3_; clear n0_ n1_ n2_ n3_; clear hb hbox hg; have hcz20_0 : w19.cell? ⟨gb559, 0, none⟩ = some (.int .i64 a0_0) := (blk_cell BK559.out 0).trans rfl; have hcz20_1 : w19.cell? ⟨gb559, 1, none⟩ = some (.int .i64 a0_1) := (blk_cell BK559.out 1).trans rfl; have hcz20_2 : w19.cell? ⟨gb559, 2, none⟩ = some (.int .i64 a0_2) := (blk_cell BK559.out 2).trans rfl; have hcz20_3 : w19.cell? ⟨gb559, 3, none⟩ = some (.int .i64 a0_3) := (blk_cell BK559.out 3).trans rfl; have hfz20_0 := blk_frozen BK559.out 0; have hfz20_1 := blk_frozen BK559.out 1; have hfz20_2 := blk_frozen BK559.out 2; have hfz20_3 := blk_frozen BK559.out 3) | ((with_reducible refine gate_callee (f := 18) rfl ?_); refine goesL_ (some 12) rfl rfl Try.func18 (by kernel_rfl) rfl #[.agg #[.int .i64 a0_0, .int .i64 a0_2]] rfl (by (try simp only [List.map_toArray, List.map_cons, List.map_nil]); first | done | rfl | (simp only [List.length_drop, List.length_take]; rfl)) ?_; (with_reducible refine (boundstoneref02_Valid.calls a0_0 a0_2 true _ A2.out).mono ?_); rintro e w21 ⟨rfl, hb⟩; refine ⟨_, rfl, ?_⟩; have n0_ := Aside0.mk (blk_below (g := gb559) (o := .cells #[.int .i64 a0_0, .int .i64 a0_1, .int .i64 a0_2, .int .i64 a0_3] 52 (0, 0)) (by (with_reducible repeat (first | refine blk_drewN ?_ _ | refine blk_drew ?_ | refine blk_alloc ?_ _)); exact BK559.out) hb); have n1_ := Aside0.mk (below_step (by repeat (first | (with_reducible first | exact HB.out | apply below_alloc | apply pw_below_drewN | apply below_drew1 | refine below_set ?_ GE559.out) | exact HB.out)) hb); clear BK559; clear HB; have BK559 := n0_; have HB := n1_; clear n0_ n1_; (try clear hb); (try clear hb2); (try clear hk); (try clear hi); have hcz22_0 : w21.cell? ⟨gb559, 0, none⟩ = some (.int .i64 a0_0) := (blk_cell BK559.out 0).trans rfl; have hcz22_1 : w21.cell? ⟨gb559, 1, none⟩ = some (.int .i64 a0_1) := (blk_cell BK559.out 1).trans rfl; have hcz22_2 : w21.cell? ⟨gb559, 2, none⟩ = some (.int .i64 a0_2) := (blk_cell BK559.out 2).trans rfl; have hcz22_3 : w21.cell? ⟨gb559, 3, none⟩ = some (.int .i64 a0_3) := (blk_cell BK559.out 3).trans rfl; have hfz22_0 := blk_frozen BK559.out 0; have hfz22_1 := blk_frozen BK559.out 1; have hfz22_2 := blk_frozen BK559.out 2; have hfz22_3 := blk_frozen BK559.out 3) | ((with_reducible refine gate_callee (f := 18) rfl ?_); refine goesL_ (some 20) rfl rfl Try.func18 (by kernel_rfl) rfl #[.agg #[.int .i64 a0_1, .int .i64 a0_3]] rfl (by (try simp only [List.map_toArray, List.map_cons, List.map_nil]); first | done | rfl | (simp only [List.length_drop, List.length_take]; rfl)) ?_; (with_reducible refine (boundstoneref02_Valid.calls a0_1 a0_3 false _ A3.out).mono ?_); rintro e w23 ⟨rfl, hb⟩; refine ⟨_, rfl, ?_⟩; have n0_ := Aside0.mk (blk_below (g := gb559) (o := .cells #[.int .i64 a0_0, .int .i64 a0_1, .int .i64 a0_2, .int .i64 a0_3] 52 (0, 0)) (by (with_reducible repeat (first | refine blk_drewN ?_ _ | refine blk_drew ?_ | refine blk_alloc ?_ _)); exact BK559.out) hb); have n1_ := Aside0.mk (below_step (by repeat (first | (with_reducible first | exact HB.out | apply below_alloc | apply pw_below_drewN | apply below_drew1 | refine below_set ?_ GE559.out) | exact HB.out)) hb); clear BK559; clear HB; have BK559 := n0_; have HB := n1_; clear n0_ n1_; (try clear hb); (try clear hb2); (try clear hk); (try clear hi)))
      go_ret
      exact ⟨by first | rfl | (simp [errW_none, errW_some] <;> rfl) | (simp [*, errW_none, errW_some] <;> rfl), by repeat (first | (with_reducible first | exact HB.out | apply below_alloc | apply pw_below_drewN | apply below_drew1 | refine below_set ?_ GE559.out) | exact HB.out)⟩
  · replace c4 := Bool.eq_false_iff.mpr c4
    subst c4
    have H1 : (some false) = some r := by rw [if_neg (show ¬ (false = true) by decide)] at H; exact H
    clear H
    have H := H1
    clear H1
    obtain rfl := Option.some.inj H
    go_enter Try.func65, Try.ntmps65
    go_wp2_with (first | ((with_reducible refine gate_dst (N := 1) rfl ?_); refine box_event ?hg (N := 1) ?hd (cs := #[.int .i64 a0_0, .int .i64 a0_1, .int .i64 a0_2, .int .i64 a0_3]) (t := 52) ?hr ?_; (case hd => rfl); (case hg => rfl); (case hr => first | (go_simp; done) | (go_simp; rfl)); intro gb559 hg w24 hbox hb; have n0_ := Aside0.mk (below_step (by repeat (first | (with_reducible first | exact HB.out | apply below_alloc | apply pw_below_drewN | apply below_drew1) | exact HB.out)) hb); have n1_ := Aside0.mk (hbox); have n2_ := Aside0.mk ((by rw [hg]; exact (below_size (by repeat (first | (with_reducible first | exact HB.out | apply below_alloc | apply pw_below_drewN | apply below_drew1) | exact HB.out))) : w.heap.size ≤ gb559)); have n3_ := Aside0.mk ((by rw [hg]; exact (below_size (by repeat (first | (with_reducible first | exact HB.out | apply below_alloc | apply pw_below_drewN | apply below_drew1) | exact HB.out))) : w.heap.size ≤ gb559)); clear HB; have HB := n0_; have BK559 := n1_; have GW559 := n2_; have GE559 := n3_; clear n0_ n1_ n2_ n3_; clear hb hbox hg; have hcz25_0 : w24.cell? ⟨gb559, 0, none⟩ = some (.int .i64 a0_0) := (blk_cell BK559.out 0).trans rfl; have hcz25_1 : w24.cell? ⟨gb559, 1, none⟩ = some (.int .i64 a0_1) := (blk_cell BK559.out 1).trans rfl; have hcz25_2 : w24.cell? ⟨gb559, 2, none⟩ = some (.int .i64 a0_2) := (blk_cell BK559.out 2).trans rfl; have hcz25_3 : w24.cell? ⟨gb559, 3, none⟩ = some (.int .i64 a0_3) := (blk_cell BK559.out 3).trans rfl; have hfz25_0 := blk_frozen BK559.out 0; have hfz25_1 := blk_frozen BK559.out 1; have hfz25_2 := blk_frozen BK559.out 2; have hfz25_3 := blk_frozen BK559.out 3) | ((with_reducible refine gate_callee (f := 18) rfl ?_); refine goesL_ (some 12) rfl rfl Try.func18 (by kernel_rfl) rfl #[.agg #[.int .i64 a0_0, .int .i64 a0_2]] rfl (by (try simp only [List.map_toArray, List.map_cons, List.map_nil]); first | done | rfl | (simp only [List.length_drop, List.length_take]; rfl)) ?_; (with_reducible refine (boundstoneref02_Valid.calls a0_0 a0_2 false _ A2.out).mono ?_); rintro e w26 ⟨rfl, hb⟩; refine ⟨_, rfl, ?_⟩; have n0_ := Aside0.mk (blk_below (g := gb559) (o := .cells #[.int .i64 a0_0, .int .i64 a0_1, .int .i64 a0_2, .int .i64 a0_3] 52 (0, 0)) (by (with_reducible repeat (first | refine blk_drewN ?_ _ | refine blk_drew ?_ | refine blk_alloc ?_ _)); exact BK559.out) hb); have n1_ := Aside0.mk (below_step (by repeat (first | (with_reducible first | exact HB.out | apply below_alloc | apply pw_below_drewN | apply below_drew1 | refine below_set ?_ GE559.out) | exact HB.out)) hb); clear BK559; clear HB; have BK559 := n0_; have HB := n1_; clear n0_ n1_; (try clear hb); (try clear hb2); (try clear hk); (try clear hi); have hcz27_0 : w26.cell? ⟨gb559, 0, none⟩ = some (.int .i64 a0_0) := (blk_cell BK559.out 0).trans rfl; have hcz27_1 : w26.cell? ⟨gb559, 1, none⟩ = some (.int .i64 a0_1) := (blk_cell BK559.out 1).trans rfl; have hcz27_2 : w26.cell? ⟨gb559, 2, none⟩ = some (.int .i64 a0_2) := (blk_cell BK559.out 2).trans rfl; have hcz27_3 : w26.cell? ⟨gb559, 3, none⟩ = some (.int .i64 a0_3) := (blk_cell BK559.out 3).trans rfl; have hfz27_0 := blk_frozen BK559.out 0; have hfz27_1 := blk_frozen BK559.out 1; have hfz27_2 := blk_frozen BK559.out 2; have hfz27_3 := blk_frozen BK559.out 3) | ((with_reducible refine gate_callee (f := 18) rfl ?_); refine goesL_ (some 20) rfl rfl Try.func18 (by kernel_rfl) rfl #[.agg #[.int .i64 a0_1, .int .i64 a0_3]] rfl (by (try simp only [List.map_toArray, List.map_cons, List.map_nil]); first | done | rfl | (simp only [List.length_drop, List.length_take]; rfl)) ?_; (with_reducible refine (boundstoneref02_Valid.calls a0_1 a0_3 t561 _ A3.out).mono ?_); rintro e w28 ⟨rfl, hb⟩; refine ⟨_, rfl, ?_⟩; have n0_ := Aside0.mk (blk_below (g := gb559) (o := .cells #[.int .i64 a0_0, .int .i64 a0_1, .int .i64 a0_2, .int .i64 a0_3] 52 (0, 0)) (by (with_reducible repeat (first | refine blk_drewN ?_ _ | refine blk_drew ?_ | refine blk_alloc ?_ _)); exact BK559.out) hb); have n1_ := Aside0.mk (below_step (by repeat (first | (with_reducible first | exact HB.out | apply below_alloc | apply pw_below_drewN | apply below_drew1 | refine below_set ?_ GE559.out) | exact HB.out)) hb); clear BK559; clear HB; have BK559 := n0_; have HB := n1_; clear n0_ n1_; (try clear hb); (try clear hb2); (try clear hk); (try clear hi)))
    go_ret
    exact ⟨by first | rfl | (simp [errW_none, errW_some] <;> rfl) | (simp [*, errW_none, errW_some] <;> rfl), by repeat (first | (with_reducible first | exact HB.out | apply below_alloc | apply pw_below_drewN | apply below_drew1 | refine below_set ?_ GE559.out) | exact HB.out)⟩
end Go.Proofs.Ytckaejgamfllfaa.G
end

section
namespace Go.Proofs.Ytckaejgamfllfaa.G
open Go.RowKit Go.Proofs.YtckaejgamfllfaaW.PrintWords Go.Proofs.YtckaejgamfllfaaW.PrintLast Go.Proofs.YtckaejgamfllfaaW.PrintMore
attribute [local go_sem] max2_int min2_int max_two min_two max_three min_three max_four min_four
set_option linter.unusedVariables false
set_option linter.unusedSimpArgs false
mutual
def boundstoneref02_Sides.l0 : Nat → List (S23) → Int → Int → Int → Int → Int → Int → Int → Int → Option (Int × Int)
  | 0, _, _, _, _, _, _, _, _, _ => none
  | k + 1, x0, x9, x10, x11, x12, x563000, x563001, x563002, x563003 => if x12 ≤ x563001 then (boundstoneref02_Sides.l1 k x0 x9 x10 x11 x12 x563002 x563000 x563001 x563002 x563003) else (some (wrap64 ((wrap64 (x9 + x10)) + x11), 0))
def boundstoneref02_Sides.l1 : Nat → List (S23) → Int → Int → Int → Int → Int → Int → Int → Int → Int → Option (Int × Int)
  | 0, _, _, _, _, _, _, _, _, _, _ => none
  | k + 1, x0, x9, x10, x11, x12, x13, x563000, x563001, x563002, x563003 => if x13 ≤ x563003 then ((boundstoneref02_where.f k x0 x12 x13).bind fun t566 => (if t566 = (-1) then (boundstoneref02_Sides.l1 k x0 1 x10 x11 x12 (wrap64 (x13 + 1)) x563000 x563001 x563002 x563003) else (if t566 = 0 then (boundstoneref02_Sides.l1 k x0 x9 2 x11 x12 (wrap64 (x13 + 1)) x563000 x563001 x563002 x563003) else (if t566 = 1 then (boundstoneref02_Sides.l1 k x0 x9 x10 4 x12 (wrap64 (x13 + 1)) x563000 x563001 x563002 x563003) else (boundstoneref02_Sides.l1 k x0 x9 x10 x11 x12 (wrap64 (x13 + 1)) x563000 x563001 x563002 x563003))))) else (boundstoneref02_Sides.l0 k x0 x9 x10 x11 (wrap64 (x12 + 1)) x563000 x563001 x563002 x563003)
end
def boundstoneref02_Sides.f (k : Nat) (l0 : List (S23)) (a1_0 : Int) (a1_1 : Int) (a1_2 : Int) (a1_3 : Int) : Option (Int × Int) := (boundstoneref02_points.f k l0 3).bind fun t563 => (if t563 = 0 then ((boundstoneref02_Proper.f a1_0 a1_1 a1_2 a1_3).bind fun t564 => (if t564 = true then (if (wrap64 ((wrap64 ((wrap64 (a1_1 - a1_0)) + 1)) * (wrap64 ((wrap64 (a1_3 - a1_2)) + 1)))) > 4096 then (some (0, 2)) else ((boundstoneref02_simple.f k l0).bind fun t565 => (if t565 = true then (boundstoneref02_Sides.l0 k l0 0 0 0 a1_0 a1_0 a1_1 a1_2 a1_3) else (some (0, 4))))) else (some (0, 1)))) else (some (0, t563)))
set_option maxHeartbeats 8000000 in
set_option maxRecDepth 100000 in
theorem boundstoneref02_Sides.calls (k : Nat) (A0 : Option Addr) (c0 : Nat) (l0 : List (S23)) (a1_0 : Int) (a1_1 : Int) (a1_2 : Int) (a1_3 : Int) (r1 : Int) (r2 : Int) (w : World) (hr0 : Kd.C k23 w A0 l0.length l0) (hc0 : l0.length ≤ c0) (h : boundstoneref02_Sides.f k l0 a1_0 a1_1 a1_2 a1_3 = some (r1, r2)) :
    Calls Try.prog 41 #[.slice A0 l0.length c0, .agg #[.int .i64 a1_0, .int .i64 a1_1, .int .i64 a1_2, .int .i64 a1_3]] w fun e w' => e = .returned (.tuple #[.int .i64 r1, .int .i64 r2]) ∧ Below w.heap.size w w' := by
  have hu52 := Try.underlying52
  have hu23 := Try.underlying23
  have HR0 := Aside0.mk hr0
  have HC0 := Aside0.mk hc0
  clear hr0 hc0
  have HB := Aside0.mk (Below.refl w.heap.size w)
  have H : ((boundstoneref02_points.f k l0 3).bind fun t563 => (if t563 = 0 then ((boundstoneref02_Proper.f a1_0 a1_1 a1_2 a1_3).bind fun t564 => (if t564 = true then (if (wrap64 ((wrap64 ((wrap64 (a1_1 - a1_0)) + 1)) * (wrap64 ((wrap64 (a1_3 - a1_2)) + 1)))) > 4096 then (some (0, 2)) else ((boundstoneref02_simple.f k l0).bind fun t565 => (if t565 = true then (boundstoneref02_Sides.l0 k l0 0 0 0 a1_0 a1_0 a1_1 a1_2 a1_3) else (some (0, 4))))) else (some (0, 1)))) else (some (0, t563)))) = some (r1, r2) := h
  clear h
  replace H := Option.bind_eq_some_iff.mp H
  obtain ⟨t563, A30, H⟩ := H
  replace H : (if t563 = 0 then ((boundstoneref02_Proper.f a1_0 a1_1 a1_2 a1_3).bind fun t564 => (if t564 = true then (if (wrap64 ((wrap64 ((wrap64 (a1_1 - a1_0)) + 1)) * (wrap64 ((wrap64 (a1_3 - a1_2)) + 1)))) > 4096 then (some (0, 2)) else ((boundstoneref02_simple.f k l0).bind fun t565 => (if t565 = true then (boundstoneref02_Sides.l0 k l0 0 0 0 a1_0 a1_0 a1_1 a1_2 a1_3) else (some (0, 4))))) else (some (0, 1)))) else (some (0, t563))) = some (r1, r2) := H
  have A3 := Aside0.mk A30
  clear A30
  by_cases c4 : t563 = 0
  · rw [if_pos c4] at H
    have c4b0 : (t563 == 0) = true := beq_iff_eq.mpr c4
    have c4b1 : (t563 != 0) = false := bne_eq_false_iff_eq.mpr c4
    clear c4
    replace H := Option.bind_eq_some_iff.mp H
    obtain ⟨t564, A50, H⟩ := H
    replace H : (if t564 = true then (if (wrap64 ((wrap64 ((wrap64 (a1_1 - a1_0)) + 1)) * (wrap64 ((wrap64 (a1_3 - a1_2)) + 1)))) > 4096 then (some (0, 2)) else ((boundstoneref02_simple.f k l0).bind fun t565 => (if t565 = true then (boundstoneref02_Sides.l0 k l0 0 0 0 a1_0 a1_0 a1_1 a1_2 a1_3) else (some (0, 4))))) else (some (0, 1))) = some (r1, r2) := H
    have A5 := Aside0.mk A50
    clear A50
    by_cases c6 : t564 = true
    · subst c6
      have H1 : (if (wrap64 ((wrap64 ((wrap64 (a1_1 - a1_0)) + 1)) * (wrap64 ((wrap64 (a1_3 - a1_2)) + 1)))) > 4096 then (some (0, 2)) else ((boundstoneref02_simple.f k l0).bind fun t565 => (if t565 = true then (boundstoneref02_Sides.l0 k l0 0 0 0 a1_0 a1_0 a1_1 a1_2 a1_3) else (some (0, 4))))) = some (r1, r2) := by rw [if_pos rfl] at H; exact H
      clear H
      have H := H1
      clear H1
      by_cases c7 : (wrap64 ((wrap64 ((wrap64 (a1_1 - a1_0)) + 1)) * (wrap64 ((wrap64 (a1_3 - a1_2)) + 1)))) > 4096
      · rw [if_pos c7] at H
        have c7b0 : decide (4096 < (wrap64 ((wrap64 ((wrap64 (a1_1 - a1_0)) + 1)) * (wrap64 ((wrap64 (a1_3 - a1_2)) + 1))))) = true := decide_eq_true c7
        clear c7
        simp only [Option.some.injEq, Prod.mk.injEq] at H
        obtain ⟨rfl, rfl⟩ := H
        go_enter Try.func41, Try.ntmps41
        go_wp2_with (first | ((with_reducible refine gate_dst (N := 3) rfl ?_); refine box_event ?hg (N := 3) ?hd (cs := #[.int .i64 a1_0, .int .i64 a1_1, .int .i64 a1_2, .int .i64 a1_3]) (t := 52) ?hr ?_; (case hd => rfl); (case hg => rfl); (case hr => first | (go_simp; done) | (go_simp; rfl)); intro gb562 hg w8 hbox hb; have n0_ := Aside0.mk (below_step (by repeat (first | (with_reducible first | exact HB.out | apply below_alloc | apply pw_below_drewN | apply below_drew1) | exact HB.out)) hb); have n1_ := Aside0.mk (hbox); have n2_ := Aside0.mk ((by rw [hg]; exact (below_size (by repeat (first | (with_reducible first | exact HB.out | apply below_alloc | apply pw_below_drewN | apply below_drew1) | exact HB.out))) : w.heap.size ≤ gb562)); have n3_ := Aside0.mk ((by rw [hg]; exact (below_size (by repeat (first | (with_reducible first | exact HB.out | apply below_alloc | apply pw_below_drewN | apply below_drew1) | exact HB.out))) : w.heap.size ≤ gb562)); clear HB; have HB := n0_; have BK562 := n1_; have GW562 := n2_; have GE562 := n3_; clear n0_ n1_ n2_ n3_; clear hb hbox hg) | ((with_reducible refine gate_callee (f := 94) rfl ?_); refine goesL_ (some 15) rfl rfl Try.func94 (by kernel_rfl) rfl #[.slice A0 l0.length c0, .int .i64 3] rfl (by (try simp only [List.map_toArray, List.map_cons, List.map_nil]); first | done | rfl | (simp only [List.length_drop, List.length_take]; rfl)) ?_; (with_reducible refine (boundstoneref02_points.calls k _ _ l0 3 t563 _ ?side1 ?side2 A3.out).mono ?_); (case side1 => repeat (first | exact (Kd.C_below HR0.out HB.out) | (with_reducible refine Kd.C_alloc ?_ _) | (with_reducible refine Kd.C_drewN ?_ _) | (with_reducible refine Kd.C_drew ?_))); (case side2 => exact HC0.out); rintro e w9 ⟨rfl, hb⟩; refine ⟨_, rfl, ?_⟩; have n0_ := Aside0.mk (blk_below (g := gb562) (o := .cells #[.int .i64 a1_0, .int .i64 a1_1, .int .i64 a1_2, .int .i64 a1_3] 52 (0, 0)) (by (with_reducible repeat (first | refine blk_drewN ?_ _ | refine blk_drew ?_ | refine blk_alloc ?_ _)); exact BK562.out) hb); have n1_ := Aside0.mk (below_step (by repeat (first | (with_reducible first | exact HB.out | apply below_alloc | apply pw_below_drewN | apply below_drew1 | refine below_set ?_ GE562.out) | exact HB.out)) hb); clear BK562; clear HB; have BK562 := n0_; have HB := n1_; clear n0_ n1_; (try clear hb); (try clear hb2); (try clear hk); (try clear hi); have hcz10_0 : w9.cell? ⟨gb562, 0, none⟩ = some (.int .i64 a1_0) := (blk_cell BK562.out 0).trans rfl; have hcz10_1 : w9.cell? ⟨gb562, 1, none⟩ = some (.int .i64 a1_1) := (blk_cell BK562.out 1).trans rfl; have hcz10_2 : w9.cell? ⟨gb562, 2, none⟩ = some (.int .i64 a1_2) := (blk_cell BK562.out 2).trans rfl; have hcz10_3 : w9.cell? ⟨gb562, 3, none⟩ = some (.int .i64 a1_3) := (blk_cell BK562.out 3).trans rfl; have hfz10_0 := blk_frozen BK562.out 0; have hfz10_1 := blk_frozen BK562.out 1; have hfz10_2 := blk_frozen BK562.out 2; have hfz10_3 := blk_frozen BK562.out 3) | ((with_reducible refine gate_callee (f := 65) rfl ?_); refine goesL_ (some 20) rfl rfl Try.func65 (by kernel_rfl) rfl #[.agg #[.int .i64 a1_0, .int .i64 a1_1, .int .i64 a1_2, .int .i64 a1_3]] rfl (by (try simp only [List.map_toArray, List.map_cons, List.map_nil]); first | done | rfl | (simp only [List.length_drop, List.length_take]; rfl)) ?_; (with_reducible refine (boundstoneref02_Proper.calls a1_0 a1_1 a1_2 a1_3 true _ A5.out).mono ?_); rintro e w11 ⟨rfl, hb⟩; refine ⟨_, rfl, ?_⟩; have n0_ := Aside0.mk (blk_below (g := gb562) (o := .cells #[.int .i64 a1_0, .int .i64 a1_1, .int .i64 a1_2, .int .i64 a1_3] 52 (0, 0)) (by (with_reducible repeat (first | refine blk_drewN ?_ _ | refine blk_drew ?_ | refine blk_alloc ?_ _)); exact BK562.out) hb); have n1_ := Aside0.mk (below_step (by repeat (first | (with_reducible first | exact HB.out | apply below_alloc | apply pw_below_drewN | apply below_drew1 | refine below_set ?_ GE562.out) | exact HB.out)) hb); clear BK562; clear HB; have BK562 := n0_; have HB := n1_; clear n0_ n1_; (try clear hb); (try clear hb2); (try clear hk); (try clear hi); have hcz12_0 : w11.cell? ⟨gb562, 0, none⟩ = some (.int .i64 a1_0) := (blk_cell BK562.out 0).trans rfl; have hcz12_1 : w11.cell? ⟨gb562, 1, none⟩ = some (.int .i64 a1_1) := (blk_cell BK562.out 1).trans rfl; have hcz12_2 : w11.cell? ⟨gb562, 2, none⟩ = some (.int .i64 a1_2) := (blk_cell BK562.out 2).trans rfl; have hcz12_3 : w11.cell? ⟨gb562, 3, none⟩ = some (.int .i64 a1_3) := (blk_cell BK562.out 3).trans rfl; have hfz12_0 := blk_frozen BK562.out 0; have hfz12_1 := blk_frozen BK562.out 1; have hfz12_2 := blk_frozen BK562.out 2; have hfz12_3 := blk_frozen BK562.out 3))
        go_ret2
        exact ⟨by first | rfl | (simp [errW_none, errW_some] <;> rfl) | (simp [*, errW_none, errW_some] <;> rfl), by repeat (first | (with_reducible first | exact HB.out | apply below_alloc | apply pw_below_drewN | apply below_drew1 | refine below_set ?_ GE562.out) | exact HB.out)⟩
      · rw [if_neg c7] at H
        have c7b0 : decide (4096 < (wrap64 ((wrap64 ((wrap64 (a1_1 - a1_0)) + 1)) * (wrap64 ((wrap64 (a1_3 - a1_2)) + 1))))) = false := decide_eq_false c7
        clear c7
        replace H := Option.bind_eq_some_iff.mp H
        obtain ⟨t565, A130, H⟩ := H
        replace H : (if t565 = true then (boundstoneref02_Sides.l0 k l0 0 0 0 a1_0 a1_0 a1_1 a1_2 a1_3) else (some (0, 4))) = some (r1, r2) := H
        have A13 := Aside0.mk A130
        clear A130
        by_cases c14 : t565 = true
        · subst c14
          have H1 : (boundstoneref02_Sides.l0 k l0 0 0 0 a1_0 a1_0 a1_1 a1_2 a1_3) = some (r1, r2) := by rw [if_pos rfl] at H; exact H
          clear H
          have H := H1
          clear H1
          have H' := Aside0.mk H
          clear H
          go_enter Try.func41, Try.ntmps41
          go_wp2_with (first | ((with_reducible refine gate_dst (N := 3) rfl ?_); refine box_event ?hg (N := 3) ?hd (cs := #[.int .i64 a1_0, .int .i64 a1_1, .int .i64 a1_2, .int .i64 a1_3]) (t := 52) ?hr ?_; (case hd => rfl); (case hg => rfl); (case hr => first | (go_simp; done) | (go_simp; rfl)); intro gb562 hg w15 hbox hb; have n0_ := Aside0.mk (below_step (by repeat (first | (with_reducible first | exact HB.out | apply below_alloc | apply pw_below_drewN | apply below_drew1) | exact HB.out)) hb); have n1_ := Aside0.mk (hbox); have n2_ := Aside0.mk ((by rw [hg]; exact (below_size (by repeat (first | (with_reducible first | exact HB.out | apply below_alloc | apply pw_below_drewN | apply below_drew1) | exact HB.out))) : w.heap.size ≤ gb562)); have n3_ := Aside0.mk ((by rw [hg]; exact (below_size (by repeat (first | (with_reducible first | exact HB.out | apply below_alloc | apply pw_below_drewN | apply below_drew1) | exact HB.out))) : w.heap.size ≤ gb562)); clear HB; have HB := n0_; have BK562 := n1_; have GW562 := n2_; have GE562 := n3_; clear n0_ n1_ n2_ n3_; clear hb hbox hg) | ((with_reducible refine gate_callee (f := 94) rfl ?_); refine goesL_ (some 15) rfl rfl Try.func94 (by kernel_rfl) rfl #[.slice A0 l0.length c0, .int .i64 3] rfl (by (try simp only [List.map_toArray, List.map_cons, List.map_nil]); first | done | rfl | (simp only [List.length_drop, List.length_take]; rfl)) ?_; (with_reducible refine (boundstoneref02_points.calls k _ _ l0 3 t563 _ ?side1 ?side2 A3.out).mono ?_); (case side1 => repeat (first | exact (Kd.C_below HR0.out HB.out) | (with_reducible refine Kd.C_alloc ?_ _) | (with_reducible refine Kd.C_drewN ?_ _) | (with_reducible refine Kd.C_drew ?_))); (case side2 => exact HC0.out); rintro e w16 ⟨rfl, hb⟩; refine ⟨_, rfl, ?_⟩; have n0_ := Aside0.mk (blk_below (g := gb562) (o := .cells #[.int .i64 a1_0, .int .i64 a1_1, .int .i64 a1_2, .int .i64 a1_3] 52 (0, 0)) (by (with_reducible repeat (first | refine blk_drewN ?_ _ | refine blk_drew ?_ | refine blk_alloc ?_ _)); exact BK562.out) hb); have n1_ := Aside0.mk (below_step (by repeat (first | (with_reducible first | exact HB.out | apply below_alloc | apply pw_below_drewN | apply below_drew1 | refine below_set ?_ GE562.out) | exact HB.out)) hb); clear BK562; clear HB; have BK562 := n0_; have HB := n1_; clear n0_ n1_; (try clear hb); (try clear hb2); (try clear hk); (try clear hi); have hcz17_0 : w16.cell? ⟨gb562, 0, none⟩ = some (.int .i64 a1_0) := (blk_cell BK562.out 0).trans rfl; have hcz17_1 : w16.cell? ⟨gb562, 1, none⟩ = some (.int .i64 a1_1) := (blk_cell BK562.out 1).trans rfl; have hcz17_2 : w16.cell? ⟨gb562, 2, none⟩ = some (.int .i64 a1_2) := (blk_cell BK562.out 2).trans rfl; have hcz17_3 : w16.cell? ⟨gb562, 3, none⟩ = some (.int .i64 a1_3) := (blk_cell BK562.out 3).trans rfl; have hfz17_0 := blk_frozen BK562.out 0; have hfz17_1 := blk_frozen BK562.out 1; have hfz17_2 := blk_frozen BK562.out 2; have hfz17_3 := blk_frozen BK562.out 3) | ((with_reducible refine gate_callee (f := 65) rfl ?_); refine goesL_ (some 20) rfl rfl Try.func65 (by kernel_rfl) rfl #[.agg #[.int .i64 a1_0, .int .i64 a1_1, .int .i64 a1_2, .int .i64 a1_3]] rfl (by (try simp only [List.map_toArray, List.map_cons, List.map_nil]); first | done | rfl | (simp only [List.length_drop, List.length_take]; rfl)) ?_; (with_reducible refine (boundstoneref02_Proper.calls a1_0 a1_1 a1_2 a1_3 true _ A5.out).mono ?_); rintro e w18 ⟨rfl, hb⟩; refine ⟨_, rfl, ?_⟩; have n0_ := Aside0.mk (blk_below (g := gb562) (o := .cells #[.int .i64 a1_0, .int .i64 a1_1, .int .i64 a1_2, .int .i64 a1_3] 52 (0, 0)) (by (with_reducible repeat (first | refine blk_drewN ?_ _ | refine blk_drew ?_ | refine blk_alloc ?_ _)); exact BK562.out) hb); have n1_ := Aside0.mk (below_step (by repeat (first | (with_reducible first | exact HB.out | apply below_alloc | apply pw_below_drewN | apply below_drew1 | refine below_set ?_ GE562.out) | exact HB.out)) hb); clear BK562; clear HB; have BK562 := n0_; have HB := n1_; clear n0_ n1_; (try clear hb); (try clear hb2); (try clear hk); (try clear hi); have hcz19_0 : w18.cell? ⟨gb562, 0, none⟩ = some (.int .i64 a1_0) := (blk_cell BK562.out 0).trans rfl; have hcz19_1 : w18.cell? ⟨gb562, 1, none⟩ = some (.int .i64 a1_1) := (blk_cell BK562.out 1).trans rfl; have hcz19_2 : w18.cell? ⟨gb562, 2, none⟩ = some (.int .i64 a1_2) := (blk_cell BK562.out 2).trans rfl; have hcz19_3 : w18.cell? ⟨gb562, 3, none⟩ = some (.int .i64 a1_3) := (blk_cell BK562.out 3).trans rfl; have hfz19_0 := blk_frozen BK562.out 0; have hfz19_1 := blk_frozen BK562.out 1; have hfz19_2 := blk_frozen BK562.out 2; have hfz19_3 := blk_frozen BK562.out 3) | ((with_reducible refine gate_callee (f := 96) rfl ?_); refine goesL_ (some 42) rfl rfl Try.func96 (by kernel_rfl) rfl #[.slice A0 l0.length c0] rfl (by (try simp only [List.map_toArray, List.map_cons, List.map_nil]); first | done | rfl | (simp only [List.length_drop, List.length_take]; rfl)) ?_; (with_reducible refine (boundstoneref02_simple.calls k _ _ l0 true _ ?side1 ?side2 A13.out).mono ?_); (case side1 => repeat (first | exact (Kd.C_below HR0.out HB.out) | (with_reducible refine Kd.C_alloc ?_ _) | (with_reducible refine Kd.C_drewN ?_ _) | (with_reducible refine Kd.C_drew ?_))); (case side2 => exact HC0.out); rintro e w20 ⟨rfl, hb⟩; refine ⟨_, rfl, ?_⟩; have n0_ := Aside0.mk (blk_below (g := gb562) (o := .cells #[.int .i64 a1_0, .int .i64 a1_1, .int .i64 a1_2, .int .i64 a1_3] 52 (0, 0)) (by (with_reducible repeat (first | refine blk_drewN ?_ _ | refine blk_drew ?_ | refine blk_alloc ?_ _)); exact BK562.out) hb); have n1_ := Aside0.mk (below_step (by repeat (first | (with_reducible first | exact HB.out | apply below_alloc | apply pw_below_drewN | apply below_drew1 | refine below_set ?_ GE562.out) | exact HB.out)) hb); clear BK562; clear HB; have BK562 := n0_; have HB := n1_; clear n0_ n1_; (try clear hb); (try clear hb2); (try clear hk); (try clear hi); have hcz21_0 : w20.cell? ⟨gb562, 0, none⟩ = some (.int .i64 a1_0) := (blk_cell BK562.out 0).trans rfl; have hcz21_1 : w20.cell? ⟨gb562, 1, none⟩ = some (.int .i64 a1_1) := (blk_cell BK562.out 1).trans rfl; have hcz21_2 : w20.cell? ⟨gb562, 2, none⟩ = some (.int .i64 a1_2) := (blk_cell BK562.out 2).trans rfl; have hcz21_3 : w20.cell? ⟨gb562, 3, none⟩ = some (.int .i64 a1_3) := (blk_cell BK562.out 3).trans rfl; have hfz21_0 := blk_frozen BK562.out 0; have hfz21_1 := blk_frozen BK562.out 1; have hfz21_2 := blk_frozen BK562.out 2; have hfz21_3 := blk_frozen BK562.out 3))
          go_loopg [9, 10, 11, 12] k (fun kq v9 v10 v11 v12 w' => ∃ (x9_1 : Int) (x10_1 : Int) (x11_1 : Int) (x12_1 : Int), v9 = .int .i64 x9_1 ∧ v10 = .int .i64 x10_1 ∧ v11 = .int .i64 x11_1 ∧ v12 = .int .i64 x12_1 ∧ Aside0 (boundstoneref02_Sides.l0 kq l0 x9_1 x10_1 x11_1 x12_1 a1_0 a1_1 a1_2 a1_3 = some (r1, r2)) ∧ Aside0 (kq ≤ k) ∧ Aside0 (w'.heap[gb562]? = some (.cells #[.int .i64 a1_0, .int .i64 a1_1, .int .i64 a1_2, .int .i64 a1_3] 52 (0, 0))) ∧ Aside0 (Below w.heap.size w w'))
          case atStart => exact ⟨(0), (0), (0), (a1_0), (by first | rfl | (simp; done) | (simp [*]; done)), (by first | rfl | (simp; done) | (simp [*]; done)), (by first | rfl | (simp; done) | (simp [*]; done)), (by first | rfl | (simp; done) | (simp [*]; done)), H', ⟨Nat.le_refl _⟩, ⟨by (with_reducible repeat (first | refine blk_drewN ?_ _ | refine blk_drew ?_ | refine blk_alloc ?_ _)); exact BK562.out⟩, ⟨by repeat (first | (with_reducible first | exact HB.out | apply below_alloc | apply pw_below_drewN | apply below_drew1 | refine below_set ?_ GE562.out) | exact HB.out)⟩⟩
          case round =>
            clear H'
            (try clear c1); (try clear p2); (try clear c4); (try clear c4b0); (try clear c4b1); (try clear c6); (try clear p6); (try clear c7); (try clear c7b0); (try clear c9); (try clear c14); (try clear hcz10_0); (try clear hcz10_1); (try clear hcz10_2); (try clear hcz10_3); (try clear hcz12_0); (try clear hcz12_1); (try clear hcz12_2); (try clear hcz12_3); (try clear hcz17_0); (try clear hcz17_1); (try clear hcz17_2); (try clear hcz17_3); (try clear hcz19_0); (try clear hcz19_1); (try clear hcz19_2); (try clear hcz19_3); (try clear hcz21_0); (try clear hcz21_1); (try clear hcz21_2); (try clear hcz21_3); (try clear hfz10_0); (try clear hfz10_1); (try clear hfz10_2); (try clear hfz10_3); (try clear hfz12_0); (try clear hfz12_1); (try clear hfz12_2); (try clear hfz12_3); (try clear hfz17_0); (try clear hfz17_1); (try clear hfz17_2); (try clear hfz17_3); (try clear hfz19_0); (try clear hfz19_1); (try clear hfz19_2); (try clear hfz19_3); (try clear hfz21_0); (try clear hfz21_1); (try clear hfz21_2); (try clear hfz21_3)
            obtain ⟨x9_1, x10_1, x11_1, x12_1, rfl, rfl, rfl, rfl, HA, HK1, BK562, HB⟩ := hrel
            cases gk with
            | zero => exact absurd HA.out (by simp [boundstoneref02_Sides.l0])
            | succ k1 =>
              have H := HA.out
              clear HA
              simp only [boundstoneref02_Sides.l0] at H
              by_cases c22 : x12_1 ≤ a1_1
              · rw [if_pos c22] at H
                have c22b0 : decide (x12_1 ≤ a1_1) = true := decide_eq_true c22
                clear c22
                have H' := Aside0.mk H
                clear H
                have hcz23_0 : wr.cell? ⟨gb562, 0, none⟩ = some (.int .i64 a1_0) := (blk_cell BK562.out 0).trans rfl
                have hcz23_1 : wr.cell? ⟨gb562, 1, none⟩ = some (.int .i64 a1_1) := (blk_cell BK562.out 1).trans rfl
                have hcz23_2 : wr.cell? ⟨gb562, 2, none⟩ = some (.int .i64 a1_2) := (blk_cell BK562.out 2).trans rfl
                have hcz23_3 : wr.cell? ⟨gb562, 3, none⟩ = some (.int .i64 a1_3) := (blk_cell BK562.out 3).trans rfl
                have hfz23_0 := blk_frozen BK562.out 0
                have hfz23_1 := blk_frozen BK562.out 1
                have hfz23_2 := blk_frozen BK562.out 2
                have hfz23_3 := blk_frozen BK562.out 3
                go_wp2
                go_loopg [9, 10, 11, 13] k1 (fun kq v9 v10 v11 v13 w' => ∃ (x9_2 : Int) (x10_2 : Int) (x11_2 : Int) (x13_2 : Int), v9 = .int .i64 x9_2 ∧ v10 = .int .i64 x10_2 ∧ v11 = .int .i64 x11_2 ∧ v13 = .int .i64 x13_2 ∧ Aside0 (boundstoneref02_Sides.l1 kq l0 x9_2 x10_2 x11_2 x12_1 x13_2 a1_0 a1_1 a1_2 a1_3 = some (r1, r2)) ∧ Aside0 (kq ≤ k1) ∧ Aside0 (w'.heap[gb562]? = some (.cells #[.int .i64 a1_0, .int .i64 a1_1, .int .i64 a1_2, .int .i64 a1_3] 52 (0, 0))) ∧ Aside0 (Below w.heap.size w w'))
                case atStart => exact ⟨(x9_1), (x10_1), (x11_1), (a1_2), (by first | rfl | (simp; done) | (simp [*]; done)), (by first | rfl | (simp; done) | (simp [*]; done)), (by first | rfl | (simp; done) | (simp [*]; done)), (by first | rfl | (simp; done) | (simp [*]; done)), H', ⟨Nat.le_refl _⟩, ⟨by (with_reducible repeat (first | refine blk_drewN ?_ _ | refine blk_drew ?_ | refine blk_alloc ?_ _)); exact BK562.out⟩, ⟨by repeat (first | (with_reducible first | exact HB.out | apply below_alloc | apply pw_below_drewN | apply below_drew1 | refine below_set ?_ GE562.out) | exact HB.out)⟩⟩
                case round =>
                  clear H'
                  (try clear c1); (try clear c2); (try clear p2); (try clear c4); (try clear c4b0); (try clear c4b1); (try clear c6); (try clear p6); (try clear c7); (try clear c7b0); (try clear c9); (try clear c14); (try clear c22); (try clear c22b0); (try clear hcz10_0); (try clear hcz10_1); (try clear hcz10_2); (try clear hcz10_3); (try clear hcz12_0); (try clear hcz12_1); (try clear hcz12_2); (try clear hcz12_3); (try clear hcz17_0); (try clear hcz17_1); (try clear hcz17_2); (try clear hcz17_3); (try clear hcz19_0); (try clear hcz19_1); (try clear hcz19_2); (try clear hcz19_3); (try clear hcz21_0); (try clear hcz21_1); (try clear hcz21_2); (try clear hcz21_3); (try clear hcz23_0); (try clear hcz23_1); (try clear hcz23_2); (try clear hcz23_3); (try clear hfz10_0); (try clear hfz10_1); (try clear hfz10_2); (try clear hfz10_3); (try clear hfz12_0); (try clear hfz12_1); (try clear hfz12_2); (try clear hfz12_3); (try clear hfz17_0); (try clear hfz17_1); (try clear hfz17_2); (try clear hfz17_3); (try clear hfz19_0); (try clear hfz19_1); (try clear hfz19_2); (try clear hfz19_3); (try clear hfz21_0); (try clear hfz21_1); (try clear hfz21_2); (try clear hfz21_3); (try clear hfz23_0); (try clear hfz23_1); (try clear hfz23_2); (try clear hfz23_3); (try clear p2); (try clear p6)
                  obtain ⟨x9_2, x10_2, x11_2, x13_2, rfl, rfl, rfl, rfl, HA, HK2, BK562, HB⟩ := hrel
                  cases gk with
                  | zero => exact absurd HA.out (by simp [boundstoneref02_Sides.l1])
                  | succ k2 =>
                    have H := HA.out
                    clear HA
                    simp only [boundstoneref02_Sides.l1] at H
                    by_cases c24 : x13_2 ≤ a1_3
                    · rw [if_pos c24] at H
                      have c24b0 : decide (x13_2 ≤ a1_3) = true := decide_eq_true c24
                      clear c24
                      replace H := Option.bind_eq_some_iff.mp H
                      obtain ⟨t566, A250, H⟩ := H
                      replace H : (if t566 = (-1) then (boundstoneref02_Sides.l1 k2 l0 1 x10_2 x11_2 x12_1 (wrap64 (x13_2 + 1)) a1_0 a1_1 a1_2 a1_3) else (if t566 = 0 then (boundstoneref02_Sides.l1 k2 l0 x9_2 2 x11_2 x12_1 (wrap64 (x13_2 + 1)) a1_0 a1_1 a1_2 a1_3) else (if t566 = 1 then (boundstoneref02_Sides.l1 k2 l0 x9_2 x10_2 4 x12_1 (wrap64 (x13_2 + 1)) a1_0 a1_1 a1_2 a1_3) else (boundstoneref02_Sides.l1 k2 l0 x9_2 x10_2 x11_2 x12_1 (wrap64 (x13_2 + 1)) a1_0 a1_1 a1_2 a1_3)))) = some (r1, r2) := H
                      have A25 := Aside0.mk A250
                      clear A250
                      by_cases c26 : t566 = (-1)
                      · rw [if_pos c26] at H
                        have c26b0 : (t566 == (-1)) = true := beq_iff_eq.mpr c26
                        have c26b1 : (t566 != (-1)) = false := bne_eq_false_iff_eq.mpr c26
                        clear c26
                        have H' := Aside0.mk H
                        clear H
                        have hcz27_0 : wr.cell? ⟨gb562, 0, none⟩ = some (.int .i64 a1_0) := (blk_cell BK562.out 0).trans rfl
                        have hcz27_1 : wr.cell? ⟨gb562, 1, none⟩ = some (.int .i64 a1_1) := (blk_cell BK562.out 1).trans rfl
                        have hcz27_2 : wr.cell? ⟨gb562, 2, none⟩ = some (.int .i64 a1_2) := (blk_cell BK562.out 2).trans rfl
                        have hcz27_3 : wr.cell? ⟨gb562, 3, none⟩ = some (.int .i64 a1_3) := (blk_cell BK562.out 3).trans rfl
                        have hfz27_0 := blk_frozen BK562.out 0
                        have hfz27_1 := blk_frozen BK562.out 1
                        have hfz27_2 := blk_frozen BK562.out 2
                        have hfz27_3 := blk_frozen BK562.out 3
                        go_wp2_with (first | ((with_reducible refine gate_callee (f := 102) rfl ?_); refine goesL_ (some 69) rfl rfl Try.func102 (by kernel_rfl) rfl #[.slice A0 l0.length c0, .agg #[.int .i64 x12_1, .int .i64 x13_2]] rfl (by (try simp only [List.map_toArray, List.map_cons, List.map_nil]); first | done | rfl | (simp only [List.length_drop, List.length_take]; rfl)) ?_; (with_reducible refine (boundstoneref02_where.calls k2 _ _ l0 x12_1 x13_2 t566 _ ?side1 ?side2 A25.out).mono ?_); (case side1 => repeat (first | exact (Kd.C_below HR0.out HB.out) | (with_reducible refine Kd.C_alloc ?_ _) | (with_reducible refine Kd.C_drewN ?_ _) | (with_reducible refine Kd.C_drew ?_))); (case side2 => exact HC0.out); rintro e w28 ⟨rfl, hb⟩; refine ⟨_, rfl, ?_⟩; have n0_ := Aside0.mk (blk_below (g := gb562) (o := .cells #[.int .i64 a1_0, .int .i64 a1_1, .int .i64 a1_2, .int .i64 a1_3] 52 (0, 0)) (by (with_reducible repeat (first | refine blk_drewN ?_ _ | refine blk_drew ?_ | refine blk_alloc ?_ _)); exact BK562.out) hb); have n1_ := Aside0.mk (below_step (by repeat (first | (with_reducible first | exact HB.out | apply below_alloc | apply pw_below_drewN | apply below_drew1 | refine below_set ?_ GE562.out) | exact HB.out)) hb); clear BK562; clear HB; have BK562 := n0_; have HB := n1_; clear n0_ n1_; (try clear hb); (try clear hb2); (try clear hk); (try clear hi)))
                        go_roundg k2
                        case measure => have := HK1.out; have := HK2.out; omega
                        case rel => exact ⟨(1), (x10_2), (x11_2), (wrap64 (x13_2 + 1)), (by first | rfl | (simp; done) | (simp [*]; done)), (by first | rfl | (simp; done) | (simp [*]; done)), (by first | rfl | (simp; done) | (simp [*]; done)), (by first | rfl | (simp; done) | (simp [*]; done)), H', ⟨by have := HK1.out; have := HK2.out; omega⟩, ⟨by (with_reducible repeat (first | refine blk_drewN ?_ _ | refine blk_drew ?_ | refine blk_alloc ?_ _)); exact BK562.out⟩, ⟨by repeat (first | (with_reducible first | exact HB.out | apply below_alloc | apply pw_below_drewN | apply below_drew1 | refine below_set ?_ GE562.out) | exact HB.out)⟩⟩
                      · rw [if_neg c26] at H
                        have c26b0 : (t566 == (-1)) = false := beq_eq_false_iff_ne.mpr c26
                        have c26b1 : (t566 != (-1)) = true := bne_iff_ne.mpr c26
                        by_cases c29 : t566 = 0
                        · rw [if_pos c29] at H
                          have c29b0 : (t566 == 0) = true := beq_iff_eq.mpr c29
                          have c29b1 : (t566 != 0) = false := bne_eq_false_iff_eq.mpr c29
                          clear c29
                          have H' := Aside0.mk H
                          clear H
                          have hcz30_0 : wr.cell? ⟨gb562, 0, none⟩ = some (.int .i64 a1_0) := (blk_cell BK562.out 0).trans rfl
                          have hcz30_1 : wr.cell? ⟨gb562, 1, none⟩ = some (.int .i64 a1_1) := (blk_cell BK562.out 1).trans rfl
                          have hcz30_2 : wr.cell? ⟨gb562, 2, none⟩ = some (.int .i64 a1_2) := (blk_cell BK562.out 2).trans rfl
                          have hcz30_3 : wr.cell? ⟨gb562, 3, none⟩ = some (.int .i64 a1_3) := (blk_cell BK562.out 3).trans rfl
                          have hfz30_0 := blk_frozen BK562.out 0
                          have hfz30_1 := blk_frozen BK562.out 1
                          have hfz30_2 := blk_frozen BK562.out 2
                          have hfz30_3 := blk_frozen BK562.out 3
                          go_wp2_with (first | ((with_reducible refine gate_callee (f := 102) rfl ?_); refine goesL_ (some 69) rfl rfl Try.func102 (by kernel_rfl) rfl #[.slice A0 l0.length c0, .agg #[.int .i64 x12_1, .int .i64 x13_2]] rfl (by (try simp only [List.map_toArray, List.map_cons, List.map_nil]); first | done | rfl | (simp only [List.length_drop, List.length_take]; rfl)) ?_; (with_reducible refine (boundstoneref02_where.calls k2 _ _ l0 x12_1 x13_2 t566 _ ?side1 ?side2 A25.out).mono ?_); (case side1 => repeat (first | exact (Kd.C_below HR0.out HB.out) | (with_reducible refine Kd.C_alloc ?_ _) | (with_reducible refine Kd.C_drewN ?_ _) | (with_reducible refine Kd.C_drew ?_))); (case side2 => exact HC0.out); rintro e w31 ⟨rfl, hb⟩; refine ⟨_, rfl, ?_⟩; have n0_ := Aside0.mk (blk_below (g := gb562) (o := .cells #[.int .i64 a1_0, .int .i64 a1_1, .int .i64 a1_2, .int .i64 a1_3] 52 (0, 0)) (by (with_reducible repeat (first | refine blk_drewN ?_ _ | refine blk_drew ?_ | refine blk_alloc ?_ _)); exact BK562.out) hb); have n1_ := Aside0.mk (below_step (by repeat (first | (with_reducible first | exact HB.out | apply below_alloc | apply pw_below_drewN | apply below_drew1 | refine below_set ?_ GE562.out) | exact HB.out)) hb); clear BK562; clear HB; have BK562 := n0_; have HB := n1_; clear n0_ n1_; (try clear hb); (try clear hb2); (try clear hk); (try clear hi)))
                          go_roundg k2
                          case measure => have := HK1.out; have := HK2.out; omega
                          case rel => exact ⟨(x9_2), (2), (x11_2), (wrap64 (x13_2 + 1)), (by first | rfl | (simp; done) | (simp [*]; done)), (by first | rfl | (simp; done) | (simp [*]; done)), (by first | rfl | (simp; done) | (simp [*]; done)), (by first | rfl | (simp; done) | (simp [*]; done)), H', ⟨by have := HK1.out; have := HK2.out; omega⟩, ⟨by (with_reducible repeat (first | refine blk_drewN ?_ _ | refine blk_drew ?_ | refine blk_alloc ?_ _)); exact BK562.out⟩, ⟨by repeat (first | (with_reducible first | exact HB.out | apply below_alloc | apply pw_below_drewN | apply below_drew1 | refine below_set ?_ GE562.out) | exact HB.out)⟩⟩
                        · rw [if_neg c29] at H
                          have c29b0 : (t566 == 0) = false := beq_eq_false_iff_ne.mpr c29
                          have c29b1 : (t566 != 0) = true := bne_iff_ne.mpr c29
                          by_cases c32 : t566 = 1
                          · rw [if_pos c32] at H
                            have c32b0 : (t566 == 1) = true := beq_iff_eq.mpr c32
                            have c32b1 : (t566 != 1) = false := bne_eq_false_iff_eq.mpr c32
                            clear c32
                            have H' := Aside0.mk H
                            clear H
                            have hcz33_0 : wr.cell? ⟨gb562, 0, none⟩ = some (.int .i64 a1_0) := (blk_cell BK562.out 0).trans rfl
                            have hcz33_1 : wr.cell? ⟨gb562, 1, none⟩ = some (.int .i64 a1_1) := (blk_cell BK562.out 1).trans rfl
                            have hcz33_2 : wr.cell? ⟨gb562, 2, none⟩ = some (.int .i64 a1_2) := (blk_cell BK562.out 2).trans rfl
                            have hcz33_3 : wr.cell? ⟨gb562, 3, none⟩ = some (.int .i64 a1_3) := (blk_cell BK562.out 3).trans rfl
                            have hfz33_0 := blk_frozen BK562.out 0
                            have hfz33_1 := blk_frozen BK562.out 1
                            have hfz33_2 := blk_frozen BK562.out 2
                            have hfz33_3 := blk_frozen BK562.out 3
                            go_wp2_with (first | ((with_reducible refine gate_callee (f := 102) rfl ?_); refine goesL_ (some 69) rfl rfl Try.func102 (by kernel_rfl) rfl #[.slice A0 l0.length c0, .agg #[.int .i64 x12_1, .int .i64 x13_2]] rfl (by (try simp only [List.map_toArray, List.map_cons, List.map_nil]); first | done | rfl | (simp only [List.length_drop, List.length_take]; rfl)) ?_; (with_reducible refine (boundstoneref02_where.calls k2 _ _ l0 x12_1 x13_2 t566 _ ?side1 ?side2 A25.out).mono ?_); (case side1 => repeat (first | exact (Kd.C_below HR0.out HB.out) | (with_reducible refine Kd.C_alloc ?_ _) | (with_reducible refine Kd.C_drewN ?_ _) | (with_reducible refine Kd.C_drew ?_))); (case side2 => exact HC0.out); rintro e w34 ⟨rfl, hb⟩; refine ⟨_, rfl, ?_⟩; have n0_ := Aside0.mk (blk_below (g := gb562) (o := .cells #[.int .i64 a1_0, .int .i64 a1_1, .int .i64 a1_2, .int .i64 a1_3] 52 (0, 0)) (by (with_reducible repeat (first | refine blk_drewN ?_ _ | refine blk_drew ?_ | refine blk_alloc ?_ _)); exact BK562.out) hb); have n1_ := Aside0.mk (below_step (by repeat (first | (with_reducible first | exact HB.out | apply below_alloc | apply pw_below_drewN | apply below_drew1 | refine below_set ?_ GE562.out) | exact HB.out)) hb); clear BK562; clear HB; have BK562 := n0_; have HB := n1_; clear n0_ n1_; (try clear hb); (try clear hb2); (try clear hk); (try clear hi)))
                            go_roundg k2
                            case measure => have := HK1.out; have := HK2.out; omega
                            case rel => exact ⟨(x9_2), (x10_2), (4), (wrap64 (x13_2 + 1)), (by first | rfl | (simp; done) | (simp [*]; done)), (by first | rfl | (simp; done) | (simp [*]; done)), (by first | rfl | (simp; done) | (simp [*]; done)), (by first | rfl | (simp; done) | (simp [*]; done)), H', ⟨by have := HK1.out; have := HK2.out; omega⟩, ⟨by (with_reducible repeat (first | refine blk_drewN ?_ _ | refine blk_drew ?_ | refine blk_alloc ?_ _)); exact BK562.out⟩, ⟨by repeat (first | (with_reducible first | exact HB.out | apply below_alloc | apply pw_below_drewN | apply below_drew1 | refine below_set ?_ GE562.out) | exact HB.out)⟩⟩
                          · rw [if_neg c32] at H
                            have c32b0 : (t566 == 1) = false := beq_eq_false_iff_ne.mpr c32
                            have c32b1 : (t566 != 1) = true := bne_iff_ne.mpr c32
                            have H' := Aside0.mk H
                            clear H
                            have hcz35_0 : wr.cell? ⟨gb562, 0, none⟩ = some (.int .i64 a1_0) := (blk_cell BK562.out 0).trans rfl
                            have hcz35_1 : wr.cell? ⟨gb562, 1, none⟩ = some (.int .i64 a1_1) := (blk_cell BK562.out 1).trans rfl
                            have hcz35_2 : wr.cell? ⟨gb562, 2, none⟩ = some (.int .i64 a1_2) := (blk_cell BK562.out 2).trans rfl
                            have hcz35_3 : wr.cell? ⟨gb562, 3, none⟩ = some (.int .i64 a1_3) := (blk_cell BK562.out 3).trans rfl
                            have hfz35_0 := blk_frozen BK562.out 0
                            have hfz35_1 := blk_frozen BK562.out 1
                            have hfz35_2 := blk_frozen BK562.out 2
                            have hfz35_3 := blk_frozen BK562.out 3
                            go_wp2_with (first | ((with_reducible refine gate_callee (f := 102) rfl ?_); refine goesL_ (some 69) rfl rfl Try.func102 (by kernel_rfl) rfl #[.slice A0 l0.length c0, .agg #[.int .i64 x12_1, .int .i64 x13_2]] rfl (by (try simp only [List.map_toArray, List.map_cons, List.map_nil]); first | done | rfl | (simp only [List.length_drop, List.length_take]; rfl)) ?_; (with_reducible refine (boundstoneref02_where.calls k2 _ _ l0 x12_1 x13_2 t566 _ ?side1 ?side2 A25.out).mono ?_); (case side1 => repeat (first | exact (Kd.C_below HR0.out HB.out) | (with_reducible refine Kd.C_alloc ?_ _) | (with_reducible refine Kd.C_drewN ?_ _) | (with_reducible refine Kd.C_drew ?_))); (case side2 => exact HC0.out); rintro e w36 ⟨rfl, hb⟩; refine ⟨_, rfl, ?_⟩; have n0_ := Aside0.mk (blk_below (g := gb562) (o := .cells #[.int .i64 a1_0, .int .i64 a1_1, .int .i64 a1_2, .int .i64 a1_3] 52 (0, 0)) (by (with_reducible repeat (first | refine blk_drewN ?_ _ | refine blk_drew ?_ | refine blk_alloc ?_ _)); exact BK562.out) hb); have n1_ := Aside0.mk (below_step (by repeat (first | (with_reducible first | exact HB.out | apply below_alloc | apply pw_below_drewN | apply below_drew1 | refine below_set ?_ GE562.out) | exact HB.out)) hb); clear BK562; clear HB; have BK562 := n0_; have HB := n1_; clear n0_ n1_; (try clear hb); (try clear hb2); (try clear hk); (try clear hi)))
                            go_roundg k2
                            case measure => have := HK1.out; have := HK2.out; omega
                            case rel => exact ⟨(x9_2), (x10_2), (x11_2), (wrap64 (x13_2 + 1)), (by first | rfl | (simp; done) | (simp [*]; done)), (by first | rfl | (simp; done) | (simp [*]; done)), (by first | rfl | (simp; done) | (simp [*]; done)), (by first | rfl | (simp; done) | (simp [*]; done)), H', ⟨by have := HK1.out; have := HK2.out; omega⟩, ⟨by (with_reducible repeat (first | refine blk_drewN ?_ _ | refine blk_drew ?_ | refine blk_alloc ?_ _)); exact BK562.out⟩, ⟨by repeat (first | (with_reducible first | exact HB.out | apply below_alloc | apply pw_below_drewN | apply below_drew1 | refine below_set ?_ GE562.out) | exact HB.out)⟩⟩
                    · rw [if_neg c24] at H
                      have c24b0 : decide (x13_2 ≤ a1_3) = false := decide_eq_false c24
                      clear c24
                      have H' := Aside0.mk H
                      clear H
                      have hcz37_0 : wr.cell? ⟨gb562, 0, none⟩ = some (.int .i64 a1_0) := (blk_cell BK562.out 0).trans rfl
                      have hcz37_1 : wr.cell? ⟨gb562, 1, none⟩ = some (.int .i64 a1_1) := (blk_cell BK562.out 1).trans rfl
                      have hcz37_2 : wr.cell? ⟨gb562, 2, none⟩ = some (.int .i64 a1_2) := (blk_cell BK562.out 2).trans rfl
                      have hcz37_3 : wr.cell? ⟨gb562, 3, none⟩ = some (.int .i64 a1_3) := (blk_cell BK562.out 3).trans rfl
                      have hfz37_0 := blk_frozen BK562.out 0
                      have hfz37_1 := blk_frozen BK562.out 1
                      have hfz37_2 := blk_frozen BK562.out 2
                      have hfz37_3 := blk_frozen BK562.out 3
                      go_wp2
                      go_roundg k2
                      case measure => have := HK1.out; have := HK2.out; omega
                      case rel => exact ⟨(x9_2), (x10_2), (x11_2), (wrap64 (x12_1 + 1)), (by first | rfl | (simp; done) | (simp [*]; done)), (by first | rfl | (simp; done) | (simp [*]; done)), (by first | rfl | (simp; done) | (simp [*]; done)), (by first | rfl | (simp; done) | (simp [*]; done)), H', ⟨by have := HK1.out; have := HK2.out; omega⟩, ⟨by (with_reducible repeat (first | refine blk_drewN ?_ _ | refine blk_drew ?_ | refine blk_alloc ?_ _)); exact BK562.out⟩, ⟨by repeat (first | (with_reducible first | exact HB.out | apply below_alloc | apply pw_below_drewN | apply below_drew1 | refine below_set ?_ GE562.out) | exact HB.out)⟩⟩
              · rw [if_neg c22] at H
                have c22b0 : decide (x12_1 ≤ a1_1) = false := decide_eq_false c22
                clear c22
                simp only [Option.some.injEq, Prod.mk.injEq] at H
                obtain ⟨rfl, rfl⟩ := H
                have hcz38_0 : wr.cell? ⟨gb562, 0, none⟩ = some (.int .i64 a1_0) := (blk_cell BK562.out 0).trans rfl
                have hcz38_1 : wr.cell? ⟨gb562, 1, none⟩ = some (.int .i64 a1_1) := (blk_cell BK562.out 1).trans rfl
                have hcz38_2 : wr.cell? ⟨gb562, 2, none⟩ = some (.int .i64 a1_2) := (blk_cell BK562.out 2).trans rfl
                have hcz38_3 : wr.cell? ⟨gb562, 3, none⟩ = some (.int .i64 a1_3) := (blk_cell BK562.out 3).trans rfl
                have hfz38_0 := blk_frozen BK562.out 0
                have hfz38_1 := blk_frozen BK562.out 1
                have hfz38_2 := blk_frozen BK562.out 2
                have hfz38_3 := blk_frozen BK562.out 3
                go_wp2
                go_ret2
                exact ⟨by first | rfl | (simp [errW_none, errW_some] <;> rfl) | (simp [*, errW_none, errW_some] <;> rfl), by repeat (first | (with_reducible first | exact HB.out | apply below_alloc | apply pw_below_drewN | apply below_drew1 | refine below_set ?_ GE562.out) | exact HB.out)⟩
        · replace c14 := Bool.eq_false_iff.mpr c14
          subst c14
          have H1 : (some (0, 4)) = some (r1, r2) := by rw [if_neg (show ¬ (false = true) by decide)] at H; exact H
          clear H
          have H := H1
          clear H1
          simp only [Option.some.injEq, Prod.mk.injEq] at H
          obtain ⟨rfl, rfl⟩ := H
          go_enter Try.func41, Try.ntmps41
          go_wp2_with (first | ((with_reducible refine gate_dst (N := 3) rfl ?_); refine box_event ?hg (N := 3) ?hd (cs := #[.int .i64 a1_0, .int .i64 a1_1, .int .i64 a1_2, .int .i64 a1_3]) (t := 52) ?hr ?_; (case hd => rfl); (case hg => rfl); (case hr => first | (go_simp; done) | (go_simp; rfl)); intro gb562 hg w39 hbox hb; have n0_ := Aside0.mk (below_step (by repeat (first | (with_reducible first | exact HB.out | apply below_alloc | apply pw_below_drewN | apply below_drew1) | exact HB.out)) hb); have n1_ := Aside0.mk (hbox); have n2_ := Aside0.mk ((by rw [hg]; exact (below_size (by repeat (first | (with_reducible first | exact HB.out | apply below_alloc | apply pw_below_drewN | apply below_drew1) | exact HB.out))) : w.heap.size ≤ gb562)); have n3_ := Aside0.mk ((by rw [hg]; exact (below_size (by repeat (first | (with_reducible first | exact HB.out | apply below_alloc | apply pw_below_drewN | apply below_drew1) | exact HB.out))) : w.heap.size ≤ gb562)); clear HB; have HB := n0_; have BK562 := n1_; have GW562 := n2_; have GE562 := n3_; clear n0_ n1_ n2_ n3_; clear hb hbox hg) | ((with_reducible refine gate_callee (f := 94) rfl ?_); refine goesL_ (some 15) rfl rfl Try.func94 (by kernel_rfl) rfl #[.slice A0 l0.length c0, .int .i64 3] rfl (by (try simp only [List.map_toArray, List.map_cons, List.map_nil]); first | done | rfl | (simp only [List.length_drop, List.length_take]; rfl)) ?_; (with_reducible refine (boundstoneref02_points.calls k _ _ l0 3 t563 _ ?side1 ?side2 A3.out).mono ?_); (case side1 => repeat (first | exact (Kd.C_below HR0.out HB.out) | (with_reducible refine Kd.C_alloc ?_ _) | (with_reducible refine Kd.C_drewN ?_ _) | (with_reducible refine Kd.C_drew ?_))); (case side2 => exact HC0.out); rintro e w40 ⟨rfl, hb⟩; refine ⟨_, rfl, ?_⟩; have n0_ := Aside0.mk (blk_below (g := gb562) (o := .cells #[.int .i64 a1_0, .int .i64 a1_1, .int .i64 a1_2, .int .i64 a1_3] 52 (0, 0)) (by (with_reducible repeat (first | refine blk_drewN ?_ _ | refine blk_drew ?_ | refine blk_alloc ?_ _)); exact BK562.out) hb); have n1_ := Aside0.mk (below_step (by repeat (first | (with_reducible first | exact HB.out | apply below_alloc | apply pw_below_drewN | apply below_drew1 | refine below_set ?_ GE562.out) | exact HB.out)) hb); clear BK562; clear HB; have BK562 := n0_; have HB := n1_; clear n0_ n1_; (try clear hb); (try clear hb2); (try clear hk); (try clear hi); have hcz41_0 : w40.cell? ⟨gb562, 0, none⟩ = some (.int .i64 a1_0) := (blk_cell BK562.out 0).trans rfl; have hcz41_1 : w40.cell? ⟨gb562, 1, none⟩ = some (.int .i64 a1_1) := (blk_cell BK562.out 1).trans rfl; have hcz41_2 : w40.cell? ⟨gb562, 2, none⟩ = some (.int .i64 a1_2) := (blk_cell BK562.out 2).trans rfl; have hcz41_3 : w40.cell? ⟨gb562, 3, none⟩ = some (.int .i64 a1_3) := (blk_cell BK562.out 3).trans rfl; have hfz41_0 := blk_frozen BK562.out 0; have hfz41_1 := blk_frozen BK562.out 1; have hfz41_2 := blk_frozen BK562.out 2; have hfz41_3 := blk_frozen BK562.out 3) | ((with_reducible refine gate_callee (f := 65) rfl ?_); refine goesL_ (some 20) rfl rfl Try.func65 (by kernel_rfl) rfl #[.agg #[.int .i64 a1_0, .int .i64 a1_1, .int .i64 a1_2, .int .i64 a1_3]] rfl (by (try simp only [List.map_toArray, List.map_cons, List.map_nil]); first | done | rfl | (simp only [List.length_drop, List.length_take]; rfl)) ?_; (with_reducible refine (boundstoneref02_Proper.calls a1_0 a1_1 a1_2 a1_3 true _ A5.out).mono ?_); rintro e w42 ⟨rfl, hb⟩; refine ⟨_, rfl, ?_⟩; have n0_ := Aside0.mk (blk_below (g := gb562) (o := .cells #[.int .i64 a1_0, .int .i64 a1_1, .int .i64 a1_2, .int .i64 a1_3] 52 (0, 0)) (by (with_reducible repeat (first | refine blk_drewN ?_ _ | refine blk_drew ?_ | refine blk_alloc ?_ _)); exact BK562.out) hb); have n1_ := Aside0.mk (below_step (by repeat (first | (with_reducible first | exact HB.out | apply below_alloc | apply pw_below_drewN | apply below_drew1 | refine below_set ?_ GE562.out) | exact HB.out)) hb); clear BK562; clear HB; have BK562 := n0_; have HB := n1_; clear n0_ n1_; (try clear hb); (try clear hb2); (try clear hk); (try clear hi); have hcz43_0 : w42.cell? ⟨gb562, 0, none⟩ = some (.int .i64 a1_0) := (blk_cell BK562.out 0).trans rfl; have hcz43_1 : w42.cell? ⟨gb562, 1, none⟩ = some (.int .i64 a1_1) := (blk_cell BK562.out 1).trans rfl; have hcz43_2 : w42.cell? ⟨gb562, 2, none⟩ = some (.int .i64 a1_2) := (blk_cell BK562.out 2).trans rfl; have hcz43_3 : w42.cell? ⟨gb562, 3, none⟩ = some (.int .i64 a1_3) := (blk_cell BK562.out 3).trans rfl; have hfz43_0 := blk_frozen BK562.out 0; have hfz43_1 := blk_frozen BK562.out 1; have hfz43_2 := blk_frozen BK562.out 2; have hfz43_3 := blk_frozen BK562.out 3) | ((with_reducible refine gate_callee (f := 96) rfl ?_); refine goesL_ (some 42) rfl rfl Try.func96 (by kernel_rfl) rfl #[.slice A0 l0.length c0] rfl (by (try simp only [List.map_toArray, List.map_cons, List.map_nil]); first | done | rfl | (simp only [List.length_drop, List.length_take]; rfl)) ?_; (with_reducible refine (boundstoneref02_simple.calls k _ _ l0 false _ ?side1 ?side2 A13.out).mono ?_); (case side1 => repeat (first | exact (Kd.C_below HR0.out HB.out) | (with_reducible refine Kd.C_alloc ?_ _) | (with_reducible refine Kd.C_drewN ?_ _) | (with_reducible refine Kd.C_drew ?_))); (case side2 => exact HC0.out); rintro e w44 ⟨rfl, hb⟩; refine ⟨_, rfl, ?_⟩; have n0_ := Aside0.mk (blk_below (g := gb562) (o := .cells #[.int .i64 a1_0, .int .i64 a1_1, .int .i64 a1_2, .int .i64 a1_3] 52 (0, 0)) (by (with_reducible repeat (first | refine blk_drewN ?_ _ | refine blk_drew ?_ | refine blk_alloc ?_ _)); exact BK562.out) hb); have n1_ := Aside0.mk (below_step (by repeat (first | (with_reducible first | exact HB.out | apply below_alloc | apply pw_below_drewN | apply below_drew1 | refine below_set ?_ GE562.out) | exact HB.out)) hb); clear BK562; clear HB; have BK562 := n0_; have HB := n1_; clear n0_ n1_; (try clear hb); (try clear hb2); (try clear hk); (try clear hi)))
          go_ret2
          exact ⟨by first | rfl | (simp [errW_none, errW_some] <;> rfl) | (simp [*, errW_none, errW_some] <;> rfl), by repeat (first | (with_reducible first | exact HB.out | apply below_alloc | apply pw_below_drewN | apply below_drew1 | refine below_set ?_ GE562.out) | exact HB.out)⟩
    · replace c6 := Bool.eq_false_iff.mpr c6
      subst c6
      have H1 : (some (0, 1)) = some (r1, r2) := by rw [if_neg (show ¬ (false = true) by decide)] at H; exact H
      clear H
      have H := H1
      clear H1
      simp only [Option.some.injEq, Prod.mk.injEq] at H
      obtain ⟨rfl, rfl⟩ := H
      go_enter Try.func41, Try.ntmps41
      go_wp2_with (first | ((with_reducible refine gate_dst (N := 3) rfl ?_); refine box_event ?hg (N := 3) ?hd (cs := #[.int .i64 a1_0, .int .i64 a1_1, .int .i64 a1_2, .int .i64 a1_3]) (t := 52) ?hr ?_; (case hd => rfl); (case hg => rfl); (case hr => first | (go_simp; done) | (go_simp; rfl)); intro gb562 hg w45 hbox hb; have n0_ := Aside0.mk (below_step (by repeat (first | (with_reducible first | exact HB.out | apply below_alloc | apply pw_below_drewN | apply below_drew1) | exact HB.out)) hb); have n1_ := Aside0.mk (hbox); have n2_ := Aside0.mk ((by rw [hg]; exact (below_size (by repeat (first | (with_reducible first | exact HB.out | apply below_alloc | apply pw_below_drewN | apply below_drew1) | exact HB.out))) : w.heap.size ≤ gb562)); have n3_ := Aside0.mk ((by rw [hg]; exact (below_size (by repeat (first | (with_reducible first | exact HB.out | apply below_alloc | apply pw_below_drewN | apply below_drew1) | exact HB.out))) : w.heap.size ≤ gb562)); clear HB; have HB := n0_; have BK562 := n1_; have GW562 := n2_; have GE562 := n3_; clear n0_ n1_ n2_ n3_; clear hb hbox hg) | ((with_reducible refine gate_callee (f := 94) rfl ?_); refine goesL_ (some 15) rfl rfl Try.func94 (by kernel_rfl) rfl #[.slice A0 l0.length c0, .int .i64 3] rfl (by (try simp only [List.map_toArray, List.map_cons, List.map_nil]); first | done | rfl | (simp only [List.length_drop, List.length_take]; rfl)) ?_; (with_reducible refine (boundstoneref02_points.calls k _ _ l0 3 t563 _ ?side1 ?side2 A3.out).mono ?_); (case side1 => repeat (first | exact (Kd.C_below HR0.out HB.out) | (with_reducible refine Kd.C_alloc ?_ _) | (with_reducible refine Kd.C_drewN ?_ _) | (with_reducible refine Kd.C_drew ?_))); (case side2 => exact HC0.out); rintro e w46 ⟨rfl, hb⟩; refine ⟨_, rfl, ?_⟩; have n0_ := Aside0.mk (blk_below (g := gb562) (o := .cells #[.int .i64 a1_0, .int .i64 a1_1, .int .i64 a1_2, .int .i64 a1_3] 52 (0, 0)) (by (with_reducible repeat (first | refine blk_drewN ?_ _ | refine blk_drew ?_ | refine blk_alloc ?_ _)); exact BK562.out) hb); have n1_ := Aside0.mk (below_step (by repeat (first | (with_reducible first | exact HB.out | apply below_alloc | apply pw_below_drewN | apply below_drew1 | refine below_set ?_ GE562.out) | exact HB.out)) hb); clear BK562; clear HB; have BK562 := n0_; have HB := n1_; clear n0_ n1_; (try clear hb); (try clear hb2); (try clear hk); (try clear hi); have hcz47_0 : w46.cell? ⟨gb562, 0, none⟩ = some (.int .i64 a1_0) := (blk_cell BK562.out 0).trans rfl; have hcz47_1 : w46.cell? ⟨gb562, 1, none⟩ = some (.int .i64 a1_1) := (blk_cell BK562.out 1).trans rfl; have hcz47_2 : w46.cell? ⟨gb562, 2, none⟩ = some (.int .i64 a1_2) := (blk_cell BK562.out 2).trans rfl; have hcz47_3 : w46.cell? ⟨gb562, 3, none⟩ = some (.int .i64 a1_3) := (blk_cell BK562.out 3).trans rfl; have hfz47_0 := blk_frozen BK562.out 0; have hfz47_1 := blk_frozen BK562.out 1; have hfz47_2 := blk_frozen BK562.out 2; have hfz47_3 := blk_frozen BK562.out 3) | ((with_reducible refine gate_callee (f := 65) rfl ?_); refine goesL_ (some 20) rfl rfl Try.func65 (by kernel_rfl) rfl #[.agg #[.int .i64 a1_0, .int .i64 a1_1, .int .i64 a1_2, .int .i64 a1_3]] rfl (by (try simp only [List.map_toArray, List.map_cons, List.map_nil]); first | done | rfl | (simp only [List.length_drop, List.length_take]; rfl)) ?_; (with_reducible refine (boundstoneref02_Proper.calls a1_0 a1_1 a1_2 a1_3 false _ A5.out).mono ?_); rintro e w48 ⟨rfl, hb⟩; refine ⟨_, rfl, ?_⟩; have n0_ := Aside0.mk (blk_below (g := gb562) (o := .cells #[.int .i64 a1_0, .int .i64 a1_1, .int .i64 a1_2, .int .i64 a1_3] 52 (0, 0)) (by (with_reducible repeat (first | refine blk_drewN ?_ _ | refine blk_drew ?_ | refine blk_alloc ?_ _)); exact BK562.out) hb); have n1_ := Aside0.mk (below_step (by repeat (first | (with_reducible first | exact HB.out | apply below_alloc | apply pw_below_drewN | apply below_drew1 | refine below_set ?_ GE562.out) | exact HB.out)) hb); clear BK562; clear HB; have BK562 := n0_; have HB := n1_; clear n0_ n1_; (try clear hb); (try clear hb2); (try clear hk); (try clear hi)))
      go_ret2
      exact ⟨by first | rfl | (simp [errW_none, errW_some] <;> rfl) | (simp [*, errW_none, errW_some] <;> rfl), by repeat (first | (with_reducible first | exact HB.out | apply below_alloc | apply pw_below_drewN | apply below_drew1 | refine below_set ?_ GE562.out) | exact HB.out)⟩
  · rw [if_neg c4] at H
    have c4b0 : (t563 == 0) = false := beq_eq_false_iff_ne.mpr c4
    have c4b1 : (t563 != 0) = true := bne_iff_ne.mpr c4
    simp only [Option.some.injEq, Prod.mk.injEq] at H
    obtain ⟨rfl, rfl⟩ := H
    go_enter Try.func41, Try.ntmps41
    go_wp2_with (first | ((with_reducible refine gate_dst (N := 3) rfl ?_); refine box_event ?hg (N := 3) ?hd (cs := #[.int .i64 a1_0, .int .i64 a1_1, .int .i64 a1_2, .int .i64 a1_3]) (t := 52) ?hr ?_; (case hd => rfl); (case hg => rfl); (case hr => first | (go_simp; done) | (go_simp; rfl)); intro gb562 hg w49 hbox hb; have n0_ := Aside0.mk (below_step (by repeat (first | (with_reducible first | exact HB.out | apply below_alloc | apply pw_below_drewN | apply below_drew1) | exact HB.out)) hb); have n1_ := Aside0.mk (hbox); have n2_ := Aside0.mk ((by rw [hg]; exact (below_size (by repeat (first | (with_reducible first | exact HB.out | apply below_alloc | apply pw_below_drewN | apply below_drew1) | exact HB.out))) : w.heap.size ≤ gb562)); have n3_ := Aside0.mk ((by rw [hg]; exact (below_size (by repeat (first | (with_reducible first | exact HB.out | apply below_alloc | apply pw_below_drewN | apply below_drew1) | exact HB.out))) : w.heap.size ≤ gb562)); clear HB; have HB := n0_; have BK562 := n1_; have GW562 := n2_; have GE562 := n3_; clear n0_ n1_ n2_ n3_; clear hb hbox hg) | ((with_reducible refine gate_callee (f := 94) rfl ?_); refine goesL_ (some 15) rfl rfl Try.func94 (by kernel_rfl) rfl #[.slice A0 l0.length c0, .int .i64 3] rfl (by (try simp only [List.map_toArray, List.map_cons, List.map_nil]); first | done | rfl | (simp only [List.length_drop, List.length_take]; rfl)) ?_; (with_reducible refine (boundstoneref02_points.calls k _ _ l0 3 t563 _ ?side1 ?side2 A3.out).mono ?_); (case side1 => repeat (first | exact (Kd.C_below HR0.out HB.out) | (with_reducible refine Kd.C_alloc ?_ _) | (with_reducible refine Kd.C_drewN ?_ _) | (with_reducible refine Kd.C_drew ?_))); (case side2 => exact HC0.out); rintro e w50 ⟨rfl, hb⟩; refine ⟨_, rfl, ?_⟩; have n0_ := Aside0.mk (blk_below (g := gb562) (o := .cells #[.int .i64 a1_0, .int .i64 a1_1, .int .i64 a1_2, .int .i64 a1_3] 52 (0, 0)) (by (with_reducible repeat (first | refine blk_drewN ?_ _ | refine blk_drew ?_ | refine blk_alloc ?_ _)); exact BK562.out) hb); have n1_ := Aside0.mk (below_step (by repeat (first | (with_reducible first | exact HB.out | apply below_alloc | apply pw_below_drewN | apply below_drew1 | refine below_set ?_ GE562.out) | exact HB.out)) hb); clear BK562; clear HB; have BK562 := n0_; have HB := n1_; clear n0_ n1_; (try clear hb); (try clear hb2); (try clear hk); (try clear hi)))
    go_ret2
    exact ⟨by first | rfl | (simp [errW_none, errW_some] <;> rfl) | (simp [*, errW_none, errW_some] <;> rfl), by repeat (first | (with_reducible first | exact HB.out | apply below_alloc | apply pw_below_drewN | apply below_drew1 | refine below_set ?_ GE562.out) | exact HB.out)⟩
end Go.Proofs.Ytckaejgamfllfaa.G
end

section
namespace Go.Proofs.Ytckaejgamfllfaa.G
open Go.RowKit Go.Proofs.YtckaejgamfllfaaW.PrintWords Go.Proofs.YtckaejgamfllfaaW.PrintLast Go.Proofs.YtckaejgamfllfaaW.PrintMore
attribute [local go_sem] max2_int min2_int max_two min_two max_three min_three max_four min_four
set_option linter.unusedVariables false
set_option linter.unusedSimpArgs false
def boundstonelaw02_PlaneSidesAsSpecified.f (k : Nat) (l0 : List (S23)) (a1_0 : Int) (a1_1 : Int) (a1_2 : Int) (a1_3 : Int) : Option (Bool) := (boundstonelaw02_few.f l0).bind fun t384 => (if t384 = true then ((plane_Sides.f k l0 a1_0 a1_1 a1_2 a1_3).bind fun bt386 => ((boundstoneref02_Sides.f k l0 a1_0 a1_1 a1_2 a1_3).bind fun bt388 => ((boundstonelaw02_sanity.f k).bind fun t390 => (if t390 = true then (if bt386.1 = bt388.1 then (some (bt386.2 == bt388.2)) else (none)) else (none))))) else ((boundstonelaw02_sanity.f k).bind fun t385 => (some t385)))
set_option maxHeartbeats 8000000 in
set_option maxRecDepth 100000 in
theorem boundstonelaw02_PlaneSidesAsSpecified.calls (k : Nat) (A0 : Option Addr) (c0 : Nat) (l0 : List (S23)) (a1_0 : Int) (a1_1 : Int) (a1_2 : Int) (a1_3 : Int) (r : Bool) (w : World) (hr0 : Kd.C k23 w A0 l0.length l0) (hc0 : l0.length ≤ c0) (h : boundstonelaw02_PlaneSidesAsSpecified.f k l0 a1_0 a1_1 a1_2 a1_3 = some r) :
    Calls Try.prog 9 #[.slice A0 l0.length c0, .agg #[.int .i64 a1_0, .int .i64 a1_1, .int .i64 a1_2, .int .i64 a1_3]] w fun e w' => e = .returned (.bool r) ∧ Below w.heap.size w w' := by
  have hu52 := Try.underlying52
  have HR0 := Aside0.mk hr0
  have HC0 := Aside0.mk hc0
  clear hr0 hc0
  have HB := Aside0.mk (Below.refl w.heap.size w)
  have H : ((boundstonelaw02_few.f l0).bind fun t384 => (if t384 = true then ((plane_Sides.f k l0 a1_0 a1_1 a1_2 a1_3).bind fun bt386 => ((boundstoneref02_Sides.f k l0 a1_0 a1_1 a1_2 a1_3).bind fun bt388 => ((boundstonelaw02_sanity.f k).bind fun t390 => (if t390 = true then (if bt386.1 = bt388.1 then (some (bt386.2 == bt388.2)) else (none)) else (none))))) else ((boundstonelaw02_sanity.f k).bind fun t385 => (some t385)))) = some r := h
  clear h
  replace H := Option.bind_eq_some_iff.mp H
  obtain ⟨t384, A30, H⟩ := H
  replace H : (if t384 = true then ((plane_Sides.f k l0 a1_0 a1_1 a1_2 a1_3).bind fun bt386 => ((boundstoneref02_Sides.f k l0 a1_0 a1_1 a1_2 a1_3).bind fun bt388 => ((boundstonelaw02_sanity.f k).bind fun t390 => (if t390 = true then (if bt386.1 = bt388.1 then (some (bt386.2 == bt388.2)) else (none)) else (none))))) else ((boundstonelaw02_sanity.f k).bind fun t385 => (some t385))) = some r := H
  have A3 := Aside0.mk A30
  clear A30
  by_cases c4 : t384 = true
  · subst c4
    have H1 : ((plane_Sides.f k l0 a1_0 a1_1 a1_2 a1_3).bind fun bt386 => ((boundstoneref02_Sides.f k l0 a1_0 a1_1 a1_2 a1_3).bind fun bt388 => ((boundstonelaw02_sanity.f k).bind fun t390 => (if t390 = true then (if bt386.1 = bt388.1 then (some (bt386.2 == bt388.2)) else (none)) else (none))))) = some r := by rw [if_pos rfl] at H; exact H
    clear H
    have H := H1
    clear H1
    replace H := Option.bind_eq_some_iff.mp H
    obtain ⟨⟨t386, t387⟩, A50, H⟩ := H
    replace H : ((boundstoneref02_Sides.f k l0 a1_0 a1_1 a1_2 a1_3).bind fun bt388 => ((boundstonelaw02_sanity.f k).bind fun t390 => (if t390 = true then (if t386 = bt388.1 then (some (t387 == bt388.2)) else (none)) else (none)))) = some r := H
    have A5 := Aside0.mk A50
    clear A50
    replace H := Option.bind_eq_some_iff.mp H
    obtain ⟨⟨t388, t389⟩, A60, H⟩ := H
    replace H : ((boundstonelaw02_sanity.f k).bind fun t390 => (if t390 = true then (if t386 = t388 then (some (t387 == t389)) else (none)) else (none))) = some r := H
    have A6 := Aside0.mk A60
    clear A60
    replace H := Option.bind_eq_some_iff.mp H
    obtain ⟨t390, A70, H⟩ := H
    replace H : (if t390 = true then (if t386 = t388 then (some (t387 == t389)) else (none)) else (none)) = some r := H
    have A7 := Aside0.mk A70
    clear A70
    by_cases c8 : t390 = true
    · subst c8
      have H1 : (if t386 = t388 then (some (t387 == t389)) else (none)) = some r := by rw [if_pos rfl] at H; exact H
      clear H
      have H := H1
      clear H1
      by_cases c9 : t386 = t388
      · rw [if_pos c9] at H
        have c9b0 : (t386 == t388) = true := beq_iff_eq.mpr c9
        have c9b1 : (t386 != t388) = false := bne_eq_false_iff_eq.mpr c9
        clear c9
        obtain rfl := Option.some.inj H
        go_enter Try.func9, Try.ntmps9
        go_wp2_with (first | ((with_reducible refine gate_dst (N := 3) rfl ?_); refine box_event ?hg (N := 3) ?hd (cs := #[.int .i64 a1_0, .int .i64 a1_1, .int .i64 a1_2, .int .i64 a1_3]) (t := 52) ?hr ?_; (case hd => rfl); (case hg => rfl); (case hr => first | (go_simp; done) | (go_simp; rfl)); intro gb383 hg w10 hbox hb; have n0_ := Aside0.mk (below_step (by repeat (first | (with_reducible first | exact HB.out | apply below_alloc | apply pw_below_drewN | apply below_drew1) | exact HB.out)) hb); have n1_ := Aside0.mk (hbox); have n2_ := Aside0.mk ((by rw [hg]; exact (below_size (by repeat (first | (with_reducible first | exact HB.out | apply below_alloc | apply pw_below_drewN | apply below_drew1) | exact HB.out))) : w.heap.size ≤ gb383)); have n3_ := Aside0.mk ((by rw [hg]; exact (below_size (by repeat (first | (with_reducible first | exact HB.out | apply below_alloc | apply pw_below_drewN | apply below_drew1) | exact HB.out))) : w.heap.size ≤ gb383)); clear HB; have HB := n0_; have BK383 := n1_; have GW383 := n2_; have GE383 := n3_; clear n0_ n1_ n2_ n3_; clear hb hbox hg) | ((with_reducible refine gate_callee (f := 30) rfl ?_); refine goesL_ (some 10) rfl rfl Try.func30 (by kernel_rfl) rfl #[.slice A0 l0.length c0] rfl (by (try simp only [List.map_toArray, List.map_cons, List.map_nil]); first | done | rfl | (simp only [List.length_drop, List.length_take]; rfl)) ?_; (with_reducible refine (boundstonelaw02_few.calls _ _ l0 true _ ?side1 ?side2 A3.out).mono ?_); (case side1 => repeat (first | exact (Kd.C_below HR0.out HB.out) | (with_reducible refine Kd.C_alloc ?_ _) | (with_reducible refine Kd.C_drewN ?_ _) | (with_reducible refine Kd.C_drew ?_))); (case side2 => exact HC0.out); rintro e w' ⟨rfl, ⟨nd, rfl⟩⟩; refine ⟨_, rfl, ?_⟩; have hcz11_0 : w10.cell? ⟨gb383, 0, none⟩ = some (.int .i64 a1_0) := (blk_cell BK383.out 0).trans rfl; have hcz11_1 : w10.cell? ⟨gb383, 1, none⟩ = some (.int .i64 a1_1) := (blk_cell BK383.out 1).trans rfl; have hcz11_2 : w10.cell? ⟨gb383, 2, none⟩ = some (.int .i64 a1_2) := (blk_cell BK383.out 2).trans rfl; have hcz11_3 : w10.cell? ⟨gb383, 3, none⟩ = some (.int .i64 a1_3) := (blk_cell BK383.out 3).trans rfl; have hfz11_0 := blk_frozen BK383.out 0; have hfz11_1 := blk_frozen BK383.out 1; have hfz11_2 := blk_frozen BK383.out 2; have hfz11_3 := blk_frozen BK383.out 3) | ((with_reducible refine gate_callee (f := 40) rfl ?_); refine goesL_ (some 16) rfl rfl Try.func40 (by kernel_rfl) rfl #[.slice A0 l0.length c0, .agg #[.int .i64 a1_0, .int .i64 a1_1, .int .i64 a1_2, .int .i64 a1_3]] rfl (by (try simp only [List.map_toArray, List.map_cons, List.map_nil]); first | done | rfl | (simp only [List.length_drop, List.length_take]; rfl)) ?_; (with_reducible refine (plane_Sides.calls k _ _ l0 a1_0 a1_1 a1_2 a1_3 t386 t387 _ ?side1 ?side2 A5.out).mono ?_); (case side1 => repeat (first | exact (Kd.C_below HR0.out (by repeat (first | (with_reducible first | exact HB.out | apply below_alloc | apply pw_below_drewN | apply below_drew1 | refine below_set ?_ GE383.out) | exact HB.out))) | (with_reducible refine Kd.C_alloc ?_ _) | (with_reducible refine Kd.C_drewN ?_ _) | (with_reducible refine Kd.C_drew ?_))); (case side2 => exact HC0.out); rintro e w12 ⟨rfl, hb⟩; refine ⟨_, rfl, ?_⟩; have n0_ := Aside0.mk (blk_below (g := gb383) (o := .cells #[.int .i64 a1_0, .int .i64 a1_1, .int .i64 a1_2, .int .i64 a1_3] 52 (0, 0)) (by (with_reducible repeat (first | refine blk_drewN ?_ _ | refine blk_drew ?_ | refine blk_alloc ?_ _)); exact BK383.out) hb); have n1_ := Aside0.mk (below_step (by repeat (first | (with_reducible first | exact HB.out | apply below_alloc | apply pw_below_drewN | apply below_drew1 | refine below_set ?_ GE383.out) | exact HB.out)) hb); clear BK383; clear HB; have BK383 := n0_; have HB := n1_; clear n0_ n1_; (try clear hb); (try clear hb2); (try clear hk); (try clear hi); have hcz13_0 : w12.cell? ⟨gb383, 0, none⟩ = some (.int .i64 a1_0) := (blk_cell BK383.out 0).trans rfl; have hcz13_1 : w12.cell? ⟨gb383, 1, none⟩ = some (.int .i64 a1_1) := (blk_cell BK383.out 1).trans rfl; have hcz13_2 : w12.cell? ⟨gb383, 2, none⟩ = some (.int .i64 a1_2) := (blk_cell BK383.out 2).trans rfl; have hcz13_3 : w12.cell? ⟨gb383, 3, none⟩ = some (.int .i64 a1_3) := (blk_cell BK383.out 3).trans rfl; have hfz13_0 := blk_frozen BK383.out 0; have hfz13_1 := blk_frozen BK383.out 1; have hfz13_2 := blk_frozen BK383.out 2; have hfz13_3 := blk_frozen BK383.out 3) | ((with_reducible refine gate_callee (f := 41) rfl ?_); refine goesL_ (some 22) rfl rfl Try.func41 (by kernel_rfl) rfl #[.slice A0 l0.length c0, .agg #[.int .i64 a1_0, .int .i64 a1_1, .int .i64 a1_2, .int .i64 a1_3]] rfl (by (try simp only [List.map_toArray, List.map_cons, List.map_nil]); first | done | rfl | (simp only [List.length_drop, List.length_take]; rfl)) ?_; (with_reducible refine (boundstoneref02_Sides.calls k _ _ l0 a1_0 a1_1 a1_2 a1_3 t388 t389 _ ?side1 ?side2 A6.out).mono ?_); (case side1 => repeat (first | exact (Kd.C_below HR0.out HB.out) | (with_reducible refine Kd.C_alloc ?_ _) | (with_reducible refine Kd.C_drewN ?_ _) | (with_reducible refine Kd.C_drew ?_))); (case side2 => exact HC0.out); rintro e w14 ⟨rfl, hb⟩; refine ⟨_, rfl, ?_⟩; have n0_ := Aside0.mk (blk_below (g := gb383) (o := .cells #[.int .i64 a1_0, .int .i64 a1_1, .int .i64 a1_2, .int .i64 a1_3] 52 (0, 0)) (by (with_reducible repeat (first | refine blk_drewN ?_ _ | refine blk_drew ?_ | refine blk_alloc ?_ _)); exact BK383.out) hb); have n1_ := Aside0.mk (below_step (by repeat (first | (with_reducible first | exact HB.out | apply below_alloc | apply pw_below_drewN | apply below_drew1 | refine below_set ?_ GE383.out) | exact HB.out)) hb); clear BK383; clear HB; have BK383 := n0_; have HB := n1_; clear n0_ n1_; (try clear hb); (try clear hb2); (try clear hk); (try clear hi)) | ((with_reducible refine gate_callee (f := 16) rfl ?_); refine goesL_ (some 25) rfl rfl Try.func16 (by kernel_rfl) rfl #[] rfl (by (try simp only [List.map_toArray, List.map_cons, List.map_nil]); first | done | rfl | (simp only [List.length_drop, List.length_take]; rfl)) ?_; (with_reducible refine (boundstonelaw02_sanity.calls k  true _ A7.out).mono ?_); rintro e w15 ⟨rfl, hb⟩; refine ⟨_, rfl, ?_⟩; have n0_ := Aside0.mk (blk_below (g := gb383) (o := .cells #[.int .i64 a1_0, .int .i64 a1_1, .int .i64 a1_2, .int .i64 a1_3] 52 (0, 0)) (by (with_reducible repeat (first | refine blk_drewN ?_ _ | refine blk_drew ?_ | refine blk_alloc ?_ _)); exact BK383.out) hb); have n1_ := Aside0.mk (below_step (by repeat (first | (with_reducible first | exact HB.out | apply below_alloc | apply pw_below_drewN | apply below_drew1 | refine below_set ?_ GE383.out) | exact HB.out)) hb); clear BK383; clear HB; have BK383 := n0_; have HB := n1_; clear n0_ n1_; (try clear hb); (try clear hb2); (try clear hk); (try clear hi)))
        go_ret
        exact ⟨by first | rfl | (simp [errW_none, errW_some] <;> rfl) | (simp [*, errW_none, errW_some] <;> rfl), by repeat (first | (with_reducible first | exact HB.out | apply below_alloc | apply pw_below_drewN | apply below_drew1 | refine below_set ?_ GE383.out) | exact HB.out)⟩
      · rw [if_neg c9] at H
        exact absurd H (by simp)
    · replace c8 := Bool.eq_false_iff.mpr c8
      subst c8
      have H1 : (none) = some r := by rw [if_neg (show ¬ (false = true) by decide)] at H; exact H
      clear H
      have H := H1
      clear H1
      exact absurd H (by simp)
  · replace c4 := Bool.eq_false_iff.mpr c4
    subst c4
    have H1 : ((boundstonelaw02_sanity.f k).bind fun t385 => (some t385)) = some r := by rw [if_neg (show ¬ (false = true) by decide)] at H; exact H
    clear H
    have H := H1
    clear H1
    replace H := Option.bind_eq_some_iff.mp H
    obtain ⟨t385, A160, H⟩ := H
    replace H : (some t385) = some r := H
    have A16 := Aside0.mk A160
    clear A160
    obtain rfl := Option.some.inj H
    go_enter Try.func9, Try.ntmps9
    go_wp2_with (first | ((with_reducible refine gate_dst (N := 3) rfl ?_); refine box_event ?hg (N := 3) ?hd (cs := #[.int .i64 a1_0, .int .i64 a1_1, .int .i64 a1_2, .int .i64 a1_3]) (t := 52) ?hr ?_; (case hd => rfl); (case hg => rfl); (case hr => first | (go_simp; done) | (go_simp; rfl)); intro gb383 hg w17 hbox hb; have n0_ := Aside0.mk (below_step (by repeat (first | (with_reducible first | exact HB.out | apply below_alloc | apply pw_below_drewN | apply below_drew1) | exact HB.out)) hb); have n1_ := Aside0.mk (hbox); have n2_ := Aside0.mk ((by rw [hg]; exact (below_size (by repeat (first | (with_reducible first | exact HB.out | apply below_alloc | apply pw_below_drewN | apply below_drew1) | exact HB.out))) : w.heap.size ≤ gb383)); have n3_ := Aside0.mk ((by rw [hg]; exact (below_size (by repeat (first | (with_reducible first | exact HB.out | apply below_alloc | apply pw_below_drewN | apply below_drew1) | exact HB.out))) : w.heap.size ≤ gb383)); clear HB; have HB := n0_; have BK383 := n1_; have GW383 := n2_; have GE383 := n3_; clear n0_ n1_ n2_ n3_; clear hb hbox hg) | ((with_reducible refine gate_callee (f := 30) rfl ?_); refine goesL_ (some 10) rfl rfl Try.func30 (by kernel_rfl) rfl #[.slice A0 l0.length c0] rfl (by (try simp only [List.map_toArray, List.map_cons, List.map_nil]); first | done | rfl | (simp only [List.length_drop, List.length_take]; rfl)) ?_; (with_reducible refine (boundstonelaw02_few.calls _ _ l0 false _ ?side1 ?side2 A3.out).mono ?_); (case side1 => repeat (first | exact (Kd.C_below HR0.out HB.out) | (with_reducible refine Kd.C_alloc ?_ _) | (with_reducible refine Kd.C_drewN ?_ _) | (with_reducible refine Kd.C_drew ?_))); (case side2 => exact HC0.out); rintro e w' ⟨rfl, ⟨nd, rfl⟩⟩; refine ⟨_, rfl, ?_⟩) | ((with_reducible refine gate_callee (f := 16) rfl ?_); refine goesL_ (some 12) rfl rfl Try.func16 (by kernel_rfl) rfl #[] rfl (by (try simp only [List.map_toArray, List.map_cons, List.map_nil]); first | done | rfl | (simp only [List.length_drop, List.length_take]; rfl)) ?_; (with_reducible refine (boundstonelaw02_sanity.calls k  t385 _ A16.out).mono ?_); rintro e w18 ⟨rfl, hb⟩; refine ⟨_, rfl, ?_⟩; have n0_ := Aside0.mk (blk_below (g := gb383) (o := .cells #[.int .i64 a1_0, .int .i64 a1_1, .int .i64 a1_2, .int .i64 a1_3] 52 (0, 0)) (by (with_reducible repeat (first | refine blk_drewN ?_ _ | refine blk_drew ?_ | refine blk_alloc ?_ _)); exact BK383.out) hb); have n1_ := Aside0.mk (below_step (by repeat (first | (with_reducible first | exact HB.out | apply below_alloc | apply pw_below_drewN | apply below_drew1 | refine below_set ?_ GE383.out) | exact HB.out)) hb); clear BK383; clear HB; have BK383 := n0_; have HB := n1_; clear n0_ n1_; (try clear hb); (try clear hb2); (try clear hk); (try clear hi)))
    go_ret
    exact ⟨by first | rfl | (simp [errW_none, errW_some] <;> rfl) | (simp [*, errW_none, errW_some] <;> rfl), by repeat (first | (with_reducible first | exact HB.out | apply below_alloc | apply pw_below_drewN | apply below_drew1 | refine below_set ?_ GE383.out) | exact HB.out)⟩
end Go.Proofs.Ytckaejgamfllfaa.G
end

section
namespace Go.Proofs.Ytckaejgamfllfaa.G
open Go.RowKit Go.Proofs.YtckaejgamfllfaaW.PrintWords Go.Proofs.YtckaejgamfllfaaW.PrintLast Go.Proofs.YtckaejgamfllfaaW.PrintMore
def spanP (a b : Int) : Bool := decide (-1048576 ≤ a) && decide (a ≤ b) && decide (b ≤ 1048576)
def properB (a b c d : Int) : Bool := spanP a b && spanP c d
theorem plane_span_eq (a b : Int) : plane_span.f a b = some (spanP a b) := by
  unfold plane_span.f plane_within.f spanP
  by_cases h1 : -1048576 ≤ a <;> by_cases h2 : a ≤ 1048576 <;> by_cases h3 : a ≤ b <;> by_cases h4 : b ≤ 1048576 <;> first | (simp [h1, h2, h3, h4]; done) | omega
theorem plane_Proper_eq (a b c d : Int) : plane_Proper.f a b c d = some (properB a b c d) := by
  unfold plane_Proper.f properB
  rw [plane_span_eq, plane_span_eq]
  cases spanP a b <;> simp
theorem ref_Proper_eq (a b c d : Int) : boundstoneref02_Proper.f a b c d = some (properB a b c d) := by
  unfold boundstoneref02_Proper.f properB spanP
  rw [ref_Valid_eq, ref_Valid_eq]
  unfold validP
  simp only [Option.bind_some]
  by_cases h1 : -1048576 ≤ a <;> by_cases h2 : a ≤ 1048576 <;> by_cases h3 : a ≤ b <;> by_cases h4 : b ≤ 1048576 <;> by_cases h5 : -1048576 ≤ b <;> (try omega) <;>
  by_cases k1 : -1048576 ≤ c <;> by_cases k2 : c ≤ 1048576 <;> by_cases k3 : c ≤ d <;> by_cases k4 : d ≤ 1048576 <;> by_cases k5 : -1048576 ≤ d <;> first | omega | (simp [h1, h2, h3, h4, h5, k1, k2, k3, k4, k5]; done)
theorem ref_where_z (l : List S23) (x y : Int) (hl : l.length ≤ 200) (k : Nat) (hk : 1000 ≤ k) : boundstoneref02_where.f k l x y = some (whereZ l ⟨x, y⟩) := by
  have e1 := ref_along_eq ⟨x, y⟩ l (by omega) k (by omega)
  have e2 := ref_winding_eq ⟨x, y⟩ l (by omega) k (by omega)
  unfold boundstoneref02_where.f whereZ
  rw [show boundstoneref02_along.f k l x y = _ from e1, show boundstoneref02_winding.f k l x y = _ from e2]
  simp only [Option.bind_some]
  split
  · rfl
  · split <;> rfl
def enc9 (s : Bool × Bool × Bool) : Int := if s.1 then 1 else 0
def enc10 (s : Bool × Bool × Bool) : Int := if s.2.1 then 2 else 0
def enc11 (s : Bool × Bool × Bool) : Int := if s.2.2 then 4 else 0
theorem side_l1 (l : List S23) (hl : l.length ≤ 200) (x b0 b1 b2 b3 : Int) (h0 : -1048576 ≤ b2) (h3 : b3 ≤ 1048576) (F : Nat) (hF : 1000 ≤ F) (R : Int × Int) :
    ∀ (n : Nat) (y : Int) (k : Nat) (s : Bool × Bool × Bool), (b3 - y + 1).toNat = n → b2 ≤ y → n + 1 + F ≤ k →
    (∀ k, F ≤ k → boundstoneref02_Sides.l0 k l (enc9 (sideCol l x n y s)) (enc10 (sideCol l x n y s)) (enc11 (sideCol l x n y s)) (wrap64 (x + 1)) b0 b1 b2 b3 = some R) →
    boundstoneref02_Sides.l1 k l (enc9 s) (enc10 s) (enc11 s) x y b0 b1 b2 b3 = some R := by
  intro n
  induction n with
  | zero =>
    intro y k s hn hy hk next
    obtain ⟨k, rfl⟩ : ∃ m, k = m + 1 := ⟨k - 1, by omega⟩
    simp only [boundstoneref02_Sides.l1]
    rw [if_neg (by omega)]
    exact next k (by omega)
  | succ n ih =>
    intro y k s hn hy hk next
    obtain ⟨k, rfl⟩ : ∃ m, k = m + 1 := ⟨k - 1, by omega⟩
    simp only [boundstoneref02_Sides.l1]
    rw [if_pos (by omega), ref_where_z l x y hl k (by omega), wrap_s (by omega) (by omega)]
    simp only [Option.bind_some]
    simp only [sideCol] at next
    have step := ih (y + 1) k (sideStep l s ⟨x, y⟩) (by omega) (by omega) (by omega) next
    rcases whereZ_range l ⟨x, y⟩ with hz | hz | hz
    · rw [hz, if_pos rfl]
      rw [show sideStep l s ⟨x, y⟩ = (true, s.2.1, s.2.2) by unfold sideStep; rw [hz]; rfl] at step
      exact step
    · rw [hz, if_neg (by decide), if_pos rfl]
      rw [show sideStep l s ⟨x, y⟩ = (s.1, true, s.2.2) by unfold sideStep; rw [hz]; rfl] at step
      exact step
    · rw [hz, if_neg (by decide), if_neg (by decide), if_pos rfl]
      rw [show sideStep l s ⟨x, y⟩ = (s.1, s.2.1, true) by unfold sideStep; rw [hz]; rfl] at step
      exact step
theorem enc_sum (s : Bool × Bool × Bool) : wrap64 (wrap64 (enc9 s + enc10 s) + enc11 s) = sideSum s := by
  unfold enc9 enc10 enc11 sideSum
  obtain ⟨a, b, c⟩ := s
  cases a <;> cases b <;> cases c <;> kernel_rfl
theorem side_l0 (l : List S23) (hl : l.length ≤ 200) (b0 b1 b2 b3 : Int) (g0 : -1048576 ≤ b0) (g1 : b1 ≤ 1048576) (h0 : -1048576 ≤ b2) (h3 : b3 ≤ 1048576) :
    ∀ (m : Nat) (x : Int) (k : Nat) (s : Bool × Bool × Bool), (b1 - x + 1).toNat = m → b0 ≤ x → m * ((b3 - b2 + 1).toNat + 2) + 1001 ≤ k →
    boundstoneref02_Sides.l0 k l (enc9 s) (enc10 s) (enc11 s) x b0 b1 b2 b3 = some (sideSum (sideRows l b2 b3 m x s), 0) := by
  intro m
  induction m with
  | zero =>
    intro x k s hm hx hk
    obtain ⟨k, rfl⟩ : ∃ m, k = m + 1 := ⟨k - 1, by omega⟩
    simp only [boundstoneref02_Sides.l0]
    rw [if_neg (by omega), enc_sum]; rfl
  | succ m ih =>
    intro x k s hm hx hk
    obtain ⟨k, rfl⟩ : ∃ m, k = m + 1 := ⟨k - 1, by omega⟩
    simp only [boundstoneref02_Sides.l0]
    rw [if_pos (by omega)]
    have hmm : (m + 1) * ((b3 - b2 + 1).toNat + 2) = m * ((b3 - b2 + 1).toNat + 2) + ((b3 - b2 + 1).toNat + 2) := by rw [Nat.add_mul, Nat.one_mul]
    obtain ⟨F, hF⟩ : ∃ F, m * ((b3 - b2 + 1).toNat + 2) + 1001 = F := ⟨_, rfl⟩
    rw [hF] at ih
    have f1 : 1000 ≤ F := by omega
    have f2 : (b3 - b2 + 1).toNat + 1 + F ≤ k := by omega
    refine side_l1 l hl x b0 b1 b2 b3 h0 h3 F f1 _ (b3 - b2 + 1).toNat b2 k s rfl (Int.le_refl _) f2 ?_
    intro k' hk'
    have hx1 : x ≤ b1 := by omega
    rw [wrap_s (x := x) (by omega) (by omega)]
    exact ih (x + 1) k' _ (by omega) (by omega) hk'
theorem area_bound {m n : Int} (hm : 1 ≤ m) (hn : 1 ≤ n) (h : m * n ≤ 4096) : m.toNat * (n.toNat + 2) ≤ 12288 := by
  obtain ⟨a, rfl⟩ : ∃ a : Nat, m = a := ⟨m.toNat, by omega⟩
  obtain ⟨b, rfl⟩ : ∃ b : Nat, n = b := ⟨n.toNat, by omega⟩
  have h1 : a * b ≤ 4096 := by
    have : ((a * b : Nat) : Int) ≤ 4096 := by rw [Int.natCast_mul]; exact h
    omega
  have h2 : a * 1 ≤ a * b := Nat.mul_le_mul_left a (by omega)
  rw [Int.toNat_natCast, Int.toNat_natCast, Nat.mul_add]
  omega
theorem properB_true {a b c d : Int} (h : properB a b c d = true) : -1048576 ≤ a ∧ a ≤ b ∧ b ≤ 1048576 ∧ -1048576 ≤ c ∧ c ≤ d ∧ d ≤ 1048576 :=
  proper_true (by rw [plane_Proper_eq, h])
theorem grid_wrap {a b c d : Int} (h : properB a b c d = true) : wrap64 (wrap64 (wrap64 (b - a) + 1) * wrap64 (wrap64 (d - c) + 1)) = (b - a + 1) * (d - c + 1) := by
  obtain ⟨q0, q1, q2, q3, q4, q5⟩ := properB_true h
  have h1 := @mul_bd (b - a + 1) (d - c + 1) 2097153 (by omega) (by omega) (by omega) (by omega)
  rw [wrap_small (x := b - a) (by omega) (by omega), wrap_small (x := d - c) (by omega) (by omega), wrap_small (x := b - a + 1) (by omega) (by omega), wrap_small (x := d - c + 1) (by omega) (by omega), wrap_small (by omega) (by omega)]
def SidesR (l : List S23) (b0 b1 b2 b3 : Int) : Int × Int :=
  if ringOk l = 0 then (if properB b0 b1 b2 b3 then (if (b1 - b0 + 1) * (b3 - b2 + 1) > 4096 then (0, 2) else if simpleP l then (sidesP l b0 b1 b2 b3, 0) else (0, 4)) else (0, 1)) else (0, ringOk l)
theorem plane_Sides_eq (l : List S23) (b0 b1 b2 b3 : Int) (k : Nat) (hk : 1 ≤ k) : plane_Sides.f k l b0 b1 b2 b3 = some (SidesR l b0 b1 b2 b3) := by
  unfold plane_Sides.f SidesR
  rw [plane_ring_none l k hk, plane_Proper_eq]
  simp only [Option.bind_some]
  by_cases h : ringOk l = 0
  · rw [if_pos h, if_pos h]
    have := (ringOk_len h).2.1
    cases hp : properB b0 b1 b2 b3
    · simp
    · rw [if_pos rfl, if_pos rfl, grid_wrap hp]
      split
      · rfl
      · unfold plane_simple.f
        rw [if_pos (by omega)]
        simp only [Option.bind_some]
        split <;> rfl
  · rw [if_neg h, if_neg h]
theorem ref_Sides_eq (l : List S23) (b0 b1 b2 b3 : Int) (k : Nat) (hk : 121000 ≤ k) : boundstoneref02_Sides.f k l b0 b1 b2 b3 = some (SidesR l b0 b1 b2 b3) := by
  unfold boundstoneref02_Sides.f SidesR
  rw [ref_points_eq l k (by omega), ref_Proper_eq]
  simp only [Option.bind_some]
  by_cases h : ringOk l = 0
  · rw [if_pos h, if_pos h]
    obtain ⟨h3, h4, _⟩ := ringOk_len h
    have := fuel_simple h4
    cases hp : properB b0 b1 b2 b3
    · simp
    · rw [if_pos rfl, if_pos rfl, grid_wrap hp]
      split
      · rfl
      · rename_i hg
        rw [ref_simple_eq l h3 (by omega) k (by omega)]
        simp only [Option.bind_some]
        split
        · obtain ⟨q0, q1, q2, q3, q4, q5⟩ := properB_true hp
          have hb := area_bound (m := b1 - b0 + 1) (n := b3 - b2 + 1) (by omega) (by omega) (by omega)
          exact side_l0 l h4 b0 b1 b2 b3 q0 q2 q3 q5 _ b0 k (false, false, false) rfl (Int.le_refl _) (by omega)
        · rfl
  · rw [if_neg h, if_neg h]
theorem law9 (l : List S23) (b0 b1 b2 b3 : Int) : boundstonelaw02_PlaneSidesAsSpecified.f 121000 l b0 b1 b2 b3 = some true := by
  unfold boundstonelaw02_PlaneSidesAsSpecified.f
  have hb : ∃ b, boundstonelaw02_few.f l = some b := by
    unfold boundstonelaw02_few.f
    split <;> exact ⟨_, rfl⟩
  obtain ⟨b, hb⟩ := hb
  rw [hb, sanity_mono (by omega)]
  cases b with
  | false => rfl
  | true =>
    rw [plane_Sides_eq l _ _ _ _ _ (by omega), ref_Sides_eq l _ _ _ _ _ (by omega)]
    simp
end Go.Proofs.Ytckaejgamfllfaa.G
end

section
namespace Go.Proofs.Ytckaejgamfllfaa.G
open Go.ChangeShapes Go.WideShapes Go.ChangeAt Go.RowKit Go.Deep Go.Proofs.YtckaejgamfllfaaW.PrintWords
variable {H : Type} {enc : TypeId × Value → H} {w : World} {base : Nat} {spare : Nat → Bool} {held : Bool}
theorem cells50 : Try.prog.cellsOf 50 = 2 := by kernel_rfl
theorem span_cs {fuel : Nat} {cs : List Value} {x : DataW H × List MemPlace} (h : DataW.trod enc Try.prog w base spare held fuel 50 cs = some x) :
    ∃ a b : Int, cs = [.int .i64 a, .int .i64 b] ∧ I64 a ∧ I64 b := by
  obtain ⟨y0, y1, n, _, hl, h0, h1⟩ := trod_struct2 Try.underlying50 h
  rw [cells50] at hl
  obtain ⟨c0, c1, rfl⟩ := list2 hl
  rw [cells3] at h0 h1
  obtain ⟨a, e0, _, wa⟩ := DataW.trod_int Try.underlying3 h0
  obtain ⟨b, e1, _, wb⟩ := DataW.trod_int Try.underlying3 h1
  simp at e0 e1
  subst e0 e1
  exact ⟨a, b, rfl, .of_wf wa, .of_wf wb⟩
theorem cells52 : Try.prog.cellsOf 52 = 4 := by kernel_rfl
theorem box_cs {fuel : Nat} {cs : List Value} {x : DataW H × List MemPlace} (h : DataW.trod enc Try.prog w base spare held fuel 52 cs = some x) :
    ∃ a b c d : Int, cs = [.int .i64 a, .int .i64 b, .int .i64 c, .int .i64 d] ∧ (I64 a ∧ I64 b) ∧ I64 c ∧ I64 d := by
  obtain ⟨y0, y1, n, _, hl, h0, h1⟩ := trod_struct2 Try.underlying52 h
  rw [cells52] at hl
  obtain ⟨c0, c1, c2, c3, rfl⟩ := list4 hl
  rw [cells50] at h0 h1
  obtain ⟨a, b, e0, wp⟩ := span_cs h0
  obtain ⟨c, d, e1, wq⟩ := span_cs h1
  simp at e0 e1
  obtain ⟨rfl, rfl⟩ := e0
  obtain ⟨rfl, rfl⟩ := e1
  exact ⟨a, b, c, d, rfl, wp, wq⟩
set_option maxRecDepth 100000 in
theorem open_box {r : Reach} {b0 : Nat} {v : Value} {d : DataW H} {ps : List MemPlace} (hv : Value.okWide Try.prog w r b0 52 v) (h : DataW.Trod enc Try.prog w base spare held 52 v d ps) :
    ∃ x0 x1 x2 x3 : Int, v = .agg #[.int .i64 x0, .int .i64 x1, .int .i64 x2, .int .i64 x3] ∧ (I64 x0 ∧ I64 x1) ∧ I64 x2 ∧ I64 x3 := by
  obtain ⟨cs, rfl, _⟩ := okWide_struct Try.underlying52 hv
  obtain ⟨fuel, hf⟩ := h
  obtain ⟨a, b, c, d, e, hp⟩ := box_cs hf
  exact ⟨a, b, c, d, by rw [arr_of_list e], hp⟩
end Go.Proofs.Ytckaejgamfllfaa.G
end
