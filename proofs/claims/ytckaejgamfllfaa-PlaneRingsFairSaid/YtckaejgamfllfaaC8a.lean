/- Part 1 of 2. -/
import Derived.Test.YtckaejgamfllfaaBd
import Derived.KernelRfl
import Derived.ProofKit
import Derived.OpenShut
import Derived.ChangeOld
import Derived.Below
import Derived.SizedLaws
import Derived.Deep.Slices
section
namespace Go.Proofs.Ytckaejgamfllfaa.G
open Go.RowKit Go.Proofs.YtckaejgamfllfaaW.PrintWords Go.Proofs.YtckaejgamfllfaaW.PrintLast Go.Proofs.YtckaejgamfllfaaW.PrintMore
attribute [local go_sem] max2_int min2_int max_two min_two max_three min_three max_four min_four
set_option linter.unusedVariables false
set_option linter.unusedSimpArgs false
def plane_Winding.f (k : Nat) (l0 : List (S23)) (a1_0 : Int) (a1_1 : Int) : Option (Int × Int) := (plane_ring.f k l0 (([(⟨a1_0, a1_1⟩ : S23)] : List (S23)))).bind fun t465 => (if t465 = 0 then ((plane_border.f l0 a1_0 a1_1).bind fun t466 => (if t466 = true then (some (0, 4)) else ((plane_winding.f l0 a1_0 a1_1).bind fun t467 => (some (t467, 0))))) else (some (0, t465)))
set_option maxHeartbeats 8000000 in
set_option maxRecDepth 100000 in
theorem plane_Winding.calls (k : Nat) (A0 : Option Addr) (c0 : Nat) (l0 : List (S23)) (a1_0 : Int) (a1_1 : Int) (r1 : Int) (r2 : Int) (w : World) (hr0 : Kd.C k23 w A0 l0.length l0) (hc0 : l0.length ≤ c0) (h : plane_Winding.f k l0 a1_0 a1_1 = some (r1, r2)) :
    Calls Try.prog 35 #[.slice A0 l0.length c0, .agg #[.int .i64 a1_0, .int .i64 a1_1]] w fun e w' => e = .returned (.tuple #[.int .i64 r1, .int .i64 r2]) ∧ Below w.heap.size w w' := by
  have hu23 := Try.underlying23
  have HR0 := Aside0.mk hr0
  have HC0 := Aside0.mk hc0
  clear hr0 hc0
  have HB := Aside0.mk (Below.refl w.heap.size w)
  have H : ((plane_ring.f k l0 (([(⟨a1_0, a1_1⟩ : S23)] : List (S23)))).bind fun t465 => (if t465 = 0 then ((plane_border.f l0 a1_0 a1_1).bind fun t466 => (if t466 = true then (some (0, 4)) else ((plane_winding.f l0 a1_0 a1_1).bind fun t467 => (some (t467, 0))))) else (some (0, t465)))) = some (r1, r2) := h
  clear h
  obtain ⟨y462, hy462⟩ : ∃ y_ : List (S23), y_ = (([(⟨a1_0, a1_1⟩ : S23)] : List (S23))) := ⟨_, rfl⟩
  replace H : ((plane_ring.f k l0 y462).bind fun t465 => (if t465 = 0 then ((plane_border.f l0 a1_0 a1_1).bind fun t466 => (if t466 = true then (some (0, 4)) else ((plane_winding.f l0 a1_0 a1_1).bind fun t467 => (some (t467, 0))))) else (some (0, t465)))) = some (r1, r2) := by first | (rw [hy462]; with_reducible exact H) | (have H2_ := (Option.bind_some _ _).symm.trans H; rw [hy462]; with_reducible exact H2_) | (have H2_ := (Option.bind_some _ _).symm.trans H; with_reducible exact H2_) | with_reducible exact H | (rw [hy462]; exact H) | exact H
  have Ny462 := Aside0.mk hy462
  clear hy462
  replace H := Option.bind_eq_some_iff.mp H
  obtain ⟨t465, A30, H⟩ := H
  replace H : (if t465 = 0 then ((plane_border.f l0 a1_0 a1_1).bind fun t466 => (if t466 = true then (some (0, 4)) else ((plane_winding.f l0 a1_0 a1_1).bind fun t467 => (some (t467, 0))))) else (some (0, t465))) = some (r1, r2) := H
  have A3 := Aside0.mk A30
  clear A30
  by_cases c4 : t465 = 0
  · rw [if_pos c4] at H
    have c4b0 : (t465 == 0) = true := beq_iff_eq.mpr c4
    have c4b1 : (t465 != 0) = false := bne_eq_false_iff_eq.mpr c4
    clear c4
    replace H := Option.bind_eq_some_iff.mp H
    obtain ⟨t466, A50, H⟩ := H
    replace H : (if t466 = true then (some (0, 4)) else ((plane_winding.f l0 a1_0 a1_1).bind fun t467 => (some (t467, 0)))) = some (r1, r2) := H
    have A5 := Aside0.mk A50
    clear A50
    by_cases c6 : t466 = true
    · subst c6
      have H1 : (some (0, 4)) = some (r1, r2) := by rw [if_pos rfl] at H; exact H
      clear H
      have H := H1
      clear H1
      simp only [Option.some.injEq, Prod.mk.injEq] at H
      obtain ⟨rfl, rfl⟩ := H
      go_enter Try.func35, Try.ntmps35
      go_wp2_with (first | ((with_reducible refine gate_dst (N := 3) rfl ?_); refine box_event ?hg (N := 3) ?hd (cs := #[.int .i64 a1_0, .int .i64 a1_1]) (t := 23) ?hr ?_; (case hd => rfl); (case hg => rfl); (case hr => first | (go_simp; done) | (go_simp; rfl)); intro gb461 hg w7 hbox hb; have n0_ := Aside0.mk (below_step (by repeat (first | (with_reducible first | exact HB.out | apply below_alloc | apply pw_below_drewN | apply below_drew1) | exact HB.out)) hb); have n1_ := Aside0.mk (hbox); have n2_ := Aside0.mk ((by rw [hg]; exact (below_size (by repeat (first | (with_reducible first | exact HB.out | apply below_alloc | apply pw_below_drewN | apply below_drew1) | exact HB.out))) : w.heap.size ≤ gb461)); have n3_ := Aside0.mk ((by rw [hg]; exact (below_size (by repeat (first | (with_reducible first | exact HB.out | apply below_alloc | apply pw_below_drewN | apply below_drew1) | exact HB.out))) : w.heap.size ≤ gb461)); clear HB; have HB := n0_; have BK461 := n1_; have GW461 := n2_; have GE461 := n3_; clear n0_ n1_ n2_ n3_; clear hb hbox hg; have hcz8_0 : w7.cell? ⟨gb461, 0, none⟩ = some (.int .i64 a1_0) := (blk_cell BK461.out 0).trans rfl; have hcz8_1 : w7.cell? ⟨gb461, 1, none⟩ = some (.int .i64 a1_1) := (blk_cell BK461.out 1).trans rfl; have hfz8_0 := blk_frozen BK461.out 0; have hfz8_1 := blk_frozen BK461.out 1) | ((with_reducible refine gate_dst (N := 9) rfl ?_); refine Kd.R_lit k23 _ 23 ?hg (N := 9) ?hd (xs := ([(⟨a1_0, a1_1⟩ : S23)] : List (S23))) (inner := [.int .i64 a1_0, .int .i64 a1_1]) (ok := fun _ => True) (okp := fun _ => True) ?hr ?hp (fun _ hk => hk) trivial (Below.refl _ _) (Nat.le_refl _) (by simp) ?_; (case hd => rfl); (case hg => rfl); (case hr => first | (go_simp; done) | (go_simp; rfl)); (case hp => exact (Reps.c2 (show Kd.M k23 _ _ _ (⟨a1_0, a1_1⟩ : S23) [.int .i64 a1_0, .int .i64 a1_1] from (k23_mkM _ _ _ (⟨a1_0, a1_1⟩ : S23) )) (Reps.none _ _))); intro v463 w9 ho10 hb hg_ hnew_; clear hg_ hnew_; (first | rw [← Ny462.out] at ho10 | (simp only [Int.reduceToNat] at ho10; rw [← Ny462.out] at ho10)); have n0_ := Aside0.mk (Kd.R_lower (Kd.R_newB ho10 (g := gb461) (o := .cells #[.int .i64 a1_0, .int .i64 a1_1] 23 (0, 0)) (by (with_reducible repeat (first | refine blk_drewN ?_ _ | refine blk_drew ?_ | refine blk_alloc ?_ _)); exact BK461.out)) (below_size (by repeat (first | (with_reducible first | exact HB.out | apply below_alloc | apply pw_below_drewN | apply below_drew1 | refine below_set ?_ GE461.out) | exact HB.out)))); have n1_ := Aside0.mk (blk_below (g := gb461) (o := .cells #[.int .i64 a1_0, .int .i64 a1_1] 23 (0, 0)) (by (with_reducible repeat (first | refine blk_drewN ?_ _ | refine blk_drew ?_ | refine blk_alloc ?_ _)); exact BK461.out) hb); have n2_ := Aside0.mk (below_step (by repeat (first | (with_reducible first | exact HB.out | apply below_alloc | apply pw_below_drewN | apply below_drew1 | refine below_set ?_ GE461.out) | exact HB.out)) hb); clear BK461; clear HB; have HO464 := n0_; have BK461 := n1_; have HB := n2_; clear n0_ n1_ n2_; clear hb ho10; obtain ⟨Ao11, co11, eo11⟩ := Kd.R_slice HO464.out; subst eo11) | ((with_reducible refine gate_callee (f := 92) rfl ?_); refine goesL_ (some 10) rfl rfl Try.func92 (by kernel_rfl) rfl #[.slice A0 l0.length c0, .slice Ao11 y462.length co11] rfl (by (try simp only [List.map_toArray, List.map_cons, List.map_nil]); first | done | rfl | (simp only [List.length_drop, List.length_take]; rfl)) ?_; (with_reducible refine (plane_ring.calls k _ _ l0 _ _ y462 t465 _ ?side1 ?side2 ?side3 ?side4 A3.out).mono ?_); (case side1 => repeat (first | exact (Kd.C_below HR0.out HB.out) | (with_reducible refine Kd.C_alloc ?_ _) | (with_reducible refine Kd.C_drewN ?_ _) | (with_reducible refine Kd.C_drew ?_))); (case side2 => exact HC0.out); (case side3 => repeat (first | exact (Kd.R_reads' HO464.out).2.2 | (with_reducible refine Kd.C_alloc ?_ _) | (with_reducible refine Kd.C_drewN ?_ _) | (with_reducible refine Kd.C_drew ?_))); (case side4 => exact (Kd.R_reads' HO464.out).2.1); rintro e w12 ⟨rfl, hb⟩; refine ⟨_, rfl, ?_⟩; have n0_ := Aside0.mk (Kd.R_below (by (with_reducible repeat (first | apply Kd.R_alloc | apply Kd.R_drewN | apply Kd.R_drew)); exact HO464.out) hb); have n1_ := Aside0.mk (blk_below (g := gb461) (o := .cells #[.int .i64 a1_0, .int .i64 a1_1] 23 (0, 0)) (by (with_reducible repeat (first | refine blk_drewN ?_ _ | refine blk_drew ?_ | refine blk_alloc ?_ _)); exact BK461.out) hb); have n2_ := Aside0.mk (below_step (by repeat (first | (with_reducible first | exact HB.out | apply below_alloc | apply pw_below_drewN | apply below_drew1 | refine below_set ?_ GE461.out) | exact HB.out)) hb); clear HO464; clear BK461; clear HB; have HO464 := n0_; have BK461 := n1_; have HB := n2_; clear n0_ n1_ n2_; (try clear hb); (try clear hb2); (try clear hk); (try clear hi); have hcz13_0 : w12.cell? ⟨gb461, 0, none⟩ = some (.int .i64 a1_0) := (blk_cell BK461.out 0).trans rfl; have hcz13_1 : w12.cell? ⟨gb461, 1, none⟩ = some (.int .i64 a1_1) := (blk_cell BK461.out 1).trans rfl; have hfz13_0 := blk_frozen BK461.out 0; have hfz13_1 := blk_frozen BK461.out 1) | ((with_reducible refine gate_callee (f := 97) rfl ?_); refine goesL_ (some 16) rfl rfl Try.func97 (by kernel_rfl) rfl #[.slice A0 l0.length c0, .agg #[.int .i64 a1_0, .int .i64 a1_1]] rfl (by (try simp only [List.map_toArray, List.map_cons, List.map_nil]); first | done | rfl | (simp only [List.length_drop, List.length_take]; rfl)) ?_; (with_reducible refine (plane_border.calls _ _ l0 a1_0 a1_1 true _ ?side1 ?side2 A5.out).mono ?_); (case side1 => repeat (first | exact (Kd.C_below HR0.out HB.out) | (with_reducible refine Kd.C_alloc ?_ _) | (with_reducible refine Kd.C_drewN ?_ _) | (with_reducible refine Kd.C_drew ?_))); (case side2 => exact HC0.out); rintro e w14 ⟨rfl, hb⟩; refine ⟨_, rfl, ?_⟩; have n0_ := Aside0.mk (Kd.R_below (by (with_reducible repeat (first | apply Kd.R_alloc | apply Kd.R_drewN | apply Kd.R_drew)); exact HO464.out) hb); have n1_ := Aside0.mk (blk_below (g := gb461) (o := .cells #[.int .i64 a1_0, .int .i64 a1_1] 23 (0, 0)) (by (with_reducible repeat (first | refine blk_drewN ?_ _ | refine blk_drew ?_ | refine blk_alloc ?_ _)); exact BK461.out) hb); have n2_ := Aside0.mk (below_step (by repeat (first | (with_reducible first | exact HB.out | apply below_alloc | apply pw_below_drewN | apply below_drew1 | refine below_set ?_ GE461.out) | exact HB.out)) hb); clear HO464; clear BK461; clear HB; have HO464 := n0_; have BK461 := n1_; have HB := n2_; clear n0_ n1_ n2_; (try clear hb); (try clear hb2); (try clear hk); (try clear hi)))
      go_ret2
      exact ⟨by first | rfl | (simp [errW_none, errW_some] <;> rfl) | (simp [*, errW_none, errW_some] <;> rfl), by repeat (first | (with_reducible first | exact HB.out | apply below_alloc | apply pw_below_drewN | apply below_drew1 | refine below_set ?_ GE461.out) | exact HB.out)⟩
    · replace c6 := Bool.eq_false_iff.mpr c6
      subst c6
      have H1 : ((plane_winding.f l0 a1_0 a1_1).bind fun t467 => (some (t467, 0))) = some (r1, r2) := by rw [if_neg (show ¬ (false = true) by decide)] at H; exact H
      clear H
      have H := H1
      clear H1
      replace H := Option.bind_eq_some_iff.mp H
      obtain ⟨t467, A150, H⟩ := H
      replace H : (some (t467, 0)) = some (r1, r2) := H
      have A15 := Aside0.mk A150
      clear A150
      simp only [Option.some.injEq, Prod.mk.injEq] at H
      obtain ⟨rfl, rfl⟩ := H
      go_enter Try.func35, Try.ntmps35
      go_wp2_with (first | ((with_reducible refine gate_dst (N := 3) rfl ?_); refine box_event ?hg (N := 3) ?hd (cs := #[.int .i64 a1_0, .int .i64 a1_1]) (t := 23) ?hr ?_; (case hd => rfl); (case hg => rfl); (case hr => first | (go_simp; done) | (go_simp; rfl)); intro gb461 hg w16 hbox hb; have n0_ := Aside0.mk (below_step (by repeat (first | (with_reducible first | exact HB.out | apply below_alloc | apply pw_below_drewN | apply below_drew1) | exact HB.out)) hb); have n1_ := Aside0.mk (hbox); have n2_ := Aside0.mk ((by rw [hg]; exact (below_size (by repeat (first | (with_reducible first | exact HB.out | apply below_alloc | apply pw_below_drewN | apply below_drew1) | exact HB.out))) : w.heap.size ≤ gb461)); have n3_ := Aside0.mk ((by rw [hg]; exact (below_size (by repeat (first | (with_reducible first | exact HB.out | apply below_alloc | apply pw_below_drewN | apply below_drew1) | exact HB.out))) : w.heap.size ≤ gb461)); clear HB; have HB := n0_; have BK461 := n1_; have GW461 := n2_; have GE461 := n3_; clear n0_ n1_ n2_ n3_; clear hb hbox hg; have hcz17_0 : w16.cell? ⟨gb461, 0, none⟩ = some (.int .i64 a1_0) := (blk_cell BK461.out 0).trans rfl; have hcz17_1 : w16.cell? ⟨gb461, 1, none⟩ = some (.int .i64 a1_1) := (blk_cell BK461.out 1).trans rfl; have hfz17_0 := blk_frozen BK461.out 0; have hfz17_1 := blk_frozen BK461.out 1) | ((with_reducible refine gate_dst (N := 9) rfl ?_); refine Kd.R_lit k23 _ 23 ?hg (N := 9) ?hd (xs := ([(⟨a1_0, a1_1⟩ : S23)] : List (S23))) (inner := [.int .i64 a1_0, .int .i64 a1_1]) (ok := fun _ => True) (okp := fun _ => True) ?hr ?hp (fun _ hk => hk) trivial (Below.refl _ _) (Nat.le_refl _) (by simp) ?_; (case hd => rfl); (case hg => rfl); (case hr => first | (go_simp; done) | (go_simp; rfl)); (case hp => exact (Reps.c2 (show Kd.M k23 _ _ _ (⟨a1_0, a1_1⟩ : S23) [.int .i64 a1_0, .int .i64 a1_1] from (k23_mkM _ _ _ (⟨a1_0, a1_1⟩ : S23) )) (Reps.none _ _))); intro v463 w18 ho19 hb hg_ hnew_; clear hg_ hnew_; (first | rw [← Ny462.out] at ho19 | (simp only [Int.reduceToNat] at ho19; rw [← Ny462.out] at ho19)); have n0_ := Aside0.mk (Kd.R_lower (Kd.R_newB ho19 (g := gb461) (o := .cells #[.int .i64 a1_0, .int .i64 a1_1] 23 (0, 0)) (by (with_reducible repeat (first | refine blk_drewN ?_ _ | refine blk_drew ?_ | refine blk_alloc ?_ _)); exact BK461.out)) (below_size (by repeat (first | (with_reducible first | exact HB.out | apply below_alloc | apply pw_below_drewN | apply below_drew1 | refine below_set ?_ GE461.out) | exact HB.out)))); have n1_ := Aside0.mk (blk_below (g := gb461) (o := .cells #[.int .i64 a1_0, .int .i64 a1_1] 23 (0, 0)) (by (with_reducible repeat (first | refine blk_drewN ?_ _ | refine blk_drew ?_ | refine blk_alloc ?_ _)); exact BK461.out) hb); have n2_ := Aside0.mk (below_step (by repeat (first | (with_reducible first | exact HB.out | apply below_alloc | apply pw_below_drewN | apply below_drew1 | refine below_set ?_ GE461.out) | exact HB.out)) hb); clear BK461; clear HB; have HO464 := n0_; have BK461 := n1_; have HB := n2_; clear n0_ n1_ n2_; clear hb ho19; obtain ⟨Ao20, co20, eo20⟩ := Kd.R_slice HO464.out; subst eo20) | ((with_reducible refine gate_callee (f := 92) rfl ?_); refine goesL_ (some 10) rfl rfl Try.func92 (by kernel_rfl) rfl #[.slice A0 l0.length c0, .slice Ao20 y462.length co20] rfl (by (try simp only [List.map_toArray, List.map_cons, List.map_nil]); first | done | rfl | (simp only [List.length_drop, List.length_take]; rfl)) ?_; (with_reducible refine (plane_ring.calls k _ _ l0 _ _ y462 t465 _ ?side1 ?side2 ?side3 ?side4 A3.out).mono ?_); (case side1 => repeat (first | exact (Kd.C_below HR0.out HB.out) | (with_reducible refine Kd.C_alloc ?_ _) | (with_reducible refine Kd.C_drewN ?_ _) | (with_reducible refine Kd.C_drew ?_))); (case side2 => exact HC0.out); (case side3 => repeat (first | exact (Kd.R_reads' HO464.out).2.2 | (with_reducible refine Kd.C_alloc ?_ _) | (with_reducible refine Kd.C_drewN ?_ _) | (with_reducible refine Kd.C_drew ?_))); (case side4 => exact (Kd.R_reads' HO464.out).2.1); rintro e w21 ⟨rfl, hb⟩; refine ⟨_, rfl, ?_⟩; have n0_ := Aside0.mk (Kd.R_below (by (with_reducible repeat (first | apply Kd.R_alloc | apply Kd.R_drewN | apply Kd.R_drew)); exact HO464.out) hb); have n1_ := Aside0.mk (blk_below (g := gb461) (o := .cells #[.int .i64 a1_0, .int .i64 a1_1] 23 (0, 0)) (by (with_reducible repeat (first | refine blk_drewN ?_ _ | refine blk_drew ?_ | refine blk_alloc ?_ _)); exact BK461.out) hb); have n2_ := Aside0.mk (below_step (by repeat (first | (with_reducible first | exact HB.out | apply below_alloc | apply pw_below_drewN | apply below_drew1 | refine below_set ?_ GE461.out) | exact HB.out)) hb); clear HO464; clear BK461; clear HB; have HO464 := n0_; have BK461 := n1_; have HB := n2_; clear n0_ n1_ n2_; (try clear hb); (try clear hb2); (try clear hk); (try clear hi); have hcz22_0 : w21.cell? ⟨gb461, 0, none⟩ = some (.int .i64 a1_0) := (blk_cell BK461.out 0).trans rfl; have hcz22_1 : w21.cell? ⟨gb461, 1, none⟩ = some (.int .i64 a1_1) := (blk_cell BK461.out 1).trans rfl; have hfz22_0 := blk_frozen BK461.out 0; have hfz22_1 := blk_frozen BK461.out 1) | ((with_reducible refine gate_callee (f := 97) rfl ?_); refine goesL_ (some 16) rfl rfl Try.func97 (by kernel_rfl) rfl #[.slice A0 l0.length c0, .agg #[.int .i64 a1_0, .int .i64 a1_1]] rfl (by (try simp only [List.map_toArray, List.map_cons, List.map_nil]); first | done | rfl | (simp only [List.length_drop, List.length_take]; rfl)) ?_; (with_reducible refine (plane_border.calls _ _ l0 a1_0 a1_1 false _ ?side1 ?side2 A5.out).mono ?_); (case side1 => repeat (first | exact (Kd.C_below HR0.out HB.out) | (with_reducible refine Kd.C_alloc ?_ _) | (with_reducible refine Kd.C_drewN ?_ _) | (with_reducible refine Kd.C_drew ?_))); (case side2 => exact HC0.out); rintro e w23 ⟨rfl, hb⟩; refine ⟨_, rfl, ?_⟩; have n0_ := Aside0.mk (Kd.R_below (by (with_reducible repeat (first | apply Kd.R_alloc | apply Kd.R_drewN | apply Kd.R_drew)); exact HO464.out) hb); have n1_ := Aside0.mk (blk_below (g := gb461) (o := .cells #[.int .i64 a1_0, .int .i64 a1_1] 23 (0, 0)) (by (with_reducible repeat (first | refine blk_drewN ?_ _ | refine blk_drew ?_ | refine blk_alloc ?_ _)); exact BK461.out) hb); have n2_ := Aside0.mk (below_step (by repeat (first | (with_reducible first | exact HB.out | apply below_alloc | apply pw_below_drewN | apply below_drew1 | refine below_set ?_ GE461.out) | exact HB.out)) hb); clear HO464; clear BK461; clear HB; have HO464 := n0_; have BK461 := n1_; have HB := n2_; clear n0_ n1_ n2_; (try clear hb); (try clear hb2); (try clear hk); (try clear hi); have hcz24_0 : w23.cell? ⟨gb461, 0, none⟩ = some (.int .i64 a1_0) := (blk_cell BK461.out 0).trans rfl; have hcz24_1 : w23.cell? ⟨gb461, 1, none⟩ = some (.int .i64 a1_1) := (blk_cell BK461.out 1).trans rfl; have hfz24_0 := blk_frozen BK461.out 0; have hfz24_1 := blk_frozen BK461.out 1) | ((with_reducible refine gate_callee (f := 98) rfl ?_); refine goesL_ (some 19) rfl rfl Try.func98 (by kernel_rfl) rfl #[.slice A0 l0.length c0, .agg #[.int .i64 a1_0, .int .i64 a1_1]] rfl (by (try simp only [List.map_toArray, List.map_cons, List.map_nil]); first | done | rfl | (simp only [List.length_drop, List.length_take]; rfl)) ?_; (with_reducible refine (plane_winding.calls _ _ l0 a1_0 a1_1 t467 _ ?side1 ?side2 A15.out).mono ?_); (case side1 => repeat (first | exact (Kd.C_below HR0.out HB.out) | (with_reducible refine Kd.C_alloc ?_ _) | (with_reducible refine Kd.C_drewN ?_ _) | (with_reducible refine Kd.C_drew ?_))); (case side2 => exact HC0.out); rintro e w25 ⟨rfl, hb⟩; refine ⟨_, rfl, ?_⟩; have n0_ := Aside0.mk (Kd.R_below (by (with_reducible repeat (first | apply Kd.R_alloc | apply Kd.R_drewN | apply Kd.R_drew)); exact HO464.out) hb); have n1_ := Aside0.mk (blk_below (g := gb461) (o := .cells #[.int .i64 a1_0, .int .i64 a1_1] 23 (0, 0)) (by (with_reducible repeat (first | refine blk_drewN ?_ _ | refine blk_drew ?_ | refine blk_alloc ?_ _)); exact BK461.out) hb); have n2_ := Aside0.mk (below_step (by repeat (first | (with_reducible first | exact HB.out | apply below_alloc | apply pw_below_drewN | apply below_drew1 | refine below_set ?_ GE461.out) | exact HB.out)) hb); clear HO464; clear BK461; clear HB; have HO464 := n0_; have BK461 := n1_; have HB := n2_; clear n0_ n1_ n2_; (try clear hb); (try clear hb2); (try clear hk); (try clear hi)))
      go_ret2
      exact ⟨by first | rfl | (simp [errW_none, errW_some] <;> rfl) | (simp [*, errW_none, errW_some] <;> rfl), by repeat (first | (with_reducible first | exact HB.out | apply below_alloc | apply pw_below_drewN | apply below_drew1 | refine below_set ?_ GE461.out) | exact HB.out)⟩
  · rw [if_neg c4] at H
    have c4b0 : (t465 == 0) = false := beq_eq_false_iff_ne.mpr c4
    have c4b1 : (t465 != 0) = true := bne_iff_ne.mpr c4
    simp only [Option.some.injEq, Prod.mk.injEq] at H
    obtain ⟨rfl, rfl⟩ := H
    go_enter Try.func35, Try.ntmps35
    go_wp2_with (first | ((with_reducible refine gate_dst (N := 3) rfl ?_); refine box_event ?hg (N := 3) ?hd (cs := #[.int .i64 a1_0, .int .i64 a1_1]) (t := 23) ?hr ?_; (case hd => rfl); (case hg => rfl); (case hr => first | (go_simp; done) | (go_simp; rfl)); intro gb461 hg w26 hbox hb; have n0_ := Aside0.mk (below_step (by repeat (first | (with_reducible first | exact HB.out | apply below_alloc | apply pw_below_drewN | apply below_drew1) | exact HB.out)) hb); have n1_ := Aside0.mk (hbox); have n2_ := Aside0.mk ((by rw [hg]; exact (below_size (by repeat (first | (with_reducible first | exact HB.out | apply below_alloc | apply pw_below_drewN | apply below_drew1) | exact HB.out))) : w.heap.size ≤ gb461)); have n3_ := Aside0.mk ((by rw [hg]; exact (below_size (by repeat (first | (with_reducible first | exact HB.out | apply below_alloc | apply pw_below_drewN | apply below_drew1) | exact HB.out))) : w.heap.size ≤ gb461)); clear HB; have HB := n0_; have BK461 := n1_; have GW461 := n2_; have GE461 := n3_; clear n0_ n1_ n2_ n3_; clear hb hbox hg; have hcz27_0 : w26.cell? ⟨gb461, 0, none⟩ = some (.int .i64 a1_0) := (blk_cell BK461.out 0).trans rfl; have hcz27_1 : w26.cell? ⟨gb461, 1, none⟩ = some (.int .i64 a1_1) := (blk_cell BK461.out 1).trans rfl; have hfz27_0 := blk_frozen BK461.out 0; have hfz27_1 := blk_frozen BK461.out 1) | ((with_reducible refine gate_dst (N := 9) rfl ?_); refine Kd.R_lit k23 _ 23 ?hg (N := 9) ?hd (xs := ([(⟨a1_0, a1_1⟩ : S23)] : List (S23))) (inner := [.int .i64 a1_0, .int .i64 a1_1]) (ok := fun _ => True) (okp := fun _ => True) ?hr ?hp (fun _ hk => hk) trivial (Below.refl _ _) (Nat.le_refl _) (by simp) ?_; (case hd => rfl); (case hg => rfl); (case hr => first | (go_simp; done) | (go_simp; rfl)); (case hp => exact (Reps.c2 (show Kd.M k23 _ _ _ (⟨a1_0, a1_1⟩ : S23) [.int .i64 a1_0, .int .i64 a1_1] from (k23_mkM _ _ _ (⟨a1_0, a1_1⟩ : S23) )) (Reps.none _ _))); intro v463 w28 ho29 hb hg_ hnew_; clear hg_ hnew_; (first | rw [← Ny462.out] at ho29 | (simp only [Int.reduceToNat] at ho29; rw [← Ny462.out] at ho29)); have n0_ := Aside0.mk (Kd.R_lower (Kd.R_newB ho29 (g := gb461) (o := .cells #[.int .i64 a1_0, .int .i64 a1_1] 23 (0, 0)) (by (with_reducible repeat (first | refine blk_drewN ?_ _ | refine blk_drew ?_ | refine blk_alloc ?_ _)); exact BK461.out)) (below_size (by repeat (first | (with_reducible first | exact HB.out | apply below_alloc | apply pw_below_drewN | apply below_drew1 | refine below_set ?_ GE461.out) | exact HB.out)))); have n1_ := Aside0.mk (blk_below (g := gb461) (o := .cells #[.int .i64 a1_0, .int .i64 a1_1] 23 (0, 0)) (by (with_reducible repeat (first | refine blk_drewN ?_ _ | refine blk_drew ?_ | refine blk_alloc ?_ _)); exact BK461.out) hb); have n2_ := Aside0.mk (below_step (by repeat (first | (with_reducible first | exact HB.out | apply below_alloc | apply pw_below_drewN | apply below_drew1 | refine below_set ?_ GE461.out) | exact HB.out)) hb); clear BK461; clear HB; have HO464 := n0_; have BK461 := n1_; have HB := n2_; clear n0_ n1_ n2_; clear hb ho29; obtain ⟨Ao30, co30, eo30⟩ := Kd.R_slice HO464.out; subst eo30) | ((with_reducible refine gate_callee (f := 92) rfl ?_); refine goesL_ (some 10) rfl rfl Try.func92 (by kernel_rfl) rfl #[.slice A0 l0.length c0, .slice Ao30 y462.length co30] rfl (by (try simp only [List.map_toArray, List.map_cons, List.map_nil]); first | done | rfl | (simp only [List.length_drop, List.length_take]; rfl)) ?_; (with_reducible refine (plane_ring.calls k _ _ l0 _ _ y462 t465 _ ?side1 ?side2 ?side3 ?side4 A3.out).mono ?_); (case side1 => repeat (first | exact (Kd.C_below HR0.out HB.out) | (with_reducible refine Kd.C_alloc ?_ _) | (with_reducible refine Kd.C_drewN ?_ _) | (with_reducible refine Kd.C_drew ?_))); (case side2 => exact HC0.out); (case side3 => repeat (first | exact (Kd.R_reads' HO464.out).2.2 | (with_reducible refine Kd.C_alloc ?_ _) | (with_reducible refine Kd.C_drewN ?_ _) | (with_reducible refine Kd.C_drew ?_))); (case side4 => exact (Kd.R_reads' HO464.out).2.1); rintro e w31 ⟨rfl, hb⟩; refine ⟨_, rfl, ?_⟩; have n0_ := Aside0.mk (Kd.R_below (by (with_reducible repeat (first | apply Kd.R_alloc | apply Kd.R_drewN | apply Kd.R_drew)); exact HO464.out) hb); have n1_ := Aside0.mk (blk_below (g := gb461) (o := .cells #[.int .i64 a1_0, .int .i64 a1_1] 23 (0, 0)) (by (with_reducible repeat (first | refine blk_drewN ?_ _ | refine blk_drew ?_ | refine blk_alloc ?_ _)); exact BK461.out) hb); have n2_ := Aside0.mk (below_step (by repeat (first | (with_reducible first | exact HB.out | apply below_alloc | apply pw_below_drewN | apply below_drew1 | refine below_set ?_ GE461.out) | exact HB.out)) hb); clear HO464; clear BK461; clear HB; have HO464 := n0_; have BK461 := n1_; have HB := n2_; clear n0_ n1_ n2_; (try clear hb); (try clear hb2); (try clear hk); (try clear hi)))
    go_ret2
    exact ⟨by first | rfl | (simp [errW_none, errW_some] <;> rfl) | (simp [*, errW_none, errW_some] <;> rfl), by repeat (first | (with_reducible first | exact HB.out | apply below_alloc | apply pw_below_drewN | apply below_drew1 | refine below_set ?_ GE461.out) | exact HB.out)⟩
end Go.Proofs.Ytckaejgamfllfaa.G
end

section
namespace Go.Proofs.Ytckaejgamfllfaa.G
open Go.RowKit Go.Proofs.YtckaejgamfllfaaW.PrintWords Go.Proofs.YtckaejgamfllfaaW.PrintLast Go.Proofs.YtckaejgamfllfaaW.PrintMore
attribute [local go_sem] max2_int min2_int max_two min_two max_three min_three max_four min_four
set_option linter.unusedVariables false
set_option linter.unusedSimpArgs false
def boundstonelaw02_turned.l0 : Nat → List (S23) → Bool → List (S23) → Int → Option ((List (S23)))
  | 0, _, _, _, _ => none
  | k + 1, x0, x1, x5, x6 => if x6 < (x0.length : Int) then (if x1 = true then (if 0 ≤ (wrap64 ((wrap64 ((x0.length : Int) - 1)) - x6)) then (if (wrap64 ((wrap64 ((x0.length : Int) - 1)) - x6)) < (x0.length : Int) then (if x5.length < 8796093022208 then (boundstonelaw02_turned.l0 k x0 x1 (x5 ++ [(⟨(rd_T23 x0 (wrap64 ((wrap64 ((x0.length : Int) - 1)) - x6))).f0, (rd_T23 x0 (wrap64 ((wrap64 ((x0.length : Int) - 1)) - x6))).f1⟩ : S23)]) (wrap64 (x6 + 1))) else (none)) else (none)) else (none)) else (if (x0.length : Int) = 0 then (none) else (if 0 ≤ (Int.tmod (wrap64 (x6 + 1)) (x0.length : Int)) then (if (Int.tmod (wrap64 (x6 + 1)) (x0.length : Int)) < (x0.length : Int) then (if x5.length < 8796093022208 then (boundstonelaw02_turned.l0 k x0 x1 (x5 ++ [(⟨(rd_T23 x0 (Int.tmod (wrap64 (x6 + 1)) (x0.length : Int))).f0, (rd_T23 x0 (Int.tmod (wrap64 (x6 + 1)) (x0.length : Int))).f1⟩ : S23)]) (wrap64 (x6 + 1))) else (none)) else (none)) else (none)))) else (some x5)
def boundstonelaw02_turned.f (k : Nat) (l0 : List (S23)) (a1 : Bool) : Option ((List (S23))) := boundstonelaw02_turned.l0 k l0 a1 ([] : List (S23)) 0
set_option maxHeartbeats 8000000 in
set_option maxRecDepth 100000 in
theorem boundstonelaw02_turned.calls (k : Nat) (A0 : Option Addr) (c0 : Nat) (l0 : List (S23)) (a1 : Bool) (r : List (S23)) (w : World) (hr0 : Kd.C k23 w A0 l0.length l0) (hc0 : l0.length ≤ c0) (h : boundstonelaw02_turned.f k l0 a1 = some r) :
    Calls Try.prog 39 #[.slice A0 l0.length c0, .bool a1] w fun e w' => ∃ v0_ : Value, e = .returned (v0_) ∧ Kd.R k23 23 w' w.heap.size (fun _ => True) v0_ r ∧ Below w.heap.size w w' := by
  have hu23 := Try.underlying23
  have HR0 := Aside0.mk hr0
  have HC0 := Aside0.mk hc0
  clear hr0 hc0
  have HB := Aside0.mk (Below.refl w.heap.size w)
  have H : (boundstonelaw02_turned.l0 k l0 a1 ([] : List (S23)) 0) = some r := h
  clear h
  have H' := Aside0.mk H
  clear H
  go_enter Try.func39, Try.ntmps39
  go_wp2
  go_loopg [5, 6] k (fun kq v5 v6 w' => ∃ (x5_1 : List (S23)) (x6_1 : Int), v6 = .int .i64 x6_1 ∧ Aside0 (boundstonelaw02_turned.l0 kq l0 a1 x5_1 x6_1 = some r) ∧ Aside0 (kq ≤ k) ∧ Aside0 (Kd.R k23 23 w' w.heap.size (fun _ => True) v5 x5_1) ∧ Aside0 (Below w.heap.size w w'))
  case atStart => exact ⟨(([] : List (S23))), (0), (by first | rfl | (simp; done) | (simp [*]; done)), H', ⟨Nat.le_refl _⟩, ⟨by first | exact Kd.R_nil _ _ _ _ _ | exact Kd.N_nil _ _ _ _ _ | exact Kd.V_nil _ _ _ _ _ | exact Kd.Q_nil _ _ _ _ _ | exact Kd.S_nil _ _ _ _ _⟩, ⟨by repeat (first | (with_reducible first | exact HB.out | apply below_alloc | apply pw_below_drewN | apply below_drew1) | exact HB.out)⟩⟩
  case round =>
    clear H'
    (try clear p2)
    obtain ⟨x5_1, x6_1, rfl, HA, HK1, HO_5, HB⟩ := hrel
    cases gk with
    | zero => exact absurd HA.out (by simp [boundstonelaw02_turned.l0])
    | succ k1 =>
      have H := HA.out
      clear HA
      simp only [boundstonelaw02_turned.l0] at H
      by_cases c3 : x6_1 < (l0.length : Int)
      · rw [if_pos c3] at H
        have c3b0 : decide (x6_1 < (l0.length : Int)) = true := decide_eq_true c3
        clear c3
        by_cases c4 : a1 = true
        · subst c4
          have H1 : (if 0 ≤ (wrap64 ((wrap64 ((l0.length : Int) - 1)) - x6_1)) then (if (wrap64 ((wrap64 ((l0.length : Int) - 1)) - x6_1)) < (l0.length : Int) then (if x5_1.length < 8796093022208 then (boundstonelaw02_turned.l0 k1 l0 true (x5_1 ++ [(⟨(rd_T23 l0 (wrap64 ((wrap64 ((l0.length : Int) - 1)) - x6_1))).f0, (rd_T23 l0 (wrap64 ((wrap64 ((l0.length : Int) - 1)) - x6_1))).f1⟩ : S23)]) (wrap64 (x6_1 + 1))) else (none)) else (none)) else (none)) = some r := by rw [if_pos rfl] at H; exact H
          clear H
          have H := H1
          clear H1
          obtain ⟨ji5, hji5⟩ : ∃ j_ : Int, (wrap64 ((wrap64 ((l0.length : Int) - 1)) - x6_1)) = j_ := ⟨_, rfl⟩
          replace H : (if 0 ≤ (ji5) then (if (ji5) < (l0.length : Int) then (if x5_1.length < 8796093022208 then (boundstonelaw02_turned.l0 k1 l0 true (x5_1 ++ [(⟨(rd_T23 l0 (ji5)).f0, (rd_T23 l0 (ji5)).f1⟩ : S23)]) (wrap64 (x6_1 + 1))) else (none)) else (none)) else (none)) = some r := by first | (rw [hji5] at H; exact H) | (simp only [hji5] at H ⊢; exact H)
          have hji5w : (IntKind.i64.wrap ((wrap64 ((l0.length : Int) - 1)) - x6_1)) = ji5 := (i64_w _).trans hji5
          by_cases c6 : 0 ≤ (ji5)
          · rw [if_pos c6] at H
            have c6b0 : decide (0 ≤ (ji5)) = true := decide_eq_true c6
            clear c6
            by_cases c7 : (ji5) < (l0.length : Int)
            · rw [if_pos c7] at H
              have c7b0 : decide ((ji5) < (l0.length : Int)) = true := decide_eq_true c7
              clear c7
              by_cases c8 : x5_1.length < 8796093022208
              · rw [if_pos c8] at H
                have LMc8 := Aside0.mk c8
                clear c8
                obtain ⟨y513, hy513⟩ : ∃ y_ : List (S23), y_ = (x5_1 ++ [(⟨(rd_T23 l0 (ji5)).f0, (rd_T23 l0 (ji5)).f1⟩ : S23)]) := ⟨_, rfl⟩
                replace H : (boundstonelaw02_turned.l0 k1 l0 true y513 (wrap64 (x6_1 + 1))) = some r := by first | (rw [hy513]; with_reducible exact H) | (have H2_ := (Option.bind_some _ _).symm.trans H; rw [hy513]; with_reducible exact H2_) | (have H2_ := (Option.bind_some _ _).symm.trans H; with_reducible exact H2_) | with_reducible exact H | (rw [hy513]; exact H) | exact H
                have Ny513 := Aside0.mk hy513
                clear hy513
                have H' := Aside0.mk H
                clear H
                have p512 : 0 ≤ ((ji5) : Int) := of_decide_eq_true (by first | (with_reducible assumption) | assumption)
                have q512 : (ji5) < (l0.length : Int) := of_decide_eq_true (by first | (with_reducible assumption) | assumption)
                obtain ⟨ad512, e512, hx512_0, hx512_1⟩ := at_T23 HR0.out (ji5) p512 q512
                cases e512
                replace hx512_0 := (HB.out.cell (World.block_lt_of_cell? w _ hx512_0)).trans hx512_0
                replace hx512_1 := (HB.out.cell (World.block_lt_of_cell? w _ hx512_1)).trans hx512_1
                replace p512 := eq_true p512
                replace q512 := eq_true q512
                go_wp2_with (first | ((with_reducible refine gate_builtin (b := .append) (xs := #[.tmp 14, .tmp 23]) rfl ?_); at_builtin; refine Kd.R_append k23 (w0 := w) w.heap.size rfl (.tmp 14) (.tmp 23) 39 23 (.agg #[(.int .i64 0), (.int .i64 0)]) 16 rfl Try.underlying39 info23 rfl (by decide) (by omega) u5 x5_1 (⟨(rd_T23 l0 (ji5)).f0, (rd_T23 l0 (ji5)).f1⟩ : S23) [.int .i64 ((rd_T23 l0 (ji5)).f0), .int .i64 ((rd_T23 l0 (ji5)).f1)] (fun _ => True) (fun _ => False) rfl rfl ?aP (fun _ hk => hk.elim) ?aF ?aO ?aB ?aS ?aL ?_; (case aP => exact k23_mkM _ _ _ (⟨(rd_T23 l0 (ji5)).f0, (rd_T23 l0 (ji5)).f1⟩ : S23)); (case aB => exact (by repeat (first | (with_reducible first | exact HB.out | apply below_alloc | apply pw_below_drewN | apply below_drew1) | exact HB.out))); (case aF => exact (fun _ _ => trivial)); (case aO => exact (by (with_reducible repeat (first | apply Kd.R_alloc | apply Kd.R_drewN | apply Kd.R_drew)); exact HO_5.out)); (case aS => exact (below_size (by repeat (first | (with_reducible first | exact HB.out | apply below_alloc | apply pw_below_drewN | apply below_drew1) | exact HB.out)))); (case aL => have := LMc8.out; omega); intro v514 w9 ho hb hg hat; rw [← Ny513.out] at ho; have n0_ := Aside0.mk (hb); have n1_ := Aside0.mk (ho); clear HB; clear HO_5; have HB := n0_; have HO515 := n1_; clear n0_ n1_; clear ho hb hg hat))
                go_roundg k1
                case measure => have := HK1.out; omega
                case rel => exact ⟨(y513), (wrap64 (x6_1 + 1)), (by first | rfl | (simp; done) | (simp [*]; done)), H', ⟨by have := HK1.out; omega⟩, ⟨by (with_reducible repeat (first | apply Kd.R_alloc | apply Kd.R_drewN | apply Kd.R_drew)); exact HO515.out⟩, ⟨by repeat (first | (with_reducible first | exact HB.out | apply below_alloc | apply pw_below_drewN | apply below_drew1) | exact HB.out)⟩⟩
              · rw [if_neg c8] at H
                exact absurd H (by simp)
            · rw [if_neg c7] at H
              exact absurd H (by simp)
          · rw [if_neg c6] at H
            exact absurd H (by simp)
        · replace c4 := Bool.eq_false_iff.mpr c4
          subst c4
          have H1 : (if (l0.length : Int) = 0 then (none) else (if 0 ≤ (Int.tmod (wrap64 (x6_1 + 1)) (l0.length : Int)) then (if (Int.tmod (wrap64 (x6_1 + 1)) (l0.length : Int)) < (l0.length : Int) then (if x5_1.length < 8796093022208 then (boundstonelaw02_turned.l0 k1 l0 false (x5_1 ++ [(⟨(rd_T23 l0 (Int.tmod (wrap64 (x6_1 + 1)) (l0.length : Int))).f0, (rd_T23 l0 (Int.tmod (wrap64 (x6_1 + 1)) (l0.length : Int))).f1⟩ : S23)]) (wrap64 (x6_1 + 1))) else (none)) else (none)) else (none))) = some r := by rw [if_neg (show ¬ (false = true) by decide)] at H; exact H
          clear H
          have H := H1
          clear H1
          by_cases c10 : (l0.length : Int) = 0
          · rw [if_pos c10] at H
            exact absurd H (by simp)
          · rw [if_neg c10] at H
            have c10b0 : ((l0.length : Int) == 0) = false := beq_eq_false_iff_ne.mpr c10
            have c10b1 : ((l0.length : Int) != 0) = true := bne_iff_ne.mpr c10
            have c10b2 : ¬ (l0 = []) := fun h_ => c10 (by rw [h_]; rfl)
            obtain ⟨ji11, hji11⟩ : ∃ j_ : Int, (Int.tmod (wrap64 (x6_1 + 1)) (l0.length : Int)) = j_ := ⟨_, rfl⟩
            replace H : (if 0 ≤ (ji11) then (if (ji11) < (l0.length : Int) then (if x5_1.length < 8796093022208 then (boundstonelaw02_turned.l0 k1 l0 false (x5_1 ++ [(⟨(rd_T23 l0 (ji11)).f0, (rd_T23 l0 (ji11)).f1⟩ : S23)]) (wrap64 (x6_1 + 1))) else (none)) else (none)) else (none)) = some r := by first | (rw [hji11] at H; exact H) | (simp only [hji11] at H ⊢; exact H)
            by_cases c12 : 0 ≤ (ji11)
            · rw [if_pos c12] at H
              have c12b0 : decide (0 ≤ (ji11)) = true := decide_eq_true c12
              clear c12
              by_cases c13 : (ji11) < (l0.length : Int)
              · rw [if_pos c13] at H
                have c13b0 : decide ((ji11) < (l0.length : Int)) = true := decide_eq_true c13
                clear c13
                by_cases c14 : x5_1.length < 8796093022208
                · rw [if_pos c14] at H
                  have LMc14 := Aside0.mk c14
                  clear c14
                  obtain ⟨y517, hy517⟩ : ∃ y_ : List (S23), y_ = (x5_1 ++ [(⟨(rd_T23 l0 (ji11)).f0, (rd_T23 l0 (ji11)).f1⟩ : S23)]) := ⟨_, rfl⟩
                  replace H : (boundstonelaw02_turned.l0 k1 l0 false y517 (wrap64 (x6_1 + 1))) = some r := by first | (rw [hy517]; with_reducible exact H) | (have H2_ := (Option.bind_some _ _).symm.trans H; rw [hy517]; with_reducible exact H2_) | (have H2_ := (Option.bind_some _ _).symm.trans H; with_reducible exact H2_) | with_reducible exact H | (rw [hy517]; exact H) | exact H
                  have Ny517 := Aside0.mk hy517
                  clear hy517
                  have H' := Aside0.mk H
                  clear H
                  have p516 : 0 ≤ ((ji11) : Int) := of_decide_eq_true (by first | (with_reducible assumption) | assumption)
                  have q516 : (ji11) < (l0.length : Int) := of_decide_eq_true (by first | (with_reducible assumption) | assumption)
                  obtain ⟨ad516, e516, hx516_0, hx516_1⟩ := at_T23 HR0.out (ji11) p516 q516
                  cases e516
                  replace hx516_0 := (HB.out.cell (World.block_lt_of_cell? w _ hx516_0)).trans hx516_0
                  replace hx516_1 := (HB.out.cell (World.block_lt_of_cell? w _ hx516_1)).trans hx516_1
                  replace p516 := eq_true p516
                  replace q516 := eq_true q516
                  go_wp2_with (first | ((with_reducible refine gate_builtin (b := .append) (xs := #[.tmp 25, .tmp 34]) rfl ?_); at_builtin; refine Kd.R_append k23 (w0 := w) w.heap.size rfl (.tmp 25) (.tmp 34) 39 23 (.agg #[(.int .i64 0), (.int .i64 0)]) 16 rfl Try.underlying39 info23 rfl (by decide) (by omega) u5 x5_1 (⟨(rd_T23 l0 (ji11)).f0, (rd_T23 l0 (ji11)).f1⟩ : S23) [.int .i64 ((rd_T23 l0 (ji11)).f0), .int .i64 ((rd_T23 l0 (ji11)).f1)] (fun _ => True) (fun _ => False) rfl rfl ?aP (fun _ hk => hk.elim) ?aF ?aO ?aB ?aS ?aL ?_; (case aP => exact k23_mkM _ _ _ (⟨(rd_T23 l0 (ji11)).f0, (rd_T23 l0 (ji11)).f1⟩ : S23)); (case aB => exact (by repeat (first | (with_reducible first | exact HB.out | apply below_alloc | apply pw_below_drewN | apply below_drew1) | exact HB.out))); (case aF => exact (fun _ _ => trivial)); (case aO => exact (by (with_reducible repeat (first | apply Kd.R_alloc | apply Kd.R_drewN | apply Kd.R_drew)); exact HO_5.out)); (case aS => exact (below_size (by repeat (first | (with_reducible first | exact HB.out | apply below_alloc | apply pw_below_drewN | apply below_drew1) | exact HB.out)))); (case aL => have := LMc14.out; omega); intro v518 w15 ho hb hg hat; rw [← Ny517.out] at ho; have n0_ := Aside0.mk (hb); have n1_ := Aside0.mk (ho); clear HB; clear HO_5; have HB := n0_; have HO519 := n1_; clear n0_ n1_; clear ho hb hg hat))
                  go_roundg k1
                  case measure => have := HK1.out; omega
                  case rel => exact ⟨(y517), (wrap64 (x6_1 + 1)), (by first | rfl | (simp; done) | (simp [*]; done)), H', ⟨by have := HK1.out; omega⟩, ⟨by (with_reducible repeat (first | apply Kd.R_alloc | apply Kd.R_drewN | apply Kd.R_drew)); exact HO519.out⟩, ⟨by repeat (first | (with_reducible first | exact HB.out | apply below_alloc | apply pw_below_drewN | apply below_drew1) | exact HB.out)⟩⟩
                · rw [if_neg c14] at H
                  exact absurd H (by simp)
              · rw [if_neg c13] at H
                exact absurd H (by simp)
            · rw [if_neg c12] at H
              exact absurd H (by simp)
      · rw [if_neg c3] at H
        have c3b0 : decide (x6_1 < (l0.length : Int)) = false := decide_eq_false c3
        clear c3
        obtain rfl := Option.some.inj H
        go_wp2
        go_ret
        exact ⟨_, by first | rfl | (simp [errW_none, errW_some] <;> rfl) | (simp [*, errW_none, errW_some] <;> rfl), by (with_reducible repeat (first | apply Kd.R_alloc | apply Kd.R_drewN | apply Kd.R_drew)); exact HO_5.out, by repeat (first | (with_reducible first | exact HB.out | apply below_alloc | apply pw_below_drewN | apply below_drew1) | exact HB.out)⟩
end Go.Proofs.Ytckaejgamfllfaa.G
end

section
namespace Go.Proofs.Ytckaejgamfllfaa.G
open Go.RowKit Go.Proofs.YtckaejgamfllfaaW.PrintWords Go.Proofs.YtckaejgamfllfaaW.PrintLast Go.Proofs.YtckaejgamfllfaaW.PrintMore
attribute [local go_sem] max2_int min2_int max_two min_two max_three min_three max_four min_four
set_option linter.unusedVariables false
set_option linter.unusedSimpArgs false
mutual
def boundstonelaw02_PlaneRingsFair.j0 : Nat → List (S23) → Int → Bool → Int → Int → Option (Bool)
  | 0, _, _, _, _, _ => none
  | k + 1, x0, x5, x36, x521000, x521001 => if x36 = true then ((boundstonelaw02_sanity.f k).bind fun t524 => (some t524)) else ((boundstonelaw02_turned.f k x0 false).bind fun t525 => ((plane_Area.f k t525).bind fun bt528 => ((boundstonelaw02_turned.f k x0 true).bind fun t530 => ((plane_Area.f k t530).bind fun bt533 => ((plane_Winding.f k x0 x521000 x521001).bind fun bt535 => ((boundstonelaw02_turned.f k x0 true).bind fun t537 => ((plane_Winding.f k t537 x521000 x521001).bind fun bt540 => (if bt528.2 = 0 then (if bt533.2 = 0 then (if x5 = bt528.1 then (if x5 = (wrap64 (-bt533.1)) then (if bt535.2 = bt540.2 then (boundstonelaw02_PlaneRingsFair.j1 k x0 x5 bt535.1 bt535.2 (bt535.1 != (wrap64 (-bt540.1))) x521000 x521001) else (none)) else (none)) else (none)) else (none)) else (none)))))))))
def boundstonelaw02_PlaneRingsFair.j1 : Nat → List (S23) → Int → Int → Int → Bool → Int → Int → Option (Bool)
  | 0, _, _, _, _, _, _, _ => none
  | k + 1, x0, x5, x11, x12, x90, x521000, x521001 => if x90 = true then (none) else ((plane_Simple.f k x0).bind fun bt542 => ((plane_Where.f k x0 x521000 x521001).bind fun bt544 => (if bt542.2 = 0 then (if (bt542.1 != (bt544.2 == 0)) = true then (none) else (if bt542.1 = true then (boundstonelaw02_PlaneRingsFair.j2 k x5 x11 x12 bt542.1 bt544.1 false) else (boundstonelaw02_PlaneRingsFair.j2 k x5 x11 x12 bt542.1 bt544.1 (bt544.2 != 4)))) else (none))))
def boundstonelaw02_PlaneRingsFair.j2 : Nat → Int → Int → Int → Bool → Int → Bool → Option (Bool)
  | 0, _, _, _, _, _, _ => none
  | k + 1, x5, x11, x12, x15, x17, x117 => if x117 = true then (none) else (if x15 = true then (if x5 < 0 then (boundstonelaw02_PlaneRingsFair.j3 k x5 x11 x12 x17 (-1)) else (boundstonelaw02_PlaneRingsFair.j3 k x5 x11 x12 x17 1)) else ((boundstonelaw02_sanity.f k).bind fun t546 => (some t546)))
def boundstonelaw02_PlaneRingsFair.j3 : Nat → Int → Int → Int → Int → Int → Option (Bool)
  | 0, _, _, _, _, _ => none
  | k + 1, x5, x11, x12, x17, x19 => if x17 = 0 then ((boundstonelaw02_sanity.f k).bind fun t547 => (if t547 = true then (if x5 = 0 then (none) else (some (x12 == 4))) else (none))) else ((boundstonelaw02_sanity.f k).bind fun t548 => (if t548 = true then (if x5 = 0 then (none) else (if x12 = 0 then (if x17 = 1 then (if x11 = x19 then (some true) else (if x17 = (-1) then (some (x11 == 0)) else (none))) else (if x17 = (-1) then (some (x11 == 0)) else (none))) else (none))) else (none)))
end
def boundstonelaw02_PlaneRingsFair.f (k : Nat) (l0 : List (S23)) (a1_0 : Int) (a1_1 : Int) : Option (Bool) := (plane_Area.f k l0).bind fun bt521 => (if (l0.length : Int) > 40 then (boundstonelaw02_PlaneRingsFair.j0 k l0 bt521.1 true a1_0 a1_1) else (if bt521.2 = 0 then ((plane_Valid.f a1_0 a1_1).bind fun t523 => (boundstonelaw02_PlaneRingsFair.j0 k l0 bt521.1 (!t523) a1_0 a1_1)) else (boundstonelaw02_PlaneRingsFair.j0 k l0 bt521.1 true a1_0 a1_1)))
def boundstonelaw02_PlaneRingsFair.T7 : Bool × List (List Nat × List Nat) := (true, [([], []), ([0], [0]), ([], []), ([1, 2, 1], [1, 2]), ([3], [3]), ([4], [4]), ([4], [4]), ([5, 3, 0, 1, 2, 3, 4, 5], [5]), ([6, 7, 0, 1, 2, 3, 4, 5, 6, 7], [6])])
def boundstonelaw02_PlaneRingsFair.B7 : List Nat := [0, 1, 0, 7, 15, 31, 31, 63, 255]
theorem boundstonelaw02_PlaneRingsFair.tab7 : rtab .any (opsOf Try.f8 7) = boundstonelaw02_PlaneRingsFair.T7 := by kernel_rfl
theorem boundstonelaw02_PlaneRingsFair.bits7 : waitsOk boundstonelaw02_PlaneRingsFair.T7.2 boundstonelaw02_PlaneRingsFair.B7 = true := by kernel_rfl
set_option maxHeartbeats 8000000 in
set_option maxRecDepth 100000 in
theorem boundstonelaw02_PlaneRingsFair.calls (k : Nat) (A0 : Option Addr) (c0 : Nat) (l0 : List (S23)) (a1_0 : Int) (a1_1 : Int) (r : Bool) (w : World) (hr0 : Kd.C k23 w A0 l0.length l0) (hc0 : l0.length ≤ c0) (h : boundstonelaw02_PlaneRingsFair.f k l0 a1_0 a1_1 = some r) :
    Calls Try.prog 8 #[.slice A0 l0.length c0, .agg #[.int .i64 a1_0, .int .i64 a1_1]] w fun e w' => e = .returned (.bool r) ∧ Below w.heap.size w w' := by
  have hu23 := Try.underlying23
  have HR0 := Aside0.mk hr0
  have HC0 := Aside0.mk hc0
  clear hr0 hc0
  have HB := Aside0.mk (Below.refl w.heap.size w)
  have H : ((plane_Area.f k l0).bind fun bt521 => (if (l0.length : Int) > 40 then (boundstonelaw02_PlaneRingsFair.j0 k l0 bt521.1 true a1_0 a1_1) else (if bt521.2 = 0 then ((plane_Valid.f a1_0 a1_1).bind fun t523 => (boundstonelaw02_PlaneRingsFair.j0 k l0 bt521.1 (!t523) a1_0 a1_1)) else (boundstonelaw02_PlaneRingsFair.j0 k l0 bt521.1 true a1_0 a1_1)))) = some r := h
  clear h
  replace H := Option.bind_eq_some_iff.mp H
  obtain ⟨⟨t521, t522⟩, A30, H⟩ := H
  replace H : (if (l0.length : Int) > 40 then (boundstonelaw02_PlaneRingsFair.j0 k l0 t521 true a1_0 a1_1) else (if t522 = 0 then ((plane_Valid.f a1_0 a1_1).bind fun t523 => (boundstonelaw02_PlaneRingsFair.j0 k l0 t521 (!t523) a1_0 a1_1)) else (boundstonelaw02_PlaneRingsFair.j0 k l0 t521 true a1_0 a1_1))) = some r := H
  have A3 := Aside0.mk A30
  clear A30
  have HC4 := Aside0.mk H
  clear H
  go_enter Try.func8, Try.ntmps8
  go_upto_region 2 with (first | ((with_reducible refine gate_dst (N := 3) rfl ?_); refine box_event ?hg (N := 3) ?hd (cs := #[.int .i64 a1_0, .int .i64 a1_1]) (t := 23) ?hr ?_; (case hd => rfl); (case hg => rfl); (case hr => first | (go_simp; done) | (go_simp; rfl)); intro gb520 hg w5 hbox hb; have n0_ := Aside0.mk (below_step (by repeat (first | (with_reducible first | exact HB.out | apply below_alloc | apply pw_below_drewN | apply below_drew1) | exact HB.out)) hb); have n1_ := Aside0.mk (hbox); have n2_ := Aside0.mk ((by rw [hg]; exact (below_size (by repeat (first | (with_reducible first | exact HB.out | apply below_alloc | apply pw_below_drewN | apply below_drew1) | exact HB.out))) : w.heap.size ≤ gb520)); have n3_ := Aside0.mk ((by rw [hg]; exact (below_size (by repeat (first | (with_reducible first | exact HB.out | apply below_alloc | apply pw_below_drewN | apply below_drew1) | exact HB.out))) : w.heap.size ≤ gb520)); clear HB; have HB := n0_; have BK520 := n1_; have GW520 := n2_; have GE520 := n3_; clear n0_ n1_ n2_ n3_; clear hb hbox hg) | ((with_reducible refine gate_callee (f := 31) rfl ?_); refine goesL_ (some 22) rfl rfl Try.func31 (by kernel_rfl) rfl #[.slice A0 l0.length c0] rfl (by (try simp only [List.map_toArray, List.map_cons, List.map_nil]); first | done | rfl | (simp only [List.length_drop, List.length_take]; rfl)) ?_; (with_reducible refine (plane_Area.calls k _ _ l0 t521 t522 _ ?side1 ?side2 A3.out).mono ?_); (case side1 => repeat (first | exact (Kd.C_below HR0.out HB.out) | (with_reducible refine Kd.C_alloc ?_ _) | (with_reducible refine Kd.C_drewN ?_ _) | (with_reducible refine Kd.C_drew ?_))); (case side2 => exact HC0.out); rintro e w6 ⟨rfl, hb⟩; refine ⟨_, rfl, ?_⟩; have n0_ := Aside0.mk (blk_below (g := gb520) (o := .cells #[.int .i64 a1_0, .int .i64 a1_1] 23 (0, 0)) (by (with_reducible repeat (first | refine blk_drewN ?_ _ | refine blk_drew ?_ | refine blk_alloc ?_ _)); exact BK520.out) hb); have n1_ := Aside0.mk (below_step (by repeat (first | (with_reducible first | exact HB.out | apply below_alloc | apply pw_below_drewN | apply below_drew1 | refine below_set ?_ GE520.out) | exact HB.out)) hb); clear BK520; clear HB; have BK520 := n0_; have HB := n1_; clear n0_ n1_; (try clear hb); (try clear hb2); (try clear hk); (try clear hi)))
  (try simp only [Act.put, List.setIfInBounds_toArray, List.set_cons_zero, List.set_cons_succ])
  go_cut [36] (fun v36 wc => ∃ (kq : Nat) (x36_3 : Bool), v36 = .bool x36_3 ∧ Aside0 (boundstonelaw02_PlaneRingsFair.j0 kq l0 t521 x36_3 a1_0 a1_1 = some r) ∧ Aside0 (kq ≤ k) ∧ Aside0 (wc.heap[gb520]? = some (.cells #[.int .i64 a1_0, .int .i64 a1_1] 23 (0, 0))) ∧ Aside0 (Below w.heap.size w wc))
  case first =>
    have H := HC4.out
    clear HC4
    by_cases c7 : (l0.length : Int) > 40
    · rw [if_pos c7] at H
      have c7b0 : decide (40 < (l0.length : Int)) = true := decide_eq_true c7
      have c7b1 : decide (40 < l0.length) = true := decide_eq_true (by omega)
      clear c7
      (first | rw [c7b0] | (simp only [i64_w, i32_w]; rw [c7b0]) | skip)
      have H' := Aside0.mk H
      clear H
      go_wp2
      go_meet
      case rel => exact ⟨_, (true), (by first | rfl | (simp; done) | (simp [*]; done)), H', ⟨by first | omega | exact Nat.le_refl _⟩, ⟨by (with_reducible repeat (first | refine blk_drewN ?_ _ | refine blk_drew ?_ | refine blk_alloc ?_ _)); exact BK520.out⟩, ⟨by repeat (first | (with_reducible first | exact HB.out | apply below_alloc | apply pw_below_drewN | apply below_drew1 | refine below_set ?_ GE520.out) | exact HB.out)⟩⟩
    · rw [if_neg c7] at H
      have c7b0 : decide (40 < (l0.length : Int)) = false := decide_eq_false c7
      have c7b1 : decide (40 < l0.length) = false := decide_eq_false (by omega)
      clear c7
      (first | rw [c7b0] | (simp only [i64_w, i32_w]; rw [c7b0]) | skip)
      by_cases c8 : t522 = 0
      · rw [if_pos c8] at H
        have c8b0 : (t522 == 0) = true := beq_iff_eq.mpr c8
        have c8b1 : (t522 != 0) = false := bne_eq_false_iff_eq.mpr c8
        clear c8
        replace H := Option.bind_eq_some_iff.mp H
        obtain ⟨t523, A90, H⟩ := H
        replace H : (boundstonelaw02_PlaneRingsFair.j0 k l0 t521 (!t523) a1_0 a1_1) = some r := H
        have A9 := Aside0.mk A90
        clear A90
        have H' := Aside0.mk H
        clear H
        have hcz10_0 : w6.cell? ⟨gb520, 0, none⟩ = some (.int .i64 a1_0) := (blk_cell BK520.out 0).trans rfl
        have hcz10_1 : w6.cell? ⟨gb520, 1, none⟩ = some (.int .i64 a1_1) := (blk_cell BK520.out 1).trans rfl
        have hfz10_0 := blk_frozen BK520.out 0
        have hfz10_1 := blk_frozen BK520.out 1
        go_wp2_with (first | (go_at_call 17; (with_reducible refine (plane_Valid.calls a1_0 a1_1 t523 _ A9.out).mono ?_); rintro e w11 ⟨rfl, hb⟩; have n0_ := Aside0.mk (blk_below (g := gb520) (o := .cells #[.int .i64 a1_0, .int .i64 a1_1] 23 (0, 0)) (by (with_reducible repeat (first | refine blk_drewN ?_ _ | refine blk_drew ?_ | refine blk_alloc ?_ _)); exact BK520.out) hb); have n1_ := Aside0.mk (below_step (by repeat (first | (with_reducible first | exact HB.out | apply below_alloc | apply pw_below_drewN | apply below_drew1 | refine below_set ?_ GE520.out) | exact HB.out)) hb); clear BK520; clear HB; have BK520 := n0_; have HB := n1_; clear n0_ n1_; (try clear hb); (try clear hb2); (try clear hk); (try clear hi)))
        go_meet
        case rel => exact ⟨_, (!t523), (by first | rfl | (simp; done) | (simp [*]; done)), H', ⟨by first | omega | exact Nat.le_refl _⟩, ⟨by (with_reducible repeat (first | refine blk_drewN ?_ _ | refine blk_drew ?_ | refine blk_alloc ?_ _)); exact BK520.out⟩, ⟨by repeat (first | (with_reducible first | exact HB.out | apply below_alloc | apply pw_below_drewN | apply below_drew1 | refine below_set ?_ GE520.out) | exact HB.out)⟩⟩
      · rw [if_neg c8] at H
        have c8b0 : (t522 == 0) = false := beq_eq_false_iff_ne.mpr c8
        have c8b1 : (t522 != 0) = true := bne_iff_ne.mpr c8
        have H' := Aside0.mk H
        clear H
        go_wp2
        go_meet
        case rel => exact ⟨_, (true), (by first | rfl | (simp; done) | (simp [*]; done)), H', ⟨by first | omega | exact Nat.le_refl _⟩, ⟨by (with_reducible repeat (first | refine blk_drewN ?_ _ | refine blk_drew ?_ | refine blk_alloc ?_ _)); exact BK520.out⟩, ⟨by repeat (first | (with_reducible first | exact HB.out | apply below_alloc | apply pw_below_drewN | apply below_drew1 | refine below_set ?_ GE520.out) | exact HB.out)⟩⟩
  case rest =>
    clear HC4
    (try clear p2); (try clear c3); (try clear c7); (try clear c7b0); (try clear c7b1); (try clear c8); (try clear c8b0); (try clear c8b1); (try clear hcz10_0); (try clear hcz10_1); (try clear hfz10_0); (try clear hfz10_1)
    obtain ⟨kq, x36_3, rfl, HA, HJ3, BK520, HB⟩ := hcut
    cases kq with
    | zero => exact absurd HA.out (by simp [boundstonelaw02_PlaneRingsFair.j0])
    | succ kj3 =>
      have H := HA.out
      clear HA
      simp only [boundstonelaw02_PlaneRingsFair.j0] at H
      by_cases c12 : x36_3 = true
      · subst c12
        have H1 : ((boundstonelaw02_sanity.f kj3).bind fun t524 => (some t524)) = some r := by rw [if_pos rfl] at H; exact H
        clear H
        have H := H1
        clear H1
        replace H := Option.bind_eq_some_iff.mp H
        obtain ⟨t524, A130, H⟩ := H
        replace H : (some t524) = some r := H
        have A13 := Aside0.mk A130
        clear A130
        obtain rfl := Option.some.inj H
        go_wp2_with (first | ((with_reducible refine gate_callee (f := 16) rfl ?_); refine goesL_ (some 37) rfl rfl Try.func16 (by kernel_rfl) rfl #[] rfl (by (try simp only [List.map_toArray, List.map_cons, List.map_nil]); first | done | rfl | (simp only [List.length_drop, List.length_take]; rfl)) ?_; (with_reducible refine (boundstonelaw02_sanity.calls kj3  t524 _ A13.out).mono ?_); rintro e w14 ⟨rfl, hb⟩; refine ⟨_, rfl, ?_⟩; have n0_ := Aside0.mk (blk_below (g := gb520) (o := .cells #[.int .i64 a1_0, .int .i64 a1_1] 23 (0, 0)) (by (with_reducible repeat (first | refine blk_drewN ?_ _ | refine blk_drew ?_ | refine blk_alloc ?_ _)); exact BK520.out) hb); have n1_ := Aside0.mk (below_step (by repeat (first | (with_reducible first | exact HB.out | apply below_alloc | apply pw_below_drewN | apply below_drew1 | refine below_set ?_ GE520.out) | exact HB.out)) hb); clear BK520; clear HB; have BK520 := n0_; have HB := n1_; clear n0_ n1_; (try clear hb); (try clear hb2); (try clear hk); (try clear hi)))
        go_ret
        exact ⟨by first | rfl | (simp [errW_none, errW_some] <;> rfl) | (simp [*, errW_none, errW_some] <;> rfl), by repeat (first | (with_reducible first | exact HB.out | apply below_alloc | apply pw_below_drewN | apply below_drew1 | refine below_set ?_ GE520.out) | exact HB.out)⟩
      · replace c12 := Bool.eq_false_iff.mpr c12
        subst c12
        have H1 : ((boundstonelaw02_turned.f kj3 l0 false).bind fun t525 => ((plane_Area.f kj3 t525).bind fun bt528 => ((boundstonelaw02_turned.f kj3 l0 true).bind fun t530 => ((plane_Area.f kj3 t530).bind fun bt533 => ((plane_Winding.f kj3 l0 a1_0 a1_1).bind fun bt535 => ((boundstonelaw02_turned.f kj3 l0 true).bind fun t537 => ((plane_Winding.f kj3 t537 a1_0 a1_1).bind fun bt540 => (if bt528.2 = 0 then (if bt533.2 = 0 then (if t521 = bt528.1 then (if t521 = (wrap64 (-bt533.1)) then (if bt535.2 = bt540.2 then (boundstonelaw02_PlaneRingsFair.j1 kj3 l0 t521 bt535.1 bt535.2 (bt535.1 != (wrap64 (-bt540.1))) a1_0 a1_1) else (none)) else (none)) else (none)) else (none)) else (none))))))))) = some r := by rw [if_neg (show ¬ (false = true) by decide)] at H; exact H
        clear H
        have H := H1
        clear H1
        replace H := Option.bind_eq_some_iff.mp H
        obtain ⟨t525, A150, H⟩ := H
        try dsimp only at H
        have A15 := Aside0.mk A150
        clear A150
        replace H := Option.bind_eq_some_iff.mp H
        obtain ⟨⟨t528, t529⟩, A160, H⟩ := H
        try dsimp only at H
        have A16 := Aside0.mk A160
        clear A160
        replace H := Option.bind_eq_some_iff.mp H
        obtain ⟨t530, A170, H⟩ := H
        try dsimp only at H
        have A17 := Aside0.mk A170
        clear A170
        replace H := Option.bind_eq_some_iff.mp H
        obtain ⟨⟨t533, t534⟩, A180, H⟩ := H
        try dsimp only at H
        have A18 := Aside0.mk A180
        clear A180
        replace H := Option.bind_eq_some_iff.mp H
        obtain ⟨⟨t535, t536⟩, A190, H⟩ := H
        try dsimp only at H
        have A19 := Aside0.mk A190
        clear A190
        replace H := Option.bind_eq_some_iff.mp H
        obtain ⟨t537, A200, H⟩ := H
        replace H : ((plane_Winding.f kj3 t537 a1_0 a1_1).bind fun bt540 => (if t529 = 0 then (if t534 = 0 then (if t521 = t528 then (if t521 = (wrap64 (-t533)) then (if t536 = bt540.2 then (boundstonelaw02_PlaneRingsFair.j1 kj3 l0 t521 t535 t536 (t535 != (wrap64 (-bt540.1))) a1_0 a1_1) else (none)) else (none)) else (none)) else (none)) else (none))) = some r := H
        have A20 := Aside0.mk A200
        clear A200
        replace H := Option.bind_eq_some_iff.mp H
        obtain ⟨⟨t540, t541⟩, A210, H⟩ := H
        replace H : (if t529 = 0 then (if t534 = 0 then (if t521 = t528 then (if t521 = (wrap64 (-t533)) then (if t536 = t541 then (boundstonelaw02_PlaneRingsFair.j1 kj3 l0 t521 t535 t536 (t535 != (wrap64 (-t540))) a1_0 a1_1) else (none)) else (none)) else (none)) else (none)) else (none)) = some r := H
        have A21 := Aside0.mk A210
        clear A210
        have HC22 := Aside0.mk H
        clear H
        try go_wp2_with (first | ((with_reducible refine gate_callee (f := 39) rfl ?_); refine goesL_ (some 40) rfl rfl Try.func39 (by kernel_rfl) rfl #[.slice A0 l0.length c0, .bool false] rfl (by (try simp only [List.map_toArray, List.map_cons, List.map_nil]); first | done | rfl | (simp only [List.length_drop, List.length_take]; rfl)) ?_; (with_reducible refine (boundstonelaw02_turned.calls kj3 _ _ l0 false t525 _ ?side1 ?side2 A15.out).mono ?_); (case side1 => repeat (first | exact (Kd.C_below HR0.out HB.out) | (with_reducible refine Kd.C_alloc ?_ _) | (with_reducible refine Kd.C_drewN ?_ _) | (with_reducible refine Kd.C_drew ?_))); (case side2 => exact HC0.out); rintro e w23 ⟨v526, rfl, ho0, hb⟩; refine ⟨_, rfl, ?_⟩; have n0_ := Aside0.mk (Kd.R_lower (Kd.R_newB ho0 (g := gb520) (o := .cells #[.int .i64 a1_0, .int .i64 a1_1] 23 (0, 0)) (by (with_reducible repeat (first | refine blk_drewN ?_ _ | refine blk_drew ?_ | refine blk_alloc ?_ _)); exact BK520.out)) (below_size (by repeat (first | (with_reducible first | exact HB.out | apply below_alloc | apply pw_below_drewN | apply below_drew1 | refine below_set ?_ GE520.out) | exact HB.out)))); have n1_ := Aside0.mk (blk_below (g := gb520) (o := .cells #[.int .i64 a1_0, .int .i64 a1_1] 23 (0, 0)) (by (with_reducible repeat (first | refine blk_drewN ?_ _ | refine blk_drew ?_ | refine blk_alloc ?_ _)); exact BK520.out) hb); have n2_ := Aside0.mk (below_step (by repeat (first | (with_reducible first | exact HB.out | apply below_alloc | apply pw_below_drewN | apply below_drew1 | refine below_set ?_ GE520.out) | exact HB.out)) hb); clear BK520; clear HB; have HO527 := n0_; have BK520 := n1_; have HB := n2_; clear n0_ n1_ n2_; (try clear hb); (try clear hb2); (try clear hk); (try clear hi); (try clear ho0); obtain ⟨Ao24, co24, eo24⟩ := Kd.R_slice HO527.out; subst eo24) | ((with_reducible refine gate_callee (f := 31) rfl ?_); refine goesL_ (some 41) rfl rfl Try.func31 (by kernel_rfl) rfl #[.slice Ao24 t525.length co24] rfl (by (try simp only [List.map_toArray, List.map_cons, List.map_nil]); first | done | rfl | (simp only [List.length_drop, List.length_take]; rfl)) ?_; (with_reducible refine (plane_Area.calls kj3 _ _ t525 t528 t529 _ ?side1 ?side2 A16.out).mono ?_); (case side1 => repeat (first | exact (Kd.R_reads' HO527.out).2.2 | (with_reducible refine Kd.C_alloc ?_ _) | (with_reducible refine Kd.C_drewN ?_ _) | (with_reducible refine Kd.C_drew ?_))); (case side2 => exact (Kd.R_reads' HO527.out).2.1); rintro e w25 ⟨rfl, hb⟩; refine ⟨_, rfl, ?_⟩; have n0_ := Aside0.mk (Kd.R_below (by (with_reducible repeat (first | apply Kd.R_alloc | apply Kd.R_drewN | apply Kd.R_drew)); exact HO527.out) hb); have n1_ := Aside0.mk (blk_below (g := gb520) (o := .cells #[.int .i64 a1_0, .int .i64 a1_1] 23 (0, 0)) (by (with_reducible repeat (first | refine blk_drewN ?_ _ | refine blk_drew ?_ | refine blk_alloc ?_ _)); exact BK520.out) hb); have n2_ := Aside0.mk (below_step (by repeat (first | (with_reducible first | exact HB.out | apply below_alloc | apply pw_below_drewN | apply below_drew1 | refine below_set ?_ GE520.out) | exact HB.out)) hb); clear HO527; clear BK520; clear HB; have HO527 := n0_; have BK520 := n1_; have HB := n2_; clear n0_ n1_ n2_; (try clear hb); (try clear hb2); (try clear hk); (try clear hi)) | ((with_reducible refine gate_callee (f := 39) rfl ?_); refine goesL_ (some 46) rfl rfl Try.func39 (by kernel_rfl) rfl #[.slice A0 l0.length c0, .bool true] rfl (by (try simp only [List.map_toArray, List.map_cons, List.map_nil]); first | done | rfl | (simp only [List.length_drop, List.length_take]; rfl)) ?_; (with_reducible refine (boundstonelaw02_turned.calls kj3 _ _ l0 true t530 _ ?side1 ?side2 A17.out).mono ?_); (case side1 => repeat (first | exact (Kd.C_below HR0.out HB.out) | (with_reducible refine Kd.C_alloc ?_ _) | (with_reducible refine Kd.C_drewN ?_ _) | (with_reducible refine Kd.C_drew ?_))); (case side2 => exact HC0.out); rintro e w26 ⟨v531, rfl, ho0, hb⟩; refine ⟨_, rfl, ?_⟩; have n0_ := Aside0.mk (Kd.R_elder' (by (with_reducible repeat (first | apply Kd.R_alloc | apply Kd.R_drewN | apply Kd.R_drew)); exact HO527.out) (Kd.R_base ho0) hb); have n1_ := Aside0.mk (Kd.R_lower (Kd.R_newB (Kd.R_new' ho0 (Kd.R_lt (by (with_reducible repeat (first | apply Kd.R_alloc | apply Kd.R_drewN | apply Kd.R_drew)); exact HO527.out))) (g := gb520) (o := .cells #[.int .i64 a1_0, .int .i64 a1_1] 23 (0, 0)) (by (with_reducible repeat (first | refine blk_drewN ?_ _ | refine blk_drew ?_ | refine blk_alloc ?_ _)); exact BK520.out)) (below_size (by repeat (first | (with_reducible first | exact HB.out | apply below_alloc | apply pw_below_drewN | apply below_drew1 | refine below_set ?_ GE520.out) | exact HB.out)))); have n2_ := Aside0.mk (blk_below (g := gb520) (o := .cells #[.int .i64 a1_0, .int .i64 a1_1] 23 (0, 0)) (by (with_reducible repeat (first | refine blk_drewN ?_ _ | refine blk_drew ?_ | refine blk_alloc ?_ _)); exact BK520.out) hb); have n3_ := Aside0.mk (below_step (by repeat (first | (with_reducible first | exact HB.out | apply below_alloc | apply pw_below_drewN | apply below_drew1 | refine below_set ?_ GE520.out) | exact HB.out)) hb); clear HO527; clear BK520; clear HB; have HO527 := n0_; have HO532 := n1_; have BK520 := n2_; have HB := n3_; clear n0_ n1_ n2_ n3_; (try clear hb); (try clear hb2); (try clear hk); (try clear hi); (try clear ho0); obtain ⟨Ao27, co27, eo27⟩ := Kd.R_slice HO532.out; subst eo27) | ((with_reducible refine gate_callee (f := 31) rfl ?_); refine goesL_ (some 47) rfl rfl Try.func31 (by kernel_rfl) rfl #[.slice Ao27 t530.length co27] rfl (by (try simp only [List.map_toArray, List.map_cons, List.map_nil]); first | done | rfl | (simp only [List.length_drop, List.length_take]; rfl)) ?_; (with_reducible refine (plane_Area.calls kj3 _ _ t530 t533 t534 _ ?side1 ?side2 A18.out).mono ?_); (case side1 => repeat (first | exact (Kd.R_reads' HO532.out).2.2 | (with_reducible refine Kd.C_alloc ?_ _) | (with_reducible refine Kd.C_drewN ?_ _) | (with_reducible refine Kd.C_drew ?_))); (case side2 => exact (Kd.R_reads' HO532.out).2.1); rintro e w28 ⟨rfl, hb⟩; refine ⟨_, rfl, ?_⟩; have n0_ := Aside0.mk (Kd.R_below (by (with_reducible repeat (first | apply Kd.R_alloc | apply Kd.R_drewN | apply Kd.R_drew)); exact HO527.out) hb); have n1_ := Aside0.mk (Kd.R_below (by (with_reducible repeat (first | apply Kd.R_alloc | apply Kd.R_drewN | apply Kd.R_drew)); exact HO532.out) hb); have n2_ := Aside0.mk (blk_below (g := gb520) (o := .cells #[.int .i64 a1_0, .int .i64 a1_1] 23 (0, 0)) (by (with_reducible repeat (first | refine blk_drewN ?_ _ | refine blk_drew ?_ | refine blk_alloc ?_ _)); exact BK520.out) hb); have n3_ := Aside0.mk (below_step (by repeat (first | (with_reducible first | exact HB.out | apply below_alloc | apply pw_below_drewN | apply below_drew1 | refine below_set ?_ GE520.out) | exact HB.out)) hb); clear HO527; clear HO532; clear BK520; clear HB; have HO527 := n0_; have HO532 := n1_; have BK520 := n2_; have HB := n3_; clear n0_ n1_ n2_ n3_; (try clear hb); (try clear hb2); (try clear hk); (try clear hi); have hcz29_0 : w28.cell? ⟨gb520, 0, none⟩ = some (.int .i64 a1_0) := (blk_cell BK520.out 0).trans rfl; have hcz29_1 : w28.cell? ⟨gb520, 1, none⟩ = some (.int .i64 a1_1) := (blk_cell BK520.out 1).trans rfl; have hfz29_0 := blk_frozen BK520.out 0; have hfz29_1 := blk_frozen BK520.out 1) | ((with_reducible refine gate_callee (f := 35) rfl ?_); refine goesL_ (some 53) rfl rfl Try.func35 (by kernel_rfl) rfl #[.slice A0 l0.length c0, .agg #[.int .i64 a1_0, .int .i64 a1_1]] rfl (by (try simp only [List.map_toArray, List.map_cons, List.map_nil]); first | done | rfl | (simp only [List.length_drop, List.length_take]; rfl)) ?_; (with_reducible refine (plane_Winding.calls kj3 _ _ l0 a1_0 a1_1 t535 t536 _ ?side1 ?side2 A19.out).mono ?_); (case side1 => repeat (first | exact (Kd.C_below HR0.out HB.out) | (with_reducible refine Kd.C_alloc ?_ _) | (with_reducible refine Kd.C_drewN ?_ _) | (with_reducible refine Kd.C_drew ?_))); (case side2 => exact HC0.out); rintro e w30 ⟨rfl, hb⟩; refine ⟨_, rfl, ?_⟩; have n0_ := Aside0.mk (Kd.R_below (by (with_reducible repeat (first | apply Kd.R_alloc | apply Kd.R_drewN | apply Kd.R_drew)); exact HO527.out) hb); have n1_ := Aside0.mk (Kd.R_below (by (with_reducible repeat (first | apply Kd.R_alloc | apply Kd.R_drewN | apply Kd.R_drew)); exact HO532.out) hb); have n2_ := Aside0.mk (blk_below (g := gb520) (o := .cells #[.int .i64 a1_0, .int .i64 a1_1] 23 (0, 0)) (by (with_reducible repeat (first | refine blk_drewN ?_ _ | refine blk_drew ?_ | refine blk_alloc ?_ _)); exact BK520.out) hb); have n3_ := Aside0.mk (below_step (by repeat (first | (with_reducible first | exact HB.out | apply below_alloc | apply pw_below_drewN | apply below_drew1 | refine below_set ?_ GE520.out) | exact HB.out)) hb); clear HO527; clear HO532; clear BK520; clear HB; have HO527 := n0_; have HO532 := n1_; have BK520 := n2_; have HB := n3_; clear n0_ n1_ n2_ n3_; (try clear hb); (try clear hb2); (try clear hk); (try clear hi)))
        have n0_ := Aside0.mk (Kd.R_drew HO527.out)
        have n1_ := Aside0.mk (Kd.R_drew HO532.out)
        have n2_ := Aside0.mk (blk_drew BK520.out)
        have n3_ := Aside0.mk (below_drew1 HB.out)
        clear HO527
        clear HO532
        clear BK520
        clear HB
        have HO527 := n0_
        have HO532 := n1_
        have BK520 := n2_
        have HB := n3_
        clear n0_ n1_ n2_ n3_
        refine start_ (n := 9) (S := fun w' => w'.cell? ⟨gb520, 0, none⟩ = some (.int .i64 a1_0) ∧ w'.cell? ⟨gb520, 1, none⟩ = some (.int .i64 a1_1)) (ds := []) #[false, false, false, false, false, false, false, false, false] (by kernel_rfl) rfl rfl ⟨(blk_cell BK520.out 0).trans rfl, (blk_cell BK520.out 1).trans rfl⟩ (fun hHeld => ?_); refine with_tabW boundstonelaw02_PlaneRingsFair.tab7 boundstonelaw02_PlaneRingsFair.bits7 (fun HT_ HW_ => ?_)
        generalize w30.drew = w31 at HO527 HO532 BK520 HB hHeld ⊢
        refine pure_ (i := 0) (N := some 57) (v := ?_) (a' := ?_) #[true, false, false, false, false, false, false, false, false] rfl rfl (any_of HT_.out (by kernel_rfl)) (fun _ _ _ h => h) (Or.inl ⟨by rfl, ?_⟩) ?_ ?_
        rotate_left
        · intro w'
          go_simp
          with_reducible rfl
        rotate_left
        · simp only [Act.put, List.setIfInBounds_toArray, List.set_cons_zero, List.set_cons_succ, i64_w, i32_w]
          rfl
        refine take_ (i := 2) (N := some 59) (v := ?_) (a' := ?_) #[true, false, true, false, false, false, false, false, false] rfl rfl (take_ofW HT_.out HW_.out (by kernel_rfl)) (fun _ _ _ h => h) (Or.inl ⟨by rfl, ?_⟩) hHeld ?_ ?_
        rotate_left
        · rintro w' ⟨s0, s1⟩
          go_simp
          with_reducible rfl
        rotate_left
        · simp only [Act.put, List.setIfInBounds_toArray, List.set_cons_zero, List.set_cons_succ, i64_w, i32_w]
          rfl
        refine one_ (i := 1) (N := some 58) #[true, true, true, false, false, false, false, false, false] rfl rfl (one_of HT_.out (by kernel_rfl)) (by decide) (fun K hK => ?_)
        refine goes_ Try.func39 (by kernel_rfl) rfl #[.slice A0 l0.length c0, .bool true] (by rfl) rfl rfl (by (try simp only [List.map_toArray, List.map_cons, List.map_nil]); first | done | rfl | (simp only [List.length_drop, List.length_take]; rfl)) ?_
        with_reducible refine (boundstonelaw02_turned.calls kj3 _ _ l0 true t537 _ ?side1 ?side2 A20.out).mono ?_
        (case side1 => repeat (first | exact (Kd.C_below HR0.out HB.out) | (with_reducible refine Kd.C_alloc ?_ _) | (with_reducible refine Kd.C_drewN ?_ _) | (with_reducible refine Kd.C_drew ?_)))
        (case side2 => exact HC0.out)
        rintro e w32 ⟨v538, rfl, ho0, hb⟩
        refine ⟨_, rfl, ?_⟩
        have n0_ := Aside0.mk (Kd.R_elder' (by (with_reducible repeat (first | apply Kd.R_alloc | apply Kd.R_drewN | apply Kd.R_drew)); exact HO527.out) (Kd.R_base ho0) hb)
        have n1_ := Aside0.mk (Kd.R_elder' (by (with_reducible repeat (first | apply Kd.R_alloc | apply Kd.R_drewN | apply Kd.R_drew)); exact HO532.out) (Kd.R_base ho0) hb)
        have n2_ := Aside0.mk (Kd.R_lower (Kd.R_newB (Kd.R_new' (Kd.R_new' ho0 (Kd.R_lt (by (with_reducible repeat (first | apply Kd.R_alloc | apply Kd.R_drewN | apply Kd.R_drew)); exact HO527.out))) (Kd.R_lt (by (with_reducible repeat (first | apply Kd.R_alloc | apply Kd.R_drewN | apply Kd.R_drew)); exact HO532.out))) (g := gb520) (o := .cells #[.int .i64 a1_0, .int .i64 a1_1] 23 (0, 0)) (by (with_reducible repeat (first | refine blk_drewN ?_ _ | refine blk_drew ?_ | refine blk_alloc ?_ _)); exact BK520.out)) (below_size (by repeat (first | (with_reducible first | exact HB.out | apply below_alloc | apply pw_below_drewN | apply below_drew1 | refine below_set ?_ GE520.out) | exact HB.out))))
        have n3_ := Aside0.mk (blk_below (g := gb520) (o := .cells #[.int .i64 a1_0, .int .i64 a1_1] 23 (0, 0)) (by (with_reducible repeat (first | refine blk_drewN ?_ _ | refine blk_drew ?_ | refine blk_alloc ?_ _)); exact BK520.out) hb)
        have n4_ := Aside0.mk (below_step (by repeat (first | (with_reducible first | exact HB.out | apply below_alloc | apply pw_below_drewN | apply below_drew1 | refine below_set ?_ GE520.out) | exact HB.out)) hb)
        clear HO527
        clear HO532
        clear BK520
        clear HB
        have HO527 := n0_
        have HO532 := n1_
        have HO539 := n2_
        have BK520 := n3_
        have HB := n4_
        clear n0_ n1_ n2_ n3_ n4_
        (try clear hb)
        (try clear hb2)
        (try clear hk)
        (try clear hi)
        (try clear ho0)
        obtain ⟨Ao33, co33, eo33⟩ := Kd.R_slice HO539.out
        (first | subst eo33 | (injection eo33 with f1_ f2_ f3_; have f4_ := f1_.symm; have f5_ := f3_.symm; clear f1_ f2_ f3_; subst f4_; subst f5_))
        refine hK.out _ _ ⟨(blk_cell BK520.out 0).trans rfl, (blk_cell BK520.out 1).trans rfl⟩ (fun hHeld => ?_)
        clear hK K
        refine norm_ (a' := ?_) ?_ ?_
        rotate_left
        · show Act.put _ (some 58) _ = _
          simp only [Act.put, List.setIfInBounds_toArray, List.set_cons_zero, List.set_cons_succ, i64_w, i32_w]
          rfl
        refine one_ (i := 3) (N := some 60) #[true, true, true, true, false, false, false, false, false] rfl rfl (one_of HT_.out (by kernel_rfl)) (by decide) (fun K hK => ?_)
        refine goes_ Try.func35 (by kernel_rfl) rfl #[.slice Ao33 t537.length co33, .agg #[.int .i64 a1_0, .int .i64 a1_1]] (by rfl) rfl rfl (by (try simp only [List.map_toArray, List.map_cons, List.map_nil]); first | done | rfl | (simp only [List.length_drop, List.length_take]; rfl)) ?_
        with_reducible refine (plane_Winding.calls kj3 _ _ t537 a1_0 a1_1 t540 t541 _ ?side1 ?side2 A21.out).mono ?_
        (case side1 => repeat (first | exact (Kd.R_reads' HO539.out).2.2 | (with_reducible refine Kd.C_alloc ?_ _) | (with_reducible refine Kd.C_drewN ?_ _) | (with_reducible refine Kd.C_drew ?_)))
        (case side2 => exact (Kd.R_reads' HO539.out).2.1)
        rintro e w34 ⟨rfl, hb⟩
        refine ⟨_, rfl, ?_⟩
        have n0_ := Aside0.mk (Kd.R_below (by (with_reducible repeat (first | apply Kd.R_alloc | apply Kd.R_drewN | apply Kd.R_drew)); exact HO527.out) hb)
        have n1_ := Aside0.mk (Kd.R_below (by (with_reducible repeat (first | apply Kd.R_alloc | apply Kd.R_drewN | apply Kd.R_drew)); exact HO532.out) hb)
        have n2_ := Aside0.mk (Kd.R_below (by (with_reducible repeat (first | apply Kd.R_alloc | apply Kd.R_drewN | apply Kd.R_drew)); exact HO539.out) hb)
        have n3_ := Aside0.mk (blk_below (g := gb520) (o := .cells #[.int .i64 a1_0, .int .i64 a1_1] 23 (0, 0)) (by (with_reducible repeat (first | refine blk_drewN ?_ _ | refine blk_drew ?_ | refine blk_alloc ?_ _)); exact BK520.out) hb)
        have n4_ := Aside0.mk (below_step (by repeat (first | (with_reducible first | exact HB.out | apply below_alloc | apply pw_below_drewN | apply below_drew1 | refine below_set ?_ GE520.out) | exact HB.out)) hb)
        clear HO527
        clear HO532
        clear HO539
        clear BK520
        clear HB
        have HO527 := n0_
        have HO532 := n1_
        have HO539 := n2_
        have BK520 := n3_
        have HB := n4_
        clear n0_ n1_ n2_ n3_ n4_
        (try clear hb)
        (try clear hb2)
        (try clear hk)
        (try clear hi)
        refine hK.out _ _ ⟨(blk_cell BK520.out 0).trans rfl, (blk_cell BK520.out 1).trans rfl⟩ (fun hHeld => ?_)
        clear hK K
        refine norm_ (a' := ?_) ?_ ?_
        rotate_left
        · show Act.put _ (some 60) _ = _
          simp only [Act.put, List.setIfInBounds_toArray, List.set_cons_zero, List.set_cons_succ, i64_w, i32_w]
          rfl
        refine pure_ (i := 4) (N := some 56) (v := ?_) (a' := ?_) #[true, true, true, true, true, false, false, false, false] rfl rfl (any_of HT_.out (by kernel_rfl)) (fun _ _ _ h => h) (Or.inl ⟨by rfl, ?_⟩) ?_ ?_
        rotate_left
        · intro w'
          go_simp
          with_reducible rfl
        rotate_left
        · simp only [Act.put, List.setIfInBounds_toArray, List.set_cons_zero, List.set_cons_succ, i64_w, i32_w]
          rfl
        refine pure_ (i := 5) (N := some 61) (v := ?_) (a' := ?_) #[true, true, true, true, true, true, false, false, false] rfl rfl (any_of HT_.out (by kernel_rfl)) (fun _ _ _ h => h) (Or.inl ⟨by rfl, ?_⟩) ?_ ?_
        rotate_left
        · intro w'
          go_simp
          with_reducible rfl
        rotate_left
        · simp only [Act.put, List.setIfInBounds_toArray, List.set_cons_zero, List.set_cons_succ, i64_w, i32_w]
          rfl
        refine pure_ (i := 6) (N := some 62) (v := ?_) (a' := ?_) #[true, true, true, true, true, true, true, false, false] rfl rfl (any_of HT_.out (by kernel_rfl)) (fun _ _ _ h => h) (Or.inl ⟨by rfl, ?_⟩) ?_ ?_
        rotate_left
        · intro w'
          go_simp
          with_reducible rfl
        rotate_left
        · simp only [Act.put, List.setIfInBounds_toArray, List.set_cons_zero, List.set_cons_succ, i64_w, i32_w]
          rfl
        refine pure_ (i := 7) (N := some 13) (v := ?_) (a' := ?_) #[true, true, true, true, true, true, true, true, false] rfl rfl (any_of HT_.out (by kernel_rfl)) (fun _ _ _ h => h) (Or.inl ⟨by rfl, ?_⟩) ?_ ?_
        rotate_left
        · intro w'
          go_simp
          with_reducible rfl
        rotate_left
        · simp only [Act.put, List.setIfInBounds_toArray, List.set_cons_zero, List.set_cons_succ, i64_w, i32_w]
          rfl
        refine pure_ (i := 8) (N := some 14) (v := ?_) (a' := ?_) #[true, true, true, true, true, true, true, true, true] rfl rfl (any_of HT_.out (by kernel_rfl)) (fun _ _ _ h => h) (Or.inl ⟨by rfl, ?_⟩) ?_ ?_
        rotate_left
        · intro w'
          go_simp
          with_reducible rfl
        rotate_left
        · simp only [Act.put, List.setIfInBounds_toArray, List.set_cons_zero, List.set_cons_succ, i64_w, i32_w]
          rfl
        refine done_ (done_of HT_.out (by kernel_rfl)) ?_
        go_upto_region 8 with (fail)
        go_cut [90] (fun v90 wc => ∃ (kq : Nat) (x90_21 : Bool), v90 = .bool x90_21 ∧ Aside0 (boundstonelaw02_PlaneRingsFair.j1 kq l0 t521 t535 t536 x90_21 a1_0 a1_1 = some r) ∧ Aside0 (kq ≤ kj3) ∧ Aside0 (wc.heap[gb520]? = some (.cells #[.int .i64 a1_0, .int .i64 a1_1] 23 (0, 0))) ∧ Aside0 (Below w.heap.size w wc))
        case first =>
          have H := HC22.out
          clear HC22
          by_cases c35 : t529 = 0
          · rw [if_pos c35] at H
            have c35b0 : (t529 == 0) = true := beq_iff_eq.mpr c35
            have c35b1 : (t529 != 0) = false := bne_eq_false_iff_eq.mpr c35
            clear c35
            (first | rw [c35b0] | (simp only [i64_w, i32_w]; rw [c35b0]) | skip)
            by_cases c36 : t534 = 0
            · rw [if_pos c36] at H
              have c36b0 : (t534 == 0) = true := beq_iff_eq.mpr c36
              have c36b1 : (t534 != 0) = false := bne_eq_false_iff_eq.mpr c36
              clear c36
              by_cases c37 : t521 = t528
              · rw [if_pos c37] at H
                have c37b0 : (t521 == t528) = true := beq_iff_eq.mpr c37
                have c37b1 : (t521 != t528) = false := bne_eq_false_iff_eq.mpr c37
                clear c37
                by_cases c38 : t521 = (wrap64 (-t533))
                · rw [if_pos c38] at H
                  have c38b0 : (t521 == (wrap64 (-t533))) = true := beq_iff_eq.mpr c38
                  have c38b1 : (t521 != (wrap64 (-t533))) = false := bne_eq_false_iff_eq.mpr c38
                  clear c38
                  by_cases c39 : t536 = t541
                  · rw [if_pos c39] at H
                    have c39b0 : (t536 == t541) = true := beq_iff_eq.mpr c39
                    have c39b1 : (t536 != t541) = false := bne_eq_false_iff_eq.mpr c39
                    clear c39
                    have H' := Aside0.mk H
                    clear H
                    go_wp2
                    go_meet
                    case rel => exact ⟨_, ((t535 != (wrap64 (-t540)))), (by first | rfl | (simp; done) | (simp [*]; done)), H', ⟨by have := HJ3.out; first | omega | exact Nat.le_refl _⟩, ⟨by (with_reducible repeat (first | refine blk_drewN ?_ _ | refine blk_drew ?_ | refine blk_alloc ?_ _)); exact BK520.out⟩, ⟨by repeat (first | (with_reducible first | exact HB.out | apply below_alloc | apply pw_below_drewN | apply below_drew1 | refine below_set ?_ GE520.out) | exact HB.out)⟩⟩
                  · rw [if_neg c39] at H
                    exact absurd H (by simp)
                · rw [if_neg c38] at H
                  exact absurd H (by simp)
              · rw [if_neg c37] at H
                exact absurd H (by simp)
            · rw [if_neg c36] at H
              exact absurd H (by simp)
          · rw [if_neg c35] at H
            exact absurd H (by simp)
        case rest =>
          clear HC22
          (try clear c1); (try clear p2); (try clear c3); (try clear p6); (try clear c7); (try clear c7b0); (try clear c7b1); (try clear c8); (try clear c8b0); (try clear c8b1); (try clear c12); (try clear c16); (try clear c31); (try clear c35); (try clear c35b0); (try clear c35b1); (try clear c36); (try clear c36b0); (try clear c36b1); (try clear c37); (try clear c37b0); (try clear c37b1); (try clear c38); (try clear c38b0); (try clear c38b1); (try clear c39); (try clear c39b0); (try clear c39b1); (try clear hcz10_0); (try clear hcz10_1); (try clear hcz29_0); (try clear hcz29_1); (try clear hfz10_0); (try clear hfz10_1); (try clear hfz29_0); (try clear hfz29_1); (try clear p2)
          obtain ⟨kq, x90_21, rfl, HA, HJ21, BK520, HB⟩ := hcut
          cases kq with
          | zero => exact absurd HA.out (by simp [boundstonelaw02_PlaneRingsFair.j1])
          | succ kj21 =>
            have H := HA.out
            clear HA
            simp only [boundstonelaw02_PlaneRingsFair.j1] at H
            by_cases c40 : x90_21 = true
            · subst c40
              have H1 : (none) = some r := by rw [if_pos rfl] at H; exact H
              clear H
              have H := H1
              clear H1
              exact absurd H (by simp)
            · replace c40 := Bool.eq_false_iff.mpr c40
              subst c40
              have H1 : ((plane_Simple.f kj21 l0).bind fun bt542 => ((plane_Where.f kj21 l0 a1_0 a1_1).bind fun bt544 => (if bt542.2 = 0 then (if (bt542.1 != (bt544.2 == 0)) = true then (none) else (if bt542.1 = true then (boundstonelaw02_PlaneRingsFair.j2 kj21 t521 t535 t536 bt542.1 bt544.1 false) else (boundstonelaw02_PlaneRingsFair.j2 kj21 t521 t535 t536 bt542.1 bt544.1 (bt544.2 != 4)))) else (none)))) = some r := by rw [if_neg (show ¬ (false = true) by decide)] at H; exact H
              clear H
              have H := H1
              clear H1
              replace H := Option.bind_eq_some_iff.mp H
              obtain ⟨⟨t542, t543⟩, A410, H⟩ := H
              replace H : ((plane_Where.f kj21 l0 a1_0 a1_1).bind fun bt544 => (if t543 = 0 then (if (t542 != (bt544.2 == 0)) = true then (none) else (if t542 = true then (boundstonelaw02_PlaneRingsFair.j2 kj21 t521 t535 t536 t542 bt544.1 false) else (boundstonelaw02_PlaneRingsFair.j2 kj21 t521 t535 t536 t542 bt544.1 (bt544.2 != 4)))) else (none))) = some r := H
              have A41 := Aside0.mk A410
              clear A410
              replace H := Option.bind_eq_some_iff.mp H
              obtain ⟨⟨t544, t545⟩, A420, H⟩ := H
              replace H : (if t543 = 0 then (if (t542 != (t545 == 0)) = true then (none) else (if t542 = true then (boundstonelaw02_PlaneRingsFair.j2 kj21 t521 t535 t536 t542 t544 false) else (boundstonelaw02_PlaneRingsFair.j2 kj21 t521 t535 t536 t542 t544 (t545 != 4)))) else (none)) = some r := H
              have A42 := Aside0.mk A420
              clear A420
              have HC43 := Aside0.mk H
              clear H
              go_upto_region 12 with (first | ((with_reducible refine gate_callee (f := 33) rfl ?_); refine goesL_ (some 93) rfl rfl Try.func33 (by kernel_rfl) rfl #[.slice A0 l0.length c0] rfl (by (try simp only [List.map_toArray, List.map_cons, List.map_nil]); first | done | rfl | (simp only [List.length_drop, List.length_take]; rfl)) ?_; (with_reducible refine (plane_Simple.calls kj21 _ _ l0 t542 t543 _ ?side1 ?side2 A41.out).mono ?_); (case side1 => repeat (first | exact (Kd.C_below HR0.out HB.out) | (with_reducible refine Kd.C_alloc ?_ _) | (with_reducible refine Kd.C_drewN ?_ _) | (with_reducible refine Kd.C_drew ?_))); (case side2 => exact HC0.out); rintro e w44 ⟨rfl, hb⟩; refine ⟨_, rfl, ?_⟩; have n0_ := Aside0.mk (blk_below (g := gb520) (o := .cells #[.int .i64 a1_0, .int .i64 a1_1] 23 (0, 0)) (by (with_reducible repeat (first | refine blk_drewN ?_ _ | refine blk_drew ?_ | refine blk_alloc ?_ _)); exact BK520.out) hb); have n1_ := Aside0.mk (below_step (by repeat (first | (with_reducible first | exact HB.out | apply below_alloc | apply pw_below_drewN | apply below_drew1 | refine below_set ?_ GE520.out) | exact HB.out)) hb); clear BK520; clear HB; have BK520 := n0_; have HB := n1_; clear n0_ n1_; (try clear hb); (try clear hb2); (try clear hk); (try clear hi); have hcz45_0 : w44.cell? ⟨gb520, 0, none⟩ = some (.int .i64 a1_0) := (blk_cell BK520.out 0).trans rfl; have hcz45_1 : w44.cell? ⟨gb520, 1, none⟩ = some (.int .i64 a1_1) := (blk_cell BK520.out 1).trans rfl; have hfz45_0 := blk_frozen BK520.out 0; have hfz45_1 := blk_frozen BK520.out 1) | ((with_reducible refine gate_callee (f := 37) rfl ?_); refine goesL_ (some 99) rfl rfl Try.func37 (by kernel_rfl) rfl #[.slice A0 l0.length c0, .agg #[.int .i64 a1_0, .int .i64 a1_1]] rfl (by (try simp only [List.map_toArray, List.map_cons, List.map_nil]); first | done | rfl | (simp only [List.length_drop, List.length_take]; rfl)) ?_; (with_reducible refine (plane_Where.calls kj21 _ _ l0 a1_0 a1_1 t544 t545 _ ?side1 ?side2 A42.out).mono ?_); (case side1 => repeat (first | exact (Kd.C_below HR0.out HB.out) | (with_reducible refine Kd.C_alloc ?_ _) | (with_reducible refine Kd.C_drewN ?_ _) | (with_reducible refine Kd.C_drew ?_))); (case side2 => exact HC0.out); rintro e w46 ⟨rfl, hb⟩; refine ⟨_, rfl, ?_⟩; have n0_ := Aside0.mk (blk_below (g := gb520) (o := .cells #[.int .i64 a1_0, .int .i64 a1_1] 23 (0, 0)) (by (with_reducible repeat (first | refine blk_drewN ?_ _ | refine blk_drew ?_ | refine blk_alloc ?_ _)); exact BK520.out) hb); have n1_ := Aside0.mk (below_step (by repeat (first | (with_reducible first | exact HB.out | apply below_alloc | apply pw_below_drewN | apply below_drew1 | refine below_set ?_ GE520.out) | exact HB.out)) hb); clear BK520; clear HB; have BK520 := n0_; have HB := n1_; clear n0_ n1_; (try clear hb); (try clear hb2); (try clear hk); (try clear hi)))
              (try simp only [Act.put, List.setIfInBounds_toArray, List.set_cons_zero, List.set_cons_succ])
              go_cut [117] (fun v117 wc => ∃ (kq : Nat) (x117_42 : Bool), v117 = .bool x117_42 ∧ Aside0 (boundstonelaw02_PlaneRingsFair.j2 kq t521 t535 t536 t542 t544 x117_42 = some r) ∧ Aside0 (kq ≤ kj21) ∧ Aside0 (wc.heap[gb520]? = some (.cells #[.int .i64 a1_0, .int .i64 a1_1] 23 (0, 0))) ∧ Aside0 (Below w.heap.size w wc))
              case first =>
                have H := HC43.out
                clear HC43
                by_cases c47 : t543 = 0
                · rw [if_pos c47] at H
                  have c47b0 : (t543 == 0) = true := beq_iff_eq.mpr c47
                  have c47b1 : (t543 != 0) = false := bne_eq_false_iff_eq.mpr c47
                  clear c47
                  (first | rw [c47b0] | (simp only [i64_w, i32_w]; rw [c47b0]) | skip)
                  by_cases c48 : (t542 != (t545 == 0)) = true
                  · rw [if_pos c48] at H
                    exact absurd H (by simp)
                  · rw [if_neg c48] at H
                    have c48b0 : (t542 != (t545 == 0)) = false := by simpa using c48
                    (try (have c48b1 : decide (t542 = (t545 == 0)) = true := by simpa using c48))
                    (try (have c48b2 : (t542 == (t545 == 0)) = true := by simpa using c48))
                    clear c48
                    by_cases c49 : t542 = true
                    · subst c49
                      have H1 : (boundstonelaw02_PlaneRingsFair.j2 kj21 t521 t535 t536 true t544 false) = some r := by rw [if_pos rfl] at H; exact H
                      clear H
                      have H := H1
                      clear H1
                      have H' := Aside0.mk H
                      clear H
                      go_wp2
                      go_meet
                      case rel => exact ⟨_, (false), (by first | rfl | (simp; done) | (simp [*]; done)), H', ⟨by have := HJ3.out; have := HJ21.out; first | omega | exact Nat.le_refl _⟩, ⟨by (with_reducible repeat (first | refine blk_drewN ?_ _ | refine blk_drew ?_ | refine blk_alloc ?_ _)); exact BK520.out⟩, ⟨by repeat (first | (with_reducible first | exact HB.out | apply below_alloc | apply pw_below_drewN | apply below_drew1 | refine below_set ?_ GE520.out) | exact HB.out)⟩⟩
                    · replace c49 := Bool.eq_false_iff.mpr c49
                      subst c49
                      have H1 : (boundstonelaw02_PlaneRingsFair.j2 kj21 t521 t535 t536 false t544 (t545 != 4)) = some r := by rw [if_neg (show ¬ (false = true) by decide)] at H; exact H
                      clear H
                      have H := H1
                      clear H1
                      have H' := Aside0.mk H
                      clear H
                      go_wp2
                      go_meet
                      case rel => exact ⟨_, ((t545 != 4)), (by first | rfl | (simp; done) | (simp [*]; done)), H', ⟨by have := HJ3.out; have := HJ21.out; first | omega | exact Nat.le_refl _⟩, ⟨by (with_reducible repeat (first | refine blk_drewN ?_ _ | refine blk_drew ?_ | refine blk_alloc ?_ _)); exact BK520.out⟩, ⟨by repeat (first | (with_reducible first | exact HB.out | apply below_alloc | apply pw_below_drewN | apply below_drew1 | refine below_set ?_ GE520.out) | exact HB.out)⟩⟩
                · rw [if_neg c47] at H
                  exact absurd H (by simp)
              case rest =>
                clear HC43
                (try clear c1); (try clear p2); (try clear c3); (try clear c4); (try clear p6); (try clear c7); (try clear c7b0); (try clear c7b1); (try clear c8); (try clear c8b0); (try clear c8b1); (try clear c12); (try clear c16); (try clear c31); (try clear c33); (try clear c35); (try clear c35b0); (try clear c35b1); (try clear c36); (try clear c36b0); (try clear c36b1); (try clear c37); (try clear c37b0); (try clear c37b1); (try clear c38); (try clear c38b0); (try clear c38b1); (try clear c39); (try clear c39b0); (try clear c39b1); (try clear c40); (try clear c47); (try clear c47b0); (try clear c47b1); (try clear c48); (try clear c48b0); (try clear c48b1); (try clear c48b2); (try clear c49); (try clear hcz10_0); (try clear hcz10_1); (try clear hcz29_0); (try clear hcz29_1); (try clear hcz45_0); (try clear hcz45_1); (try clear hfz10_0); (try clear hfz10_1); (try clear hfz29_0); (try clear hfz29_1); (try clear hfz45_0); (try clear hfz45_1); (try clear p2); (try clear p6)
                obtain ⟨kq, x117_42, rfl, HA, HJ42, BK520, HB⟩ := hcut
                cases kq with
                | zero => exact absurd HA.out (by simp [boundstonelaw02_PlaneRingsFair.j2])
                | succ kj42 =>
                  have H := HA.out
                  clear HA
                  simp only [boundstonelaw02_PlaneRingsFair.j2] at H
                  by_cases c50 : x117_42 = true
                  · subst c50
                    have H1 : (none) = some r := by rw [if_pos rfl] at H; exact H
                    clear H
                    have H := H1
                    clear H1
                    exact absurd H (by simp)
                  · replace c50 := Bool.eq_false_iff.mpr c50
                    subst c50
                    have H1 : (if t542 = true then (if t521 < 0 then (boundstonelaw02_PlaneRingsFair.j3 kj42 t521 t535 t536 t544 (-1)) else (boundstonelaw02_PlaneRingsFair.j3 kj42 t521 t535 t536 t544 1)) else ((boundstonelaw02_sanity.f kj42).bind fun t546 => (some t546))) = some r := by rw [if_neg (show ¬ (false = true) by decide)] at H; exact H
                    clear H
                    have H := H1
                    clear H1
                    by_cases c51 : t542 = true
                    · subst c51
                      have H1 : (if t521 < 0 then (boundstonelaw02_PlaneRingsFair.j3 kj42 t521 t535 t536 t544 (-1)) else (boundstonelaw02_PlaneRingsFair.j3 kj42 t521 t535 t536 t544 1)) = some r := by rw [if_pos rfl] at H; exact H
                      clear H
                      have H := H1
                      clear H1
                      have HC52 := Aside0.mk H
                      clear H
                      go_upto_if 122 with (fail)
                      go_cut [19] (fun v19 wc => ∃ (kq : Nat) (x19_51 : Int), v19 = .int .i64 x19_51 ∧ Aside0 (boundstonelaw02_PlaneRingsFair.j3 kq t521 t535 t536 t544 x19_51 = some r) ∧ Aside0 (kq ≤ kj42) ∧ Aside0 (wc.heap[gb520]? = some (.cells #[.int .i64 a1_0, .int .i64 a1_1] 23 (0, 0))) ∧ Aside0 (Below w.heap.size w wc))
                      case first =>
                        have H := HC52.out
                        clear HC52
                        by_cases c53 : t521 < 0
                        · rw [if_pos c53] at H
                          have c53b0 : decide (t521 < 0) = true := decide_eq_true c53
                          clear c53
                          (first | rw [c53b0] | (simp only [i64_w, i32_w]; rw [c53b0]) | skip)
                          have H' := Aside0.mk H
                          clear H
                          go_wp2
                          go_meet
                          case rel => exact ⟨_, ((-1)), (by first | rfl | (simp; done) | (simp [*]; done)), H', ⟨by have := HJ3.out; have := HJ21.out; have := HJ42.out; first | omega | exact Nat.le_refl _⟩, ⟨by (with_reducible repeat (first | refine blk_drewN ?_ _ | refine blk_drew ?_ | refine blk_alloc ?_ _)); exact BK520.out⟩, ⟨by repeat (first | (with_reducible first | exact HB.out | apply below_alloc | apply pw_below_drewN | apply below_drew1 | refine below_set ?_ GE520.out) | exact HB.out)⟩⟩
                        · rw [if_neg c53] at H
                          have c53b0 : decide (t521 < 0) = false := decide_eq_false c53
                          clear c53
                          (first | rw [c53b0] | (simp only [i64_w, i32_w]; rw [c53b0]) | skip)
                          have H' := Aside0.mk H
                          clear H
                          go_wp2
                          go_meet
                          case rel => exact ⟨_, (1), (by first | rfl | (simp; done) | (simp [*]; done)), H', ⟨by have := HJ3.out; have := HJ21.out; have := HJ42.out; first | omega | exact Nat.le_refl _⟩, ⟨by (with_reducible repeat (first | refine blk_drewN ?_ _ | refine blk_drew ?_ | refine blk_alloc ?_ _)); exact BK520.out⟩, ⟨by repeat (first | (with_reducible first | exact HB.out | apply below_alloc | apply pw_below_drewN | apply below_drew1 | refine below_set ?_ GE520.out) | exact HB.out)⟩⟩
                      case rest =>
                        clear HC52
                        (try clear c1); (try clear p2); (try clear c3); (try clear c4); (try clear c5); (try clear p6); (try clear c7); (try clear c7b0); (try clear c7b1); (try clear c8); (try clear c8b0); (try clear c8b1); (try clear c12); (try clear c16); (try clear c31); (try clear c33); (try clear c35); (try clear c35b0); (try clear c35b1); (try clear c36); (try clear c36b0); (try clear c36b1); (try clear c37); (try clear c37b0); (try clear c37b1); (try clear c38); (try clear c38b0); (try clear c38b1); (try clear c39); (try clear c39b0); (try clear c39b1); (try clear c40); (try clear c47); (try clear c47b0); (try clear c47b1); (try clear c48); (try clear c48b0); (try clear c48b1); (try clear c48b2); (try clear c49); (try clear c50); (try clear c51); (try clear c53); (try clear c53b0); (try clear hcz10_0); (try clear hcz10_1); (try clear hcz29_0); (try clear hcz29_1); (try clear hcz45_0); (try clear hcz45_1); (try clear hfz10_0); (try clear hfz10_1); (try clear hfz29_0); (try clear hfz29_1); (try clear hfz45_0); (try clear hfz45_1); (try clear p2); (try clear p6)
                        obtain ⟨kq, x19_51, rfl, HA, HJ51, BK520, HB⟩ := hcut
                        cases kq with
                        | zero => exact absurd HA.out (by simp [boundstonelaw02_PlaneRingsFair.j3])
                        | succ kj51 =>
                          have H := HA.out
                          clear HA
                          simp only [boundstonelaw02_PlaneRingsFair.j3] at H
                          by_cases c54 : t544 = 0
                          · rw [if_pos c54] at H
                            have c54b0 : (t544 == 0) = true := beq_iff_eq.mpr c54
                            have c54b1 : (t544 != 0) = false := bne_eq_false_iff_eq.mpr c54
                            clear c54
                            replace H := Option.bind_eq_some_iff.mp H
                            obtain ⟨t547, A550, H⟩ := H
                            replace H : (if t547 = true then (if t521 = 0 then (none) else (some (t536 == 4))) else (none)) = some r := H
                            have A55 := Aside0.mk A550
                            clear A550
                            by_cases c56 : t547 = true
                            · subst c56
                              have H1 : (if t521 = 0 then (none) else (some (t536 == 4))) = some r := by rw [if_pos rfl] at H; exact H
                              clear H
                              have H := H1
                              clear H1
                              by_cases c57 : t521 = 0
                              · rw [if_pos c57] at H
                                exact absurd H (by simp)
                              · rw [if_neg c57] at H
                                have c57b0 : (t521 == 0) = false := beq_eq_false_iff_ne.mpr c57
                                have c57b1 : (t521 != 0) = true := bne_iff_ne.mpr c57
                                obtain rfl := Option.some.inj H
                                go_wp2_with (first | ((with_reducible refine gate_callee (f := 16) rfl ?_); refine goesL_ (some 125) rfl rfl Try.func16 (by kernel_rfl) rfl #[] rfl (by (try simp only [List.map_toArray, List.map_cons, List.map_nil]); first | done | rfl | (simp only [List.length_drop, List.length_take]; rfl)) ?_; (with_reducible refine (boundstonelaw02_sanity.calls kj51  true _ A55.out).mono ?_); rintro e w58 ⟨rfl, hb⟩; refine ⟨_, rfl, ?_⟩; have n0_ := Aside0.mk (blk_below (g := gb520) (o := .cells #[.int .i64 a1_0, .int .i64 a1_1] 23 (0, 0)) (by (with_reducible repeat (first | refine blk_drewN ?_ _ | refine blk_drew ?_ | refine blk_alloc ?_ _)); exact BK520.out) hb); have n1_ := Aside0.mk (below_step (by repeat (first | (with_reducible first | exact HB.out | apply below_alloc | apply pw_below_drewN | apply below_drew1 | refine below_set ?_ GE520.out) | exact HB.out)) hb); clear BK520; clear HB; have BK520 := n0_; have HB := n1_; clear n0_ n1_; (try clear hb); (try clear hb2); (try clear hk); (try clear hi)))
                                go_ret
                                exact ⟨by first | rfl | (simp [errW_none, errW_some] <;> rfl) | (simp [*, errW_none, errW_some] <;> rfl), by repeat (first | (with_reducible first | exact HB.out | apply below_alloc | apply pw_below_drewN | apply below_drew1 | refine below_set ?_ GE520.out) | exact HB.out)⟩
                            · replace c56 := Bool.eq_false_iff.mpr c56
                              subst c56
                              have H1 : (none) = some r := by rw [if_neg (show ¬ (false = true) by decide)] at H; exact H
                              clear H
                              have H := H1
                              clear H1
                              exact absurd H (by simp)
                          · rw [if_neg c54] at H
                            have c54b0 : (t544 == 0) = false := beq_eq_false_iff_ne.mpr c54
                            have c54b1 : (t544 != 0) = true := bne_iff_ne.mpr c54
                            replace H := Option.bind_eq_some_iff.mp H
                            obtain ⟨t548, A590, H⟩ := H
                            replace H : (if t548 = true then (if t521 = 0 then (none) else (if t536 = 0 then (if t544 = 1 then (if t535 = x19_51 then (some true) else (if t544 = (-1) then (some (t535 == 0)) else (none))) else (if t544 = (-1) then (some (t535 == 0)) else (none))) else (none))) else (none)) = some r := H
                            have A59 := Aside0.mk A590
                            clear A590
                            by_cases c60 : t548 = true
                            · subst c60
                              have H1 : (if t521 = 0 then (none) else (if t536 = 0 then (if t544 = 1 then (if t535 = x19_51 then (some true) else (if t544 = (-1) then (some (t535 == 0)) else (none))) else (if t544 = (-1) then (some (t535 == 0)) else (none))) else (none))) = some r := by rw [if_pos rfl] at H; exact H
                              clear H
                              have H := H1
                              clear H1
                              by_cases c61 : t521 = 0
                              · rw [if_pos c61] at H
                                exact absurd H (by simp)
                              · rw [if_neg c61] at H
                                have c61b0 : (t521 == 0) = false := beq_eq_false_iff_ne.mpr c61
                                have c61b1 : (t521 != 0) = true := bne_iff_ne.mpr c61
                                by_cases c62 : t536 = 0
                                · rw [if_pos c62] at H
                                  have c62b0 : (t536 == 0) = true := beq_iff_eq.mpr c62
                                  have c62b1 : (t536 != 0) = false := bne_eq_false_iff_eq.mpr c62
                                  clear c62
                                  by_cases c63 : t544 = 1
                                  · rw [if_pos c63] at H
                                    have c63b0 : (t544 == 1) = true := beq_iff_eq.mpr c63
                                    have c63b1 : (t544 != 1) = false := bne_eq_false_iff_eq.mpr c63
                                    clear c63
                                    by_cases c64 : t535 = x19_51
                                    · rw [if_pos c64] at H
                                      have c64b0 : (t535 == x19_51) = true := beq_iff_eq.mpr c64
                                      have c64b1 : (t535 != x19_51) = false := bne_eq_false_iff_eq.mpr c64
                                      clear c64
                                      obtain rfl := Option.some.inj H
                                      go_wp2_with (first | ((with_reducible refine gate_callee (f := 16) rfl ?_); refine goesL_ (some 134) rfl rfl Try.func16 (by kernel_rfl) rfl #[] rfl (by (try simp only [List.map_toArray, List.map_cons, List.map_nil]); first | done | rfl | (simp only [List.length_drop, List.length_take]; rfl)) ?_; (with_reducible refine (boundstonelaw02_sanity.calls kj51  true _ A59.out).mono ?_); rintro e w65 ⟨rfl, hb⟩; refine ⟨_, rfl, ?_⟩; have n0_ := Aside0.mk (blk_below (g := gb520) (o := .cells #[.int .i64 a1_0, .int .i64 a1_1] 23 (0, 0)) (by (with_reducible repeat (first | refine blk_drewN ?_ _ | refine blk_drew ?_ | refine blk_alloc ?_ _)); exact BK520.out) hb); have n1_ := Aside0.mk (below_step (by repeat (first | (with_reducible first | exact HB.out | apply below_alloc | apply pw_below_drewN | apply below_drew1 | refine below_set ?_ GE520.out) | exact HB.out)) hb); clear BK520; clear HB; have BK520 := n0_; have HB := n1_; clear n0_ n1_; (try clear hb); (try clear hb2); (try clear hk); (try clear hi)))
                                      go_ret
                                      exact ⟨by first | rfl | (simp [errW_none, errW_some] <;> rfl) | (simp [*, errW_none, errW_some] <;> rfl), by repeat (first | (with_reducible first | exact HB.out | apply below_alloc | apply pw_below_drewN | apply below_drew1 | refine below_set ?_ GE520.out) | exact HB.out)⟩
                                    · rw [if_neg c64] at H
                                      have c64b0 : (t535 == x19_51) = false := beq_eq_false_iff_ne.mpr c64
                                      have c64b1 : (t535 != x19_51) = true := bne_iff_ne.mpr c64
                                      by_cases c66 : t544 = (-1)
                                      · rw [if_pos c66] at H
                                        have c66b0 : (t544 == (-1)) = true := beq_iff_eq.mpr c66
                                        have c66b1 : (t544 != (-1)) = false := bne_eq_false_iff_eq.mpr c66
                                        clear c66
                                        obtain rfl := Option.some.inj H
                                        go_wp2_with (first | ((with_reducible refine gate_callee (f := 16) rfl ?_); refine goesL_ (some 134) rfl rfl Try.func16 (by kernel_rfl) rfl #[] rfl (by (try simp only [List.map_toArray, List.map_cons, List.map_nil]); first | done | rfl | (simp only [List.length_drop, List.length_take]; rfl)) ?_; (with_reducible refine (boundstonelaw02_sanity.calls kj51  true _ A59.out).mono ?_); rintro e w67 ⟨rfl, hb⟩; refine ⟨_, rfl, ?_⟩; have n0_ := Aside0.mk (blk_below (g := gb520) (o := .cells #[.int .i64 a1_0, .int .i64 a1_1] 23 (0, 0)) (by (with_reducible repeat (first | refine blk_drewN ?_ _ | refine blk_drew ?_ | refine blk_alloc ?_ _)); exact BK520.out) hb); have n1_ := Aside0.mk (below_step (by repeat (first | (with_reducible first | exact HB.out | apply below_alloc | apply pw_below_drewN | apply below_drew1 | refine below_set ?_ GE520.out) | exact HB.out)) hb); clear BK520; clear HB; have BK520 := n0_; have HB := n1_; clear n0_ n1_; (try clear hb); (try clear hb2); (try clear hk); (try clear hi)))
                                        go_ret
                                        exact ⟨by first | rfl | (simp [errW_none, errW_some] <;> rfl) | (simp [*, errW_none, errW_some] <;> rfl), by repeat (first | (with_reducible first | exact HB.out | apply below_alloc | apply pw_below_drewN | apply below_drew1 | refine below_set ?_ GE520.out) | exact HB.out)⟩
                                      · rw [if_neg c66] at H
                                        exact absurd H (by simp)
                                  · rw [if_neg c63] at H
                                    have c63b0 : (t544 == 1) = false := beq_eq_false_iff_ne.mpr c63
                                    have c63b1 : (t544 != 1) = true := bne_iff_ne.mpr c63
                                    by_cases c68 : t544 = (-1)
                                    · rw [if_pos c68] at H
                                      have c68b0 : (t544 == (-1)) = true := beq_iff_eq.mpr c68
                                      have c68b1 : (t544 != (-1)) = false := bne_eq_false_iff_eq.mpr c68
                                      clear c68
                                      obtain rfl := Option.some.inj H
                                      go_wp2_with (first | ((with_reducible refine gate_callee (f := 16) rfl ?_); refine goesL_ (some 134) rfl rfl Try.func16 (by kernel_rfl) rfl #[] rfl (by (try simp only [List.map_toArray, List.map_cons, List.map_nil]); first | done | rfl | (simp only [List.length_drop, List.length_take]; rfl)) ?_; (with_reducible refine (boundstonelaw02_sanity.calls kj51  true _ A59.out).mono ?_); rintro e w69 ⟨rfl, hb⟩; refine ⟨_, rfl, ?_⟩; have n0_ := Aside0.mk (blk_below (g := gb520) (o := .cells #[.int .i64 a1_0, .int .i64 a1_1] 23 (0, 0)) (by (with_reducible repeat (first | refine blk_drewN ?_ _ | refine blk_drew ?_ | refine blk_alloc ?_ _)); exact BK520.out) hb); have n1_ := Aside0.mk (below_step (by repeat (first | (with_reducible first | exact HB.out | apply below_alloc | apply pw_below_drewN | apply below_drew1 | refine below_set ?_ GE520.out) | exact HB.out)) hb); clear BK520; clear HB; have BK520 := n0_; have HB := n1_; clear n0_ n1_; (try clear hb); (try clear hb2); (try clear hk); (try clear hi)))
                                      go_ret
                                      exact ⟨by first | rfl | (simp [errW_none, errW_some] <;> rfl) | (simp [*, errW_none, errW_some] <;> rfl), by repeat (first | (with_reducible first | exact HB.out | apply below_alloc | apply pw_below_drewN | apply below_drew1 | refine below_set ?_ GE520.out) | exact HB.out)⟩
                                    · rw [if_neg c68] at H
                                      exact absurd H (by simp)
                                · rw [if_neg c62] at H
                                  exact absurd H (by simp)
                            · replace c60 := Bool.eq_false_iff.mpr c60
                              subst c60
                              have H1 : (none) = some r := by rw [if_neg (show ¬ (false = true) by decide)] at H; exact H
                              clear H
                              have H := H1
                              clear H1
                              exact absurd H (by simp)
                    · replace c51 := Bool.eq_false_iff.mpr c51
                      subst c51
                      have H1 : ((boundstonelaw02_sanity.f kj42).bind fun t546 => (some t546)) = some r := by rw [if_neg (show ¬ (false = true) by decide)] at H; exact H
                      clear H
                      have H := H1
                      clear H1
                      replace H := Option.bind_eq_some_iff.mp H
                      obtain ⟨t546, A700, H⟩ := H
                      replace H : (some t546) = some r := H
                      have A70 := Aside0.mk A700
                      clear A700
                      obtain rfl := Option.some.inj H
                      go_wp2_with (first | ((with_reducible refine gate_callee (f := 16) rfl ?_); refine goesL_ (some 120) rfl rfl Try.func16 (by kernel_rfl) rfl #[] rfl (by (try simp only [List.map_toArray, List.map_cons, List.map_nil]); first | done | rfl | (simp only [List.length_drop, List.length_take]; rfl)) ?_; (with_reducible refine (boundstonelaw02_sanity.calls kj42  t546 _ A70.out).mono ?_); rintro e w71 ⟨rfl, hb⟩; refine ⟨_, rfl, ?_⟩; have n0_ := Aside0.mk (blk_below (g := gb520) (o := .cells #[.int .i64 a1_0, .int .i64 a1_1] 23 (0, 0)) (by (with_reducible repeat (first | refine blk_drewN ?_ _ | refine blk_drew ?_ | refine blk_alloc ?_ _)); exact BK520.out) hb); have n1_ := Aside0.mk (below_step (by repeat (first | (with_reducible first | exact HB.out | apply below_alloc | apply pw_below_drewN | apply below_drew1 | refine below_set ?_ GE520.out) | exact HB.out)) hb); clear BK520; clear HB; have BK520 := n0_; have HB := n1_; clear n0_ n1_; (try clear hb); (try clear hb2); (try clear hk); (try clear hi)))
                      go_ret
                      exact ⟨by first | rfl | (simp [errW_none, errW_some] <;> rfl) | (simp [*, errW_none, errW_some] <;> rfl), by repeat (first | (with_reducible first | exact HB.out | apply below_alloc | apply pw_below_drewN | apply below_drew1 | refine below_set ?_ GE520.out) | exact HB.out)⟩
end Go.Proofs.Ytckaejgamfllfaa.G
end

section
namespace Go.Proofs.Ytckaejgamfllfaa.G
def sumN : Nat → (Nat → Int) → Int
  | 0, _ => 0
  | n + 1, g => sumN n g + g n
theorem sumN_congr {n : Nat} {f g : Nat → Int} (h : ∀ i, i < n → f i = g i) : sumN n f = sumN n g := by
  induction n with
  | zero => rfl
  | succ n ih => simp only [sumN]; rw [ih (fun i hi => h i (by omega)), h n (by omega)]
theorem sumN_add (n : Nat) (f g : Nat → Int) : sumN n (fun i => f i + g i) = sumN n f + sumN n g := by
  induction n with
  | zero => rfl
  | succ n ih => simp only [sumN, ih]; omega
theorem sumN_sub (n : Nat) (f g : Nat → Int) : sumN n (fun i => f i - g i) = sumN n f - sumN n g := by
  induction n with
  | zero => rfl
  | succ n ih => simp only [sumN, ih]; omega
theorem sumN_neg (n : Nat) (f : Nat → Int) : sumN n (fun i => -f i) = -sumN n f := by
  induction n with
  | zero => rfl
  | succ n ih => simp only [sumN, ih]; omega
theorem sumN_zero {n : Nat} {f : Nat → Int} (h : ∀ i, i < n → f i = 0) : sumN n f = 0 := by
  induction n with
  | zero => rfl
  | succ n ih => simp only [sumN]; rw [ih (fun i hi => h i (by omega)), h n (by omega)]; rfl
theorem sumN_mul (n : Nat) (c : Int) (f : Nat → Int) : sumN n (fun i => c * f i) = c * sumN n f := by
  induction n with
  | zero => simp [sumN]
  | succ n ih => simp only [sumN, ih]; grind
theorem sumN_single {n : Nat} {f : Nat → Int} {k : Nat} (hk : k < n) (h : ∀ i, i < n → i ≠ k → f i = 0) : sumN n f = f k := by
  induction n with
  | zero => omega
  | succ n ih =>
    simp only [sumN]
    by_cases e : k = n
    · subst e
      rw [sumN_zero (fun i hi => h i (by omega) (by omega))]; omega
    · rw [ih (by omega) (fun i hi hne => h i (by omega) hne), h n (by omega) (fun e' => e e'.symm)]; omega
theorem sumN_swap (n m : Nat) (f : Nat → Nat → Int) : sumN n (fun i => sumN m (fun j => f i j)) = sumN m (fun j => sumN n (fun i => f i j)) := by
  induction n with
  | zero => simp only [sumN]; exact (sumN_zero (fun _ _ => rfl)).symm
  | succ n ih => simp only [sumN]; rw [ih, ← sumN_add]
theorem sumN_nonneg {n : Nat} {f : Nat → Int} (h : ∀ i, i < n → 0 ≤ f i) : 0 ≤ sumN n f := by
  induction n with
  | zero => exact Int.le_refl _
  | succ n ih =>
    have := ih (fun i hi => h i (by omega))
    have := h n (by omega)
    simp only [sumN]; omega
theorem sumN_pos {n : Nat} {f : Nat → Int} (h : ∀ i, i < n → 0 ≤ f i) {k : Nat} (hk : k < n) (hp : 0 < f k) : 0 < sumN n f := by
  induction n with
  | zero => omega
  | succ n ih =>
    have h1 := sumN_nonneg (n := n) (f := f) (fun i hi => h i (by omega))
    have h2 := h n (by omega)
    simp only [sumN]
    by_cases e : k = n
    · subst e; omega
    · have := ih (fun i hi => h i (by omega)) (by omega); omega
theorem sumN_shift (n : Nat) (g : Nat → Int) : sumN n (fun i => g (i + 1)) + g 0 = sumN n g + g n := by
  induction n with
  | zero => simp [sumN]
  | succ n ih => simp only [sumN]; omega
def nx (n i : Nat) : Nat := (i + 1) % n
theorem nx_lt {n i : Nat} (h : 0 < n) : nx n i < n := Nat.mod_lt _ h
theorem nx_small {n i : Nat} (h : i + 1 < n) : nx n i = i + 1 := Nat.mod_eq_of_lt h
theorem nx_last {n i : Nat} (h : i + 1 = n) : nx n i = 0 := by unfold nx; rw [h]; exact Nat.mod_self n
theorem sumN_nx {n : Nat} (h : 0 < n) (g : Nat → Int) : sumN n (fun i => g (nx n i)) = sumN n g := by
  obtain ⟨m, rfl⟩ : ∃ m, n = m + 1 := ⟨n - 1, by omega⟩
  have h1 : sumN (m + 1) (fun i => g (nx (m + 1) i)) = sumN m (fun i => g (i + 1)) + g 0 := by
    simp only [sumN]
    rw [nx_last rfl]
    congr 1
    exact sumN_congr (fun i hi => by rw [nx_small (by omega)])
  rw [h1, sumN_shift]; rfl
theorem sumN_rev (n : Nat) (g : Nat → Int) : sumN n (fun i => g (n - 1 - i)) = sumN n g := by
  induction n with
  | zero => rfl
  | succ n ih =>
    have h1 : sumN (n + 1) (fun i => g (n + 1 - 1 - i)) = g n + sumN n (fun i => g (n - 1 - i)) := by
      have := sumN_shift n (fun i => g (n - i))
      have e : sumN n (fun i => g (n - (i + 1))) = sumN n (fun i => g (n - 1 - i)) := sumN_congr (fun i hi => by congr 1; omega)
      simp only [Nat.sub_zero, Nat.sub_self] at this
      have e2 : sumN (n + 1) (fun i => g (n + 1 - 1 - i)) = sumN n (fun i => g (n - i)) + g 0 := by simp [sumN]
      omega
    rw [h1, ih]; simp only [sumN]; omega
theorem least_of (m : Nat → Int) (p : Nat → Prop) : ∀ (n : Nat), (∃ j, j < n ∧ p j) → ∃ j, j < n ∧ p j ∧ ∀ k, k < n → p k → m j ≤ m k := by
  intro n
  induction n with
  | zero => rintro ⟨j, h, _⟩; omega
  | succ n ih =>
    rintro ⟨j, hj, hp⟩
    by_cases h : ∃ j, j < n ∧ p j
    · obtain ⟨j0, h1, h2, h3⟩ := ih h
      by_cases hn : p n ∧ m n < m j0
      · refine ⟨n, by omega, hn.1, fun k hk hpk => ?_⟩
        rcases Nat.lt_or_ge k n with hk' | hk'
        · have := h3 k hk' hpk; omega
        · have : k = n := by omega
          subst this; exact Int.le_refl _
      · refine ⟨j0, by omega, h2, fun k hk hpk => ?_⟩
        rcases Nat.lt_or_ge k n with hk' | hk'
        · exact h3 k hk' hpk
        · have : k = n := by omega
          subst this
          apply Classical.byContradiction
          intro hlt
          exact hn ⟨hpk, by omega⟩
    · have : j = n := by
        apply Classical.byContradiction
        intro hne
        exact h ⟨j, by omega, hp⟩
      subst this
      refine ⟨j, hj, hp, fun k hk hpk => ?_⟩
      rcases Nat.lt_or_ge k j with hk' | hk'
      · exact absurd ⟨k, hk', hpk⟩ h
      · have : k = j := by omega
        subst this; exact Int.le_refl _
end Go.Proofs.Ytckaejgamfllfaa.G
end

section
namespace Go.Proofs.Ytckaejgamfllfaa.G
structure Ring where
  n : Nat
  X : Nat → Int
  Z : Nat → Int
  al : Nat → Int
  be : Nat → Int
  K : Int
  hn : 3 ≤ n
  hK : 0 < K
  fa : ∀ i, i < n → al i + be i * (2 * Z i) = 2 * K * X i
  fb : ∀ i, i < n → al i + be i * (2 * Z (nx n i)) = 2 * K * X (nx n i)
  hz : ∀ i, i < n → Z i ≠ Z (nx n i)
  no1 : ∀ i j, i < n → j < n → i ≠ j → ∀ t, ((Z i ≤ t ∧ t ≤ Z (nx n i)) ∨ (Z (nx n i) ≤ t ∧ t ≤ Z i)) → ((Z j ≤ t ∧ t ≤ Z (nx n j)) ∨ (Z (nx n j) ≤ t ∧ t ≤ Z j)) →
    al i + be i * (2 * t) = al j + be j * (2 * t) → (j = nx n i ∧ t = Z (nx n i)) ∨ (i = nx n j ∧ t = Z (nx n j))
  no2 : ∀ i j, i < n → j < n → i ≠ j → ∀ t u, t < u → ((Z i ≤ t ∧ t ≤ Z (nx n i)) ∨ (Z (nx n i) ≤ t ∧ t ≤ Z i)) → ((Z j ≤ t ∧ t ≤ Z (nx n j)) ∨ (Z (nx n j) ≤ t ∧ t ≤ Z j)) →
    ((Z i ≤ u ∧ u ≤ Z (nx n i)) ∨ (Z (nx n i) ≤ u ∧ u ≤ Z i)) → ((Z j ≤ u ∧ u ≤ Z (nx n j)) ∨ (Z (nx n j) ≤ u ∧ u ≤ Z j)) →
    al i + be i * (2 * t) < al j + be j * (2 * t) → ¬ al j + be j * (2 * u) < al i + be i * (2 * u)
namespace Ring
variable (P : Ring)
def F (i : Nat) (t : Int) : Int := P.al i + P.be i * t
def nt (i : Nat) : Nat := nx P.n i
def rng (i : Nat) (t : Int) : Prop := (P.Z i ≤ t ∧ t ≤ P.Z (P.nt i)) ∨ (P.Z (P.nt i) ≤ t ∧ t ≤ P.Z i)
def cr (i : Nat) (Y : Int) : Prop := P.rng i Y ∧ P.rng i (Y + 1)
def lo (z Y : Int) : Int := if z ≤ Y then 1 else 0
def sg (i : Nat) (Y : Int) : Int := lo (P.Z i) Y - lo (P.Z (P.nt i)) Y
def md (i : Nat) (Y : Int) : Int := P.F i (2 * Y + 1)
variable {P}
theorem nt_lt (i : Nat) : P.nt i < P.n := nx_lt (by have := P.hn; omega)
theorem n_pos : 0 < P.n := by have := P.hn; omega
theorem F_a {i : Nat} (h : i < P.n) : P.F i (2 * P.Z i) = 2 * P.K * P.X i := P.fa i h
theorem F_b {i : Nat} (h : i < P.n) : P.F i (2 * P.Z (P.nt i)) = 2 * P.K * P.X (P.nt i) := P.fb i h
theorem Zne {i : Nat} (h : i < P.n) : P.Z i ≠ P.Z (P.nt i) := P.hz i h
theorem sg_cases (i : Nat) (Y : Int) : (P.sg i Y = 1 ∧ P.Z i ≤ Y ∧ Y + 1 ≤ P.Z (P.nt i)) ∨ (P.sg i Y = -1 ∧ P.Z (P.nt i) ≤ Y ∧ Y + 1 ≤ P.Z i) ∨
    (P.sg i Y = 0 ∧ ((P.Z i ≤ Y ∧ P.Z (P.nt i) ≤ Y) ∨ (Y + 1 ≤ P.Z i ∧ Y + 1 ≤ P.Z (P.nt i)))) := by
  unfold sg lo
  split <;> split <;> omega
theorem cr_of_sg {i : Nat} {Y : Int} (h : P.sg i Y ≠ 0) : P.cr i Y := by
  unfold cr rng
  rcases P.sg_cases i Y with h1 | h1 | h1 <;> omega
theorem mid' (i : Nat) (Y : Int) : 2 * P.md i Y = P.F i (2 * Y) + P.F i (2 * (Y + 1)) := by unfold md F; grind
theorem N1 {i j : Nat} (hi : i < P.n) (hj : j < P.n) (hne : i ≠ j) {t : Int} (h1 : P.rng i t) (h2 : P.rng j t) (h : P.F i (2 * t) = P.F j (2 * t)) :
    (j = P.nt i ∧ t = P.Z (P.nt i)) ∨ (i = P.nt j ∧ t = P.Z (P.nt j)) := P.no1 i j hi hj hne t h1 h2 h
theorem N2 {i j : Nat} (hi : i < P.n) (hj : j < P.n) (hne : i ≠ j) {t u : Int} (htu : t < u) (h1 : P.rng i t) (h2 : P.rng j t) (h3 : P.rng i u) (h4 : P.rng j u)
    (h : P.F i (2 * t) < P.F j (2 * t)) : P.F i (2 * u) ≤ P.F j (2 * u) := Int.not_lt.1 (P.no2 i j hi hj hne t u htu h1 h2 h3 h4 h)
theorem nt_nt {i : Nat} (hi : i < P.n) : P.nt (P.nt i) ≠ i := by
  have h3 := P.hn
  unfold nt
  by_cases h1 : i + 1 < P.n
  · rw [nx_small h1]
    by_cases h2 : i + 1 + 1 < P.n
    · rw [nx_small h2]; omega
    · rw [nx_last (by omega)]; omega
  · rw [nx_last (i := i) (by omega), nx_small (by omega)]; omega
theorem apart {i j : Nat} (hi : i < P.n) (hj : j < P.n) (hne : i ≠ j) {Y : Int} (h1 : P.cr i Y) (h2 : P.cr j Y) :
    P.md i Y ≠ P.md j Y ∧ (P.md i Y < P.md j Y → P.F i (2 * Y) ≤ P.F j (2 * Y) ∧ P.F i (2 * (Y + 1)) ≤ P.F j (2 * (Y + 1))) := by
  have mi := P.mid' i Y
  have mj := P.mid' j Y
  have A := N2 hi hj hne (show Y < Y + 1 by omega) h1.1 h2.1 h1.2 h2.2
  have B := N2 hj hi (fun e => hne e.symm) (show Y < Y + 1 by omega) h2.1 h1.1 h2.2 h1.2
  refine ⟨fun he => ?_, fun hl => ?_⟩
  · rcases Int.lt_trichotomy (P.F i (2 * Y)) (P.F j (2 * Y)) with h | h | h
    · have := A h; omega
    · have e1 : P.F i (2 * (Y + 1)) = P.F j (2 * (Y + 1)) := by omega
      rcases N1 hi hj hne h1.1 h2.1 h with ⟨a1, a2⟩ | ⟨a1, a2⟩ <;> rcases N1 hi hj hne h1.2 h2.2 e1 with ⟨b1, b2⟩ | ⟨b1, b2⟩
      · omega
      · rw [a1] at b1; exact nt_nt hi b1.symm
      · rw [b1] at a1; exact nt_nt hi a1.symm
      · omega
    · have := B h; omega
  · rcases Int.lt_trichotomy (P.F i (2 * Y)) (P.F j (2 * Y)) with h | h | h
    · have := A h; omega
    · omega
    · have := B h; omega
variable (P)
def lt01 (x y : Int) : Int := if x < y then 1 else 0
def R (i : Nat) (Y : Int) : Int := sumN P.n (fun j => P.sg j Y * lt01 (P.md i Y) (P.md j Y))
def cc (i : Nat) (Y : Int) : Int := P.R i Y + (if P.sg i Y = 1 then 1 else 0)
variable {P}
theorem lt01_self (x : Int) : lt01 x x = 0 := by unfold lt01; rw [if_neg (by omega)]
theorem level (Y x : Int) : sumN P.n (fun j => P.sg j Y * lt01 x (P.F j (2 * (Y + 1)))) = sumN P.n (fun j => P.sg j (Y + 1) * lt01 x (P.F j (2 * (Y + 1)))) := by
  have key : ∀ j, j < P.n → P.sg j Y * lt01 x (P.F j (2 * (Y + 1))) - P.sg j (Y + 1) * lt01 x (P.F j (2 * (Y + 1))) =
      (if P.Z (P.nt j) = Y + 1 then lt01 x (2 * P.K * P.X (P.nt j)) else 0) - (if P.Z j = Y + 1 then lt01 x (2 * P.K * P.X j) else 0) := by
    intro j hj
    have ha := F_a hj
    have hb := F_b hj
    have hz := Zne hj
    unfold sg lo
    by_cases e1 : P.Z j = Y + 1
    · by_cases e2 : P.Z (P.nt j) = Y + 1
      · omega
      · rw [if_pos e1, if_neg e2, ← ha, e1]
        generalize lt01 x (P.F j (2 * (Y + 1))) = q
        by_cases g : P.Z (P.nt j) ≤ Y
        · rw [if_neg (by omega), if_pos g, if_pos (by omega), if_pos (by omega)]; omega
        · rw [if_neg (by omega), if_neg g, if_pos (by omega), if_neg (by omega)]; omega
    · by_cases e2 : P.Z (P.nt j) = Y + 1
      · rw [if_neg e1, if_pos e2, ← hb, e2]
        generalize lt01 x (P.F j (2 * (Y + 1))) = q
        by_cases g : P.Z j ≤ Y
        · rw [if_pos g, if_neg (by omega), if_pos (by omega), if_pos (by omega)]; omega
        · rw [if_neg g, if_neg (by omega), if_neg (by omega), if_pos (by omega)]; omega
      · rw [if_neg e1, if_neg e2]
        generalize lt01 x (P.F j (2 * (Y + 1))) = q
        have l1 : (if P.Z j ≤ Y + 1 then (1 : Int) else 0) = if P.Z j ≤ Y then 1 else 0 := by split <;> split <;> omega
        have l2 : (if P.Z (P.nt j) ≤ Y + 1 then (1 : Int) else 0) = if P.Z (P.nt j) ≤ Y then 1 else 0 := by split <;> split <;> omega
        rw [l1, l2]; omega
  have h := sumN_congr key
  rw [sumN_sub, sumN_sub] at h
  have c := sumN_nx (P.n_pos) (fun j => if P.Z j = Y + 1 then lt01 x (2 * P.K * P.X j) else 0)
  have c' : sumN P.n (fun j => if P.Z (P.nt j) = Y + 1 then lt01 x (2 * P.K * P.X (P.nt j)) else 0) = sumN P.n (fun j => if P.Z j = Y + 1 then lt01 x (2 * P.K * P.X j) else 0) := c
  omega
theorem R_top {i : Nat} (hi : i < P.n) {Y : Int} (hc : P.cr i Y) (ho : ∀ j, j < P.n → j ≠ i → P.cr j Y → P.F j (2 * (Y + 1)) ≠ P.F i (2 * (Y + 1))) :
    P.R i Y = sumN P.n (fun j => P.sg j Y * lt01 (P.F i (2 * (Y + 1))) (P.F j (2 * (Y + 1)))) := by
  unfold R
  refine sumN_congr (fun j hj => ?_)
  by_cases e : j = i
  · subst e; rw [lt01_self, lt01_self]
  · by_cases hs : P.sg j Y = 0
    · rw [hs]; omega
    · have hcj := cr_of_sg hs
      obtain ⟨a1, a2⟩ := apart hi hj (fun h => e h.symm) hc hcj
      obtain ⟨b1, b2⟩ := apart hj hi e hcj hc
      have o := ho j hj e hcj
      congr 1
      unfold lt01
      by_cases hl : P.md i Y < P.md j Y
      · rw [if_pos hl, if_pos (by have := a2 hl; omega)]
      · rw [if_neg hl, if_neg (by have := b2 (by omega); omega)]
theorem R_bot {i : Nat} (hi : i < P.n) {Y : Int} (hc : P.cr i Y) (ho : ∀ j, j < P.n → j ≠ i → P.cr j Y → P.F j (2 * Y) ≠ P.F i (2 * Y)) :
    P.R i Y = sumN P.n (fun j => P.sg j Y * lt01 (P.F i (2 * Y)) (P.F j (2 * Y))) := by
  unfold R
  refine sumN_congr (fun j hj => ?_)
  by_cases e : j = i
  · subst e; rw [lt01_self, lt01_self]
  · by_cases hs : P.sg j Y = 0
    · rw [hs]; omega
    · have hcj := cr_of_sg hs
      obtain ⟨a1, a2⟩ := apart hi hj (fun h => e h.symm) hc hcj
      obtain ⟨b1, b2⟩ := apart hj hi e hcj hc
      have o := ho j hj e hcj
      congr 1
      unfold lt01
      by_cases hl : P.md i Y < P.md j Y
      · rw [if_pos hl, if_pos (by have := a2 hl; omega)]
      · rw [if_neg hl, if_neg (by have := b2 (by omega); omega)]
theorem pass {i k : Nat} (hi : i < P.n) (hk : k < P.n) {Y : Int} (hci : P.cr i Y) (hck : P.cr k (Y + 1)) (he : P.F i (2 * (Y + 1)) = P.F k (2 * (Y + 1)))
    (h1 : ∀ j, j < P.n → j ≠ i → P.cr j Y → P.F j (2 * (Y + 1)) ≠ P.F i (2 * (Y + 1)))
    (h2 : ∀ j, j < P.n → j ≠ k → P.cr j (Y + 1) → P.F j (2 * (Y + 1)) ≠ P.F k (2 * (Y + 1))) : P.R i Y = P.R k (Y + 1) := by
  rw [R_top hi hci h1, R_bot hk hck h2, level, he]
theorem rng_end {i : Nat} {Y : Int} (h : P.cr i Y) : (P.Z i ≤ Y ∧ Y + 1 ≤ P.Z (P.nt i)) ∨ (P.Z (P.nt i) ≤ Y ∧ Y + 1 ≤ P.Z i) := by
  obtain ⟨h1, h2⟩ := h
  unfold rng at h1 h2
  omega
theorem sg_up {i : Nat} {Y : Int} (h : P.Z i ≤ Y ∧ Y + 1 ≤ P.Z (P.nt i)) : P.sg i Y = 1 := by
  unfold sg lo; rw [if_pos (by omega), if_neg (by omega)]; rfl
theorem sg_down {i : Nat} {Y : Int} (h : P.Z (P.nt i) ≤ Y ∧ Y + 1 ≤ P.Z i) : P.sg i Y = -1 := by
  unfold sg lo; rw [if_neg (by omega), if_pos (by omega)]; rfl
theorem along1 {i : Nat} (hi : i < P.n) {Y : Int} (h1 : P.cr i Y) (h2 : P.cr i (Y + 1)) : P.cc i Y = P.cc i (Y + 1) := by
  have e1 := rng_end h1
  have e2 := rng_end h2
  have none : ∀ j, j < P.n → j ≠ i → P.rng j (Y + 1) → P.F j (2 * (Y + 1)) ≠ P.F i (2 * (Y + 1)) := by
    intro j hj hne hr he
    rcases N1 hj hi hne hr h1.2 he with ⟨a, b⟩ | ⟨a, b⟩
    · rw [a] at e1 e2; omega
    · omega
  have := pass hi hi h1 h2 rfl (fun j hj hne hc => none j hj hne hc.2) (fun j hj hne hc => none j hj hne hc.1)
  unfold cc
  rw [this]
  congr 1
  have : (P.sg i Y = 1) = (P.sg i (Y + 1) = 1) := by
    rw [eq_iff_iff]
    rcases e1 with e1 | e1
    · rw [sg_up e1, sg_up (by omega)]
    · rw [sg_down e1, sg_down (by omega)]
  simp only [this]
theorem corner {i j : Nat} (hi : i < P.n) (hj : j < P.n) (h1 : j ≠ i) (h2 : j ≠ P.nt i) {t : Int} (ht : t = P.Z (P.nt i)) (hr : P.rng j t) : P.F j (2 * t) ≠ P.F i (2 * t) := by
  intro he
  have hri : P.rng i t := by unfold rng; have := Zne hi; omega
  rcases N1 hi hj (fun e => h1 e.symm) hri hr he.symm with ⟨a, b⟩ | ⟨a, b⟩
  · exact h2 a
  · have hz := Zne hi
    rw [← a] at b
    omega
theorem corner_F {i : Nat} (hi : i < P.n) {t : Int} (ht : t = P.Z (P.nt i)) : P.F i (2 * t) = P.F (P.nt i) (2 * t) := by
  rw [ht, F_b hi, F_a (nt_lt i)]
theorem nt_ne {i : Nat} (hi : i < P.n) : P.nt i ≠ i := fun e => Zne hi (by rw [e])
theorem turn_uu {i : Nat} (hi : i < P.n) {Y : Int} (ht : Y + 1 = P.Z (P.nt i)) (h1 : P.cr i Y) (h2 : P.cr (P.nt i) (Y + 1)) : P.cc i Y = P.cc (P.nt i) (Y + 1) := by
  have e1 := rng_end h1
  have e2 := rng_end h2
  have hk := nt_lt (P := P) i
  have F1 := corner_F hi ht
  have := pass hi hk h1 h2 F1 (fun j hj hne hc => ?_) (fun j hj hne hc => ?_)
  · unfold cc
    rw [this, sg_up (i := i) (by omega), sg_up (i := P.nt i) (by omega)]
  · by_cases e : j = P.nt i
    · subst e
      exact absurd (rng_end hc) (by omega)
    · exact corner hi hj hne e ht hc.2
  · by_cases e : j = i
    · subst e
      exact absurd (rng_end hc) (by omega)
    · rw [← F1]; exact corner hi hj e hne ht hc.1
theorem turn_dd {i : Nat} (hi : i < P.n) {Y : Int} (ht : Y + 1 = P.Z (P.nt i)) (h1 : P.cr i (Y + 1)) (h2 : P.cr (P.nt i) Y) : P.cc i (Y + 1) = P.cc (P.nt i) Y := by
  have e1 := rng_end h1
  have e2 := rng_end h2
  have hk := nt_lt (P := P) i
  have F1 := corner_F hi ht
  have := pass hk hi h2 h1 F1.symm (fun j hj hne hc => ?_) (fun j hj hne hc => ?_)
  · unfold cc
    rw [this, sg_down (i := i) (by omega), sg_down (i := P.nt i) (by omega)]
  · by_cases e : j = i
    · subst e
      exact absurd (rng_end hc) (by omega)
    · rw [← F1]; exact corner hi hj e hne ht hc.2
  · by_cases e : j = P.nt i
    · subst e
      exact absurd (rng_end hc) (by omega)
    · exact corner hi hj hne e ht hc.1
theorem turn_R {i k : Nat} (hi : i < P.n) (hk : k < P.n) (hne : i ≠ k) {Y t : Int} (ht : t = Y ∨ t = Y + 1) (h1 : P.cr i Y) (h2 : P.cr k Y) (he : P.F i (2 * t) = P.F k (2 * t))
    (ho : ∀ j, j < P.n → j ≠ i → j ≠ k → P.cr j Y → P.F j (2 * t) ≠ P.F i (2 * t)) :
    P.R i Y - P.R k Y = P.sg k Y * lt01 (P.md i Y) (P.md k Y) - P.sg i Y * lt01 (P.md k Y) (P.md i Y) := by
  unfold R
  rw [← sumN_sub]
  have split : ∀ j, j < P.n → P.sg j Y * lt01 (P.md i Y) (P.md j Y) - P.sg j Y * lt01 (P.md k Y) (P.md j Y) =
      (if j = k then P.sg k Y * lt01 (P.md i Y) (P.md k Y) else 0) - (if j = i then P.sg i Y * lt01 (P.md k Y) (P.md i Y) else 0) := by
    intro j hj
    by_cases e1 : j = i
    · subst e1; rw [lt01_self, if_neg hne, if_pos rfl]; omega
    · by_cases e2 : j = k
      · subst e2; rw [lt01_self, if_pos rfl, if_neg e1]; omega
      · rw [if_neg e2, if_neg e1]
        by_cases hs : P.sg j Y = 0
        · rw [hs]; omega
        · have hcj := cr_of_sg hs
          obtain ⟨a1, a2⟩ := apart hi hj (fun h => e1 h.symm) h1 hcj
          obtain ⟨b1, b2⟩ := apart hj hi e1 hcj h1
          obtain ⟨c1, c2⟩ := apart hk hj (fun h => e2 h.symm) h2 hcj
          obtain ⟨d1, d2⟩ := apart hj hk e2 hcj h2
          have o := ho j hj e1 e2 hcj
          have same : lt01 (P.md i Y) (P.md j Y) = lt01 (P.md k Y) (P.md j Y) := by
            unfold lt01
            rcases ht with rfl | rfl
            · by_cases l1 : P.md i t < P.md j t <;> by_cases l2 : P.md k t < P.md j t
              · rw [if_pos l1, if_pos l2]
              · have := a2 l1; have := d2 (by omega); omega
              · have := c2 l2; have := b2 (by omega); omega
              · rw [if_neg l1, if_neg l2]
            · by_cases l1 : P.md i Y < P.md j Y <;> by_cases l2 : P.md k Y < P.md j Y
              · rw [if_pos l1, if_pos l2]
              · have := a2 l1; have := d2 (by omega); omega
              · have := c2 l2; have := b2 (by omega); omega
              · rw [if_neg l1, if_neg l2]
          rw [same]; omega
  rw [sumN_congr split, sumN_sub, sumN_single hk (fun j _ h => if_neg h), sumN_single hi (fun j _ h => if_neg h), if_pos rfl, if_pos rfl]
theorem lt01_two {x y : Int} (h : x ≠ y) : lt01 x y + lt01 y x = 1 := by
  unfold lt01
  split <;> split <;> omega
theorem turn_ud {i : Nat} (hi : i < P.n) {Y : Int} (ht : Y + 1 = P.Z (P.nt i)) (h1 : P.cr i Y) (h2 : P.cr (P.nt i) Y) : P.cc i Y = P.cc (P.nt i) Y := by
  have e1 := rng_end h1
  have e2 := rng_end h2
  have hk := nt_lt (P := P) i
  have hne : i ≠ P.nt i := fun e => nt_ne hi e.symm
  have h := turn_R hi hk hne (.inr rfl) h1 h2 (corner_F hi ht) (fun j hj a b hc => corner hi hj a b ht hc.2)
  have l := lt01_two (apart hi hk hne h1 h2).1
  have hz := Zne hk
  rw [sg_up (i := i) (by omega), sg_down (i := P.nt i) (by omega)] at h
  unfold cc
  rw [sg_up (i := i) (by omega), sg_down (i := P.nt i) (by omega), if_pos rfl, if_neg (by decide)]
  omega
theorem turn_du {i : Nat} (hi : i < P.n) {Y : Int} (ht : Y = P.Z (P.nt i)) (h1 : P.cr i Y) (h2 : P.cr (P.nt i) Y) : P.cc i Y = P.cc (P.nt i) Y := by
  have e1 := rng_end h1
  have e2 := rng_end h2
  have hk := nt_lt (P := P) i
  have hne : i ≠ P.nt i := fun e => nt_ne hi e.symm
  have h := turn_R hi hk hne (.inl rfl) h1 h2 (corner_F hi ht) (fun j hj a b hc => corner hi hj a b ht hc.1)
  have l := lt01_two (apart hi hk hne h1 h2).1
  have hz := Zne hk
  rw [sg_down (i := i) (by omega), sg_up (i := P.nt i) (by omega)] at h
  unfold cc
  rw [sg_down (i := i) (by omega), sg_up (i := P.nt i) (by omega), if_neg (by decide), if_pos rfl]
  omega
theorem along {i : Nat} (hi : i < P.n) : ∀ (d : Nat) (Y : Int), P.cr i Y → P.cr i (Y + d) → P.cc i Y = P.cc i (Y + d) := by
  intro d
  induction d with
  | zero => intro Y _ _; simp
  | succ d ih =>
    intro Y h1 h2
    have e1 := rng_end h1
    have e2 := rng_end h2
    have h3 : P.cr i (Y + 1) := by unfold cr rng; omega
    have := ih (Y + 1) h3 (by rw [show Y + 1 + (d : Int) = Y + ((d + 1 : Nat) : Int) by omega]; exact h2)
    rw [along1 hi h1 h3, this]
    congr 1; omega
theorem along_any {i : Nat} (hi : i < P.n) {Y U : Int} (h1 : P.cr i Y) (h2 : P.cr i U) : P.cc i Y = P.cc i U := by
  rcases Int.le_total Y U with h | h
  · obtain ⟨d, rfl⟩ := Int.le.dest h
    exact along hi d Y h1 h2
  · obtain ⟨d, rfl⟩ := Int.le.dest h
    exact (along hi d U h2 h1).symm
theorem crosses {i : Nat} (hi : i < P.n) : ∃ Y, P.cr i Y := by
  have := Zne hi
  rcases Int.lt_or_gt_of_ne this with h | h
  · exact ⟨P.Z i, by unfold cr rng; omega⟩
  · exact ⟨P.Z (P.nt i), by unfold cr rng; omega⟩
theorem next_cc {i : Nat} (hi : i < P.n) {Y U : Int} (h1 : P.cr i Y) (h2 : P.cr (P.nt i) U) : P.cc i Y = P.cc (P.nt i) U := by
  have hk := nt_lt (P := P) i
  have z1 := Zne hi
  have z2 := Zne hk
  rcases Int.lt_or_gt_of_ne z1 with a | a <;> rcases Int.lt_or_gt_of_ne z2 with b | b
  ·
    have c1 : P.cr i (P.Z (P.nt i) - 1) := by unfold cr rng; omega
    have c2 : P.cr (P.nt i) (P.Z (P.nt i) - 1 + 1) := by unfold cr rng; omega
    rw [along_any hi h1 c1, along_any hk h2 c2]
    exact turn_uu hi (by omega) c1 c2
  ·
    have c1 : P.cr i (P.Z (P.nt i) - 1) := by unfold cr rng; omega
    have c2 : P.cr (P.nt i) (P.Z (P.nt i) - 1) := by unfold cr rng; omega
    rw [along_any hi h1 c1, along_any hk h2 c2]
    exact turn_ud hi (by omega) c1 c2
  ·
    have c1 : P.cr i (P.Z (P.nt i)) := by unfold cr rng; omega
    have c2 : P.cr (P.nt i) (P.Z (P.nt i)) := by unfold cr rng; omega
    rw [along_any hi h1 c1, along_any hk h2 c2]
    exact turn_du hi rfl c1 c2
  ·
    have c1 : P.cr i (P.Z (P.nt i) - 1 + 1) := by unfold cr rng; omega
    have c2 : P.cr (P.nt i) (P.Z (P.nt i) - 1) := by unfold cr rng; omega
    rw [along_any hi h1 c1, along_any hk h2 c2]
    exact turn_dd hi (by omega) c1 c2
theorem cc_zero : ∀ (i : Nat), i < P.n → ∀ Y U, P.cr i Y → P.cr 0 U → P.cc i Y = P.cc 0 U := by
  intro i
  induction i with
  | zero => intro hi Y U h1 h2; exact along_any hi h1 h2
  | succ i ih =>
    intro hi Y U h1 h2
    obtain ⟨V, hV⟩ := crosses (P := P) (i := i) (by omega)
    rw [← ih (by omega) V U hV h2]
    have e : P.nt i = i + 1 := nx_small hi
    rw [← e] at h1 ⊢
    exact (next_cc (by omega) hV h1).symm
theorem cc_one {i j : Nat} (hi : i < P.n) (hj : j < P.n) {Y U : Int} (h1 : P.cr i Y) (h2 : P.cr j U) : P.cc i Y = P.cc j U := by
  obtain ⟨V, hV⟩ := crosses (P := P) (i := 0) n_pos
  rw [cc_zero i hi Y V h1 hV, cc_zero j hj U V h2 hV]
variable (P)
def way (c : Int) : Prop := ∀ i, i < P.n → ∀ Y, P.cr i Y → P.cc i Y = c
def over (g : Nat → Int) (Y x : Int) : Int := sumN P.n (fun j => P.sg j Y * lt01 x (g j))
variable {P}
theorem way_ex : ∃ c, P.way c := by
  obtain ⟨V, hV⟩ := crosses (P := P) (i := 0) n_pos
  exact ⟨P.cc 0 V, fun i hi Y h => cc_one hi n_pos h hV⟩
theorem over_range {c : Int} (hw : P.way c) (g : Nat → Int) (Y x : Int) (hg : ∀ i j, i < P.n → j < P.n → P.cr i Y → P.cr j Y → P.md i Y < P.md j Y → g i ≤ g j) :
    P.over g Y x = 0 ∨ P.over g Y x = c ∨ P.over g Y x = c - 1 := by
  by_cases h : ∃ j, j < P.n ∧ P.cr j Y ∧ x < g j
  · obtain ⟨j0, hj0, ⟨hc0, hx0⟩, hmin⟩ := least_of (fun j => P.md j Y) (fun j => P.cr j Y ∧ x < g j) P.n h
    have e : P.over g Y x = P.sg j0 Y + P.R j0 Y := by
      unfold over R
      have : sumN P.n (fun j => if j = j0 then P.sg j0 Y else 0) = P.sg j0 Y := by
        rw [sumN_single hj0 (fun i _ hne => if_neg hne), if_pos rfl]
      rw [← this, ← sumN_add]
      refine sumN_congr (fun j hj => ?_)
      by_cases e : j = j0
      · subst e
        rw [lt01_self, if_pos rfl]
        unfold lt01; rw [if_pos hx0]; omega
      · rw [if_neg e]
        by_cases hs : P.sg j Y = 0
        · rw [hs]; omega
        · have hc := cr_of_sg hs
          have a := (apart hj0 hj (fun h => e h.symm) hc0 hc).1
          unfold lt01
          by_cases hl : P.md j0 Y < P.md j Y
          · have := hg j0 j hj0 hj hc0 hc hl
            rw [if_pos hl, if_pos (by omega)]; omega
          · have : ¬ x < g j := fun hx => by have := hmin j hj ⟨hc, hx⟩; omega
            rw [if_neg hl, if_neg this]; omega
    have hcc := hw j0 hj0 Y hc0
    unfold cc at hcc
    rcases rng_end hc0 with u | u
    · rw [sg_up u] at hcc e
      rw [if_pos rfl] at hcc
      right; left; omega
    · rw [sg_down u] at hcc e
      rw [if_neg (by decide)] at hcc
      right; right; omega
  · left
    unfold over
    refine sumN_zero (fun j hj => ?_)
    by_cases hs : P.sg j Y = 0
    · rw [hs]; omega
    · have : ¬ x < g j := fun hx => h ⟨j, hj, cr_of_sg hs, hx⟩
      unfold lt01; rw [if_neg this]; omega
theorem bound1 (g : Nat → Int) : ∀ (N : Nat), ∃ B : Nat, ∀ v, v < N → -(B : Int) < g v ∧ g v < B := by
  intro N
  induction N with
  | zero => exact ⟨0, fun v h => by omega⟩
  | succ N ih =>
    obtain ⟨B, hB⟩ := ih
    refine ⟨B + (g N).natAbs + 1, fun v hv => ?_⟩
    rcases Nat.lt_or_ge v N with h | h
    · have := hB v h; omega
    · have : v = N := by omega
      subst this; omega
theorem bound2 (g : Nat → Nat → Int) (N : Nat) : ∀ (n : Nat), ∃ B : Nat, ∀ i, i < n → ∀ v, v < N → -(B : Int) < g i v ∧ g i v < B := by
  intro n
  induction n with
  | zero => exact ⟨0, fun v h => by omega⟩
  | succ n ih =>
    obtain ⟨B, hB⟩ := ih
    obtain ⟨C, hC⟩ := bound1 (g n) N
    refine ⟨B + C, fun i hi v hv => ?_⟩
    rcases Nat.lt_or_ge i n with h | h
    · have := hB i h v hv; omega
    · have : i = n := by omega
      subst this; have := hC v hv; omega
theorem count_lt (B : Nat) (m : Int) : ∀ (N : Nat), sumN N (fun u => lt01 ((u : Int) - B) m) = min (N : Int) (max 0 (m + B)) := by
  intro N
  induction N with
  | zero => simp only [sumN]; omega
  | succ N ih =>
    simp only [sumN, ih]
    unfold lt01
    split <;> omega
theorem trap (L : Nat) (a b z : Int) (hz : -(L : Int) ≤ z) : ∀ (N : Nat), sumN N (fun v => lo z ((v : Int) - L) * (2 * (a + b * (2 * ((v : Int) - L) + 1)))) =
    if z ≤ (N : Int) - L then 2 * a * ((N : Int) - L - z) + 2 * b * (((N : Int) - L) * ((N : Int) - L) - z * z) else 0 := by
  intro N
  induction N with
  | zero =>
    simp only [sumN]
    split
    · have : z = -(L : Int) := by omega
      subst this; simp
    · rfl
  | succ N ih =>
    simp only [sumN, ih]
    unfold lo
    by_cases h1 : z ≤ (N : Int) - L
    · rw [if_pos h1, if_pos h1, if_pos (by omega)]
      have : ((N + 1 : Nat) : Int) = (N : Int) + 1 := by omega
      rw [this]; grind
    · rw [if_neg h1, if_neg h1]
      by_cases h2 : z ≤ ((N + 1 : Nat) : Int) - L
      · rw [if_pos h2]
        have : z = (N : Int) + 1 - L := by omega
        have e : ((N + 1 : Nat) : Int) = (N : Int) + 1 := by omega
        rw [this, e]; grind
      · rw [if_neg h2]; omega
variable (P)
def area : Int := sumN P.n (fun i => P.X i * P.Z (P.nt i) - P.X (P.nt i) * P.Z i)
variable {P}
theorem sg_sum (Y : Int) : sumN P.n (fun j => P.sg j Y) = 0 := by
  unfold sg
  rw [sumN_sub]
  have := sumN_nx (P.n_pos) (fun j => lo (P.Z j) Y)
  have e : sumN P.n (fun j => lo (P.Z (P.nt j)) Y) = sumN P.n (fun j => lo (P.Z j) Y) := this
  omega
theorem area_form : P.area = sumN P.n (fun i => (P.X i + P.X (P.nt i)) * (P.Z (P.nt i) - P.Z i)) := by
  have e : ∀ i, i < P.n → (P.X i + P.X (P.nt i)) * (P.Z (P.nt i) - P.Z i) = (P.X i * P.Z (P.nt i) - P.X (P.nt i) * P.Z i) + (P.X (P.nt i) * P.Z (P.nt i) - P.X i * P.Z i) := by
    intro i _; grind
  rw [sumN_congr e, sumN_add, sumN_sub P.n (fun i => P.X (P.nt i) * P.Z (P.nt i)) (fun i => P.X i * P.Z i)]
  have := sumN_nx (P.n_pos) (fun j => P.X j * P.Z j)
  have e2 : sumN P.n (fun i => P.X (P.nt i) * P.Z (P.nt i)) = sumN P.n (fun i => P.X i * P.Z i) := this
  unfold area
  omega
theorem edge_sum {L : Nat} {i : Nat} (hi : i < P.n) (h1 : -(L : Int) ≤ P.Z i ∧ P.Z i ≤ L) (h2 : -(L : Int) ≤ P.Z (P.nt i) ∧ P.Z (P.nt i) ≤ L) :
    sumN (2 * L) (fun v => P.sg i ((v : Int) - L) * (2 * P.md i ((v : Int) - L))) = 2 * P.K * ((P.X i + P.X (P.nt i)) * (P.Z (P.nt i) - P.Z i)) := by
  have e : ∀ v, v < 2 * L → P.sg i ((v : Int) - L) * (2 * P.md i ((v : Int) - L)) = lo (P.Z i) ((v : Int) - L) * (2 * (P.al i + P.be i * (2 * ((v : Int) - L) + 1))) - lo (P.Z (P.nt i)) ((v : Int) - L) * (2 * (P.al i + P.be i * (2 * ((v : Int) - L) + 1))) := by
    intro v _; unfold sg md F; grind
  rw [sumN_congr e, sumN_sub, trap L _ _ _ h1.1, trap L _ _ _ h2.1, if_pos (by omega), if_pos (by omega)]
  have ha := F_a hi
  have hb := F_b hi
  unfold F at ha hb
  have : ((2 * L : Nat) : Int) = 2 * (L : Int) := by omega
  rw [this]; grind
theorem strip_sum {B : Nat} {Y : Int} (hB : ∀ i, i < P.n → -(B : Int) < P.md i Y ∧ P.md i Y < B) :
    sumN P.n (fun i => P.sg i Y * P.md i Y) = sumN (2 * B) (fun u => P.over (fun j => P.md j Y) Y ((u : Int) - B)) := by
  unfold over
  rw [sumN_swap]
  have e : ∀ i, i < P.n → sumN (2 * B) (fun u => P.sg i Y * lt01 ((u : Int) - B) (P.md i Y)) = P.sg i Y * P.md i Y + B * P.sg i Y := by
    intro i hi
    have := hB i hi
    rw [sumN_mul, count_lt]
    have : min (((2 * B : Nat) : Int)) (max 0 (P.md i Y + B)) = P.md i Y + B := by omega
    rw [this]; grind
  rw [sumN_congr e, sumN_add, sumN_mul, sg_sum]; omega
theorem way_three {c : Int} (hw : P.way c) : ∃ Y M, M < P.n ∧ P.cr M Y ∧ ((c = 1 ∧ P.over (fun j => P.md j Y) Y (P.md M Y - 1) = 1) ∨ (c = 0 ∧ P.over (fun j => P.md j Y) Y (P.md M Y - 1) = -1)) := by
  obtain ⟨Y, hY⟩ := crosses (P := P) (i := 0) n_pos
  obtain ⟨M, hM, hcM, hmax⟩ := least_of (fun j => -P.md j Y) (fun j => P.cr j Y) P.n ⟨0, n_pos, hY⟩
  have hR : P.R M Y = 0 := by
    unfold R
    refine sumN_zero (fun j hj => ?_)
    by_cases hs : P.sg j Y = 0
    · rw [hs]; omega
    · have := hmax j hj (cr_of_sg hs)
      unfold lt01; rw [if_neg (by omega)]; omega
  have hO : P.over (fun j => P.md j Y) Y (P.md M Y - 1) = P.sg M Y := by
    unfold over
    rw [sumN_single hM]
    · show P.sg M Y * lt01 (P.md M Y - 1) (P.md M Y) = P.sg M Y
      unfold lt01; rw [if_pos (by omega)]; omega
    · intro j hj hne
      show P.sg j Y * lt01 (P.md M Y - 1) (P.md j Y) = 0
      by_cases hs : P.sg j Y = 0
      · rw [hs]; omega
      · have hc := cr_of_sg hs
        have a := (apart hj hM hne hc hcM).1
        have := hmax j hj hc
        unfold lt01; rw [if_neg (by omega)]; omega
  have hcc := hw M hM Y hcM
  unfold cc at hcc
  refine ⟨Y, M, hM, hcM, ?_⟩
  rw [hO]
  rcases rng_end hcM with u | u
  · rw [sg_up u] at hcc ⊢
    rw [if_pos rfl] at hcc
    left; exact ⟨by omega, rfl⟩
  · rw [sg_down u] at hcc ⊢
    rw [if_neg (by decide)] at hcc
    right; exact ⟨by omega, rfl⟩
theorem area_sum : ∃ L B : Nat, (∀ i, i < P.n → -(L : Int) < P.Z i ∧ P.Z i < L) ∧ (∀ i, i < P.n → ∀ v, v < 2 * L → -(B : Int) < P.md i ((v : Int) - L) ∧ P.md i ((v : Int) - L) < B) ∧
    P.K * P.area = sumN (2 * L) (fun v => sumN (2 * B) (fun u => P.over (fun j => P.md j ((v : Int) - L)) ((v : Int) - L) ((u : Int) - B))) := by
  obtain ⟨L, hL⟩ := bound1 P.Z P.n
  obtain ⟨B, hB⟩ := bound2 (fun i v => P.md i ((v : Int) - L)) (2 * L) P.n
  refine ⟨L, B, hL, hB, ?_⟩
  have h1 : sumN (2 * L) (fun v => sumN (2 * B) (fun u => P.over (fun j => P.md j ((v : Int) - L)) ((v : Int) - L) ((u : Int) - B))) =
      sumN (2 * L) (fun v => sumN P.n (fun i => P.sg i ((v : Int) - L) * P.md i ((v : Int) - L))) :=
    sumN_congr (fun v hv => (strip_sum (fun i hi => hB i hi v hv)).symm)
  rw [h1, sumN_swap]
  have h2 : sumN P.n (fun i => sumN (2 * L) (fun v => P.sg i ((v : Int) - L) * (2 * P.md i ((v : Int) - L)))) = 2 * P.K * P.area := by
    rw [area_form, ← sumN_mul]
    exact sumN_congr (fun i hi => edge_sum hi (by have := hL i hi; omega) (by have := hL _ (nt_lt i); omega))
  have h3 : sumN P.n (fun i => sumN (2 * L) (fun v => P.sg i ((v : Int) - L) * (2 * P.md i ((v : Int) - L)))) = 2 * sumN P.n (fun i => sumN (2 * L) (fun v => P.sg i ((v : Int) - L) * P.md i ((v : Int) - L))) := by
    rw [← sumN_mul]
    refine sumN_congr (fun i _ => ?_)
    rw [← sumN_mul]
    exact sumN_congr (fun v _ => by grind)
  rw [h3] at h2
  grind
theorem pos_of_mul {k a : Int} (hk : 0 < k) (h : 0 < k * a) : 0 < a := by
  apply Classical.byContradiction
  intro hn
  have := Int.mul_nonpos_of_nonneg_of_nonpos (Int.le_of_lt hk) (show a ≤ 0 by omega)
  omega
theorem area_sign {c : Int} (hw : P.way c) : (c = 1 ∧ 0 < P.area) ∨ (c = 0 ∧ P.area < 0) := by
  obtain ⟨L, B, hL, hB, hA⟩ := area_sum (P := P)
  obtain ⟨Y, M, hM, hc, h⟩ := way_three hw
  have hL1 := hL M hM
  have hL2 := hL _ (nt_lt (P := P) M)
  have hY := rng_end hc
  obtain ⟨v, hv, ev⟩ : ∃ v : Nat, v < 2 * L ∧ (v : Int) - L = Y := ⟨(Y + L).toNat, by omega, by omega⟩
  have hBm := hB M hM v hv
  rw [ev] at hBm
  obtain ⟨u, hu, eu⟩ : ∃ u : Nat, u < 2 * B ∧ (u : Int) - B = P.md M Y - 1 := ⟨(P.md M Y - 1 + B).toNat, by omega, by omega⟩
  have rg := fun Y x => over_range hw (fun j => P.md j Y) Y x (fun i j _ _ _ _ h => Int.le_of_lt h)
  rcases h with ⟨c1, h⟩ | ⟨c0, h⟩
  · left
    refine ⟨c1, ?_⟩
    have nn : ∀ Y x, 0 ≤ P.over (fun j => P.md j Y) Y x := by
      intro Y x; rcases rg Y x with h | h | h <;> omega
    have : 0 < P.K * P.area := by
      rw [hA]
      refine sumN_pos (fun v _ => sumN_nonneg (fun u _ => nn _ _)) hv ?_
      refine sumN_pos (fun u _ => nn _ _) hu ?_
      rw [ev, eu, h]; decide
    exact pos_of_mul P.hK this
  · right
    refine ⟨c0, ?_⟩
    have nn : ∀ Y x, 0 ≤ -P.over (fun j => P.md j Y) Y x := by
      intro Y x; rcases rg Y x with h | h | h <;> omega
    have : 0 < P.K * -P.area := by
      have e : P.K * -P.area = sumN (2 * L) (fun v => sumN (2 * B) (fun u => -P.over (fun j => P.md j ((v : Int) - L)) ((v : Int) - L) ((u : Int) - B))) := by
        rw [Int.mul_neg, hA, ← sumN_neg]
        exact sumN_congr (fun v _ => (sumN_neg _ _).symm)
      rw [e]
      refine sumN_pos (fun v _ => sumN_nonneg (fun u _ => nn _ _)) hv ?_
      refine sumN_pos (fun u _ => nn _ _) hu ?_
      rw [ev, eu, h]; decide
    have := pos_of_mul P.hK this
    omega
end Ring
end Go.Proofs.Ytckaejgamfllfaa.G
end

section
namespace Go.Proofs.Ytckaejgamfllfaa.G
open Go.RowKit Go.Proofs.YtckaejgamfllfaaW.PrintWords Go.Proofs.YtckaejgamfllfaaW.PrintLast Go.Proofs.YtckaejgamfllfaaW.PrintMore
attribute [local go_sem] max2_int min2_int max_two min_two max_three min_three max_four min_four
set_option linter.unusedVariables false
set_option linter.unusedSimpArgs false
end Go.Proofs.Ytckaejgamfllfaa.G
end

section
namespace Go.Proofs.Ytckaejgamfllfaa.G
open Go.RowKit Go.Proofs.YtckaejgamfllfaaW.PrintWords Go.Proofs.YtckaejgamfllfaaW.PrintLast Go.Proofs.YtckaejgamfllfaaW.PrintMore
attribute [local go_sem] max2_int min2_int max_two min_two max_three min_three max_four min_four
set_option linter.unusedVariables false
set_option linter.unusedSimpArgs false
end Go.Proofs.Ytckaejgamfllfaa.G
end

section
namespace Go.Proofs.Ytckaejgamfllfaa.G
open Go.RowKit Go.Proofs.YtckaejgamfllfaaW.PrintWords Go.Proofs.YtckaejgamfllfaaW.PrintLast Go.Proofs.YtckaejgamfllfaaW.PrintMore
attribute [local go_sem] max2_int min2_int max_two min_two max_three min_three max_four min_four
set_option linter.unusedVariables false
set_option linter.unusedSimpArgs false
end Go.Proofs.Ytckaejgamfllfaa.G
end

section
namespace Go.Proofs.Ytckaejgamfllfaa.G
open Go.RowKit Go.Proofs.YtckaejgamfllfaaW.PrintWords Go.Proofs.YtckaejgamfllfaaW.PrintLast Go.Proofs.YtckaejgamfllfaaW.PrintMore
attribute [local go_sem] max2_int min2_int max_two min_two max_three min_three max_four min_four
set_option linter.unusedVariables false
set_option linter.unusedSimpArgs false
end Go.Proofs.Ytckaejgamfllfaa.G
end

section
namespace Go.Proofs.Ytckaejgamfllfaa.G
open Go.RowKit Go.Proofs.YtckaejgamfllfaaW.PrintWords Go.Proofs.YtckaejgamfllfaaW.PrintLast Go.Proofs.YtckaejgamfllfaaW.PrintMore
attribute [local go_sem] max2_int min2_int max_two min_two max_three min_three max_four min_four
set_option linter.unusedVariables false
set_option linter.unusedSimpArgs false
end Go.Proofs.Ytckaejgamfllfaa.G
end

section
namespace Go.Proofs.Ytckaejgamfllfaa.G
open Go.RowKit Go.Proofs.YtckaejgamfllfaaW.PrintWords Go.Proofs.YtckaejgamfllfaaW.PrintLast Go.Proofs.YtckaejgamfllfaaW.PrintMore
attribute [local go_sem] max2_int min2_int max_two min_two max_three min_three max_four min_four
set_option linter.unusedVariables false
set_option linter.unusedSimpArgs false
end Go.Proofs.Ytckaejgamfllfaa.G
end

section
namespace Go.Proofs.Ytckaejgamfllfaa.G
open Go.RowKit Go.Proofs.YtckaejgamfllfaaW.PrintWords Go.Proofs.YtckaejgamfllfaaW.PrintLast Go.Proofs.YtckaejgamfllfaaW.PrintMore
attribute [local go_sem] max2_int min2_int max_two min_two max_three min_three max_four min_four
set_option linter.unusedVariables false
set_option linter.unusedSimpArgs false
end Go.Proofs.Ytckaejgamfllfaa.G
end

section
namespace Go.Proofs.Ytckaejgamfllfaa.G
open Go.RowKit Go.Proofs.YtckaejgamfllfaaW.PrintWords Go.Proofs.YtckaejgamfllfaaW.PrintLast Go.Proofs.YtckaejgamfllfaaW.PrintMore
attribute [local go_sem] max2_int min2_int max_two min_two max_three min_three max_four min_four
set_option linter.unusedVariables false
set_option linter.unusedSimpArgs false
attribute [local go_sem high] eqA23
end Go.Proofs.Ytckaejgamfllfaa.G
end

section
namespace Go.Proofs.Ytckaejgamfllfaa.G
open Go.RowKit Go.Proofs.YtckaejgamfllfaaW.PrintWords Go.Proofs.YtckaejgamfllfaaW.PrintLast Go.Proofs.YtckaejgamfllfaaW.PrintMore
attribute [local go_sem] max2_int min2_int max_two min_two max_three min_three max_four min_four
set_option linter.unusedVariables false
set_option linter.unusedSimpArgs false
end Go.Proofs.Ytckaejgamfllfaa.G
end

section
namespace Go.Proofs.Ytckaejgamfllfaa.G
open Go.RowKit Go.Proofs.YtckaejgamfllfaaW.PrintWords Go.Proofs.YtckaejgamfllfaaW.PrintLast Go.Proofs.YtckaejgamfllfaaW.PrintMore
attribute [local go_sem] max2_int min2_int max_two min_two max_three min_three max_four min_four
set_option linter.unusedVariables false
set_option linter.unusedSimpArgs false
end Go.Proofs.Ytckaejgamfllfaa.G
end

section
namespace Go.Proofs.Ytckaejgamfllfaa.G
open Go.RowKit Go.Proofs.YtckaejgamfllfaaW.PrintWords Go.Proofs.YtckaejgamfllfaaW.PrintLast Go.Proofs.YtckaejgamfllfaaW.PrintMore
attribute [local go_sem] max2_int min2_int max_two min_two max_three min_three max_four min_four
set_option linter.unusedVariables false
set_option linter.unusedSimpArgs false
attribute [local go_sem high] eqA23
end Go.Proofs.Ytckaejgamfllfaa.G
end

section
namespace Go.Proofs.Ytckaejgamfllfaa.G
open Go.RowKit Go.Proofs.YtckaejgamfllfaaW.PrintWords Go.Proofs.YtckaejgamfllfaaW.PrintLast Go.Proofs.YtckaejgamfllfaaW.PrintMore
attribute [local go_sem] max2_int min2_int max_two min_two max_three min_three max_four min_four
set_option linter.unusedVariables false
set_option linter.unusedSimpArgs false
attribute [local go_sem high] eqA23
end Go.Proofs.Ytckaejgamfllfaa.G
end

section
namespace Go.Proofs.Ytckaejgamfllfaa.G
open Go.RowKit Go.Proofs.YtckaejgamfllfaaW.PrintWords Go.Proofs.YtckaejgamfllfaaW.PrintLast Go.Proofs.YtckaejgamfllfaaW.PrintMore
attribute [local go_sem] max2_int min2_int max_two min_two max_three min_three max_four min_four
set_option linter.unusedVariables false
set_option linter.unusedSimpArgs false
end Go.Proofs.Ytckaejgamfllfaa.G
end

section
namespace Go.Proofs.Ytckaejgamfllfaa.G
open Go.RowKit Go.Proofs.YtckaejgamfllfaaW.PrintWords Go.Proofs.YtckaejgamfllfaaW.PrintLast Go.Proofs.YtckaejgamfllfaaW.PrintMore
attribute [local go_sem] max2_int min2_int max_two min_two max_three min_three max_four min_four
set_option linter.unusedVariables false
set_option linter.unusedSimpArgs false
end Go.Proofs.Ytckaejgamfllfaa.G
end

section
namespace Go.Proofs.Ytckaejgamfllfaa.G
open Go.RowKit Go.Proofs.YtckaejgamfllfaaW.PrintWords Go.Proofs.YtckaejgamfllfaaW.PrintLast Go.Proofs.YtckaejgamfllfaaW.PrintMore
attribute [local go_sem] max2_int min2_int max_two min_two max_three min_three max_four min_four
set_option linter.unusedVariables false
set_option linter.unusedSimpArgs false
def boundstoneref02_along.T4 : Bool × List (List Nat × List Nat) := (true, [([], []), ([], []), ([0, 1], [0, 1]), ([2], [2]), ([], []), ([], []), ([5], [5]), ([], []), ([7], [7]), ([6, 8], [6, 8]), ([4, 9], [4, 9]), ([10], [10]), ([], []), ([3, 11, 12], [3, 11, 12]), ([13, 13, 0, 1, 2, 3, 4, 5, 6, 7, 8, 9, 10, 11, 12, 13], [13])])
def boundstoneref02_along.B4 : List Nat := [0, 0, 3, 7, 0, 0, 32, 0, 128, 480, 1008, 2032, 0, 8191, 16383]
theorem boundstoneref02_along.tab4 : rtab .any (opsOf Try.f99 4) = boundstoneref02_along.T4 := by kernel_rfl
theorem boundstoneref02_along.bits4 : waitsOk boundstoneref02_along.T4.2 boundstoneref02_along.B4 = true := by kernel_rfl
end Go.Proofs.Ytckaejgamfllfaa.G
end

section
namespace Go.Proofs.Ytckaejgamfllfaa.G
open Go.RowKit Go.Proofs.YtckaejgamfllfaaW.PrintWords Go.Proofs.YtckaejgamfllfaaW.PrintLast Go.Proofs.YtckaejgamfllfaaW.PrintMore
attribute [local go_sem] max2_int min2_int max_two min_two max_three min_three max_four min_four
set_option linter.unusedVariables false
set_option linter.unusedSimpArgs false
end Go.Proofs.Ytckaejgamfllfaa.G
end

section
namespace Go.Proofs.Ytckaejgamfllfaa.G
open Go.RowKit Go.Proofs.YtckaejgamfllfaaW.PrintWords Go.Proofs.YtckaejgamfllfaaW.PrintLast Go.Proofs.YtckaejgamfllfaaW.PrintMore
attribute [local go_sem] max2_int min2_int max_two min_two max_three min_three max_four min_four
set_option linter.unusedVariables false
set_option linter.unusedSimpArgs false
end Go.Proofs.Ytckaejgamfllfaa.G
end

section
namespace Go.Proofs.Ytckaejgamfllfaa.G
open Go.RowKit Go.Proofs.YtckaejgamfllfaaW.PrintWords Go.Proofs.YtckaejgamfllfaaW.PrintLast Go.Proofs.YtckaejgamfllfaaW.PrintMore
attribute [local go_sem] max2_int min2_int max_two min_two max_three min_three max_four min_four
set_option linter.unusedVariables false
set_option linter.unusedSimpArgs false
end Go.Proofs.Ytckaejgamfllfaa.G
end

section
namespace Go.Proofs.Ytckaejgamfllfaa.G
open Go.RowKit Go.Proofs.YtckaejgamfllfaaW.PrintWords Go.Proofs.YtckaejgamfllfaaW.PrintLast Go.Proofs.YtckaejgamfllfaaW.PrintMore
attribute [local go_sem] max2_int min2_int max_two min_two max_three min_three max_four min_four
set_option linter.unusedVariables false
set_option linter.unusedSimpArgs false
end Go.Proofs.Ytckaejgamfllfaa.G
end

section
namespace Go.Proofs.Ytckaejgamfllfaa.G
open Go.RowKit Go.Proofs.YtckaejgamfllfaaW.PrintWords Go.Proofs.YtckaejgamfllfaaW.PrintLast Go.Proofs.YtckaejgamfllfaaW.PrintMore
attribute [local go_sem] max2_int min2_int max_two min_two max_three min_three max_four min_four
set_option linter.unusedVariables false
set_option linter.unusedSimpArgs false
end Go.Proofs.Ytckaejgamfllfaa.G
end

section
namespace Go.Proofs.Ytckaejgamfllfaa.G
open Go.RowKit Go.Proofs.YtckaejgamfllfaaW.PrintWords Go.Proofs.YtckaejgamfllfaaW.PrintLast Go.Proofs.YtckaejgamfllfaaW.PrintMore
attribute [local go_sem] max2_int min2_int max_two min_two max_three min_three max_four min_four
set_option linter.unusedVariables false
set_option linter.unusedSimpArgs false
end Go.Proofs.Ytckaejgamfllfaa.G
end

section
namespace Go.Proofs.Ytckaejgamfllfaa.G
open Go.RowKit Go.Proofs.YtckaejgamfllfaaW.PrintWords Go.Proofs.YtckaejgamfllfaaW.PrintLast Go.Proofs.YtckaejgamfllfaaW.PrintMore
attribute [local go_sem] max2_int min2_int max_two min_two max_three min_three max_four min_four
set_option linter.unusedVariables false
set_option linter.unusedSimpArgs false
end Go.Proofs.Ytckaejgamfllfaa.G
end

section
namespace Go.Proofs.Ytckaejgamfllfaa.G
open Go.RowKit Go.Proofs.YtckaejgamfllfaaW.PrintWords Go.Proofs.YtckaejgamfllfaaW.PrintLast Go.Proofs.YtckaejgamfllfaaW.PrintMore
attribute [local go_sem] max2_int min2_int max_two min_two max_three min_three max_four min_four
set_option linter.unusedVariables false
set_option linter.unusedSimpArgs false
end Go.Proofs.Ytckaejgamfllfaa.G
end

section
namespace Go.Proofs.Ytckaejgamfllfaa.G
open Go.RowKit Go.Proofs.YtckaejgamfllfaaW.PrintWords Go.Proofs.YtckaejgamfllfaaW.PrintLast Go.Proofs.YtckaejgamfllfaaW.PrintMore
attribute [local go_sem] max2_int min2_int max_two min_two max_three min_three max_four min_four
set_option linter.unusedVariables false
set_option linter.unusedSimpArgs false
end Go.Proofs.Ytckaejgamfllfaa.G
end

section
namespace Go.Proofs.Ytckaejgamfllfaa.G
open Go.ChangeShapes Go.WideShapes Go.ChangeAt Go.RowKit Go.Deep Go.Proofs.YtckaejgamfllfaaW.PrintWords
variable {H : Type} {enc : TypeId × Value → H} {w : World} {base : Nat} {spare : Nat → Bool} {held : Bool}
def I64 (x : Int) : Prop := -9223372036854775808 ≤ x ∧ x ≤ 9223372036854775807
theorem I64.of_wf {x : Int} (h : (Lit.int .i64 x).wf = true) : I64 x := by
  have e1 : IntKind.i64.min = -9223372036854775808 := by decide
  have e2 : IntKind.i64.max = 9223372036854775807 := by decide
  simp only [Lit.wf, Bool.and_eq_true, decide_eq_true_eq, e1, e2] at h
  exact h
theorem list2 {α : Type} {l : List α} (h : l.length = 2) : ∃ a b, l = [a, b] := by
  match l, h with
  | [a, b], _ => exact ⟨a, b, rfl⟩
theorem cells23 : Try.prog.cellsOf 23 = 2 := by kernel_rfl
theorem cells3 : Try.prog.cellsOf 3 = 1 := by kernel_rfl
theorem point_cs {fuel : Nat} {cs : List Value} {x : DataW H × List MemPlace} (h : DataW.trod enc Try.prog w base spare held fuel 23 cs = some x) :
    ∃ p : S23, cs = [.int .i64 p.f0, .int .i64 p.f1] ∧ I64 p.f0 ∧ I64 p.f1 := by
  obtain ⟨y0, y1, n, _, hl, h0, h1⟩ := trod_struct2 Try.underlying23 h
  rw [cells23] at hl
  obtain ⟨c0, c1, rfl⟩ := list2 hl
  rw [cells3] at h0 h1
  obtain ⟨a, e0, _, wa⟩ := DataW.trod_int Try.underlying3 h0
  obtain ⟨b, e1, _, wb⟩ := DataW.trod_int Try.underlying3 h1
  simp at e0 e1
  subst e0 e1
  exact ⟨⟨a, b⟩, rfl, .of_wf wa, .of_wf wb⟩
theorem arr_of_list {cs : Array Value} {l : List Value} (e : (Value.agg cs).cells.toList = l) : cs = l.toArray := by
  have e' : cs.toList = l := e
  rw [← e']
abbrev pv (p : S23) : Value := .agg #[.int .i64 p.f0, .int .i64 p.f1]
set_option maxRecDepth 100000 in
theorem open_point {r : Reach} {b0 : Nat} {v : Value} {d : DataW H} {ps : List MemPlace} (hv : Value.okWide Try.prog w r b0 23 v) (h : DataW.Trod enc Try.prog w base spare held 23 v d ps) :
    ∃ p : S23, v = pv p ∧ I64 p.f0 ∧ I64 p.f1 := by
  obtain ⟨cs, rfl, _⟩ := okWide_struct Try.underlying23 hv
  obtain ⟨fuel, hf⟩ := h
  obtain ⟨p, e, hp⟩ := point_cs hf
  exact ⟨p, by rw [arr_of_list e], hp⟩
theorem slice_C {α : Type} {k : Kd α} {t e : TypeId} (ht : Try.prog.underlying t = some (.slice e)) (hsz : Try.prog.cellsOf e = k.sz) {B : Nat} (hB : Try.prog.bytesOf e = B) {Q : α → Prop}
    (hk : ∀ {w : World} {base : Nat} {spare : Nat → Bool} {held : Bool} {fuel : Nat} {cs : List Value} {x : DataW H × List MemPlace}, DataW.trod enc Try.prog w base spare held fuel e cs = some x → ∃ a, k.K w a cs ∧ Q a)
    {ts : List TypeId} {ds : List (DataW H)} {j : Nat} {a : Option Addr} {len cap : Nat} {d : DataW H} {ps : List MemPlace}
    (hs : (DataW.weightsEach Try.prog ts ds).all (· ≤ reachBytes) = true) (htj : ts[j]? = some t) (hdj : ds[j]? = some d)
    (h : DataW.Trod enc Try.prog w base spare held t (.slice a len cap) d ps) :
    ∃ l : List α, l.length = len ∧ len ≤ cap ∧ k.C w a len l ∧ (∀ x ∈ l, Q x) ∧ len * B ≤ 140737488351232 := by
  obtain ⟨fuel, hf⟩ := h
  rcases open_slice ht hf with ⟨hcs, _⟩ | ⟨a', len', cap', m, n, D, Pl, hcs, _, hl, hm, hmm, hx, hel⟩
  · simp [Value.cells] at hcs
    obtain ⟨rfl, rfl, rfl⟩ := hcs
    exact ⟨[], rfl, Nat.le_refl _, ⟨rfl, by omega, fun h => absurd h (Nat.lt_irrefl _)⟩, by simp, by simp⟩
  · simp [Value.cells] at hcs
    obtain ⟨rfl, rfl, rfl⟩ := hcs
    have hlm : len ≤ m := by rw [hmm]; split <;> omega
    have each : ∀ i, i < len → ∃ x : α, ∃ c, c.length = k.sz ∧ k.K w x c ∧ Q x ∧ ∀ o u, c[o]? = some u → w.cell? (a'.add (i * k.sz + o)) = some u := by
      intro i hi
      obtain ⟨cs', h1, h2⟩ := hel i (by omega)
      obtain ⟨x, hx1, hx2⟩ := hk h2
      obtain ⟨_, hlen, hc⟩ := World.cells?_some h1
      rw [hsz] at hlen hc
      refine ⟨x, cs', hlen, hx1, hx2, fun o u ho => ?_⟩
      have hlt : o < k.sz := by rw [← hlen]; exact (List.getElem?_eq_some_iff.1 ho).1
      have := hc o hlt
      rw [ho, Addr.add_add] at this
      exact this
    rcases Nat.eq_zero_or_pos len with h0 | h0
    · subst h0
      exact ⟨[], rfl, Nat.zero_le _, ⟨rfl, by omega, fun h => absurd h (Nat.lt_irrefl _)⟩, by simp, by simp⟩
    · obtain ⟨x0, _⟩ := each 0 h0
      haveI : Inhabited α := ⟨x0⟩
      obtain ⟨f, hf'⟩ := choose_lt (p := fun i x => ∃ c, c.length = k.sz ∧ k.K w x c ∧ Q x ∧ ∀ o u, c[o]? = some u → w.cell? (a'.add (i * k.sz + o)) = some u) each
      have hcap : cap ≤ 9223372036854775807 := by have := hm; unfold maxLen at this; omega
      refine ⟨(List.range len).map f, by simp, hl, ⟨by simp, by omega, fun _ => ⟨a', rfl, fun i p hp => ?_⟩⟩, fun x hx => ?_, ?_⟩
      · rw [List.getElem?_map] at hp
        rcases Nat.lt_or_ge i len with hi | hi
        · rw [List.getElem?_range hi] at hp
          simp only [Option.map_some, Option.some.injEq] at hp
          subst hp
          obtain ⟨c, h1, h2, _, h3⟩ := hf' i hi
          exact ⟨c, h1, h2, h3⟩
        · rw [List.getElem?_eq_none (by simpa using hi)] at hp
          cases hp
      · obtain ⟨i, hi, rfl⟩ := List.mem_map.1 hx
        obtain ⟨c, _, _, h3, _⟩ := hf' i (List.mem_range.1 hi)
        exact h3
      · obtain ⟨hx, _⟩ := Prod.mk.inj hx
        subst hx
        have z := sized_slice hs htj hdj ht
        rw [hB] at z
        simp only [List.length_map, List.length_range] at z
        exact Nat.le_trans (Nat.mul_le_mul_right _ (by omega)) z
end Go.Proofs.Ytckaejgamfllfaa.G
end

section
namespace Go.Proofs.Ytckaejgamfllfaa.G
open Go.RowKit Go.Proofs.YtckaejgamfllfaaW.PrintWords Go.Proofs.YtckaejgamfllfaaW.PrintLast Go.Proofs.YtckaejgamfllfaaW.PrintMore
theorem mul_bd {p q M : Int} (h1 : -M ≤ p) (h2 : p ≤ M) (h3 : -M ≤ q) (h4 : q ≤ M) : -(M * M) ≤ p * q ∧ p * q ≤ M * M := by
  have e : (p * q).natAbs ≤ M.natAbs * M.natAbs := by
    rw [Int.natAbs_mul]
    exact Nat.mul_le_mul (by omega) (by omega)
  have f : ((M.natAbs * M.natAbs : Nat) : Int) = M * M := by
    have : (M.natAbs : Int) = M := by omega
    rw [Int.natCast_mul, this]
  omega
theorem validP_iff (a : S23) : validP a = true ↔ -1048576 ≤ a.f0 ∧ a.f0 ≤ 1048576 ∧ -1048576 ≤ a.f1 ∧ a.f1 ≤ 1048576 := by
  unfold validP; simp only [Bool.and_eq_true, decide_eq_true_eq, and_assoc]
def twZ (a b c : S23) : Int := (b.f0 - a.f0) * (c.f1 - a.f1) - (b.f1 - a.f1) * (c.f0 - a.f0)
theorem twW_eq {a b c : S23} (ha : validP a = true) (hb : validP b = true) (hc : validP c = true) : twW a b c = twZ a b c := by
  rw [validP_iff] at ha hb hc
  have h1 := @mul_bd (b.f0 - a.f0) (c.f1 - a.f1) 2097152 (by omega) (by omega) (by omega) (by omega)
  have h2 := @mul_bd (b.f1 - a.f1) (c.f0 - a.f0) 2097152 (by omega) (by omega) (by omega) (by omega)
  unfold twW twZ
  rw [wrap_small (x := b.f0 - a.f0) (by omega) (by omega), wrap_small (x := c.f1 - a.f1) (by omega) (by omega), wrap_small (x := b.f1 - a.f1) (by omega) (by omega), wrap_small (x := c.f0 - a.f0) (by omega) (by omega)]
  rw [wrap_small (x := (b.f0 - a.f0) * (c.f1 - a.f1)) (by omega) (by omega), wrap_small (x := (b.f1 - a.f1) * (c.f0 - a.f0)) (by omega) (by omega), wrap_small (by omega) (by omega)]
theorem sq_nn (x : Int) : 0 ≤ x * x := by
  rcases Int.le_total 0 x with h | h
  · exact Int.mul_nonneg h h
  · exact Int.mul_nonneg_of_nonpos_of_nonpos h h
theorem sq_zero {x : Int} (h : x * x = 0) : x = 0 := by
  rcases Int.mul_eq_zero.1 h with h | h <;> exact h
theorem twZ_swap (a b c : S23) : twZ b a c = -twZ a b c := by unfold twZ; grind
end Go.Proofs.Ytckaejgamfllfaa.G
end

section
namespace Go.Proofs.Ytckaejgamfllfaa.G
set_option linter.unusedSimpArgs false
open Go.RowKit Go.Proofs.YtckaejgamfllfaaW.PrintWords Go.Proofs.YtckaejgamfllfaaW.PrintLast Go.Proofs.YtckaejgamfllfaaW.PrintMore
theorem cross0 {wx wy ux uy vx vy : Int} (hw : wx ≠ 0 ∨ wy ≠ 0) (hu : ux * wy = uy * wx) (hv : vx * wy = vy * wx) : ux * vy = uy * vx := by
  rcases hw with h | h
  · have : wx * (ux * vy - uy * vx) = 0 := by grind
    rcases Int.mul_eq_zero.1 this with h' | h'
    · exact absurd h' h
    · omega
  · have : wy * (ux * vy - uy * vx) = 0 := by grind
    rcases Int.mul_eq_zero.1 this with h' | h'
    · exact absurd h' h
    · omega
theorem ne_iff (P Q : S23) : P ≠ Q ↔ Q.f0 - P.f0 ≠ 0 ∨ Q.f1 - P.f1 ≠ 0 := by
  cases P; cases Q
  simp only [ne_eq, S23.mk.injEq]
  omega
theorem two_points {a b c d P Q : S23} (hPQ : P ≠ Q) (hcd : c ≠ d) (h1 : twZ a b P = 0) (h2 : twZ a b Q = 0) (h3 : twZ c d P = 0) (h4 : twZ c d Q = 0) :
    twZ a b c = 0 ∧ twZ a b d = 0 := by
  rw [ne_iff] at hPQ hcd
  unfold twZ at *
  have uv : (b.f0 - a.f0) * (d.f1 - c.f1) = (b.f1 - a.f1) * (d.f0 - c.f0) := cross0 hPQ (by grind) (by grind)
  have uz : (b.f0 - a.f0) * (c.f1 - P.f1) = (b.f1 - a.f1) * (c.f0 - P.f0) := cross0 hcd uv (by grind)
  constructor <;> grind
theorem mn_l (a b : Int) : mn a b ≤ a := by unfold mn; split <;> omega
theorem mn_r (a b : Int) : mn a b ≤ b := by unfold mn; split <;> omega
theorem mx_l (a b : Int) : a ≤ mx a b := by unfold mx; split <;> omega
theorem mx_r (a b : Int) : b ≤ mx a b := by unfold mx; split <;> omega
theorem onP_self1 (a b : S23) : onP a b a = true := by
  unfold onP btwP
  have : twW a b a = 0 := by
    unfold twW
    rw [Int.sub_self, Int.sub_self, wrap_small (x := 0) (by decide) (by decide), Int.mul_zero, Int.mul_zero, wrap_small (x := 0) (by decide) (by decide), Int.sub_self, wrap_small (by decide) (by decide)]
  rw [this]
  simp only [Bool.and_eq_true, decide_eq_true_eq]
  simp [mn_l, mn_r, mx_l, mx_r]
theorem onP_self2 (a b : S23) : onP a b b = true := by
  unfold onP btwP
  have : twW a b b = 0 := by
    unfold twW
    rw [Int.mul_comm, Int.sub_self, wrap_small (x := 0) (by decide) (by decide)]
  rw [this]
  simp only [Bool.and_eq_true, decide_eq_true_eq]
  simp [mn_l, mn_r, mx_l, mx_r]
def endsP (a b c d : S23) : List S23 := [a, b].filter (onP c d) ++ [c, d].filter (onP a b)
def signsP (a b c d : S23) : Int := if sgn (twW a b c) * sgn (twW a b d) < 0 ∧ sgn (twW c d a) * sgn (twW c d b) < 0 then 2 else 0
def restP (a b c d : S23) : List S23 → Int
  | [] => signsP a b c d
  | e :: r => if r.any (fun p => !eqP p e) then 3 else 1
def refMeetP (a b c d : S23) : Int := if propP a b && propP c d then restP a b c d (endsP a b c d) else 0
theorem common_one (a b c d e : S23) : ∀ (l : List S23), (commonP a b c d [e] l).length = 1 ∧ (l.filter (fun p => onP a b p && onP c d p)).any (fun p => !eqP p e) = false ∨
    2 ≤ (commonP a b c d [e] l).length ∧ (l.filter (fun p => onP a b p && onP c d p)).any (fun p => !eqP p e) = true
  | [] => by simp [commonP]
  | p :: ps => by
    unfold commonP
    have ih := common_one a b c d e ps
    cases hB : onP a b p && onP c d p with
    | false => simp only [hB, Bool.false_and, Bool.false_eq_true, if_false, List.filter_cons]; exact ih
    | true =>
      simp only [Bool.true_and, List.any_cons, List.any_nil, Bool.or_false, List.filter_cons, hB, if_true]
      cases hq : eqP p e with
      | true => simp only [Bool.not_true, Bool.false_eq_true, if_false, Bool.false_or]; exact ih
      | false =>
        right
        have := (commonP_length a b c d ps ([e] ++ [p])).1
        simp at this ⊢
        exact this
theorem along_filter (a b c d : S23) : ∀ (l : List S23), l.length ≤ 4 → rd [0, 1, 3, 3, 3] ((commonP a b c d [] l).length : Int) =
    match l.filter (fun p => onP a b p && onP c d p) with
    | [] => 0
    | e :: r => if r.any (fun p => !eqP p e) then 3 else 1
  | [], _ => by simp [commonP]; rfl
  | p :: ps, h => by
    unfold commonP
    cases hB : onP a b p && onP c d p with
    | false =>
      simp only [hB, Bool.false_and, Bool.false_eq_true, if_false, List.filter_cons]
      exact along_filter a b c d ps (by simp at h; omega)
    | true =>
      simp only [Bool.true_and, List.any_nil, Bool.not_false, if_true, List.filter_cons, hB, List.nil_append]
      have hl := (commonP_length a b c d ps [p]).2
      rcases common_one a b c d p ps with ⟨h1, h2⟩ | ⟨h1, h2⟩
      · rw [h1, h2]; rfl
      · rw [h2]
        simp at h hl
        generalize (commonP a b c d [p] ps).length = n at *
        have : n = 2 ∨ n = 3 ∨ n = 4 := by omega
        rcases this with rfl | rfl | rfl <;> rfl
theorem ends_eq (a b c d : S23) : [a, b, c, d].filter (fun p => onP a b p && onP c d p) = endsP a b c d := by
  unfold endsP
  simp only [List.filter_cons, List.filter_nil, onP_self1, onP_self2, Bool.true_and, Bool.and_true]
  cases onP c d a <;> cases onP c d b <;> cases onP a b c <;> cases onP a b d <;> rfl
theorem ends_both {a b c d p : S23} (h : p ∈ endsP a b c d) : p ∈ [a, b, c, d] ∧ onP a b p = true ∧ onP c d p = true := by
  rw [← ends_eq] at h
  obtain ⟨h1, h2⟩ := List.mem_filter.1 h
  simpa [h1] using h2
theorem onP_tw {a b p : S23} (ha : validP a = true) (hb : validP b = true) (hp : validP p = true) (h : onP a b p = true) : twZ a b p = 0 := by
  unfold onP at h
  rw [twW_eq ha hb hp] at h
  simp only [Bool.and_eq_true, decide_eq_true_eq] at h
  exact h.1
theorem propP_iff (a b : S23) : propP a b = true ↔ validP a = true ∧ validP b = true ∧ a ≠ b := by
  unfold propP
  simp only [Bool.and_eq_true, Bool.not_eq_true', eqP_false, and_assoc]
theorem refMeet_eq (a b c d : S23) : refMeetP a b c d = meetP a b c d := by
  unfold refMeetP meetP
  by_cases hp : (propP a b && propP c d) = true
  · rw [if_pos hp, if_pos hp]
    simp only [Bool.and_eq_true, propP_iff] at hp
    obtain ⟨⟨ha, hb, hab⟩, hc, hd, hcd⟩ := hp
    by_cases hz : sgn (twW a b c) = 0 ∧ sgn (twW a b d) = 0
    · rw [if_pos hz]
      unfold alongP
      rw [along_filter a b c d _ (by simp), ends_eq]
      cases endsP a b c d with
      | nil => simp only [restP]; unfold signsP; rw [hz.1]; simp
      | cons e r => rfl
    · rw [if_neg hz]
      have vm : ∀ p, p ∈ [a, b, c, d] → validP p = true := by
        intro p hp
        simp at hp
        rcases hp with rfl | rfl | rfl | rfl <;> assumption
      have hE : ∀ p q, p ∈ endsP a b c d → q ∈ endsP a b c d → eqP q p = true := by
        intro p q h1 h2
        obtain ⟨m1, o1, o2⟩ := ends_both h1
        obtain ⟨m2, o3, o4⟩ := ends_both h2
        by_cases hne : q = p
        · rw [eqP_iff]; exact hne
        · exfalso
          have := two_points (fun h => hne h.symm) hcd (onP_tw ha hb (vm _ m1) o1) (onP_tw ha hb (vm _ m2) o3) (onP_tw hc hd (vm _ m1) o2) (onP_tw hc hd (vm _ m2) o4)
          apply hz
          rw [twW_eq ha hb hc, twW_eq ha hb hd, this.1, this.2]
          exact ⟨rfl, rfl⟩
      have hany : (onP a b c || onP a b d || onP c d a || onP c d b) = !(endsP a b c d).isEmpty := by
        unfold endsP
        simp only [List.filter_cons, List.filter_nil]
        cases onP c d a <;> cases onP c d b <;> cases onP a b c <;> cases onP a b d <;> rfl
      rw [hany]
      have hcross : sgn (twW a b c) * sgn (twW a b d) < 0 ∧ sgn (twW c d a) * sgn (twW c d b) < 0 → endsP a b c d = [] := by
        rintro ⟨x1, x2⟩
        have k : ∀ p, p ∈ endsP a b c d → False := by
          intro p hp
          obtain ⟨m, o1, o2⟩ := ends_both hp
          have t1 := onP_tw ha hb (vm _ m) o1
          have t2 := onP_tw hc hd (vm _ m) o2
          rw [twW_eq ha hb hc, twW_eq ha hb hd] at x1
          rw [twW_eq hc hd ha, twW_eq hc hd hb] at x2
          simp at m
          rcases m with rfl | rfl | rfl | rfl
          · rw [t2] at x2; simp [sgn] at x2
          · rw [t2] at x2; simp [sgn] at x2
          · rw [t1] at x1; simp [sgn] at x1
          · rw [t1] at x1; simp [sgn] at x1
        exact List.eq_nil_iff_forall_not_mem.2 k
      cases hl : endsP a b c d with
      | nil => simp only [restP, signsP, List.isEmpty_nil, Bool.not_true, Bool.false_eq_true, if_false]
      | cons e r =>
        have : ¬ (sgn (twW a b c) * sgn (twW a b d) < 0 ∧ sgn (twW c d a) * sgn (twW c d b) < 0) := fun h => by rw [hcross h] at hl; cases hl
        rw [if_neg this]
        simp only [restP, List.isEmpty_cons, Bool.not_false, if_true]
        rw [if_neg]
        intro hx
        obtain ⟨p, hp, hpe⟩ := List.any_eq_true.1 hx
        rw [hE e p (by rw [hl]; simp) (by rw [hl]; simp [hp])] at hpe
        simp at hpe
  · rw [if_neg hp, if_neg hp]
end Go.Proofs.Ytckaejgamfllfaa.G
end

section
namespace Go.Proofs.Ytckaejgamfllfaa.G
set_option linter.unusedSimpArgs false
open Go.RowKit Go.Proofs.YtckaejgamfllfaaW.PrintWords Go.Proofs.YtckaejgamfllfaaW.PrintLast Go.Proofs.YtckaejgamfllfaaW.PrintMore
theorem rest_eq (a b c d : S23) (E : List S23) : restP a b c d E = if E.isEmpty then signsP a b c d else if E.any (fun p => E.any (fun q => !eqP p q)) then 3 else 1 := by
  cases E with
  | nil => rfl
  | cons e r =>
    simp only [restP, List.isEmpty_cons, Bool.false_eq_true, if_false]
    congr 1
    rw [eq_iff_iff]
    constructor
    · intro h
      obtain ⟨p, hp, hq⟩ := List.any_eq_true.1 h
      exact List.any_eq_true.2 ⟨p, by simp [hp], List.any_eq_true.2 ⟨e, by simp, hq⟩⟩
    · intro h
      obtain ⟨p, hp, hq⟩ := List.any_eq_true.1 h
      obtain ⟨q, hq1, hq2⟩ := List.any_eq_true.1 hq
      apply Classical.byContradiction
      intro hn
      have all : ∀ x ∈ e :: r, x = e := by
        intro x hx
        rcases List.mem_cons.1 hx with h | h
        · exact h
        · apply Classical.byContradiction
          intro hne
          exact hn (List.any_eq_true.2 ⟨x, h, by rw [(eqP_false x e).2 hne]; rfl⟩)
      rw [all p hp, all q hq1, (eqP_iff e e).2 rfl] at hq2
      cases hq2
theorem any2_perm {E F : List S23} (h : E.Perm F) (f : S23 → S23 → Bool) : E.any (fun p => E.any (f p)) = F.any (fun p => F.any (f p)) := by
  rw [Bool.eq_iff_iff]
  simp only [List.any_eq_true]
  constructor
  · rintro ⟨p, hp, q, hq, e⟩; exact ⟨p, h.mem_iff.1 hp, q, h.mem_iff.1 hq, e⟩
  · rintro ⟨p, hp, q, hq, e⟩; exact ⟨p, h.mem_iff.2 hp, q, h.mem_iff.2 hq, e⟩
theorem rest_perm (a b c d a' b' c' d' : S23) {E F : List S23} (h : E.Perm F) (hs : signsP a b c d = signsP a' b' c' d') : restP a b c d E = restP a' b' c' d' F := by
  rw [rest_eq, rest_eq, any2_perm h, hs]
  have : E.isEmpty = F.isEmpty := by
    rw [Bool.eq_iff_iff, List.isEmpty_iff, List.isEmpty_iff]
    constructor
    · rintro rfl; exact List.nil_perm.1 h
    · rintro rfl; exact List.perm_nil.1 h
  rw [this]
theorem meet_sym (a b c d : S23) : meetP c d a b = meetP a b c d := by
  rw [← refMeet_eq, ← refMeet_eq]
  unfold refMeetP
  rw [Bool.and_comm]
  congr 1
  exact rest_perm _ _ _ _ _ _ _ _ (List.perm_append_comm) (by unfold signsP; simp only [and_comm])
theorem onP_swap {a b p : S23} (ha : validP a = true) (hb : validP b = true) (hp : validP p = true) : onP b a p = onP a b p := by
  unfold onP btwP
  rw [twW_eq ha hb hp, twW_eq hb ha hp, twZ_swap]
  have e1 : ∀ x y : Int, mn x y = mn y x := by intro x y; unfold mn; split <;> split <;> omega
  have e2 : ∀ x y : Int, mx x y = mx y x := by intro x y; unfold mx; split <;> split <;> omega
  rw [e1 b.f0, e1 b.f1, e2 b.f0, e2 b.f1]
  have : decide (-twZ a b p = 0) = decide (twZ a b p = 0) := by
    rw [decide_eq_decide]; omega
  rw [this]
end Go.Proofs.Ytckaejgamfllfaa.G
end

section
namespace Go.Proofs.Ytckaejgamfllfaa.G
set_option linter.unusedSimpArgs false
open Go.RowKit Go.Proofs.YtckaejgamfllfaaW.PrintWords Go.Proofs.YtckaejgamfllfaaW.PrintLast Go.Proofs.YtckaejgamfllfaaW.PrintMore
theorem rd_getD (l : List S23) (i : Nat) : rd_T23 l (i : Int) = l.getD i z23 := by
  unfold rd_T23; simp [z23]
theorem tmod_nat (a n : Nat) : Int.tmod (a : Int) (n : Int) = ((a % n : Nat) : Int) := by
  exact (Int.ofNat_tmod a n).symm
theorem round_facts (l : List S23) (hl : l.length ≤ 1000) {i : Nat} (h : i < l.length) :
    wrap64 ((i : Int) + 1) = ((i + 1 : Nat) : Int) ∧ Int.tmod (((i + 1 : Nat) : Int)) (l.length : Int) = (((i + 1) % l.length : Nat) : Int) ∧
    (0 : Int) ≤ (((i + 1) % l.length : Nat) : Int) ∧ (((i + 1) % l.length : Nat) : Int) < (l.length : Int) ∧ ((l.length : Int) = 0) = False ∧ ((i : Int) < (l.length : Int)) = True ∧ ((0 : Int) ≤ (i : Int)) = True := by
  refine ⟨by rw [wrap_small (by omega) (by omega)]; simp, tmod_nat _ _, by omega, ?_, ?_, ?_, ?_⟩
  · have := Nat.mod_lt (i + 1) (show 0 < l.length by omega); omega
  · simp only [eq_iff_iff, iff_true, iff_false]; omega
  · simp only [eq_iff_iff, iff_true, iff_false]; omega
  · simp only [eq_iff_iff, iff_true, iff_false]; omega
def adjP (n k i : Nat) : Prop := k + 1 = i ∨ (i + 1 = n ∧ k = 0)
def edgeA (l : List S23) (i : Nat) : S23 := l.getD i z23
def edgeB (l : List S23) (i : Nat) : S23 := l.getD ((i + 1) % l.length) z23
def pairP (l : List S23) (k i : Nat) : Prop :=
  (adjP l.length k i → meetP (edgeA l i) (edgeB l i) (edgeA l k) (edgeB l k) = 1) ∧ (¬ adjP l.length k i → meetP (edgeA l i) (edgeB l i) (edgeA l k) (edgeB l k) = 0)
def SimpleP (l : List S23) : Prop := (∀ i, i < l.length → edgeA l i ≠ edgeB l i) ∧ ∀ i, i < l.length → ∀ k, k < i → pairP l k i
theorem mem_edges (l : List S23) (x : Nat × S23 × S23) : x ∈ edgesTo l l.length ↔ ∃ i, i < l.length ∧ x = (i, edgeA l i, edgeB l i) := by
  unfold edgesTo
  rw [List.mem_map]
  constructor
  · rintro ⟨i, hi, rfl⟩; exact ⟨i, List.mem_range.1 hi, rfl⟩
  · rintro ⟨i, hi, rfl⟩; exact ⟨i, List.mem_range.2 hi, rfl⟩
theorem simpleP_iff (l : List S23) (h3 : 3 ≤ l.length) (hl : l.length ≤ 1000) : simpleP l = true ↔ SimpleP l := by
  unfold simpleP edgeOk SimpleP
  rw [List.all_eq_true]
  simp only [Bool.and_eq_true, Bool.not_eq_true', eqP_false, List.all_eq_true, mem_edges]
  constructor
  · intro h
    have h0 : ∀ i, i < l.length → edgeA l i ≠ edgeB l i := fun i hi => (h _ ⟨i, hi, rfl⟩).1
    refine ⟨h0, fun i hi k hk => ?_⟩
    have := (h _ ⟨k, by omega, rfl⟩).2 _ ⟨i, hi, rfl⟩
    unfold pairOk at this
    simp only at this
    rw [if_neg (by omega), if_neg (by rw [eqP_iff]; exact h0 i hi), wrap_small (by omega) (by omega)] at this
    unfold pairP adjP
    rw [meet_sym]
    split at this
    · rename_i h1
      split at this
      · cases this
      · rename_i h2
        refine ⟨fun _ => by simpa using this, fun hn => absurd (.inl (by omega)) hn⟩
    · rename_i h1
      split at this
      · rename_i h2
        refine ⟨fun _ => by simpa using this, fun hn => absurd (.inr (by omega)) hn⟩
      · rename_i h2
        refine ⟨fun hn => ?_, fun _ => by simpa using this⟩
        rcases hn with h | h
        · omega
        · exfalso; apply h2; omega
  · rintro ⟨h0, h⟩ x ⟨k, hk, rfl⟩
    refine ⟨h0 k hk, ?_⟩
    rintro y ⟨i, hi, rfl⟩
    unfold pairOk
    simp only
    split
    · rfl
    · rename_i hlt
      rw [if_neg (by rw [eqP_iff]; exact h0 i hi), wrap_small (by omega) (by omega)]
      obtain ⟨p1, p2⟩ := h i hi k (by omega)
      rw [meet_sym] at p1 p2
      unfold adjP at p1 p2
      split
      · rw [if_neg (by omega)]
        simpa using p1 (.inl (by omega))
      · split
        · simpa using p1 (.inr (by omega))
        · simpa using p2 (by omega)
instance (n k i : Nat) : Decidable (adjP n k i) := by unfold adjP; infer_instance
def ringOk (l : List S23) : Int := if 3 ≤ l.length ∧ l.length ≤ 200 then (if l.all validP then 0 else 1) else 2
theorem plane_ring_eq (l more : List S23) (k : Nat) (hk : 1 ≤ k) (hm : more.length ≤ 1000) : plane_ring.f k l more = some (if ringOk l = 0 then (if more.all validP then 0 else 1) else ringOk l) := by
  obtain ⟨k, rfl⟩ : ∃ m, k = m + 1 := ⟨k - 1, by omega⟩
  unfold plane_ring.f plane_within.f ringOk plane_valid.f
  simp only [plane_ring.j0]
  have a2 : more.length ≤ 9223372036854775806 := by omega
  by_cases h : 3 ≤ l.length ∧ l.length ≤ 200
  · have a1 : l.length ≤ 9223372036854775806 := by omega
    have h1 : (3 : Int) ≤ (l.length : Int) := by omega
    have h2 : (l.length : Int) ≤ 200 := by omega
    rw [if_pos h, if_pos h1, if_pos a1, if_pos a2]
    cases l.all validP <;> cases more.all validP <;> simp [h2]
  · rw [if_neg h]
    by_cases h1 : (3 : Int) ≤ (l.length : Int)
    · have h2 : ¬ (l.length : Int) ≤ 200 := by omega
      simp [h1, h2]
    · simp [h1]
def AreaP (l : List S23) : Int × Int := if ringOk l = 0 then (areaOf (edgesTo l l.length), 0) else (0, ringOk l)
def SimpP (l : List S23) : Bool × Int := if ringOk l = 0 then (simpleP l, 0) else (false, ringOk l)
def ringPt (l : List S23) (p : S23) : Int := if ringOk l = 0 then (if validP p then 0 else 1) else ringOk l
def WindP (l : List S23) (p : S23) : Int × Int := if ringPt l p = 0 then (if bordOf p (edgesTo l l.length) then (0, 4) else (windOf p (edgesTo l l.length), 0)) else (0, ringPt l p)
def whereP (l : List S23) (p : S23) : Int := if bordOf p (edgesTo l l.length) then 0 else if windOf p (edgesTo l l.length) = 0 then -1 else 1
def WhereP (l : List S23) (p : S23) : Int × Int := if ringPt l p = 0 then (if simpleP l then (whereP l p, 0) else (0, 4)) else (0, ringPt l p)
theorem ringOk_len {l : List S23} (h : ringOk l = 0) : 3 ≤ l.length ∧ l.length ≤ 200 ∧ l.all validP = true := by
  unfold ringOk at h
  split at h
  · rename_i h'
    split at h
    · rename_i h''; exact ⟨h'.1, h'.2, h''⟩
    · simp at h
  · simp at h
theorem ringPt_ring {l : List S23} {p : S23} (h : ringPt l p = 0) : ringOk l = 0 ∧ validP p = true := by
  unfold ringPt at h
  split at h
  · rename_i h'
    split at h
    · rename_i h''; exact ⟨h', h''⟩
    · simp at h
  · rename_i h'; exact absurd h h'
theorem plane_ring_none (l : List S23) (k : Nat) (hk : 1 ≤ k) : plane_ring.f k l [] = some (ringOk l) := by
  rw [plane_ring_eq l [] k hk (by simp)]
  simp only [List.all_nil, if_true]
  congr 1
  split
  · rename_i h; exact h.symm
  · rfl
theorem plane_ring_one (l : List S23) (p : S23) (k : Nat) (hk : 1 ≤ k) : plane_ring.f k l [⟨p.f0, p.f1⟩] = some (ringPt l p) := by
  rw [plane_ring_eq l _ k hk (by simp)]
  simp only [List.all_cons, List.all_nil, Bool.and_true]
  rfl
theorem plane_Area_eq (l : List S23) (k : Nat) (hk : 1 ≤ k) : plane_Area.f k l = some (AreaP l) := by
  unfold plane_Area.f AreaP
  rw [plane_ring_none l k hk]
  simp only [Option.bind_some]
  split
  · rename_i h
    have := (ringOk_len h).2.1
    unfold plane_area.f
    rw [if_pos (by omega)]; rfl
  · rfl
theorem plane_Simple_eq (l : List S23) (k : Nat) (hk : 1 ≤ k) : plane_Simple.f k l = some (SimpP l) := by
  unfold plane_Simple.f SimpP
  rw [plane_ring_none l k hk]
  simp only [Option.bind_some]
  split
  · rename_i h
    have := (ringOk_len h).2.1
    unfold plane_simple.f
    rw [if_pos (by omega)]; rfl
  · rfl
theorem plane_border_eq (l : List S23) (p : S23) (h : l.length ≤ 200) : plane_border.f l p.f0 p.f1 = some (bordOf p (edgesTo l l.length)) := by
  unfold plane_border.f
  rw [if_pos (by omega)]
theorem plane_winding_eq (l : List S23) (p : S23) (h : l.length ≤ 200) : plane_winding.f l p.f0 p.f1 = some (windOf p (edgesTo l l.length)) := by
  unfold plane_winding.f
  rw [if_pos (by omega)]
theorem plane_Winding_eq (l : List S23) (p : S23) (k : Nat) (hk : 1 ≤ k) : plane_Winding.f k l p.f0 p.f1 = some (WindP l p) := by
  unfold plane_Winding.f WindP
  rw [plane_ring_one l p k hk]
  simp only [Option.bind_some]
  split
  · rename_i h
    have := (ringOk_len (ringPt_ring h).1).2.1
    rw [plane_border_eq l p this, plane_winding_eq l p this]
    simp only [Option.bind_some]
    split <;> rfl
  · rfl
theorem plane_where_eq (l : List S23) (p : S23) (h : l.length ≤ 200) : plane_where.f l p.f0 p.f1 = some (whereP l p) := by
  unfold plane_where.f whereP
  rw [plane_border_eq l p h, plane_winding_eq l p h]
  simp only [Option.bind_some]
  split
  · rfl
  · split <;> rfl
theorem plane_Where_eq (l : List S23) (p : S23) (k : Nat) (hk : 1 ≤ k) : plane_Where.f k l p.f0 p.f1 = some (WhereP l p) := by
  unfold plane_Where.f WhereP
  rw [plane_ring_one l p k hk]
  simp only [Option.bind_some]
  split
  · rename_i h
    have := (ringOk_len (ringPt_ring h).1).2.1
    unfold plane_simple.f
    rw [if_pos (by omega)]
    simp only [Option.bind_some]
    rw [plane_where_eq l p this]
    split <;> rfl
  · rfl
end Go.Proofs.Ytckaejgamfllfaa.G
end

section
namespace Go.Proofs.Ytckaejgamfllfaa.G
set_option linter.unusedSimpArgs false
open Go.RowKit Go.Proofs.YtckaejgamfllfaaW.PrintWords Go.Proofs.YtckaejgamfllfaaW.PrintLast Go.Proofs.YtckaejgamfllfaaW.PrintMore
def tz (p : S23) : Int := 4194304 * p.f1 - p.f0
def prodN : Nat → (Nat → Int) → Int
  | 0, _ => 1
  | n + 1, g => prodN n g * g n
theorem prodN_pos {n : Nat} {g : Nat → Int} (h : ∀ i, i < n → 0 < g i) : 0 < prodN n g := by
  induction n with
  | zero => show (0 : Int) < 1; decide
  | succ n ih => exact Int.mul_pos (ih (fun i hi => h i (by omega))) (h n (by omega))
theorem prodN_dvd {n : Nat} {g : Nat → Int} {i : Nat} (h : i < n) : ∃ q, prodN n g = g i * q := by
  induction n with
  | zero => omega
  | succ n ih =>
    rcases Nat.lt_or_ge i n with h' | h'
    · obtain ⟨q, hq⟩ := ih h'
      exact ⟨q * g n, by simp only [prodN]; rw [hq, Int.mul_assoc]⟩
    · have : i = n := by omega
      subst this
      exact ⟨prodN i g, by simp only [prodN]; rw [Int.mul_comm]⟩
theorem tz_ne {p q : S23} (hp : validP p = true) (hq : validP q = true) (h : p ≠ q) : tz p ≠ tz q := by
  rw [validP_iff] at hp hq
  rw [ne_iff] at h
  unfold tz
  omega
theorem slope_ex {n : Nat} {X Z : Nat → Int} {nt : Nat → Nat} (hz : ∀ i, i < n → Z i ≠ Z (nt i)) : ∃ (K : Int) (be : Nat → Int), 0 < K ∧ ∀ i, i < n → (Z (nt i) - Z i) * be i = K * (X (nt i) - X i) := by
  have hp : ∀ i, i < n → 0 < ((Z (nt i) - Z i).natAbs : Int) := fun i hi => by have := hz i hi; omega
  refine ⟨prodN n (fun i => ((Z (nt i) - Z i).natAbs : Int)), fun i => (prodN n (fun i => ((Z (nt i) - Z i).natAbs : Int)) / ((Z (nt i) - Z i).natAbs : Int)) * (if 0 < Z (nt i) - Z i then 1 else -1) * (X (nt i) - X i), prodN_pos hp, fun i hi => ?_⟩
  obtain ⟨q, hq⟩ := prodN_dvd (g := fun i => ((Z (nt i) - Z i).natAbs : Int)) hi
  have hpi := hp i hi
  show (Z (nt i) - Z i) * (prodN n (fun i => ((Z (nt i) - Z i).natAbs : Int)) / ((Z (nt i) - Z i).natAbs : Int) * (if 0 < Z (nt i) - Z i then 1 else -1) * (X (nt i) - X i)) = prodN n (fun i => ((Z (nt i) - Z i).natAbs : Int)) * (X (nt i) - X i)
  rw [hq]
  rw [Int.mul_ediv_cancel_left _ (by omega)]
  generalize Z (nt i) - Z i = h at *
  split
  · have : (h.natAbs : Int) = h := by omega
    rw [this]; grind
  · have : (h.natAbs : Int) = -h := by omega
    rw [this]; grind
section
variable {a b p : S23} {al be K : Int}
theorem side_id (hal : al = 2 * K * a.f0 - be * (2 * tz a)) (hbe : (tz b - tz a) * be = K * (b.f0 - a.f0)) :
    (tz b - tz a) * (al + be * (2 * tz p) - 2 * K * p.f0) = 2 * K * 4194304 * twZ a b p := by
  unfold twZ tz at *
  grind
end
theorem mul_zero_of {h x y : Int} (hh : h ≠ 0) (e : h * x = y) (hy : y = 0) : x = 0 := by
  rw [hy] at e
  rcases Int.mul_eq_zero.1 e with h' | h'
  · exact absurd h' hh
  · exact h'
theorem scale {h s x y : Int} (hh : 0 < h) (h0 : 0 ≤ s) (h1 : s ≤ h) (e : x * h = y * s) : (0 ≤ y → 0 ≤ x ∧ x ≤ y) ∧ (y ≤ 0 → y ≤ x ∧ x ≤ 0) := by
  have le : ∀ u v : Int, u * h ≤ v * h → u ≤ v := fun u v k => Int.le_of_mul_le_mul_right k hh
  refine ⟨fun hy => ⟨le _ _ ?_, le _ _ ?_⟩, fun hy => ⟨le _ _ ?_, le _ _ ?_⟩⟩
  · rw [e]; simp; exact Int.mul_nonneg hy h0
  · rw [e]; exact Int.mul_le_mul_of_nonneg_left h1 hy
  · rw [e]; exact Int.mul_le_mul_of_nonpos_left hy h1
  · rw [e]; simp; exact Int.mul_nonpos_of_nonpos_of_nonneg hy h0
theorem betw {h s u v w : Int} (hr : (0 < h ∧ 0 ≤ s ∧ s ≤ h) ∨ (h < 0 ∧ s ≤ 0 ∧ h ≤ s)) (e : (w - u) * h = (v - u) * s) : mn u v ≤ w ∧ w ≤ mx u v := by
  have : ∃ h' s' : Int, 0 < h' ∧ 0 ≤ s' ∧ s' ≤ h' ∧ (w - u) * h' = (v - u) * s' := by
    rcases hr with r | r
    · exact ⟨h, s, r.1, r.2.1, r.2.2, e⟩
    · exact ⟨-h, -s, by omega, by omega, by omega, by rw [Int.mul_neg, Int.mul_neg, e]⟩
  obtain ⟨h', s', r1, r2, r3, e'⟩ := this
  obtain ⟨k1, k2⟩ := scale r1 r2 r3 e'
  unfold mn mx
  rcases Int.le_total u v with hv | hv
  · have := k1 (by omega); split <;> split <;> omega
  · have := k2 (by omega); split <;> split <;> omega
theorem on_of {a b p : S23} (ha : validP a = true) (hb : validP b = true) (hp : validP p = true) (hz : tz a ≠ tz b) (h0 : twZ a b p = 0)
    (hr : (tz a ≤ tz p ∧ tz p ≤ tz b) ∨ (tz b ≤ tz p ∧ tz p ≤ tz a)) : onP a b p = true := by
  have ex : (p.f0 - a.f0) * (tz b - tz a) = (b.f0 - a.f0) * (tz p - tz a) := by unfold twZ tz at *; grind
  have ey : (p.f1 - a.f1) * (tz b - tz a) = (b.f1 - a.f1) * (tz p - tz a) := by unfold twZ tz at *; grind
  have between : ∀ u v w : Int, (w - u) * (tz b - tz a) = (v - u) * (tz p - tz a) → mn u v ≤ w ∧ w ≤ mx u v := by
    intro u v w e
    refine betw ?_ e
    omega
  unfold onP btwP
  rw [twW_eq ha hb hp, h0]
  have b0 := between _ _ _ ex
  have b1 := between _ _ _ ey
  simp [b0.1, b0.2, b1.1, b1.2]
theorem mem_ends1 {a b c d : S23} (h : onP c d a = true) : a ∈ endsP a b c d := by
  unfold endsP; simp [h]
theorem mem_ends2 {a b c d : S23} (h : onP c d b = true) : b ∈ endsP a b c d := by
  unfold endsP; simp [h]
theorem mem_ends3 {a b c d : S23} (h : onP a b c = true) : c ∈ endsP a b c d := by
  unfold endsP; simp [h]
theorem mem_ends4 {a b c d : S23} (h : onP a b d = true) : d ∈ endsP a b c d := by
  unfold endsP; simp [h]
theorem meet_zero {a b c d : S23} (h1 : propP a b = true) (h2 : propP c d = true) (h : meetP a b c d = 0) :
    onP a b c = false ∧ onP a b d = false ∧ onP c d a = false ∧ onP c d b = false ∧ ¬ (twZ a b c * twZ a b d < 0 ∧ twZ c d a * twZ c d b < 0) := by
  rw [← refMeet_eq] at h
  unfold refMeetP at h
  rw [h1, h2] at h
  simp only [Bool.and_self, if_true] at h
  have he : endsP a b c d = [] := by
    cases hE : endsP a b c d with
    | nil => rfl
    | cons e r =>
      rw [hE] at h
      simp only [restP] at h
      split at h <;> simp at h
  have hs := h
  rw [he] at hs
  simp only [restP, signsP] at hs
  rw [propP_iff] at h1 h2
  obtain ⟨ha, hb, _⟩ := h1
  obtain ⟨hc, hd, _⟩ := h2
  have sg : ∀ m n : Int, m * n < 0 → sgn m * sgn n < 0 := by
    intro m n hmn
    unfold sgn
    rcases Int.lt_trichotomy m 0 with k | k | k
    · rcases Int.lt_trichotomy n 0 with k' | k' | k'
      · have := Int.mul_pos_of_neg_of_neg k k'; omega
      · subst k'; simp at hmn
      · rw [if_pos k, if_neg (by omega), if_pos k']; decide
    · subst k; simp at hmn
    · rcases Int.lt_trichotomy n 0 with k' | k' | k'
      · rw [if_neg (by omega), if_pos k, if_pos k']; decide
      · subst k'; simp at hmn
      · have := Int.mul_pos k k'; omega
  refine ⟨?_, ?_, ?_, ?_, ?_⟩
  · cases hx : onP a b c
    · rfl
    · have := mem_ends3 (d := d) hx; rw [he] at this; cases this
  · cases hx : onP a b d
    · rfl
    · have := mem_ends4 (c := c) hx; rw [he] at this; cases this
  · cases hx : onP c d a
    · rfl
    · have := mem_ends1 (b := b) hx; rw [he] at this; cases this
  · cases hx : onP c d b
    · rfl
    · have := mem_ends2 (a := a) hx; rw [he] at this; cases this
  · rintro ⟨k1, k2⟩
    rw [twW_eq ha hb hc, twW_eq ha hb hd, twW_eq hc hd ha, twW_eq hc hd hb, if_pos ⟨sg _ _ k1, sg _ _ k2⟩] at hs
    simp at hs
theorem meet_one {a b c d p q : S23} (h1 : propP a b = true) (h2 : propP c d = true) (h : meetP a b c d = 1) (hp : p ∈ endsP a b c d) (hq : q ∈ endsP a b c d) : p = q := by
  rw [← refMeet_eq] at h
  unfold refMeetP at h
  rw [h1, h2] at h
  simp only [Bool.and_self, if_true] at h
  rw [rest_eq] at h
  apply Classical.byContradiction
  intro hne
  have hE : (endsP a b c d).isEmpty = false := by
    cases hE : endsP a b c d with
    | nil => rw [hE] at hp; cases hp
    | cons e r => rfl
  rw [hE] at h
  have : (endsP a b c d).any (fun p => (endsP a b c d).any (fun q => !eqP p q)) = true :=
    List.any_eq_true.2 ⟨p, hp, List.any_eq_true.2 ⟨q, hq, by rw [(eqP_false p q).2 hne]; rfl⟩⟩
  rw [this] at h
  simp at h
section
variable {l : List S23} (h3 : 3 ≤ l.length) (hv : ∀ i, validP (edgeA l i) = true) (hs : SimpleP l)
theorem edgeB_nx (i : Nat) : edgeB l i = edgeA l (nx l.length i) := rfl
include hv hs in
theorem edge_prop {i : Nat} (hi : i < l.length) : propP (edgeA l i) (edgeA l (nx l.length i)) = true :=
  (propP_iff _ _).2 ⟨hv _, hv _, hs.1 i hi⟩
include h3 in
theorem adj_iff {k i : Nat} (hi : i < l.length) (hk : k < i) : adjP l.length k i ↔ (i = nx l.length k ∨ k = nx l.length i) := by
  unfold adjP
  have h1 := nx_small (n := l.length) (i := k) (by omega)
  rw [h1]
  by_cases h : i + 1 < l.length
  · rw [nx_small h]; omega
  · rw [nx_last (i := i) (by omega)]; omega
include h3 hs in
theorem edges_meet {i j : Nat} (hi : i < l.length) (hj : j < l.length) (hne : i ≠ j) :
    ((j ≠ nx l.length i ∧ i ≠ nx l.length j) → meetP (edgeA l i) (edgeA l (nx l.length i)) (edgeA l j) (edgeA l (nx l.length j)) = 0) ∧
    (j = nx l.length i → meetP (edgeA l i) (edgeA l (nx l.length i)) (edgeA l j) (edgeA l (nx l.length j)) = 1) := by
  rcases Nat.lt_or_gt_of_ne hne with h | h
  · have := hs.2 j hj i h
    unfold pairP at this
    rw [adj_iff h3 hj h, edgeB_nx, edgeB_nx, meet_sym] at this
    exact ⟨fun k => this.2 (by omega), fun k => this.1 (.inl k)⟩
  · have := hs.2 i hi j h
    unfold pairP at this
    rw [adj_iff h3 hi h, edgeB_nx, edgeB_nx] at this
    exact ⟨fun k => this.2 (by omega), fun k => this.1 (.inr k)⟩
end
theorem aff_pos {p q t u : Int} (h : t < u) (hd : p + q * (2 * t) < p + q * (2 * u)) : 0 < q := by
  apply Classical.byContradiction
  intro hn
  have : q * (2 * u - 2 * t) ≤ 0 := Int.mul_nonpos_of_nonpos_of_nonneg (by omega) (by omega)
  have e : q * (2 * u - 2 * t) = q * (2 * u) - q * (2 * t) := Int.mul_sub _ _ _
  omega
theorem aff_le {p q t u : Int} (hq : 0 ≤ q) (h : t ≤ u) : p + q * (2 * t) ≤ p + q * (2 * u) := by
  have : q * (2 * t) ≤ q * (2 * u) := Int.mul_le_mul_of_nonneg_left (by omega) hq
  omega
section
variable {l : List S23} {K : Int} {be : Nat → Int}
def wX (l : List S23) (i : Nat) : Int := (edgeA l i).f0
def wZ (l : List S23) (i : Nat) : Int := tz (edgeA l i)
def wAl (l : List S23) (K : Int) (be : Nat → Int) (i : Nat) : Int := 2 * K * wX l i - be i * (2 * wZ l i)
def wF (l : List S23) (K : Int) (be : Nat → Int) (i : Nat) (t : Int) : Int := wAl l K be i + be i * t
variable (h3 : 3 ≤ l.length) (hv : ∀ i, validP (edgeA l i) = true) (hs : SimpleP l) (hK : 0 < K)
  (hbe : ∀ i, i < l.length → (wZ l (nx l.length i) - wZ l i) * be i = K * (wX l (nx l.length i) - wX l i))
def wR (l : List S23) (i : Nat) (t : Int) : Prop := (wZ l i ≤ t ∧ t ≤ wZ l (nx l.length i)) ∨ (wZ l (nx l.length i) ≤ t ∧ t ≤ wZ l i)
include hv hs in
theorem wz_ne {i : Nat} (hi : i < l.length) : wZ l i ≠ wZ l (nx l.length i) := tz_ne (hv _) (hv _) (hs.1 i hi)
theorem wF_a (i : Nat) : wF l K be i (2 * wZ l i) = 2 * K * wX l i := by unfold wF wAl; omega
include hbe in
theorem wF_b {i : Nat} (hi : i < l.length) : wF l K be i (2 * wZ l (nx l.length i)) = 2 * K * wX l (nx l.length i) := by
  have := hbe i hi
  unfold wF wAl
  grind
include hbe in
theorem w_side {i : Nat} (hi : i < l.length) (p : S23) : (wZ l (nx l.length i) - wZ l i) * (wF l K be i (2 * tz p) - 2 * K * p.f0) = 2 * K * 4194304 * twZ (edgeA l i) (edgeA l (nx l.length i)) p :=
  side_id (a := edgeA l i) (b := edgeA l (nx l.length i)) (al := wAl l K be i) (be := be i) (K := K) rfl (hbe i hi)
include hv hs hK hbe in
theorem w_not_on {i : Nat} (hi : i < l.length) {p : S23} (hp : validP p = true) (hr : wR l i (tz p)) (ho : onP (edgeA l i) (edgeA l (nx l.length i)) p = false) : wF l K be i (2 * tz p) ≠ 2 * K * p.f0 := by
  intro e
  have hz := wz_ne hv hs hi
  have h := w_side hbe hi p
  rw [e, Int.sub_self, Int.mul_zero] at h
  have h0 : twZ (edgeA l i) (edgeA l (nx l.length i)) p = 0 := mul_zero_of (h := 2 * K * 4194304) (by omega) h.symm rfl
  rw [on_of (hv _) (hv _) hp hz h0 hr] at ho
  cases ho
theorem opp {h x y A B C : Int} (hh : h ≠ 0) (hC : 0 < C) (e1 : h * x = C * A) (e2 : h * y = C * B) (hxy : x * y < 0) : A * B < 0 := by
  have e : (C * C) * (A * B) = (h * h) * (x * y) := by grind
  have h1 : 0 < h * h := by
    have := sq_nn h
    have : h * h ≠ 0 := fun k => hh (sq_zero k)
    omega
  have h2 : (h * h) * (x * y) < 0 := Int.mul_neg_of_pos_of_neg h1 hxy
  have h3 : 0 < C * C := Int.mul_pos hC hC
  apply Classical.byContradiction
  intro hn
  have := Int.mul_nonneg (Int.le_of_lt h3) (show 0 ≤ A * B by omega)
  omega
theorem mul_opp {x y : Int} (h : (x < 0 ∧ 0 < y) ∨ (0 < x ∧ y < 0)) : x * y < 0 := by
  rcases h with h | h
  · exact Int.mul_neg_of_neg_of_pos h.1 h.2
  · exact Int.mul_neg_of_pos_of_neg h.1 h.2
include h3 hv hs hK hbe in
theorem w_no2 {i j : Nat} (hi : i < l.length) (hj : j < l.length) (hne : i ≠ j) {t u : Int} (htu : t < u) (r1 : wR l i t) (r2 : wR l j t) (r3 : wR l i u) (r4 : wR l j u)
    (h1 : wF l K be i (2 * t) < wF l K be j (2 * t)) : ¬ wF l K be j (2 * u) < wF l K be i (2 * u) := by
  intro h2
  have dF : ∀ z, wF l K be i (2 * z) - wF l K be j (2 * z) = (wAl l K be i - wAl l K be j) + (be i - be j) * (2 * z) := by intro z; unfold wF; grind
  have hq : 0 < be i - be j := aff_pos (p := wAl l K be i - wAl l K be j) htu (by have := dF t; have := dF u; omega)
  have low : ∀ z, z ≤ t → wF l K be i (2 * z) - wF l K be j (2 * z) < 0 := by
    intro z hz
    have := aff_le (p := wAl l K be i - wAl l K be j) (Int.le_of_lt hq) hz
    have := dF z; have := dF t; omega
  have high : ∀ z, u ≤ z → 0 < wF l K be i (2 * z) - wF l K be j (2 * z) := by
    intro z hz
    have := aff_le (p := wAl l K be i - wAl l K be j) (Int.le_of_lt hq) hz
    have := dF z; have := dF u; omega
  have ai := wF_a (l := l) (K := K) (be := be) i
  have aj := wF_a (l := l) (K := K) (be := be) j
  have bi := wF_b hbe hi
  have bj := wF_b hbe hj
  have m := edges_meet h3 hs hi hj hne
  have m' := edges_meet h3 hs hj hi (fun e => hne e.symm)
  unfold wR at r1 r2 r3 r4
  by_cases n1 : j = nx l.length i
  · have := bi
    rw [← n1] at this r1 r3
    have z0 : wF l K be i (2 * wZ l j) - wF l K be j (2 * wZ l j) = 0 := by omega
    rcases Int.lt_or_le (wZ l j) u with k | k
    · rcases Int.lt_or_le t (wZ l j) with k' | k'
      · omega
      · have := low _ k'; omega
    · have := high _ k; omega
  · by_cases n2 : i = nx l.length j
    · have := bj
      rw [← n2] at this r2 r4
      have z0 : wF l K be i (2 * wZ l i) - wF l K be j (2 * wZ l i) = 0 := by omega
      rcases Int.lt_or_le (wZ l i) u with k | k
      · rcases Int.lt_or_le t (wZ l i) with k' | k'
        · omega
        · have := low _ k'; omega
      · have := high _ k; omega
    · have hm := m.1 ⟨n1, n2⟩
      obtain ⟨_, _, _, _, hx⟩ := meet_zero (edge_prop hv hs hi) (edge_prop hv hs hj) hm
      apply hx
      have s1 := w_side hbe hi (edgeA l j)
      have s2 := w_side hbe hi (edgeA l (nx l.length j))
      have s3 := w_side hbe hj (edgeA l i)
      have s4 := w_side hbe hj (edgeA l (nx l.length i))
      have hC : 0 < 2 * K * 4194304 := by omega
      refine ⟨opp (fun e => wz_ne hv hs hi (by omega)) hC s1 s2 (mul_opp ?_), opp (fun e => wz_ne hv hs hj (by omega)) hC s3 s4 (mul_opp ?_)⟩
      · change wF l K be j (2 * wZ l j) = 2 * K * (edgeA l j).f0 at aj
        change wF l K be j (2 * wZ l (nx l.length j)) = 2 * K * (edgeA l (nx l.length j)).f0 at bj
        rw [← aj, ← bj]
        change (wF l K be i (2 * wZ l j) - wF l K be j (2 * wZ l j) < 0 ∧ 0 < wF l K be i (2 * wZ l (nx l.length j)) - wF l K be j (2 * wZ l (nx l.length j))) ∨ (0 < wF l K be i (2 * wZ l j) - wF l K be j (2 * wZ l j) ∧ wF l K be i (2 * wZ l (nx l.length j)) - wF l K be j (2 * wZ l (nx l.length j)) < 0)
        rcases r2 with r2 | r2
        · left; exact ⟨low _ r2.1, high _ (by omega)⟩
        · right; exact ⟨high _ (by omega), low _ r2.1⟩
      · change wF l K be i (2 * wZ l i) = 2 * K * (edgeA l i).f0 at ai
        change wF l K be i (2 * wZ l (nx l.length i)) = 2 * K * (edgeA l (nx l.length i)).f0 at bi
        rw [← ai, ← bi]
        change (wF l K be j (2 * wZ l i) - wF l K be i (2 * wZ l i) < 0 ∧ 0 < wF l K be j (2 * wZ l (nx l.length i)) - wF l K be i (2 * wZ l (nx l.length i))) ∨ (0 < wF l K be j (2 * wZ l i) - wF l K be i (2 * wZ l i) ∧ wF l K be j (2 * wZ l (nx l.length i)) - wF l K be i (2 * wZ l (nx l.length i)) < 0)
        rcases r1 with r1 | r1
        · right
          have := low _ r1.1; have := high (wZ l (nx l.length i)) (by omega)
          omega
        · left
          have := low _ r1.1; have := high (wZ l i) (by omega)
          omega
include h3 hv hs hK hbe in
theorem w_no1_next {i j : Nat} (hi : i < l.length) (hj : j < l.length) (n1 : j = nx l.length i) {t : Int} (r1 : wR l i t) (r2 : wR l j t)
    (he : wF l K be i (2 * t) = wF l K be j (2 * t)) : t = wZ l (nx l.length i) := by
  apply Classical.byContradiction
  intro ht
  have hne : i ≠ j := by
    intro e
    have := wz_ne hv hs hi
    rw [← n1, ← e] at this
    exact this rfl
  have ai := wF_a (l := l) (K := K) (be := be) i
  have aj := wF_a (l := l) (K := K) (be := be) j
  have bi := wF_b hbe hi
  have bj := wF_b hbe hj
  rw [← n1] at bi ht
  have dF : ∀ z, wF l K be i (2 * z) - wF l K be j (2 * z) = (wAl l K be i - wAl l K be j) + (be i - be j) * (2 * z) := by intro z; unfold wF; grind
  have d1 := dF t
  have d2 := dF (wZ l j)
  have q0 : be i - be j = 0 := by
    have : (be i - be j) * (2 * (t - wZ l j)) = 0 := by grind
    rcases Int.mul_eq_zero.1 this with k | k
    · exact k
    · omega
  have same : ∀ z, wF l K be i (2 * z) = wF l K be j (2 * z) := by
    intro z
    have := dF z
    rw [q0, Int.zero_mul] at this d1
    omega
  have hm := (edges_meet h3 hs hi hj hne).2 n1
  have pi := edge_prop hv hs hi
  have pj := edge_prop hv hs hj
  have z1 := wz_ne hv hs hi
  have z2 := wz_ne hv hs hj
  have hvE : edgeA l j ∈ endsP (edgeA l i) (edgeA l (nx l.length i)) (edgeA l j) (edgeA l (nx l.length j)) := mem_ends3 (by rw [← n1]; exact onP_self2 _ _)
  unfold wR at r1 r2
  rw [← n1] at r1 z1
  have cases2 : wR l j (wZ l i) ∨ wR l i (wZ l (nx l.length j)) := by
    unfold wR
    rw [← n1]
    omega
  rcases cases2 with k | k
  · have off : onP (edgeA l j) (edgeA l (nx l.length j)) (edgeA l i) = false := by
      cases hx : onP (edgeA l j) (edgeA l (nx l.length j)) (edgeA l i)
      · rfl
      · exfalso
        have := meet_one pi pj hm (mem_ends1 hx) hvE
        exact z1 (by unfold wZ; rw [this])
    exact w_not_on hv hs hK hbe hj (hv i) k off (by rw [show (2 * tz (edgeA l i)) = 2 * wZ l i from rfl, ← same, ai]; rfl)
  · have off : onP (edgeA l i) (edgeA l (nx l.length i)) (edgeA l (nx l.length j)) = false := by
      cases hx : onP (edgeA l i) (edgeA l (nx l.length i)) (edgeA l (nx l.length j))
      · rfl
      · exfalso
        have := meet_one pi pj hm hvE (mem_ends4 hx)
        exact z2 (by unfold wZ; rw [this])
    exact w_not_on hv hs hK hbe hi (hv _) k off (by rw [show (2 * tz (edgeA l (nx l.length j))) = 2 * wZ l (nx l.length j) from rfl, same, bj]; rfl)
include h3 hv hs hK hbe in
theorem w_no1 {i j : Nat} (hi : i < l.length) (hj : j < l.length) (hne : i ≠ j) {t : Int} (r1 : wR l i t) (r2 : wR l j t)
    (he : wF l K be i (2 * t) = wF l K be j (2 * t)) : (j = nx l.length i ∧ t = wZ l (nx l.length i)) ∨ (i = nx l.length j ∧ t = wZ l (nx l.length j)) := by
  by_cases n1 : j = nx l.length i
  · exact .inl ⟨n1, w_no1_next h3 hv hs hK hbe hi hj n1 r1 r2 he⟩
  · by_cases n2 : i = nx l.length j
    · exact .inr ⟨n2, w_no1_next h3 hv hs hK hbe hj hi n2 r2 r1 he.symm⟩
    · exfalso
      have ai := wF_a (l := l) (K := K) (be := be) i
      have aj := wF_a (l := l) (K := K) (be := be) j
      have bi := wF_b hbe hi
      have bj := wF_b hbe hj
      obtain ⟨o1, o2, o3, o4, _⟩ := meet_zero (edge_prop hv hs hi) (edge_prop hv hs hj) ((edges_meet h3 hs hi hj hne).1 ⟨n1, n2⟩)
      have e1 : ∀ z, z = wZ l j → wR l i z → wF l K be i (2 * z) ≠ wF l K be j (2 * z) := by
        rintro z rfl k; rw [aj]; exact w_not_on hv hs hK hbe hi (hv _) k o1
      have e2 : ∀ z, z = wZ l (nx l.length j) → wR l i z → wF l K be i (2 * z) ≠ wF l K be j (2 * z) := by
        rintro z rfl k; rw [bj]; exact w_not_on hv hs hK hbe hi (hv _) k o2
      have e3 : ∀ z, z = wZ l i → wR l j z → wF l K be i (2 * z) ≠ wF l K be j (2 * z) := by
        rintro z rfl k; rw [ai]; exact (w_not_on hv hs hK hbe hj (hv _) k o3).symm
      have e4 : ∀ z, z = wZ l (nx l.length i) → wR l j z → wF l K be i (2 * z) ≠ wF l K be j (2 * z) := by
        rintro z rfl k; rw [bi]; exact (w_not_on hv hs hK hbe hj (hv _) k o4).symm
      have lowA : ∃ A, A ≤ t ∧ wR l i A ∧ wR l j A ∧ wF l K be i (2 * A) ≠ wF l K be j (2 * A) := by
        have f1 := e1 _ rfl; have f2 := e2 _ rfl; have f3 := e3 _ rfl; have f4 := e4 _ rfl
        unfold wR at *
        rcases r1 with r1 | r1 <;> rcases r2 with r2 | r2
        · by_cases k : wZ l i ≤ wZ l j
          · exact ⟨wZ l j, by omega, by omega, by omega, f1 (by omega)⟩
          · exact ⟨wZ l i, by omega, by omega, by omega, f3 (by omega)⟩
        · by_cases k : wZ l i ≤ wZ l (nx l.length j)
          · exact ⟨wZ l (nx l.length j), by omega, by omega, by omega, f2 (by omega)⟩
          · exact ⟨wZ l i, by omega, by omega, by omega, f3 (by omega)⟩
        · by_cases k : wZ l (nx l.length i) ≤ wZ l j
          · exact ⟨wZ l j, by omega, by omega, by omega, f1 (by omega)⟩
          · exact ⟨wZ l (nx l.length i), by omega, by omega, by omega, f4 (by omega)⟩
        · by_cases k : wZ l (nx l.length i) ≤ wZ l (nx l.length j)
          · exact ⟨wZ l (nx l.length j), by omega, by omega, by omega, f2 (by omega)⟩
          · exact ⟨wZ l (nx l.length i), by omega, by omega, by omega, f4 (by omega)⟩
      have highB : ∃ B, t ≤ B ∧ wR l i B ∧ wR l j B ∧ wF l K be i (2 * B) ≠ wF l K be j (2 * B) := by
        have f1 := e1 _ rfl; have f2 := e2 _ rfl; have f3 := e3 _ rfl; have f4 := e4 _ rfl
        unfold wR at *
        rcases r1 with r1 | r1 <;> rcases r2 with r2 | r2
        · by_cases k : wZ l (nx l.length i) ≤ wZ l (nx l.length j)
          · exact ⟨wZ l (nx l.length i), by omega, by omega, by omega, f4 (by omega)⟩
          · exact ⟨wZ l (nx l.length j), by omega, by omega, by omega, f2 (by omega)⟩
        · by_cases k : wZ l (nx l.length i) ≤ wZ l j
          · exact ⟨wZ l (nx l.length i), by omega, by omega, by omega, f4 (by omega)⟩
          · exact ⟨wZ l j, by omega, by omega, by omega, f1 (by omega)⟩
        · by_cases k : wZ l i ≤ wZ l (nx l.length j)
          · exact ⟨wZ l i, by omega, by omega, by omega, f3 (by omega)⟩
          · exact ⟨wZ l (nx l.length j), by omega, by omega, by omega, f2 (by omega)⟩
        · by_cases k : wZ l i ≤ wZ l j
          · exact ⟨wZ l i, by omega, by omega, by omega, f3 (by omega)⟩
          · exact ⟨wZ l j, by omega, by omega, by omega, f1 (by omega)⟩
      obtain ⟨A, hA, rA1, rA2, dA⟩ := lowA
      obtain ⟨B, hB, rB1, rB2, dB⟩ := highB
      have hA' : A < t := by
        rcases Int.lt_or_eq_of_le hA with k | k
        · exact k
        · subst k; exact absurd he dA
      have hB' : t < B := by
        rcases Int.lt_or_eq_of_le hB with k | k
        · exact k
        · subst k; exact absurd he dB
      have dF : ∀ z, wF l K be i (2 * z) - wF l K be j (2 * z) = (wAl l K be i - wAl l K be j) + (be i - be j) * (2 * z) := by intro z; unfold wF; grind
      have dF' : ∀ z, wF l K be j (2 * z) - wF l K be i (2 * z) = (wAl l K be j - wAl l K be i) + (be j - be i) * (2 * z) := by intro z; unfold wF; grind
      rcases Int.lt_or_gt_of_ne dA with k | k
      · have hq : 0 < be i - be j := aff_pos (p := wAl l K be i - wAl l K be j) hA' (by have := dF A; have := dF t; omega)
        have := aff_le (p := wAl l K be i - wAl l K be j) (Int.le_of_lt hq) hB
        have := dF t; have := dF B
        exact w_no2 h3 hv hs hK hbe hi hj hne (show A < B by omega) rA1 rA2 rB1 rB2 k (by omega)
      · have hq : 0 < be j - be i := aff_pos (p := wAl l K be j - wAl l K be i) hA' (by have := dF' A; have := dF' t; omega)
        have := aff_le (p := wAl l K be j - wAl l K be i) (Int.le_of_lt hq) hB
        have := dF' t; have := dF' B
        exact w_no2 h3 hv hs hK hbe hj hi (fun e => hne e.symm) (show A < B by omega) rA2 rA1 rB2 rB1 k (by omega)
end
end Go.Proofs.Ytckaejgamfllfaa.G
end

section
namespace Go.Proofs.Ytckaejgamfllfaa.G
set_option linter.unusedSimpArgs false
set_option linter.unusedVariables false
open Go.RowKit Go.Proofs.YtckaejgamfllfaaW.PrintWords Go.Proofs.YtckaejgamfllfaaW.PrintLast Go.Proofs.YtckaejgamfllfaaW.PrintMore
theorem ring_ex {l : List S23} (h3 : 3 ≤ l.length) (hv : ∀ i, validP (edgeA l i) = true) (hs : SimpleP l) :
    ∃ P : Ring, P.n = l.length ∧ P.X = wX l ∧ P.Z = wZ l ∧ ∀ i p, i < l.length → (wZ l (nx l.length i) - wZ l i) * (P.F i (2 * tz p) - 2 * P.K * p.f0) = 2 * P.K * 4194304 * twZ (edgeA l i) (edgeA l (nx l.length i)) p := by
  obtain ⟨K, be, hK, hbe⟩ := slope_ex (n := l.length) (X := wX l) (Z := wZ l) (nt := nx l.length) (fun i hi => wz_ne hv hs hi)
  refine ⟨{ n := l.length, X := wX l, Z := wZ l, al := wAl l K be, be := be, K := K, hn := h3, hK := hK, fa := fun i _ => wF_a i, fb := fun i hi => wF_b hbe hi, hz := fun i hi => wz_ne hv hs hi, no1 := ?_, no2 := ?_ }, rfl, rfl, rfl, fun i p hi => w_side hbe hi p⟩
  · intro i j hi hj hne t r1 r2 he
    exact w_no1 h3 hv hs hK hbe hi hj hne r1 r2 he
  · intro i j hi hj hne t u htu r1 r2 r3 r4 h
    exact w_no2 h3 hv hs hK hbe hi hj hne htu r1 r2 r3 r4 h
def wdZ (p a b : S23) : Int :=
  if a.f1 ≤ p.f1 then (if p.f1 < b.f1 then (if 0 < twZ a b p then 1 else 0) else 0)
  else (if b.f1 ≤ p.f1 then (if twZ a b p < 0 then -1 else 0) else 0)
theorem wdZ_range (p a b : S23) : -1 ≤ wdZ p a b ∧ wdZ p a b ≤ 1 := by
  unfold wdZ
  split
  · split
    · split <;> omega
    · omega
  · split
    · split <;> omega
    · omega
def windZ (l : List S23) (p : S23) : Int := sumN l.length (fun i => wdZ p (edgeA l i) (edgeA l (nx l.length i)))
def arZ (a b : S23) : Int := a.f0 * b.f1 - b.f0 * a.f1
def areaZ (l : List S23) : Int := sumN l.length (fun i => arZ (edgeA l i) (edgeA l (nx l.length i)))
theorem sumN_bd {M : Int} {f : Nat → Int} (hM : 0 ≤ M) (h : ∀ i, -M ≤ f i ∧ f i ≤ M) : ∀ (k : Nat), -(k * M) ≤ sumN k f ∧ sumN k f ≤ k * M := by
  intro k
  induction k with
  | zero => simp [sumN]
  | succ k ih =>
    have := h k
    have e : ((k + 1 : Nat) : Int) * M = k * M + M := by rw [Int.natCast_add, Int.add_mul]; simp
    simp only [sumN]; omega
theorem valid_all {l : List S23} (h : l.all validP = true) (i : Nat) : validP (edgeA l i) = true := by
  unfold edgeA
  rcases Nat.lt_or_ge i l.length with hi | hi
  · rw [List.getD_eq_getElem?_getD, List.getElem?_eq_getElem hi]
    exact List.all_eq_true.1 h _ (List.getElem_mem hi)
  · rw [List.getD_eq_getElem?_getD, List.getElem?_eq_none hi]; rfl
theorem windOf_eq {l : List S23} {p : S23} (hv : l.all validP = true) (hp : validP p = true) (hl : l.length ≤ 200) : ∀ (k : Nat), k ≤ l.length →
    windOf p (edgesTo l k) = sumN k (fun i => wdZ p (edgeA l i) (edgeA l (nx l.length i))) := by
  intro k
  induction k with
  | zero => intro _; rfl
  | succ k ih =>
    intro hk
    rw [edgesTo_succ, windOf_snoc, ih (by omega)]
    simp only [sumN]
    have b := sumN_bd (M := 1) (by decide) (fun i => wdZ_range p (edgeA l i) (edgeA l (nx l.length i))) k
    generalize sumN k (fun i => wdZ p (edgeA l i) (edgeA l (nx l.length i))) = s at *
    have e : edgeAt l k = (k, edgeA l k, edgeA l (nx l.length k)) := rfl
    rw [e]
    unfold windStep wdZ
    simp only [twW_eq (valid_all hv k) (valid_all hv (nx l.length k)) hp]
    split
    · split
      · split
        · rw [wrap_small (by omega) (by omega)]
        · omega
      · omega
    · split
      · split
        · rw [wrap_small (by omega) (by omega)]; omega
        · omega
      · omega
theorem arZ_range {a b : S23} (ha : validP a = true) (hb : validP b = true) : -2199023255552 ≤ arZ a b ∧ arZ a b ≤ 2199023255552 := by
  rw [validP_iff] at ha hb
  have h1 := @mul_bd a.f0 b.f1 1048576 (by omega) (by omega) (by omega) (by omega)
  have h2 := @mul_bd b.f0 a.f1 1048576 (by omega) (by omega) (by omega) (by omega)
  unfold arZ; omega
theorem areaOf_eq {l : List S23} (hv : l.all validP = true) (hl : l.length ≤ 200) : ∀ (k : Nat), k ≤ l.length →
    areaOf (edgesTo l k) = sumN k (fun i => arZ (edgeA l i) (edgeA l (nx l.length i))) := by
  intro k
  induction k with
  | zero => intro _; rfl
  | succ k ih =>
    intro hk
    rw [edgesTo_succ, areaOf_snoc, ih (by omega)]
    simp only [sumN]
    have b := sumN_bd (M := 2199023255552) (by decide) (fun i => arZ_range (valid_all hv i) (valid_all hv (nx l.length i))) k
    have c := arZ_range (valid_all hv k) (valid_all hv (nx l.length k))
    generalize sumN k (fun i => arZ (edgeA l i) (edgeA l (nx l.length i))) = s at *
    have e : edgeAt l k = (k, edgeA l k, edgeA l (nx l.length k)) := rfl
    rw [e]
    unfold areaStep
    have ha := valid_all hv k
    have hb := valid_all hv (nx l.length k)
    generalize edgeA l k = u at *
    generalize edgeA l (nx l.length k) = v at *
    rw [validP_iff] at ha hb
    have h1 := @mul_bd u.f0 v.f1 1048576 (by omega) (by omega) (by omega) (by omega)
    have h2 := @mul_bd v.f0 u.f1 1048576 (by omega) (by omega) (by omega) (by omega)
    simp only
    unfold arZ at c ⊢
    rw [wrap_small (x := u.f0 * v.f1) (by omega) (by omega), wrap_small (x := v.f0 * u.f1) (by omega) (by omega), wrap_small (x := u.f0 * v.f1 - v.f0 * u.f1) (by omega) (by omega), wrap_small (by omega) (by omega)]
end Go.Proofs.Ytckaejgamfllfaa.G
end

section
namespace Go.Proofs.Ytckaejgamfllfaa.G
set_option linter.unusedSimpArgs false
set_option linter.unusedVariables false
open Go.RowKit Go.Proofs.YtckaejgamfllfaaW.PrintWords Go.Proofs.YtckaejgamfllfaaW.PrintLast Go.Proofs.YtckaejgamfllfaaW.PrintMore
theorem edge_core {a b p : S23} (ha : validP a = true) (hb : validP b = true) (hp : validP p = true) :
    wdZ p a b = (Ring.lo (tz a) (tz p) - Ring.lo (tz b) (tz p)) * (if tz a < tz b then (if 0 < twZ a b p then 1 else 0) else (if twZ a b p < 0 then 1 else 0)) := by
  rw [validP_iff] at ha hb hp
  have e1 : p.f1 = a.f1 → twZ a b p = (a.f1 - b.f1) * (p.f0 - a.f0) := by intro h; unfold twZ; rw [h]; grind
  have e2 : p.f1 = b.f1 → twZ a b p = (b.f1 - a.f1) * (b.f0 - p.f0) := by intro h; unfold twZ; rw [h]; grind
  have P1 : p.f1 = a.f1 → b.f1 < a.f1 → a.f0 < p.f0 → 0 < twZ a b p := fun h h1 h2 => by rw [e1 h]; exact Int.mul_pos (by omega) (by omega)
  have P2 : p.f1 = a.f1 → a.f1 < b.f1 → a.f0 < p.f0 → twZ a b p < 0 := fun h h1 h2 => by rw [e1 h]; exact Int.mul_neg_of_neg_of_pos (by omega) (by omega)
  have P3 : p.f1 = b.f1 → a.f1 < b.f1 → b.f0 < p.f0 → twZ a b p < 0 := fun h h1 h2 => by rw [e2 h]; exact Int.mul_neg_of_pos_of_neg (by omega) (by omega)
  have P4 : p.f1 = b.f1 → b.f1 < a.f1 → b.f0 < p.f0 → 0 < twZ a b p := fun h h1 h2 => by rw [e2 h]; exact Int.mul_pos_of_neg_of_neg (by omega) (by omega)
  have P5 : p.f1 = a.f1 → p.f1 = b.f1 → twZ a b p = 0 := fun h h1 => by rw [e1 h, show a.f1 - b.f1 = 0 by omega]; simp
  clear e1 e2
  unfold wdZ Ring.lo tz
  generalize twZ a b p = t at *
  generalize hh : (if 4194304 * a.f1 - a.f0 < 4194304 * b.f1 - b.f0 then (if 0 < t then (1 : Int) else 0) else (if t < 0 then 1 else 0)) = q
  rcases Int.lt_trichotomy a.f1 p.f1 with u | u | u <;> rcases Int.lt_trichotomy b.f1 p.f1 with v | v | v
  · rw [if_pos (by omega), if_neg (by omega), if_pos (by omega), if_pos (by omega)]; omega
  · rw [if_pos (by omega), if_neg (by omega), if_pos (by omega)]
    by_cases k : b.f0 < p.f0
    · have := P3 (by omega) (by omega) k
      rw [if_pos (by omega), if_neg (by omega)] at hh
      rw [if_neg (by omega)]; omega
    · rw [if_pos (by omega)]; omega
  · rw [if_pos (show a.f1 ≤ p.f1 by omega), if_pos (show p.f1 < b.f1 by omega), if_pos (show 4194304 * a.f1 - a.f0 ≤ 4194304 * p.f1 - p.f0 by omega), if_neg (show ¬ 4194304 * b.f1 - b.f0 ≤ 4194304 * p.f1 - p.f0 by omega)]
    rw [if_pos (by omega)] at hh
    rw [hh]; omega
  · rw [if_pos (by omega), if_neg (by omega), if_pos (show 4194304 * b.f1 - b.f0 ≤ 4194304 * p.f1 - p.f0 by omega)]
    by_cases k : a.f0 < p.f0
    · have := P1 (by omega) (by omega) k
      rw [if_neg (by omega), if_neg (by omega)] at hh
      rw [if_neg (by omega)]; omega
    · rw [if_pos (by omega)]; omega
  · have := P5 (by omega) (by omega)
    rw [if_pos (by omega), if_neg (by omega)]
    have : q = 0 := by rw [← hh]; split <;> (rw [if_neg (by omega)])
    rw [this, Int.mul_zero]
  · rw [if_pos (by omega), if_pos (by omega), if_neg (show ¬ 4194304 * b.f1 - b.f0 ≤ 4194304 * p.f1 - p.f0 by omega)]
    by_cases k : a.f0 < p.f0
    · have := P2 (by omega) (by omega) k
      rw [if_neg (by omega), if_neg (by omega)]; omega
    · rw [if_pos (by omega)] at hh
      rw [if_pos (show 4194304 * a.f1 - a.f0 ≤ 4194304 * p.f1 - p.f0 by omega), hh]; omega
  · rw [if_neg (show ¬ a.f1 ≤ p.f1 by omega), if_pos (show b.f1 ≤ p.f1 by omega), if_neg (show ¬ 4194304 * a.f1 - a.f0 ≤ 4194304 * p.f1 - p.f0 by omega), if_pos (show 4194304 * b.f1 - b.f0 ≤ 4194304 * p.f1 - p.f0 by omega)]
    rw [if_neg (by omega)] at hh
    rw [← hh]; split <;> omega
  · rw [if_neg (by omega), if_pos (by omega), if_neg (show ¬ 4194304 * a.f1 - a.f0 ≤ 4194304 * p.f1 - p.f0 by omega)]
    by_cases k : b.f0 < p.f0
    · have := P4 (by omega) (by omega) k
      rw [if_neg (by omega), if_neg (by omega)]; omega
    · rw [if_neg (by omega)] at hh
      rw [if_pos (show 4194304 * b.f1 - b.f0 ≤ 4194304 * p.f1 - p.f0 by omega), ← hh]; split <;> omega
  · rw [if_neg (by omega), if_neg (by omega), if_neg (by omega), if_neg (by omega)]; omega
theorem pos_iff_of {h x C A : Int} (hC : 0 < C) (e : h * x = C * A) : (0 < h → (0 < x ↔ 0 < A)) ∧ (h < 0 → (0 < x ↔ A < 0)) := by
  refine ⟨fun hh => ⟨fun hx => ?_, fun hA => ?_⟩, fun hh => ⟨fun hx => ?_, fun hA => ?_⟩⟩
  · have := Int.mul_pos hh hx; rw [e] at this; exact Ring.pos_of_mul hC this
  · have := Int.mul_pos hC hA; rw [← e] at this; exact Ring.pos_of_mul hh this
  · have := Int.mul_neg_of_neg_of_pos hh hx; rw [e] at this
    have h2 : 0 < C * (-A) := by rw [Int.mul_neg]; omega
    have := Ring.pos_of_mul hC h2; omega
  · have := Int.mul_neg_of_pos_of_neg hC hA; rw [← e] at this
    have h2 : 0 < (-h) * x := by rw [Int.neg_mul]; omega
    exact Ring.pos_of_mul (by omega) h2
theorem areaZ_tilt {l : List S23} {P : Ring} (hn : P.n = l.length) (hX : P.X = wX l) (hZ : P.Z = wZ l) : P.area = 4194304 * areaZ l := by
  unfold Ring.area areaZ Ring.nt
  rw [hn, hX, hZ, ← sumN_mul]
  refine sumN_congr (fun i _ => ?_)
  unfold wX wZ tz arZ
  grind
theorem ring_wind {l : List S23} {p : S23} (h3 : 3 ≤ l.length) (hv : l.all validP = true) (hp : validP p = true) (hs : SimpleP l) :
    (0 < areaZ l ∧ (windZ l p = 0 ∨ windZ l p = 1)) ∨ (areaZ l < 0 ∧ (windZ l p = 0 ∨ windZ l p = -1)) := by
  obtain ⟨P, hn, hX, hZ, side⟩ := ring_ex h3 (valid_all hv) hs
  obtain ⟨c, hw⟩ := P.way_ex
  have hA := Ring.area_sign hw
  rw [areaZ_tilt hn hX hZ] at hA
  have hW : windZ l p = P.over (fun j => P.F j (2 * tz p)) (tz p) (2 * P.K * p.f0) := by
    unfold windZ Ring.over
    rw [hn]
    refine sumN_congr (fun i hi => ?_)
    rw [edge_core (valid_all hv i) (valid_all hv (nx l.length i)) hp]
    have hne := wz_ne (valid_all hv) hs hi
    have s := side i p hi
    have hK := P.hK
    obtain ⟨q1, q2⟩ := pos_iff_of (C := 2 * P.K * 4194304) (by omega) s
    unfold Ring.sg Ring.nt Ring.lt01
    rw [hn, hZ]
    congr 1
    change (if wZ l i < wZ l (nx l.length i) then _ else _) = _
    by_cases k : wZ l i < wZ l (nx l.length i)
    · have := q1 (by omega)
      rw [if_pos k]
      by_cases m : 2 * P.K * p.f0 < P.F i (2 * tz p)
      · rw [if_pos m, if_pos (this.1 (by omega))]
      · rw [if_neg m, if_neg (fun h => m (by have := this.2 h; omega))]
    · have := q2 (by omega)
      rw [if_neg k]
      by_cases m : 2 * P.K * p.f0 < P.F i (2 * tz p)
      · rw [if_pos m, if_pos (this.1 (by omega))]
      · rw [if_neg m, if_neg (fun h => m (by have := this.2 h; omega))]
  have R := Ring.over_range hw (fun j => P.F j (2 * tz p)) (tz p) (2 * P.K * p.f0) (fun i j hi hj h1 h2 hl => by
    by_cases e : i = j
    · subst e; exact Int.le_refl _
    · exact ((Ring.apart hi hj e h1 h2).2 hl).1)
  rw [← hW] at R
  rcases hA with ⟨c1, h⟩ | ⟨c0, h⟩
  · left; exact ⟨by omega, by omega⟩
  · right; exact ⟨by omega, by omega⟩
def turnL (l : List S23) (back : Bool) : List S23 := (List.range l.length).map fun i => if back then edgeA l (l.length - 1 - i) else edgeA l (nx l.length i)
theorem turnL_length (l : List S23) (b : Bool) : (turnL l b).length = l.length := by simp [turnL]
theorem turnL_at {l : List S23} {b : Bool} {i : Nat} (hi : i < l.length) : edgeA (turnL l b) i = if b then edgeA l (l.length - 1 - i) else edgeA l (nx l.length i) := by
  unfold turnL
  rw [edgeA, List.getD_eq_getElem?_getD, List.getElem?_map, List.getElem?_range hi]
  rfl
theorem turnL_valid {l : List S23} (b : Bool) (hv : l.all validP = true) : (turnL l b).all validP = true := by
  rw [List.all_eq_true]
  intro x hx
  unfold turnL at hx
  rw [List.mem_map] at hx
  obtain ⟨i, _, rfl⟩ := hx
  split <;> exact valid_all hv _
theorem back_nx {n i : Nat} (hi : i < n) : nx n (n - 1 - nx n i) = n - 1 - i := by
  by_cases h : i + 1 < n
  · rw [nx_small h, nx_small (by omega)]; omega
  · rw [nx_last (i := i) (by omega), nx_last (by omega)]; omega
theorem turn_area {l : List S23} (h : 0 < l.length) : areaZ (turnL l false) = areaZ l := by
  unfold areaZ
  rw [turnL_length]
  have := sumN_nx h (fun i => arZ (edgeA l i) (edgeA l (nx l.length i)))
  rw [← this]
  refine sumN_congr (fun i hi => ?_)
  rw [turnL_at hi, turnL_at (nx_lt h)]
  rfl
theorem sum_back {l : List S23} (h : 0 < l.length) (g : S23 → S23 → Int) (hg : ∀ i j, g (edgeA l i) (edgeA l j) = -g (edgeA l j) (edgeA l i)) :
    sumN l.length (fun i => g (edgeA (turnL l true) i) (edgeA (turnL l true) (nx l.length i))) = -sumN l.length (fun i => g (edgeA l i) (edgeA l (nx l.length i))) := by
  have e : ∀ i, i < l.length → g (edgeA (turnL l true) i) (edgeA (turnL l true) (nx l.length i)) =
      -(fun k => g (edgeA l (l.length - 1 - k)) (edgeA l (nx l.length (l.length - 1 - k)))) (nx l.length i) := by
    intro i hi
    rw [turnL_at hi, turnL_at (nx_lt h)]
    simp only [if_true]
    rw [hg, back_nx hi]
  rw [sumN_congr e, sumN_neg]
  have h1 := sumN_nx h (fun k => g (edgeA l (l.length - 1 - k)) (edgeA l (nx l.length (l.length - 1 - k))))
  have h2 := sumN_rev l.length (fun k => g (edgeA l k) (edgeA l (nx l.length k)))
  exact congrArg (fun z => -z) (h1.trans h2)
theorem arZ_swap (a b : S23) : arZ a b = -arZ b a := by unfold arZ; omega
theorem wdZ_swap (p a b : S23) : wdZ p a b = -wdZ p b a := by
  unfold wdZ
  rw [twZ_swap a b p]
  split <;> split <;> (try split) <;> (try split) <;> omega
theorem turn_area_back {l : List S23} (h : 0 < l.length) : areaZ (turnL l true) = -areaZ l := by
  unfold areaZ; rw [turnL_length]; exact sum_back h arZ (fun i j => arZ_swap _ _)
theorem turn_wind_back {l : List S23} (p : S23) (h : 0 < l.length) : windZ (turnL l true) p = -windZ l p := by
  unfold windZ; rw [turnL_length]; exact sum_back h (wdZ p) (fun i j => wdZ_swap _ _ _)
theorem bord_iff (l : List S23) (p : S23) : bordOf p (edgesTo l l.length) = true ↔ ∃ i, i < l.length ∧ onP (edgeA l i) (edgeA l (nx l.length i)) p = true := by
  unfold bordOf
  rw [List.any_eq_true]
  constructor
  · rintro ⟨x, hx, h⟩
    rw [mem_edges] at hx
    obtain ⟨i, hi, rfl⟩ := hx
    exact ⟨i, hi, h⟩
  · rintro ⟨i, hi, h⟩
    exact ⟨(i, edgeA l i, edgeB l i), (mem_edges _ _).2 ⟨i, hi, rfl⟩, h⟩
theorem turn_bord_back {l : List S23} {p : S23} (h : 0 < l.length) (hv : l.all validP = true) (hp : validP p = true) :
    bordOf p (edgesTo (turnL l true) (turnL l true).length) = bordOf p (edgesTo l l.length) := by
  rw [Bool.eq_iff_iff, bord_iff, bord_iff, turnL_length]
  constructor
  · rintro ⟨i, hi, ho⟩
    rw [turnL_at hi, turnL_at (nx_lt h)] at ho
    simp only [if_true] at ho
    refine ⟨l.length - 1 - nx l.length i, by omega, ?_⟩
    rw [back_nx hi, onP_swap (valid_all hv _) (valid_all hv _) hp]
    exact ho
  · rintro ⟨i, hi, ho⟩
    refine ⟨l.length - 1 - nx l.length i, by omega, ?_⟩
    rw [turnL_at (by omega), turnL_at (nx_lt h), back_nx hi]
    simp only [if_true]
    have : nx l.length i < l.length := nx_lt h
    rw [show l.length - 1 - (l.length - 1 - nx l.length i) = nx l.length i by omega, show l.length - 1 - (l.length - 1 - i) = i by omega, onP_swap (valid_all hv _) (valid_all hv _) hp]
    exact ho
theorem areaZ_range {l : List S23} (hv : l.all validP = true) (hl : l.length ≤ 200) : -439804651110400 ≤ areaZ l ∧ areaZ l ≤ 439804651110400 := by
  have b := sumN_bd (M := 2199023255552) (by decide) (fun i => arZ_range (valid_all hv i) (valid_all hv (nx l.length i))) l.length
  unfold areaZ; omega
theorem windZ_range {l : List S23} {p : S23} (hl : l.length ≤ 200) : -200 ≤ windZ l p ∧ windZ l p ≤ 200 := by
  have b := sumN_bd (M := 1) (by decide) (fun i => wdZ_range p (edgeA l i) (edgeA l (nx l.length i))) l.length
  unfold windZ; omega
theorem ringOk_turn {l : List S23} (b : Bool) (h : ringOk l = 0) : ringOk (turnL l b) = 0 := by
  obtain ⟨h3, h4, hv⟩ := ringOk_len h
  unfold ringOk
  rw [turnL_length, if_pos ⟨h3, h4⟩, turnL_valid b hv]; rfl
theorem AreaP_ok {l : List S23} (h : ringOk l = 0) : AreaP l = (areaZ l, 0) := by
  obtain ⟨h3, h4, hv⟩ := ringOk_len h
  unfold AreaP
  rw [if_pos h, areaOf_eq hv h4 _ (Nat.le_refl _)]; rfl
theorem WindP_ok {l : List S23} {p : S23} (h : ringOk l = 0) (hp : validP p = true) : WindP l p = if bordOf p (edgesTo l l.length) then (0, 4) else (windZ l p, 0) := by
  obtain ⟨h3, h4, hv⟩ := ringOk_len h
  unfold WindP ringPt
  rw [if_pos h, hp, if_pos rfl, windOf_eq hv hp h4 _ (Nat.le_refl _)]; rfl
theorem WhereP_ok {l : List S23} {p : S23} (h : ringOk l = 0) (hp : validP p = true) : WhereP l p = if simpleP l then (if bordOf p (edgesTo l l.length) then 0 else if windZ l p = 0 then -1 else 1, 0) else (0, 4) := by
  obtain ⟨h3, h4, hv⟩ := ringOk_len h
  unfold WhereP ringPt whereP
  rw [if_pos h, hp, if_pos rfl, windOf_eq hv hp h4 _ (Nat.le_refl _)]; rfl
end Go.Proofs.Ytckaejgamfllfaa.G
end

section
namespace Go.Proofs.Ytckaejgamfllfaa.G
set_option linter.unusedSimpArgs false
set_option linter.unusedVariables false
open Go.RowKit Go.Proofs.YtckaejgamfllfaaW.PrintWords Go.Proofs.YtckaejgamfllfaaW.PrintLast Go.Proofs.YtckaejgamfllfaaW.PrintMore
theorem turned_l0 (l : List S23) (b : Bool) (hl : l.length ≤ 1000) : ∀ (m i k : Nat) (acc : List S23), l.length - i = m → i ≤ l.length → m < k → acc = (turnL l b).take i →
    boundstonelaw02_turned.l0 k l b acc (i : Int) = some (turnL l b) := by
  intro m
  induction m with
  | zero =>
    intro i k acc hm hi hk ha
    obtain ⟨k, rfl⟩ : ∃ m, k = m + 1 := ⟨k - 1, by omega⟩
    simp only [boundstonelaw02_turned.l0]
    rw [if_neg (by omega), ha, List.take_of_length_le (by rw [turnL_length]; omega)]
  | succ m ih =>
    intro i k acc hm hi hk ha
    obtain ⟨k, rfl⟩ : ∃ m, k = m + 1 := ⟨k - 1, by omega⟩
    obtain ⟨e1, e2, e3, e4, e5, e6, e7⟩ := round_facts l hl (i := i) (by omega)
    have ht : i < (turnL l b).length := by rw [turnL_length]; omega
    have hlen : acc.length < 8796093022208 := by rw [ha, List.length_take]; omega
    have hx : (turnL l b)[i] = if b then edgeA l (l.length - 1 - i) else edgeA l (nx l.length i) := by
      rw [← turnL_at (b := b) (show i < l.length by omega)]
      unfold edgeA
      rw [List.getD_eq_getElem?_getD, List.getElem?_eq_getElem ht]; rfl
    have hnext := ih (i + 1) k (acc ++ [(turnL l b)[i]]) (by omega) (by omega) (by omega) (by rw [ha, List.take_succ_eq_append_getElem ht])
    have w1 : wrap64 ((l.length : Int) - 1) = (l.length : Int) - 1 := wrap_small (by omega) (by omega)
    have w2 : wrap64 (((l.length : Int) - 1) - (i : Int)) = ((l.length - 1 - i : Nat) : Int) := by rw [wrap_small (by omega) (by omega)]; omega
    simp only [boundstonelaw02_turned.l0]
    rw [if_pos (by omega)]
    cases b with
    | true =>
      simp only [w1, w2, e1, if_true, rd_getD] at hx ⊢
      rw [if_pos (by omega), if_pos (by omega), if_pos hlen]
      rw [hx] at hnext
      exact hnext
    | false =>
      simp only [e1, e2, e3, e4, e5, if_true, if_false, rd_getD, hlen, Bool.false_eq_true] at hx ⊢
      rw [hx] at hnext
      exact hnext
theorem turned_eq (l : List S23) (b : Bool) (hl : l.length ≤ 1000) (k : Nat) (hk : l.length < k) : boundstonelaw02_turned.f k l b = some (turnL l b) := by
  unfold boundstonelaw02_turned.f
  exact turned_l0 l b hl l.length 0 k [] (by omega) (by omega) hk (by simp)
theorem wrap_negI {x : Int} (h0 : -9223372036854775807 ≤ x) (h1 : x ≤ 9223372036854775807) : wrap64 (-x) = -x := wrap_small (by omega) (by omega)
set_option maxRecDepth 100000 in
theorem law8_in {l : List S23} {p : S23} (h0 : ringOk l = 0) (hp : validP p = true) (k : Nat) (hk : 1000 ≤ k) : boundstonelaw02_PlaneRingsFair.j0 (k + 4) l (areaZ l) false p.f0 p.f1 = some true := by
  obtain ⟨h3, h4, hv⟩ := ringOk_len h0
  have r1 := areaZ_range hv h4
  have r2 := windZ_range (p := p) h4
  have hpos : 0 < l.length := by omega
  simp only [boundstonelaw02_PlaneRingsFair.j0]
  rw [if_neg (by simp), turned_eq l false (by omega) _ (by omega), turned_eq l true (by omega) _ (by omega)]
  simp only [Option.bind_some]
  rw [plane_Area_eq _ _ (by omega), plane_Area_eq _ _ (by omega), plane_Winding_eq _ _ _ (by omega), plane_Winding_eq _ _ _ (by omega)]
  simp only [Option.bind_some]
  rw [AreaP_ok (ringOk_turn false h0), AreaP_ok (ringOk_turn true h0), WindP_ok h0 hp, WindP_ok (ringOk_turn true h0) hp, turn_area hpos, turn_area_back hpos, turn_wind_back p hpos, turn_bord_back hpos hv hp]
  simp only [if_true]
  rw [wrap_negI (by omega) (by omega), Int.neg_neg, if_pos rfl]
  have key : ∀ (w w' e : Int), w = -w' → -200 ≤ w' → w' ≤ 200 → (e = 4 → bordOf p (edgesTo l l.length) = true) → (bordOf p (edgesTo l l.length) = true → e = 4) →
      (bordOf p (edgesTo l l.length) = false → e = 0 ∧ w = windZ l p) →
      boundstonelaw02_PlaneRingsFair.j1 (k + 3) l (areaZ l) w e (w != wrap64 (-w')) p.f0 p.f1 = some true := by
    intro w w' e hw hw1 hw2 hb1 hb2 hb3
    have hz : (w != wrap64 (-w')) = false := by rw [wrap_negI (by omega) (by omega), hw]; simp
    simp only [boundstonelaw02_PlaneRingsFair.j1]
    rw [hz, if_neg (by simp), plane_Simple_eq _ _ (by omega), plane_Where_eq _ _ _ (by omega)]
    simp only [Option.bind_some]
    rw [WhereP_ok h0 hp]
    have hS : SimpP l = (simpleP l, 0) := by unfold SimpP; rw [if_pos h0]
    rw [hS]
    cases hs : simpleP l with
    | false =>
      simp [boundstonelaw02_PlaneRingsFair.j2, sanity_mono (show 100 ≤ k + 1 by omega)]
    | true =>
      have hSP := (simpleP_iff l h3 (by omega)).1 hs
      have hw' := ring_wind h3 hv hp hSP
      have hne : ¬ areaZ l = 0 := by omega
      simp only [boundstonelaw02_PlaneRingsFair.j2, boundstonelaw02_PlaneRingsFair.j3, sanity_mono (show 100 ≤ k by omega), Option.bind_some, if_true, if_false, if_neg hne]
      cases hb : bordOf p (edgesTo l l.length) with
      | true =>
        have := hb2 hb
        subst this
        by_cases ha : areaZ l < 0 <;> simp [ha]
      | false =>
        obtain ⟨rfl, rfl⟩ := hb3 hb
        by_cases ha : areaZ l < 0
        · have : windZ l p = 0 ∨ windZ l p = -1 := by omega
          rcases this with h | h <;> simp [ha, h]
        · have : windZ l p = 0 ∨ windZ l p = 1 := by omega
          rcases this with h | h <;> simp [ha, h]
  cases hb : bordOf p (edgesTo l l.length) with
  | true =>
    rw [hb] at key
    simp only [if_true]
    exact key 0 0 4 rfl (by omega) (by omega) (fun _ => rfl) (fun _ => rfl) (fun h => by cases h)
  | false =>
    rw [hb] at key
    simp only [Bool.false_eq_true, if_false, if_true]
    exact key (windZ l p) (-windZ l p) 0 (by omega) (by omega) (by omega) (fun h => by omega) (fun h => by cases h) (fun _ => ⟨rfl, rfl⟩)
theorem law8 (l : List S23) (p : S23) : boundstonelaw02_PlaneRingsFair.f 1004 l p.f0 p.f1 = some true := by
  unfold boundstonelaw02_PlaneRingsFair.f
  have out : ∀ a, boundstonelaw02_PlaneRingsFair.j0 1004 l a true p.f0 p.f1 = some true := by
    intro a
    simp only [boundstonelaw02_PlaneRingsFair.j0, if_true]
    rw [sanity_mono (by omega)]; rfl
  rw [plane_Area_eq _ _ (by omega)]
  simp only [Option.bind_some]
  by_cases h : (l.length : Int) > 40
  · rw [if_pos h]; exact out _
  · rw [if_neg h]
    by_cases h0 : ringOk l = 0
    · rw [AreaP_ok h0, if_pos rfl, plane_Valid_eq]
      simp only [Option.bind_some]
      cases hp : validP ⟨p.f0, p.f1⟩ with
      | false => exact out _
      | true => exact law8_in h0 hp 1000 (by omega)
    · have : (AreaP l).2 ≠ 0 := by unfold AreaP; rw [if_neg h0]; exact h0
      rw [if_neg this]; exact out _
end Go.Proofs.Ytckaejgamfllfaa.G
end
