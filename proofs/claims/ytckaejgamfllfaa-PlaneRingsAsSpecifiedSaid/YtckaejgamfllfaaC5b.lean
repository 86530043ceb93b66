/- Part 2 of 4. -/
import Derived.Test.YtckaejgamfllfaaC5a
section
namespace Go.Proofs.Ytckaejgamfllfaa.G
open Go.RowKit Go.Proofs.YtckaejgamfllfaaW.PrintWords Go.Proofs.YtckaejgamfllfaaW.PrintLast Go.Proofs.YtckaejgamfllfaaW.PrintMore
attribute [local go_sem] max2_int min2_int max_two min_two max_three min_three max_four min_four
set_option linter.unusedVariables false
set_option linter.unusedSimpArgs false
def boundstoneref02_points.j0 : Nat → List (S23) → Bool → Option (Int)
  | 0, _, _ => none
  | k + 1, x0, x14 => if x14 = true then (some 2) else ((boundstoneref02_valid.f k x0).bind fun t446 => (if t446 = true then (some 0) else (some 1)))
def boundstoneref02_points.f (k : Nat) (l0 : List (S23)) (a1 : Int) : Option (Int) := if (l0.length : Int) < a1 then (boundstoneref02_points.j0 k l0 true) else (boundstoneref02_points.j0 k l0 (decide ((l0.length : Int) > 200)))
set_option maxHeartbeats 8000000 in
set_option maxRecDepth 100000 in
theorem boundstoneref02_points.calls (k : Nat) (A0 : Option Addr) (c0 : Nat) (l0 : List (S23)) (a1 : Int) (r : Int) (w : World) (hr0 : Kd.C k23 w A0 l0.length l0) (hc0 : l0.length ≤ c0) (h : boundstoneref02_points.f k l0 a1 = some r) :
    Calls Try.prog 94 #[.slice A0 l0.length c0, .int .i64 a1] w fun e w' => e = .returned (.int .i64 r) ∧ Below w.heap.size w w' := by
  have HR0 := Aside0.mk hr0
  have HC0 := Aside0.mk hc0
  clear hr0 hc0
  have HB := Aside0.mk (Below.refl w.heap.size w)
  have H : (if (l0.length : Int) < a1 then (boundstoneref02_points.j0 k l0 true) else (boundstoneref02_points.j0 k l0 (decide ((l0.length : Int) > 200)))) = some r := h
  clear h
  have HC3 := Aside0.mk H
  clear H
  go_enter Try.func94, Try.ntmps94
  go_upto_region 1 with (fail)
  go_cut [14] (fun v14 wc => ∃ (kq : Nat) (x14_2 : Bool), v14 = .bool x14_2 ∧ Aside0 (boundstoneref02_points.j0 kq l0 x14_2 = some r) ∧ Aside0 (kq ≤ k) ∧ Aside0 (Below w.heap.size w wc))
  case first =>
    have H := HC3.out
    clear HC3
    by_cases c4 : (l0.length : Int) < a1
    · rw [if_pos c4] at H
      have c4b0 : decide ((l0.length : Int) < a1) = true := decide_eq_true c4
      clear c4
      (first | rw [c4b0] | (simp only [i64_w, i32_w]; rw [c4b0]) | skip)
      have H' := Aside0.mk H
      clear H
      go_wp2
      go_meet
      case rel => exact ⟨_, (true), (by first | rfl | (simp; done) | (simp [*]; done)), H', ⟨by first | omega | exact Nat.le_refl _⟩, ⟨by repeat (first | (with_reducible first | exact HB.out | apply below_alloc | apply pw_below_drewN | apply below_drew1) | exact HB.out)⟩⟩
    · rw [if_neg c4] at H
      have c4b0 : decide ((l0.length : Int) < a1) = false := decide_eq_false c4
      clear c4
      (first | rw [c4b0] | (simp only [i64_w, i32_w]; rw [c4b0]) | skip)
      have H' := Aside0.mk H
      clear H
      go_wp2
      go_meet
      case rel => exact ⟨_, (decide ((l0.length : Int) > 200)), (by first | rfl | (simp; done) | (simp [*]; done)), H', ⟨by first | omega | exact Nat.le_refl _⟩, ⟨by repeat (first | (with_reducible first | exact HB.out | apply below_alloc | apply pw_below_drewN | apply below_drew1) | exact HB.out)⟩⟩
  case rest =>
    clear HC3
    try clear p2
    try clear c4
    try clear c4b0
    obtain ⟨kq, x14_2, rfl, HA, HJ2, HB⟩ := hcut
    cases kq with
    | zero => exact absurd HA.out (by simp [boundstoneref02_points.j0])
    | succ kj2 =>
      have H := HA.out
      clear HA
      simp only [boundstoneref02_points.j0] at H
      by_cases c5 : x14_2 = true
      · subst c5
        have H1 : (some 2) = some r := by rw [if_pos rfl] at H; exact H
        clear H
        have H := H1
        clear H1
        obtain rfl := Option.some.inj H
        go_wp2
        go_ret
        exact ⟨by first | rfl | (simp [errW_none, errW_some] <;> rfl) | (simp [*, errW_none, errW_some] <;> rfl), by repeat (first | (with_reducible first | exact HB.out | apply below_alloc | apply pw_below_drewN | apply below_drew1) | exact HB.out)⟩
      · replace c5 := Bool.eq_false_iff.mpr c5
        subst c5
        have H1 : ((boundstoneref02_valid.f kj2 l0).bind fun t446 => (if t446 = true then (some 0) else (some 1))) = some r := by rw [if_neg (show ¬ (false = true) by decide)] at H; exact H
        clear H
        have H := H1
        clear H1
        replace H := Option.bind_eq_some_iff.mp H
        obtain ⟨t446, A60, H⟩ := H
        replace H : (if t446 = true then (some 0) else (some 1)) = some r := H
        have A6 := Aside0.mk A60
        clear A60
        by_cases c7 : t446 = true
        · subst c7
          have H1 : (some 0) = some r := by rw [if_pos rfl] at H; exact H
          clear H
          have H := H1
          clear H1
          obtain rfl := Option.some.inj H
          go_wp2_with (first | ((with_reducible refine gate_callee (f := 81) rfl ?_); refine goesL_ (some 16) rfl rfl Try.func81 (by kernel_rfl) rfl #[.slice A0 l0.length c0] rfl (by (try simp only [List.map_toArray, List.map_cons, List.map_nil]); first | done | rfl | (simp only [List.length_drop, List.length_take]; rfl)) ?_; (with_reducible refine (boundstoneref02_valid.calls kj2 _ _ l0 true _ ?side1 ?side2 A6.out).mono ?_); (case side1 => repeat (first | exact (Kd.C_below HR0.out HB.out) | (with_reducible refine Kd.C_alloc ?_ _) | (with_reducible refine Kd.C_drewN ?_ _) | (with_reducible refine Kd.C_drew ?_))); (case side2 => exact HC0.out); rintro e w8 ⟨rfl, hb⟩; refine ⟨_, rfl, ?_⟩; have n0_ := Aside0.mk (below_step (by repeat (first | (with_reducible first | exact HB.out | apply below_alloc | apply pw_below_drewN | apply below_drew1) | exact HB.out)) hb); clear HB; have HB := n0_; clear n0_; (try clear hb); (try clear hb2); (try clear hk); (try clear hi)))
          go_ret
          exact ⟨by first | rfl | (simp [errW_none, errW_some] <;> rfl) | (simp [*, errW_none, errW_some] <;> rfl), by repeat (first | (with_reducible first | exact HB.out | apply below_alloc | apply pw_below_drewN | apply below_drew1) | exact HB.out)⟩
        · replace c7 := Bool.eq_false_iff.mpr c7
          subst c7
          have H1 : (some 1) = some r := by rw [if_neg (show ¬ (false = true) by decide)] at H; exact H
          clear H
          have H := H1
          clear H1
          obtain rfl := Option.some.inj H
          go_wp2_with (first | ((with_reducible refine gate_callee (f := 81) rfl ?_); refine goesL_ (some 16) rfl rfl Try.func81 (by kernel_rfl) rfl #[.slice A0 l0.length c0] rfl (by (try simp only [List.map_toArray, List.map_cons, List.map_nil]); first | done | rfl | (simp only [List.length_drop, List.length_take]; rfl)) ?_; (with_reducible refine (boundstoneref02_valid.calls kj2 _ _ l0 false _ ?side1 ?side2 A6.out).mono ?_); (case side1 => repeat (first | exact (Kd.C_below HR0.out HB.out) | (with_reducible refine Kd.C_alloc ?_ _) | (with_reducible refine Kd.C_drewN ?_ _) | (with_reducible refine Kd.C_drew ?_))); (case side2 => exact HC0.out); rintro e w9 ⟨rfl, hb⟩; refine ⟨_, rfl, ?_⟩; have n0_ := Aside0.mk (below_step (by repeat (first | (with_reducible first | exact HB.out | apply below_alloc | apply pw_below_drewN | apply below_drew1) | exact HB.out)) hb); clear HB; have HB := n0_; clear n0_; (try clear hb); (try clear hb2); (try clear hk); (try clear hi)))
          go_ret
          exact ⟨by first | rfl | (simp [errW_none, errW_some] <;> rfl) | (simp [*, errW_none, errW_some] <;> rfl), by repeat (first | (with_reducible first | exact HB.out | apply below_alloc | apply pw_below_drewN | apply below_drew1) | exact HB.out)⟩
end Go.Proofs.Ytckaejgamfllfaa.G
end

section
namespace Go.Proofs.Ytckaejgamfllfaa.G
open Go.RowKit Go.Proofs.YtckaejgamfllfaaW.PrintWords Go.Proofs.YtckaejgamfllfaaW.PrintLast Go.Proofs.YtckaejgamfllfaaW.PrintMore
attribute [local go_sem] max2_int min2_int max_two min_two max_three min_three max_four min_four
set_option linter.unusedVariables false
set_option linter.unusedSimpArgs false
def boundstoneref02_Area.l0 : Nat → List (S23) → Int → Int → Option (Int × Int)
  | 0, _, _, _ => none
  | k + 1, x0, x5, x6 => if x6 < (x0.length : Int) then (if 0 ≤ x6 then (if (x0.length : Int) = 0 then (none) else (if 0 ≤ (Int.tmod (wrap64 (x6 + 1)) (x0.length : Int)) then (if (Int.tmod (wrap64 (x6 + 1)) (x0.length : Int)) < (x0.length : Int) then (boundstoneref02_Area.l0 k x0 (wrap64 ((wrap64 (x5 + (wrap64 (((rd_T23 x0 x6).f0) * ((rd_T23 x0 (Int.tmod (wrap64 (x6 + 1)) (x0.length : Int))).f1))))) - (wrap64 (((rd_T23 x0 (Int.tmod (wrap64 (x6 + 1)) (x0.length : Int))).f0) * ((rd_T23 x0 x6).f1))))) (wrap64 (x6 + 1))) else (none)) else (none))) else (none)) else (some (x5, 0))
def boundstoneref02_Area.f (k : Nat) (l0 : List (S23)) : Option (Int × Int) := (boundstoneref02_points.f k l0 3).bind fun t447 => (if t447 = 0 then (boundstoneref02_Area.l0 k l0 0 0) else (some (0, t447)))
set_option maxHeartbeats 8000000 in
set_option maxRecDepth 100000 in
theorem boundstoneref02_Area.calls (k : Nat) (A0 : Option Addr) (c0 : Nat) (l0 : List (S23)) (r1 : Int) (r2 : Int) (w : World) (hr0 : Kd.C k23 w A0 l0.length l0) (hc0 : l0.length ≤ c0) (h : boundstoneref02_Area.f k l0 = some (r1, r2)) :
    Calls Try.prog 32 #[.slice A0 l0.length c0] w fun e w' => e = .returned (.tuple #[.int .i64 r1, .int .i64 r2]) ∧ Below w.heap.size w w' := by
  have hu23 := Try.underlying23
  have HR0 := Aside0.mk hr0
  have HC0 := Aside0.mk hc0
  clear hr0 hc0
  have HB := Aside0.mk (Below.refl w.heap.size w)
  have H : ((boundstoneref02_points.f k l0 3).bind fun t447 => (if t447 = 0 then (boundstoneref02_Area.l0 k l0 0 0) else (some (0, t447)))) = some (r1, r2) := h
  clear h
  replace H := Option.bind_eq_some_iff.mp H
  obtain ⟨t447, A20, H⟩ := H
  replace H : (if t447 = 0 then (boundstoneref02_Area.l0 k l0 0 0) else (some (0, t447))) = some (r1, r2) := H
  have A2 := Aside0.mk A20
  clear A20
  by_cases c3 : t447 = 0
  · rw [if_pos c3] at H
    have c3b0 : (t447 == 0) = true := beq_iff_eq.mpr c3
    have c3b1 : (t447 != 0) = false := bne_eq_false_iff_eq.mpr c3
    clear c3
    have H' := Aside0.mk H
    clear H
    go_enter Try.func32, Try.ntmps32
    go_wp2_with (first | ((with_reducible refine gate_callee (f := 94) rfl ?_); refine goesL_ (some 10) rfl rfl Try.func94 (by kernel_rfl) rfl #[.slice A0 l0.length c0, .int .i64 3] rfl (by (try simp only [List.map_toArray, List.map_cons, List.map_nil]); first | done | rfl | (simp only [List.length_drop, List.length_take]; rfl)) ?_; (with_reducible refine (boundstoneref02_points.calls k _ _ l0 3 t447 _ ?side1 ?side2 A2.out).mono ?_); (case side1 => repeat (first | exact HR0.out | (with_reducible refine Kd.C_alloc ?_ _) | (with_reducible refine Kd.C_drewN ?_ _) | (with_reducible refine Kd.C_drew ?_))); (case side2 => exact HC0.out); rintro e w4 ⟨rfl, hb⟩; refine ⟨_, rfl, ?_⟩; have n0_ := Aside0.mk (below_step (by repeat (first | (with_reducible first | exact HB.out | apply below_alloc | apply pw_below_drewN | apply below_drew1) | exact HB.out)) hb); clear HB; have HB := n0_; clear n0_; (try clear hb); (try clear hb2); (try clear hk); (try clear hi)))
    go_loopg [5, 6] k (fun kq v5 v6 w' => ∃ (x5_1 : Int) (x6_1 : Int), v5 = .int .i64 x5_1 ∧ v6 = .int .i64 x6_1 ∧ Aside0 (boundstoneref02_Area.l0 kq l0 x5_1 x6_1 = some (r1, r2)) ∧ Aside0 (kq ≤ k) ∧ Aside0 (Below w.heap.size w w'))
    case atStart => exact ⟨(0), (0), (by first | rfl | (simp; done) | (simp [*]; done)), (by first | rfl | (simp; done) | (simp [*]; done)), H', ⟨Nat.le_refl _⟩, ⟨by repeat (first | (with_reducible first | exact HB.out | apply below_alloc | apply pw_below_drewN | apply below_drew1) | exact HB.out)⟩⟩
    case round =>
      clear H'
      try clear p2
      try clear c3
      try clear c3b0
      try clear c3b1
      obtain ⟨x5_1, x6_1, rfl, rfl, HA, HK1, HB⟩ := hrel
      cases gk with
      | zero => exact absurd HA.out (by simp [boundstoneref02_Area.l0])
      | succ k1 =>
        have H := HA.out
        clear HA
        simp only [boundstoneref02_Area.l0] at H
        by_cases c5 : x6_1 < (l0.length : Int)
        · rw [if_pos c5] at H
          have c5b0 : decide (x6_1 < (l0.length : Int)) = true := decide_eq_true c5
          clear c5
          by_cases c6 : 0 ≤ x6_1
          · rw [if_pos c6] at H
            have c6b0 : decide (0 ≤ x6_1) = true := decide_eq_true c6
            clear c6
            by_cases c7 : (l0.length : Int) = 0
            · rw [if_pos c7] at H
              exact absurd H (by simp)
            · rw [if_neg c7] at H
              have c7b0 : ((l0.length : Int) == 0) = false := beq_eq_false_iff_ne.mpr c7
              have c7b1 : ((l0.length : Int) != 0) = true := bne_iff_ne.mpr c7
              have c7b2 : ¬ (l0 = []) := fun h_ => c7 (by rw [h_]; rfl)
              obtain ⟨ji8, hji8⟩ : ∃ j_ : Int, (Int.tmod (wrap64 (x6_1 + 1)) (l0.length : Int)) = j_ := ⟨_, rfl⟩
              replace H : (if 0 ≤ (ji8) then (if (ji8) < (l0.length : Int) then (boundstoneref02_Area.l0 k1 l0 (wrap64 ((wrap64 (x5_1 + (wrap64 (((rd_T23 l0 x6_1).f0) * ((rd_T23 l0 (ji8)).f1))))) - (wrap64 (((rd_T23 l0 (ji8)).f0) * ((rd_T23 l0 x6_1).f1))))) (wrap64 (x6_1 + 1))) else (none)) else (none)) = some (r1, r2) := by first | (rw [hji8] at H; exact H) | (simp only [hji8] at H ⊢; exact H)
              by_cases c9 : 0 ≤ (ji8)
              · rw [if_pos c9] at H
                have c9b0 : decide (0 ≤ (ji8)) = true := decide_eq_true c9
                clear c9
                by_cases c10 : (ji8) < (l0.length : Int)
                · rw [if_pos c10] at H
                  have c10b0 : decide ((ji8) < (l0.length : Int)) = true := decide_eq_true c10
                  clear c10
                  have H' := Aside0.mk H
                  clear H
                  have p448 : 0 ≤ (x6_1 : Int) := of_decide_eq_true (by first | (with_reducible assumption) | assumption)
                  have q448 : x6_1 < (l0.length : Int) := of_decide_eq_true (by first | (with_reducible assumption) | assumption)
                  obtain ⟨ad448, e448, hx448_0, hx448_1⟩ := at_T23 HR0.out x6_1 p448 q448
                  cases e448
                  replace hx448_0 := (HB.out.cell (World.block_lt_of_cell? w _ hx448_0)).trans hx448_0
                  replace hx448_1 := (HB.out.cell (World.block_lt_of_cell? w _ hx448_1)).trans hx448_1
                  replace p448 := eq_true p448
                  replace q448 := eq_true q448
                  go_wp2_with (first | ((with_reducible refine gate_dst (N := 7) rfl ?_); refine box_event ?hg (N := 7) ?hd (cs := #[.int .i64 0, .int .i64 0]) (t := 23) ?hr ?_; (case hd => rfl); (case hg => rfl); (case hr => first | (go_simp; done) | (go_simp; rfl)); intro gb449 hg w11 hbox hb; have n0_ := Aside0.mk (below_step (by repeat (first | (with_reducible first | exact HB.out | apply below_alloc | apply pw_below_drewN | apply below_drew1) | exact HB.out)) hb); have n1_ := Aside0.mk (hbox); have n2_ := Aside0.mk ((by rw [hg]; exact (below_size (by repeat (first | (with_reducible first | exact HB.out | apply below_alloc | apply pw_below_drewN | apply below_drew1) | exact HB.out))) : w.heap.size ≤ gb449)); have n3_ := Aside0.mk ((by rw [hg]; exact (below_size (by repeat (first | (with_reducible first | exact HB.out | apply below_alloc | apply pw_below_drewN | apply below_drew1) | exact HB.out))) : w.heap.size ≤ gb449)); clear HB; have HB := n0_; have BK449 := n1_; have GW449 := n2_; have GE449 := n3_; clear n0_ n1_ n2_ n3_; clear hb hbox hg; have hcz12_0 : w11.cell? ⟨gb449, 0, none⟩ = some (.int .i64 0) := (blk_cell BK449.out 0).trans rfl; have hcz12_1 : w11.cell? ⟨gb449, 1, none⟩ = some (.int .i64 0) := (blk_cell BK449.out 1).trans rfl; have hfz12_0 := blk_frozen BK449.out 0; have hfz12_1 := blk_frozen BK449.out 1; have p450 : 0 ≤ ((ji8) : Int) := of_decide_eq_true (by first | (with_reducible assumption) | assumption); have q450 : (ji8) < (l0.length : Int) := of_decide_eq_true (by first | (with_reducible assumption) | assumption); obtain ⟨ad450, e450, hx450_0, hx450_1⟩ := at_T23 HR0.out (ji8) p450 q450; obtain rfl : ad448 = ad450 := (by injection e450); have hn450_0 : ad448.block ≠ gb449 := Nat.ne_of_lt (Nat.lt_of_lt_of_le (by have := World.block_lt_of_cell? _ _ hx450_0; first | rwa [add_block] at this | exact this) GW449.out); have hn450_1 : ad448.block ≠ gb449 := Nat.ne_of_lt (Nat.lt_of_lt_of_le (by have := World.block_lt_of_cell? _ _ hx450_0; first | rwa [add_block] at this | exact this) GW449.out); replace hx450_0 := (HB.out.cell (World.block_lt_of_cell? w _ hx450_0)).trans hx450_0; replace hx450_1 := (HB.out.cell (World.block_lt_of_cell? w _ hx450_1)).trans hx450_1; replace hx450_0 := (cell_far (p := ⟨gb449, 0, none⟩) (by first | (rw [add_block]; exact hn450_0) | (show (Addr.add _ _).block ≠ _; rw [add_block]; exact hn450_0) | exact hn450_0) (.int .i64 ((rd_T23 l0 x6_1).f0))).trans hx450_0; replace hx450_1 := (cell_far (p := ⟨gb449, 0, none⟩) (by first | (rw [add_block]; exact hn450_0) | (show (Addr.add _ _).block ≠ _; rw [add_block]; exact hn450_0) | exact hn450_0) (.int .i64 ((rd_T23 l0 x6_1).f0))).trans hx450_1; replace hx450_0 := (cell_far (p := ⟨gb449, 1, none⟩) (by first | (rw [add_block]; exact hn450_1) | (show (Addr.add _ _).block ≠ _; rw [add_block]; exact hn450_1) | exact hn450_1) (.int .i64 ((rd_T23 l0 x6_1).f1))).trans hx450_0; replace hx450_1 := (cell_far (p := ⟨gb449, 1, none⟩) (by first | (rw [add_block]; exact hn450_1) | (show (Addr.add _ _).block ≠ _; rw [add_block]; exact hn450_1) | exact hn450_1) (.int .i64 ((rd_T23 l0 x6_1).f1))).trans hx450_1; clear hn450_0; clear hn450_1; replace p450 := eq_true p450; replace q450 := eq_true q450) | ((with_reducible refine gate_dst (N := 8) rfl ?_); refine box_event ?hg (N := 8) ?hd (cs := #[.int .i64 0, .int .i64 0]) (t := 23) ?hr ?_; (case hd => rfl); (case hg => rfl); (case hr => first | (go_simp; done) | (go_simp; rfl)); intro gb451 hg w13 hbox hb; have n0_ := Aside0.mk (blk_below (g := gb449) (o := .cells #[.int .i64 ((rd_T23 l0 x6_1).f0), .int .i64 ((rd_T23 l0 x6_1).f1)] 23 (0, 0)) (by (with_reducible repeat (first | refine blk_drewN ?_ _ | refine blk_drew ?_ | refine blk_alloc ?_ _)); refine blk_put (cs := #[.int .i64 ((rd_T23 l0 x6_1).f0), .int .i64 0]) ?_ 1 _ rfl; (with_reducible repeat (first | refine blk_drewN ?_ _ | refine blk_drew ?_ | refine blk_alloc ?_ _)); refine blk_put (cs := #[.int .i64 0, .int .i64 0]) ?_ 0 _ rfl; (with_reducible repeat (first | refine blk_drewN ?_ _ | refine blk_drew ?_ | refine blk_alloc ?_ _)); exact BK449.out) hb); have n1_ := Aside0.mk (below_step (by repeat (first | (with_reducible first | exact HB.out | apply below_alloc | apply pw_below_drewN | apply below_drew1 | refine below_set ?_ GE449.out) | exact HB.out)) hb); have n2_ := Aside0.mk (hbox); have n3_ := Aside0.mk ((by rw [hg]; exact (below_size (by repeat (first | (with_reducible first | exact HB.out | apply below_alloc | apply pw_below_drewN | apply below_drew1 | refine below_set ?_ GE449.out) | exact HB.out))) : w.heap.size ≤ gb451)); have n4_ := Aside0.mk ((by rw [hg]; exact (below_size (by repeat (first | (with_reducible first | exact HB.out | apply below_alloc | apply pw_below_drewN | apply below_drew1 | refine below_set ?_ GE449.out) | exact HB.out))) : w.heap.size ≤ gb451)); have n5_ := Aside0.mk ((by rw [hg]; exact Nat.ne_of_lt (blk_lt (g := gb449) (o := .cells #[.int .i64 ((rd_T23 l0 x6_1).f0), .int .i64 ((rd_T23 l0 x6_1).f1)] 23 (0, 0)) (by (with_reducible repeat (first | refine blk_drewN ?_ _ | refine blk_drew ?_ | refine blk_alloc ?_ _)); refine blk_put (cs := #[.int .i64 ((rd_T23 l0 x6_1).f0), .int .i64 0]) ?_ 1 _ rfl; (with_reducible repeat (first | refine blk_drewN ?_ _ | refine blk_drew ?_ | refine blk_alloc ?_ _)); refine blk_put (cs := #[.int .i64 0, .int .i64 0]) ?_ 0 _ rfl; (with_reducible repeat (first | refine blk_drewN ?_ _ | refine blk_drew ?_ | refine blk_alloc ?_ _)); exact BK449.out)) : gb449 ≠ gb451)); have n6_ := Aside0.mk ((by rw [hg]; exact Nat.ne_of_gt (blk_lt (g := gb449) (o := .cells #[.int .i64 ((rd_T23 l0 x6_1).f0), .int .i64 ((rd_T23 l0 x6_1).f1)] 23 (0, 0)) (by (with_reducible repeat (first | refine blk_drewN ?_ _ | refine blk_drew ?_ | refine blk_alloc ?_ _)); refine blk_put (cs := #[.int .i64 ((rd_T23 l0 x6_1).f0), .int .i64 0]) ?_ 1 _ rfl; (with_reducible repeat (first | refine blk_drewN ?_ _ | refine blk_drew ?_ | refine blk_alloc ?_ _)); refine blk_put (cs := #[.int .i64 0, .int .i64 0]) ?_ 0 _ rfl; (with_reducible repeat (first | refine blk_drewN ?_ _ | refine blk_drew ?_ | refine blk_alloc ?_ _)); exact BK449.out)) : gb451 ≠ gb449)); clear BK449; clear HB; have BK449 := n0_; have HB := n1_; have BK451 := n2_; have GW451 := n3_; have GE451 := n4_; have NB449_451 := n5_; have NB451_449 := n6_; clear n0_ n1_ n2_ n3_ n4_ n5_ n6_; clear hb hbox hg; have hnb14 := NB451_449.out; have hnc14 := NB449_451.out; have hcz15_0 : w13.cell? ⟨gb451, 0, none⟩ = some (.int .i64 0) := (blk_cell BK451.out 0).trans rfl; have hcz15_1 : w13.cell? ⟨gb451, 1, none⟩ = some (.int .i64 0) := (blk_cell BK451.out 1).trans rfl; have hfz15_0 := blk_frozen BK451.out 0; have hfz15_1 := blk_frozen BK451.out 1; have hcz16_0 : w13.cell? ⟨gb449, 0, none⟩ = some (.int .i64 ((rd_T23 l0 x6_1).f0)) := (blk_cell BK449.out 0).trans rfl; have hcz16_1 : w13.cell? ⟨gb449, 1, none⟩ = some (.int .i64 ((rd_T23 l0 x6_1).f1)) := (blk_cell BK449.out 1).trans rfl; have hfz16_0 := blk_frozen BK449.out 0; have hfz16_1 := blk_frozen BK449.out 1))
                  go_roundg k1
                  case measure => have := HK1.out; omega
                  case rel => exact ⟨(wrap64 ((wrap64 (x5_1 + (wrap64 (((rd_T23 l0 x6_1).f0) * ((rd_T23 l0 (ji8)).f1))))) - (wrap64 (((rd_T23 l0 (ji8)).f0) * ((rd_T23 l0 x6_1).f1))))), (wrap64 (x6_1 + 1)), (by first | rfl | (simp; done) | (simp only [← hji8] <;> (first | rfl | simp)) | (simp [*]; done)), (by first | rfl | (simp; done) | (simp [*]; done)), H', ⟨by have := HK1.out; omega⟩, ⟨by repeat (first | (with_reducible first | exact HB.out | apply below_alloc | apply pw_below_drewN | apply below_drew1 | refine below_set ?_ GE449.out | refine below_set ?_ GE451.out) | exact HB.out)⟩⟩
                · rw [if_neg c10] at H
                  exact absurd H (by simp)
              · rw [if_neg c9] at H
                exact absurd H (by simp)
          · rw [if_neg c6] at H
            exact absurd H (by simp)
        · rw [if_neg c5] at H
          have c5b0 : decide (x6_1 < (l0.length : Int)) = false := decide_eq_false c5
          clear c5
          simp only [Option.some.injEq, Prod.mk.injEq] at H
          obtain ⟨rfl, rfl⟩ := H
          go_wp2
          go_ret2
          exact ⟨by first | rfl | (simp [errW_none, errW_some] <;> rfl) | (simp [*, errW_none, errW_some] <;> rfl), by repeat (first | (with_reducible first | exact HB.out | apply below_alloc | apply pw_below_drewN | apply below_drew1) | exact HB.out)⟩
  · rw [if_neg c3] at H
    have c3b0 : (t447 == 0) = false := beq_eq_false_iff_ne.mpr c3
    have c3b1 : (t447 != 0) = true := bne_iff_ne.mpr c3
    simp only [Option.some.injEq, Prod.mk.injEq] at H
    obtain ⟨rfl, rfl⟩ := H
    go_enter Try.func32, Try.ntmps32
    go_wp2_with (first | ((with_reducible refine gate_callee (f := 94) rfl ?_); refine goesL_ (some 10) rfl rfl Try.func94 (by kernel_rfl) rfl #[.slice A0 l0.length c0, .int .i64 3] rfl (by (try simp only [List.map_toArray, List.map_cons, List.map_nil]); first | done | rfl | (simp only [List.length_drop, List.length_take]; rfl)) ?_; (with_reducible refine (boundstoneref02_points.calls k _ _ l0 3 t447 _ ?side1 ?side2 A2.out).mono ?_); (case side1 => repeat (first | exact HR0.out | (with_reducible refine Kd.C_alloc ?_ _) | (with_reducible refine Kd.C_drewN ?_ _) | (with_reducible refine Kd.C_drew ?_))); (case side2 => exact HC0.out); rintro e w17 ⟨rfl, hb⟩; refine ⟨_, rfl, ?_⟩; have n0_ := Aside0.mk (below_step (by repeat (first | (with_reducible first | exact HB.out | apply below_alloc | apply pw_below_drewN | apply below_drew1) | exact HB.out)) hb); clear HB; have HB := n0_; clear n0_; (try clear hb); (try clear hb2); (try clear hk); (try clear hi)))
    go_ret2
    exact ⟨by first | rfl | (simp [errW_none, errW_some] <;> rfl) | (simp [*, errW_none, errW_some] <;> rfl), by repeat (first | (with_reducible first | exact HB.out | apply below_alloc | apply pw_below_drewN | apply below_drew1) | exact HB.out)⟩
end Go.Proofs.Ytckaejgamfllfaa.G
end

section
namespace Go.Proofs.Ytckaejgamfllfaa.G
open Go.RowKit Go.Proofs.YtckaejgamfllfaaW.PrintWords Go.Proofs.YtckaejgamfllfaaW.PrintLast Go.Proofs.YtckaejgamfllfaaW.PrintMore
attribute [local go_sem] max2_int min2_int max_two min_two max_three min_three max_four min_four
set_option linter.unusedVariables false
set_option linter.unusedSimpArgs false
attribute [local go_sem high] eqA23
mutual
def boundstoneref02_simple.l0 : Nat → List (S23) → Int → Int → Option (Bool)
  | 0, _, _, _ => none
  | k + 1, x0, x3, x4 => if x4 < x3 then (if 0 ≤ x4 then (if x4 < (x0.length : Int) then (if x3 = 0 then (none) else (if 0 ≤ (Int.tmod (wrap64 (x4 + 1)) x3) then (if (Int.tmod (wrap64 (x4 + 1)) x3) < (x0.length : Int) then (if (((rd_T23 x0 x4).f0) == ((rd_T23 x0 (Int.tmod (wrap64 (x4 + 1)) x3)).f0) && (((rd_T23 x0 x4).f1) == ((rd_T23 x0 (Int.tmod (wrap64 (x4 + 1)) x3)).f1))) = true then (some false) else (boundstoneref02_simple.l0 k x0 x3 (wrap64 (x4 + 1)))) else (none)) else (none))) else (none)) else (none)) else (boundstoneref02_simple.l1 k x0 x3 0)
def boundstoneref02_simple.l1 : Nat → List (S23) → Int → Int → Option (Bool)
  | 0, _, _, _ => none
  | k + 1, x0, x3, x5 => if x5 < x3 then (boundstoneref02_simple.l2 k x0 x3 x5 0) else (some true)
def boundstoneref02_simple.l2 : Nat → List (S23) → Int → Int → Int → Option (Bool)
  | 0, _, _, _, _ => none
  | k + 1, x0, x3, x5, x6 => if x6 < x5 then (if 0 ≤ x5 then (if x5 < (x0.length : Int) then (if x3 = 0 then (none) else (if 0 ≤ (Int.tmod (wrap64 (x5 + 1)) x3) then (if (Int.tmod (wrap64 (x5 + 1)) x3) < (x0.length : Int) then (if 0 ≤ x6 then (if x6 < (x0.length : Int) then (if 0 ≤ (Int.tmod (wrap64 (x6 + 1)) x3) then (if (Int.tmod (wrap64 (x6 + 1)) x3) < (x0.length : Int) then ((boundstoneref02_Meeting.f k ((rd_T23 x0 x5).f0) ((rd_T23 x0 x5).f1) ((rd_T23 x0 (Int.tmod (wrap64 (x5 + 1)) x3)).f0) ((rd_T23 x0 (Int.tmod (wrap64 (x5 + 1)) x3)).f1) ((rd_T23 x0 x6).f0) ((rd_T23 x0 x6).f1) ((rd_T23 x0 (Int.tmod (wrap64 (x6 + 1)) x3)).f0) ((rd_T23 x0 (Int.tmod (wrap64 (x6 + 1)) x3)).f1)).bind fun t458 => (if (wrap64 (x6 + 1)) = x5 then (boundstoneref02_simple.j3 k x0 x3 x5 x6 t458 true) else (if (wrap64 (x5 + 1)) = x3 then (boundstoneref02_simple.j3 k x0 x3 x5 x6 t458 (x6 == 0)) else (boundstoneref02_simple.j3 k x0 x3 x5 x6 t458 false)))) else (none)) else (none)) else (none)) else (none)) else (none)) else (none))) else (none)) else (none)) else (boundstoneref02_simple.l1 k x0 x3 (wrap64 (x5 + 1)))
def boundstoneref02_simple.j3 : Nat → List (S23) → Int → Int → Int → Int → Bool → Option (Bool)
  | 0, _, _, _, _, _, _ => none
  | k + 1, x0, x3, x5, x6, x7, x8 => if x8 = true then (if x7 = 1 then (boundstoneref02_simple.j4 k x0 x3 x5 x6 false) else (boundstoneref02_simple.j4 k x0 x3 x5 x6 true)) else (boundstoneref02_simple.j4 k x0 x3 x5 x6 (x7 != 0))
def boundstoneref02_simple.j4 : Nat → List (S23) → Int → Int → Int → Bool → Option (Bool)
  | 0, _, _, _, _, _ => none
  | k + 1, x0, x3, x5, x6, x89 => if x89 = true then (some false) else (boundstoneref02_simple.l2 k x0 x3 x5 (wrap64 (x6 + 1)))
end
def boundstoneref02_simple.f (k : Nat) (l0 : List (S23)) : Option (Bool) := boundstoneref02_simple.l0 k l0 (l0.length : Int) 0
def boundstoneref02_simple.T5 : Bool × List (List Nat × List Nat) := (true, [([], []), ([], []), ([0, 1], [0, 1]), ([2], [2]), ([], []), ([], []), ([5], [5]), ([], []), ([6, 7], [6, 7]), ([4, 8], [4, 8]), ([9], [9]), ([3, 10], [3, 10])])
def boundstoneref02_simple.B5 : List Nat := [0, 0, 3, 7, 0, 0, 32, 0, 224, 496, 1008, 2047]
theorem boundstoneref02_simple.tab5 : rtab .any (opsOf Try.f96 5) = boundstoneref02_simple.T5 := by kernel_rfl
theorem boundstoneref02_simple.bits5 : waitsOk boundstoneref02_simple.T5.2 boundstoneref02_simple.B5 = true := by kernel_rfl
def boundstoneref02_simple.T13 : Bool × List (List Nat × List Nat) := (true, [([], []), ([], []), ([0, 1], [0, 1]), ([2], [2]), ([], []), ([], []), ([5], [5]), ([], []), ([6, 7], [6, 7]), ([4, 8], [4, 8]), ([9], [9]), ([3, 10], [3, 10]), ([], []), ([], []), ([12, 13], [12, 13]), ([14], [14]), ([], []), ([], []), ([17], [17]), ([], []), ([18, 19], [18, 19]), ([16, 20], [16, 20]), ([21], [21]), ([15, 22], [15, 22]), ([11, 23], [11, 23]), ([24, 24, 0, 1, 2, 3, 4, 5, 6, 7, 8, 9, 10, 11, 12, 13, 14, 15, 16, 17, 18, 19, 20, 21, 22, 23, 24], [24])])
def boundstoneref02_simple.B13 : List Nat := [0, 0, 3, 7, 0, 0, 32, 0, 224, 496, 1008, 2047, 0, 0, 12288, 28672, 0, 0, 131072, 0, 917504, 2031616, 4128768, 8384512, 16777215, 33554431]
theorem boundstoneref02_simple.tab13 : rtab .any (opsOf Try.f96 13) = boundstoneref02_simple.T13 := by kernel_rfl
theorem boundstoneref02_simple.bits13 : waitsOk boundstoneref02_simple.T13.2 boundstoneref02_simple.B13 = true := by kernel_rfl
set_option maxHeartbeats 8000000 in
set_option maxRecDepth 100000 in
theorem boundstoneref02_simple.calls (k : Nat) (A0 : Option Addr) (c0 : Nat) (l0 : List (S23)) (r : Bool) (w : World) (hr0 : Kd.C k23 w A0 l0.length l0) (hc0 : l0.length ≤ c0) (h : boundstoneref02_simple.f k l0 = some r) :
    Calls Try.prog 96 #[.slice A0 l0.length c0] w fun e w' => e = .returned (.bool r) ∧ Below w.heap.size w w' := by
  have hu23 := Try.underlying23
  have hu34 := Try.underlying34
  have HR0 := Aside0.mk hr0
  have HC0 := Aside0.mk hc0
  clear hr0 hc0
  have HB := Aside0.mk (Below.refl w.heap.size w)
  have H : (boundstoneref02_simple.l0 k l0 (l0.length : Int) 0) = some r := h
  clear h
  have H' := Aside0.mk H
  clear H
  go_enter Try.func96, Try.ntmps96
  go_wp2
  go_loopg [4] k (fun kq v4 w' => ∃ (x4_1 : Int), v4 = .int .i64 x4_1 ∧ Aside0 (boundstoneref02_simple.l0 kq l0 (l0.length : Int) x4_1 = some r) ∧ Aside0 (kq ≤ k) ∧ Aside0 (Below w.heap.size w w'))
  case atStart => exact ⟨(0), (by first | rfl | (simp; done) | (simp [*]; done)), H', ⟨Nat.le_refl _⟩, ⟨by repeat (first | (with_reducible first | exact HB.out | apply below_alloc | apply pw_below_drewN | apply below_drew1) | exact HB.out)⟩⟩
  case round =>
    clear H'
    obtain ⟨x4_1, rfl, HA, HK1, HB⟩ := hrel
    cases gk with
    | zero => exact absurd HA.out (by simp [boundstoneref02_simple.l0])
    | succ k1 =>
      have H := HA.out
      clear HA
      simp only [boundstoneref02_simple.l0] at H
      by_cases c2 : x4_1 < (l0.length : Int)
      · rw [if_pos c2] at H
        have c2b0 : decide (x4_1 < (l0.length : Int)) = true := decide_eq_true c2
        clear c2
        by_cases c3 : 0 ≤ x4_1
        · rw [if_pos c3] at H
          have c3b0 : decide (0 ≤ x4_1) = true := decide_eq_true c3
          clear c3
          by_cases c4 : x4_1 < (l0.length : Int)
          · rw [if_pos c4] at H
            have c4b0 : decide (x4_1 < (l0.length : Int)) = true := decide_eq_true c4
            clear c4
            by_cases c5 : (l0.length : Int) = 0
            · rw [if_pos c5] at H
              exact absurd H (by simp)
            · rw [if_neg c5] at H
              have c5b0 : ((l0.length : Int) == 0) = false := beq_eq_false_iff_ne.mpr c5
              have c5b1 : ((l0.length : Int) != 0) = true := bne_iff_ne.mpr c5
              have c5b2 : ¬ (l0 = []) := fun h_ => c5 (by rw [h_]; rfl)
              obtain ⟨ji6, hji6⟩ : ∃ j_ : Int, (Int.tmod (wrap64 (x4_1 + 1)) (l0.length : Int)) = j_ := ⟨_, rfl⟩
              replace H : (if 0 ≤ (ji6) then (if (ji6) < (l0.length : Int) then (if (((rd_T23 l0 x4_1).f0) == ((rd_T23 l0 (ji6)).f0) && (((rd_T23 l0 x4_1).f1) == ((rd_T23 l0 (ji6)).f1))) = true then (some false) else (boundstoneref02_simple.l0 k1 l0 (l0.length : Int) (wrap64 (x4_1 + 1)))) else (none)) else (none)) = some r := by first | (rw [hji6] at H; exact H) | (simp only [hji6] at H ⊢; exact H)
              by_cases c7 : 0 ≤ (ji6)
              · rw [if_pos c7] at H
                have c7b0 : decide (0 ≤ (ji6)) = true := decide_eq_true c7
                clear c7
                by_cases c8 : (ji6) < (l0.length : Int)
                · rw [if_pos c8] at H
                  have c8b0 : decide ((ji6) < (l0.length : Int)) = true := decide_eq_true c8
                  clear c8
                  by_cases c9 : (((rd_T23 l0 x4_1).f0) == ((rd_T23 l0 (ji6)).f0) && (((rd_T23 l0 x4_1).f1) == ((rd_T23 l0 (ji6)).f1))) = true
                  · rw [if_pos c9] at H
                    have c9b0 : (((rd_T23 l0 x4_1).f0) == ((rd_T23 l0 (ji6)).f0) && (((rd_T23 l0 x4_1).f1) == ((rd_T23 l0 (ji6)).f1))) = true := c9
                    (try (have c9b1 : decide (((rd_T23 l0 x4_1).f0) = ((rd_T23 l0 (ji6)).f0) && (((rd_T23 l0 x4_1).f1) == ((rd_T23 l0 (ji6)).f1))) = true := by simpa using c9))
                    (try (have c9b2 : (((rd_T23 l0 x4_1).f0) == ((rd_T23 l0 (ji6)).f0) && (((rd_T23 l0 x4_1).f1) == ((rd_T23 l0 (ji6)).f1))) = true := by simpa using c9))
                    clear c9
                    obtain rfl := Option.some.inj H
                    try go_wp2
                    have n0_ := Aside0.mk (below_drew1 HB.out)
                    clear HB
                    have HB := n0_
                    clear n0_
                    have p452 : 0 ≤ (x4_1 : Int) := of_decide_eq_true (by first | (with_reducible assumption) | assumption)
                    have q452 : x4_1 < (l0.length : Int) := of_decide_eq_true (by first | (with_reducible assumption) | assumption)
                    obtain ⟨ad452, e452, hx452_0, hx452_1⟩ := at_T23 HR0.out x4_1 p452 q452
                    have hw452_1 := hx452_1
                    have hw452_0 := hx452_0
                    cases e452
                    replace hx452_0 := (HB.out.cell (World.block_lt_of_cell? w _ hx452_0)).trans hx452_0
                    replace hx452_1 := (HB.out.cell (World.block_lt_of_cell? w _ hx452_1)).trans hx452_1
                    replace p452 := eq_true p452
                    replace q452 := eq_true q452
                    have p453 : 0 ≤ ((ji6) : Int) := of_decide_eq_true (by first | (with_reducible assumption) | assumption)
                    have q453 : (ji6) < (l0.length : Int) := of_decide_eq_true (by first | (with_reducible assumption) | assumption)
                    obtain ⟨ad453, e453, hx453_0, hx453_1⟩ := at_T23 HR0.out (ji6) p453 q453
                    have hw453_1 := hx453_1
                    have hw453_0 := hx453_0
                    obtain rfl : ad452 = ad453 := (by injection e453)
                    replace hx453_0 := (HB.out.cell (World.block_lt_of_cell? w _ hx453_0)).trans hx453_0
                    replace hx453_1 := (HB.out.cell (World.block_lt_of_cell? w _ hx453_1)).trans hx453_1
                    replace p453 := eq_true p453
                    replace q453 := eq_true q453
                    refine start_ (n := 12) (S := fun w' => w'.cell? (ad452.add ((x4_1).toNat * 2)) = some (.int .i64 ((rd_T23 l0 x4_1).f0)) ∧ w'.cell? ⟨(ad452.add ((x4_1).toNat * 2)).block, (ad452.add ((x4_1).toNat * 2)).off + 1, none⟩ = some (.int .i64 ((rd_T23 l0 x4_1).f1)) ∧ w'.cell? (ad452.add (((ji6)).toNat * 2)) = some (.int .i64 ((rd_T23 l0 (ji6)).f0)) ∧ w'.cell? ⟨(ad452.add (((ji6)).toNat * 2)).block, (ad452.add (((ji6)).toNat * 2)).off + 1, none⟩ = some (.int .i64 ((rd_T23 l0 (ji6)).f1))) (ds := []) #[false, false, false, false, false, false, false, false, false, false, false, false] (by kernel_rfl) rfl rfl ⟨((HB.out.cell (World.block_lt_of_cell? w _ hw452_0)).trans hw452_0), ((HB.out.cell (World.block_lt_of_cell? w _ hw452_1)).trans hw452_1), ((HB.out.cell (World.block_lt_of_cell? w _ hw453_0)).trans hw453_0), ((HB.out.cell (World.block_lt_of_cell? w _ hw453_1)).trans hw453_1)⟩ (fun hHeld => ?_); refine with_tabW boundstoneref02_simple.tab5 boundstoneref02_simple.bits5 (fun HT_ HW_ => ?_)
                    generalize wr.drew = w10 at HB hx452_0 hx452_1 hx453_0 hx453_1 hHeld ⊢
                    refine pure_ (i := 0) (N := some 16) (v := ?_) (a' := ?_) #[true, false, false, false, false, false, false, false, false, false, false, false] rfl rfl (any_of HT_.out (by kernel_rfl)) (fun _ _ _ h => h) (Or.inl ⟨by rfl, ?_⟩) ?_ ?_
                    rotate_left
                    · intro w'
                      go_simp
                      with_reducible rfl
                    rotate_left
                    · simp only [Act.put, List.setIfInBounds_toArray, List.set_cons_zero, List.set_cons_succ, i64_w, i32_w]
                      rfl
                    refine pure_ (i := 1) (N := some 17) (v := ?_) (a' := ?_) #[true, true, false, false, false, false, false, false, false, false, false, false] rfl rfl (any_of HT_.out (by kernel_rfl)) (fun _ _ _ h => h) (Or.inl ⟨by rfl, ?_⟩) ?_ ?_
                    rotate_left
                    · intro w'
                      go_simp
                      with_reducible rfl
                    rotate_left
                    · simp only [Act.put, List.setIfInBounds_toArray, List.set_cons_zero, List.set_cons_succ, i64_w, i32_w]
                      rfl
                    refine pure_ (i := 2) (N := some 18) (v := ?_) (a' := ?_) #[true, true, true, false, false, false, false, false, false, false, false, false] rfl rfl (any_of HT_.out (by kernel_rfl)) (fun _ _ _ h => h) (Or.inl ⟨by rfl, ?_⟩) ?_ ?_
                    rotate_left
                    · intro w'
                      go_simp
                      with_reducible rfl
                    rotate_left
                    · simp only [Act.put, List.setIfInBounds_toArray, List.set_cons_zero, List.set_cons_succ, i64_w, i32_w]
                      rfl
                    refine pure_ (i := 4) (N := some 20) (v := ?_) (a' := ?_) #[true, true, true, false, true, false, false, false, false, false, false, false] rfl rfl (any_of HT_.out (by kernel_rfl)) (fun _ _ _ h => h) (Or.inl ⟨by rfl, ?_⟩) ?_ ?_
                    rotate_left
                    · intro w'
                      go_simp
                      with_reducible rfl
                    rotate_left
                    · simp only [Act.put, List.setIfInBounds_toArray, List.set_cons_zero, List.set_cons_succ, i64_w, i32_w]
                      rfl
                    refine pure_ (i := 5) (N := some 21) (v := ?_) (a' := ?_) #[true, true, true, false, true, true, false, false, false, false, false, false] rfl rfl (any_of HT_.out (by kernel_rfl)) (fun _ _ _ h => h) (Or.inl ⟨by rfl, ?_⟩) ?_ ?_
                    rotate_left
                    · intro w'
                      go_simp
                      with_reducible rfl
                    rotate_left
                    · simp only [Act.put, List.setIfInBounds_toArray, List.set_cons_zero, List.set_cons_succ, i64_w, i32_w]
                      rfl
                    refine pure_ (i := 6) (N := some 22) (v := ?_) (a' := ?_) #[true, true, true, false, true, true, true, false, false, false, false, false] rfl rfl (any_of HT_.out (by kernel_rfl)) (fun _ _ _ h => h) (Or.inl ⟨by rfl, ?_⟩) ?_ ?_
                    rotate_left
                    · intro w'
                      go_simp
                      with_reducible rfl
                    rotate_left
                    · simp only [Act.put, List.setIfInBounds_toArray, List.set_cons_zero, List.set_cons_succ, i64_w, i32_w]
                      rfl
                    refine pure_ (i := 7) (N := some 23) (v := ?_) (a' := ?_) #[true, true, true, false, true, true, true, true, false, false, false, false] rfl rfl (any_of HT_.out (by kernel_rfl)) (fun _ _ _ h => h) (Or.inl ⟨by rfl, ?_⟩) ?_ ?_
                    rotate_left
                    · intro w'
                      go_simp
                      with_reducible rfl
                    rotate_left
                    · simp only [Act.put, List.setIfInBounds_toArray, List.set_cons_zero, List.set_cons_succ, i64_w, i32_w]
                      rfl
                    refine pure_ (i := 8) (N := some 24) (v := ?_) (a' := ?_) #[true, true, true, false, true, true, true, true, true, false, false, false] rfl rfl (any_of HT_.out (by kernel_rfl)) (fun _ _ _ h => h) (Or.inl ⟨by rfl, ?_⟩) ?_ ?_
                    rotate_left
                    · intro w'
                      go_simp
                      with_reducible rfl
                    rotate_left
                    · simp only [Act.put, List.setIfInBounds_toArray, List.set_cons_zero, List.set_cons_succ, i64_w, i32_w]
                      rfl
                    refine pure_ (i := 9) (N := some 25) (v := ?_) (a' := ?_) #[true, true, true, false, true, true, true, true, true, true, false, false] rfl rfl (any_of HT_.out (by kernel_rfl)) (fun _ _ _ h => h) (Or.inl ⟨by rfl, ?_⟩) ?_ ?_
                    rotate_left
                    · intro w'
                      go_simp
                      with_reducible rfl
                    rotate_left
                    · simp only [Act.put, List.setIfInBounds_toArray, List.set_cons_zero, List.set_cons_succ, i64_w, i32_w]
                      rfl
                    refine take_ (i := 3) (N := some 19) (v := ?_) (a' := ?_) #[true, true, true, true, true, true, true, true, true, true, false, false] rfl rfl (take_ofW HT_.out HW_.out (by kernel_rfl)) (fun _ _ _ h => h) (Or.inl ⟨by rfl, ?_⟩) hHeld ?_ ?_
                    rotate_left
                    · rintro w' ⟨s0, s1, s2, s3⟩
                      go_simp
                      with_reducible rfl
                    rotate_left
                    · simp only [Act.put, List.setIfInBounds_toArray, List.set_cons_zero, List.set_cons_succ, i64_w, i32_w]
                      rfl
                    refine take_ (i := 10) (N := some 26) (v := ?_) (a' := ?_) #[true, true, true, true, true, true, true, true, true, true, true, false] rfl rfl (take_ofW HT_.out HW_.out (by kernel_rfl)) (fun _ _ _ h => h) (Or.inl ⟨by rfl, ?_⟩) hHeld ?_ ?_
                    rotate_left
                    · rintro w' ⟨s0, s1, s2, s3⟩
                      go_simp
                      with_reducible rfl
                    rotate_left
                    · simp only [Act.put, List.setIfInBounds_toArray, List.set_cons_zero, List.set_cons_succ, i64_w, i32_w]
                      rfl
                    refine pure_ (i := 11) (N := some 27) (v := ?_) (a' := ?_) #[true, true, true, true, true, true, true, true, true, true, true, true] rfl rfl (any_of HT_.out (by kernel_rfl)) (fun _ _ _ h => h) (Or.inl ⟨by rfl, ?_⟩) ?_ ?_
                    rotate_left
                    · intro w'
                      go_simp
                      with_reducible rfl
                    rotate_left
                    · simp only [Act.put, List.setIfInBounds_toArray, List.set_cons_zero, List.set_cons_succ, i64_w, i32_w]
                      rfl
                    refine done_ (done_of HT_.out (by kernel_rfl)) ?_
                    try go_wp2
                    go_ret
                    exact ⟨by first | rfl | (simp [errW_none, errW_some] <;> rfl) | (simp only [← hji6]; first | rfl | (simp [errW_none, errW_some] <;> rfl)) | (simp [*, errW_none, errW_some] <;> rfl), by repeat (first | (with_reducible first | exact HB.out | apply below_alloc | apply pw_below_drewN | apply below_drew1) | exact HB.out)⟩
                  · rw [if_neg c9] at H
                    have c9b0 : (((rd_T23 l0 x4_1).f0) == ((rd_T23 l0 (ji6)).f0) && (((rd_T23 l0 x4_1).f1) == ((rd_T23 l0 (ji6)).f1))) = false := by simpa using c9
                    (try (have c9b1 : decide (((rd_T23 l0 x4_1).f0) = ((rd_T23 l0 (ji6)).f0) && (((rd_T23 l0 x4_1).f1) == ((rd_T23 l0 (ji6)).f1))) = false := by simpa using c9))
                    (try (have c9b2 : (((rd_T23 l0 x4_1).f0) == ((rd_T23 l0 (ji6)).f0) && (((rd_T23 l0 x4_1).f1) == ((rd_T23 l0 (ji6)).f1))) = false := by simpa using c9))
                    (try (have c9b3 : ¬ (((rd_T23 l0 x4_1).f0) = ((rd_T23 l0 (ji6)).f0) && (((rd_T23 l0 x4_1).f1) == ((rd_T23 l0 (ji6)).f1))) := by simpa using c9))
                    clear c9
                    have H' := Aside0.mk H
                    clear H
                    try go_wp2
                    have n0_ := Aside0.mk (below_drew1 HB.out)
                    clear HB
                    have HB := n0_
                    clear n0_
                    have p452 : 0 ≤ (x4_1 : Int) := of_decide_eq_true (by first | (with_reducible assumption) | assumption)
                    have q452 : x4_1 < (l0.length : Int) := of_decide_eq_true (by first | (with_reducible assumption) | assumption)
                    obtain ⟨ad452, e452, hx452_0, hx452_1⟩ := at_T23 HR0.out x4_1 p452 q452
                    have hw452_1 := hx452_1
                    have hw452_0 := hx452_0
                    cases e452
                    replace hx452_0 := (HB.out.cell (World.block_lt_of_cell? w _ hx452_0)).trans hx452_0
                    replace hx452_1 := (HB.out.cell (World.block_lt_of_cell? w _ hx452_1)).trans hx452_1
                    replace p452 := eq_true p452
                    replace q452 := eq_true q452
                    have p453 : 0 ≤ ((ji6) : Int) := of_decide_eq_true (by first | (with_reducible assumption) | assumption)
                    have q453 : (ji6) < (l0.length : Int) := of_decide_eq_true (by first | (with_reducible assumption) | assumption)
                    obtain ⟨ad453, e453, hx453_0, hx453_1⟩ := at_T23 HR0.out (ji6) p453 q453
                    have hw453_1 := hx453_1
                    have hw453_0 := hx453_0
                    obtain rfl : ad452 = ad453 := (by injection e453)
                    replace hx453_0 := (HB.out.cell (World.block_lt_of_cell? w _ hx453_0)).trans hx453_0
                    replace hx453_1 := (HB.out.cell (World.block_lt_of_cell? w _ hx453_1)).trans hx453_1
                    replace p453 := eq_true p453
                    replace q453 := eq_true q453
                    refine start_ (n := 12) (S := fun w' => w'.cell? (ad452.add ((x4_1).toNat * 2)) = some (.int .i64 ((rd_T23 l0 x4_1).f0)) ∧ w'.cell? ⟨(ad452.add ((x4_1).toNat * 2)).block, (ad452.add ((x4_1).toNat * 2)).off + 1, none⟩ = some (.int .i64 ((rd_T23 l0 x4_1).f1)) ∧ w'.cell? (ad452.add (((ji6)).toNat * 2)) = some (.int .i64 ((rd_T23 l0 (ji6)).f0)) ∧ w'.cell? ⟨(ad452.add (((ji6)).toNat * 2)).block, (ad452.add (((ji6)).toNat * 2)).off + 1, none⟩ = some (.int .i64 ((rd_T23 l0 (ji6)).f1))) (ds := []) #[false, false, false, false, false, false, false, false, false, false, false, false] (by kernel_rfl) rfl rfl ⟨((HB.out.cell (World.block_lt_of_cell? w _ hw452_0)).trans hw452_0), ((HB.out.cell (World.block_lt_of_cell? w _ hw452_1)).trans hw452_1), ((HB.out.cell (World.block_lt_of_cell? w _ hw453_0)).trans hw453_0), ((HB.out.cell (World.block_lt_of_cell? w _ hw453_1)).trans hw453_1)⟩ (fun hHeld => ?_); refine with_tabW boundstoneref02_simple.tab5 boundstoneref02_simple.bits5 (fun HT_ HW_ => ?_)
                    generalize wr.drew = w11 at HB hx452_0 hx452_1 hx453_0 hx453_1 hHeld ⊢
                    refine pure_ (i := 0) (N := some 16) (v := ?_) (a' := ?_) #[true, false, false, false, false, false, false, false, false, false, false, false] rfl rfl (any_of HT_.out (by kernel_rfl)) (fun _ _ _ h => h) (Or.inl ⟨by rfl, ?_⟩) ?_ ?_
                    rotate_left
                    · intro w'
                      go_simp
                      with_reducible rfl
                    rotate_left
                    · simp only [Act.put, List.setIfInBounds_toArray, List.set_cons_zero, List.set_cons_succ, i64_w, i32_w]
                      rfl
                    refine pure_ (i := 1) (N := some 17) (v := ?_) (a' := ?_) #[true, true, false, false, false, false, false, false, false, false, false, false] rfl rfl (any_of HT_.out (by kernel_rfl)) (fun _ _ _ h => h) (Or.inl ⟨by rfl, ?_⟩) ?_ ?_
                    rotate_left
                    · intro w'
                      go_simp
                      with_reducible rfl
                    rotate_left
                    · simp only [Act.put, List.setIfInBounds_toArray, List.set_cons_zero, List.set_cons_succ, i64_w, i32_w]
                      rfl
                    refine pure_ (i := 2) (N := some 18) (v := ?_) (a' := ?_) #[true, true, true, false, false, false, false, false, false, false, false, false] rfl rfl (any_of HT_.out (by kernel_rfl)) (fun _ _ _ h => h) (Or.inl ⟨by rfl, ?_⟩) ?_ ?_
                    rotate_left
                    · intro w'
                      go_simp
                      with_reducible rfl
                    rotate_left
                    · simp only [Act.put, List.setIfInBounds_toArray, List.set_cons_zero, List.set_cons_succ, i64_w, i32_w]
                      rfl
                    refine pure_ (i := 4) (N := some 20) (v := ?_) (a' := ?_) #[true, true, true, false, true, false, false, false, false, false, false, false] rfl rfl (any_of HT_.out (by kernel_rfl)) (fun _ _ _ h => h) (Or.inl ⟨by rfl, ?_⟩) ?_ ?_
                    rotate_left
                    · intro w'
                      go_simp
                      with_reducible rfl
                    rotate_left
                    · simp only [Act.put, List.setIfInBounds_toArray, List.set_cons_zero, List.set_cons_succ, i64_w, i32_w]
                      rfl
                    refine pure_ (i := 5) (N := some 21) (v := ?_) (a' := ?_) #[true, true, true, false, true, true, false, false, false, false, false, false] rfl rfl (any_of HT_.out (by kernel_rfl)) (fun _ _ _ h => h) (Or.inl ⟨by rfl, ?_⟩) ?_ ?_
                    rotate_left
                    · intro w'
                      go_simp
                      with_reducible rfl
                    rotate_left
                    · simp only [Act.put, List.setIfInBounds_toArray, List.set_cons_zero, List.set_cons_succ, i64_w, i32_w]
                      rfl
                    refine pure_ (i := 6) (N := some 22) (v := ?_) (a' := ?_) #[true, true, true, false, true, true, true, false, false, false, false, false] rfl rfl (any_of HT_.out (by kernel_rfl)) (fun _ _ _ h => h) (Or.inl ⟨by rfl, ?_⟩) ?_ ?_
                    rotate_left
                    · intro w'
                      go_simp
                      with_reducible rfl
                    rotate_left
                    · simp only [Act.put, List.setIfInBounds_toArray, List.set_cons_zero, List.set_cons_succ, i64_w, i32_w]
                      rfl
                    refine pure_ (i := 7) (N := some 23) (v := ?_) (a' := ?_) #[true, true, true, false, true, true, true, true, false, false, false, false] rfl rfl (any_of HT_.out (by kernel_rfl)) (fun _ _ _ h => h) (Or.inl ⟨by rfl, ?_⟩) ?_ ?_
                    rotate_left
                    · intro w'
                      go_simp
                      with_reducible rfl
                    rotate_left
                    · simp only [Act.put, List.setIfInBounds_toArray, List.set_cons_zero, List.set_cons_succ, i64_w, i32_w]
                      rfl
                    refine pure_ (i := 8) (N := some 24) (v := ?_) (a' := ?_) #[true, true, true, false, true, true, true, true, true, false, false, false] rfl rfl (any_of HT_.out (by kernel_rfl)) (fun _ _ _ h => h) (Or.inl ⟨by rfl, ?_⟩) ?_ ?_
                    rotate_left
                    · intro w'
                      go_simp
                      with_reducible rfl
                    rotate_left
                    · simp only [Act.put, List.setIfInBounds_toArray, List.set_cons_zero, List.set_cons_succ, i64_w, i32_w]
                      rfl
                    refine pure_ (i := 9) (N := some 25) (v := ?_) (a' := ?_) #[true, true, true, false, true, true, true, true, true, true, false, false] rfl rfl (any_of HT_.out (by kernel_rfl)) (fun _ _ _ h => h) (Or.inl ⟨by rfl, ?_⟩) ?_ ?_
                    rotate_left
                    · intro w'
                      go_simp
                      with_reducible rfl
                    rotate_left
                    · simp only [Act.put, List.setIfInBounds_toArray, List.set_cons_zero, List.set_cons_succ, i64_w, i32_w]
                      rfl
                    refine take_ (i := 3) (N := some 19) (v := ?_) (a' := ?_) #[true, true, true, true, true, true, true, true, true, true, false, false] rfl rfl (take_ofW HT_.out HW_.out (by kernel_rfl)) (fun _ _ _ h => h) (Or.inl ⟨by rfl, ?_⟩) hHeld ?_ ?_
                    rotate_left
                    · rintro w' ⟨s0, s1, s2, s3⟩
                      go_simp
                      with_reducible rfl
                    rotate_left
                    · simp only [Act.put, List.setIfInBounds_toArray, List.set_cons_zero, List.set_cons_succ, i64_w, i32_w]
                      rfl
                    refine take_ (i := 10) (N := some 26) (v := ?_) (a' := ?_) #[true, true, true, true, true, true, true, true, true, true, true, false] rfl rfl (take_ofW HT_.out HW_.out (by kernel_rfl)) (fun _ _ _ h => h) (Or.inl ⟨by rfl, ?_⟩) hHeld ?_ ?_
                    rotate_left
                    · rintro w' ⟨s0, s1, s2, s3⟩
                      go_simp
                      with_reducible rfl
                    rotate_left
                    · simp only [Act.put, List.setIfInBounds_toArray, List.set_cons_zero, List.set_cons_succ, i64_w, i32_w]
                      rfl
                    refine pure_ (i := 11) (N := some 27) (v := ?_) (a' := ?_) #[true, true, true, true, true, true, true, true, true, true, true, true] rfl rfl (any_of HT_.out (by kernel_rfl)) (fun _ _ _ h => h) (Or.inl ⟨by rfl, ?_⟩) ?_ ?_
                    rotate_left
                    · intro w'
                      go_simp
                      with_reducible rfl
                    rotate_left
                    · simp only [Act.put, List.setIfInBounds_toArray, List.set_cons_zero, List.set_cons_succ, i64_w, i32_w]
                      rfl
                    refine done_ (done_of HT_.out (by kernel_rfl)) ?_
                    try go_wp2
                    go_roundg k1
                    case measure => have := HK1.out; omega
                    case rel => exact ⟨(wrap64 (x4_1 + 1)), (by first | rfl | (simp; done) | (simp [*]; done)), H', ⟨by have := HK1.out; omega⟩, ⟨by repeat (first | (with_reducible first | exact HB.out | apply below_alloc | apply pw_below_drewN | apply below_drew1) | exact HB.out)⟩⟩
                · rw [if_neg c8] at H
                  exact absurd H (by simp)
              · rw [if_neg c7] at H
                exact absurd H (by simp)
          · rw [if_neg c4] at H
            exact absurd H (by simp)
        · rw [if_neg c3] at H
          exact absurd H (by simp)
      · rw [if_neg c2] at H
        have c2b0 : decide (x4_1 < (l0.length : Int)) = false := decide_eq_false c2
        clear c2
        have H' := Aside0.mk H
        clear H
        go_wp2
        go_loopg [5] k1 (fun kq v5 w' => ∃ (x5_2 : Int), v5 = .int .i64 x5_2 ∧ Aside0 (boundstoneref02_simple.l1 kq l0 (l0.length : Int) x5_2 = some r) ∧ Aside0 (kq ≤ k1) ∧ Aside0 (Below w.heap.size w w'))
        case atStart => exact ⟨(0), (by first | rfl | (simp; done) | (simp [*]; done)), H', ⟨Nat.le_refl _⟩, ⟨by repeat (first | (with_reducible first | exact HB.out | apply below_alloc | apply pw_below_drewN | apply below_drew1) | exact HB.out)⟩⟩
        case round =>
          clear H'
          try clear c2
          try clear c2b0
          try clear p2
          try clear c3
          try clear c3b0
          try clear c4
          try clear c4b0
          try clear p4
          try clear q4
          try clear hx4
          try clear c5
          try clear c5b0
          try clear c5b1
          try clear c5b2
          try clear p6
          try clear c7
          try clear c7b0
          try clear c8
          try clear c8b0
          try clear c9
          try clear c9b0
          try clear c9b1
          try clear c9b2
          try clear hx452_0
          try clear hx452_1
          try clear hx453_0
          try clear hx453_1
          try clear p452
          try clear p453
          try clear q452
          try clear q453
          obtain ⟨x5_2, rfl, HA, HK2, HB⟩ := hrel
          cases gk with
          | zero => exact absurd HA.out (by simp [boundstoneref02_simple.l1])
          | succ k2 =>
            have H := HA.out
            clear HA
            simp only [boundstoneref02_simple.l1] at H
            by_cases c12 : x5_2 < (l0.length : Int)
            · rw [if_pos c12] at H
              have c12b0 : decide (x5_2 < (l0.length : Int)) = true := decide_eq_true c12
              clear c12
              have H' := Aside0.mk H
              clear H
              go_wp2
              go_loopg [6] k2 (fun kq v6 w' => ∃ (x6_3 : Int), v6 = .int .i64 x6_3 ∧ Aside0 (boundstoneref02_simple.l2 kq l0 (l0.length : Int) x5_2 x6_3 = some r) ∧ Aside0 (kq ≤ k2) ∧ Aside0 (Below w.heap.size w w'))
              case atStart => exact ⟨(0), (by first | rfl | (simp; done) | (simp [*]; done)), H', ⟨Nat.le_refl _⟩, ⟨by repeat (first | (with_reducible first | exact HB.out | apply below_alloc | apply pw_below_drewN | apply below_drew1) | exact HB.out)⟩⟩
              case round =>
                clear H'
                try clear c1
                try clear c2
                try clear c2b0
                try clear p2
                try clear c3
                try clear c3b0
                try clear c4
                try clear c4b0
                try clear p4
                try clear q4
                try clear hx4
                try clear c5
                try clear c5b0
                try clear c5b1
                try clear c5b2
                try clear p6
                try clear c7
                try clear c7b0
                try clear c8
                try clear c8b0
                try clear c9
                try clear c9b0
                try clear c9b1
                try clear c9b2
                try clear c12
                try clear c12b0
                try clear hx452_0
                try clear hx452_1
                try clear hx453_0
                try clear hx453_1
                try clear p2
                try clear p4
                try clear p452
                try clear p453
                try clear p6
                try clear q4
                try clear q452
                try clear q453
                obtain ⟨x6_3, rfl, HA, HK3, HB⟩ := hrel
                cases gk with
                | zero => exact absurd HA.out (by simp [boundstoneref02_simple.l2])
                | succ k3 =>
                  have H := HA.out
                  clear HA
                  simp only [boundstoneref02_simple.l2] at H
                  by_cases c13 : x6_3 < x5_2
                  · rw [if_pos c13] at H
                    have c13b0 : decide (x6_3 < x5_2) = true := decide_eq_true c13
                    clear c13
                    by_cases c14 : 0 ≤ x5_2
                    · rw [if_pos c14] at H
                      have c14b0 : decide (0 ≤ x5_2) = true := decide_eq_true c14
                      clear c14
                      by_cases c15 : x5_2 < (l0.length : Int)
                      · rw [if_pos c15] at H
                        have c15b0 : decide (x5_2 < (l0.length : Int)) = true := decide_eq_true c15
                        clear c15
                        by_cases c16 : (l0.length : Int) = 0
                        · rw [if_pos c16] at H
                          exact absurd H (by simp)
                        · rw [if_neg c16] at H
                          have c16b0 : ((l0.length : Int) == 0) = false := beq_eq_false_iff_ne.mpr c16
                          have c16b1 : ((l0.length : Int) != 0) = true := bne_iff_ne.mpr c16
                          have c16b2 : ¬ (l0 = []) := fun h_ => c16 (by rw [h_]; rfl)
                          obtain ⟨ji17, hji17⟩ : ∃ j_ : Int, (Int.tmod (wrap64 (x5_2 + 1)) (l0.length : Int)) = j_ := ⟨_, rfl⟩
                          replace H : (if 0 ≤ (ji17) then (if (ji17) < (l0.length : Int) then (if 0 ≤ x6_3 then (if x6_3 < (l0.length : Int) then (if 0 ≤ (Int.tmod (wrap64 (x6_3 + 1)) (l0.length : Int)) then (if (Int.tmod (wrap64 (x6_3 + 1)) (l0.length : Int)) < (l0.length : Int) then ((boundstoneref02_Meeting.f k3 ((rd_T23 l0 x5_2).f0) ((rd_T23 l0 x5_2).f1) ((rd_T23 l0 (ji17)).f0) ((rd_T23 l0 (ji17)).f1) ((rd_T23 l0 x6_3).f0) ((rd_T23 l0 x6_3).f1) ((rd_T23 l0 (Int.tmod (wrap64 (x6_3 + 1)) (l0.length : Int))).f0) ((rd_T23 l0 (Int.tmod (wrap64 (x6_3 + 1)) (l0.length : Int))).f1)).bind fun t458 => (if (wrap64 (x6_3 + 1)) = x5_2 then (boundstoneref02_simple.j3 k3 l0 (l0.length : Int) x5_2 x6_3 t458 true) else (if (wrap64 (x5_2 + 1)) = (l0.length : Int) then (boundstoneref02_simple.j3 k3 l0 (l0.length : Int) x5_2 x6_3 t458 (x6_3 == 0)) else (boundstoneref02_simple.j3 k3 l0 (l0.length : Int) x5_2 x6_3 t458 false)))) else (none)) else (none)) else (none)) else (none)) else (none)) else (none)) = some r := by first | (rw [hji17] at H; exact H) | (simp only [hji17] at H ⊢; exact H)
                          by_cases c18 : 0 ≤ (ji17)
                          · rw [if_pos c18] at H
                            have c18b0 : decide (0 ≤ (ji17)) = true := decide_eq_true c18
                            clear c18
                            by_cases c19 : (ji17) < (l0.length : Int)
                            · rw [if_pos c19] at H
                              have c19b0 : decide ((ji17) < (l0.length : Int)) = true := decide_eq_true c19
                              clear c19
                              by_cases c20 : 0 ≤ x6_3
                              · rw [if_pos c20] at H
                                have c20b0 : decide (0 ≤ x6_3) = true := decide_eq_true c20
                                clear c20
                                by_cases c21 : x6_3 < (l0.length : Int)
                                · rw [if_pos c21] at H
                                  have c21b0 : decide (x6_3 < (l0.length : Int)) = true := decide_eq_true c21
                                  clear c21
                                  obtain ⟨ji22, hji22⟩ : ∃ j_ : Int, (Int.tmod (wrap64 (x6_3 + 1)) (l0.length : Int)) = j_ := ⟨_, rfl⟩
                                  replace H : (if 0 ≤ (ji22) then (if (ji22) < (l0.length : Int) then ((boundstoneref02_Meeting.f k3 ((rd_T23 l0 x5_2).f0) ((rd_T23 l0 x5_2).f1) ((rd_T23 l0 (ji17)).f0) ((rd_T23 l0 (ji17)).f1) ((rd_T23 l0 x6_3).f0) ((rd_T23 l0 x6_3).f1) ((rd_T23 l0 (ji22)).f0) ((rd_T23 l0 (ji22)).f1)).bind fun t458 => (if (wrap64 (x6_3 + 1)) = x5_2 then (boundstoneref02_simple.j3 k3 l0 (l0.length : Int) x5_2 x6_3 t458 true) else (if (wrap64 (x5_2 + 1)) = (l0.length : Int) then (boundstoneref02_simple.j3 k3 l0 (l0.length : Int) x5_2 x6_3 t458 (x6_3 == 0)) else (boundstoneref02_simple.j3 k3 l0 (l0.length : Int) x5_2 x6_3 t458 false)))) else (none)) else (none)) = some r := by first | (rw [hji22] at H; exact H) | (simp only [hji22] at H ⊢; exact H)
                                  by_cases c23 : 0 ≤ (ji22)
                                  · rw [if_pos c23] at H
                                    have c23b0 : decide (0 ≤ (ji22)) = true := decide_eq_true c23
                                    clear c23
                                    by_cases c24 : (ji22) < (l0.length : Int)
                                    · rw [if_pos c24] at H
                                      have c24b0 : decide ((ji22) < (l0.length : Int)) = true := decide_eq_true c24
                                      clear c24
                                      replace H := Option.bind_eq_some_iff.mp H
                                      obtain ⟨t458, A250, H⟩ := H
                                      replace H : (if (wrap64 (x6_3 + 1)) = x5_2 then (boundstoneref02_simple.j3 k3 l0 (l0.length : Int) x5_2 x6_3 t458 true) else (if (wrap64 (x5_2 + 1)) = (l0.length : Int) then (boundstoneref02_simple.j3 k3 l0 (l0.length : Int) x5_2 x6_3 t458 (x6_3 == 0)) else (boundstoneref02_simple.j3 k3 l0 (l0.length : Int) x5_2 x6_3 t458 false))) = some r := H
                                      have A25 := Aside0.mk A250
                                      clear A250
                                      have HC26 := Aside0.mk H
                                      clear H
                                      try go_wp2
                                      have n0_ := Aside0.mk (below_drew1 HB.out)
                                      clear HB
                                      have HB := n0_
                                      clear n0_
                                      have p454 : 0 ≤ (x5_2 : Int) := of_decide_eq_true (by first | (with_reducible assumption) | assumption)
                                      have q454 : x5_2 < (l0.length : Int) := of_decide_eq_true (by first | (with_reducible assumption) | assumption)
                                      obtain ⟨ad454, e454, hx454_0, hx454_1⟩ := at_T23 HR0.out x5_2 p454 q454
                                      have hw454_1 := hx454_1
                                      have hw454_0 := hx454_0
                                      cases e454
                                      replace hx454_0 := (HB.out.cell (World.block_lt_of_cell? w _ hx454_0)).trans hx454_0
                                      replace hx454_1 := (HB.out.cell (World.block_lt_of_cell? w _ hx454_1)).trans hx454_1
                                      replace p454 := eq_true p454
                                      replace q454 := eq_true q454
                                      have p455 : 0 ≤ ((ji17) : Int) := of_decide_eq_true (by first | (with_reducible assumption) | assumption)
                                      have q455 : (ji17) < (l0.length : Int) := of_decide_eq_true (by first | (with_reducible assumption) | assumption)
                                      obtain ⟨ad455, e455, hx455_0, hx455_1⟩ := at_T23 HR0.out (ji17) p455 q455
                                      have hw455_1 := hx455_1
                                      have hw455_0 := hx455_0
                                      obtain rfl : ad454 = ad455 := (by injection e455)
                                      replace hx455_0 := (HB.out.cell (World.block_lt_of_cell? w _ hx455_0)).trans hx455_0
                                      replace hx455_1 := (HB.out.cell (World.block_lt_of_cell? w _ hx455_1)).trans hx455_1
                                      replace p455 := eq_true p455
                                      replace q455 := eq_true q455
                                      have p456 : 0 ≤ (x6_3 : Int) := of_decide_eq_true (by first | (with_reducible assumption) | assumption)
                                      have q456 : x6_3 < (l0.length : Int) := of_decide_eq_true (by first | (with_reducible assumption) | assumption)
                                      obtain ⟨ad456, e456, hx456_0, hx456_1⟩ := at_T23 HR0.out x6_3 p456 q456
                                      have hw456_1 := hx456_1
                                      have hw456_0 := hx456_0
                                      obtain rfl : ad454 = ad456 := (by injection e456)
                                      replace hx456_0 := (HB.out.cell (World.block_lt_of_cell? w _ hx456_0)).trans hx456_0
                                      replace hx456_1 := (HB.out.cell (World.block_lt_of_cell? w _ hx456_1)).trans hx456_1
                                      replace p456 := eq_true p456
                                      replace q456 := eq_true q456
                                      have p457 : 0 ≤ ((ji22) : Int) := of_decide_eq_true (by first | (with_reducible assumption) | assumption)
                                      have q457 : (ji22) < (l0.length : Int) := of_decide_eq_true (by first | (with_reducible assumption) | assumption)
                                      obtain ⟨ad457, e457, hx457_0, hx457_1⟩ := at_T23 HR0.out (ji22) p457 q457
                                      have hw457_1 := hx457_1
                                      have hw457_0 := hx457_0
                                      obtain rfl : ad454 = ad457 := (by injection e457)
                                      replace hx457_0 := (HB.out.cell (World.block_lt_of_cell? w _ hx457_0)).trans hx457_0
                                      replace hx457_1 := (HB.out.cell (World.block_lt_of_cell? w _ hx457_1)).trans hx457_1
                                      replace p457 := eq_true p457
                                      replace q457 := eq_true q457
                                      refine start_ (n := 26) (S := fun w' => w'.cell? (ad454.add ((x5_2).toNat * 2)) = some (.int .i64 ((rd_T23 l0 x5_2).f0)) ∧ w'.cell? ⟨(ad454.add ((x5_2).toNat * 2)).block, (ad454.add ((x5_2).toNat * 2)).off + 1, none⟩ = some (.int .i64 ((rd_T23 l0 x5_2).f1)) ∧ w'.cell? (ad454.add (((ji17)).toNat * 2)) = some (.int .i64 ((rd_T23 l0 (ji17)).f0)) ∧ w'.cell? ⟨(ad454.add (((ji17)).toNat * 2)).block, (ad454.add (((ji17)).toNat * 2)).off + 1, none⟩ = some (.int .i64 ((rd_T23 l0 (ji17)).f1)) ∧ w'.cell? (ad454.add ((x6_3).toNat * 2)) = some (.int .i64 ((rd_T23 l0 x6_3).f0)) ∧ w'.cell? ⟨(ad454.add ((x6_3).toNat * 2)).block, (ad454.add ((x6_3).toNat * 2)).off + 1, none⟩ = some (.int .i64 ((rd_T23 l0 x6_3).f1)) ∧ w'.cell? (ad454.add (((ji22)).toNat * 2)) = some (.int .i64 ((rd_T23 l0 (ji22)).f0)) ∧ w'.cell? ⟨(ad454.add (((ji22)).toNat * 2)).block, (ad454.add (((ji22)).toNat * 2)).off + 1, none⟩ = some (.int .i64 ((rd_T23 l0 (ji22)).f1))) (ds := []) #[false, false, false, false, false, false, false, false, false, false, false, false, false, false, false, false, false, false, false, false, false, false, false, false, false, false] (by kernel_rfl) rfl rfl ⟨((HB.out.cell (World.block_lt_of_cell? w _ hw454_0)).trans hw454_0), ((HB.out.cell (World.block_lt_of_cell? w _ hw454_1)).trans hw454_1), ((HB.out.cell (World.block_lt_of_cell? w _ hw455_0)).trans hw455_0), ((HB.out.cell (World.block_lt_of_cell? w _ hw455_1)).trans hw455_1), ((HB.out.cell (World.block_lt_of_cell? w _ hw456_0)).trans hw456_0), ((HB.out.cell (World.block_lt_of_cell? w _ hw456_1)).trans hw456_1), ((HB.out.cell (World.block_lt_of_cell? w _ hw457_0)).trans hw457_0), ((HB.out.cell (World.block_lt_of_cell? w _ hw457_1)).trans hw457_1)⟩ (fun hHeld => ?_); refine with_tabW boundstoneref02_simple.tab13 boundstoneref02_simple.bits13 (fun HT_ HW_ => ?_)
                                      generalize wr.drew = w27 at HB hx454_0 hx454_1 hx455_0 hx455_1 hx456_0 hx456_1 hx457_0 hx457_1 hHeld ⊢
                                      refine pure_ (i := 0) (N := some 38) (v := ?_) (a' := ?_) #[true, false, false, false, false, false, false, false, false, false, false, false, false, false, false, false, false, false, false, false, false, false, false, false, false, false] rfl rfl (any_of HT_.out (by kernel_rfl)) (fun _ _ _ h => h) (Or.inl ⟨by rfl, ?_⟩) ?_ ?_
                                      rotate_left
                                      · intro w'
                                        go_simp
                                        with_reducible rfl
                                      rotate_left
                                      · simp only [Act.put, List.setIfInBounds_toArray, List.set_cons_zero, List.set_cons_succ, i64_w, i32_w]
                                        rfl
                                      refine pure_ (i := 1) (N := some 39) (v := ?_) (a' := ?_) #[true, true, false, false, false, false, false, false, false, false, false, false, false, false, false, false, false, false, false, false, false, false, false, false, false, false] rfl rfl (any_of HT_.out (by kernel_rfl)) (fun _ _ _ h => h) (Or.inl ⟨by rfl, ?_⟩) ?_ ?_
                                      rotate_left
                                      · intro w'
                                        go_simp
                                        with_reducible rfl
                                      rotate_left
                                      · simp only [Act.put, List.setIfInBounds_toArray, List.set_cons_zero, List.set_cons_succ, i64_w, i32_w]
                                        rfl
                                      refine pure_ (i := 2) (N := some 40) (v := ?_) (a' := ?_) #[true, true, true, false, false, false, false, false, false, false, false, false, false, false, false, false, false, false, false, false, false, false, false, false, false, false] rfl rfl (any_of HT_.out (by kernel_rfl)) (fun _ _ _ h => h) (Or.inl ⟨by rfl, ?_⟩) ?_ ?_
                                      rotate_left
                                      · intro w'
                                        go_simp
                                        with_reducible rfl
                                      rotate_left
                                      · simp only [Act.put, List.setIfInBounds_toArray, List.set_cons_zero, List.set_cons_succ, i64_w, i32_w]
                                        rfl
                                      refine pure_ (i := 4) (N := some 42) (v := ?_) (a' := ?_) #[true, true, true, false, true, false, false, false, false, false, false, false, false, false, false, false, false, false, false, false, false, false, false, false, false, false] rfl rfl (any_of HT_.out (by kernel_rfl)) (fun _ _ _ h => h) (Or.inl ⟨by rfl, ?_⟩) ?_ ?_
                                      rotate_left
                                      · intro w'
                                        go_simp
                                        with_reducible rfl
                                      rotate_left
                                      · simp only [Act.put, List.setIfInBounds_toArray, List.set_cons_zero, List.set_cons_succ, i64_w, i32_w]
                                        rfl
                                      refine pure_ (i := 5) (N := some 43) (v := ?_) (a' := ?_) #[true, true, true, false, true, true, false, false, false, false, false, false, false, false, false, false, false, false, false, false, false, false, false, false, false, false] rfl rfl (any_of HT_.out (by kernel_rfl)) (fun _ _ _ h => h) (Or.inl ⟨by rfl, ?_⟩) ?_ ?_
                                      rotate_left
                                      · intro w'
                                        go_simp
                                        with_reducible rfl
                                      rotate_left
                                      · simp only [Act.put, List.setIfInBounds_toArray, List.set_cons_zero, List.set_cons_succ, i64_w, i32_w]
                                        rfl
                                      refine pure_ (i := 6) (N := some 44) (v := ?_) (a' := ?_) #[true, true, true, false, true, true, true, false, false, false, false, false, false, false, false, false, false, false, false, false, false, false, false, false, false, false] rfl rfl (any_of HT_.out (by kernel_rfl)) (fun _ _ _ h => h) (Or.inl ⟨by rfl, ?_⟩) ?_ ?_
                                      rotate_left
                                      · intro w'
                                        go_simp
                                        with_reducible rfl
                                      rotate_left
                                      · simp only [Act.put, List.setIfInBounds_toArray, List.set_cons_zero, List.set_cons_succ, i64_w, i32_w]
                                        rfl
                                      refine pure_ (i := 7) (N := some 45) (v := ?_) (a' := ?_) #[true, true, true, false, true, true, true, true, false, false, false, false, false, false, false, false, false, false, false, false, false, false, false, false, false, false] rfl rfl (any_of HT_.out (by kernel_rfl)) (fun _ _ _ h => h) (Or.inl ⟨by rfl, ?_⟩) ?_ ?_
                                      rotate_left
                                      · intro w'
                                        go_simp
                                        with_reducible rfl
                                      rotate_left
                                      · simp only [Act.put, List.setIfInBounds_toArray, List.set_cons_zero, List.set_cons_succ, i64_w, i32_w]
                                        rfl
                                      refine pure_ (i := 8) (N := some 46) (v := ?_) (a' := ?_) #[true, true, true, false, true, true, true, true, true, false, false, false, false, false, false, false, false, false, false, false, false, false, false, false, false, false] rfl rfl (any_of HT_.out (by kernel_rfl)) (fun _ _ _ h => h) (Or.inl ⟨by rfl, ?_⟩) ?_ ?_
                                      rotate_left
                                      · intro w'
                                        go_simp
                                        with_reducible rfl
                                      rotate_left
                                      · simp only [Act.put, List.setIfInBounds_toArray, List.set_cons_zero, List.set_cons_succ, i64_w, i32_w]
                                        rfl
                                      refine pure_ (i := 9) (N := some 47) (v := ?_) (a' := ?_) #[true, true, true, false, true, true, true, true, true, true, false, false, false, false, false, false, false, false, false, false, false, false, false, false, false, false] rfl rfl (any_of HT_.out (by kernel_rfl)) (fun _ _ _ h => h) (Or.inl ⟨by rfl, ?_⟩) ?_ ?_
                                      rotate_left
                                      · intro w'
                                        go_simp
                                        with_reducible rfl
                                      rotate_left
                                      · simp only [Act.put, List.setIfInBounds_toArray, List.set_cons_zero, List.set_cons_succ, i64_w, i32_w]
                                        rfl
                                      refine pure_ (i := 12) (N := some 50) (v := ?_) (a' := ?_) #[true, true, true, false, true, true, true, true, true, true, false, false, true, false, false, false, false, false, false, false, false, false, false, false, false, false] rfl rfl (any_of HT_.out (by kernel_rfl)) (fun _ _ _ h => h) (Or.inl ⟨by rfl, ?_⟩) ?_ ?_
                                      rotate_left
                                      · intro w'
                                        go_simp
                                        with_reducible rfl
                                      rotate_left
                                      · simp only [Act.put, List.setIfInBounds_toArray, List.set_cons_zero, List.set_cons_succ, i64_w, i32_w]
                                        rfl
                                      refine pure_ (i := 13) (N := some 51) (v := ?_) (a' := ?_) #[true, true, true, false, true, true, true, true, true, true, false, false, true, true, false, false, false, false, false, false, false, false, false, false, false, false] rfl rfl (any_of HT_.out (by kernel_rfl)) (fun _ _ _ h => h) (Or.inl ⟨by rfl, ?_⟩) ?_ ?_
                                      rotate_left
                                      · intro w'
                                        go_simp
                                        with_reducible rfl
                                      rotate_left
                                      · simp only [Act.put, List.setIfInBounds_toArray, List.set_cons_zero, List.set_cons_succ, i64_w, i32_w]
                                        rfl
                                      refine pure_ (i := 14) (N := some 52) (v := ?_) (a' := ?_) #[true, true, true, false, true, true, true, true, true, true, false, false, true, true, true, false, false, false, false, false, false, false, false, false, false, false] rfl rfl (any_of HT_.out (by kernel_rfl)) (fun _ _ _ h => h) (Or.inl ⟨by rfl, ?_⟩) ?_ ?_
                                      rotate_left
                                      · intro w'
                                        go_simp
                                        with_reducible rfl
                                      rotate_left
                                      · simp only [Act.put, List.setIfInBounds_toArray, List.set_cons_zero, List.set_cons_succ, i64_w, i32_w]
                                        rfl
                                      refine pure_ (i := 16) (N := some 54) (v := ?_) (a' := ?_) #[true, true, true, false, true, true, true, true, true, true, false, false, true, true, true, false, true, false, false, false, false, false, false, false, false, false] rfl rfl (any_of HT_.out (by kernel_rfl)) (fun _ _ _ h => h) (Or.inl ⟨by rfl, ?_⟩) ?_ ?_
                                      rotate_left
                                      · intro w'
                                        go_simp
                                        with_reducible rfl
                                      rotate_left
                                      · simp only [Act.put, List.setIfInBounds_toArray, List.set_cons_zero, List.set_cons_succ, i64_w, i32_w]
                                        rfl
                                      refine pure_ (i := 17) (N := some 55) (v := ?_) (a' := ?_) #[true, true, true, false, true, true, true, true, true, true, false, false, true, true, true, false, true, true, false, false, false, false, false, false, false, false] rfl rfl (any_of HT_.out (by kernel_rfl)) (fun _ _ _ h => h) (Or.inl ⟨by rfl, ?_⟩) ?_ ?_
                                      rotate_left
                                      · intro w'
                                        go_simp
                                        with_reducible rfl
                                      rotate_left
                                      · simp only [Act.put, List.setIfInBounds_toArray, List.set_cons_zero, List.set_cons_succ, i64_w, i32_w]
                                        rfl
                                      refine pure_ (i := 18) (N := some 56) (v := ?_) (a' := ?_) #[true, true, true, false, true, true, true, true, true, true, false, false, true, true, true, false, true, true, true, false, false, false, false, false, false, false] rfl rfl (any_of HT_.out (by kernel_rfl)) (fun _ _ _ h => h) (Or.inl ⟨by rfl, ?_⟩) ?_ ?_
                                      rotate_left
                                      · intro w'
                                        go_simp
                                        with_reducible rfl
                                      rotate_left
                                      · simp only [Act.put, List.setIfInBounds_toArray, List.set_cons_zero, List.set_cons_succ, i64_w, i32_w]
                                        rfl
                                      refine pure_ (i := 19) (N := some 57) (v := ?_) (a' := ?_) #[true, true, true, false, true, true, true, true, true, true, false, false, true, true, true, false, true, true, true, true, false, false, false, false, false, false] rfl rfl (any_of HT_.out (by kernel_rfl)) (fun _ _ _ h => h) (Or.inl ⟨by rfl, ?_⟩) ?_ ?_
                                      rotate_left
                                      · intro w'
                                        go_simp
                                        with_reducible rfl
                                      rotate_left
                                      · simp only [Act.put, List.setIfInBounds_toArray, List.set_cons_zero, List.set_cons_succ, i64_w, i32_w]
                                        rfl
                                      refine pure_ (i := 20) (N := some 58) (v := ?_) (a' := ?_) #[true, true, true, false, true, true, true, true, true, true, false, false, true, true, true, false, true, true, true, true, true, false, false, false, false, false] rfl rfl (any_of HT_.out (by kernel_rfl)) (fun _ _ _ h => h) (Or.inl ⟨by rfl, ?_⟩) ?_ ?_
                                      rotate_left
                                      · intro w'
                                        go_simp
                                        with_reducible rfl
                                      rotate_left
                                      · simp only [Act.put, List.setIfInBounds_toArray, List.set_cons_zero, List.set_cons_succ, i64_w, i32_w]
                                        rfl
                                      refine pure_ (i := 21) (N := some 59) (v := ?_) (a' := ?_) #[true, true, true, false, true, true, true, true, true, true, false, false, true, true, true, false, true, true, true, true, true, true, false, false, false, false] rfl rfl (any_of HT_.out (by kernel_rfl)) (fun _ _ _ h => h) (Or.inl ⟨by rfl, ?_⟩) ?_ ?_
                                      rotate_left
                                      · intro w'
                                        go_simp
                                        with_reducible rfl
                                      rotate_left
                                      · simp only [Act.put, List.setIfInBounds_toArray, List.set_cons_zero, List.set_cons_succ, i64_w, i32_w]
                                        rfl
                                      refine take_ (i := 3) (N := some 41) (v := ?_) (a' := ?_) #[true, true, true, true, true, true, true, true, true, true, false, false, true, true, true, false, true, true, true, true, true, true, false, false, false, false] rfl rfl (take_ofW HT_.out HW_.out (by kernel_rfl)) (fun _ _ _ h => h) (Or.inl ⟨by rfl, ?_⟩) hHeld ?_ ?_
                                      rotate_left
                                      · rintro w' ⟨s0, s1, s2, s3, s4, s5, s6, s7⟩
                                        go_simp
                                        with_reducible rfl
                                      rotate_left
                                      · simp only [Act.put, List.setIfInBounds_toArray, List.set_cons_zero, List.set_cons_succ, i64_w, i32_w]
                                        rfl
                                      refine take_ (i := 10) (N := some 48) (v := ?_) (a' := ?_) #[true, true, true, true, true, true, true, true, true, true, true, false, true, true, true, false, true, true, true, true, true, true, false, false, false, false] rfl rfl (take_ofW HT_.out HW_.out (by kernel_rfl)) (fun _ _ _ h => h) (Or.inl ⟨by rfl, ?_⟩) hHeld ?_ ?_
                                      rotate_left
                                      · rintro w' ⟨s0, s1, s2, s3, s4, s5, s6, s7⟩
                                        go_simp
                                        with_reducible rfl
                                      rotate_left
                                      · simp only [Act.put, List.setIfInBounds_toArray, List.set_cons_zero, List.set_cons_succ, i64_w, i32_w]
                                        rfl
                                      refine pure_ (i := 11) (N := some 49) (v := ?_) (a' := ?_) #[true, true, true, true, true, true, true, true, true, true, true, true, true, true, true, false, true, true, true, true, true, true, false, false, false, false] rfl rfl (any_of HT_.out (by kernel_rfl)) (fun _ _ _ h => h) (Or.inl ⟨by rfl, ?_⟩) ?_ ?_
                                      rotate_left
                                      · intro w'
                                        go_simp
                                        with_reducible rfl
                                      rotate_left
                                      · simp only [Act.put, List.setIfInBounds_toArray, List.set_cons_zero, List.set_cons_succ, i64_w, i32_w]
                                        rfl
                                      refine take_ (i := 15) (N := some 53) (v := ?_) (a' := ?_) #[true, true, true, true, true, true, true, true, true, true, true, true, true, true, true, true, true, true, true, true, true, true, false, false, false, false] rfl rfl (take_ofW HT_.out HW_.out (by kernel_rfl)) (fun _ _ _ h => h) (Or.inl ⟨by rfl, ?_⟩) hHeld ?_ ?_
                                      rotate_left
                                      · rintro w' ⟨s0, s1, s2, s3, s4, s5, s6, s7⟩
                                        go_simp
                                        with_reducible rfl
                                      rotate_left
                                      · simp only [Act.put, List.setIfInBounds_toArray, List.set_cons_zero, List.set_cons_succ, i64_w, i32_w]
                                        rfl
                                      refine take_ (i := 22) (N := some 60) (v := ?_) (a' := ?_) #[true, true, true, true, true, true, true, true, true, true, true, true, true, true, true, true, true, true, true, true, true, true, true, false, false, false] rfl rfl (take_ofW HT_.out HW_.out (by kernel_rfl)) (fun _ _ _ h => h) (Or.inl ⟨by rfl, ?_⟩) hHeld ?_ ?_
                                      rotate_left
                                      · rintro w' ⟨s0, s1, s2, s3, s4, s5, s6, s7⟩
                                        go_simp
                                        with_reducible rfl
                                      rotate_left
                                      · simp only [Act.put, List.setIfInBounds_toArray, List.set_cons_zero, List.set_cons_succ, i64_w, i32_w]
                                        rfl
                                      refine pure_ (i := 23) (N := some 61) (v := ?_) (a' := ?_) #[true, true, true, true, true, true, true, true, true, true, true, true, true, true, true, true, true, true, true, true, true, true, true, true, false, false] rfl rfl (any_of HT_.out (by kernel_rfl)) (fun _ _ _ h => h) (Or.inl ⟨by rfl, ?_⟩) ?_ ?_
                                      rotate_left
                                      · intro w'
                                        go_simp
                                        with_reducible rfl
                                      rotate_left
                                      · simp only [Act.put, List.setIfInBounds_toArray, List.set_cons_zero, List.set_cons_succ, i64_w, i32_w]
                                        rfl
                                      refine one_ (i := 24) (N := some 62) #[true, true, true, true, true, true, true, true, true, true, true, true, true, true, true, true, true, true, true, true, true, true, true, true, true, false] rfl rfl (one_of HT_.out (by kernel_rfl)) (by decide) (fun K hK => ?_)
                                      refine goes_ Try.func29 (by kernel_rfl) rfl #[.agg #[.int .i64 ((rd_T23 l0 x5_2).f0), .int .i64 ((rd_T23 l0 x5_2).f1), .int .i64 ((rd_T23 l0 (ji17)).f0), .int .i64 ((rd_T23 l0 (ji17)).f1)], .agg #[.int .i64 ((rd_T23 l0 x6_3).f0), .int .i64 ((rd_T23 l0 x6_3).f1), .int .i64 ((rd_T23 l0 (ji22)).f0), .int .i64 ((rd_T23 l0 (ji22)).f1)]] (by rfl) rfl rfl (by (try simp only [List.map_toArray, List.map_cons, List.map_nil]); first | done | (simp only [hji17, hji22]; rfl) | rfl | (simp only [List.length_drop, List.length_take]; rfl)) ?_
                                      with_reducible refine (boundstoneref02_Meeting.calls k3 ((rd_T23 l0 x5_2).f0) ((rd_T23 l0 x5_2).f1) ((rd_T23 l0 (ji17)).f0) ((rd_T23 l0 (ji17)).f1) ((rd_T23 l0 x6_3).f0) ((rd_T23 l0 x6_3).f1) ((rd_T23 l0 (ji22)).f0) ((rd_T23 l0 (ji22)).f1) t458 _ A25.out).mono ?_
                                      rintro e w28 ⟨rfl, hb⟩
                                      refine ⟨_, rfl, ?_⟩
                                      have n0_ := Aside0.mk (below_step (by repeat (first | (with_reducible first | exact HB.out | apply below_alloc | apply pw_below_drewN | apply below_drew1) | exact HB.out)) hb)
                                      clear HB
                                      have HB := n0_
                                      clear n0_
                                      (try clear hb)
                                      (try clear hb2)
                                      (try clear hk)
                                      (try clear hi)
                                      refine hK.out _ _ ⟨((HB.out.cell (World.block_lt_of_cell? w _ hw454_0)).trans hw454_0), ((HB.out.cell (World.block_lt_of_cell? w _ hw454_1)).trans hw454_1), ((HB.out.cell (World.block_lt_of_cell? w _ hw455_0)).trans hw455_0), ((HB.out.cell (World.block_lt_of_cell? w _ hw455_1)).trans hw455_1), ((HB.out.cell (World.block_lt_of_cell? w _ hw456_0)).trans hw456_0), ((HB.out.cell (World.block_lt_of_cell? w _ hw456_1)).trans hw456_1), ((HB.out.cell (World.block_lt_of_cell? w _ hw457_0)).trans hw457_0), ((HB.out.cell (World.block_lt_of_cell? w _ hw457_1)).trans hw457_1)⟩ (fun hHeld => ?_)
                                      clear hK K
                                      refine norm_ (a' := ?_) ?_ ?_
                                      rotate_left
                                      · show Act.put _ (some 62) _ = _
                                        simp only [Act.put, List.setIfInBounds_toArray, List.set_cons_zero, List.set_cons_succ, i64_w, i32_w]
                                        rfl
                                      refine pure_ (i := 25) (N := some 7) (v := ?_) (a' := ?_) #[true, true, true, true, true, true, true, true, true, true, true, true, true, true, true, true, true, true, true, true, true, true, true, true, true, true] rfl rfl (any_of HT_.out (by kernel_rfl)) (fun _ _ _ h => h) (Or.inl ⟨by rfl, ?_⟩) ?_ ?_
                                      rotate_left
                                      · intro w'
                                        go_simp
                                        with_reducible rfl
                                      rotate_left
                                      · simp only [Act.put, List.setIfInBounds_toArray, List.set_cons_zero, List.set_cons_succ, i64_w, i32_w]
                                        rfl
                                      refine done_ (done_of HT_.out (by kernel_rfl)) ?_
                                      go_upto_region 14 with (fail)
                                      go_cut [8] (fun v8 wc => ∃ (kq : Nat) (x8_25 : Bool), v8 = .bool x8_25 ∧ Aside0 (boundstoneref02_simple.j3 kq l0 (l0.length : Int) x5_2 x6_3 t458 x8_25 = some r) ∧ Aside0 (kq ≤ k3) ∧ Aside0 (Below w.heap.size w wc))
                                      case first =>
                                        have H := HC26.out
                                        clear HC26
                                        by_cases c29 : (wrap64 (x6_3 + 1)) = x5_2
                                        · rw [if_pos c29] at H
                                          have c29b0 : ((wrap64 (x6_3 + 1)) == x5_2) = true := beq_iff_eq.mpr c29
                                          have c29b1 : ((wrap64 (x6_3 + 1)) != x5_2) = false := bne_eq_false_iff_eq.mpr c29
                                          clear c29
                                          (first | rw [c29b0] | (simp only [i64_w, i32_w]; rw [c29b0]) | skip)
                                          have H' := Aside0.mk H
                                          clear H
                                          go_wp2
                                          go_meet
                                          case rel => exact ⟨_, (true), (by first | rfl | (simp; done) | (simp [*]; done)), H', ⟨by have := HK1.out; have := HK2.out; have := HK3.out; first | omega | exact Nat.le_refl _⟩, ⟨by repeat (first | (with_reducible first | exact HB.out | apply below_alloc | apply pw_below_drewN | apply below_drew1) | exact HB.out)⟩⟩
                                        · rw [if_neg c29] at H
                                          have c29b0 : ((wrap64 (x6_3 + 1)) == x5_2) = false := beq_eq_false_iff_ne.mpr c29
                                          have c29b1 : ((wrap64 (x6_3 + 1)) != x5_2) = true := bne_iff_ne.mpr c29
                                          (first | rw [c29b0] | (simp only [i64_w, i32_w]; rw [c29b0]) | skip)
                                          by_cases c30 : (wrap64 (x5_2 + 1)) = (l0.length : Int)
                                          · rw [if_pos c30] at H
                                            have c30b0 : ((wrap64 (x5_2 + 1)) == (l0.length : Int)) = true := beq_iff_eq.mpr c30
                                            have c30b1 : ((wrap64 (x5_2 + 1)) != (l0.length : Int)) = false := bne_eq_false_iff_eq.mpr c30
                                            clear c30
                                            have H' := Aside0.mk H
                                            clear H
                                            go_wp2
                                            go_meet
                                            case rel => exact ⟨_, ((x6_3 == 0)), (by first | rfl | (simp; done) | (simp [*]; done)), H', ⟨by have := HK1.out; have := HK2.out; have := HK3.out; first | omega | exact Nat.le_refl _⟩, ⟨by repeat (first | (with_reducible first | exact HB.out | apply below_alloc | apply pw_below_drewN | apply below_drew1) | exact HB.out)⟩⟩
                                          · rw [if_neg c30] at H
                                            have c30b0 : ((wrap64 (x5_2 + 1)) == (l0.length : Int)) = false := beq_eq_false_iff_ne.mpr c30
                                            have c30b1 : ((wrap64 (x5_2 + 1)) != (l0.length : Int)) = true := bne_iff_ne.mpr c30
                                            have H' := Aside0.mk H
                                            clear H
                                            go_wp2
                                            go_meet
                                            case rel => exact ⟨_, (false), (by first | rfl | (simp; done) | (simp [*]; done)), H', ⟨by have := HK1.out; have := HK2.out; have := HK3.out; first | omega | exact Nat.le_refl _⟩, ⟨by repeat (first | (with_reducible first | exact HB.out | apply below_alloc | apply pw_below_drewN | apply below_drew1) | exact HB.out)⟩⟩
                                      case rest =>
                                        clear HC26
                                        try clear c1
                                        try clear c2
                                        try clear c2b0
                                        try clear p2
                                        try clear c3
                                        try clear c3b0
                                        try clear c4
                                        try clear c4b0
                                        try clear p4
                                        try clear q4
                                        try clear hx4
                                        try clear c5
                                        try clear c5b0
                                        try clear c5b1
                                        try clear c5b2
                                        try clear p6
                                        try clear c7
                                        try clear c7b0
                                        try clear c8
                                        try clear c8b0
                                        try clear c9
                                        try clear c9b0
                                        try clear c9b1
                                        try clear c9b2
                                        try clear c12
                                        try clear c12b0
                                        try clear c13
                                        try clear c13b0
                                        try clear c14
                                        try clear c14b0
                                        try clear c15
                                        try clear c15b0
                                        try clear c16
                                        try clear c16b0
                                        try clear c16b1
                                        try clear c16b2
                                        try clear c18
                                        try clear c18b0
                                        try clear c19
                                        try clear c19b0
                                        try clear c20
                                        try clear c20b0
                                        try clear c21
                                        try clear c21b0
                                        try clear c23
                                        try clear c23b0
                                        try clear c24
                                        try clear c24b0
                                        try clear c29
                                        try clear c29b0
                                        try clear c29b1
                                        try clear c30
                                        try clear c30b0
                                        try clear c30b1
                                        try clear hx452_0
                                        try clear hx452_1
                                        try clear hx453_0
                                        try clear hx453_1
                                        try clear hx454_0
                                        try clear hx454_1
                                        try clear hx455_0
                                        try clear hx455_1
                                        try clear hx456_0
                                        try clear hx456_1
                                        try clear hx457_0
                                        try clear hx457_1
                                        try clear p2
                                        try clear p4
                                        try clear p452
                                        try clear p453
                                        try clear p454
                                        try clear p455
                                        try clear p456
                                        try clear p457
                                        try clear p6
                                        try clear q4
                                        try clear q452
                                        try clear q453
                                        try clear q454
                                        try clear q455
                                        try clear q456
                                        try clear q457
                                        obtain ⟨kq, x8_25, rfl, HA, HJ25, HB⟩ := hcut
                                        cases kq with
                                        | zero => exact absurd HA.out (by simp [boundstoneref02_simple.j3])
                                        | succ kj25 =>
                                          have H := HA.out
                                          clear HA
                                          simp only [boundstoneref02_simple.j3] at H
                                          have HC31 := Aside0.mk H
                                          clear H
                                          go_upto_region 15 with (fail)
                                          go_cut [89] (fun v89 wc => ∃ (kq : Nat) (x89_30 : Bool), v89 = .bool x89_30 ∧ Aside0 (boundstoneref02_simple.j4 kq l0 (l0.length : Int) x5_2 x6_3 x89_30 = some r) ∧ Aside0 (kq ≤ kj25) ∧ Aside0 (Below w.heap.size w wc))
                                          case first =>
                                            have H := HC31.out
                                            clear HC31
                                            by_cases c32 : x8_25 = true
                                            · subst c32
                                              have H1 : (if t458 = 1 then (boundstoneref02_simple.j4 kj25 l0 (l0.length : Int) x5_2 x6_3 false) else (boundstoneref02_simple.j4 kj25 l0 (l0.length : Int) x5_2 x6_3 true)) = some r := by rw [if_pos rfl] at H; exact H
                                              clear H
                                              have H := H1
                                              clear H1
                                              by_cases c33 : t458 = 1
                                              · rw [if_pos c33] at H
                                                have c33b0 : (t458 == 1) = true := beq_iff_eq.mpr c33
                                                have c33b1 : (t458 != 1) = false := bne_eq_false_iff_eq.mpr c33
                                                clear c33
                                                (first | rw [c33b0] | (simp only [i64_w, i32_w]; rw [c33b0]) | skip)
                                                have H' := Aside0.mk H
                                                clear H
                                                go_wp2
                                                go_meet
                                                case rel => exact ⟨_, (false), (by first | rfl | (simp; done) | (simp [*]; done)), H', ⟨by have := HK1.out; have := HK2.out; have := HK3.out; have := HJ25.out; first | omega | exact Nat.le_refl _⟩, ⟨by repeat (first | (with_reducible first | exact HB.out | apply below_alloc | apply pw_below_drewN | apply below_drew1) | exact HB.out)⟩⟩
                                              · rw [if_neg c33] at H
                                                have c33b0 : (t458 == 1) = false := beq_eq_false_iff_ne.mpr c33
                                                have c33b1 : (t458 != 1) = true := bne_iff_ne.mpr c33
                                                (first | rw [c33b0] | (simp only [i64_w, i32_w]; rw [c33b0]) | skip)
                                                have H' := Aside0.mk H
                                                clear H
                                                go_wp2
                                                go_meet
                                                case rel => exact ⟨_, (true), (by first | rfl | (simp; done) | (simp [*]; done)), H', ⟨by have := HK1.out; have := HK2.out; have := HK3.out; have := HJ25.out; first | omega | exact Nat.le_refl _⟩, ⟨by repeat (first | (with_reducible first | exact HB.out | apply below_alloc | apply pw_below_drewN | apply below_drew1) | exact HB.out)⟩⟩
                                            · replace c32 := Bool.eq_false_iff.mpr c32
                                              subst c32
                                              have H1 : (boundstoneref02_simple.j4 kj25 l0 (l0.length : Int) x5_2 x6_3 (t458 != 0)) = some r := by rw [if_neg (show ¬ (false = true) by decide)] at H; exact H
                                              clear H
                                              have H := H1
                                              clear H1
                                              have H' := Aside0.mk H
                                              clear H
                                              go_wp2
                                              go_meet
                                              case rel => exact ⟨_, ((t458 != 0)), (by first | rfl | (simp; done) | (simp [*]; done)), H', ⟨by have := HK1.out; have := HK2.out; have := HK3.out; have := HJ25.out; first | omega | exact Nat.le_refl _⟩, ⟨by repeat (first | (with_reducible first | exact HB.out | apply below_alloc | apply pw_below_drewN | apply below_drew1) | exact HB.out)⟩⟩
                                          case rest =>
                                            clear HC31
                                            try clear c1
                                            try clear c2
                                            try clear c2b0
                                            try clear p2
                                            try clear c3
                                            try clear c3b0
                                            try clear c4
                                            try clear c4b0
                                            try clear p4
                                            try clear q4
                                            try clear hx4
                                            try clear c5
                                            try clear c5b0
                                            try clear c5b1
                                            try clear c5b2
                                            try clear p6
                                            try clear c7
                                            try clear c7b0
                                            try clear c8
                                            try clear c8b0
                                            try clear c9
                                            try clear c9b0
                                            try clear c9b1
                                            try clear c9b2
                                            try clear c12
                                            try clear c12b0
                                            try clear c13
                                            try clear c13b0
                                            try clear c14
                                            try clear c14b0
                                            try clear c15
                                            try clear c15b0
                                            try clear c16
                                            try clear c16b0
                                            try clear c16b1
                                            try clear c16b2
                                            try clear c18
                                            try clear c18b0
                                            try clear c19
                                            try clear c19b0
                                            try clear c20
                                            try clear c20b0
                                            try clear c21
                                            try clear c21b0
                                            try clear c23
                                            try clear c23b0
                                            try clear c24
                                            try clear c24b0
                                            try clear c29
                                            try clear c29b0
                                            try clear c29b1
                                            try clear c30
                                            try clear c30b0
                                            try clear c30b1
                                            try clear c32
                                            try clear c33
                                            try clear c33b0
                                            try clear c33b1
                                            try clear hx452_0
                                            try clear hx452_1
                                            try clear hx453_0
                                            try clear hx453_1
                                            try clear hx454_0
                                            try clear hx454_1
                                            try clear hx455_0
                                            try clear hx455_1
                                            try clear hx456_0
                                            try clear hx456_1
                                            try clear hx457_0
                                            try clear hx457_1
                                            try clear p2
                                            try clear p4
                                            try clear p452
                                            try clear p453
                                            try clear p454
                                            try clear p455
                                            try clear p456
                                            try clear p457
                                            try clear p6
                                            try clear q4
                                            try clear q452
                                            try clear q453
                                            try clear q454
                                            try clear q455
                                            try clear q456
                                            try clear q457
                                            obtain ⟨kq, x89_30, rfl, HA, HJ30, HB⟩ := hcut
                                            cases kq with
                                            | zero => exact absurd HA.out (by simp [boundstoneref02_simple.j4])
                                            | succ kj30 =>
                                              have H := HA.out
                                              clear HA
                                              simp only [boundstoneref02_simple.j4] at H
                                              by_cases c34 : x89_30 = true
                                              · subst c34
                                                have H1 : (some false) = some r := by rw [if_pos rfl] at H; exact H
                                                clear H
                                                have H := H1
                                                clear H1
                                                obtain rfl := Option.some.inj H
                                                go_wp2
                                                go_ret
                                                exact ⟨by first | rfl | (simp [errW_none, errW_some] <;> rfl) | (simp only [← hji17, ← hji22]; first | rfl | (simp [errW_none, errW_some] <;> rfl)) | (simp [*, errW_none, errW_some] <;> rfl), by repeat (first | (with_reducible first | exact HB.out | apply below_alloc | apply pw_below_drewN | apply below_drew1) | exact HB.out)⟩
                                              · replace c34 := Bool.eq_false_iff.mpr c34
                                                subst c34
                                                have H1 : (boundstoneref02_simple.l2 kj30 l0 (l0.length : Int) x5_2 (wrap64 (x6_3 + 1))) = some r := by rw [if_neg (show ¬ (false = true) by decide)] at H; exact H
                                                clear H
                                                have H := H1
                                                clear H1
                                                have H' := Aside0.mk H
                                                clear H
                                                go_wp2
                                                go_roundg kj30
                                                case measure => have := HK1.out; have := HK2.out; have := HK3.out; have := HJ25.out; have := HJ30.out; omega
                                                case rel => exact ⟨(wrap64 (x6_3 + 1)), (by first | rfl | (simp; done) | (simp [*]; done)), H', ⟨by have := HK1.out; have := HK2.out; have := HK3.out; have := HJ25.out; have := HJ30.out; omega⟩, ⟨by repeat (first | (with_reducible first | exact HB.out | apply below_alloc | apply pw_below_drewN | apply below_drew1) | exact HB.out)⟩⟩
                                    · rw [if_neg c24] at H
                                      exact absurd H (by simp)
                                  · rw [if_neg c23] at H
                                    exact absurd H (by simp)
                                · rw [if_neg c21] at H
                                  exact absurd H (by simp)
                              · rw [if_neg c20] at H
                                exact absurd H (by simp)
                            · rw [if_neg c19] at H
                              exact absurd H (by simp)
                          · rw [if_neg c18] at H
                            exact absurd H (by simp)
                      · rw [if_neg c15] at H
                        exact absurd H (by simp)
                    · rw [if_neg c14] at H
                      exact absurd H (by simp)
                  · rw [if_neg c13] at H
                    have c13b0 : decide (x6_3 < x5_2) = false := decide_eq_false c13
                    clear c13
                    have H' := Aside0.mk H
                    clear H
                    go_wp2
                    go_roundg k3
                    case measure => have := HK1.out; have := HK2.out; have := HK3.out; omega
                    case rel => exact ⟨(wrap64 (x5_2 + 1)), (by first | rfl | (simp; done) | (simp [*]; done)), H', ⟨by have := HK1.out; have := HK2.out; have := HK3.out; omega⟩, ⟨by repeat (first | (with_reducible first | exact HB.out | apply below_alloc | apply pw_below_drewN | apply below_drew1) | exact HB.out)⟩⟩
            · rw [if_neg c12] at H
              have c12b0 : decide (x5_2 < (l0.length : Int)) = false := decide_eq_false c12
              clear c12
              obtain rfl := Option.some.inj H
              go_wp2
              go_ret
              exact ⟨by first | rfl | (simp [errW_none, errW_some] <;> rfl) | (simp [*, errW_none, errW_some] <;> rfl), by repeat (first | (with_reducible first | exact HB.out | apply below_alloc | apply pw_below_drewN | apply below_drew1) | exact HB.out)⟩
end Go.Proofs.Ytckaejgamfllfaa.G
end

section
namespace Go.Proofs.Ytckaejgamfllfaa.G
open Go.RowKit Go.Proofs.YtckaejgamfllfaaW.PrintWords Go.Proofs.YtckaejgamfllfaaW.PrintLast Go.Proofs.YtckaejgamfllfaaW.PrintMore
attribute [local go_sem] max2_int min2_int max_two min_two max_three min_three max_four min_four
set_option linter.unusedVariables false
set_option linter.unusedSimpArgs false
def boundstoneref02_Simple.f (k : Nat) (l0 : List (S23)) : Option (Bool × Int) := (boundstoneref02_points.f k l0 3).bind fun t459 => (if t459 = 0 then ((boundstoneref02_simple.f k l0).bind fun t460 => (some (t460, 0))) else (some (false, t459)))
set_option maxHeartbeats 8000000 in
set_option maxRecDepth 100000 in
theorem boundstoneref02_Simple.calls (k : Nat) (A0 : Option Addr) (c0 : Nat) (l0 : List (S23)) (r1 : Bool) (r2 : Int) (w : World) (hr0 : Kd.C k23 w A0 l0.length l0) (hc0 : l0.length ≤ c0) (h : boundstoneref02_Simple.f k l0 = some (r1, r2)) :
    Calls Try.prog 34 #[.slice A0 l0.length c0] w fun e w' => e = .returned (.tuple #[.bool r1, .int .i64 r2]) ∧ Below w.heap.size w w' := by
  have HR0 := Aside0.mk hr0
  have HC0 := Aside0.mk hc0
  clear hr0 hc0
  have HB := Aside0.mk (Below.refl w.heap.size w)
  have H : ((boundstoneref02_points.f k l0 3).bind fun t459 => (if t459 = 0 then ((boundstoneref02_simple.f k l0).bind fun t460 => (some (t460, 0))) else (some (false, t459)))) = some (r1, r2) := h
  clear h
  replace H := Option.bind_eq_some_iff.mp H
  obtain ⟨t459, A20, H⟩ := H
  replace H : (if t459 = 0 then ((boundstoneref02_simple.f k l0).bind fun t460 => (some (t460, 0))) else (some (false, t459))) = some (r1, r2) := H
  have A2 := Aside0.mk A20
  clear A20
  by_cases c3 : t459 = 0
  · rw [if_pos c3] at H
    have c3b0 : (t459 == 0) = true := beq_iff_eq.mpr c3
    have c3b1 : (t459 != 0) = false := bne_eq_false_iff_eq.mpr c3
    clear c3
    replace H := Option.bind_eq_some_iff.mp H
    obtain ⟨t460, A40, H⟩ := H
    replace H : (some (t460, 0)) = some (r1, r2) := H
    have A4 := Aside0.mk A40
    clear A40
    simp only [Option.some.injEq, Prod.mk.injEq] at H
    obtain ⟨rfl, rfl⟩ := H
    go_enter Try.func34, Try.ntmps34
    go_wp2_with (first | ((with_reducible refine gate_callee (f := 94) rfl ?_); refine goesL_ (some 6) rfl rfl Try.func94 (by kernel_rfl) rfl #[.slice A0 l0.length c0, .int .i64 3] rfl (by (try simp only [List.map_toArray, List.map_cons, List.map_nil]); first | done | rfl | (simp only [List.length_drop, List.length_take]; rfl)) ?_; (with_reducible refine (boundstoneref02_points.calls k _ _ l0 3 t459 _ ?side1 ?side2 A2.out).mono ?_); (case side1 => repeat (first | exact HR0.out | (with_reducible refine Kd.C_alloc ?_ _) | (with_reducible refine Kd.C_drewN ?_ _) | (with_reducible refine Kd.C_drew ?_))); (case side2 => exact HC0.out); rintro e w5 ⟨rfl, hb⟩; refine ⟨_, rfl, ?_⟩; have n0_ := Aside0.mk (below_step (by repeat (first | (with_reducible first | exact HB.out | apply below_alloc | apply pw_below_drewN | apply below_drew1) | exact HB.out)) hb); clear HB; have HB := n0_; clear n0_; (try clear hb); (try clear hb2); (try clear hk); (try clear hi)) | ((with_reducible refine gate_callee (f := 96) rfl ?_); refine goesL_ (some 11) rfl rfl Try.func96 (by kernel_rfl) rfl #[.slice A0 l0.length c0] rfl (by (try simp only [List.map_toArray, List.map_cons, List.map_nil]); first | done | rfl | (simp only [List.length_drop, List.length_take]; rfl)) ?_; (with_reducible refine (boundstoneref02_simple.calls k _ _ l0 t460 _ ?side1 ?side2 A4.out).mono ?_); (case side1 => repeat (first | exact (Kd.C_below HR0.out HB.out) | (with_reducible refine Kd.C_alloc ?_ _) | (with_reducible refine Kd.C_drewN ?_ _) | (with_reducible refine Kd.C_drew ?_))); (case side2 => exact HC0.out); rintro e w6 ⟨rfl, hb⟩; refine ⟨_, rfl, ?_⟩; have n0_ := Aside0.mk (below_step (by repeat (first | (with_reducible first | exact HB.out | apply below_alloc | apply pw_below_drewN | apply below_drew1) | exact HB.out)) hb); clear HB; have HB := n0_; clear n0_; (try clear hb); (try clear hb2); (try clear hk); (try clear hi)))
    go_ret2
    exact ⟨by first | rfl | (simp [errW_none, errW_some] <;> rfl) | (simp [*, errW_none, errW_some] <;> rfl), by repeat (first | (with_reducible first | exact HB.out | apply below_alloc | apply pw_below_drewN | apply below_drew1) | exact HB.out)⟩
  · rw [if_neg c3] at H
    have c3b0 : (t459 == 0) = false := beq_eq_false_iff_ne.mpr c3
    have c3b1 : (t459 != 0) = true := bne_iff_ne.mpr c3
    simp only [Option.some.injEq, Prod.mk.injEq] at H
    obtain ⟨rfl, rfl⟩ := H
    go_enter Try.func34, Try.ntmps34
    go_wp2_with (first | ((with_reducible refine gate_callee (f := 94) rfl ?_); refine goesL_ (some 6) rfl rfl Try.func94 (by kernel_rfl) rfl #[.slice A0 l0.length c0, .int .i64 3] rfl (by (try simp only [List.map_toArray, List.map_cons, List.map_nil]); first | done | rfl | (simp only [List.length_drop, List.length_take]; rfl)) ?_; (with_reducible refine (boundstoneref02_points.calls k _ _ l0 3 t459 _ ?side1 ?side2 A2.out).mono ?_); (case side1 => repeat (first | exact HR0.out | (with_reducible refine Kd.C_alloc ?_ _) | (with_reducible refine Kd.C_drewN ?_ _) | (with_reducible refine Kd.C_drew ?_))); (case side2 => exact HC0.out); rintro e w7 ⟨rfl, hb⟩; refine ⟨_, rfl, ?_⟩; have n0_ := Aside0.mk (below_step (by repeat (first | (with_reducible first | exact HB.out | apply below_alloc | apply pw_below_drewN | apply below_drew1) | exact HB.out)) hb); clear HB; have HB := n0_; clear n0_; (try clear hb); (try clear hb2); (try clear hk); (try clear hi)))
    go_ret2
    exact ⟨by first | rfl | (simp [errW_none, errW_some] <;> rfl) | (simp [*, errW_none, errW_some] <;> rfl), by repeat (first | (with_reducible first | exact HB.out | apply below_alloc | apply pw_below_drewN | apply below_drew1) | exact HB.out)⟩
end Go.Proofs.Ytckaejgamfllfaa.G
end

section
namespace Go.Proofs.Ytckaejgamfllfaa.G
open Go.RowKit Go.Proofs.YtckaejgamfllfaaW.PrintWords Go.Proofs.YtckaejgamfllfaaW.PrintLast Go.Proofs.YtckaejgamfllfaaW.PrintMore
attribute [local go_sem] max2_int min2_int max_two min_two max_three min_three max_four min_four
set_option linter.unusedVariables false
set_option linter.unusedSimpArgs false
def plane_Winding.f (k : Nat) (l0 : List (S23)) (a1_0 : Int) (a1_1 : Int) : Option (Int × Int) := (plane_ring.f k l0 (([(⟨a1_0, a1_1⟩ : S23)] : List (S23)))).bind fun t465 => (if t465 = 0 then ((plane_border.f l0 a1_0 a1_1).bind fun t466 => (if t466 = true then (some (0, 4)) else ((plane_winding.f l0 a1_0 a1_1).bind fun t467 => (some (t467, 0))))) else (some (0, t465)))
set_option maxHeartbeats 8000000 in
set_option maxRecDepth 100000 in
theorem plane_Winding.calls (k : Nat) (A0 : Option Addr) (c0 : Nat) (l0 : List (S23)) (a1_0 : Int) (a1_1 : Int) (r1 : Int) (r2 : Int) (w : World) (hr0 : Kd.C k23 w A0 l0.length l0) (hc0 : l0.length ≤ c0) (h : plane_Winding.f k l0 a1_0 a1_1 = some (r1, r2)) :
    Calls Try.prog 35 #[.slice A0 l0.length c0, .agg #[.int .i64 a1_0, .int .i64 a1_1]] w fun e w' => e = .returned (.tuple #[.int .i64 r1, .int .i64 r2]) ∧ Below w.heap.size w w' := by
  have hu23 := Try.underlying23
  have HR0 := Aside0.mk hr0
  have HC0 := Aside0.mk hc0
  clear hr0 hc0
  have HB := Aside0.mk (Below.refl w.heap.size w)
  have H : ((plane_ring.f k l0 (([(⟨a1_0, a1_1⟩ : S23)] : List (S23)))).bind fun t465 => (if t465 = 0 then ((plane_border.f l0 a1_0 a1_1).bind fun t466 => (if t466 = true then (some (0, 4)) else ((plane_winding.f l0 a1_0 a1_1).bind fun t467 => (some (t467, 0))))) else (some (0, t465)))) = some (r1, r2) := h
  clear h
  obtain ⟨y462, hy462⟩ : ∃ y_ : List (S23), y_ = (([(⟨a1_0, a1_1⟩ : S23)] : List (S23))) := ⟨_, rfl⟩
  replace H : ((plane_ring.f k l0 y462).bind fun t465 => (if t465 = 0 then ((plane_border.f l0 a1_0 a1_1).bind fun t466 => (if t466 = true then (some (0, 4)) else ((plane_winding.f l0 a1_0 a1_1).bind fun t467 => (some (t467, 0))))) else (some (0, t465)))) = some (r1, r2) := by first | (rw [hy462]; with_reducible exact H) | (have H2_ := (Option.bind_some _ _).symm.trans H; rw [hy462]; with_reducible exact H2_) | (have H2_ := (Option.bind_some _ _).symm.trans H; with_reducible exact H2_) | with_reducible exact H | (rw [hy462]; exact H) | exact H
  have Ny462 := Aside0.mk hy462
  clear hy462
  replace H := Option.bind_eq_some_iff.mp H
  obtain ⟨t465, A30, H⟩ := H
  replace H : (if t465 = 0 then ((plane_border.f l0 a1_0 a1_1).bind fun t466 => (if t466 = true then (some (0, 4)) else ((plane_winding.f l0 a1_0 a1_1).bind fun t467 => (some (t467, 0))))) else (some (0, t465))) = some (r1, r2) := H
  have A3 := Aside0.mk A30
  clear A30
  by_cases c4 : t465 = 0
  · rw [if_pos c4] at H
    have c4b0 : (t465 == 0) = true := beq_iff_eq.mpr c4
    have c4b1 : (t465 != 0) = false := bne_eq_false_iff_eq.mpr c4
    clear c4
    replace H := Option.bind_eq_some_iff.mp H
    obtain ⟨t466, A50, H⟩ := H
    replace H : (if t466 = true then (some (0, 4)) else ((plane_winding.f l0 a1_0 a1_1).bind fun t467 => (some (t467, 0)))) = some (r1, r2) := H
    have A5 := Aside0.mk A50
    clear A50
    by_cases c6 : t466 = true
    · subst c6
      have H1 : (some (0, 4)) = some (r1, r2) := by rw [if_pos rfl] at H; exact H
      clear H
      have H := H1
      clear H1
      simp only [Option.some.injEq, Prod.mk.injEq] at H
      obtain ⟨rfl, rfl⟩ := H
      go_enter Try.func35, Try.ntmps35
      go_wp2_with (first | ((with_reducible refine gate_dst (N := 3) rfl ?_); refine box_event ?hg (N := 3) ?hd (cs := #[.int .i64 a1_0, .int .i64 a1_1]) (t := 23) ?hr ?_; (case hd => rfl); (case hg => rfl); (case hr => first | (go_simp; done) | (go_simp; rfl)); intro gb461 hg w7 hbox hb; have n0_ := Aside0.mk (below_step (by repeat (first | (with_reducible first | exact HB.out | apply below_alloc | apply pw_below_drewN | apply below_drew1) | exact HB.out)) hb); have n1_ := Aside0.mk (hbox); have n2_ := Aside0.mk ((by rw [hg]; exact (below_size (by repeat (first | (with_reducible first | exact HB.out | apply below_alloc | apply pw_below_drewN | apply below_drew1) | exact HB.out))) : w.heap.size ≤ gb461)); have n3_ := Aside0.mk ((by rw [hg]; exact (below_size (by repeat (first | (with_reducible first | exact HB.out | apply below_alloc | apply pw_below_drewN | apply below_drew1) | exact HB.out))) : w.heap.size ≤ gb461)); clear HB; have HB := n0_; have BK461 := n1_; have GW461 := n2_; have GE461 := n3_; clear n0_ n1_ n2_ n3_; clear hb hbox hg; have hcz8_0 : w7.cell? ⟨gb461, 0, none⟩ = some (.int .i64 a1_0) := (blk_cell BK461.out 0).trans rfl; have hcz8_1 : w7.cell? ⟨gb461, 1, none⟩ = some (.int .i64 a1_1) := (blk_cell BK461.out 1).trans rfl; have hfz8_0 := blk_frozen BK461.out 0; have hfz8_1 := blk_frozen BK461.out 1) | ((with_reducible refine gate_dst (N := 9) rfl ?_); refine Kd.R_lit k23 _ 23 ?hg (N := 9) ?hd (xs := ([(⟨a1_0, a1_1⟩ : S23)] : List (S23))) (inner := [.int .i64 a1_0, .int .i64 a1_1]) (ok := fun _ => True) (okp := fun _ => True) ?hr ?hp (fun _ hk => hk) trivial (Below.refl _ _) (Nat.le_refl _) (by simp) ?_; (case hd => rfl); (case hg => rfl); (case hr => first | (go_simp; done) | (go_simp; rfl)); (case hp => exact (Reps.c2 (show Kd.M k23 _ _ _ (⟨a1_0, a1_1⟩ : S23) [.int .i64 a1_0, .int .i64 a1_1] from (k23_mkM _ _ _ (⟨a1_0, a1_1⟩ : S23) )) (Reps.none _ _))); intro v463 w9 ho10 hb hg_ hnew_; clear hg_ hnew_; (first | rw [← Ny462.out] at ho10 | (simp only [Int.reduceToNat] at ho10; rw [← Ny462.out] at ho10)); have n0_ := Aside0.mk (Kd.R_lower (Kd.R_newB ho10 (g := gb461) (o := .cells #[.int .i64 a1_0, .int .i64 a1_1] 23 (0, 0)) (by (with_reducible repeat (first | refine blk_drewN ?_ _ | refine blk_drew ?_ | refine blk_alloc ?_ _)); exact BK461.out)) (below_size (by repeat (first | (with_reducible first | exact HB.out | apply below_alloc | apply pw_below_drewN | apply below_drew1 | refine below_set ?_ GE461.out) | exact HB.out)))); have n1_ := Aside0.mk (blk_below (g := gb461) (o := .cells #[.int .i64 a1_0, .int .i64 a1_1] 23 (0, 0)) (by (with_reducible repeat (first | refine blk_drewN ?_ _ | refine blk_drew ?_ | refine blk_alloc ?_ _)); exact BK461.out) hb); have n2_ := Aside0.mk (below_step (by repeat (first | (with_reducible first | exact HB.out | apply below_alloc | apply pw_below_drewN | apply below_drew1 | refine below_set ?_ GE461.out) | exact HB.out)) hb); clear BK461; clear HB; have HO464 := n0_; have BK461 := n1_; have HB := n2_; clear n0_ n1_ n2_; clear hb ho10; obtain ⟨Ao11, co11, eo11⟩ := Kd.R_slice HO464.out; subst eo11) | ((with_reducible refine gate_callee (f := 92) rfl ?_); refine goesL_ (some 10) rfl rfl Try.func92 (by kernel_rfl) rfl #[.slice A0 l0.length c0, .slice Ao11 y462.length co11] rfl (by (try simp only [List.map_toArray, List.map_cons, List.map_nil]); first | done | rfl | (simp only [List.length_drop, List.length_take]; rfl)) ?_; (with_reducible refine (plane_ring.calls k _ _ l0 _ _ y462 t465 _ ?side1 ?side2 ?side3 ?side4 A3.out).mono ?_); (case side1 => repeat (first | exact (Kd.C_below HR0.out HB.out) | (with_reducible refine Kd.C_alloc ?_ _) | (with_reducible refine Kd.C_drewN ?_ _) | (with_reducible refine Kd.C_drew ?_))); (case side2 => exact HC0.out); (case side3 => repeat (first | exact (Kd.R_reads' HO464.out).2.2 | (with_reducible refine Kd.C_alloc ?_ _) | (with_reducible refine Kd.C_drewN ?_ _) | (with_reducible refine Kd.C_drew ?_))); (case side4 => exact (Kd.R_reads' HO464.out).2.1); rintro e w12 ⟨rfl, hb⟩; refine ⟨_, rfl, ?_⟩; have n0_ := Aside0.mk (Kd.R_below (by (with_reducible repeat (first | apply Kd.R_alloc | apply Kd.R_drewN | apply Kd.R_drew)); exact HO464.out) hb); have n1_ := Aside0.mk (blk_below (g := gb461) (o := .cells #[.int .i64 a1_0, .int .i64 a1_1] 23 (0, 0)) (by (with_reducible repeat (first | refine blk_drewN ?_ _ | refine blk_drew ?_ | refine blk_alloc ?_ _)); exact BK461.out) hb); have n2_ := Aside0.mk (below_step (by repeat (first | (with_reducible first | exact HB.out | apply below_alloc | apply pw_below_drewN | apply below_drew1 | refine below_set ?_ GE461.out) | exact HB.out)) hb); clear HO464; clear BK461; clear HB; have HO464 := n0_; have BK461 := n1_; have HB := n2_; clear n0_ n1_ n2_; (try clear hb); (try clear hb2); (try clear hk); (try clear hi); have hcz13_0 : w12.cell? ⟨gb461, 0, none⟩ = some (.int .i64 a1_0) := (blk_cell BK461.out 0).trans rfl; have hcz13_1 : w12.cell? ⟨gb461, 1, none⟩ = some (.int .i64 a1_1) := (blk_cell BK461.out 1).trans rfl; have hfz13_0 := blk_frozen BK461.out 0; have hfz13_1 := blk_frozen BK461.out 1) | ((with_reducible refine gate_callee (f := 97) rfl ?_); refine goesL_ (some 16) rfl rfl Try.func97 (by kernel_rfl) rfl #[.slice A0 l0.length c0, .agg #[.int .i64 a1_0, .int .i64 a1_1]] rfl (by (try simp only [List.map_toArray, List.map_cons, List.map_nil]); first | done | rfl | (simp only [List.length_drop, List.length_take]; rfl)) ?_; (with_reducible refine (plane_border.calls _ _ l0 a1_0 a1_1 true _ ?side1 ?side2 A5.out).mono ?_); (case side1 => repeat (first | exact (Kd.C_below HR0.out HB.out) | (with_reducible refine Kd.C_alloc ?_ _) | (with_reducible refine Kd.C_drewN ?_ _) | (with_reducible refine Kd.C_drew ?_))); (case side2 => exact HC0.out); rintro e w14 ⟨rfl, hb⟩; refine ⟨_, rfl, ?_⟩; have n0_ := Aside0.mk (Kd.R_below (by (with_reducible repeat (first | apply Kd.R_alloc | apply Kd.R_drewN | apply Kd.R_drew)); exact HO464.out) hb); have n1_ := Aside0.mk (blk_below (g := gb461) (o := .cells #[.int .i64 a1_0, .int .i64 a1_1] 23 (0, 0)) (by (with_reducible repeat (first | refine blk_drewN ?_ _ | refine blk_drew ?_ | refine blk_alloc ?_ _)); exact BK461.out) hb); have n2_ := Aside0.mk (below_step (by repeat (first | (with_reducible first | exact HB.out | apply below_alloc | apply pw_below_drewN | apply below_drew1 | refine below_set ?_ GE461.out) | exact HB.out)) hb); clear HO464; clear BK461; clear HB; have HO464 := n0_; have BK461 := n1_; have HB := n2_; clear n0_ n1_ n2_; (try clear hb); (try clear hb2); (try clear hk); (try clear hi)))
      go_ret2
      exact ⟨by first | rfl | (simp [errW_none, errW_some] <;> rfl) | (simp [*, errW_none, errW_some] <;> rfl), by repeat (first | (with_reducible first | exact HB.out | apply below_alloc | apply pw_below_drewN | apply below_drew1 | refine below_set ?_ GE461.out) | exact HB.out)⟩
    · replace c6 := Bool.eq_false_iff.mpr c6
      subst c6
      have H1 : ((plane_winding.f l0 a1_0 a1_1).bind fun t467 => (some (t467, 0))) = some (r1, r2) := by rw [if_neg (show ¬ (false = true) by decide)] at H; exact H
      clear H
      have H := H1
      clear H1
      replace H := Option.bind_eq_some_iff.mp H
      obtain ⟨t467, A150, H⟩ := H
      replace H : (some (t467, 0)) = some (r1, r2) := H
      have A15 := Aside0.mk A150
      clear A150
      simp only [Option.some.injEq, Prod.mk.injEq] at H
      obtain ⟨rfl, rfl⟩ := H
      go_enter Try.func35, Try.ntmps35
      go_wp2_with (first | ((with_reducible refine gate_dst (N := 3) rfl ?_); refine box_event ?hg (N := 3) ?hd (cs := #[.int .i64 a1_0, .int .i64 a1_1]) (t := 23) ?hr ?_; (case hd => rfl); (case hg => rfl); (case hr => first | (go_simp; done) | (go_simp; rfl)); intro gb461 hg w16 hbox hb; have n0_ := Aside0.mk (below_step (by repeat (first | (with_reducible first | exact HB.out | apply below_alloc | apply pw_below_drewN | apply below_drew1) | exact HB.out)) hb); have n1_ := Aside0.mk (hbox); have n2_ := Aside0.mk ((by rw [hg]; exact (below_size (by repeat (first | (with_reducible first | exact HB.out | apply below_alloc | apply pw_below_drewN | apply below_drew1) | exact HB.out))) : w.heap.size ≤ gb461)); have n3_ := Aside0.mk ((by rw [hg]; exact (below_size (by repeat (first | (with_reducible first | exact HB.out | apply below_alloc | apply pw_below_drewN | apply below_drew1) | exact HB.out))) : w.heap.size ≤ gb461)); clear HB; have HB := n0_; have BK461 := n1_; have GW461 := n2_; have GE461 := n3_; clear n0_ n1_ n2_ n3_; clear hb hbox hg; have hcz17_0 : w16.cell? ⟨gb461, 0, none⟩ = some (.int .i64 a1_0) := (blk_cell BK461.out 0).trans rfl; have hcz17_1 : w16.cell? ⟨gb461, 1, none⟩ = some (.int .i64 a1_1) := (blk_cell BK461.out 1).trans rfl; have hfz17_0 := blk_frozen BK461.out 0; have hfz17_1 := blk_frozen BK461.out 1) | ((with_reducible refine gate_dst (N := 9) rfl ?_); refine Kd.R_lit k23 _ 23 ?hg (N := 9) ?hd (xs := ([(⟨a1_0, a1_1⟩ : S23)] : List (S23))) (inner := [.int .i64 a1_0, .int .i64 a1_1]) (ok := fun _ => True) (okp := fun _ => True) ?hr ?hp (fun _ hk => hk) trivial (Below.refl _ _) (Nat.le_refl _) (by simp) ?_; (case hd => rfl); (case hg => rfl); (case hr => first | (go_simp; done) | (go_simp; rfl)); (case hp => exact (Reps.c2 (show Kd.M k23 _ _ _ (⟨a1_0, a1_1⟩ : S23) [.int .i64 a1_0, .int .i64 a1_1] from (k23_mkM _ _ _ (⟨a1_0, a1_1⟩ : S23) )) (Reps.none _ _))); intro v463 w18 ho19 hb hg_ hnew_; clear hg_ hnew_; (first | rw [← Ny462.out] at ho19 | (simp only [Int.reduceToNat] at ho19; rw [← Ny462.out] at ho19)); have n0_ := Aside0.mk (Kd.R_lower (Kd.R_newB ho19 (g := gb461) (o := .cells #[.int .i64 a1_0, .int .i64 a1_1] 23 (0, 0)) (by (with_reducible repeat (first | refine blk_drewN ?_ _ | refine blk_drew ?_ | refine blk_alloc ?_ _)); exact BK461.out)) (below_size (by repeat (first | (with_reducible first | exact HB.out | apply below_alloc | apply pw_below_drewN | apply below_drew1 | refine below_set ?_ GE461.out) | exact HB.out)))); have n1_ := Aside0.mk (blk_below (g := gb461) (o := .cells #[.int .i64 a1_0, .int .i64 a1_1] 23 (0, 0)) (by (with_reducible repeat (first | refine blk_drewN ?_ _ | refine blk_drew ?_ | refine blk_alloc ?_ _)); exact BK461.out) hb); have n2_ := Aside0.mk (below_step (by repeat (first | (with_reducible first | exact HB.out | apply below_alloc | apply pw_below_drewN | apply below_drew1 | refine below_set ?_ GE461.out) | exact HB.out)) hb); clear BK461; clear HB; have HO464 := n0_; have BK461 := n1_; have HB := n2_; clear n0_ n1_ n2_; clear hb ho19; obtain ⟨Ao20, co20, eo20⟩ := Kd.R_slice HO464.out; subst eo20) | ((with_reducible refine gate_callee (f := 92) rfl ?_); refine goesL_ (some 10) rfl rfl Try.func92 (by kernel_rfl) rfl #[.slice A0 l0.length c0, .slice Ao20 y462.length co20] rfl (by (try simp only [List.map_toArray, List.map_cons, List.map_nil]); first | done | rfl | (simp only [List.length_drop, List.length_take]; rfl)) ?_; (with_reducible refine (plane_ring.calls k _ _ l0 _ _ y462 t465 _ ?side1 ?side2 ?side3 ?side4 A3.out).mono ?_); (case side1 => repeat (first | exact (Kd.C_below HR0.out HB.out) | (with_reducible refine Kd.C_alloc ?_ _) | (with_reducible refine Kd.C_drewN ?_ _) | (with_reducible refine Kd.C_drew ?_))); (case side2 => exact HC0.out); (case side3 => repeat (first | exact (Kd.R_reads' HO464.out).2.2 | (with_reducible refine Kd.C_alloc ?_ _) | (with_reducible refine Kd.C_drewN ?_ _) | (with_reducible refine Kd.C_drew ?_))); (case side4 => exact (Kd.R_reads' HO464.out).2.1); rintro e w21 ⟨rfl, hb⟩; refine ⟨_, rfl, ?_⟩; have n0_ := Aside0.mk (Kd.R_below (by (with_reducible repeat (first | apply Kd.R_alloc | apply Kd.R_drewN | apply Kd.R_drew)); exact HO464.out) hb); have n1_ := Aside0.mk (blk_below (g := gb461) (o := .cells #[.int .i64 a1_0, .int .i64 a1_1] 23 (0, 0)) (by (with_reducible repeat (first | refine blk_drewN ?_ _ | refine blk_drew ?_ | refine blk_alloc ?_ _)); exact BK461.out) hb); have n2_ := Aside0.mk (below_step (by repeat (first | (with_reducible first | exact HB.out | apply below_alloc | apply pw_below_drewN | apply below_drew1 | refine below_set ?_ GE461.out) | exact HB.out)) hb); clear HO464; clear BK461; clear HB; have HO464 := n0_; have BK461 := n1_; have HB := n2_; clear n0_ n1_ n2_; (try clear hb); (try clear hb2); (try clear hk); (try clear hi); have hcz22_0 : w21.cell? ⟨gb461, 0, none⟩ = some (.int .i64 a1_0) := (blk_cell BK461.out 0).trans rfl; have hcz22_1 : w21.cell? ⟨gb461, 1, none⟩ = some (.int .i64 a1_1) := (blk_cell BK461.out 1).trans rfl; have hfz22_0 := blk_frozen BK461.out 0; have hfz22_1 := blk_frozen BK461.out 1) | ((with_reducible refine gate_callee (f := 97) rfl ?_); refine goesL_ (some 16) rfl rfl Try.func97 (by kernel_rfl) rfl #[.slice A0 l0.length c0, .agg #[.int .i64 a1_0, .int .i64 a1_1]] rfl (by (try simp only [List.map_toArray, List.map_cons, List.map_nil]); first | done | rfl | (simp only [List.length_drop, List.length_take]; rfl)) ?_; (with_reducible refine (plane_border.calls _ _ l0 a1_0 a1_1 false _ ?side1 ?side2 A5.out).mono ?_); (case side1 => repeat (first | exact (Kd.C_below HR0.out HB.out) | (with_reducible refine Kd.C_alloc ?_ _) | (with_reducible refine Kd.C_drewN ?_ _) | (with_reducible refine Kd.C_drew ?_))); (case side2 => exact HC0.out); rintro e w23 ⟨rfl, hb⟩; refine ⟨_, rfl, ?_⟩; have n0_ := Aside0.mk (Kd.R_below (by (with_reducible repeat (first | apply Kd.R_alloc | apply Kd.R_drewN | apply Kd.R_drew)); exact HO464.out) hb); have n1_ := Aside0.mk (blk_below (g := gb461) (o := .cells #[.int .i64 a1_0, .int .i64 a1_1] 23 (0, 0)) (by (with_reducible repeat (first | refine blk_drewN ?_ _ | refine blk_drew ?_ | refine blk_alloc ?_ _)); exact BK461.out) hb); have n2_ := Aside0.mk (below_step (by repeat (first | (with_reducible first | exact HB.out | apply below_alloc | apply pw_below_drewN | apply below_drew1 | refine below_set ?_ GE461.out) | exact HB.out)) hb); clear HO464; clear BK461; clear HB; have HO464 := n0_; have BK461 := n1_; have HB := n2_; clear n0_ n1_ n2_; (try clear hb); (try clear hb2); (try clear hk); (try clear hi); have hcz24_0 : w23.cell? ⟨gb461, 0, none⟩ = some (.int .i64 a1_0) := (blk_cell BK461.out 0).trans rfl; have hcz24_1 : w23.cell? ⟨gb461, 1, none⟩ = some (.int .i64 a1_1) := (blk_cell BK461.out 1).trans rfl; have hfz24_0 := blk_frozen BK461.out 0; have hfz24_1 := blk_frozen BK461.out 1) | ((with_reducible refine gate_callee (f := 98) rfl ?_); refine goesL_ (some 19) rfl rfl Try.func98 (by kernel_rfl) rfl #[.slice A0 l0.length c0, .agg #[.int .i64 a1_0, .int .i64 a1_1]] rfl (by (try simp only [List.map_toArray, List.map_cons, List.map_nil]); first | done | rfl | (simp only [List.length_drop, List.length_take]; rfl)) ?_; (with_reducible refine (plane_winding.calls _ _ l0 a1_0 a1_1 t467 _ ?side1 ?side2 A15.out).mono ?_); (case side1 => repeat (first | exact (Kd.C_below HR0.out HB.out) | (with_reducible refine Kd.C_alloc ?_ _) | (with_reducible refine Kd.C_drewN ?_ _) | (with_reducible refine Kd.C_drew ?_))); (case side2 => exact HC0.out); rintro e w25 ⟨rfl, hb⟩; refine ⟨_, rfl, ?_⟩; have n0_ := Aside0.mk (Kd.R_below (by (with_reducible repeat (first | apply Kd.R_alloc | apply Kd.R_drewN | apply Kd.R_drew)); exact HO464.out) hb); have n1_ := Aside0.mk (blk_below (g := gb461) (o := .cells #[.int .i64 a1_0, .int .i64 a1_1] 23 (0, 0)) (by (with_reducible repeat (first | refine blk_drewN ?_ _ | refine blk_drew ?_ | refine blk_alloc ?_ _)); exact BK461.out) hb); have n2_ := Aside0.mk (below_step (by repeat (first | (with_reducible first | exact HB.out | apply below_alloc | apply pw_below_drewN | apply below_drew1 | refine below_set ?_ GE461.out) | exact HB.out)) hb); clear HO464; clear BK461; clear HB; have HO464 := n0_; have BK461 := n1_; have HB := n2_; clear n0_ n1_ n2_; (try clear hb); (try clear hb2); (try clear hk); (try clear hi)))
      go_ret2
      exact ⟨by first | rfl | (simp [errW_none, errW_some] <;> rfl) | (simp [*, errW_none, errW_some] <;> rfl), by repeat (first | (with_reducible first | exact HB.out | apply below_alloc | apply pw_below_drewN | apply below_drew1 | refine below_set ?_ GE461.out) | exact HB.out)⟩
  · rw [if_neg c4] at H
    have c4b0 : (t465 == 0) = false := beq_eq_false_iff_ne.mpr c4
    have c4b1 : (t465 != 0) = true := bne_iff_ne.mpr c4
    simp only [Option.some.injEq, Prod.mk.injEq] at H
    obtain ⟨rfl, rfl⟩ := H
    go_enter Try.func35, Try.ntmps35
    go_wp2_with (first | ((with_reducible refine gate_dst (N := 3) rfl ?_); refine box_event ?hg (N := 3) ?hd (cs := #[.int .i64 a1_0, .int .i64 a1_1]) (t := 23) ?hr ?_; (case hd => rfl); (case hg => rfl); (case hr => first | (go_simp; done) | (go_simp; rfl)); intro gb461 hg w26 hbox hb; have n0_ := Aside0.mk (below_step (by repeat (first | (with_reducible first | exact HB.out | apply below_alloc | apply pw_below_drewN | apply below_drew1) | exact HB.out)) hb); have n1_ := Aside0.mk (hbox); have n2_ := Aside0.mk ((by rw [hg]; exact (below_size (by repeat (first | (with_reducible first | exact HB.out | apply below_alloc | apply pw_below_drewN | apply below_drew1) | exact HB.out))) : w.heap.size ≤ gb461)); have n3_ := Aside0.mk ((by rw [hg]; exact (below_size (by repeat (first | (with_reducible first | exact HB.out | apply below_alloc | apply pw_below_drewN | apply below_drew1) | exact HB.out))) : w.heap.size ≤ gb461)); clear HB; have HB := n0_; have BK461 := n1_; have GW461 := n2_; have GE461 := n3_; clear n0_ n1_ n2_ n3_; clear hb hbox hg; have hcz27_0 : w26.cell? ⟨gb461, 0, none⟩ = some (.int .i64 a1_0) := (blk_cell BK461.out 0).trans rfl; have hcz27_1 : w26.cell? ⟨gb461, 1, none⟩ = some (.int .i64 a1_1) := (blk_cell BK461.out 1).trans rfl; have hfz27_0 := blk_frozen BK461.out 0; have hfz27_1 := blk_frozen BK461.out 1) | ((with_reducible refine gate_dst (N := 9) rfl ?_); refine Kd.R_lit k23 _ 23 ?hg (N := 9) ?hd (xs := ([(⟨a1_0, a1_1⟩ : S23)] : List (S23))) (inner := [.int .i64 a1_0, .int .i64 a1_1]) (ok := fun _ => True) (okp := fun _ => True) ?hr ?hp (fun _ hk => hk) trivial (Below.refl _ _) (Nat.le_refl _) (by simp) ?_; (case hd => rfl); (case hg => rfl); (case hr => first | (go_simp; done) | (go_simp; rfl)); (case hp => exact (Reps.c2 (show Kd.M k23 _ _ _ (⟨a1_0, a1_1⟩ : S23) [.int .i64 a1_0, .int .i64 a1_1] from (k23_mkM _ _ _ (⟨a1_0, a1_1⟩ : S23) )) (Reps.none _ _))); intro v463 w28 ho29 hb hg_ hnew_; clear hg_ hnew_; (first | rw [← Ny462.out] at ho29 | (simp only [Int.reduceToNat] at ho29; rw [← Ny462.out] at ho29)); have n0_ := Aside0.mk (Kd.R_lower (Kd.R_newB ho29 (g := gb461) (o := .cells #[.int .i64 a1_0, .int .i64 a1_1] 23 (0, 0)) (by (with_reducible repeat (first | refine blk_drewN ?_ _ | refine blk_drew ?_ | refine blk_alloc ?_ _)); exact BK461.out)) (below_size (by repeat (first | (with_reducible first | exact HB.out | apply below_alloc | apply pw_below_drewN | apply below_drew1 | refine below_set ?_ GE461.out) | exact HB.out)))); have n1_ := Aside0.mk (blk_below (g := gb461) (o := .cells #[.int .i64 a1_0, .int .i64 a1_1] 23 (0, 0)) (by (with_reducible repeat (first | refine blk_drewN ?_ _ | refine blk_drew ?_ | refine blk_alloc ?_ _)); exact BK461.out) hb); have n2_ := Aside0.mk (below_step (by repeat (first | (with_reducible first | exact HB.out | apply below_alloc | apply pw_below_drewN | apply below_drew1 | refine below_set ?_ GE461.out) | exact HB.out)) hb); clear BK461; clear HB; have HO464 := n0_; have BK461 := n1_; have HB := n2_; clear n0_ n1_ n2_; clear hb ho29; obtain ⟨Ao30, co30, eo30⟩ := Kd.R_slice HO464.out; subst eo30) | ((with_reducible refine gate_callee (f := 92) rfl ?_); refine goesL_ (some 10) rfl rfl Try.func92 (by kernel_rfl) rfl #[.slice A0 l0.length c0, .slice Ao30 y462.length co30] rfl (by (try simp only [List.map_toArray, List.map_cons, List.map_nil]); first | done | rfl | (simp only [List.length_drop, List.length_take]; rfl)) ?_; (with_reducible refine (plane_ring.calls k _ _ l0 _ _ y462 t465 _ ?side1 ?side2 ?side3 ?side4 A3.out).mono ?_); (case side1 => repeat (first | exact (Kd.C_below HR0.out HB.out) | (with_reducible refine Kd.C_alloc ?_ _) | (with_reducible refine Kd.C_drewN ?_ _) | (with_reducible refine Kd.C_drew ?_))); (case side2 => exact HC0.out); (case side3 => repeat (first | exact (Kd.R_reads' HO464.out).2.2 | (with_reducible refine Kd.C_alloc ?_ _) | (with_reducible refine Kd.C_drewN ?_ _) | (with_reducible refine Kd.C_drew ?_))); (case side4 => exact (Kd.R_reads' HO464.out).2.1); rintro e w31 ⟨rfl, hb⟩; refine ⟨_, rfl, ?_⟩; have n0_ := Aside0.mk (Kd.R_below (by (with_reducible repeat (first | apply Kd.R_alloc | apply Kd.R_drewN | apply Kd.R_drew)); exact HO464.out) hb); have n1_ := Aside0.mk (blk_below (g := gb461) (o := .cells #[.int .i64 a1_0, .int .i64 a1_1] 23 (0, 0)) (by (with_reducible repeat (first | refine blk_drewN ?_ _ | refine blk_drew ?_ | refine blk_alloc ?_ _)); exact BK461.out) hb); have n2_ := Aside0.mk (below_step (by repeat (first | (with_reducible first | exact HB.out | apply below_alloc | apply pw_below_drewN | apply below_drew1 | refine below_set ?_ GE461.out) | exact HB.out)) hb); clear HO464; clear BK461; clear HB; have HO464 := n0_; have BK461 := n1_; have HB := n2_; clear n0_ n1_ n2_; (try clear hb); (try clear hb2); (try clear hk); (try clear hi)))
    go_ret2
    exact ⟨by first | rfl | (simp [errW_none, errW_some] <;> rfl) | (simp [*, errW_none, errW_some] <;> rfl), by repeat (first | (with_reducible first | exact HB.out | apply below_alloc | apply pw_below_drewN | apply below_drew1 | refine below_set ?_ GE461.out) | exact HB.out)⟩
end Go.Proofs.Ytckaejgamfllfaa.G
end

section
namespace Go.Proofs.Ytckaejgamfllfaa.G
open Go.RowKit Go.Proofs.YtckaejgamfllfaaW.PrintWords Go.Proofs.YtckaejgamfllfaaW.PrintLast Go.Proofs.YtckaejgamfllfaaW.PrintMore
attribute [local go_sem] max2_int min2_int max_two min_two max_three min_three max_four min_four
set_option linter.unusedVariables false
set_option linter.unusedSimpArgs false
mutual
def boundstoneref02_winding.l0 : Nat → List (S23) → Int → Int → Int → Int → Option (Int)
  | 0, _, _, _, _, _ => none
  | k + 1, x0, x5, x6, x473000, x473001 => if x6 < (x0.length : Int) then (if 0 ≤ x6 then (if (x0.length : Int) = 0 then (none) else (if 0 ≤ (Int.tmod (wrap64 (x6 + 1)) (x0.length : Int)) then (if (Int.tmod (wrap64 (x6 + 1)) (x0.length : Int)) < (x0.length : Int) then (if ((rd_T23 x0 x6).f1) ≤ x473001 then (if ((rd_T23 x0 (Int.tmod (wrap64 (x6 + 1)) (x0.length : Int))).f1) > x473001 then ((boundstoneref02_twice.f ((rd_T23 x0 x6).f0) ((rd_T23 x0 x6).f1) ((rd_T23 x0 (Int.tmod (wrap64 (x6 + 1)) (x0.length : Int))).f0) ((rd_T23 x0 (Int.tmod (wrap64 (x6 + 1)) (x0.length : Int))).f1) x473000 x473001).bind fun t477 => (boundstoneref02_winding.j1 k x0 x5 x6 (decide (t477 > 0)) x473000 x473001 ((rd_T23 x0 x6).f0) ((rd_T23 x0 x6).f1) ((rd_T23 x0 (Int.tmod (wrap64 (x6 + 1)) (x0.length : Int))).f0) ((rd_T23 x0 (Int.tmod (wrap64 (x6 + 1)) (x0.length : Int))).f1))) else (boundstoneref02_winding.j1 k x0 x5 x6 false x473000 x473001 ((rd_T23 x0 x6).f0) ((rd_T23 x0 x6).f1) ((rd_T23 x0 (Int.tmod (wrap64 (x6 + 1)) (x0.length : Int))).f0) ((rd_T23 x0 (Int.tmod (wrap64 (x6 + 1)) (x0.length : Int))).f1))) else (boundstoneref02_winding.j1 k x0 x5 x6 false x473000 x473001 ((rd_T23 x0 x6).f0) ((rd_T23 x0 x6).f1) ((rd_T23 x0 (Int.tmod (wrap64 (x6 + 1)) (x0.length : Int))).f0) ((rd_T23 x0 (Int.tmod (wrap64 (x6 + 1)) (x0.length : Int))).f1))) else (none)) else (none))) else (none)) else (some x5)
def boundstoneref02_winding.j1 : Nat → List (S23) → Int → Int → Bool → Int → Int → Int → Int → Int → Int → Option (Int)
  | 0, _, _, _, _, _, _, _, _, _, _ => none
  | k + 1, x0, x5, x6, x45, x473000, x473001, x475000, x475001, x477000, x477001 => if x45 = true then (boundstoneref02_winding.j2 k x0 (wrap64 (x5 + 1)) x6 x473000 x473001 x475000 x475001 x477000 x477001) else (boundstoneref02_winding.j2 k x0 x5 x6 x473000 x473001 x475000 x475001 x477000 x477001)
def boundstoneref02_winding.j2 : Nat → List (S23) → Int → Int → Int → Int → Int → Int → Int → Int → Option (Int)
  | 0, _, _, _, _, _, _, _, _, _ => none
  | k + 1, x0, x5, x6, x473000, x473001, x475000, x475001, x477000, x477001 => if x475001 > x473001 then (if x477001 ≤ x473001 then ((boundstoneref02_twice.f x475000 x475001 x477000 x477001 x473000 x473001).bind fun t478 => (boundstoneref02_winding.j3 k x0 x5 x6 (decide (t478 < 0)) x473000 x473001)) else (boundstoneref02_winding.j3 k x0 x5 x6 false x473000 x473001)) else (boundstoneref02_winding.j3 k x0 x5 x6 false x473000 x473001)
def boundstoneref02_winding.j3 : Nat → List (S23) → Int → Int → Bool → Int → Int → Option (Int)
  | 0, _, _, _, _, _, _ => none
  | k + 1, x0, x5, x6, x66, x473000, x473001 => if x66 = true then (boundstoneref02_winding.l0 k x0 (wrap64 (x5 - 1)) (wrap64 (x6 + 1)) x473000 x473001) else (boundstoneref02_winding.l0 k x0 x5 (wrap64 (x6 + 1)) x473000 x473001)
end
def boundstoneref02_winding.f (k : Nat) (l0 : List (S23)) (a1_0 : Int) (a1_1 : Int) : Option (Int) := boundstoneref02_winding.l0 k l0 0 0 a1_0 a1_1
set_option maxHeartbeats 8000000 in
set_option maxRecDepth 100000 in
theorem boundstoneref02_winding.calls (k : Nat) (A0 : Option Addr) (c0 : Nat) (l0 : List (S23)) (a1_0 : Int) (a1_1 : Int) (r : Int) (w : World) (hr0 : Kd.C k23 w A0 l0.length l0) (hc0 : l0.length ≤ c0) (h : boundstoneref02_winding.f k l0 a1_0 a1_1 = some r) :
    Calls Try.prog 100 #[.slice A0 l0.length c0, .agg #[.int .i64 a1_0, .int .i64 a1_1]] w fun e w' => e = .returned (.int .i64 r) ∧ Below w.heap.size w w' := by
  have hu23 := Try.underlying23
  have HR0 := Aside0.mk hr0
  have HC0 := Aside0.mk hc0
  clear hr0 hc0
  have HB := Aside0.mk (Below.refl w.heap.size w)
  have H : (boundstoneref02_winding.l0 k l0 0 0 a1_0 a1_1) = some r := h
  clear h
  have H' := Aside0.mk H
  clear H
  go_enter Try.func100, Try.ntmps100
  go_wp2_with (first | ((with_reducible refine gate_dst (N := 3) rfl ?_); refine box_event ?hg (N := 3) ?hd (cs := #[.int .i64 a1_0, .int .i64 a1_1]) (t := 23) ?hr ?_; (case hd => rfl); (case hg => rfl); (case hr => first | (go_simp; done) | (go_simp; rfl)); intro gb472 hg w3 hbox hb; have n0_ := Aside0.mk (below_step (by repeat (first | (with_reducible first | exact HB.out | apply below_alloc | apply pw_below_drewN | apply below_drew1) | exact HB.out)) hb); have n1_ := Aside0.mk (hbox); have n2_ := Aside0.mk ((by rw [hg]; exact (below_size (by repeat (first | (with_reducible first | exact HB.out | apply below_alloc | apply pw_below_drewN | apply below_drew1) | exact HB.out))) : w.heap.size ≤ gb472)); have n3_ := Aside0.mk ((by rw [hg]; exact (below_size (by repeat (first | (with_reducible first | exact HB.out | apply below_alloc | apply pw_below_drewN | apply below_drew1) | exact HB.out))) : w.heap.size ≤ gb472)); clear HB; have HB := n0_; have BK472 := n1_; have GW472 := n2_; have GE472 := n3_; clear n0_ n1_ n2_ n3_; clear hb hbox hg))
  go_loopg [5, 6] k (fun kq v5 v6 w' => ∃ (x5_1 : Int) (x6_1 : Int), v5 = .int .i64 x5_1 ∧ v6 = .int .i64 x6_1 ∧ Aside0 (boundstoneref02_winding.l0 kq l0 x5_1 x6_1 a1_0 a1_1 = some r) ∧ Aside0 (kq ≤ k) ∧ Aside0 (w'.heap[gb472]? = some (.cells #[.int .i64 a1_0, .int .i64 a1_1] 23 (0, 0))) ∧ Aside0 (Below w.heap.size w w'))
  case atStart => exact ⟨(0), (0), (by first | rfl | (simp; done) | (simp [*]; done)), (by first | rfl | (simp; done) | (simp [*]; done)), H', ⟨Nat.le_refl _⟩, ⟨by (with_reducible repeat (first | refine blk_drewN ?_ _ | refine blk_drew ?_ | refine blk_alloc ?_ _)); exact BK472.out⟩, ⟨by repeat (first | (with_reducible first | exact HB.out | apply below_alloc | apply pw_below_drewN | apply below_drew1 | refine below_set ?_ GE472.out) | exact HB.out)⟩⟩
  case round =>
    clear H'
    try clear c1
    try clear p2
    obtain ⟨x5_1, x6_1, rfl, rfl, HA, HK1, BK472, HB⟩ := hrel
    cases gk with
    | zero => exact absurd HA.out (by simp [boundstoneref02_winding.l0])
    | succ k1 =>
      have H := HA.out
      clear HA
      simp only [boundstoneref02_winding.l0] at H
      by_cases c4 : x6_1 < (l0.length : Int)
      · rw [if_pos c4] at H
        have c4b0 : decide (x6_1 < (l0.length : Int)) = true := decide_eq_true c4
        clear c4
        by_cases c5 : 0 ≤ x6_1
        · rw [if_pos c5] at H
          have c5b0 : decide (0 ≤ x6_1) = true := decide_eq_true c5
          clear c5
          by_cases c6 : (l0.length : Int) = 0
          · rw [if_pos c6] at H
            exact absurd H (by simp)
          · rw [if_neg c6] at H
            have c6b0 : ((l0.length : Int) == 0) = false := beq_eq_false_iff_ne.mpr c6
            have c6b1 : ((l0.length : Int) != 0) = true := bne_iff_ne.mpr c6
            have c6b2 : ¬ (l0 = []) := fun h_ => c6 (by rw [h_]; rfl)
            obtain ⟨ji7, hji7⟩ : ∃ j_ : Int, (Int.tmod (wrap64 (x6_1 + 1)) (l0.length : Int)) = j_ := ⟨_, rfl⟩
            replace H : (if 0 ≤ (ji7) then (if (ji7) < (l0.length : Int) then (if ((rd_T23 l0 x6_1).f1) ≤ a1_1 then (if ((rd_T23 l0 (ji7)).f1) > a1_1 then ((boundstoneref02_twice.f ((rd_T23 l0 x6_1).f0) ((rd_T23 l0 x6_1).f1) ((rd_T23 l0 (ji7)).f0) ((rd_T23 l0 (ji7)).f1) a1_0 a1_1).bind fun t477 => (boundstoneref02_winding.j1 k1 l0 x5_1 x6_1 (decide (t477 > 0)) a1_0 a1_1 ((rd_T23 l0 x6_1).f0) ((rd_T23 l0 x6_1).f1) ((rd_T23 l0 (ji7)).f0) ((rd_T23 l0 (ji7)).f1))) else (boundstoneref02_winding.j1 k1 l0 x5_1 x6_1 false a1_0 a1_1 ((rd_T23 l0 x6_1).f0) ((rd_T23 l0 x6_1).f1) ((rd_T23 l0 (ji7)).f0) ((rd_T23 l0 (ji7)).f1))) else (boundstoneref02_winding.j1 k1 l0 x5_1 x6_1 false a1_0 a1_1 ((rd_T23 l0 x6_1).f0) ((rd_T23 l0 x6_1).f1) ((rd_T23 l0 (ji7)).f0) ((rd_T23 l0 (ji7)).f1))) else (none)) else (none)) = some r := by first | (rw [hji7] at H; exact H) | (simp only [hji7] at H ⊢; exact H)
            by_cases c8 : 0 ≤ (ji7)
            · rw [if_pos c8] at H
              have c8b0 : decide (0 ≤ (ji7)) = true := decide_eq_true c8
              clear c8
              by_cases c9 : (ji7) < (l0.length : Int)
              · rw [if_pos c9] at H
                have c9b0 : decide ((ji7) < (l0.length : Int)) = true := decide_eq_true c9
                clear c9
                have HC10 := Aside0.mk H
                clear H
                have p473 : 0 ≤ (x6_1 : Int) := of_decide_eq_true (by first | (with_reducible assumption) | assumption)
                have q473 : x6_1 < (l0.length : Int) := of_decide_eq_true (by first | (with_reducible assumption) | assumption)
                obtain ⟨ad473, e473, hx473_0, hx473_1⟩ := at_T23 HR0.out x6_1 p473 q473
                cases e473
                replace hx473_0 := (HB.out.cell (World.block_lt_of_cell? w _ hx473_0)).trans hx473_0
                replace hx473_1 := (HB.out.cell (World.block_lt_of_cell? w _ hx473_1)).trans hx473_1
                replace p473 := eq_true p473
                replace q473 := eq_true q473
                go_upto_region 7 with (first | ((with_reducible refine gate_dst (N := 7) rfl ?_); refine box_event ?hg (N := 7) ?hd (cs := #[.int .i64 0, .int .i64 0]) (t := 23) ?hr ?_; (case hd => rfl); (case hg => rfl); (case hr => first | (go_simp; done) | (go_simp; rfl)); intro gb474 hg w11 hbox hb; have n0_ := Aside0.mk (blk_below (g := gb472) (o := .cells #[.int .i64 a1_0, .int .i64 a1_1] 23 (0, 0)) (by (with_reducible repeat (first | refine blk_drewN ?_ _ | refine blk_drew ?_ | refine blk_alloc ?_ _)); exact BK472.out) hb); have n1_ := Aside0.mk (below_step (by repeat (first | (with_reducible first | exact HB.out | apply below_alloc | apply pw_below_drewN | apply below_drew1 | refine below_set ?_ GE472.out) | exact HB.out)) hb); have n2_ := Aside0.mk (hbox); have n3_ := Aside0.mk ((by rw [hg]; exact (below_size (by repeat (first | (with_reducible first | exact HB.out | apply below_alloc | apply pw_below_drewN | apply below_drew1 | refine below_set ?_ GE472.out) | exact HB.out))) : w.heap.size ≤ gb474)); have n4_ := Aside0.mk ((by rw [hg]; exact (below_size (by repeat (first | (with_reducible first | exact HB.out | apply below_alloc | apply pw_below_drewN | apply below_drew1 | refine below_set ?_ GE472.out) | exact HB.out))) : w.heap.size ≤ gb474)); have n5_ := Aside0.mk ((by rw [hg]; exact Nat.ne_of_lt (blk_lt (g := gb472) (o := .cells #[.int .i64 a1_0, .int .i64 a1_1] 23 (0, 0)) (by (with_reducible repeat (first | refine blk_drewN ?_ _ | refine blk_drew ?_ | refine blk_alloc ?_ _)); exact BK472.out)) : gb472 ≠ gb474)); have n6_ := Aside0.mk ((by rw [hg]; exact Nat.ne_of_gt (blk_lt (g := gb472) (o := .cells #[.int .i64 a1_0, .int .i64 a1_1] 23 (0, 0)) (by (with_reducible repeat (first | refine blk_drewN ?_ _ | refine blk_drew ?_ | refine blk_alloc ?_ _)); exact BK472.out)) : gb474 ≠ gb472)); clear BK472; clear HB; have BK472 := n0_; have HB := n1_; have BK474 := n2_; have GW474 := n3_; have GE474 := n4_; have NB472_474 := n5_; have NB474_472 := n6_; clear n0_ n1_ n2_ n3_ n4_ n5_ n6_; clear hb hbox hg; have hnb12 := NB474_472.out; have hnc12 := NB472_474.out; have hcz13_0 : w11.cell? ⟨gb474, 0, none⟩ = some (.int .i64 0) := (blk_cell BK474.out 0).trans rfl; have hcz13_1 : w11.cell? ⟨gb474, 1, none⟩ = some (.int .i64 0) := (blk_cell BK474.out 1).trans rfl; have hfz13_0 := blk_frozen BK474.out 0; have hfz13_1 := blk_frozen BK474.out 1; have p475 : 0 ≤ ((ji7) : Int) := of_decide_eq_true (by first | (with_reducible assumption) | assumption); have q475 : (ji7) < (l0.length : Int) := of_decide_eq_true (by first | (with_reducible assumption) | assumption); obtain ⟨ad475, e475, hx475_0, hx475_1⟩ := at_T23 HR0.out (ji7) p475 q475; obtain rfl : ad473 = ad475 := (by injection e475); have hn475_0 : ad473.block ≠ gb474 := Nat.ne_of_lt (Nat.lt_of_lt_of_le (by have := World.block_lt_of_cell? _ _ hx475_0; first | rwa [add_block] at this | exact this) GW474.out); have hn475_1 : ad473.block ≠ gb474 := Nat.ne_of_lt (Nat.lt_of_lt_of_le (by have := World.block_lt_of_cell? _ _ hx475_0; first | rwa [add_block] at this | exact this) GW474.out); replace hx475_0 := (HB.out.cell (World.block_lt_of_cell? w _ hx475_0)).trans hx475_0; replace hx475_1 := (HB.out.cell (World.block_lt_of_cell? w _ hx475_1)).trans hx475_1; replace hx475_0 := (cell_far (p := ⟨gb474, 0, none⟩) (by first | (rw [add_block]; exact hn475_0) | (show (Addr.add _ _).block ≠ _; rw [add_block]; exact hn475_0) | exact hn475_0) (.int .i64 ((rd_T23 l0 x6_1).f0))).trans hx475_0; replace hx475_1 := (cell_far (p := ⟨gb474, 0, none⟩) (by first | (rw [add_block]; exact hn475_0) | (show (Addr.add _ _).block ≠ _; rw [add_block]; exact hn475_0) | exact hn475_0) (.int .i64 ((rd_T23 l0 x6_1).f0))).trans hx475_1; replace hx475_0 := (cell_far (p := ⟨gb474, 1, none⟩) (by first | (rw [add_block]; exact hn475_1) | (show (Addr.add _ _).block ≠ _; rw [add_block]; exact hn475_1) | exact hn475_1) (.int .i64 ((rd_T23 l0 x6_1).f1))).trans hx475_0; replace hx475_1 := (cell_far (p := ⟨gb474, 1, none⟩) (by first | (rw [add_block]; exact hn475_1) | (show (Addr.add _ _).block ≠ _; rw [add_block]; exact hn475_1) | exact hn475_1) (.int .i64 ((rd_T23 l0 x6_1).f1))).trans hx475_1; clear hn475_0; clear hn475_1; replace p475 := eq_true p475; replace q475 := eq_true q475) | ((with_reducible refine gate_dst (N := 8) rfl ?_); refine box_event ?hg (N := 8) ?hd (cs := #[.int .i64 0, .int .i64 0]) (t := 23) ?hr ?_; (case hd => rfl); (case hg => rfl); (case hr => first | (go_simp; done) | (go_simp; rfl)); intro gb476 hg w14 hbox hb; have n0_ := Aside0.mk (blk_below (g := gb472) (o := .cells #[.int .i64 a1_0, .int .i64 a1_1] 23 (0, 0)) (by (with_reducible repeat (first | refine blk_drewN ?_ _ | refine blk_drew ?_ | refine blk_alloc ?_ _)); refine blk_far ?_ NB472_474.out _; (with_reducible repeat (first | refine blk_drewN ?_ _ | refine blk_drew ?_ | refine blk_alloc ?_ _)); refine blk_far ?_ NB472_474.out _; (with_reducible repeat (first | refine blk_drewN ?_ _ | refine blk_drew ?_ | refine blk_alloc ?_ _)); exact BK472.out) hb); have n1_ := Aside0.mk (blk_below (g := gb474) (o := .cells #[.int .i64 ((rd_T23 l0 x6_1).f0), .int .i64 ((rd_T23 l0 x6_1).f1)] 23 (0, 0)) (by (with_reducible repeat (first | refine blk_drewN ?_ _ | refine blk_drew ?_ | refine blk_alloc ?_ _)); refine blk_put (cs := #[.int .i64 ((rd_T23 l0 x6_1).f0), .int .i64 0]) ?_ 1 _ rfl; (with_reducible repeat (first | refine blk_drewN ?_ _ | refine blk_drew ?_ | refine blk_alloc ?_ _)); refine blk_put (cs := #[.int .i64 0, .int .i64 0]) ?_ 0 _ rfl; (with_reducible repeat (first | refine blk_drewN ?_ _ | refine blk_drew ?_ | refine blk_alloc ?_ _)); exact BK474.out) hb); have n2_ := Aside0.mk (below_step (by repeat (first | (with_reducible first | exact HB.out | apply below_alloc | apply pw_below_drewN | apply below_drew1 | refine below_set ?_ GE472.out | refine below_set ?_ GE474.out) | exact HB.out)) hb); have n3_ := Aside0.mk (hbox); have n4_ := Aside0.mk ((by rw [hg]; exact (below_size (by repeat (first | (with_reducible first | exact HB.out | apply below_alloc | apply pw_below_drewN | apply below_drew1 | refine below_set ?_ GE472.out | refine below_set ?_ GE474.out) | exact HB.out))) : w.heap.size ≤ gb476)); have n5_ := Aside0.mk ((by rw [hg]; exact (below_size (by repeat (first | (with_reducible first | exact HB.out | apply below_alloc | apply pw_below_drewN | apply below_drew1 | refine below_set ?_ GE472.out | refine below_set ?_ GE474.out) | exact HB.out))) : w.heap.size ≤ gb476)); have n6_ := Aside0.mk ((by rw [hg]; exact Nat.ne_of_lt (blk_lt (g := gb472) (o := .cells #[.int .i64 a1_0, .int .i64 a1_1] 23 (0, 0)) (by (with_reducible repeat (first | refine blk_drewN ?_ _ | refine blk_drew ?_ | refine blk_alloc ?_ _)); refine blk_far ?_ NB472_474.out _; (with_reducible repeat (first | refine blk_drewN ?_ _ | refine blk_drew ?_ | refine blk_alloc ?_ _)); refine blk_far ?_ NB472_474.out _; (with_reducible repeat (first | refine blk_drewN ?_ _ | refine blk_drew ?_ | refine blk_alloc ?_ _)); exact BK472.out)) : gb472 ≠ gb476)); have n7_ := Aside0.mk ((by rw [hg]; exact Nat.ne_of_gt (blk_lt (g := gb472) (o := .cells #[.int .i64 a1_0, .int .i64 a1_1] 23 (0, 0)) (by (with_reducible repeat (first | refine blk_drewN ?_ _ | refine blk_drew ?_ | refine blk_alloc ?_ _)); refine blk_far ?_ NB472_474.out _; (with_reducible repeat (first | refine blk_drewN ?_ _ | refine blk_drew ?_ | refine blk_alloc ?_ _)); refine blk_far ?_ NB472_474.out _; (with_reducible repeat (first | refine blk_drewN ?_ _ | refine blk_drew ?_ | refine blk_alloc ?_ _)); exact BK472.out)) : gb476 ≠ gb472)); have n8_ := Aside0.mk ((by rw [hg]; exact Nat.ne_of_lt (blk_lt (g := gb474) (o := .cells #[.int .i64 ((rd_T23 l0 x6_1).f0), .int .i64 ((rd_T23 l0 x6_1).f1)] 23 (0, 0)) (by (with_reducible repeat (first | refine blk_drewN ?_ _ | refine blk_drew ?_ | refine blk_alloc ?_ _)); refine blk_put (cs := #[.int .i64 ((rd_T23 l0 x6_1).f0), .int .i64 0]) ?_ 1 _ rfl; (with_reducible repeat (first | refine blk_drewN ?_ _ | refine blk_drew ?_ | refine blk_alloc ?_ _)); refine blk_put (cs := #[.int .i64 0, .int .i64 0]) ?_ 0 _ rfl; (with_reducible repeat (first | refine blk_drewN ?_ _ | refine blk_drew ?_ | refine blk_alloc ?_ _)); exact BK474.out)) : gb474 ≠ gb476)); have n9_ := Aside0.mk ((by rw [hg]; exact Nat.ne_of_gt (blk_lt (g := gb474) (o := .cells #[.int .i64 ((rd_T23 l0 x6_1).f0), .int .i64 ((rd_T23 l0 x6_1).f1)] 23 (0, 0)) (by (with_reducible repeat (first | refine blk_drewN ?_ _ | refine blk_drew ?_ | refine blk_alloc ?_ _)); refine blk_put (cs := #[.int .i64 ((rd_T23 l0 x6_1).f0), .int .i64 0]) ?_ 1 _ rfl; (with_reducible repeat (first | refine blk_drewN ?_ _ | refine blk_drew ?_ | refine blk_alloc ?_ _)); refine blk_put (cs := #[.int .i64 0, .int .i64 0]) ?_ 0 _ rfl; (with_reducible repeat (first | refine blk_drewN ?_ _ | refine blk_drew ?_ | refine blk_alloc ?_ _)); exact BK474.out)) : gb476 ≠ gb474)); clear BK472; clear BK474; clear HB; have BK472 := n0_; have BK474 := n1_; have HB := n2_; have BK476 := n3_; have GW476 := n4_; have GE476 := n5_; have NB472_476 := n6_; have NB476_472 := n7_; have NB474_476 := n8_; have NB476_474 := n9_; clear n0_ n1_ n2_ n3_ n4_ n5_ n6_ n7_ n8_ n9_; clear hb hbox hg; have hnb15 := NB476_472.out; have hnc15 := NB472_476.out; have hnb16 := NB476_474.out; have hnc16 := NB474_476.out; have hcz17_0 : w14.cell? ⟨gb476, 0, none⟩ = some (.int .i64 0) := (blk_cell BK476.out 0).trans rfl; have hcz17_1 : w14.cell? ⟨gb476, 1, none⟩ = some (.int .i64 0) := (blk_cell BK476.out 1).trans rfl; have hfz17_0 := blk_frozen BK476.out 0; have hfz17_1 := blk_frozen BK476.out 1))
                (try simp only [Act.put, List.setIfInBounds_toArray, List.set_cons_zero, List.set_cons_succ])
                go_cut [45] (fun v45 wc => ∃ (kq : Nat) (x45_9 : Bool), v45 = .bool x45_9 ∧ Aside0 (boundstoneref02_winding.j1 kq l0 x5_1 x6_1 x45_9 a1_0 a1_1 ((rd_T23 l0 x6_1).f0) ((rd_T23 l0 x6_1).f1) ((rd_T23 l0 (ji7)).f0) ((rd_T23 l0 (ji7)).f1) = some r) ∧ Aside0 (kq ≤ k1) ∧ Aside0 (wc.heap[gb472]? = some (.cells #[.int .i64 a1_0, .int .i64 a1_1] 23 (0, 0))) ∧ Aside0 (wc.heap[gb474]? = some (.cells #[.int .i64 ((rd_T23 l0 x6_1).f0), .int .i64 ((rd_T23 l0 x6_1).f1)] 23 (0, 0))) ∧ Aside0 (wc.heap[gb476]? = some (.cells #[.int .i64 ((rd_T23 l0 (ji7)).f0), .int .i64 ((rd_T23 l0 (ji7)).f1)] 23 (0, 0))) ∧ Aside0 (Below w.heap.size w wc))
                case first =>
                  have H := HC10.out
                  clear HC10
                  by_cases c18 : ((rd_T23 l0 x6_1).f1) ≤ a1_1
                  · rw [if_pos c18] at H
                    have c18b0 : decide (((rd_T23 l0 x6_1).f1) ≤ a1_1) = true := decide_eq_true c18
                    clear c18
                    (first | rw [c18b0] | (simp only [i64_w, i32_w]; rw [c18b0]) | skip)
                    by_cases c19 : ((rd_T23 l0 (ji7)).f1) > a1_1
                    · rw [if_pos c19] at H
                      have c19b0 : decide (a1_1 < ((rd_T23 l0 (ji7)).f1)) = true := decide_eq_true c19
                      clear c19
                      replace H := Option.bind_eq_some_iff.mp H
                      obtain ⟨t477, A200, H⟩ := H
                      replace H : (boundstoneref02_winding.j1 k1 l0 x5_1 x6_1 (decide (t477 > 0)) a1_0 a1_1 ((rd_T23 l0 x6_1).f0) ((rd_T23 l0 x6_1).f1) ((rd_T23 l0 (ji7)).f0) ((rd_T23 l0 (ji7)).f1)) = some r := H
                      have A20 := Aside0.mk A200
                      clear A200
                      have H' := Aside0.mk H
                      clear H
                      have hnb21 := NB474_472.out
                      have hnc21 := NB472_474.out
                      have hnb22 := NB474_476.out
                      have hnc22 := NB476_474.out
                      have hcz23_0 : w14.cell? ⟨gb474, 0, none⟩ = some (.int .i64 ((rd_T23 l0 x6_1).f0)) := (blk_cell BK474.out 0).trans rfl
                      have hcz23_1 : w14.cell? ⟨gb474, 1, none⟩ = some (.int .i64 ((rd_T23 l0 x6_1).f1)) := (blk_cell BK474.out 1).trans rfl
                      have hfz23_0 := blk_frozen BK474.out 0
                      have hfz23_1 := blk_frozen BK474.out 1
                      have hnb24 := NB472_476.out
                      have hnc24 := NB476_472.out
                      have hcz25_0 : w14.cell? ⟨gb472, 0, none⟩ = some (.int .i64 a1_0) := (blk_cell BK472.out 0).trans rfl
                      have hcz25_1 : w14.cell? ⟨gb472, 1, none⟩ = some (.int .i64 a1_1) := (blk_cell BK472.out 1).trans rfl
                      have hfz25_0 := blk_frozen BK472.out 0
                      have hfz25_1 := blk_frozen BK472.out 1
                      have hcz26_0 : w14.cell? ⟨gb476, 0, none⟩ = some (.int .i64 0) := (blk_cell BK476.out 0).trans rfl
                      have hcz26_1 : w14.cell? ⟨gb476, 1, none⟩ = some (.int .i64 0) := (blk_cell BK476.out 1).trans rfl
                      have hfz26_0 := blk_frozen BK476.out 0
                      have hfz26_1 := blk_frozen BK476.out 1
                      go_wp2_with (first | (go_at_call 83; (with_reducible refine (boundstoneref02_twice.calls ((rd_T23 l0 x6_1).f0) ((rd_T23 l0 x6_1).f1) ((rd_T23 l0 (ji7)).f0) ((rd_T23 l0 (ji7)).f1) a1_0 a1_1 t477 _ A20.out).mono ?_); rintro e w27 ⟨rfl, hb⟩; have n0_ := Aside0.mk (blk_below (g := gb472) (o := .cells #[.int .i64 a1_0, .int .i64 a1_1] 23 (0, 0)) (by (with_reducible repeat (first | refine blk_drewN ?_ _ | refine blk_drew ?_ | refine blk_alloc ?_ _)); refine blk_far ?_ NB472_476.out _; (with_reducible repeat (first | refine blk_drewN ?_ _ | refine blk_drew ?_ | refine blk_alloc ?_ _)); refine blk_far ?_ NB472_476.out _; (with_reducible repeat (first | refine blk_drewN ?_ _ | refine blk_drew ?_ | refine blk_alloc ?_ _)); exact BK472.out) hb); have n1_ := Aside0.mk (blk_below (g := gb474) (o := .cells #[.int .i64 ((rd_T23 l0 x6_1).f0), .int .i64 ((rd_T23 l0 x6_1).f1)] 23 (0, 0)) (by (with_reducible repeat (first | refine blk_drewN ?_ _ | refine blk_drew ?_ | refine blk_alloc ?_ _)); refine blk_far ?_ NB474_476.out _; (with_reducible repeat (first | refine blk_drewN ?_ _ | refine blk_drew ?_ | refine blk_alloc ?_ _)); refine blk_far ?_ NB474_476.out _; (with_reducible repeat (first | refine blk_drewN ?_ _ | refine blk_drew ?_ | refine blk_alloc ?_ _)); exact BK474.out) hb); have n2_ := Aside0.mk (blk_below (g := gb476) (o := .cells #[.int .i64 ((rd_T23 l0 (ji7)).f0), .int .i64 ((rd_T23 l0 (ji7)).f1)] 23 (0, 0)) (by (with_reducible repeat (first | refine blk_drewN ?_ _ | refine blk_drew ?_ | refine blk_alloc ?_ _)); refine blk_put (cs := #[.int .i64 ((rd_T23 l0 (ji7)).f0), .int .i64 0]) ?_ 1 _ rfl; (with_reducible repeat (first | refine blk_drewN ?_ _ | refine blk_drew ?_ | refine blk_alloc ?_ _)); refine blk_put (cs := #[.int .i64 0, .int .i64 0]) ?_ 0 _ rfl; (with_reducible repeat (first | refine blk_drewN ?_ _ | refine blk_drew ?_ | refine blk_alloc ?_ _)); exact BK476.out) hb); have n3_ := Aside0.mk (below_step (by repeat (first | (with_reducible first | exact HB.out | apply below_alloc | apply pw_below_drewN | apply below_drew1 | refine below_set ?_ GE472.out | refine below_set ?_ GE474.out | refine below_set ?_ GE476.out) | exact HB.out)) hb); clear BK472; clear BK474; clear BK476; clear HB; have BK472 := n0_; have BK474 := n1_; have BK476 := n2_; have HB := n3_; clear n0_ n1_ n2_ n3_; (try clear hb); (try clear hb2); (try clear hk); (try clear hi)))
                      go_meet
                      case rel => exact ⟨_, (decide (t477 > 0)), (by first | rfl | (simp; done) | (simp [*]; done)), H', ⟨by have := HK1.out; first | omega | exact Nat.le_refl _⟩, ⟨by (with_reducible repeat (first | refine blk_drewN ?_ _ | refine blk_drew ?_ | refine blk_alloc ?_ _)); exact BK472.out⟩, ⟨by (with_reducible repeat (first | refine blk_drewN ?_ _ | refine blk_drew ?_ | refine blk_alloc ?_ _)); exact BK474.out⟩, ⟨by (with_reducible repeat (first | refine blk_drewN ?_ _ | refine blk_drew ?_ | refine blk_alloc ?_ _)); exact BK476.out⟩, ⟨by repeat (first | (with_reducible first | exact HB.out | apply below_alloc | apply pw_below_drewN | apply below_drew1 | refine below_set ?_ GE472.out | refine below_set ?_ GE474.out | refine below_set ?_ GE476.out) | exact HB.out)⟩⟩
                    · rw [if_neg c19] at H
                      have c19b0 : decide (a1_1 < ((rd_T23 l0 (ji7)).f1)) = false := decide_eq_false c19
                      clear c19
                      have H' := Aside0.mk H
                      clear H
                      have hnb28 := NB474_472.out
                      have hnc28 := NB472_474.out
                      have hnb29 := NB474_476.out
                      have hnc29 := NB476_474.out
                      have hcz30_0 : w14.cell? ⟨gb474, 0, none⟩ = some (.int .i64 ((rd_T23 l0 x6_1).f0)) := (blk_cell BK474.out 0).trans rfl
                      have hcz30_1 : w14.cell? ⟨gb474, 1, none⟩ = some (.int .i64 ((rd_T23 l0 x6_1).f1)) := (blk_cell BK474.out 1).trans rfl
                      have hfz30_0 := blk_frozen BK474.out 0
                      have hfz30_1 := blk_frozen BK474.out 1
                      have hnb31 := NB472_476.out
                      have hnc31 := NB476_472.out
                      have hcz32_0 : w14.cell? ⟨gb472, 0, none⟩ = some (.int .i64 a1_0) := (blk_cell BK472.out 0).trans rfl
                      have hcz32_1 : w14.cell? ⟨gb472, 1, none⟩ = some (.int .i64 a1_1) := (blk_cell BK472.out 1).trans rfl
                      have hfz32_0 := blk_frozen BK472.out 0
                      have hfz32_1 := blk_frozen BK472.out 1
                      have hcz33_0 : w14.cell? ⟨gb476, 0, none⟩ = some (.int .i64 0) := (blk_cell BK476.out 0).trans rfl
                      have hcz33_1 : w14.cell? ⟨gb476, 1, none⟩ = some (.int .i64 0) := (blk_cell BK476.out 1).trans rfl
                      have hfz33_0 := blk_frozen BK476.out 0
                      have hfz33_1 := blk_frozen BK476.out 1
                      go_wp2
                      go_meet
                      case rel => exact ⟨_, (false), (by first | rfl | (simp; done) | (simp [*]; done)), H', ⟨by have := HK1.out; first | omega | exact Nat.le_refl _⟩, ⟨by (with_reducible repeat (first | refine blk_drewN ?_ _ | refine blk_drew ?_ | refine blk_alloc ?_ _)); refine blk_far ?_ NB472_476.out _; (with_reducible repeat (first | refine blk_drewN ?_ _ | refine blk_drew ?_ | refine blk_alloc ?_ _)); refine blk_far ?_ NB472_476.out _; (with_reducible repeat (first | refine blk_drewN ?_ _ | refine blk_drew ?_ | refine blk_alloc ?_ _)); exact BK472.out⟩, ⟨by (with_reducible repeat (first | refine blk_drewN ?_ _ | refine blk_drew ?_ | refine blk_alloc ?_ _)); refine blk_far ?_ NB474_476.out _; (with_reducible repeat (first | refine blk_drewN ?_ _ | refine blk_drew ?_ | refine blk_alloc ?_ _)); refine blk_far ?_ NB474_476.out _; (with_reducible repeat (first | refine blk_drewN ?_ _ | refine blk_drew ?_ | refine blk_alloc ?_ _)); exact BK474.out⟩, ⟨by (with_reducible repeat (first | refine blk_drewN ?_ _ | refine blk_drew ?_ | refine blk_alloc ?_ _)); refine blk_put (cs := #[.int .i64 ((rd_T23 l0 (ji7)).f0), .int .i64 0]) ?_ 1 _ rfl; (with_reducible repeat (first | refine blk_drewN ?_ _ | refine blk_drew ?_ | refine blk_alloc ?_ _)); refine blk_put (cs := #[.int .i64 0, .int .i64 0]) ?_ 0 _ rfl; (with_reducible repeat (first | refine blk_drewN ?_ _ | refine blk_drew ?_ | refine blk_alloc ?_ _)); exact BK476.out⟩, ⟨by repeat (first | (with_reducible first | exact HB.out | apply below_alloc | apply pw_below_drewN | apply below_drew1 | refine below_set ?_ GE472.out | refine below_set ?_ GE474.out | refine below_set ?_ GE476.out) | exact HB.out)⟩⟩
                  · rw [if_neg c18] at H
                    have c18b0 : decide (((rd_T23 l0 x6_1).f1) ≤ a1_1) = false := decide_eq_false c18
                    clear c18
                    (first | rw [c18b0] | (simp only [i64_w, i32_w]; rw [c18b0]) | skip)
                    have H' := Aside0.mk H
                    clear H
                    have hnb34 := NB474_472.out
                    have hnc34 := NB472_474.out
                    have hnb35 := NB474_476.out
                    have hnc35 := NB476_474.out
                    have hcz36_0 : w14.cell? ⟨gb474, 0, none⟩ = some (.int .i64 ((rd_T23 l0 x6_1).f0)) := (blk_cell BK474.out 0).trans rfl
                    have hcz36_1 : w14.cell? ⟨gb474, 1, none⟩ = some (.int .i64 ((rd_T23 l0 x6_1).f1)) := (blk_cell BK474.out 1).trans rfl
                    have hfz36_0 := blk_frozen BK474.out 0
                    have hfz36_1 := blk_frozen BK474.out 1
                    have hnb37 := NB472_476.out
                    have hnc37 := NB476_472.out
                    have hcz38_0 : w14.cell? ⟨gb472, 0, none⟩ = some (.int .i64 a1_0) := (blk_cell BK472.out 0).trans rfl
                    have hcz38_1 : w14.cell? ⟨gb472, 1, none⟩ = some (.int .i64 a1_1) := (blk_cell BK472.out 1).trans rfl
                    have hfz38_0 := blk_frozen BK472.out 0
                    have hfz38_1 := blk_frozen BK472.out 1
                    go_wp2
                    go_meet
                    case rel => exact ⟨_, (false), (by first | rfl | (simp; done) | (simp [*]; done)), H', ⟨by have := HK1.out; first | omega | exact Nat.le_refl _⟩, ⟨by (with_reducible repeat (first | refine blk_drewN ?_ _ | refine blk_drew ?_ | refine blk_alloc ?_ _)); refine blk_far ?_ NB472_476.out _; (with_reducible repeat (first | refine blk_drewN ?_ _ | refine blk_drew ?_ | refine blk_alloc ?_ _)); refine blk_far ?_ NB472_476.out _; (with_reducible repeat (first | refine blk_drewN ?_ _ | refine blk_drew ?_ | refine blk_alloc ?_ _)); exact BK472.out⟩, ⟨by (with_reducible repeat (first | refine blk_drewN ?_ _ | refine blk_drew ?_ | refine blk_alloc ?_ _)); refine blk_far ?_ NB474_476.out _; (with_reducible repeat (first | refine blk_drewN ?_ _ | refine blk_drew ?_ | refine blk_alloc ?_ _)); refine blk_far ?_ NB474_476.out _; (with_reducible repeat (first | refine blk_drewN ?_ _ | refine blk_drew ?_ | refine blk_alloc ?_ _)); exact BK474.out⟩, ⟨by (with_reducible repeat (first | refine blk_drewN ?_ _ | refine blk_drew ?_ | refine blk_alloc ?_ _)); refine blk_put (cs := #[.int .i64 ((rd_T23 l0 (ji7)).f0), .int .i64 0]) ?_ 1 _ rfl; (with_reducible repeat (first | refine blk_drewN ?_ _ | refine blk_drew ?_ | refine blk_alloc ?_ _)); refine blk_put (cs := #[.int .i64 0, .int .i64 0]) ?_ 0 _ rfl; (with_reducible repeat (first | refine blk_drewN ?_ _ | refine blk_drew ?_ | refine blk_alloc ?_ _)); exact BK476.out⟩, ⟨by repeat (first | (with_reducible first | exact HB.out | apply below_alloc | apply pw_below_drewN | apply below_drew1 | refine below_set ?_ GE472.out | refine below_set ?_ GE474.out | refine below_set ?_ GE476.out) | exact HB.out)⟩⟩
                case rest =>
                  clear HC10
                  try clear c1
                  try clear c2
                  try clear p2
                  try clear c3
                  try clear c4
                  try clear c4b0
                  try clear p4
                  try clear q4
                  try clear hx4
                  try clear c5
                  try clear c5b0
                  try clear c6
                  try clear c6b0
                  try clear c6b1
                  try clear c6b2
                  try clear p6
                  try clear c8
                  try clear c8b0
                  try clear c9
                  try clear c9b0
                  try clear c10
                  try clear c12
                  try clear c15
                  try clear c16
                  try clear c18
                  try clear c18b0
                  try clear c19
                  try clear c19b0
                  try clear c21
                  try clear c22
                  try clear c24
                  try clear c28
                  try clear c29
                  try clear c31
                  try clear c34
                  try clear c35
                  try clear c37
                  try clear hcz13_0
                  try clear hcz13_1
                  try clear hcz17_0
                  try clear hcz17_1
                  try clear hcz23_0
                  try clear hcz23_1
                  try clear hcz25_0
                  try clear hcz25_1
                  try clear hcz26_0
                  try clear hcz26_1
                  try clear hcz30_0
                  try clear hcz30_1
                  try clear hcz32_0
                  try clear hcz32_1
                  try clear hcz33_0
                  try clear hcz33_1
                  try clear hcz36_0
                  try clear hcz36_1
                  try clear hcz38_0
                  try clear hcz38_1
                  try clear hfz13_0
                  try clear hfz13_1
                  try clear hfz17_0
                  try clear hfz17_1
                  try clear hfz23_0
                  try clear hfz23_1
                  try clear hfz25_0
                  try clear hfz25_1
                  try clear hfz26_0
                  try clear hfz26_1
                  try clear hfz30_0
                  try clear hfz30_1
                  try clear hfz32_0
                  try clear hfz32_1
                  try clear hfz33_0
                  try clear hfz33_1
                  try clear hfz36_0
                  try clear hfz36_1
                  try clear hfz38_0
                  try clear hfz38_1
                  try clear hx473_0
                  try clear hx473_1
                  try clear hx475_0
                  try clear hx475_1
                  try clear p2
                  try clear p473
                  try clear p475
                  try clear q473
                  try clear q475
                  obtain ⟨kq, x45_9, rfl, HA, HJ9, BK472, BK474, BK476, HB⟩ := hcut
                  cases kq with
                  | zero => exact absurd HA.out (by simp [boundstoneref02_winding.j1])
                  | succ kj9 =>
                    have H := HA.out
                    clear HA
                    simp only [boundstoneref02_winding.j1] at H
                    have HC39 := Aside0.mk H
                    clear H
                    go_upto_if 45 with (fail)
                    go_cut [5] (fun v5 wc => ∃ (kq : Nat) (x5_38 : Int), v5 = .int .i64 x5_38 ∧ Aside0 (boundstoneref02_winding.j2 kq l0 x5_38 x6_1 a1_0 a1_1 ((rd_T23 l0 x6_1).f0) ((rd_T23 l0 x6_1).f1) ((rd_T23 l0 (ji7)).f0) ((rd_T23 l0 (ji7)).f1) = some r) ∧ Aside0 (kq ≤ kj9) ∧ Aside0 (wc.heap[gb472]? = some (.cells #[.int .i64 a1_0, .int .i64 a1_1] 23 (0, 0))) ∧ Aside0 (wc.heap[gb474]? = some (.cells #[.int .i64 ((rd_T23 l0 x6_1).f0), .int .i64 ((rd_T23 l0 x6_1).f1)] 23 (0, 0))) ∧ Aside0 (wc.heap[gb476]? = some (.cells #[.int .i64 ((rd_T23 l0 (ji7)).f0), .int .i64 ((rd_T23 l0 (ji7)).f1)] 23 (0, 0))) ∧ Aside0 (Below w.heap.size w wc))
                    case first =>
                      have H := HC39.out
                      clear HC39
                      by_cases c40 : x45_9 = true
                      · subst c40
                        have H1 : (boundstoneref02_winding.j2 kj9 l0 (wrap64 (x5_1 + 1)) x6_1 a1_0 a1_1 ((rd_T23 l0 x6_1).f0) ((rd_T23 l0 x6_1).f1) ((rd_T23 l0 (ji7)).f0) ((rd_T23 l0 (ji7)).f1)) = some r := by rw [if_pos rfl] at H; exact H
                        clear H
                        have H := H1
                        clear H1
                        have H' := Aside0.mk H
                        clear H
                        go_wp2
                        go_meet
                        case rel => exact ⟨_, (wrap64 (x5_1 + 1)), (by first | rfl | (simp; done) | (simp [*]; done)), H', ⟨by have := HK1.out; have := HJ9.out; first | omega | exact Nat.le_refl _⟩, ⟨by (with_reducible repeat (first | refine blk_drewN ?_ _ | refine blk_drew ?_ | refine blk_alloc ?_ _)); exact BK472.out⟩, ⟨by (with_reducible repeat (first | refine blk_drewN ?_ _ | refine blk_drew ?_ | refine blk_alloc ?_ _)); exact BK474.out⟩, ⟨by (with_reducible repeat (first | refine blk_drewN ?_ _ | refine blk_drew ?_ | refine blk_alloc ?_ _)); exact BK476.out⟩, ⟨by repeat (first | (with_reducible first | exact HB.out | apply below_alloc | apply pw_below_drewN | apply below_drew1 | refine below_set ?_ GE472.out | refine below_set ?_ GE474.out | refine below_set ?_ GE476.out) | exact HB.out)⟩⟩
                      · replace c40 := Bool.eq_false_iff.mpr c40
                        subst c40
                        have H1 : (boundstoneref02_winding.j2 kj9 l0 x5_1 x6_1 a1_0 a1_1 ((rd_T23 l0 x6_1).f0) ((rd_T23 l0 x6_1).f1) ((rd_T23 l0 (ji7)).f0) ((rd_T23 l0 (ji7)).f1)) = some r := by rw [if_neg (show ¬ (false = true) by decide)] at H; exact H
                        clear H
                        have H := H1
                        clear H1
                        have H' := Aside0.mk H
                        clear H
                        go_wp2
                        go_meet
                        case rel => exact ⟨_, (x5_1), (by first | rfl | (simp; done) | (simp [*]; done)), H', ⟨by have := HK1.out; have := HJ9.out; first | omega | exact Nat.le_refl _⟩, ⟨by (with_reducible repeat (first | refine blk_drewN ?_ _ | refine blk_drew ?_ | refine blk_alloc ?_ _)); exact BK472.out⟩, ⟨by (with_reducible repeat (first | refine blk_drewN ?_ _ | refine blk_drew ?_ | refine blk_alloc ?_ _)); exact BK474.out⟩, ⟨by (with_reducible repeat (first | refine blk_drewN ?_ _ | refine blk_drew ?_ | refine blk_alloc ?_ _)); exact BK476.out⟩, ⟨by repeat (first | (with_reducible first | exact HB.out | apply below_alloc | apply pw_below_drewN | apply below_drew1 | refine below_set ?_ GE472.out | refine below_set ?_ GE474.out | refine below_set ?_ GE476.out) | exact HB.out)⟩⟩
                    case rest =>
                      clear HC39
                      try clear c1
                      try clear c2
                      try clear p2
                      try clear c3
                      try clear c4
                      try clear c4b0
                      try clear p4
                      try clear q4
                      try clear hx4
                      try clear c5
                      try clear c5b0
                      try clear c6
                      try clear c6b0
                      try clear c6b1
                      try clear c6b2
                      try clear p6
                      try clear c8
                      try clear c8b0
                      try clear c9
                      try clear c9b0
                      try clear c10
                      try clear c12
                      try clear c15
                      try clear c16
                      try clear c18
                      try clear c18b0
                      try clear c19
                      try clear c19b0
                      try clear c21
                      try clear c22
                      try clear c24
                      try clear c28
                      try clear c29
                      try clear c31
                      try clear c34
                      try clear c35
                      try clear c37
                      try clear c40
                      try clear hcz13_0
                      try clear hcz13_1
                      try clear hcz17_0
                      try clear hcz17_1
                      try clear hcz23_0
                      try clear hcz23_1
                      try clear hcz25_0
                      try clear hcz25_1
                      try clear hcz26_0
                      try clear hcz26_1
                      try clear hcz30_0
                      try clear hcz30_1
                      try clear hcz32_0
                      try clear hcz32_1
                      try clear hcz33_0
                      try clear hcz33_1
                      try clear hcz36_0
                      try clear hcz36_1
                      try clear hcz38_0
                      try clear hcz38_1
                      try clear hfz13_0
                      try clear hfz13_1
                      try clear hfz17_0
                      try clear hfz17_1
                      try clear hfz23_0
                      try clear hfz23_1
                      try clear hfz25_0
                      try clear hfz25_1
                      try clear hfz26_0
                      try clear hfz26_1
                      try clear hfz30_0
                      try clear hfz30_1
                      try clear hfz32_0
                      try clear hfz32_1
                      try clear hfz33_0
                      try clear hfz33_1
                      try clear hfz36_0
                      try clear hfz36_1
                      try clear hfz38_0
                      try clear hfz38_1
                      try clear hx473_0
                      try clear hx473_1
                      try clear hx475_0
                      try clear hx475_1
                      try clear p2
                      try clear p4
                      try clear p473
                      try clear p475
                      try clear p6
                      try clear q4
                      try clear q473
                      try clear q475
                      obtain ⟨kq, x5_38, rfl, HA, HJ38, BK472, BK474, BK476, HB⟩ := hcut
                      cases kq with
                      | zero => exact absurd HA.out (by simp [boundstoneref02_winding.j2])
                      | succ kj38 =>
                        have H := HA.out
                        clear HA
                        simp only [boundstoneref02_winding.j2] at H
                        have HC41 := Aside0.mk H
                        clear H
                        go_upto_region 9 with (fail)
                        go_cut [66] (fun v66 wc => ∃ (kq : Nat) (x66_40 : Bool), v66 = .bool x66_40 ∧ Aside0 (boundstoneref02_winding.j3 kq l0 x5_38 x6_1 x66_40 a1_0 a1_1 = some r) ∧ Aside0 (kq ≤ kj38) ∧ Aside0 (wc.heap[gb472]? = some (.cells #[.int .i64 a1_0, .int .i64 a1_1] 23 (0, 0))) ∧ Aside0 (wc.heap[gb474]? = some (.cells #[.int .i64 ((rd_T23 l0 x6_1).f0), .int .i64 ((rd_T23 l0 x6_1).f1)] 23 (0, 0))) ∧ Aside0 (wc.heap[gb476]? = some (.cells #[.int .i64 ((rd_T23 l0 (ji7)).f0), .int .i64 ((rd_T23 l0 (ji7)).f1)] 23 (0, 0))) ∧ Aside0 (Below w.heap.size w wc))
                        case first =>
                          have H := HC41.out
                          clear HC41
                          by_cases c42 : ((rd_T23 l0 x6_1).f1) > a1_1
                          · rw [if_pos c42] at H
                            have c42b0 : decide (a1_1 < ((rd_T23 l0 x6_1).f1)) = true := decide_eq_true c42
                            clear c42
                            (first | rw [c42b0] | (simp only [i64_w, i32_w]; rw [c42b0]) | skip)
                            by_cases c43 : ((rd_T23 l0 (ji7)).f1) ≤ a1_1
                            · rw [if_pos c43] at H
                              have c43b0 : decide (((rd_T23 l0 (ji7)).f1) ≤ a1_1) = true := decide_eq_true c43
                              clear c43
                              replace H := Option.bind_eq_some_iff.mp H
                              obtain ⟨t478, A440, H⟩ := H
                              replace H : (boundstoneref02_winding.j3 kj38 l0 x5_38 x6_1 (decide (t478 < 0)) a1_0 a1_1) = some r := H
                              have A44 := Aside0.mk A440
                              clear A440
                              have H' := Aside0.mk H
                              clear H
                              have hnb45 := NB474_472.out
                              have hnc45 := NB472_474.out
                              have hnb46 := NB474_476.out
                              have hnc46 := NB476_474.out
                              have hcz47_0 : wc.cell? ⟨gb474, 0, none⟩ = some (.int .i64 ((rd_T23 l0 x6_1).f0)) := (blk_cell BK474.out 0).trans rfl
                              have hcz47_1 : wc.cell? ⟨gb474, 1, none⟩ = some (.int .i64 ((rd_T23 l0 x6_1).f1)) := (blk_cell BK474.out 1).trans rfl
                              have hfz47_0 := blk_frozen BK474.out 0
                              have hfz47_1 := blk_frozen BK474.out 1
                              have hnb48 := NB472_476.out
                              have hnc48 := NB476_472.out
                              have hcz49_0 : wc.cell? ⟨gb472, 0, none⟩ = some (.int .i64 a1_0) := (blk_cell BK472.out 0).trans rfl
                              have hcz49_1 : wc.cell? ⟨gb472, 1, none⟩ = some (.int .i64 a1_1) := (blk_cell BK472.out 1).trans rfl
                              have hfz49_0 := blk_frozen BK472.out 0
                              have hfz49_1 := blk_frozen BK472.out 1
                              have hcz50_0 : wc.cell? ⟨gb476, 0, none⟩ = some (.int .i64 ((rd_T23 l0 (ji7)).f0)) := (blk_cell BK476.out 0).trans rfl
                              have hcz50_1 : wc.cell? ⟨gb476, 1, none⟩ = some (.int .i64 ((rd_T23 l0 (ji7)).f1)) := (blk_cell BK476.out 1).trans rfl
                              have hfz50_0 := blk_frozen BK476.out 0
                              have hfz50_1 := blk_frozen BK476.out 1
                              go_wp2_with (first | (go_at_call 83; (with_reducible refine (boundstoneref02_twice.calls ((rd_T23 l0 x6_1).f0) ((rd_T23 l0 x6_1).f1) ((rd_T23 l0 (ji7)).f0) ((rd_T23 l0 (ji7)).f1) a1_0 a1_1 t478 _ A44.out).mono ?_); rintro e w51 ⟨rfl, hb⟩; have n0_ := Aside0.mk (blk_below (g := gb472) (o := .cells #[.int .i64 a1_0, .int .i64 a1_1] 23 (0, 0)) (by (with_reducible repeat (first | refine blk_drewN ?_ _ | refine blk_drew ?_ | refine blk_alloc ?_ _)); exact BK472.out) hb); have n1_ := Aside0.mk (blk_below (g := gb474) (o := .cells #[.int .i64 ((rd_T23 l0 x6_1).f0), .int .i64 ((rd_T23 l0 x6_1).f1)] 23 (0, 0)) (by (with_reducible repeat (first | refine blk_drewN ?_ _ | refine blk_drew ?_ | refine blk_alloc ?_ _)); exact BK474.out) hb); have n2_ := Aside0.mk (blk_below (g := gb476) (o := .cells #[.int .i64 ((rd_T23 l0 (ji7)).f0), .int .i64 ((rd_T23 l0 (ji7)).f1)] 23 (0, 0)) (by (with_reducible repeat (first | refine blk_drewN ?_ _ | refine blk_drew ?_ | refine blk_alloc ?_ _)); exact BK476.out) hb); have n3_ := Aside0.mk (below_step (by repeat (first | (with_reducible first | exact HB.out | apply below_alloc | apply pw_below_drewN | apply below_drew1 | refine below_set ?_ GE472.out | refine below_set ?_ GE474.out | refine below_set ?_ GE476.out) | exact HB.out)) hb); clear BK472; clear BK474; clear BK476; clear HB; have BK472 := n0_; have BK474 := n1_; have BK476 := n2_; have HB := n3_; clear n0_ n1_ n2_ n3_; (try clear hb); (try clear hb2); (try clear hk); (try clear hi)))
                              go_meet
                              case rel => exact ⟨_, (decide (t478 < 0)), (by first | rfl | (simp; done) | (simp [*]; done)), H', ⟨by have := HK1.out; have := HJ9.out; have := HJ38.out; first | omega | exact Nat.le_refl _⟩, ⟨by (with_reducible repeat (first | refine blk_drewN ?_ _ | refine blk_drew ?_ | refine blk_alloc ?_ _)); exact BK472.out⟩, ⟨by (with_reducible repeat (first | refine blk_drewN ?_ _ | refine blk_drew ?_ | refine blk_alloc ?_ _)); exact BK474.out⟩, ⟨by (with_reducible repeat (first | refine blk_drewN ?_ _ | refine blk_drew ?_ | refine blk_alloc ?_ _)); exact BK476.out⟩, ⟨by repeat (first | (with_reducible first | exact HB.out | apply below_alloc | apply pw_below_drewN | apply below_drew1 | refine below_set ?_ GE472.out | refine below_set ?_ GE474.out | refine below_set ?_ GE476.out) | exact HB.out)⟩⟩
                            · rw [if_neg c43] at H
                              have c43b0 : decide (((rd_T23 l0 (ji7)).f1) ≤ a1_1) = false := decide_eq_false c43
                              clear c43
                              have H' := Aside0.mk H
                              clear H
                              have hnb52 := NB474_472.out
                              have hnc52 := NB472_474.out
                              have hnb53 := NB474_476.out
                              have hnc53 := NB476_474.out
                              have hcz54_0 : wc.cell? ⟨gb474, 0, none⟩ = some (.int .i64 ((rd_T23 l0 x6_1).f0)) := (blk_cell BK474.out 0).trans rfl
                              have hcz54_1 : wc.cell? ⟨gb474, 1, none⟩ = some (.int .i64 ((rd_T23 l0 x6_1).f1)) := (blk_cell BK474.out 1).trans rfl
                              have hfz54_0 := blk_frozen BK474.out 0
                              have hfz54_1 := blk_frozen BK474.out 1
                              have hnb55 := NB472_476.out
                              have hnc55 := NB476_472.out
                              have hcz56_0 : wc.cell? ⟨gb472, 0, none⟩ = some (.int .i64 a1_0) := (blk_cell BK472.out 0).trans rfl
                              have hcz56_1 : wc.cell? ⟨gb472, 1, none⟩ = some (.int .i64 a1_1) := (blk_cell BK472.out 1).trans rfl
                              have hfz56_0 := blk_frozen BK472.out 0
                              have hfz56_1 := blk_frozen BK472.out 1
                              have hcz57_0 : wc.cell? ⟨gb476, 0, none⟩ = some (.int .i64 ((rd_T23 l0 (ji7)).f0)) := (blk_cell BK476.out 0).trans rfl
                              have hcz57_1 : wc.cell? ⟨gb476, 1, none⟩ = some (.int .i64 ((rd_T23 l0 (ji7)).f1)) := (blk_cell BK476.out 1).trans rfl
                              have hfz57_0 := blk_frozen BK476.out 0
                              have hfz57_1 := blk_frozen BK476.out 1
                              go_wp2
                              go_meet
                              case rel => exact ⟨_, (false), (by first | rfl | (simp; done) | (simp [*]; done)), H', ⟨by have := HK1.out; have := HJ9.out; have := HJ38.out; first | omega | exact Nat.le_refl _⟩, ⟨by (with_reducible repeat (first | refine blk_drewN ?_ _ | refine blk_drew ?_ | refine blk_alloc ?_ _)); exact BK472.out⟩, ⟨by (with_reducible repeat (first | refine blk_drewN ?_ _ | refine blk_drew ?_ | refine blk_alloc ?_ _)); exact BK474.out⟩, ⟨by (with_reducible repeat (first | refine blk_drewN ?_ _ | refine blk_drew ?_ | refine blk_alloc ?_ _)); exact BK476.out⟩, ⟨by repeat (first | (with_reducible first | exact HB.out | apply below_alloc | apply pw_below_drewN | apply below_drew1 | refine below_set ?_ GE472.out | refine below_set ?_ GE474.out | refine below_set ?_ GE476.out) | exact HB.out)⟩⟩
                          · rw [if_neg c42] at H
                            have c42b0 : decide (a1_1 < ((rd_T23 l0 x6_1).f1)) = false := decide_eq_false c42
                            clear c42
                            (first | rw [c42b0] | (simp only [i64_w, i32_w]; rw [c42b0]) | skip)
                            have H' := Aside0.mk H
                            clear H
                            have hnb58 := NB474_472.out
                            have hnc58 := NB472_474.out
                            have hnb59 := NB474_476.out
                            have hnc59 := NB476_474.out
                            have hcz60_0 : wc.cell? ⟨gb474, 0, none⟩ = some (.int .i64 ((rd_T23 l0 x6_1).f0)) := (blk_cell BK474.out 0).trans rfl
                            have hcz60_1 : wc.cell? ⟨gb474, 1, none⟩ = some (.int .i64 ((rd_T23 l0 x6_1).f1)) := (blk_cell BK474.out 1).trans rfl
                            have hfz60_0 := blk_frozen BK474.out 0
                            have hfz60_1 := blk_frozen BK474.out 1
                            have hnb61 := NB472_476.out
                            have hnc61 := NB476_472.out
                            have hcz62_0 : wc.cell? ⟨gb472, 0, none⟩ = some (.int .i64 a1_0) := (blk_cell BK472.out 0).trans rfl
                            have hcz62_1 : wc.cell? ⟨gb472, 1, none⟩ = some (.int .i64 a1_1) := (blk_cell BK472.out 1).trans rfl
                            have hfz62_0 := blk_frozen BK472.out 0
                            have hfz62_1 := blk_frozen BK472.out 1
                            go_wp2
                            go_meet
                            case rel => exact ⟨_, (false), (by first | rfl | (simp; done) | (simp [*]; done)), H', ⟨by have := HK1.out; have := HJ9.out; have := HJ38.out; first | omega | exact Nat.le_refl _⟩, ⟨by (with_reducible repeat (first | refine blk_drewN ?_ _ | refine blk_drew ?_ | refine blk_alloc ?_ _)); exact BK472.out⟩, ⟨by (with_reducible repeat (first | refine blk_drewN ?_ _ | refine blk_drew ?_ | refine blk_alloc ?_ _)); exact BK474.out⟩, ⟨by (with_reducible repeat (first | refine blk_drewN ?_ _ | refine blk_drew ?_ | refine blk_alloc ?_ _)); exact BK476.out⟩, ⟨by repeat (first | (with_reducible first | exact HB.out | apply below_alloc | apply pw_below_drewN | apply below_drew1 | refine below_set ?_ GE472.out | refine below_set ?_ GE474.out | refine below_set ?_ GE476.out) | exact HB.out)⟩⟩
                        case rest =>
                          clear HC41
                          try clear c1
                          try clear c2
                          try clear p2
                          try clear c3
                          try clear c4
                          try clear c4b0
                          try clear p4
                          try clear q4
                          try clear hx4
                          try clear c5
                          try clear c5b0
                          try clear c6
                          try clear c6b0
                          try clear c6b1
                          try clear c6b2
                          try clear p6
                          try clear c8
                          try clear c8b0
                          try clear c9
                          try clear c9b0
                          try clear c10
                          try clear c12
                          try clear c15
                          try clear c16
                          try clear c18
                          try clear c18b0
                          try clear c19
                          try clear c19b0
                          try clear c21
                          try clear c22
                          try clear c24
                          try clear c28
                          try clear c29
                          try clear c31
                          try clear c34
                          try clear c35
                          try clear c37
                          try clear c40
                          try clear c42
                          try clear c42b0
                          try clear c43
                          try clear c43b0
                          try clear c45
                          try clear c46
                          try clear p47
                          try clear q47
                          try clear hx47
                          try clear c48
                          try clear c52
                          try clear c53
                          try clear c55
                          try clear c58
                          try clear c59
                          try clear c61
                          try clear hcz13_0
                          try clear hcz13_1
                          try clear hcz17_0
                          try clear hcz17_1
                          try clear hcz23_0
                          try clear hcz23_1
                          try clear hcz25_0
                          try clear hcz25_1
                          try clear hcz26_0
                          try clear hcz26_1
                          try clear hcz30_0
                          try clear hcz30_1
                          try clear hcz32_0
                          try clear hcz32_1
                          try clear hcz33_0
                          try clear hcz33_1
                          try clear hcz36_0
                          try clear hcz36_1
                          try clear hcz38_0
                          try clear hcz38_1
                          try clear hcz47_0
                          try clear hcz47_1
                          try clear hcz49_0
                          try clear hcz49_1
                          try clear hcz50_0
                          try clear hcz50_1
                          try clear hcz54_0
                          try clear hcz54_1
                          try clear hcz56_0
                          try clear hcz56_1
                          try clear hcz57_0
                          try clear hcz57_1
                          try clear hcz60_0
                          try clear hcz60_1
                          try clear hcz62_0
                          try clear hcz62_1
                          try clear hfz13_0
                          try clear hfz13_1
                          try clear hfz17_0
                          try clear hfz17_1
                          try clear hfz23_0
                          try clear hfz23_1
                          try clear hfz25_0
                          try clear hfz25_1
                          try clear hfz26_0
                          try clear hfz26_1
                          try clear hfz30_0
                          try clear hfz30_1
                          try clear hfz32_0
                          try clear hfz32_1
                          try clear hfz33_0
                          try clear hfz33_1
                          try clear hfz36_0
                          try clear hfz36_1
                          try clear hfz38_0
                          try clear hfz38_1
                          try clear hfz47_0
                          try clear hfz47_1
                          try clear hfz49_0
                          try clear hfz49_1
                          try clear hfz50_0
                          try clear hfz50_1
                          try clear hfz54_0
                          try clear hfz54_1
                          try clear hfz56_0
                          try clear hfz56_1
                          try clear hfz57_0
                          try clear hfz57_1
                          try clear hfz60_0
                          try clear hfz60_1
                          try clear hfz62_0
                          try clear hfz62_1
                          try clear hx473_0
                          try clear hx473_1
                          try clear hx475_0
                          try clear hx475_1
                          try clear p2
                          try clear p4
                          try clear p473
                          try clear p475
                          try clear p6
                          try clear q4
                          try clear q473
                          try clear q475
                          obtain ⟨kq, x66_40, rfl, HA, HJ40, BK472, BK474, BK476, HB⟩ := hcut
                          cases kq with
                          | zero => exact absurd HA.out (by simp [boundstoneref02_winding.j3])
                          | succ kj40 =>
                            have H := HA.out
                            clear HA
                            simp only [boundstoneref02_winding.j3] at H
                            by_cases c63 : x66_40 = true
                            · subst c63
                              have H1 : (boundstoneref02_winding.l0 kj40 l0 (wrap64 (x5_38 - 1)) (wrap64 (x6_1 + 1)) a1_0 a1_1) = some r := by rw [if_pos rfl] at H; exact H
                              clear H
                              have H := H1
                              clear H1
                              have H' := Aside0.mk H
                              clear H
                              go_wp2
                              go_roundg kj40
                              case measure => have := HK1.out; have := HJ9.out; have := HJ38.out; have := HJ40.out; omega
                              case rel => exact ⟨(wrap64 (x5_38 - 1)), (wrap64 (x6_1 + 1)), (by first | rfl | (simp; done) | (simp [*]; done)), (by first | rfl | (simp; done) | (simp [*]; done)), H', ⟨by have := HK1.out; have := HJ9.out; have := HJ38.out; have := HJ40.out; omega⟩, ⟨by (with_reducible repeat (first | refine blk_drewN ?_ _ | refine blk_drew ?_ | refine blk_alloc ?_ _)); exact BK472.out⟩, ⟨by repeat (first | (with_reducible first | exact HB.out | apply below_alloc | apply pw_below_drewN | apply below_drew1 | refine below_set ?_ GE472.out | refine below_set ?_ GE474.out | refine below_set ?_ GE476.out) | exact HB.out)⟩⟩
                            · replace c63 := Bool.eq_false_iff.mpr c63
                              subst c63
                              have H1 : (boundstoneref02_winding.l0 kj40 l0 x5_38 (wrap64 (x6_1 + 1)) a1_0 a1_1) = some r := by rw [if_neg (show ¬ (false = true) by decide)] at H; exact H
                              clear H
                              have H := H1
                              clear H1
                              have H' := Aside0.mk H
                              clear H
                              go_wp2
                              go_roundg kj40
                              case measure => have := HK1.out; have := HJ9.out; have := HJ38.out; have := HJ40.out; omega
                              case rel => exact ⟨(x5_38), (wrap64 (x6_1 + 1)), (by first | rfl | (simp; done) | (simp [*]; done)), (by first | rfl | (simp; done) | (simp [*]; done)), H', ⟨by have := HK1.out; have := HJ9.out; have := HJ38.out; have := HJ40.out; omega⟩, ⟨by (with_reducible repeat (first | refine blk_drewN ?_ _ | refine blk_drew ?_ | refine blk_alloc ?_ _)); exact BK472.out⟩, ⟨by repeat (first | (with_reducible first | exact HB.out | apply below_alloc | apply pw_below_drewN | apply below_drew1 | refine below_set ?_ GE472.out | refine below_set ?_ GE474.out | refine below_set ?_ GE476.out) | exact HB.out)⟩⟩
              · rw [if_neg c9] at H
                exact absurd H (by simp)
            · rw [if_neg c8] at H
              exact absurd H (by simp)
        · rw [if_neg c5] at H
          exact absurd H (by simp)
      · rw [if_neg c4] at H
        have c4b0 : decide (x6_1 < (l0.length : Int)) = false := decide_eq_false c4
        clear c4
        obtain rfl := Option.some.inj H
        go_wp2
        go_ret
        exact ⟨by first | rfl | (simp [errW_none, errW_some] <;> rfl) | (simp [*, errW_none, errW_some] <;> rfl), by repeat (first | (with_reducible first | exact HB.out | apply below_alloc | apply pw_below_drewN | apply below_drew1 | refine below_set ?_ GE472.out) | exact HB.out)⟩
end Go.Proofs.Ytckaejgamfllfaa.G
end

section
namespace Go.Proofs.Ytckaejgamfllfaa.G
open Go.RowKit Go.Proofs.YtckaejgamfllfaaW.PrintWords Go.Proofs.YtckaejgamfllfaaW.PrintLast Go.Proofs.YtckaejgamfllfaaW.PrintMore
attribute [local go_sem] max2_int min2_int max_two min_two max_three min_three max_four min_four
set_option linter.unusedVariables false
set_option linter.unusedSimpArgs false
def boundstoneref02_along.l0 : Nat → List (S23) → Int → Int → Int → Option (Bool)
  | 0, _, _, _, _ => none
  | k + 1, x0, x5, x469000, x469001 => if x5 < (x0.length : Int) then (if 0 ≤ x5 then (if (x0.length : Int) = 0 then (none) else (if 0 ≤ (Int.tmod (wrap64 (x5 + 1)) (x0.length : Int)) then (if (Int.tmod (wrap64 (x5 + 1)) (x0.length : Int)) < (x0.length : Int) then ((boundstoneref02_on.f ((rd_T23 x0 x5).f0) ((rd_T23 x0 x5).f1) ((rd_T23 x0 (Int.tmod (wrap64 (x5 + 1)) (x0.length : Int))).f0) ((rd_T23 x0 (Int.tmod (wrap64 (x5 + 1)) (x0.length : Int))).f1) x469000 x469001).bind fun t471 => (if t471 = true then (some true) else (boundstoneref02_along.l0 k x0 (wrap64 (x5 + 1)) x469000 x469001))) else (none)) else (none))) else (none)) else (some false)
def boundstoneref02_along.f (k : Nat) (l0 : List (S23)) (a1_0 : Int) (a1_1 : Int) : Option (Bool) := boundstoneref02_along.l0 k l0 0 a1_0 a1_1
def boundstoneref02_along.T4 : Bool × List (List Nat × List Nat) := (true, [([], []), ([], []), ([0, 1], [0, 1]), ([2], [2]), ([], []), ([], []), ([5], [5]), ([], []), ([7], [7]), ([6, 8], [6, 8]), ([4, 9], [4, 9]), ([10], [10]), ([], []), ([3, 11, 12], [3, 11, 12]), ([13, 13, 0, 1, 2, 3, 4, 5, 6, 7, 8, 9, 10, 11, 12, 13], [13])])
def boundstoneref02_along.B4 : List Nat := [0, 0, 3, 7, 0, 0, 32, 0, 128, 480, 1008, 2032, 0, 8191, 16383]
theorem boundstoneref02_along.tab4 : rtab .any (opsOf Try.f99 4) = boundstoneref02_along.T4 := by kernel_rfl
theorem boundstoneref02_along.bits4 : waitsOk boundstoneref02_along.T4.2 boundstoneref02_along.B4 = true := by kernel_rfl
set_option maxHeartbeats 8000000 in
set_option maxRecDepth 100000 in
theorem boundstoneref02_along.calls (k : Nat) (A0 : Option Addr) (c0 : Nat) (l0 : List (S23)) (a1_0 : Int) (a1_1 : Int) (r : Bool) (w : World) (hr0 : Kd.C k23 w A0 l0.length l0) (hc0 : l0.length ≤ c0) (h : boundstoneref02_along.f k l0 a1_0 a1_1 = some r) :
    Calls Try.prog 99 #[.slice A0 l0.length c0, .agg #[.int .i64 a1_0, .int .i64 a1_1]] w fun e w' => e = .returned (.bool r) ∧ Below w.heap.size w w' := by
  have hu23 := Try.underlying23
  have HR0 := Aside0.mk hr0
  have HC0 := Aside0.mk hc0
  clear hr0 hc0
  have HB := Aside0.mk (Below.refl w.heap.size w)
  have H : (boundstoneref02_along.l0 k l0 0 a1_0 a1_1) = some r := h
  clear h
  have H' := Aside0.mk H
  clear H
  go_enter Try.func99, Try.ntmps99
  go_wp2_with (first | ((with_reducible refine gate_dst (N := 3) rfl ?_); refine box_event ?hg (N := 3) ?hd (cs := #[.int .i64 a1_0, .int .i64 a1_1]) (t := 23) ?hr ?_; (case hd => rfl); (case hg => rfl); (case hr => first | (go_simp; done) | (go_simp; rfl)); intro gb468 hg w3 hbox hb; have n0_ := Aside0.mk (below_step (by repeat (first | (with_reducible first | exact HB.out | apply below_alloc | apply pw_below_drewN | apply below_drew1) | exact HB.out)) hb); have n1_ := Aside0.mk (hbox); have n2_ := Aside0.mk ((by rw [hg]; exact (below_size (by repeat (first | (with_reducible first | exact HB.out | apply below_alloc | apply pw_below_drewN | apply below_drew1) | exact HB.out))) : w.heap.size ≤ gb468)); have n3_ := Aside0.mk ((by rw [hg]; exact (below_size (by repeat (first | (with_reducible first | exact HB.out | apply below_alloc | apply pw_below_drewN | apply below_drew1) | exact HB.out))) : w.heap.size ≤ gb468)); clear HB; have HB := n0_; have BK468 := n1_; have GW468 := n2_; have GE468 := n3_; clear n0_ n1_ n2_ n3_; clear hb hbox hg))
  go_loopg [5] k (fun kq v5 w' => ∃ (x5_1 : Int), v5 = .int .i64 x5_1 ∧ Aside0 (boundstoneref02_along.l0 kq l0 x5_1 a1_0 a1_1 = some r) ∧ Aside0 (kq ≤ k) ∧ Aside0 (w'.heap[gb468]? = some (.cells #[.int .i64 a1_0, .int .i64 a1_1] 23 (0, 0))) ∧ Aside0 (Below w.heap.size w w'))
  case atStart => exact ⟨(0), (by first | rfl | (simp; done) | (simp [*]; done)), H', ⟨Nat.le_refl _⟩, ⟨by (with_reducible repeat (first | refine blk_drewN ?_ _ | refine blk_drew ?_ | refine blk_alloc ?_ _)); exact BK468.out⟩, ⟨by repeat (first | (with_reducible first | exact HB.out | apply below_alloc | apply pw_below_drewN | apply below_drew1 | refine below_set ?_ GE468.out) | exact HB.out)⟩⟩
  case round =>
    clear H'
    try clear p2
    obtain ⟨x5_1, rfl, HA, HK1, BK468, HB⟩ := hrel
    cases gk with
    | zero => exact absurd HA.out (by simp [boundstoneref02_along.l0])
    | succ k1 =>
      have H := HA.out
      clear HA
      simp only [boundstoneref02_along.l0] at H
      by_cases c4 : x5_1 < (l0.length : Int)
      · rw [if_pos c4] at H
        have c4b0 : decide (x5_1 < (l0.length : Int)) = true := decide_eq_true c4
        clear c4
        by_cases c5 : 0 ≤ x5_1
        · rw [if_pos c5] at H
          have c5b0 : decide (0 ≤ x5_1) = true := decide_eq_true c5
          clear c5
          by_cases c6 : (l0.length : Int) = 0
          · rw [if_pos c6] at H
            exact absurd H (by simp)
          · rw [if_neg c6] at H
            have c6b0 : ((l0.length : Int) == 0) = false := beq_eq_false_iff_ne.mpr c6
            have c6b1 : ((l0.length : Int) != 0) = true := bne_iff_ne.mpr c6
            have c6b2 : ¬ (l0 = []) := fun h_ => c6 (by rw [h_]; rfl)
            obtain ⟨ji7, hji7⟩ : ∃ j_ : Int, (Int.tmod (wrap64 (x5_1 + 1)) (l0.length : Int)) = j_ := ⟨_, rfl⟩
            replace H : (if 0 ≤ (ji7) then (if (ji7) < (l0.length : Int) then ((boundstoneref02_on.f ((rd_T23 l0 x5_1).f0) ((rd_T23 l0 x5_1).f1) ((rd_T23 l0 (ji7)).f0) ((rd_T23 l0 (ji7)).f1) a1_0 a1_1).bind fun t471 => (if t471 = true then (some true) else (boundstoneref02_along.l0 k1 l0 (wrap64 (x5_1 + 1)) a1_0 a1_1))) else (none)) else (none)) = some r := by first | (rw [hji7] at H; exact H) | (simp only [hji7] at H ⊢; exact H)
            by_cases c8 : 0 ≤ (ji7)
            · rw [if_pos c8] at H
              have c8b0 : decide (0 ≤ (ji7)) = true := decide_eq_true c8
              clear c8
              by_cases c9 : (ji7) < (l0.length : Int)
              · rw [if_pos c9] at H
                have c9b0 : decide ((ji7) < (l0.length : Int)) = true := decide_eq_true c9
                clear c9
                replace H := Option.bind_eq_some_iff.mp H
                obtain ⟨t471, A100, H⟩ := H
                replace H : (if t471 = true then (some true) else (boundstoneref02_along.l0 k1 l0 (wrap64 (x5_1 + 1)) a1_0 a1_1)) = some r := H
                have A10 := Aside0.mk A100
                clear A100
                by_cases c11 : t471 = true
                · subst c11
                  have H1 : (some true) = some r := by rw [if_pos rfl] at H; exact H
                  clear H
                  have H := H1
                  clear H1
                  obtain rfl := Option.some.inj H
                  try go_wp2
                  have n0_ := Aside0.mk (blk_drew BK468.out)
                  have n1_ := Aside0.mk (below_drew1 HB.out)
                  clear BK468
                  clear HB
                  have BK468 := n0_
                  have HB := n1_
                  clear n0_ n1_
                  have p469 : 0 ≤ (x5_1 : Int) := of_decide_eq_true (by first | (with_reducible assumption) | assumption)
                  have q469 : x5_1 < (l0.length : Int) := of_decide_eq_true (by first | (with_reducible assumption) | assumption)
                  obtain ⟨ad469, e469, hx469_0, hx469_1⟩ := at_T23 HR0.out x5_1 p469 q469
                  have hw469_1 := hx469_1
                  have hw469_0 := hx469_0
                  cases e469
                  replace hx469_0 := (HB.out.cell (World.block_lt_of_cell? w _ hx469_0)).trans hx469_0
                  replace hx469_1 := (HB.out.cell (World.block_lt_of_cell? w _ hx469_1)).trans hx469_1
                  replace p469 := eq_true p469
                  replace q469 := eq_true q469
                  have p470 : 0 ≤ ((ji7) : Int) := of_decide_eq_true (by first | (with_reducible assumption) | assumption)
                  have q470 : (ji7) < (l0.length : Int) := of_decide_eq_true (by first | (with_reducible assumption) | assumption)
                  obtain ⟨ad470, e470, hx470_0, hx470_1⟩ := at_T23 HR0.out (ji7) p470 q470
                  have hw470_1 := hx470_1
                  have hw470_0 := hx470_0
                  obtain rfl : ad469 = ad470 := (by injection e470)
                  replace hx470_0 := (HB.out.cell (World.block_lt_of_cell? w _ hx470_0)).trans hx470_0
                  replace hx470_1 := (HB.out.cell (World.block_lt_of_cell? w _ hx470_1)).trans hx470_1
                  replace p470 := eq_true p470
                  replace q470 := eq_true q470
                  refine start_ (n := 15) (S := fun w' => w'.cell? ⟨gb468, 0, none⟩ = some (.int .i64 a1_0) ∧ w'.cell? ⟨gb468, 1, none⟩ = some (.int .i64 a1_1) ∧ w'.cell? (ad469.add ((x5_1).toNat * 2)) = some (.int .i64 ((rd_T23 l0 x5_1).f0)) ∧ w'.cell? ⟨(ad469.add ((x5_1).toNat * 2)).block, (ad469.add ((x5_1).toNat * 2)).off + 1, none⟩ = some (.int .i64 ((rd_T23 l0 x5_1).f1)) ∧ w'.cell? (ad469.add (((ji7)).toNat * 2)) = some (.int .i64 ((rd_T23 l0 (ji7)).f0)) ∧ w'.cell? ⟨(ad469.add (((ji7)).toNat * 2)).block, (ad469.add (((ji7)).toNat * 2)).off + 1, none⟩ = some (.int .i64 ((rd_T23 l0 (ji7)).f1))) (ds := []) #[false, false, false, false, false, false, false, false, false, false, false, false, false, false, false] (by kernel_rfl) rfl rfl ⟨(blk_cell BK468.out 0).trans rfl, (blk_cell BK468.out 1).trans rfl, ((HB.out.cell (World.block_lt_of_cell? w _ hw469_0)).trans hw469_0), ((HB.out.cell (World.block_lt_of_cell? w _ hw469_1)).trans hw469_1), ((HB.out.cell (World.block_lt_of_cell? w _ hw470_0)).trans hw470_0), ((HB.out.cell (World.block_lt_of_cell? w _ hw470_1)).trans hw470_1)⟩ (fun hHeld => ?_); refine with_tabW boundstoneref02_along.tab4 boundstoneref02_along.bits4 (fun HT_ HW_ => ?_)
                  generalize wr.drew = w12 at BK468 HB hx469_0 hx469_1 hx470_0 hx470_1 hHeld ⊢
                  refine pure_ (i := 0) (N := some 13) (v := ?_) (a' := ?_) #[true, false, false, false, false, false, false, false, false, false, false, false, false, false, false] rfl rfl (any_of HT_.out (by kernel_rfl)) (fun _ _ _ h => h) (Or.inl ⟨by rfl, ?_⟩) ?_ ?_
                  rotate_left
                  · intro w'
                    go_simp
                    with_reducible rfl
                  rotate_left
                  · simp only [Act.put, List.setIfInBounds_toArray, List.set_cons_zero, List.set_cons_succ, i64_w, i32_w]
                    rfl
                  refine pure_ (i := 1) (N := some 14) (v := ?_) (a' := ?_) #[true, true, false, false, false, false, false, false, false, false, false, false, false, false, false] rfl rfl (any_of HT_.out (by kernel_rfl)) (fun _ _ _ h => h) (Or.inl ⟨by rfl, ?_⟩) ?_ ?_
                  rotate_left
                  · intro w'
                    go_simp
                    with_reducible rfl
                  rotate_left
                  · simp only [Act.put, List.setIfInBounds_toArray, List.set_cons_zero, List.set_cons_succ, i64_w, i32_w]
                    rfl
                  refine pure_ (i := 2) (N := some 15) (v := ?_) (a' := ?_) #[true, true, true, false, false, false, false, false, false, false, false, false, false, false, false] rfl rfl (any_of HT_.out (by kernel_rfl)) (fun _ _ _ h => h) (Or.inl ⟨by rfl, ?_⟩) ?_ ?_
                  rotate_left
                  · intro w'
                    go_simp
                    with_reducible rfl
                  rotate_left
                  · simp only [Act.put, List.setIfInBounds_toArray, List.set_cons_zero, List.set_cons_succ, i64_w, i32_w]
                    rfl
                  refine pure_ (i := 4) (N := some 17) (v := ?_) (a' := ?_) #[true, true, true, false, true, false, false, false, false, false, false, false, false, false, false] rfl rfl (any_of HT_.out (by kernel_rfl)) (fun _ _ _ h => h) (Or.inl ⟨by rfl, ?_⟩) ?_ ?_
                  rotate_left
                  · intro w'
                    go_simp
                    with_reducible rfl
                  rotate_left
                  · simp only [Act.put, List.setIfInBounds_toArray, List.set_cons_zero, List.set_cons_succ, i64_w, i32_w]
                    rfl
                  refine pure_ (i := 5) (N := some 18) (v := ?_) (a' := ?_) #[true, true, true, false, true, true, false, false, false, false, false, false, false, false, false] rfl rfl (any_of HT_.out (by kernel_rfl)) (fun _ _ _ h => h) (Or.inl ⟨by rfl, ?_⟩) ?_ ?_
                  rotate_left
                  · intro w'
                    go_simp
                    with_reducible rfl
                  rotate_left
                  · simp only [Act.put, List.setIfInBounds_toArray, List.set_cons_zero, List.set_cons_succ, i64_w, i32_w]
                    rfl
                  refine pure_ (i := 6) (N := some 19) (v := ?_) (a' := ?_) #[true, true, true, false, true, true, true, false, false, false, false, false, false, false, false] rfl rfl (any_of HT_.out (by kernel_rfl)) (fun _ _ _ h => h) (Or.inl ⟨by rfl, ?_⟩) ?_ ?_
                  rotate_left
                  · intro w'
                    go_simp
                    with_reducible rfl
                  rotate_left
                  · simp only [Act.put, List.setIfInBounds_toArray, List.set_cons_zero, List.set_cons_succ, i64_w, i32_w]
                    rfl
                  refine pure_ (i := 7) (N := some 20) (v := ?_) (a' := ?_) #[true, true, true, false, true, true, true, true, false, false, false, false, false, false, false] rfl rfl (any_of HT_.out (by kernel_rfl)) (fun _ _ _ h => h) (Or.inl ⟨by rfl, ?_⟩) ?_ ?_
                  rotate_left
                  · intro w'
                    go_simp
                    with_reducible rfl
                  rotate_left
                  · simp only [Act.put, List.setIfInBounds_toArray, List.set_cons_zero, List.set_cons_succ, i64_w, i32_w]
                    rfl
                  refine pure_ (i := 8) (N := some 21) (v := ?_) (a' := ?_) #[true, true, true, false, true, true, true, true, true, false, false, false, false, false, false] rfl rfl (any_of HT_.out (by kernel_rfl)) (fun _ _ _ h => h) (Or.inl ⟨by rfl, ?_⟩) ?_ ?_
                  rotate_left
                  · intro w'
                    go_simp
                    with_reducible rfl
                  rotate_left
                  · simp only [Act.put, List.setIfInBounds_toArray, List.set_cons_zero, List.set_cons_succ, i64_w, i32_w]
                    rfl
                  refine pure_ (i := 9) (N := some 22) (v := ?_) (a' := ?_) #[true, true, true, false, true, true, true, true, true, true, false, false, false, false, false] rfl rfl (any_of HT_.out (by kernel_rfl)) (fun _ _ _ h => h) (Or.inl ⟨by rfl, ?_⟩) ?_ ?_
                  rotate_left
                  · intro w'
                    go_simp
                    with_reducible rfl
                  rotate_left
                  · simp only [Act.put, List.setIfInBounds_toArray, List.set_cons_zero, List.set_cons_succ, i64_w, i32_w]
                    rfl
                  refine pure_ (i := 10) (N := some 23) (v := ?_) (a' := ?_) #[true, true, true, false, true, true, true, true, true, true, true, false, false, false, false] rfl rfl (any_of HT_.out (by kernel_rfl)) (fun _ _ _ h => h) (Or.inl ⟨by rfl, ?_⟩) ?_ ?_
                  rotate_left
                  · intro w'
                    go_simp
                    with_reducible rfl
                  rotate_left
                  · simp only [Act.put, List.setIfInBounds_toArray, List.set_cons_zero, List.set_cons_succ, i64_w, i32_w]
                    rfl
                  refine take_ (i := 3) (N := some 16) (v := ?_) (a' := ?_) #[true, true, true, true, true, true, true, true, true, true, true, false, false, false, false] rfl rfl (take_ofW HT_.out HW_.out (by kernel_rfl)) (fun _ _ _ h => h) (Or.inl ⟨by rfl, ?_⟩) hHeld ?_ ?_
                  rotate_left
                  · rintro w' ⟨s0, s1, s2, s3, s4, s5⟩
                    go_simp
                    with_reducible rfl
                  rotate_left
                  · simp only [Act.put, List.setIfInBounds_toArray, List.set_cons_zero, List.set_cons_succ, i64_w, i32_w]
                    rfl
                  refine take_ (i := 11) (N := some 24) (v := ?_) (a' := ?_) #[true, true, true, true, true, true, true, true, true, true, true, true, false, false, false] rfl rfl (take_ofW HT_.out HW_.out (by kernel_rfl)) (fun _ _ _ h => h) (Or.inl ⟨by rfl, ?_⟩) hHeld ?_ ?_
                  rotate_left
                  · rintro w' ⟨s0, s1, s2, s3, s4, s5⟩
                    go_simp
                    with_reducible rfl
                  rotate_left
                  · simp only [Act.put, List.setIfInBounds_toArray, List.set_cons_zero, List.set_cons_succ, i64_w, i32_w]
                    rfl
                  refine take_ (i := 12) (N := some 25) (v := ?_) (a' := ?_) #[true, true, true, true, true, true, true, true, true, true, true, true, true, false, false] rfl rfl (take_ofW HT_.out HW_.out (by kernel_rfl)) (fun _ _ _ h => h) (Or.inl ⟨by rfl, ?_⟩) hHeld ?_ ?_
                  rotate_left
                  · rintro w' ⟨s0, s1, s2, s3, s4, s5⟩
                    go_simp
                    with_reducible rfl
                  rotate_left
                  · simp only [Act.put, List.setIfInBounds_toArray, List.set_cons_zero, List.set_cons_succ, i64_w, i32_w]
                    rfl
                  refine one_ (i := 13) (N := some 26) #[true, true, true, true, true, true, true, true, true, true, true, true, true, true, false] rfl rfl (one_of HT_.out (by kernel_rfl)) (by decide) (fun K hK => ?_)
                  refine goes_ Try.func90 (by kernel_rfl) rfl #[.agg #[.int .i64 ((rd_T23 l0 x5_1).f0), .int .i64 ((rd_T23 l0 x5_1).f1)], .agg #[.int .i64 ((rd_T23 l0 (ji7)).f0), .int .i64 ((rd_T23 l0 (ji7)).f1)], .agg #[.int .i64 a1_0, .int .i64 a1_1]] (by rfl) rfl rfl (by (try simp only [List.map_toArray, List.map_cons, List.map_nil]); first | done | (simp only [hji7]; rfl) | rfl | (simp only [List.length_drop, List.length_take]; rfl)) ?_
                  with_reducible refine (boundstoneref02_on.calls ((rd_T23 l0 x5_1).f0) ((rd_T23 l0 x5_1).f1) ((rd_T23 l0 (ji7)).f0) ((rd_T23 l0 (ji7)).f1) a1_0 a1_1 true _ A10.out).mono ?_
                  rintro e w13 ⟨rfl, hb⟩
                  refine ⟨_, rfl, ?_⟩
                  have n0_ := Aside0.mk (blk_below (g := gb468) (o := .cells #[.int .i64 a1_0, .int .i64 a1_1] 23 (0, 0)) (by (with_reducible repeat (first | refine blk_drewN ?_ _ | refine blk_drew ?_ | refine blk_alloc ?_ _)); exact BK468.out) hb)
                  have n1_ := Aside0.mk (below_step (by repeat (first | (with_reducible first | exact HB.out | apply below_alloc | apply pw_below_drewN | apply below_drew1 | refine below_set ?_ GE468.out) | exact HB.out)) hb)
                  clear BK468
                  clear HB
                  have BK468 := n0_
                  have HB := n1_
                  clear n0_ n1_
                  (try clear hb)
                  (try clear hb2)
                  (try clear hk)
                  (try clear hi)
                  refine hK.out _ _ ⟨(blk_cell BK468.out 0).trans rfl, (blk_cell BK468.out 1).trans rfl, ((HB.out.cell (World.block_lt_of_cell? w _ hw469_0)).trans hw469_0), ((HB.out.cell (World.block_lt_of_cell? w _ hw469_1)).trans hw469_1), ((HB.out.cell (World.block_lt_of_cell? w _ hw470_0)).trans hw470_0), ((HB.out.cell (World.block_lt_of_cell? w _ hw470_1)).trans hw470_1)⟩ (fun hHeld => ?_)
                  clear hK K
                  refine norm_ (a' := ?_) ?_ ?_
                  rotate_left
                  · show Act.put _ (some 26) _ = _
                    simp only [Act.put, List.setIfInBounds_toArray, List.set_cons_zero, List.set_cons_succ, i64_w, i32_w]
                    rfl
                  refine pure_ (i := 14) (N := some 6) (v := ?_) (a' := ?_) #[true, true, true, true, true, true, true, true, true, true, true, true, true, true, true] rfl rfl (any_of HT_.out (by kernel_rfl)) (fun _ _ _ h => h) (Or.inl ⟨by rfl, ?_⟩) ?_ ?_
                  rotate_left
                  · intro w'
                    go_simp
                    with_reducible rfl
                  rotate_left
                  · simp only [Act.put, List.setIfInBounds_toArray, List.set_cons_zero, List.set_cons_succ, i64_w, i32_w]
                    rfl
                  refine done_ (done_of HT_.out (by kernel_rfl)) ?_
                  try go_wp2
                  go_ret
                  exact ⟨by first | rfl | (simp [errW_none, errW_some] <;> rfl) | (simp only [← hji7]; first | rfl | (simp [errW_none, errW_some] <;> rfl)) | (simp [*, errW_none, errW_some] <;> rfl), by repeat (first | (with_reducible first | exact HB.out | apply below_alloc | apply pw_below_drewN | apply below_drew1 | refine below_set ?_ GE468.out) | exact HB.out)⟩
                · replace c11 := Bool.eq_false_iff.mpr c11
                  subst c11
                  have H1 : (boundstoneref02_along.l0 k1 l0 (wrap64 (x5_1 + 1)) a1_0 a1_1) = some r := by rw [if_neg (show ¬ (false = true) by decide)] at H; exact H
                  clear H
                  have H := H1
                  clear H1
                  have H' := Aside0.mk H
                  clear H
                  try go_wp2
                  have n0_ := Aside0.mk (blk_drew BK468.out)
                  have n1_ := Aside0.mk (below_drew1 HB.out)
                  clear BK468
                  clear HB
                  have BK468 := n0_
                  have HB := n1_
                  clear n0_ n1_
                  have p469 : 0 ≤ (x5_1 : Int) := of_decide_eq_true (by first | (with_reducible assumption) | assumption)
                  have q469 : x5_1 < (l0.length : Int) := of_decide_eq_true (by first | (with_reducible assumption) | assumption)
                  obtain ⟨ad469, e469, hx469_0, hx469_1⟩ := at_T23 HR0.out x5_1 p469 q469
                  have hw469_1 := hx469_1
                  have hw469_0 := hx469_0
                  cases e469
                  replace hx469_0 := (HB.out.cell (World.block_lt_of_cell? w _ hx469_0)).trans hx469_0
                  replace hx469_1 := (HB.out.cell (World.block_lt_of_cell? w _ hx469_1)).trans hx469_1
                  replace p469 := eq_true p469
                  replace q469 := eq_true q469
                  have p470 : 0 ≤ ((ji7) : Int) := of_decide_eq_true (by first | (with_reducible assumption) | assumption)
                  have q470 : (ji7) < (l0.length : Int) := of_decide_eq_true (by first | (with_reducible assumption) | assumption)
                  obtain ⟨ad470, e470, hx470_0, hx470_1⟩ := at_T23 HR0.out (ji7) p470 q470
                  have hw470_1 := hx470_1
                  have hw470_0 := hx470_0
                  obtain rfl : ad469 = ad470 := (by injection e470)
                  replace hx470_0 := (HB.out.cell (World.block_lt_of_cell? w _ hx470_0)).trans hx470_0
                  replace hx470_1 := (HB.out.cell (World.block_lt_of_cell? w _ hx470_1)).trans hx470_1
                  replace p470 := eq_true p470
                  replace q470 := eq_true q470
                  refine start_ (n := 15) (S := fun w' => w'.cell? ⟨gb468, 0, none⟩ = some (.int .i64 a1_0) ∧ w'.cell? ⟨gb468, 1, none⟩ = some (.int .i64 a1_1) ∧ w'.cell? (ad469.add ((x5_1).toNat * 2)) = some (.int .i64 ((rd_T23 l0 x5_1).f0)) ∧ w'.cell? ⟨(ad469.add ((x5_1).toNat * 2)).block, (ad469.add ((x5_1).toNat * 2)).off + 1, none⟩ = some (.int .i64 ((rd_T23 l0 x5_1).f1)) ∧ w'.cell? (ad469.add (((ji7)).toNat * 2)) = some (.int .i64 ((rd_T23 l0 (ji7)).f0)) ∧ w'.cell? ⟨(ad469.add (((ji7)).toNat * 2)).block, (ad469.add (((ji7)).toNat * 2)).off + 1, none⟩ = some (.int .i64 ((rd_T23 l0 (ji7)).f1))) (ds := []) #[false, false, false, false, false, false, false, false, false, false, false, false, false, false, false] (by kernel_rfl) rfl rfl ⟨(blk_cell BK468.out 0).trans rfl, (blk_cell BK468.out 1).trans rfl, ((HB.out.cell (World.block_lt_of_cell? w _ hw469_0)).trans hw469_0), ((HB.out.cell (World.block_lt_of_cell? w _ hw469_1)).trans hw469_1), ((HB.out.cell (World.block_lt_of_cell? w _ hw470_0)).trans hw470_0), ((HB.out.cell (World.block_lt_of_cell? w _ hw470_1)).trans hw470_1)⟩ (fun hHeld => ?_); refine with_tabW boundstoneref02_along.tab4 boundstoneref02_along.bits4 (fun HT_ HW_ => ?_)
                  generalize wr.drew = w14 at BK468 HB hx469_0 hx469_1 hx470_0 hx470_1 hHeld ⊢
                  refine pure_ (i := 0) (N := some 13) (v := ?_) (a' := ?_) #[true, false, false, false, false, false, false, false, false, false, false, false, false, false, false] rfl rfl (any_of HT_.out (by kernel_rfl)) (fun _ _ _ h => h) (Or.inl ⟨by rfl, ?_⟩) ?_ ?_
                  rotate_left
                  · intro w'
                    go_simp
                    with_reducible rfl
                  rotate_left
                  · simp only [Act.put, List.setIfInBounds_toArray, List.set_cons_zero, List.set_cons_succ, i64_w, i32_w]
                    rfl
                  refine pure_ (i := 1) (N := some 14) (v := ?_) (a' := ?_) #[true, true, false, false, false, false, false, false, false, false, false, false, false, false, false] rfl rfl (any_of HT_.out (by kernel_rfl)) (fun _ _ _ h => h) (Or.inl ⟨by rfl, ?_⟩) ?_ ?_
                  rotate_left
                  · intro w'
                    go_simp
                    with_reducible rfl
                  rotate_left
                  · simp only [Act.put, List.setIfInBounds_toArray, List.set_cons_zero, List.set_cons_succ, i64_w, i32_w]
                    rfl
                  refine pure_ (i := 2) (N := some 15) (v := ?_) (a' := ?_) #[true, true, true, false, false, false, false, false, false, false, false, false, false, false, false] rfl rfl (any_of HT_.out (by kernel_rfl)) (fun _ _ _ h => h) (Or.inl ⟨by rfl, ?_⟩) ?_ ?_
                  rotate_left
                  · intro w'
                    go_simp
                    with_reducible rfl
                  rotate_left
                  · simp only [Act.put, List.setIfInBounds_toArray, List.set_cons_zero, List.set_cons_succ, i64_w, i32_w]
                    rfl
                  refine pure_ (i := 4) (N := some 17) (v := ?_) (a' := ?_) #[true, true, true, false, true, false, false, false, false, false, false, false, false, false, false] rfl rfl (any_of HT_.out (by kernel_rfl)) (fun _ _ _ h => h) (Or.inl ⟨by rfl, ?_⟩) ?_ ?_
                  rotate_left
                  · intro w'
                    go_simp
                    with_reducible rfl
                  rotate_left
                  · simp only [Act.put, List.setIfInBounds_toArray, List.set_cons_zero, List.set_cons_succ, i64_w, i32_w]
                    rfl
                  refine pure_ (i := 5) (N := some 18) (v := ?_) (a' := ?_) #[true, true, true, false, true, true, false, false, false, false, false, false, false, false, false] rfl rfl (any_of HT_.out (by kernel_rfl)) (fun _ _ _ h => h) (Or.inl ⟨by rfl, ?_⟩) ?_ ?_
                  rotate_left
                  · intro w'
                    go_simp
                    with_reducible rfl
                  rotate_left
                  · simp only [Act.put, List.setIfInBounds_toArray, List.set_cons_zero, List.set_cons_succ, i64_w, i32_w]
                    rfl
                  refine pure_ (i := 6) (N := some 19) (v := ?_) (a' := ?_) #[true, true, true, false, true, true, true, false, false, false, false, false, false, false, false] rfl rfl (any_of HT_.out (by kernel_rfl)) (fun _ _ _ h => h) (Or.inl ⟨by rfl, ?_⟩) ?_ ?_
                  rotate_left
                  · intro w'
                    go_simp
                    with_reducible rfl
                  rotate_left
                  · simp only [Act.put, List.setIfInBounds_toArray, List.set_cons_zero, List.set_cons_succ, i64_w, i32_w]
                    rfl
                  refine pure_ (i := 7) (N := some 20) (v := ?_) (a' := ?_) #[true, true, true, false, true, true, true, true, false, false, false, false, false, false, false] rfl rfl (any_of HT_.out (by kernel_rfl)) (fun _ _ _ h => h) (Or.inl ⟨by rfl, ?_⟩) ?_ ?_
                  rotate_left
                  · intro w'
                    go_simp
                    with_reducible rfl
                  rotate_left
                  · simp only [Act.put, List.setIfInBounds_toArray, List.set_cons_zero, List.set_cons_succ, i64_w, i32_w]
                    rfl
                  refine pure_ (i := 8) (N := some 21) (v := ?_) (a' := ?_) #[true, true, true, false, true, true, true, true, true, false, false, false, false, false, false] rfl rfl (any_of HT_.out (by kernel_rfl)) (fun _ _ _ h => h) (Or.inl ⟨by rfl, ?_⟩) ?_ ?_
                  rotate_left
                  · intro w'
                    go_simp
                    with_reducible rfl
                  rotate_left
                  · simp only [Act.put, List.setIfInBounds_toArray, List.set_cons_zero, List.set_cons_succ, i64_w, i32_w]
                    rfl
                  refine pure_ (i := 9) (N := some 22) (v := ?_) (a' := ?_) #[true, true, true, false, true, true, true, true, true, true, false, false, false, false, false] rfl rfl (any_of HT_.out (by kernel_rfl)) (fun _ _ _ h => h) (Or.inl ⟨by rfl, ?_⟩) ?_ ?_
                  rotate_left
                  · intro w'
                    go_simp
                    with_reducible rfl
                  rotate_left
                  · simp only [Act.put, List.setIfInBounds_toArray, List.set_cons_zero, List.set_cons_succ, i64_w, i32_w]
                    rfl
                  refine pure_ (i := 10) (N := some 23) (v := ?_) (a' := ?_) #[true, true, true, false, true, true, true, true, true, true, true, false, false, false, false] rfl rfl (any_of HT_.out (by kernel_rfl)) (fun _ _ _ h => h) (Or.inl ⟨by rfl, ?_⟩) ?_ ?_
                  rotate_left
                  · intro w'
                    go_simp
                    with_reducible rfl
                  rotate_left
                  · simp only [Act.put, List.setIfInBounds_toArray, List.set_cons_zero, List.set_cons_succ, i64_w, i32_w]
                    rfl
                  refine take_ (i := 3) (N := some 16) (v := ?_) (a' := ?_) #[true, true, true, true, true, true, true, true, true, true, true, false, false, false, false] rfl rfl (take_ofW HT_.out HW_.out (by kernel_rfl)) (fun _ _ _ h => h) (Or.inl ⟨by rfl, ?_⟩) hHeld ?_ ?_
                  rotate_left
                  · rintro w' ⟨s0, s1, s2, s3, s4, s5⟩
                    go_simp
                    with_reducible rfl
                  rotate_left
                  · simp only [Act.put, List.setIfInBounds_toArray, List.set_cons_zero, List.set_cons_succ, i64_w, i32_w]
                    rfl
                  refine take_ (i := 11) (N := some 24) (v := ?_) (a' := ?_) #[true, true, true, true, true, true, true, true, true, true, true, true, false, false, false] rfl rfl (take_ofW HT_.out HW_.out (by kernel_rfl)) (fun _ _ _ h => h) (Or.inl ⟨by rfl, ?_⟩) hHeld ?_ ?_
                  rotate_left
                  · rintro w' ⟨s0, s1, s2, s3, s4, s5⟩
                    go_simp
                    with_reducible rfl
                  rotate_left
                  · simp only [Act.put, List.setIfInBounds_toArray, List.set_cons_zero, List.set_cons_succ, i64_w, i32_w]
                    rfl
                  refine take_ (i := 12) (N := some 25) (v := ?_) (a' := ?_) #[true, true, true, true, true, true, true, true, true, true, true, true, true, false, false] rfl rfl (take_ofW HT_.out HW_.out (by kernel_rfl)) (fun _ _ _ h => h) (Or.inl ⟨by rfl, ?_⟩) hHeld ?_ ?_
                  rotate_left
                  · rintro w' ⟨s0, s1, s2, s3, s4, s5⟩
                    go_simp
                    with_reducible rfl
                  rotate_left
                  · simp only [Act.put, List.setIfInBounds_toArray, List.set_cons_zero, List.set_cons_succ, i64_w, i32_w]
                    rfl
                  refine one_ (i := 13) (N := some 26) #[true, true, true, true, true, true, true, true, true, true, true, true, true, true, false] rfl rfl (one_of HT_.out (by kernel_rfl)) (by decide) (fun K hK => ?_)
                  refine goes_ Try.func90 (by kernel_rfl) rfl #[.agg #[.int .i64 ((rd_T23 l0 x5_1).f0), .int .i64 ((rd_T23 l0 x5_1).f1)], .agg #[.int .i64 ((rd_T23 l0 (ji7)).f0), .int .i64 ((rd_T23 l0 (ji7)).f1)], .agg #[.int .i64 a1_0, .int .i64 a1_1]] (by rfl) rfl rfl (by (try simp only [List.map_toArray, List.map_cons, List.map_nil]); first | done | (simp only [hji7]; rfl) | rfl | (simp only [List.length_drop, List.length_take]; rfl)) ?_
                  with_reducible refine (boundstoneref02_on.calls ((rd_T23 l0 x5_1).f0) ((rd_T23 l0 x5_1).f1) ((rd_T23 l0 (ji7)).f0) ((rd_T23 l0 (ji7)).f1) a1_0 a1_1 false _ A10.out).mono ?_
                  rintro e w15 ⟨rfl, hb⟩
                  refine ⟨_, rfl, ?_⟩
                  have n0_ := Aside0.mk (blk_below (g := gb468) (o := .cells #[.int .i64 a1_0, .int .i64 a1_1] 23 (0, 0)) (by (with_reducible repeat (first | refine blk_drewN ?_ _ | refine blk_drew ?_ | refine blk_alloc ?_ _)); exact BK468.out) hb)
                  have n1_ := Aside0.mk (below_step (by repeat (first | (with_reducible first | exact HB.out | apply below_alloc | apply pw_below_drewN | apply below_drew1 | refine below_set ?_ GE468.out) | exact HB.out)) hb)
                  clear BK468
                  clear HB
                  have BK468 := n0_
                  have HB := n1_
                  clear n0_ n1_
                  (try clear hb)
                  (try clear hb2)
                  (try clear hk)
                  (try clear hi)
                  refine hK.out _ _ ⟨(blk_cell BK468.out 0).trans rfl, (blk_cell BK468.out 1).trans rfl, ((HB.out.cell (World.block_lt_of_cell? w _ hw469_0)).trans hw469_0), ((HB.out.cell (World.block_lt_of_cell? w _ hw469_1)).trans hw469_1), ((HB.out.cell (World.block_lt_of_cell? w _ hw470_0)).trans hw470_0), ((HB.out.cell (World.block_lt_of_cell? w _ hw470_1)).trans hw470_1)⟩ (fun hHeld => ?_)
                  clear hK K
                  refine norm_ (a' := ?_) ?_ ?_
                  rotate_left
                  · show Act.put _ (some 26) _ = _
                    simp only [Act.put, List.setIfInBounds_toArray, List.set_cons_zero, List.set_cons_succ, i64_w, i32_w]
                    rfl
                  refine pure_ (i := 14) (N := some 6) (v := ?_) (a' := ?_) #[true, true, true, true, true, true, true, true, true, true, true, true, true, true, true] rfl rfl (any_of HT_.out (by kernel_rfl)) (fun _ _ _ h => h) (Or.inl ⟨by rfl, ?_⟩) ?_ ?_
                  rotate_left
                  · intro w'
                    go_simp
                    with_reducible rfl
                  rotate_left
                  · simp only [Act.put, List.setIfInBounds_toArray, List.set_cons_zero, List.set_cons_succ, i64_w, i32_w]
                    rfl
                  refine done_ (done_of HT_.out (by kernel_rfl)) ?_
                  try go_wp2
                  go_roundg k1
                  case measure => have := HK1.out; omega
                  case rel => exact ⟨(wrap64 (x5_1 + 1)), (by first | rfl | (simp; done) | (simp [*]; done)), H', ⟨by have := HK1.out; omega⟩, ⟨by (with_reducible repeat (first | refine blk_drewN ?_ _ | refine blk_drew ?_ | refine blk_alloc ?_ _)); exact BK468.out⟩, ⟨by repeat (first | (with_reducible first | exact HB.out | apply below_alloc | apply pw_below_drewN | apply below_drew1 | refine below_set ?_ GE468.out) | exact HB.out)⟩⟩
              · rw [if_neg c9] at H
                exact absurd H (by simp)
            · rw [if_neg c8] at H
              exact absurd H (by simp)
        · rw [if_neg c5] at H
          exact absurd H (by simp)
      · rw [if_neg c4] at H
        have c4b0 : decide (x5_1 < (l0.length : Int)) = false := decide_eq_false c4
        clear c4
        obtain rfl := Option.some.inj H
        go_wp2
        go_ret
        exact ⟨by first | rfl | (simp [errW_none, errW_some] <;> rfl) | (simp [*, errW_none, errW_some] <;> rfl), by repeat (first | (with_reducible first | exact HB.out | apply below_alloc | apply pw_below_drewN | apply below_drew1 | refine below_set ?_ GE468.out) | exact HB.out)⟩
end Go.Proofs.Ytckaejgamfllfaa.G
end

section
namespace Go.Proofs.Ytckaejgamfllfaa.G
open Go.RowKit Go.Proofs.YtckaejgamfllfaaW.PrintWords Go.Proofs.YtckaejgamfllfaaW.PrintLast Go.Proofs.YtckaejgamfllfaaW.PrintMore
attribute [local go_sem] max2_int min2_int max_two min_two max_three min_three max_four min_four
set_option linter.unusedVariables false
set_option linter.unusedSimpArgs false
def boundstoneref02_Winding.f (k : Nat) (l0 : List (S23)) (a1_0 : Int) (a1_1 : Int) : Option (Int × Int) := (boundstoneref02_points.f k l0 3).bind fun t480 => (if t480 = 0 then ((boundstoneref02_Valid.f a1_0 a1_1).bind fun t481 => (if t481 = true then ((boundstoneref02_along.f k l0 a1_0 a1_1).bind fun t482 => (if t482 = true then (some (0, 4)) else ((boundstoneref02_winding.f k l0 a1_0 a1_1).bind fun t483 => (some (t483, 0))))) else (some (0, 1)))) else (some (0, t480)))
set_option maxHeartbeats 8000000 in
set_option maxRecDepth 100000 in
theorem boundstoneref02_Winding.calls (k : Nat) (A0 : Option Addr) (c0 : Nat) (l0 : List (S23)) (a1_0 : Int) (a1_1 : Int) (r1 : Int) (r2 : Int) (w : World) (hr0 : Kd.C k23 w A0 l0.length l0) (hc0 : l0.length ≤ c0) (h : boundstoneref02_Winding.f k l0 a1_0 a1_1 = some (r1, r2)) :
    Calls Try.prog 36 #[.slice A0 l0.length c0, .agg #[.int .i64 a1_0, .int .i64 a1_1]] w fun e w' => e = .returned (.tuple #[.int .i64 r1, .int .i64 r2]) ∧ Below w.heap.size w w' := by
  have hu23 := Try.underlying23
  have HR0 := Aside0.mk hr0
  have HC0 := Aside0.mk hc0
  clear hr0 hc0
  have HB := Aside0.mk (Below.refl w.heap.size w)
  have H : ((boundstoneref02_points.f k l0 3).bind fun t480 => (if t480 = 0 then ((boundstoneref02_Valid.f a1_0 a1_1).bind fun t481 => (if t481 = true then ((boundstoneref02_along.f k l0 a1_0 a1_1).bind fun t482 => (if t482 = true then (some (0, 4)) else ((boundstoneref02_winding.f k l0 a1_0 a1_1).bind fun t483 => (some (t483, 0))))) else (some (0, 1)))) else (some (0, t480)))) = some (r1, r2) := h
  clear h
  replace H := Option.bind_eq_some_iff.mp H
  obtain ⟨t480, A30, H⟩ := H
  replace H : (if t480 = 0 then ((boundstoneref02_Valid.f a1_0 a1_1).bind fun t481 => (if t481 = true then ((boundstoneref02_along.f k l0 a1_0 a1_1).bind fun t482 => (if t482 = true then (some (0, 4)) else ((boundstoneref02_winding.f k l0 a1_0 a1_1).bind fun t483 => (some (t483, 0))))) else (some (0, 1)))) else (some (0, t480))) = some (r1, r2) := H
  have A3 := Aside0.mk A30
  clear A30
  by_cases c4 : t480 = 0
  · rw [if_pos c4] at H
    have c4b0 : (t480 == 0) = true := beq_iff_eq.mpr c4
    have c4b1 : (t480 != 0) = false := bne_eq_false_iff_eq.mpr c4
    clear c4
    replace H := Option.bind_eq_some_iff.mp H
    obtain ⟨t481, A50, H⟩ := H
    replace H : (if t481 = true then ((boundstoneref02_along.f k l0 a1_0 a1_1).bind fun t482 => (if t482 = true then (some (0, 4)) else ((boundstoneref02_winding.f k l0 a1_0 a1_1).bind fun t483 => (some (t483, 0))))) else (some (0, 1))) = some (r1, r2) := H
    have A5 := Aside0.mk A50
    clear A50
    by_cases c6 : t481 = true
    · subst c6
      have H1 : ((boundstoneref02_along.f k l0 a1_0 a1_1).bind fun t482 => (if t482 = true then (some (0, 4)) else ((boundstoneref02_winding.f k l0 a1_0 a1_1).bind fun t483 => (some (t483, 0))))) = some (r1, r2) := by rw [if_pos rfl] at H; exact H
      clear H
      have H := H1
      clear H1
      replace H := Option.bind_eq_some_iff.mp H
      obtain ⟨t482, A70, H⟩ := H
      replace H : (if t482 = true then (some (0, 4)) else ((boundstoneref02_winding.f k l0 a1_0 a1_1).bind fun t483 => (some (t483, 0)))) = some (r1, r2) := H
      have A7 := Aside0.mk A70
      clear A70
      by_cases c8 : t482 = true
      · subst c8
        have H1 : (some (0, 4)) = some (r1, r2) := by rw [if_pos rfl] at H; exact H
        clear H
        have H := H1
        clear H1
        simp only [Option.some.injEq, Prod.mk.injEq] at H
        obtain ⟨rfl, rfl⟩ := H
        go_enter Try.func36, Try.ntmps36
        go_wp2_with (first | ((with_reducible refine gate_dst (N := 3) rfl ?_); refine box_event ?hg (N := 3) ?hd (cs := #[.int .i64 a1_0, .int .i64 a1_1]) (t := 23) ?hr ?_; (case hd => rfl); (case hg => rfl); (case hr => first | (go_simp; done) | (go_simp; rfl)); intro gb479 hg w9 hbox hb; have n0_ := Aside0.mk (below_step (by repeat (first | (with_reducible first | exact HB.out | apply below_alloc | apply pw_below_drewN | apply below_drew1) | exact HB.out)) hb); have n1_ := Aside0.mk (hbox); have n2_ := Aside0.mk ((by rw [hg]; exact (below_size (by repeat (first | (with_reducible first | exact HB.out | apply below_alloc | apply pw_below_drewN | apply below_drew1) | exact HB.out))) : w.heap.size ≤ gb479)); have n3_ := Aside0.mk ((by rw [hg]; exact (below_size (by repeat (first | (with_reducible first | exact HB.out | apply below_alloc | apply pw_below_drewN | apply below_drew1) | exact HB.out))) : w.heap.size ≤ gb479)); clear HB; have HB := n0_; have BK479 := n1_; have GW479 := n2_; have GE479 := n3_; clear n0_ n1_ n2_ n3_; clear hb hbox hg) | ((with_reducible refine gate_callee (f := 94) rfl ?_); refine goesL_ (some 10) rfl rfl Try.func94 (by kernel_rfl) rfl #[.slice A0 l0.length c0, .int .i64 3] rfl (by (try simp only [List.map_toArray, List.map_cons, List.map_nil]); first | done | rfl | (simp only [List.length_drop, List.length_take]; rfl)) ?_; (with_reducible refine (boundstoneref02_points.calls k _ _ l0 3 t480 _ ?side1 ?side2 A3.out).mono ?_); (case side1 => repeat (first | exact (Kd.C_below HR0.out HB.out) | (with_reducible refine Kd.C_alloc ?_ _) | (with_reducible refine Kd.C_drewN ?_ _) | (with_reducible refine Kd.C_drew ?_))); (case side2 => exact HC0.out); rintro e w10 ⟨rfl, hb⟩; refine ⟨_, rfl, ?_⟩; have n0_ := Aside0.mk (blk_below (g := gb479) (o := .cells #[.int .i64 a1_0, .int .i64 a1_1] 23 (0, 0)) (by (with_reducible repeat (first | refine blk_drewN ?_ _ | refine blk_drew ?_ | refine blk_alloc ?_ _)); exact BK479.out) hb); have n1_ := Aside0.mk (below_step (by repeat (first | (with_reducible first | exact HB.out | apply below_alloc | apply pw_below_drewN | apply below_drew1 | refine below_set ?_ GE479.out) | exact HB.out)) hb); clear BK479; clear HB; have BK479 := n0_; have HB := n1_; clear n0_ n1_; (try clear hb); (try clear hb2); (try clear hk); (try clear hi); have hcz11_0 : w10.cell? ⟨gb479, 0, none⟩ = some (.int .i64 a1_0) := (blk_cell BK479.out 0).trans rfl; have hcz11_1 : w10.cell? ⟨gb479, 1, none⟩ = some (.int .i64 a1_1) := (blk_cell BK479.out 1).trans rfl; have hfz11_0 := blk_frozen BK479.out 0; have hfz11_1 := blk_frozen BK479.out 1) | ((with_reducible refine gate_callee (f := 18) rfl ?_); refine goesL_ (some 15) rfl rfl Try.func18 (by kernel_rfl) rfl #[.agg #[.int .i64 a1_0, .int .i64 a1_1]] rfl (by (try simp only [List.map_toArray, List.map_cons, List.map_nil]); first | done | rfl | (simp only [List.length_drop, List.length_take]; rfl)) ?_; (with_reducible refine (boundstoneref02_Valid.calls a1_0 a1_1 true _ A5.out).mono ?_); rintro e w12 ⟨rfl, hb⟩; refine ⟨_, rfl, ?_⟩; have n0_ := Aside0.mk (blk_below (g := gb479) (o := .cells #[.int .i64 a1_0, .int .i64 a1_1] 23 (0, 0)) (by (with_reducible repeat (first | refine blk_drewN ?_ _ | refine blk_drew ?_ | refine blk_alloc ?_ _)); exact BK479.out) hb); have n1_ := Aside0.mk (below_step (by repeat (first | (with_reducible first | exact HB.out | apply below_alloc | apply pw_below_drewN | apply below_drew1 | refine below_set ?_ GE479.out) | exact HB.out)) hb); clear BK479; clear HB; have BK479 := n0_; have HB := n1_; clear n0_ n1_; (try clear hb); (try clear hb2); (try clear hk); (try clear hi); have hcz13_0 : w12.cell? ⟨gb479, 0, none⟩ = some (.int .i64 a1_0) := (blk_cell BK479.out 0).trans rfl; have hcz13_1 : w12.cell? ⟨gb479, 1, none⟩ = some (.int .i64 a1_1) := (blk_cell BK479.out 1).trans rfl; have hfz13_0 := blk_frozen BK479.out 0; have hfz13_1 := blk_frozen BK479.out 1) | ((with_reducible refine gate_callee (f := 99) rfl ?_); refine goesL_ (some 20) rfl rfl Try.func99 (by kernel_rfl) rfl #[.slice A0 l0.length c0, .agg #[.int .i64 a1_0, .int .i64 a1_1]] rfl (by (try simp only [List.map_toArray, List.map_cons, List.map_nil]); first | done | rfl | (simp only [List.length_drop, List.length_take]; rfl)) ?_; (with_reducible refine (boundstoneref02_along.calls k _ _ l0 a1_0 a1_1 true _ ?side1 ?side2 A7.out).mono ?_); (case side1 => repeat (first | exact (Kd.C_below HR0.out HB.out) | (with_reducible refine Kd.C_alloc ?_ _) | (with_reducible refine Kd.C_drewN ?_ _) | (with_reducible refine Kd.C_drew ?_))); (case side2 => exact HC0.out); rintro e w14 ⟨rfl, hb⟩; refine ⟨_, rfl, ?_⟩; have n0_ := Aside0.mk (blk_below (g := gb479) (o := .cells #[.int .i64 a1_0, .int .i64 a1_1] 23 (0, 0)) (by (with_reducible repeat (first | refine blk_drewN ?_ _ | refine blk_drew ?_ | refine blk_alloc ?_ _)); exact BK479.out) hb); have n1_ := Aside0.mk (below_step (by repeat (first | (with_reducible first | exact HB.out | apply below_alloc | apply pw_below_drewN | apply below_drew1 | refine below_set ?_ GE479.out) | exact HB.out)) hb); clear BK479; clear HB; have BK479 := n0_; have HB := n1_; clear n0_ n1_; (try clear hb); (try clear hb2); (try clear hk); (try clear hi)))
        go_ret2
        exact ⟨by first | rfl | (simp [errW_none, errW_some] <;> rfl) | (simp [*, errW_none, errW_some] <;> rfl), by repeat (first | (with_reducible first | exact HB.out | apply below_alloc | apply pw_below_drewN | apply below_drew1 | refine below_set ?_ GE479.out) | exact HB.out)⟩
      · replace c8 := Bool.eq_false_iff.mpr c8
        subst c8
        have H1 : ((boundstoneref02_winding.f k l0 a1_0 a1_1).bind fun t483 => (some (t483, 0))) = some (r1, r2) := by rw [if_neg (show ¬ (false = true) by decide)] at H; exact H
        clear H
        have H := H1
        clear H1
        replace H := Option.bind_eq_some_iff.mp H
        obtain ⟨t483, A150, H⟩ := H
        replace H : (some (t483, 0)) = some (r1, r2) := H
        have A15 := Aside0.mk A150
        clear A150
        simp only [Option.some.injEq, Prod.mk.injEq] at H
        obtain ⟨rfl, rfl⟩ := H
        go_enter Try.func36, Try.ntmps36
        go_wp2_with (first | ((with_reducible refine gate_dst (N := 3) rfl ?_); refine box_event ?hg (N := 3) ?hd (cs := #[.int .i64 a1_0, .int .i64 a1_1]) (t := 23) ?hr ?_; (case hd => rfl); (case hg => rfl); (case hr => first | (go_simp; done) | (go_simp; rfl)); intro gb479 hg w16 hbox hb; have n0_ := Aside0.mk (below_step (by repeat (first | (with_reducible first | exact HB.out | apply below_alloc | apply pw_below_drewN | apply below_drew1) | exact HB.out)) hb); have n1_ := Aside0.mk (hbox); have n2_ := Aside0.mk ((by rw [hg]; exact (below_size (by repeat (first | (with_reducible first | exact HB.out | apply below_alloc | apply pw_below_drewN | apply below_drew1) | exact HB.out))) : w.heap.size ≤ gb479)); have n3_ := Aside0.mk ((by rw [hg]; exact (below_size (by repeat (first | (with_reducible first | exact HB.out | apply below_alloc | apply pw_below_drewN | apply below_drew1) | exact HB.out))) : w.heap.size ≤ gb479)); clear HB; have HB := n0_; have BK479 := n1_; have GW479 := n2_; have GE479 := n3_; clear n0_ n1_ n2_ n3_; clear hb hbox hg) | ((with_reducible refine gate_callee (f := 94) rfl ?_); refine goesL_ (some 10) rfl rfl Try.func94 (by kernel_rfl) rfl #[.slice A0 l0.length c0, .int .i64 3] rfl (by (try simp only [List.map_toArray, List.map_cons, List.map_nil]); first | done | rfl | (simp only [List.length_drop, List.length_take]; rfl)) ?_; (with_reducible refine (boundstoneref02_points.calls k _ _ l0 3 t480 _ ?side1 ?side2 A3.out).mono ?_); (case side1 => repeat (first | exact (Kd.C_below HR0.out HB.out) | (with_reducible refine Kd.C_alloc ?_ _) | (with_reducible refine Kd.C_drewN ?_ _) | (with_reducible refine Kd.C_drew ?_))); (case side2 => exact HC0.out); rintro e w17 ⟨rfl, hb⟩; refine ⟨_, rfl, ?_⟩; have n0_ := Aside0.mk (blk_below (g := gb479) (o := .cells #[.int .i64 a1_0, .int .i64 a1_1] 23 (0, 0)) (by (with_reducible repeat (first | refine blk_drewN ?_ _ | refine blk_drew ?_ | refine blk_alloc ?_ _)); exact BK479.out) hb); have n1_ := Aside0.mk (below_step (by repeat (first | (with_reducible first | exact HB.out | apply below_alloc | apply pw_below_drewN | apply below_drew1 | refine below_set ?_ GE479.out) | exact HB.out)) hb); clear BK479; clear HB; have BK479 := n0_; have HB := n1_; clear n0_ n1_; (try clear hb); (try clear hb2); (try clear hk); (try clear hi); have hcz18_0 : w17.cell? ⟨gb479, 0, none⟩ = some (.int .i64 a1_0) := (blk_cell BK479.out 0).trans rfl; have hcz18_1 : w17.cell? ⟨gb479, 1, none⟩ = some (.int .i64 a1_1) := (blk_cell BK479.out 1).trans rfl; have hfz18_0 := blk_frozen BK479.out 0; have hfz18_1 := blk_frozen BK479.out 1) | ((with_reducible refine gate_callee (f := 18) rfl ?_); refine goesL_ (some 15) rfl rfl Try.func18 (by kernel_rfl) rfl #[.agg #[.int .i64 a1_0, .int .i64 a1_1]] rfl (by (try simp only [List.map_toArray, List.map_cons, List.map_nil]); first | done | rfl | (simp only [List.length_drop, List.length_take]; rfl)) ?_; (with_reducible refine (boundstoneref02_Valid.calls a1_0 a1_1 true _ A5.out).mono ?_); rintro e w19 ⟨rfl, hb⟩; refine ⟨_, rfl, ?_⟩; have n0_ := Aside0.mk (blk_below (g := gb479) (o := .cells #[.int .i64 a1_0, .int .i64 a1_1] 23 (0, 0)) (by (with_reducible repeat (first | refine blk_drewN ?_ _ | refine blk_drew ?_ | refine blk_alloc ?_ _)); exact BK479.out) hb); have n1_ := Aside0.mk (below_step (by repeat (first | (with_reducible first | exact HB.out | apply below_alloc | apply pw_below_drewN | apply below_drew1 | refine below_set ?_ GE479.out) | exact HB.out)) hb); clear BK479; clear HB; have BK479 := n0_; have HB := n1_; clear n0_ n1_; (try clear hb); (try clear hb2); (try clear hk); (try clear hi); have hcz20_0 : w19.cell? ⟨gb479, 0, none⟩ = some (.int .i64 a1_0) := (blk_cell BK479.out 0).trans rfl; have hcz20_1 : w19.cell? ⟨gb479, 1, none⟩ = some (.int .i64 a1_1) := (blk_cell BK479.out 1).trans rfl; have hfz20_0 := blk_frozen BK479.out 0; have hfz20_1 := blk_frozen BK479.out 1) | ((with_reducible refine gate_callee (f := 99) rfl ?_); refine goesL_ (some 20) rfl rfl Try.func99 (by kernel_rfl) rfl #[.slice A0 l0.length c0, .agg #[.int .i64 a1_0, .int .i64 a1_1]] rfl (by (try simp only [List.map_toArray, List.map_cons, List.map_nil]); first | done | rfl | (simp only [List.length_drop, List.length_take]; rfl)) ?_; (with_reducible refine (boundstoneref02_along.calls k _ _ l0 a1_0 a1_1 false _ ?side1 ?side2 A7.out).mono ?_); (case side1 => repeat (first | exact (Kd.C_below HR0.out HB.out) | (with_reducible refine Kd.C_alloc ?_ _) | (with_reducible refine Kd.C_drewN ?_ _) | (with_reducible refine Kd.C_drew ?_))); (case side2 => exact HC0.out); rintro e w21 ⟨rfl, hb⟩; refine ⟨_, rfl, ?_⟩; have n0_ := Aside0.mk (blk_below (g := gb479) (o := .cells #[.int .i64 a1_0, .int .i64 a1_1] 23 (0, 0)) (by (with_reducible repeat (first | refine blk_drewN ?_ _ | refine blk_drew ?_ | refine blk_alloc ?_ _)); exact BK479.out) hb); have n1_ := Aside0.mk (below_step (by repeat (first | (with_reducible first | exact HB.out | apply below_alloc | apply pw_below_drewN | apply below_drew1 | refine below_set ?_ GE479.out) | exact HB.out)) hb); clear BK479; clear HB; have BK479 := n0_; have HB := n1_; clear n0_ n1_; (try clear hb); (try clear hb2); (try clear hk); (try clear hi); have hcz22_0 : w21.cell? ⟨gb479, 0, none⟩ = some (.int .i64 a1_0) := (blk_cell BK479.out 0).trans rfl; have hcz22_1 : w21.cell? ⟨gb479, 1, none⟩ = some (.int .i64 a1_1) := (blk_cell BK479.out 1).trans rfl; have hfz22_0 := blk_frozen BK479.out 0; have hfz22_1 := blk_frozen BK479.out 1) | ((with_reducible refine gate_callee (f := 100) rfl ?_); refine goesL_ (some 24) rfl rfl Try.func100 (by kernel_rfl) rfl #[.slice A0 l0.length c0, .agg #[.int .i64 a1_0, .int .i64 a1_1]] rfl (by (try simp only [List.map_toArray, List.map_cons, List.map_nil]); first | done | rfl | (simp only [List.length_drop, List.length_take]; rfl)) ?_; (with_reducible refine (boundstoneref02_winding.calls k _ _ l0 a1_0 a1_1 t483 _ ?side1 ?side2 A15.out).mono ?_); (case side1 => repeat (first | exact (Kd.C_below HR0.out HB.out) | (with_reducible refine Kd.C_alloc ?_ _) | (with_reducible refine Kd.C_drewN ?_ _) | (with_reducible refine Kd.C_drew ?_))); (case side2 => exact HC0.out); rintro e w23 ⟨rfl, hb⟩; refine ⟨_, rfl, ?_⟩; have n0_ := Aside0.mk (blk_below (g := gb479) (o := .cells #[.int .i64 a1_0, .int .i64 a1_1] 23 (0, 0)) (by (with_reducible repeat (first | refine blk_drewN ?_ _ | refine blk_drew ?_ | refine blk_alloc ?_ _)); exact BK479.out) hb); have n1_ := Aside0.mk (below_step (by repeat (first | (with_reducible first | exact HB.out | apply below_alloc | apply pw_below_drewN | apply below_drew1 | refine below_set ?_ GE479.out) | exact HB.out)) hb); clear BK479; clear HB; have BK479 := n0_; have HB := n1_; clear n0_ n1_; (try clear hb); (try clear hb2); (try clear hk); (try clear hi)))
        go_ret2
        exact ⟨by first | rfl | (simp [errW_none, errW_some] <;> rfl) | (simp [*, errW_none, errW_some] <;> rfl), by repeat (first | (with_reducible first | exact HB.out | apply below_alloc | apply pw_below_drewN | apply below_drew1 | refine below_set ?_ GE479.out) | exact HB.out)⟩
    · replace c6 := Bool.eq_false_iff.mpr c6
      subst c6
      have H1 : (some (0, 1)) = some (r1, r2) := by rw [if_neg (show ¬ (false = true) by decide)] at H; exact H
      clear H
      have H := H1
      clear H1
      simp only [Option.some.injEq, Prod.mk.injEq] at H
      obtain ⟨rfl, rfl⟩ := H
      go_enter Try.func36, Try.ntmps36
      go_wp2_with (first | ((with_reducible refine gate_dst (N := 3) rfl ?_); refine box_event ?hg (N := 3) ?hd (cs := #[.int .i64 a1_0, .int .i64 a1_1]) (t := 23) ?hr ?_; (case hd => rfl); (case hg => rfl); (case hr => first | (go_simp; done) | (go_simp; rfl)); intro gb479 hg w24 hbox hb; have n0_ := Aside0.mk (below_step (by repeat (first | (with_reducible first | exact HB.out | apply below_alloc | apply pw_below_drewN | apply below_drew1) | exact HB.out)) hb); have n1_ := Aside0.mk (hbox); have n2_ := Aside0.mk ((by rw [hg]; exact (below_size (by repeat (first | (with_reducible first | exact HB.out | apply below_alloc | apply pw_below_drewN | apply below_drew1) | exact HB.out))) : w.heap.size ≤ gb479)); have n3_ := Aside0.mk ((by rw [hg]; exact (below_size (by repeat (first | (with_reducible first | exact HB.out | apply below_alloc | apply pw_below_drewN | apply below_drew1) | exact HB.out))) : w.heap.size ≤ gb479)); clear HB; have HB := n0_; have BK479 := n1_; have GW479 := n2_; have GE479 := n3_; clear n0_ n1_ n2_ n3_; clear hb hbox hg) | ((with_reducible refine gate_callee (f := 94) rfl ?_); refine goesL_ (some 10) rfl rfl Try.func94 (by kernel_rfl) rfl #[.slice A0 l0.length c0, .int .i64 3] rfl (by (try simp only [List.map_toArray, List.map_cons, List.map_nil]); first | done | rfl | (simp only [List.length_drop, List.length_take]; rfl)) ?_; (with_reducible refine (boundstoneref02_points.calls k _ _ l0 3 t480 _ ?side1 ?side2 A3.out).mono ?_); (case side1 => repeat (first | exact (Kd.C_below HR0.out HB.out) | (with_reducible refine Kd.C_alloc ?_ _) | (with_reducible refine Kd.C_drewN ?_ _) | (with_reducible refine Kd.C_drew ?_))); (case side2 => exact HC0.out); rintro e w25 ⟨rfl, hb⟩; refine ⟨_, rfl, ?_⟩; have n0_ := Aside0.mk (blk_below (g := gb479) (o := .cells #[.int .i64 a1_0, .int .i64 a1_1] 23 (0, 0)) (by (with_reducible repeat (first | refine blk_drewN ?_ _ | refine blk_drew ?_ | refine blk_alloc ?_ _)); exact BK479.out) hb); have n1_ := Aside0.mk (below_step (by repeat (first | (with_reducible first | exact HB.out | apply below_alloc | apply pw_below_drewN | apply below_drew1 | refine below_set ?_ GE479.out) | exact HB.out)) hb); clear BK479; clear HB; have BK479 := n0_; have HB := n1_; clear n0_ n1_; (try clear hb); (try clear hb2); (try clear hk); (try clear hi); have hcz26_0 : w25.cell? ⟨gb479, 0, none⟩ = some (.int .i64 a1_0) := (blk_cell BK479.out 0).trans rfl; have hcz26_1 : w25.cell? ⟨gb479, 1, none⟩ = some (.int .i64 a1_1) := (blk_cell BK479.out 1).trans rfl; have hfz26_0 := blk_frozen BK479.out 0; have hfz26_1 := blk_frozen BK479.out 1) | ((with_reducible refine gate_callee (f := 18) rfl ?_); refine goesL_ (some 15) rfl rfl Try.func18 (by kernel_rfl) rfl #[.agg #[.int .i64 a1_0, .int .i64 a1_1]] rfl (by (try simp only [List.map_toArray, List.map_cons, List.map_nil]); first | done | rfl | (simp only [List.length_drop, List.length_take]; rfl)) ?_; (with_reducible refine (boundstoneref02_Valid.calls a1_0 a1_1 false _ A5.out).mono ?_); rintro e w27 ⟨rfl, hb⟩; refine ⟨_, rfl, ?_⟩; have n0_ := Aside0.mk (blk_below (g := gb479) (o := .cells #[.int .i64 a1_0, .int .i64 a1_1] 23 (0, 0)) (by (with_reducible repeat (first | refine blk_drewN ?_ _ | refine blk_drew ?_ | refine blk_alloc ?_ _)); exact BK479.out) hb); have n1_ := Aside0.mk (below_step (by repeat (first | (with_reducible first | exact HB.out | apply below_alloc | apply pw_below_drewN | apply below_drew1 | refine below_set ?_ GE479.out) | exact HB.out)) hb); clear BK479; clear HB; have BK479 := n0_; have HB := n1_; clear n0_ n1_; (try clear hb); (try clear hb2); (try clear hk); (try clear hi)))
      go_ret2
      exact ⟨by first | rfl | (simp [errW_none, errW_some] <;> rfl) | (simp [*, errW_none, errW_some] <;> rfl), by repeat (first | (with_reducible first | exact HB.out | apply below_alloc | apply pw_below_drewN | apply below_drew1 | refine below_set ?_ GE479.out) | exact HB.out)⟩
  · rw [if_neg c4] at H
    have c4b0 : (t480 == 0) = false := beq_eq_false_iff_ne.mpr c4
    have c4b1 : (t480 != 0) = true := bne_iff_ne.mpr c4
    simp only [Option.some.injEq, Prod.mk.injEq] at H
    obtain ⟨rfl, rfl⟩ := H
    go_enter Try.func36, Try.ntmps36
    go_wp2_with (first | ((with_reducible refine gate_dst (N := 3) rfl ?_); refine box_event ?hg (N := 3) ?hd (cs := #[.int .i64 a1_0, .int .i64 a1_1]) (t := 23) ?hr ?_; (case hd => rfl); (case hg => rfl); (case hr => first | (go_simp; done) | (go_simp; rfl)); intro gb479 hg w28 hbox hb; have n0_ := Aside0.mk (below_step (by repeat (first | (with_reducible first | exact HB.out | apply below_alloc | apply pw_below_drewN | apply below_drew1) | exact HB.out)) hb); have n1_ := Aside0.mk (hbox); have n2_ := Aside0.mk ((by rw [hg]; exact (below_size (by repeat (first | (with_reducible first | exact HB.out | apply below_alloc | apply pw_below_drewN | apply below_drew1) | exact HB.out))) : w.heap.size ≤ gb479)); have n3_ := Aside0.mk ((by rw [hg]; exact (below_size (by repeat (first | (with_reducible first | exact HB.out | apply below_alloc | apply pw_below_drewN | apply below_drew1) | exact HB.out))) : w.heap.size ≤ gb479)); clear HB; have HB := n0_; have BK479 := n1_; have GW479 := n2_; have GE479 := n3_; clear n0_ n1_ n2_ n3_; clear hb hbox hg) | ((with_reducible refine gate_callee (f := 94) rfl ?_); refine goesL_ (some 10) rfl rfl Try.func94 (by kernel_rfl) rfl #[.slice A0 l0.length c0, .int .i64 3] rfl (by (try simp only [List.map_toArray, List.map_cons, List.map_nil]); first | done | rfl | (simp only [List.length_drop, List.length_take]; rfl)) ?_; (with_reducible refine (boundstoneref02_points.calls k _ _ l0 3 t480 _ ?side1 ?side2 A3.out).mono ?_); (case side1 => repeat (first | exact (Kd.C_below HR0.out HB.out) | (with_reducible refine Kd.C_alloc ?_ _) | (with_reducible refine Kd.C_drewN ?_ _) | (with_reducible refine Kd.C_drew ?_))); (case side2 => exact HC0.out); rintro e w29 ⟨rfl, hb⟩; refine ⟨_, rfl, ?_⟩; have n0_ := Aside0.mk (blk_below (g := gb479) (o := .cells #[.int .i64 a1_0, .int .i64 a1_1] 23 (0, 0)) (by (with_reducible repeat (first | refine blk_drewN ?_ _ | refine blk_drew ?_ | refine blk_alloc ?_ _)); exact BK479.out) hb); have n1_ := Aside0.mk (below_step (by repeat (first | (with_reducible first | exact HB.out | apply below_alloc | apply pw_below_drewN | apply below_drew1 | refine below_set ?_ GE479.out) | exact HB.out)) hb); clear BK479; clear HB; have BK479 := n0_; have HB := n1_; clear n0_ n1_; (try clear hb); (try clear hb2); (try clear hk); (try clear hi)))
    go_ret2
    exact ⟨by first | rfl | (simp [errW_none, errW_some] <;> rfl) | (simp [*, errW_none, errW_some] <;> rfl), by repeat (first | (with_reducible first | exact HB.out | apply below_alloc | apply pw_below_drewN | apply below_drew1 | refine below_set ?_ GE479.out) | exact HB.out)⟩
end Go.Proofs.Ytckaejgamfllfaa.G
end
