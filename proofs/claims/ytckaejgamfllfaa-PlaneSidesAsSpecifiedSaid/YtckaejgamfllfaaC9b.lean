/- Part 2 of 4. -/
import Derived.Test.YtckaejgamfllfaaC9a
section
namespace Go.Proofs.Ytckaejgamfllfaa.G
open Go.RowKit Go.Proofs.YtckaejgamfllfaaW.PrintWords Go.Proofs.YtckaejgamfllfaaW.PrintLast Go.Proofs.YtckaejgamfllfaaW.PrintMore
attribute [local go_sem] max2_int min2_int max_two min_two max_three min_three max_four min_four
set_option linter.unusedVariables false
set_option linter.unusedSimpArgs false
attribute [local go_sem high] eqA23
mutual
def boundstoneref02_simple.l0 : Nat → List (S23) → Int → Int → Option (Bool)
  | 0, _, _, _ => none
  | k + 1, x0, x3, x4 => if x4 < x3 then (if 0 ≤ x4 then (if x4 < (x0.length : Int) then (if x3 = 0 then (none) else (if 0 ≤ (Int.tmod (wrap64 (x4 + 1)) x3) then (if (Int.tmod (wrap64 (x4 + 1)) x3) < (x0.length : Int) then (if (((rd_T23 x0 x4).f0) == ((rd_T23 x0 (Int.tmod (wrap64 (x4 + 1)) x3)).f0) && (((rd_T23 x0 x4).f1) == ((rd_T23 x0 (Int.tmod (wrap64 (x4 + 1)) x3)).f1))) = true then (some false) else (boundstoneref02_simple.l0 k x0 x3 (wrap64 (x4 + 1)))) else (none)) else (none))) else (none)) else (none)) else (boundstoneref02_simple.l1 k x0 x3 0)
def boundstoneref02_simple.l1 : Nat → List (S23) → Int → Int → Option (Bool)
  | 0, _, _, _ => none
  | k + 1, x0, x3, x5 => if x5 < x3 then (boundstoneref02_simple.l2 k x0 x3 x5 0) else (some true)
def boundstoneref02_simple.l2 : Nat → List (S23) → Int → Int → Int → Option (Bool)
  | 0, _, _, _, _ => none
  | k + 1, x0, x3, x5, x6 => if x6 < x5 then (if 0 ≤ x5 then (if x5 < (x0.length : Int) then (if x3 = 0 then (none) else (if 0 ≤ (Int.tmod (wrap64 (x5 + 1)) x3) then (if (Int.tmod (wrap64 (x5 + 1)) x3) < (x0.length : Int) then (if 0 ≤ x6 then (if x6 < (x0.length : Int) then (if 0 ≤ (Int.tmod (wrap64 (x6 + 1)) x3) then (if (Int.tmod (wrap64 (x6 + 1)) x3) < (x0.length : Int) then ((boundstoneref02_Meeting.f k ((rd_T23 x0 x5).f0) ((rd_T23 x0 x5).f1) ((rd_T23 x0 (Int.tmod (wrap64 (x5 + 1)) x3)).f0) ((rd_T23 x0 (Int.tmod (wrap64 (x5 + 1)) x3)).f1) ((rd_T23 x0 x6).f0) ((rd_T23 x0 x6).f1) ((rd_T23 x0 (Int.tmod (wrap64 (x6 + 1)) x3)).f0) ((rd_T23 x0 (Int.tmod (wrap64 (x6 + 1)) x3)).f1)).bind fun t458 => (if (wrap64 (x6 + 1)) = x5 then (boundstoneref02_simple.j3 k x0 x3 x5 x6 t458 true) else (if (wrap64 (x5 + 1)) = x3 then (boundstoneref02_simple.j3 k x0 x3 x5 x6 t458 (x6 == 0)) else (boundstoneref02_simple.j3 k x0 x3 x5 x6 t458 false)))) else (none)) else (none)) else (none)) else (none)) else (none)) else (none))) else (none)) else (none)) else (boundstoneref02_simple.l1 k x0 x3 (wrap64 (x5 + 1)))
def boundstoneref02_simple.j3 : Nat → List (S23) → Int → Int → Int → Int → Bool → Option (Bool)
  | 0, _, _, _, _, _, _ => none
  | k + 1, x0, x3, x5, x6, x7, x8 => if x8 = true then (if x7 = 1 then (boundstoneref02_simple.j4 k x0 x3 x5 x6 false) else (boundstoneref02_simple.j4 k x0 x3 x5 x6 true)) else (boundstoneref02_simple.j4 k x0 x3 x5 x6 (x7 != 0))
def boundstoneref02_simple.j4 : Nat → List (S23) → Int → Int → Int → Bool → Option (Bool)
  | 0, _, _, _, _, _ => none
  | k + 1, x0, x3, x5, x6, x89 => if x89 = true then (some false) else (boundstoneref02_simple.l2 k x0 x3 x5 (wrap64 (x6 + 1)))
end
def boundstoneref02_simple.f (k : Nat) (l0 : List (S23)) : Option (Bool) := boundstoneref02_simple.l0 k l0 (l0.length : Int) 0
def boundstoneref02_simple.T5 : Bool × List (List Nat × List Nat) := (true, [([], []), ([], []), ([0, 1], [0, 1]), ([2], [2]), ([], []), ([], []), ([5], [5]), ([], []), ([6, 7], [6, 7]), ([4, 8], [4, 8]), ([9], [9]), ([3, 10], [3, 10])])
def boundstoneref02_simple.B5 : List Nat := [0, 0, 3, 7, 0, 0, 32, 0, 224, 496, 1008, 2047]
theorem boundstoneref02_simple.tab5 : rtab .any (opsOf Try.f96 5) = boundstoneref02_simple.T5 := by kernel_rfl
theorem boundstoneref02_simple.bits5 : waitsOk boundstoneref02_simple.T5.2 boundstoneref02_simple.B5 = true := by kernel_rfl
def boundstoneref02_simple.T13 : Bool × List (List Nat × List Nat) := (true, [([], []), ([], []), ([0, 1], [0, 1]), ([2], [2]), ([], []), ([], []), ([5], [5]), ([], []), ([6, 7], [6, 7]), ([4, 8], [4, 8]), ([9], [9]), ([3, 10], [3, 10]), ([], []), ([], []), ([12, 13], [12, 13]), ([14], [14]), ([], []), ([], []), ([17], [17]), ([], []), ([18, 19], [18, 19]), ([16, 20], [16, 20]), ([21], [21]), ([15, 22], [15, 22]), ([11, 23], [11, 23]), ([24, 24, 0, 1, 2, 3, 4, 5, 6, 7, 8, 9, 10, 11, 12, 13, 14, 15, 16, 17, 18, 19, 20, 21, 22, 23, 24], [24])])
def boundstoneref02_simple.B13 : List Nat := [0, 0, 3, 7, 0, 0, 32, 0, 224, 496, 1008, 2047, 0, 0, 12288, 28672, 0, 0, 131072, 0, 917504, 2031616, 4128768, 8384512, 16777215, 33554431]
theorem boundstoneref02_simple.tab13 : rtab .any (opsOf Try.f96 13) = boundstoneref02_simple.T13 := by kernel_rfl
theorem boundstoneref02_simple.bits13 : waitsOk boundstoneref02_simple.T13.2 boundstoneref02_simple.B13 = true := by kernel_rfl
set_option maxHeartbeats 8000000 in
set_option maxRecDepth 100000 in
theorem boundstoneref02_simple.calls (k : Nat) (A0 : Option Addr) (c0 : Nat) (l0 : List (S23)) (r : Bool) (w : World) (hr0 : Kd.C k23 w A0 l0.length l0) (hc0 : l0.length ≤ c0) (h : boundstoneref02_simple.f k l0 = some r) :
    Calls Try.prog 96 #[.slice A0 l0.length c0] w fun e w' => e = .returned (.bool r) ∧ Below w.heap.size w w' := by
  have hu23 := Try.underlying23
  have hu34 := Try.underlying34
  have HR0 := Aside0.mk hr0
  have HC0 := Aside0.mk hc0
  clear hr0 hc0
  have HB := Aside0.mk (Below.refl w.heap.size w)
  have H : (boundstoneref02_simple.l0 k l0 (l0.length : Int) 0) = some r := h
  clear h
  have H' := Aside0.mk H
  clear H
  go_enter Try.func96, Try.ntmps96
  go_wp2
  go_loopg [4] k (fun kq v4 w' => ∃ (x4_1 : Int), v4 = .int .i64 x4_1 ∧ Aside0 (boundstoneref02_simple.l0 kq l0 (l0.length : Int) x4_1 = some r) ∧ Aside0 (kq ≤ k) ∧ Aside0 (Below w.heap.size w w'))
  case atStart => exact ⟨(0), (by first | rfl | (simp; done) | (simp [*]; done)), H', ⟨Nat.le_refl _⟩, ⟨by repeat (first | (with_reducible first | exact HB.out | apply below_alloc | apply pw_below_drewN | apply below_drew1) | exact HB.out)⟩⟩
  case round =>
    clear H'
    obtain ⟨x4_1, rfl, HA, HK1, HB⟩ := hrel
    cases gk with
    | zero => exact absurd HA.out (by simp [boundstoneref02_simple.l0])
    | succ k1 =>
      have H := HA.out
      clear HA
      simp only [boundstoneref02_simple.l0] at H
      by_cases c2 : x4_1 < (l0.length : Int)
      · rw [if_pos c2] at H
        have c2b0 : decide (x4_1 < (l0.length : Int)) = true := decide_eq_true c2
        clear c2
        by_cases c3 : 0 ≤ x4_1
        · rw [if_pos c3] at H
          have c3b0 : decide (0 ≤ x4_1) = true := decide_eq_true c3
          clear c3
          by_cases c4 : x4_1 < (l0.length : Int)
          · rw [if_pos c4] at H
            have c4b0 : decide (x4_1 < (l0.length : Int)) = true := decide_eq_true c4
            clear c4
            by_cases c5 : (l0.length : Int) = 0
            · rw [if_pos c5] at H
              exact absurd H (by simp)
            · rw [if_neg c5] at H
              have c5b0 : ((l0.length : Int) == 0) = false := beq_eq_false_iff_ne.mpr c5
              have c5b1 : ((l0.length : Int) != 0) = true := bne_iff_ne.mpr c5
              have c5b2 : ¬ (l0 = []) := fun h_ => c5 (by rw [h_]; rfl)
              obtain ⟨ji6, hji6⟩ : ∃ j_ : Int, (Int.tmod (wrap64 (x4_1 + 1)) (l0.length : Int)) = j_ := ⟨_, rfl⟩
              replace H : (if 0 ≤ (ji6) then (if (ji6) < (l0.length : Int) then (if (((rd_T23 l0 x4_1).f0) == ((rd_T23 l0 (ji6)).f0) && (((rd_T23 l0 x4_1).f1) == ((rd_T23 l0 (ji6)).f1))) = true then (some false) else (boundstoneref02_simple.l0 k1 l0 (l0.length : Int) (wrap64 (x4_1 + 1)))) else (none)) else (none)) = some r := by first | (rw [hji6] at H; exact H) | (simp only [hji6] at H ⊢; exact H)
              by_cases c7 : 0 ≤ (ji6)
              · rw [if_pos c7] at H
                have c7b0 : decide (0 ≤ (ji6)) = true := decide_eq_true c7
                clear c7
                by_cases c8 : (ji6) < (l0.length : Int)
                · rw [if_pos c8] at H
                  have c8b0 : decide ((ji6) < (l0.length : Int)) = true := decide_eq_true c8
                  clear c8
                  by_cases c9 : (((rd_T23 l0 x4_1).f0) == ((rd_T23 l0 (ji6)).f0) && (((rd_T23 l0 x4_1).f1) == ((rd_T23 l0 (ji6)).f1))) = true
                  · rw [if_pos c9] at H
                    have c9b0 : (((rd_T23 l0 x4_1).f0) == ((rd_T23 l0 (ji6)).f0) && (((rd_T23 l0 x4_1).f1) == ((rd_T23 l0 (ji6)).f1))) = true := c9
                    (try (have c9b1 : decide (((rd_T23 l0 x4_1).f0) = ((rd_T23 l0 (ji6)).f0) && (((rd_T23 l0 x4_1).f1) == ((rd_T23 l0 (ji6)).f1))) = true := by simpa using c9))
                    (try (have c9b2 : (((rd_T23 l0 x4_1).f0) == ((rd_T23 l0 (ji6)).f0) && (((rd_T23 l0 x4_1).f1) == ((rd_T23 l0 (ji6)).f1))) = true := by simpa using c9))
                    clear c9
                    obtain rfl := Option.some.inj H
                    try go_wp2
                    have n0_ := Aside0.mk (below_drew1 HB.out)
                    clear HB
                    have HB := n0_
                    clear n0_
                    have p452 : 0 ≤ (x4_1 : Int) := of_decide_eq_true (by first | (with_reducible assumption) | assumption)
                    have q452 : x4_1 < (l0.length : Int) := of_decide_eq_true (by first | (with_reducible assumption) | assumption)
                    obtain ⟨ad452, e452, hx452_0, hx452_1⟩ := at_T23 HR0.out x4_1 p452 q452
                    have hw452_1 := hx452_1
                    have hw452_0 := hx452_0
                    cases e452
                    replace hx452_0 := (HB.out.cell (World.block_lt_of_cell? w _ hx452_0)).trans hx452_0
                    replace hx452_1 := (HB.out.cell (World.block_lt_of_cell? w _ hx452_1)).trans hx452_1
                    replace p452 := eq_true p452
                    replace q452 := eq_true q452
                    have p453 : 0 ≤ ((ji6) : Int) := of_decide_eq_true (by first | (with_reducible assumption) | assumption)
                    have q453 : (ji6) < (l0.length : Int) := of_decide_eq_true (by first | (with_reducible assumption) | assumption)
                    obtain ⟨ad453, e453, hx453_0, hx453_1⟩ := at_T23 HR0.out (ji6) p453 q453
                    have hw453_1 := hx453_1
                    have hw453_0 := hx453_0
                    obtain rfl : ad452 = ad453 := (by injection e453)
                    replace hx453_0 := (HB.out.cell (World.block_lt_of_cell? w _ hx453_0)).trans hx453_0
                    replace hx453_1 := (HB.out.cell (World.block_lt_of_cell? w _ hx453_1)).trans hx453_1
                    replace p453 := eq_true p453
                    replace q453 := eq_true q453
                    refine start_ (n := 12) (S := fun w' => w'.cell? (ad452.add ((x4_1).toNat * 2)) = some (.int .i64 ((rd_T23 l0 x4_1).f0)) ∧ w'.cell? ⟨(ad452.add ((x4_1).toNat * 2)).block, (ad452.add ((x4_1).toNat * 2)).off + 1, none⟩ = some (.int .i64 ((rd_T23 l0 x4_1).f1)) ∧ w'.cell? (ad452.add (((ji6)).toNat * 2)) = some (.int .i64 ((rd_T23 l0 (ji6)).f0)) ∧ w'.cell? ⟨(ad452.add (((ji6)).toNat * 2)).block, (ad452.add (((ji6)).toNat * 2)).off + 1, none⟩ = some (.int .i64 ((rd_T23 l0 (ji6)).f1))) (ds := []) #[false, false, false, false, false, false, false, false, false, false, false, false] (by kernel_rfl) rfl rfl ⟨((HB.out.cell (World.block_lt_of_cell? w _ hw452_0)).trans hw452_0), ((HB.out.cell (World.block_lt_of_cell? w _ hw452_1)).trans hw452_1), ((HB.out.cell (World.block_lt_of_cell? w _ hw453_0)).trans hw453_0), ((HB.out.cell (World.block_lt_of_cell? w _ hw453_1)).trans hw453_1)⟩ (fun hHeld => ?_); refine with_tabW boundstoneref02_simple.tab5 boundstoneref02_simple.bits5 (fun HT_ HW_ => ?_)
                    generalize wr.drew = w10 at HB hx452_0 hx452_1 hx453_0 hx453_1 hHeld ⊢
                    refine pure_ (i := 0) (N := some 16) (v := ?_) (a' := ?_) #[true, false, false, false, false, false, false, false, false, false, false, false] rfl rfl (any_of HT_.out (by kernel_rfl)) (fun _ _ _ h => h) (Or.inl ⟨by rfl, ?_⟩) ?_ ?_
                    rotate_left
                    · intro w'
                      go_simp
                      with_reducible rfl
                    rotate_left
                    · simp only [Act.put, List.setIfInBounds_toArray, List.set_cons_zero, List.set_cons_succ, i64_w, i32_w]
                      rfl
                    refine pure_ (i := 1) (N := some 17) (v := ?_) (a' := ?_) #[true, true, false, false, false, false, false, false, false, false, false, false] rfl rfl (any_of HT_.out (by kernel_rfl)) (fun _ _ _ h => h) (Or.inl ⟨by rfl, ?_⟩) ?_ ?_
                    rotate_left
                    · intro w'
                      go_simp
                      with_reducible rfl
                    rotate_left
                    · simp only [Act.put, List.setIfInBounds_toArray, List.set_cons_zero, List.set_cons_succ, i64_w, i32_w]
                      rfl
                    refine pure_ (i := 2) (N := some 18) (v := ?_) (a' := ?_) #[true, true, true, false, false, false, false, false, false, false, false, false] rfl rfl (any_of HT_.out (by kernel_rfl)) (fun _ _ _ h => h) (Or.inl ⟨by rfl, ?_⟩) ?_ ?_
                    rotate_left
                    · intro w'
                      go_simp
                      with_reducible rfl
                    rotate_left
                    · simp only [Act.put, List.setIfInBounds_toArray, List.set_cons_zero, List.set_cons_succ, i64_w, i32_w]
                      rfl
                    refine pure_ (i := 4) (N := some 20) (v := ?_) (a' := ?_) #[true, true, true, false, true, false, false, false, false, false, false, false] rfl rfl (any_of HT_.out (by kernel_rfl)) (fun _ _ _ h => h) (Or.inl ⟨by rfl, ?_⟩) ?_ ?_
                    rotate_left
                    · intro w'
                      go_simp
                      with_reducible rfl
                    rotate_left
                    · simp only [Act.put, List.setIfInBounds_toArray, List.set_cons_zero, List.set_cons_succ, i64_w, i32_w]
                      rfl
                    refine pure_ (i := 5) (N := some 21) (v := ?_) (a' := ?_) #[true, true, true, false, true, true, false, false, false, false, false, false] rfl rfl (any_of HT_.out (by kernel_rfl)) (fun _ _ _ h => h) (Or.inl ⟨by rfl, ?_⟩) ?_ ?_
                    rotate_left
                    · intro w'
                      go_simp
                      with_reducible rfl
                    rotate_left
                    · simp only [Act.put, List.setIfInBounds_toArray, List.set_cons_zero, List.set_cons_succ, i64_w, i32_w]
                      rfl
                    refine pure_ (i := 6) (N := some 22) (v := ?_) (a' := ?_) #[true, true, true, false, true, true, true, false, false, false, false, false] rfl rfl (any_of HT_.out (by kernel_rfl)) (fun _ _ _ h => h) (Or.inl ⟨by rfl, ?_⟩) ?_ ?_
                    rotate_left
                    · intro w'
                      go_simp
                      with_reducible rfl
                    rotate_left
                    · simp only [Act.put, List.setIfInBounds_toArray, List.set_cons_zero, List.set_cons_succ, i64_w, i32_w]
                      rfl
                    refine pure_ (i := 7) (N := some 23) (v := ?_) (a' := ?_) #[true, true, true, false, true, true, true, true, false, false, false, false] rfl rfl (any_of HT_.out (by kernel_rfl)) (fun _ _ _ h => h) (Or.inl ⟨by rfl, ?_⟩) ?_ ?_
                    rotate_left
                    · intro w'
                      go_simp
                      with_reducible rfl
                    rotate_left
                    · simp only [Act.put, List.setIfInBounds_toArray, List.set_cons_zero, List.set_cons_succ, i64_w, i32_w]
                      rfl
                    refine pure_ (i := 8) (N := some 24) (v := ?_) (a' := ?_) #[true, true, true, false, true, true, true, true, true, false, false, false] rfl rfl (any_of HT_.out (by kernel_rfl)) (fun _ _ _ h => h) (Or.inl ⟨by rfl, ?_⟩) ?_ ?_
                    rotate_left
                    · intro w'
                      go_simp
                      with_reducible rfl
                    rotate_left
                    · simp only [Act.put, List.setIfInBounds_toArray, List.set_cons_zero, List.set_cons_succ, i64_w, i32_w]
                      rfl
                    refine pure_ (i := 9) (N := some 25) (v := ?_) (a' := ?_) #[true, true, true, false, true, true, true, true, true, true, false, false] rfl rfl (any_of HT_.out (by kernel_rfl)) (fun _ _ _ h => h) (Or.inl ⟨by rfl, ?_⟩) ?_ ?_
                    rotate_left
                    · intro w'
                      go_simp
                      with_reducible rfl
                    rotate_left
                    · simp only [Act.put, List.setIfInBounds_toArray, List.set_cons_zero, List.set_cons_succ, i64_w, i32_w]
                      rfl
                    refine take_ (i := 3) (N := some 19) (v := ?_) (a' := ?_) #[true, true, true, true, true, true, true, true, true, true, false, false] rfl rfl (take_ofW HT_.out HW_.out (by kernel_rfl)) (fun _ _ _ h => h) (Or.inl ⟨by rfl, ?_⟩) hHeld ?_ ?_
                    rotate_left
                    · rintro w' ⟨s0, s1, s2, s3⟩
                      go_simp
                      with_reducible rfl
                    rotate_left
                    · simp only [Act.put, List.setIfInBounds_toArray, List.set_cons_zero, List.set_cons_succ, i64_w, i32_w]
                      rfl
                    refine take_ (i := 10) (N := some 26) (v := ?_) (a' := ?_) #[true, true, true, true, true, true, true, true, true, true, true, false] rfl rfl (take_ofW HT_.out HW_.out (by kernel_rfl)) (fun _ _ _ h => h) (Or.inl ⟨by rfl, ?_⟩) hHeld ?_ ?_
                    rotate_left
                    · rintro w' ⟨s0, s1, s2, s3⟩
                      go_simp
                      with_reducible rfl
                    rotate_left
                    · simp only [Act.put, List.setIfInBounds_toArray, List.set_cons_zero, List.set_cons_succ, i64_w, i32_w]
                      rfl
                    refine pure_ (i := 11) (N := some 27) (v := ?_) (a' := ?_) #[true, true, true, true, true, true, true, true, true, true, true, true] rfl rfl (any_of HT_.out (by kernel_rfl)) (fun _ _ _ h => h) (Or.inl ⟨by rfl, ?_⟩) ?_ ?_
                    rotate_left
                    · intro w'
                      go_simp
                      with_reducible rfl
                    rotate_left
                    · simp only [Act.put, List.setIfInBounds_toArray, List.set_cons_zero, List.set_cons_succ, i64_w, i32_w]
                      rfl
                    refine done_ (done_of HT_.out (by kernel_rfl)) ?_
                    try go_wp2
                    go_ret
                    exact ⟨by first | rfl | (simp [errW_none, errW_some] <;> rfl) | (simp only [← hji6]; first | rfl | (simp [errW_none, errW_some] <;> rfl)) | (simp [*, errW_none, errW_some] <;> rfl), by repeat (first | (with_reducible first | exact HB.out | apply below_alloc | apply pw_below_drewN | apply below_drew1) | exact HB.out)⟩
                  · rw [if_neg c9] at H
                    have c9b0 : (((rd_T23 l0 x4_1).f0) == ((rd_T23 l0 (ji6)).f0) && (((rd_T23 l0 x4_1).f1) == ((rd_T23 l0 (ji6)).f1))) = false := by simpa using c9
                    (try (have c9b1 : decide (((rd_T23 l0 x4_1).f0) = ((rd_T23 l0 (ji6)).f0) && (((rd_T23 l0 x4_1).f1) == ((rd_T23 l0 (ji6)).f1))) = false := by simpa using c9))
                    (try (have c9b2 : (((rd_T23 l0 x4_1).f0) == ((rd_T23 l0 (ji6)).f0) && (((rd_T23 l0 x4_1).f1) == ((rd_T23 l0 (ji6)).f1))) = false := by simpa using c9))
                    (try (have c9b3 : ¬ (((rd_T23 l0 x4_1).f0) = ((rd_T23 l0 (ji6)).f0) && (((rd_T23 l0 x4_1).f1) == ((rd_T23 l0 (ji6)).f1))) := by simpa using c9))
                    clear c9
                    have H' := Aside0.mk H
                    clear H
                    try go_wp2
                    have n0_ := Aside0.mk (below_drew1 HB.out)
                    clear HB
                    have HB := n0_
                    clear n0_
                    have p452 : 0 ≤ (x4_1 : Int) := of_decide_eq_true (by first | (with_reducible assumption) | assumption)
                    have q452 : x4_1 < (l0.length : Int) := of_decide_eq_true (by first | (with_reducible assumption) | assumption)
                    obtain ⟨ad452, e452, hx452_0, hx452_1⟩ := at_T23 HR0.out x4_1 p452 q452
                    have hw452_1 := hx452_1
                    have hw452_0 := hx452_0
                    cases e452
                    replace hx452_0 := (HB.out.cell (World.block_lt_of_cell? w _ hx452_0)).trans hx452_0
                    replace hx452_1 := (HB.out.cell (World.block_lt_of_cell? w _ hx452_1)).trans hx452_1
                    replace p452 := eq_true p452
                    replace q452 := eq_true q452
                    have p453 : 0 ≤ ((ji6) : Int) := of_decide_eq_true (by first | (with_reducible assumption) | assumption)
                    have q453 : (ji6) < (l0.length : Int) := of_decide_eq_true (by first | (with_reducible assumption) | assumption)
                    obtain ⟨ad453, e453, hx453_0, hx453_1⟩ := at_T23 HR0.out (ji6) p453 q453
                    have hw453_1 := hx453_1
                    have hw453_0 := hx453_0
                    obtain rfl : ad452 = ad453 := (by injection e453)
                    replace hx453_0 := (HB.out.cell (World.block_lt_of_cell? w _ hx453_0)).trans hx453_0
                    replace hx453_1 := (HB.out.cell (World.block_lt_of_cell? w _ hx453_1)).trans hx453_1
                    replace p453 := eq_true p453
                    replace q453 := eq_true q453
                    refine start_ (n := 12) (S := fun w' => w'.cell? (ad452.add ((x4_1).toNat * 2)) = some (.int .i64 ((rd_T23 l0 x4_1).f0)) ∧ w'.cell? ⟨(ad452.add ((x4_1).toNat * 2)).block, (ad452.add ((x4_1).toNat * 2)).off + 1, none⟩ = some (.int .i64 ((rd_T23 l0 x4_1).f1)) ∧ w'.cell? (ad452.add (((ji6)).toNat * 2)) = some (.int .i64 ((rd_T23 l0 (ji6)).f0)) ∧ w'.cell? ⟨(ad452.add (((ji6)).toNat * 2)).block, (ad452.add (((ji6)).toNat * 2)).off + 1, none⟩ = some (.int .i64 ((rd_T23 l0 (ji6)).f1))) (ds := []) #[false, false, false, false, false, false, false, false, false, false, false, false] (by kernel_rfl) rfl rfl ⟨((HB.out.cell (World.block_lt_of_cell? w _ hw452_0)).trans hw452_0), ((HB.out.cell (World.block_lt_of_cell? w _ hw452_1)).trans hw452_1), ((HB.out.cell (World.block_lt_of_cell? w _ hw453_0)).trans hw453_0), ((HB.out.cell (World.block_lt_of_cell? w _ hw453_1)).trans hw453_1)⟩ (fun hHeld => ?_); refine with_tabW boundstoneref02_simple.tab5 boundstoneref02_simple.bits5 (fun HT_ HW_ => ?_)
                    generalize wr.drew = w11 at HB hx452_0 hx452_1 hx453_0 hx453_1 hHeld ⊢
                    refine pure_ (i := 0) (N := some 16) (v := ?_) (a' := ?_) #[true, false, false, false, false, false, false, false, false, false, false, false] rfl rfl (any_of HT_.out (by kernel_rfl)) (fun _ _ _ h => h) (Or.inl ⟨by rfl, ?_⟩) ?_ ?_
                    rotate_left
                    · intro w'
                      go_simp
                      with_reducible rfl
                    rotate_left
                    · simp only [Act.put, List.setIfInBounds_toArray, List.set_cons_zero, List.set_cons_succ, i64_w, i32_w]
                      rfl
                    refine pure_ (i := 1) (N := some 17) (v := ?_) (a' := ?_) #[true, true, false, false, false, false, false, false, false, false, false, false] rfl rfl (any_of HT_.out (by kernel_rfl)) (fun _ _ _ h => h) (Or.inl ⟨by rfl, ?_⟩) ?_ ?_
                    rotate_left
                    · intro w'
                      go_simp
                      with_reducible rfl
                    rotate_left
                    · simp only [Act.put, List.setIfInBounds_toArray, List.set_cons_zero, List.set_cons_succ, i64_w, i32_w]
                      rfl
                    refine pure_ (i := 2) (N := some 18) (v := ?_) (a' := ?_) #[true, true, true, false, false, false, false, false, false, false, false, false] rfl rfl (any_of HT_.out (by kernel_rfl)) (fun _ _ _ h => h) (Or.inl ⟨by rfl, ?_⟩) ?_ ?_
                    rotate_left
                    · intro w'
                      go_simp
                      with_reducible rfl
                    rotate_left
                    · simp only [Act.put, List.setIfInBounds_toArray, List.set_cons_zero, List.set_cons_succ, i64_w, i32_w]
                      rfl
                    refine pure_ (i := 4) (N := some 20) (v := ?_) (a' := ?_) #[true, true, true, false, true, false, false, false, false, false, false, false] rfl rfl (any_of HT_.out (by kernel_rfl)) (fun _ _ _ h => h) (Or.inl ⟨by rfl, ?_⟩) ?_ ?_
                    rotate_left
                    · intro w'
                      go_simp
                      with_reducible rfl
                    rotate_left
                    · simp only [Act.put, List.setIfInBounds_toArray, List.set_cons_zero, List.set_cons_succ, i64_w, i32_w]
                      rfl
                    refine pure_ (i := 5) (N := some 21) (v := ?_) (a' := ?_) #[true, true, true, false, true, true, false, false, false, false, false, false] rfl rfl (any_of HT_.out (by kernel_rfl)) (fun _ _ _ h => h) (Or.inl ⟨by rfl, ?_⟩) ?_ ?_
                    rotate_left
                    · intro w'
                      go_simp
                      with_reducible rfl
                    rotate_left
                    · simp only [Act.put, List.setIfInBounds_toArray, List.set_cons_zero, List.set_cons_succ, i64_w, i32_w]
                      rfl
                    refine pure_ (i := 6) (N := some 22) (v := ?_) (a' := ?_) #[true, true, true, false, true, true, true, false, false, false, false, false] rfl rfl (any_of HT_.out (by kernel_rfl)) (fun _ _ _ h => h) (Or.inl ⟨by rfl, ?_⟩) ?_ ?_
                    rotate_left
                    · intro w'
                      go_simp
                      with_reducible rfl
                    rotate_left
                    · simp only [Act.put, List.setIfInBounds_toArray, List.set_cons_zero, List.set_cons_succ, i64_w, i32_w]
                      rfl
                    refine pure_ (i := 7) (N := some 23) (v := ?_) (a' := ?_) #[true, true, true, false, true, true, true, true, false, false, false, false] rfl rfl (any_of HT_.out (by kernel_rfl)) (fun _ _ _ h => h) (Or.inl ⟨by rfl, ?_⟩) ?_ ?_
                    rotate_left
                    · intro w'
                      go_simp
                      with_reducible rfl
                    rotate_left
                    · simp only [Act.put, List.setIfInBounds_toArray, List.set_cons_zero, List.set_cons_succ, i64_w, i32_w]
                      rfl
                    refine pure_ (i := 8) (N := some 24) (v := ?_) (a' := ?_) #[true, true, true, false, true, true, true, true, true, false, false, false] rfl rfl (any_of HT_.out (by kernel_rfl)) (fun _ _ _ h => h) (Or.inl ⟨by rfl, ?_⟩) ?_ ?_
                    rotate_left
                    · intro w'
                      go_simp
                      with_reducible rfl
                    rotate_left
                    · simp only [Act.put, List.setIfInBounds_toArray, List.set_cons_zero, List.set_cons_succ, i64_w, i32_w]
                      rfl
                    refine pure_ (i := 9) (N := some 25) (v := ?_) (a' := ?_) #[true, true, true, false, true, true, true, true, true, true, false, false] rfl rfl (any_of HT_.out (by kernel_rfl)) (fun _ _ _ h => h) (Or.inl ⟨by rfl, ?_⟩) ?_ ?_
                    rotate_left
                    · intro w'
                      go_simp
                      with_reducible rfl
                    rotate_left
                    · simp only [Act.put, List.setIfInBounds_toArray, List.set_cons_zero, List.set_cons_succ, i64_w, i32_w]
                      rfl
                    refine take_ (i := 3) (N := some 19) (v := ?_) (a' := ?_) #[true, true, true, true, true, true, true, true, true, true, false, false] rfl rfl (take_ofW HT_.out HW_.out (by kernel_rfl)) (fun _ _ _ h => h) (Or.inl ⟨by rfl, ?_⟩) hHeld ?_ ?_
                    rotate_left
                    · rintro w' ⟨s0, s1, s2, s3⟩
                      go_simp
                      with_reducible rfl
                    rotate_left
                    · simp only [Act.put, List.setIfInBounds_toArray, List.set_cons_zero, List.set_cons_succ, i64_w, i32_w]
                      rfl
                    refine take_ (i := 10) (N := some 26) (v := ?_) (a' := ?_) #[true, true, true, true, true, true, true, true, true, true, true, false] rfl rfl (take_ofW HT_.out HW_.out (by kernel_rfl)) (fun _ _ _ h => h) (Or.inl ⟨by rfl, ?_⟩) hHeld ?_ ?_
                    rotate_left
                    · rintro w' ⟨s0, s1, s2, s3⟩
                      go_simp
                      with_reducible rfl
                    rotate_left
                    · simp only [Act.put, List.setIfInBounds_toArray, List.set_cons_zero, List.set_cons_succ, i64_w, i32_w]
                      rfl
                    refine pure_ (i := 11) (N := some 27) (v := ?_) (a' := ?_) #[true, true, true, true, true, true, true, true, true, true, true, true] rfl rfl (any_of HT_.out (by kernel_rfl)) (fun _ _ _ h => h) (Or.inl ⟨by rfl, ?_⟩) ?_ ?_
                    rotate_left
                    · intro w'
                      go_simp
                      with_reducible rfl
                    rotate_left
                    · simp only [Act.put, List.setIfInBounds_toArray, List.set_cons_zero, List.set_cons_succ, i64_w, i32_w]
                      rfl
                    refine done_ (done_of HT_.out (by kernel_rfl)) ?_
                    try go_wp2
                    go_roundg k1
                    case measure => have := HK1.out; omega
                    case rel => exact ⟨(wrap64 (x4_1 + 1)), (by first | rfl | (simp; done) | (simp [*]; done)), H', ⟨by have := HK1.out; omega⟩, ⟨by repeat (first | (with_reducible first | exact HB.out | apply below_alloc | apply pw_below_drewN | apply below_drew1) | exact HB.out)⟩⟩
                · rw [if_neg c8] at H
                  exact absurd H (by simp)
              · rw [if_neg c7] at H
                exact absurd H (by simp)
          · rw [if_neg c4] at H
            exact absurd H (by simp)
        · rw [if_neg c3] at H
          exact absurd H (by simp)
      · rw [if_neg c2] at H
        have c2b0 : decide (x4_1 < (l0.length : Int)) = false := decide_eq_false c2
        clear c2
        have H' := Aside0.mk H
        clear H
        go_wp2
        go_loopg [5] k1 (fun kq v5 w' => ∃ (x5_2 : Int), v5 = .int .i64 x5_2 ∧ Aside0 (boundstoneref02_simple.l1 kq l0 (l0.length : Int) x5_2 = some r) ∧ Aside0 (kq ≤ k1) ∧ Aside0 (Below w.heap.size w w'))
        case atStart => exact ⟨(0), (by first | rfl | (simp; done) | (simp [*]; done)), H', ⟨Nat.le_refl _⟩, ⟨by repeat (first | (with_reducible first | exact HB.out | apply below_alloc | apply pw_below_drewN | apply below_drew1) | exact HB.out)⟩⟩
        case round =>
          clear H'
          (try clear c2); (try clear c2b0); (try clear p2); (try clear c3); (try clear c3b0); (try clear c4); (try clear c4b0); (try clear p4); (try clear q4); (try clear hx4); (try clear c5); (try clear c5b0); (try clear c5b1); (try clear c5b2); (try clear p6); (try clear c7); (try clear c7b0); (try clear c8); (try clear c8b0); (try clear c9); (try clear c9b0); (try clear c9b1); (try clear c9b2); (try clear hx452_0); (try clear hx452_1); (try clear hx453_0); (try clear hx453_1); (try clear p452); (try clear p453); (try clear q452); (try clear q453)
          obtain ⟨x5_2, rfl, HA, HK2, HB⟩ := hrel
          cases gk with
          | zero => exact absurd HA.out (by simp [boundstoneref02_simple.l1])
          | succ k2 =>
            have H := HA.out
            clear HA
            simp only [boundstoneref02_simple.l1] at H
            by_cases c12 : x5_2 < (l0.length : Int)
            · rw [if_pos c12] at H
              have c12b0 : decide (x5_2 < (l0.length : Int)) = true := decide_eq_true c12
              clear c12
              have H' := Aside0.mk H
              clear H
              go_wp2
              go_loopg [6] k2 (fun kq v6 w' => ∃ (x6_3 : Int), v6 = .int .i64 x6_3 ∧ Aside0 (boundstoneref02_simple.l2 kq l0 (l0.length : Int) x5_2 x6_3 = some r) ∧ Aside0 (kq ≤ k2) ∧ Aside0 (Below w.heap.size w w'))
              case atStart => exact ⟨(0), (by first | rfl | (simp; done) | (simp [*]; done)), H', ⟨Nat.le_refl _⟩, ⟨by repeat (first | (with_reducible first | exact HB.out | apply below_alloc | apply pw_below_drewN | apply below_drew1) | exact HB.out)⟩⟩
              case round =>
                clear H'
                (try clear c1); (try clear c2); (try clear c2b0); (try clear p2); (try clear c3); (try clear c3b0); (try clear c4); (try clear c4b0); (try clear p4); (try clear q4); (try clear hx4); (try clear c5); (try clear c5b0); (try clear c5b1); (try clear c5b2); (try clear p6); (try clear c7); (try clear c7b0); (try clear c8); (try clear c8b0); (try clear c9); (try clear c9b0); (try clear c9b1); (try clear c9b2); (try clear c12); (try clear c12b0); (try clear hx452_0); (try clear hx452_1); (try clear hx453_0); (try clear hx453_1); (try clear p2); (try clear p4); (try clear p452); (try clear p453); (try clear p6); (try clear q4); (try clear q452); (try clear q453)
                obtain ⟨x6_3, rfl, HA, HK3, HB⟩ := hrel
                cases gk with
                | zero => exact absurd HA.out (by simp [boundstoneref02_simple.l2])
                | succ k3 =>
                  have H := HA.out
                  clear HA
                  simp only [boundstoneref02_simple.l2] at H
                  by_cases c13 : x6_3 < x5_2
                  · rw [if_pos c13] at H
                    have c13b0 : decide (x6_3 < x5_2) = true := decide_eq_true c13
                    clear c13
                    by_cases c14 : 0 ≤ x5_2
                    · rw [if_pos c14] at H
                      have c14b0 : decide (0 ≤ x5_2) = true := decide_eq_true c14
                      clear c14
                      by_cases c15 : x5_2 < (l0.length : Int)
                      · rw [if_pos c15] at H
                        have c15b0 : decide (x5_2 < (l0.length : Int)) = true := decide_eq_true c15
                        clear c15
                        by_cases c16 : (l0.length : Int) = 0
                        · rw [if_pos c16] at H
                          exact absurd H (by simp)
                        · rw [if_neg c16] at H
                          have c16b0 : ((l0.length : Int) == 0) = false := beq_eq_false_iff_ne.mpr c16
                          have c16b1 : ((l0.length : Int) != 0) = true := bne_iff_ne.mpr c16
                          have c16b2 : ¬ (l0 = []) := fun h_ => c16 (by rw [h_]; rfl)
                          obtain ⟨ji17, hji17⟩ : ∃ j_ : Int, (Int.tmod (wrap64 (x5_2 + 1)) (l0.length : Int)) = j_ := ⟨_, rfl⟩
                          replace H : (if 0 ≤ (ji17) then (if (ji17) < (l0.length : Int) then (if 0 ≤ x6_3 then (if x6_3 < (l0.length : Int) then (if 0 ≤ (Int.tmod (wrap64 (x6_3 + 1)) (l0.length : Int)) then (if (Int.tmod (wrap64 (x6_3 + 1)) (l0.length : Int)) < (l0.length : Int) then ((boundstoneref02_Meeting.f k3 ((rd_T23 l0 x5_2).f0) ((rd_T23 l0 x5_2).f1) ((rd_T23 l0 (ji17)).f0) ((rd_T23 l0 (ji17)).f1) ((rd_T23 l0 x6_3).f0) ((rd_T23 l0 x6_3).f1) ((rd_T23 l0 (Int.tmod (wrap64 (x6_3 + 1)) (l0.length : Int))).f0) ((rd_T23 l0 (Int.tmod (wrap64 (x6_3 + 1)) (l0.length : Int))).f1)).bind fun t458 => (if (wrap64 (x6_3 + 1)) = x5_2 then (boundstoneref02_simple.j3 k3 l0 (l0.length : Int) x5_2 x6_3 t458 true) else (if (wrap64 (x5_2 + 1)) = (l0.length : Int) then (boundstoneref02_simple.j3 k3 l0 (l0.length : Int) x5_2 x6_3 t458 (x6_3 == 0)) else (boundstoneref02_simple.j3 k3 l0 (l0.length : Int) x5_2 x6_3 t458 false)))) else (none)) else (none)) else (none)) else (none)) else (none)) else (none)) = some r := by first | (rw [hji17] at H; exact H) | (simp only [hji17] at H ⊢; exact H)
                          by_cases c18 : 0 ≤ (ji17)
                          · rw [if_pos c18] at H
                            have c18b0 : decide (0 ≤ (ji17)) = true := decide_eq_true c18
                            clear c18
                            by_cases c19 : (ji17) < (l0.length : Int)
                            · rw [if_pos c19] at H
                              have c19b0 : decide ((ji17) < (l0.length : Int)) = true := decide_eq_true c19
                              clear c19
                              by_cases c20 : 0 ≤ x6_3
                              · rw [if_pos c20] at H
                                have c20b0 : decide (0 ≤ x6_3) = true := decide_eq_true c20
                                clear c20
                                by_cases c21 : x6_3 < (l0.length : Int)
                                · rw [if_pos c21] at H
                                  have c21b0 : decide (x6_3 < (l0.length : Int)) = true := decide_eq_true c21
                                  clear c21
                                  obtain ⟨ji22, hji22⟩ : ∃ j_ : Int, (Int.tmod (wrap64 (x6_3 + 1)) (l0.length : Int)) = j_ := ⟨_, rfl⟩
                                  replace H : (if 0 ≤ (ji22) then (if (ji22) < (l0.length : Int) then ((boundstoneref02_Meeting.f k3 ((rd_T23 l0 x5_2).f0) ((rd_T23 l0 x5_2).f1) ((rd_T23 l0 (ji17)).f0) ((rd_T23 l0 (ji17)).f1) ((rd_T23 l0 x6_3).f0) ((rd_T23 l0 x6_3).f1) ((rd_T23 l0 (ji22)).f0) ((rd_T23 l0 (ji22)).f1)).bind fun t458 => (if (wrap64 (x6_3 + 1)) = x5_2 then (boundstoneref02_simple.j3 k3 l0 (l0.length : Int) x5_2 x6_3 t458 true) else (if (wrap64 (x5_2 + 1)) = (l0.length : Int) then (boundstoneref02_simple.j3 k3 l0 (l0.length : Int) x5_2 x6_3 t458 (x6_3 == 0)) else (boundstoneref02_simple.j3 k3 l0 (l0.length : Int) x5_2 x6_3 t458 false)))) else (none)) else (none)) = some r := by first | (rw [hji22] at H; exact H) | (simp only [hji22] at H ⊢; exact H)
                                  by_cases c23 : 0 ≤ (ji22)
                                  · rw [if_pos c23] at H
                                    have c23b0 : decide (0 ≤ (ji22)) = true := decide_eq_true c23
                                    clear c23
                                    by_cases c24 : (ji22) < (l0.length : Int)
                                    · rw [if_pos c24] at H
                                      have c24b0 : decide ((ji22) < (l0.length : Int)) = true := decide_eq_true c24
                                      clear c24
                                      replace H := Option.bind_eq_some_iff.mp H
                                      obtain ⟨t458, A250, H⟩ := H
                                      replace H : (if (wrap64 (x6_3 + 1)) = x5_2 then (boundstoneref02_simple.j3 k3 l0 (l0.length : Int) x5_2 x6_3 t458 true) else (if (wrap64 (x5_2 + 1)) = (l0.length : Int) then (boundstoneref02_simple.j3 k3 l0 (l0.length : Int) x5_2 x6_3 t458 (x6_3 == 0)) else (boundstoneref02_simple.j3 k3 l0 (l0.length : Int) x5_2 x6_3 t458 false))) = some r := H
                                      have A25 := Aside0.mk A250
                                      clear A250
                                      have HC26 := Aside0.mk H
                                      clear H
                                      try go_wp2
                                      have n0_ := Aside0.mk (below_drew1 HB.out)
                                      clear HB
                                      have HB := n0_
                                      clear n0_
                                      have p454 : 0 ≤ (x5_2 : Int) := of_decide_eq_true (by first | (with_reducible assumption) | assumption)
                                      have q454 : x5_2 < (l0.length : Int) := of_decide_eq_true (by first | (with_reducible assumption) | assumption)
                                      obtain ⟨ad454, e454, hx454_0, hx454_1⟩ := at_T23 HR0.out x5_2 p454 q454
                                      have hw454_1 := hx454_1
                                      have hw454_0 := hx454_0
                                      cases e454
                                      replace hx454_0 := (HB.out.cell (World.block_lt_of_cell? w _ hx454_0)).trans hx454_0
                                      replace hx454_1 := (HB.out.cell (World.block_lt_of_cell? w _ hx454_1)).trans hx454_1
                                      replace p454 := eq_true p454
                                      replace q454 := eq_true q454
                                      have p455 : 0 ≤ ((ji17) : Int) := of_decide_eq_true (by first | (with_reducible assumption) | assumption)
                                      have q455 : (ji17) < (l0.length : Int) := of_decide_eq_true (by first | (with_reducible assumption) | assumption)
                                      obtain ⟨ad455, e455, hx455_0, hx455_1⟩ := at_T23 HR0.out (ji17) p455 q455
                                      have hw455_1 := hx455_1
                                      have hw455_0 := hx455_0
                                      obtain rfl : ad454 = ad455 := (by injection e455)
                                      replace hx455_0 := (HB.out.cell (World.block_lt_of_cell? w _ hx455_0)).trans hx455_0
                                      replace hx455_1 := (HB.out.cell (World.block_lt_of_cell? w _ hx455_1)).trans hx455_1
                                      replace p455 := eq_true p455
                                      replace q455 := eq_true q455
                                      have p456 : 0 ≤ (x6_3 : Int) := of_decide_eq_true (by first | (with_reducible assumption) | assumption)
                                      have q456 : x6_3 < (l0.length : Int) := of_decide_eq_true (by first | (with_reducible assumption) | assumption)
                                      obtain ⟨ad456, e456, hx456_0, hx456_1⟩ := at_T23 HR0.out x6_3 p456 q456
                                      have hw456_1 := hx456_1
                                      have hw456_0 := hx456_0
                                      obtain rfl : ad454 = ad456 := (by injection e456)
                                      replace hx456_0 := (HB.out.cell (World.block_lt_of_cell? w _ hx456_0)).trans hx456_0
                                      replace hx456_1 := (HB.out.cell (World.block_lt_of_cell? w _ hx456_1)).trans hx456_1
                                      replace p456 := eq_true p456
                                      replace q456 := eq_true q456
                                      have p457 : 0 ≤ ((ji22) : Int) := of_decide_eq_true (by first | (with_reducible assumption) | assumption)
                                      have q457 : (ji22) < (l0.length : Int) := of_decide_eq_true (by first | (with_reducible assumption) | assumption)
                                      obtain ⟨ad457, e457, hx457_0, hx457_1⟩ := at_T23 HR0.out (ji22) p457 q457
                                      have hw457_1 := hx457_1
                                      have hw457_0 := hx457_0
                                      obtain rfl : ad454 = ad457 := (by injection e457)
                                      replace hx457_0 := (HB.out.cell (World.block_lt_of_cell? w _ hx457_0)).trans hx457_0
                                      replace hx457_1 := (HB.out.cell (World.block_lt_of_cell? w _ hx457_1)).trans hx457_1
                                      replace p457 := eq_true p457
                                      replace q457 := eq_true q457
                                      refine start_ (n := 26) (S := fun w' => w'.cell? (ad454.add ((x5_2).toNat * 2)) = some (.int .i64 ((rd_T23 l0 x5_2).f0)) ∧ w'.cell? ⟨(ad454.add ((x5_2).toNat * 2)).block, (ad454.add ((x5_2).toNat * 2)).off + 1, none⟩ = some (.int .i64 ((rd_T23 l0 x5_2).f1)) ∧ w'.cell? (ad454.add (((ji17)).toNat * 2)) = some (.int .i64 ((rd_T23 l0 (ji17)).f0)) ∧ w'.cell? ⟨(ad454.add (((ji17)).toNat * 2)).block, (ad454.add (((ji17)).toNat * 2)).off + 1, none⟩ = some (.int .i64 ((rd_T23 l0 (ji17)).f1)) ∧ w'.cell? (ad454.add ((x6_3).toNat * 2)) = some (.int .i64 ((rd_T23 l0 x6_3).f0)) ∧ w'.cell? ⟨(ad454.add ((x6_3).toNat * 2)).block, (ad454.add ((x6_3).toNat * 2)).off + 1, none⟩ = some (.int .i64 ((rd_T23 l0 x6_3).f1)) ∧ w'.cell? (ad454.add (((ji22)).toNat * 2)) = some (.int .i64 ((rd_T23 l0 (ji22)).f0)) ∧ w'.cell? ⟨(ad454.add (((ji22)).toNat * 2)).block, (ad454.add (((ji22)).toNat * 2)).off + 1, none⟩ = some (.int .i64 ((rd_T23 l0 (ji22)).f1))) (ds := []) #[false, false, false, false, false, false, false, false, false, false, false, false, false, false, false, false, false, false, false, false, false, false, false, false, false, false] (by kernel_rfl) rfl rfl ⟨((HB.out.cell (World.block_lt_of_cell? w _ hw454_0)).trans hw454_0), ((HB.out.cell (World.block_lt_of_cell? w _ hw454_1)).trans hw454_1), ((HB.out.cell (World.block_lt_of_cell? w _ hw455_0)).trans hw455_0), ((HB.out.cell (World.block_lt_of_cell? w _ hw455_1)).trans hw455_1), ((HB.out.cell (World.block_lt_of_cell? w _ hw456_0)).trans hw456_0), ((HB.out.cell (World.block_lt_of_cell? w _ hw456_1)).trans hw456_1), ((HB.out.cell (World.block_lt_of_cell? w _ hw457_0)).trans hw457_0), ((HB.out.cell (World.block_lt_of_cell? w _ hw457_1)).trans hw457_1)⟩ (fun hHeld => ?_); refine with_tabW boundstoneref02_simple.tab13 boundstoneref02_simple.bits13 (fun HT_ HW_ => ?_)
                                      generalize wr.drew = w27 at HB hx454_0 hx454_1 hx455_0 hx455_1 hx456_0 hx456_1 hx457_0 hx457_1 hHeld ⊢
                                      refine pure_ (i := 0) (N := some 38) (v := ?_) (a' := ?_) #[true, false, false, false, false, false, false, false, false, false, false, false, false, false, false, false, false, false, false, false, false, false, false, false, false, false] rfl rfl (any_of HT_.out (by kernel_rfl)) (fun _ _ _ h => h) (Or.inl ⟨by rfl, ?_⟩) ?_ ?_
                                      rotate_left
                                      · intro w'
                                        go_simp
                                        with_reducible rfl
                                      rotate_left
                                      · simp only [Act.put, List.setIfInBounds_toArray, List.set_cons_zero, List.set_cons_succ, i64_w, i32_w]
                                        rfl
                                      refine pure_ (i := 1) (N := some 39) (v := ?_) (a' := ?_) #[true, true, false, false, false, false, false, false, false, false, false, false, false, false, false, false, false, false, false, false, false, false, false, false, false, false] rfl rfl (any_of HT_.out (by kernel_rfl)) (fun _ _ _ h => h) (Or.inl ⟨by rfl, ?_⟩) ?_ ?_
                                      rotate_left
                                      · intro w'
                                        go_simp
                                        with_reducible rfl
                                      rotate_left
                                      · simp only [Act.put, List.setIfInBounds_toArray, List.set_cons_zero, List.set_cons_succ, i64_w, i32_w]
                                        rfl
                                      refine pure_ (i := 2) (N := some 40) (v := ?_) (a' := ?_) #[true, true, true, false, false, false, false, false, false, false, false, false, false, false, false, false, false, false, false, false, false, false, false, false, false, false] rfl rfl (any_of HT_.out (by kernel_rfl)) (fun _ _ _ h => h) (Or.inl ⟨by rfl, ?_⟩) ?_ ?_
                                      rotate_left
                                      · intro w'
                                        go_simp
                                        with_reducible rfl
                                      rotate_left
                                      · simp only [Act.put, List.setIfInBounds_toArray, List.set_cons_zero, List.set_cons_succ, i64_w, i32_w]
                                        rfl
                                      refine pure_ (i := 4) (N := some 42) (v := ?_) (a' := ?_) #[true, true, true, false, true, false, false, false, false, false, false, false, false, false, false, false, false, false, false, false, false, false, false, false, false, false] rfl rfl (any_of HT_.out (by kernel_rfl)) (fun _ _ _ h => h) (Or.inl ⟨by rfl, ?_⟩) ?_ ?_
                                      rotate_left
                                      · intro w'
                                        go_simp
                                        with_reducible rfl
                                      rotate_left
                                      · simp only [Act.put, List.setIfInBounds_toArray, List.set_cons_zero, List.set_cons_succ, i64_w, i32_w]
                                        rfl
                                      refine pure_ (i := 5) (N := some 43) (v := ?_) (a' := ?_) #[true, true, true, false, true, true, false, false, false, false, false, false, false, false, false, false, false, false, false, false, false, false, false, false, false, false] rfl rfl (any_of HT_.out (by kernel_rfl)) (fun _ _ _ h => h) (Or.inl ⟨by rfl, ?_⟩) ?_ ?_
                                      rotate_left
                                      · intro w'
                                        go_simp
                                        with_reducible rfl
                                      rotate_left
                                      · simp only [Act.put, List.setIfInBounds_toArray, List.set_cons_zero, List.set_cons_succ, i64_w, i32_w]
                                        rfl
                                      refine pure_ (i := 6) (N := some 44) (v := ?_) (a' := ?_) #[true, true, true, false, true, true, true, false, false, false, false, false, false, false, false, false, false, false, false, false, false, false, false, false, false, false] rfl rfl (any_of HT_.out (by kernel_rfl)) (fun _ _ _ h => h) (Or.inl ⟨by rfl, ?_⟩) ?_ ?_
                                      rotate_left
                                      · intro w'
                                        go_simp
                                        with_reducible rfl
                                      rotate_left
                                      · simp only [Act.put, List.setIfInBounds_toArray, List.set_cons_zero, List.set_cons_succ, i64_w, i32_w]
                                        rfl
                                      refine pure_ (i := 7) (N := some 45) (v := ?_) (a' := ?_) #[true, true, true, false, true, true, true, true, false, false, false, false, false, false, false, false, false, false, false, false, false, false, false, false, false, false] rfl rfl (any_of HT_.out (by kernel_rfl)) (fun _ _ _ h => h) (Or.inl ⟨by rfl, ?_⟩) ?_ ?_
                                      rotate_left
                                      · intro w'
                                        go_simp
                                        with_reducible rfl
                                      rotate_left
                                      · simp only [Act.put, List.setIfInBounds_toArray, List.set_cons_zero, List.set_cons_succ, i64_w, i32_w]
                                        rfl
                                      refine pure_ (i := 8) (N := some 46) (v := ?_) (a' := ?_) #[true, true, true, false, true, true, true, true, true, false, false, false, false, false, false, false, false, false, false, false, false, false, false, false, false, false] rfl rfl (any_of HT_.out (by kernel_rfl)) (fun _ _ _ h => h) (Or.inl ⟨by rfl, ?_⟩) ?_ ?_
                                      rotate_left
                                      · intro w'
                                        go_simp
                                        with_reducible rfl
                                      rotate_left
                                      · simp only [Act.put, List.setIfInBounds_toArray, List.set_cons_zero, List.set_cons_succ, i64_w, i32_w]
                                        rfl
                                      refine pure_ (i := 9) (N := some 47) (v := ?_) (a' := ?_) #[true, true, true, false, true, true, true, true, true, true, false, false, false, false, false, false, false, false, false, false, false, false, false, false, false, false] rfl rfl (any_of HT_.out (by kernel_rfl)) (fun _ _ _ h => h) (Or.inl ⟨by rfl, ?_⟩) ?_ ?_
                                      rotate_left
                                      · intro w'
                                        go_simp
                                        with_reducible rfl
                                      rotate_left
                                      · simp only [Act.put, List.setIfInBounds_toArray, List.set_cons_zero, List.set_cons_succ, i64_w, i32_w]
                                        rfl
                                      refine pure_ (i := 12) (N := some 50) (v := ?_) (a' := ?_) #[true, true, true, false, true, true, true, true, true, true, false, false, true, false, false, false, false, false, false, false, false, false, false, false, false, false] rfl rfl (any_of HT_.out (by kernel_rfl)) (fun _ _ _ h => h) (Or.inl ⟨by rfl, ?_⟩) ?_ ?_
                                      rotate_left
                                      · intro w'
                                        go_simp
                                        with_reducible rfl
                                      rotate_left
                                      · simp only [Act.put, List.setIfInBounds_toArray, List.set_cons_zero, List.set_cons_succ, i64_w, i32_w]
                                        rfl
                                      refine pure_ (i := 13) (N := some 51) (v := ?_) (a' := ?_) #[true, true, true, false, true, true, true, true, true, true, false, false, true, true, false, false, false, false, false, false, false, false, false, false, false, false] rfl rfl (any_of HT_.out (by kernel_rfl)) (fun _ _ _ h => h) (Or.inl ⟨by rfl, ?_⟩) ?_ ?_
                                      rotate_left
                                      · intro w'
                                        go_simp
                                        with_reducible rfl
                                      rotate_left
                                      · simp only [Act.put, List.setIfInBounds_toArray, List.set_cons_zero, List.set_cons_succ, i64_w, i32_w]
                                        rfl
                                      refine pure_ (i := 14) (N := some 52) (v := ?_) (a' := ?_) #[true, true, true, false, true, true, true, true, true, true, false, false, true, true, true, false, false, false, false, false, false, false, false, false, false, false] rfl rfl (any_of HT_.out (by kernel_rfl)) (fun _ _ _ h => h) (Or.inl ⟨by rfl, ?_⟩) ?_ ?_
                                      rotate_left
                                      · intro w'
                                        go_simp
                                        with_reducible rfl
                                      rotate_left
                                      · simp only [Act.put, List.setIfInBounds_toArray, List.set_cons_zero, List.set_cons_succ, i64_w, i32_w]
                                        rfl
                                      refine pure_ (i := 16) (N := some 54) (v := ?_) (a' := ?_) #[true, true, true, false, true, true, true, true, true, true, false, false, true, true, true, false, true, false, false, false, false, false, false, false, false, false] rfl rfl (any_of HT_.out (by kernel_rfl)) (fun _ _ _ h => h) (Or.inl ⟨by rfl, ?_⟩) ?_ ?_
                                      rotate_left
                                      · intro w'
                                        go_simp
                                        with_reducible rfl
                                      rotate_left
                                      · simp only [Act.put, List.setIfInBounds_toArray, List.set_cons_zero, List.set_cons_succ, i64_w, i32_w]
                                        rfl
                                      refine pure_ (i := 17) (N := some 55) (v := ?_) (a' := ?_) #[true, true, true, false, true, true, true, true, true, true, false, false, true, true, true, false, true, true, false, false, false, false, false, false, false, false] rfl rfl (any_of HT_.out (by kernel_rfl)) (fun _ _ _ h => h) (Or.inl ⟨by rfl, ?_⟩) ?_ ?_
                                      rotate_left
                                      · intro w'
                                        go_simp
                                        with_reducible rfl
                                      rotate_left
                                      · simp only [Act.put, List.setIfInBounds_toArray, List.set_cons_zero, List.set_cons_succ, i64_w, i32_w]
                                        rfl
                                      refine pure_ (i := 18) (N := some 56) (v := ?_) (a' := ?_) #[true, true, true, false, true, true, true, true, true, true, false, false, true, true, true, false, true, true, true, false, false, false, false, false, false, false] rfl rfl (any_of HT_.out (by kernel_rfl)) (fun _ _ _ h => h) (Or.inl ⟨by rfl, ?_⟩) ?_ ?_
                                      rotate_left
                                      · intro w'
                                        go_simp
                                        with_reducible rfl
                                      rotate_left
                                      · simp only [Act.put, List.setIfInBounds_toArray, List.set_cons_zero, List.set_cons_succ, i64_w, i32_w]
                                        rfl
                                      refine pure_ (i := 19) (N := some 57) (v := ?_) (a' := ?_) #[true, true, true, false, true, true, true, true, true, true, false, false, true, true, true, false, true, true, true, true, false, false, false, false, false, false] rfl rfl (any_of HT_.out (by kernel_rfl)) (fun _ _ _ h => h) (Or.inl ⟨by rfl, ?_⟩) ?_ ?_
                                      rotate_left
                                      · intro w'
                                        go_simp
                                        with_reducible rfl
                                      rotate_left
                                      · simp only [Act.put, List.setIfInBounds_toArray, List.set_cons_zero, List.set_cons_succ, i64_w, i32_w]
                                        rfl
                                      refine pure_ (i := 20) (N := some 58) (v := ?_) (a' := ?_) #[true, true, true, false, true, true, true, true, true, true, false, false, true, true, true, false, true, true, true, true, true, false, false, false, false, false] rfl rfl (any_of HT_.out (by kernel_rfl)) (fun _ _ _ h => h) (Or.inl ⟨by rfl, ?_⟩) ?_ ?_
                                      rotate_left
                                      · intro w'
                                        go_simp
                                        with_reducible rfl
                                      rotate_left
                                      · simp only [Act.put, List.setIfInBounds_toArray, List.set_cons_zero, List.set_cons_succ, i64_w, i32_w]
                                        rfl
                                      refine pure_ (i := 21) (N := some 59) (v := ?_) (a' := ?_) #[true, true, true, false, true, true, true, true, true, true, false, false, true, true, true, false, true, true, true, true, true, true, false, false, false, false] rfl rfl (any_of HT_.out (by kernel_rfl)) (fun _ _ _ h => h) (Or.inl ⟨by rfl, ?_⟩) ?_ ?_
                                      rotate_left
                                      · intro w'
                                        go_simp
                                        with_reducible rfl
                                      rotate_left
                                      · simp only [Act.put, List.setIfInBounds_toArray, List.set_cons_zero, List.set_cons_succ, i64_w, i32_w]
                                        rfl
                                      refine take_ (i := 3) (N := some 41) (v := ?_) (a' := ?_) #[true, true, true, true, true, true, true, true, true, true, false, false, true, true, true, false, true, true, true, true, true, true, false, false, false, false] rfl rfl (take_ofW HT_.out HW_.out (by kernel_rfl)) (fun _ _ _ h => h) (Or.inl ⟨by rfl, ?_⟩) hHeld ?_ ?_
                                      rotate_left
                                      · rintro w' ⟨s0, s1, s2, s3, s4, s5, s6, s7⟩
                                        go_simp
                                        with_reducible rfl
                                      rotate_left
                                      · simp only [Act.put, List.setIfInBounds_toArray, List.set_cons_zero, List.set_cons_succ, i64_w, i32_w]
                                        rfl
                                      refine take_ (i := 10) (N := some 48) (v := ?_) (a' := ?_) #[true, true, true, true, true, true, true, true, true, true, true, false, true, true, true, false, true, true, true, true, true, true, false, false, false, false] rfl rfl (take_ofW HT_.out HW_.out (by kernel_rfl)) (fun _ _ _ h => h) (Or.inl ⟨by rfl, ?_⟩) hHeld ?_ ?_
                                      rotate_left
                                      · rintro w' ⟨s0, s1, s2, s3, s4, s5, s6, s7⟩
                                        go_simp
                                        with_reducible rfl
                                      rotate_left
                                      · simp only [Act.put, List.setIfInBounds_toArray, List.set_cons_zero, List.set_cons_succ, i64_w, i32_w]
                                        rfl
                                      refine pure_ (i := 11) (N := some 49) (v := ?_) (a' := ?_) #[true, true, true, true, true, true, true, true, true, true, true, true, true, true, true, false, true, true, true, true, true, true, false, false, false, false] rfl rfl (any_of HT_.out (by kernel_rfl)) (fun _ _ _ h => h) (Or.inl ⟨by rfl, ?_⟩) ?_ ?_
                                      rotate_left
                                      · intro w'
                                        go_simp
                                        with_reducible rfl
                                      rotate_left
                                      · simp only [Act.put, List.setIfInBounds_toArray, List.set_cons_zero, List.set_cons_succ, i64_w, i32_w]
                                        rfl
                                      refine take_ (i := 15) (N := some 53) (v := ?_) (a' := ?_) #[true, true, true, true, true, true, true, true, true, true, true, true, true, true, true, true, true, true, true, true, true, true, false, false, false, false] rfl rfl (take_ofW HT_.out HW_.out (by kernel_rfl)) (fun _ _ _ h => h) (Or.inl ⟨by rfl, ?_⟩) hHeld ?_ ?_
                                      rotate_left
                                      · rintro w' ⟨s0, s1, s2, s3, s4, s5, s6, s7⟩
                                        go_simp
                                        with_reducible rfl
                                      rotate_left
                                      · simp only [Act.put, List.setIfInBounds_toArray, List.set_cons_zero, List.set_cons_succ, i64_w, i32_w]
                                        rfl
                                      refine take_ (i := 22) (N := some 60) (v := ?_) (a' := ?_) #[true, true, true, true, true, true, true, true, true, true, true, true, true, true, true, true, true, true, true, true, true, true, true, false, false, false] rfl rfl (take_ofW HT_.out HW_.out (by kernel_rfl)) (fun _ _ _ h => h) (Or.inl ⟨by rfl, ?_⟩) hHeld ?_ ?_
                                      rotate_left
                                      · rintro w' ⟨s0, s1, s2, s3, s4, s5, s6, s7⟩
                                        go_simp
                                        with_reducible rfl
                                      rotate_left
                                      · simp only [Act.put, List.setIfInBounds_toArray, List.set_cons_zero, List.set_cons_succ, i64_w, i32_w]
                                        rfl
                                      refine pure_ (i := 23) (N := some 61) (v := ?_) (a' := ?_) #[true, true, true, true, true, true, true, true, true, true, true, true, true, true, true, true, true, true, true, true, true, true, true, true, false, false] rfl rfl (any_of HT_.out (by kernel_rfl)) (fun _ _ _ h => h) (Or.inl ⟨by rfl, ?_⟩) ?_ ?_
                                      rotate_left
                                      · intro w'
                                        go_simp
                                        with_reducible rfl
                                      rotate_left
                                      · simp only [Act.put, List.setIfInBounds_toArray, List.set_cons_zero, List.set_cons_succ, i64_w, i32_w]
                                        rfl
                                      refine one_ (i := 24) (N := some 62) #[true, true, true, true, true, true, true, true, true, true, true, true, true, true, true, true, true, true, true, true, true, true, true, true, true, false] rfl rfl (one_of HT_.out (by kernel_rfl)) (by decide) (fun K hK => ?_)
                                      refine goes_ Try.func29 (by kernel_rfl) rfl #[.agg #[.int .i64 ((rd_T23 l0 x5_2).f0), .int .i64 ((rd_T23 l0 x5_2).f1), .int .i64 ((rd_T23 l0 (ji17)).f0), .int .i64 ((rd_T23 l0 (ji17)).f1)], .agg #[.int .i64 ((rd_T23 l0 x6_3).f0), .int .i64 ((rd_T23 l0 x6_3).f1), .int .i64 ((rd_T23 l0 (ji22)).f0), .int .i64 ((rd_T23 l0 (ji22)).f1)]] (by rfl) rfl rfl (by (try simp only [List.map_toArray, List.map_cons, List.map_nil]); first | done | (simp only [hji17, hji22]; rfl) | rfl | (simp only [List.length_drop, List.length_take]; rfl)) ?_
                                      with_reducible refine (boundstoneref02_Meeting.calls k3 ((rd_T23 l0 x5_2).f0) ((rd_T23 l0 x5_2).f1) ((rd_T23 l0 (ji17)).f0) ((rd_T23 l0 (ji17)).f1) ((rd_T23 l0 x6_3).f0) ((rd_T23 l0 x6_3).f1) ((rd_T23 l0 (ji22)).f0) ((rd_T23 l0 (ji22)).f1) t458 _ A25.out).mono ?_
                                      rintro e w28 ⟨rfl, hb⟩
                                      refine ⟨_, rfl, ?_⟩
                                      have n0_ := Aside0.mk (below_step (by repeat (first | (with_reducible first | exact HB.out | apply below_alloc | apply pw_below_drewN | apply below_drew1) | exact HB.out)) hb)
                                      clear HB
                                      have HB := n0_
                                      clear n0_
                                      (try clear hb)
                                      (try clear hb2)
                                      (try clear hk)
                                      (try clear hi)
                                      refine hK.out _ _ ⟨((HB.out.cell (World.block_lt_of_cell? w _ hw454_0)).trans hw454_0), ((HB.out.cell (World.block_lt_of_cell? w _ hw454_1)).trans hw454_1), ((HB.out.cell (World.block_lt_of_cell? w _ hw455_0)).trans hw455_0), ((HB.out.cell (World.block_lt_of_cell? w _ hw455_1)).trans hw455_1), ((HB.out.cell (World.block_lt_of_cell? w _ hw456_0)).trans hw456_0), ((HB.out.cell (World.block_lt_of_cell? w _ hw456_1)).trans hw456_1), ((HB.out.cell (World.block_lt_of_cell? w _ hw457_0)).trans hw457_0), ((HB.out.cell (World.block_lt_of_cell? w _ hw457_1)).trans hw457_1)⟩ (fun hHeld => ?_)
                                      clear hK K
                                      refine norm_ (a' := ?_) ?_ ?_
                                      rotate_left
                                      · show Act.put _ (some 62) _ = _
                                        simp only [Act.put, List.setIfInBounds_toArray, List.set_cons_zero, List.set_cons_succ, i64_w, i32_w]
                                        rfl
                                      refine pure_ (i := 25) (N := some 7) (v := ?_) (a' := ?_) #[true, true, true, true, true, true, true, true, true, true, true, true, true, true, true, true, true, true, true, true, true, true, true, true, true, true] rfl rfl (any_of HT_.out (by kernel_rfl)) (fun _ _ _ h => h) (Or.inl ⟨by rfl, ?_⟩) ?_ ?_
                                      rotate_left
                                      · intro w'
                                        go_simp
                                        with_reducible rfl
                                      rotate_left
                                      · simp only [Act.put, List.setIfInBounds_toArray, List.set_cons_zero, List.set_cons_succ, i64_w, i32_w]
                                        rfl
                                      refine done_ (done_of HT_.out (by kernel_rfl)) ?_
                                      go_upto_region 14 with (fail)
                                      go_cut [8] (fun v8 wc => ∃ (kq : Nat) (x8_25 : Bool), v8 = .bool x8_25 ∧ Aside0 (boundstoneref02_simple.j3 kq l0 (l0.length : Int) x5_2 x6_3 t458 x8_25 = some r) ∧ Aside0 (kq ≤ k3) ∧ Aside0 (Below w.heap.size w wc))
                                      case first =>
                                        have H := HC26.out
                                        clear HC26
                                        by_cases c29 : (wrap64 (x6_3 + 1)) = x5_2
                                        · rw [if_pos c29] at H
                                          have c29b0 : ((wrap64 (x6_3 + 1)) == x5_2) = true := beq_iff_eq.mpr c29
                                          have c29b1 : ((wrap64 (x6_3 + 1)) != x5_2) = false := bne_eq_false_iff_eq.mpr c29
                                          clear c29
                                          (first | rw [c29b0] | (simp only [i64_w, i32_w]; rw [c29b0]) | skip)
                                          have H' := Aside0.mk H
                                          clear H
                                          go_wp2
                                          go_meet
                                          case rel => exact ⟨_, (true), (by first | rfl | (simp; done) | (simp [*]; done)), H', ⟨by have := HK1.out; have := HK2.out; have := HK3.out; first | omega | exact Nat.le_refl _⟩, ⟨by repeat (first | (with_reducible first | exact HB.out | apply below_alloc | apply pw_below_drewN | apply below_drew1) | exact HB.out)⟩⟩
                                        · rw [if_neg c29] at H
                                          have c29b0 : ((wrap64 (x6_3 + 1)) == x5_2) = false := beq_eq_false_iff_ne.mpr c29
                                          have c29b1 : ((wrap64 (x6_3 + 1)) != x5_2) = true := bne_iff_ne.mpr c29
                                          (first | rw [c29b0] | (simp only [i64_w, i32_w]; rw [c29b0]) | skip)
                                          by_cases c30 : (wrap64 (x5_2 + 1)) = (l0.length : Int)
                                          · rw [if_pos c30] at H
                                            have c30b0 : ((wrap64 (x5_2 + 1)) == (l0.length : Int)) = true := beq_iff_eq.mpr c30
                                            have c30b1 : ((wrap64 (x5_2 + 1)) != (l0.length : Int)) = false := bne_eq_false_iff_eq.mpr c30
                                            clear c30
                                            have H' := Aside0.mk H
                                            clear H
                                            go_wp2
                                            go_meet
                                            case rel => exact ⟨_, ((x6_3 == 0)), (by first | rfl | (simp; done) | (simp [*]; done)), H', ⟨by have := HK1.out; have := HK2.out; have := HK3.out; first | omega | exact Nat.le_refl _⟩, ⟨by repeat (first | (with_reducible first | exact HB.out | apply below_alloc | apply pw_below_drewN | apply below_drew1) | exact HB.out)⟩⟩
                                          · rw [if_neg c30] at H
                                            have c30b0 : ((wrap64 (x5_2 + 1)) == (l0.length : Int)) = false := beq_eq_false_iff_ne.mpr c30
                                            have c30b1 : ((wrap64 (x5_2 + 1)) != (l0.length : Int)) = true := bne_iff_ne.mpr c30
                                            have H' := Aside0.mk H
                                            clear H
                                            go_wp2
                                            go_meet
                                            case rel => exact ⟨_, (false), (by first | rfl | (simp; done) | (simp [*]; done)), H', ⟨by have := HK1.out; have := HK2.out; have := HK3.out; first | omega | exact Nat.le_refl _⟩, ⟨by repeat (first | (with_reducible first | exact HB.out | apply below_alloc | apply pw_below_drewN | apply below_drew1) | exact HB.out)⟩⟩
                                      case rest =>
                                        clear HC26
                                        (try clear c1); (try clear c2); (try clear c2b0); (try clear p2); (try clear c3); (try clear c3b0); (try clear c4); (try clear c4b0); (try clear p4); (try clear q4); (try clear hx4); (try clear c5); (try clear c5b0); (try clear c5b1); (try clear c5b2); (try clear p6); (try clear c7); (try clear c7b0); (try clear c8); (try clear c8b0); (try clear c9); (try clear c9b0); (try clear c9b1); (try clear c9b2); (try clear c12); (try clear c12b0); (try clear c13); (try clear c13b0); (try clear c14); (try clear c14b0); (try clear c15); (try clear c15b0); (try clear c16); (try clear c16b0); (try clear c16b1); (try clear c16b2); (try clear c18); (try clear c18b0); (try clear c19); (try clear c19b0); (try clear c20); (try clear c20b0); (try clear c21); (try clear c21b0); (try clear c23); (try clear c23b0); (try clear c24); (try clear c24b0); (try clear c29); (try clear c29b0); (try clear c29b1); (try clear c30); (try clear c30b0); (try clear c30b1); (try clear hx452_0); (try clear hx452_1); (try clear hx453_0); (try clear hx453_1); (try clear hx454_0); (try clear hx454_1); (try clear hx455_0); (try clear hx455_1); (try clear hx456_0); (try clear hx456_1); (try clear hx457_0); (try clear hx457_1); (try clear p2); (try clear p4); (try clear p452); (try clear p453); (try clear p454); (try clear p455); (try clear p456); (try clear p457); (try clear p6); (try clear q4); (try clear q452); (try clear q453); (try clear q454); (try clear q455); (try clear q456); (try clear q457)
                                        obtain ⟨kq, x8_25, rfl, HA, HJ25, HB⟩ := hcut
                                        cases kq with
                                        | zero => exact absurd HA.out (by simp [boundstoneref02_simple.j3])
                                        | succ kj25 =>
                                          have H := HA.out
                                          clear HA
                                          simp only [boundstoneref02_simple.j3] at H
                                          have HC31 := Aside0.mk H
                                          clear H
                                          go_upto_region 15 with (fail)
                                          go_cut [89] (fun v89 wc => ∃ (kq : Nat) (x89_30 : Bool), v89 = .bool x89_30 ∧ Aside0 (boundstoneref02_simple.j4 kq l0 (l0.length : Int) x5_2 x6_3 x89_30 = some r) ∧ Aside0 (kq ≤ kj25) ∧ Aside0 (Below w.heap.size w wc))
                                          case first =>
                                            have H := HC31.out
                                            clear HC31
                                            by_cases c32 : x8_25 = true
                                            · subst c32
                                              have H1 : (if t458 = 1 then (boundstoneref02_simple.j4 kj25 l0 (l0.length : Int) x5_2 x6_3 false) else (boundstoneref02_simple.j4 kj25 l0 (l0.length : Int) x5_2 x6_3 true)) = some r := by rw [if_pos rfl] at H; exact H
                                              clear H
                                              have H := H1
                                              clear H1
                                              by_cases c33 : t458 = 1
                                              · rw [if_pos c33] at H
                                                have c33b0 : (t458 == 1) = true := beq_iff_eq.mpr c33
                                                have c33b1 : (t458 != 1) = false := bne_eq_false_iff_eq.mpr c33
                                                clear c33
                                                (first | rw [c33b0] | (simp only [i64_w, i32_w]; rw [c33b0]) | skip)
                                                have H' := Aside0.mk H
                                                clear H
                                                go_wp2
                                                go_meet
                                                case rel => exact ⟨_, (false), (by first | rfl | (simp; done) | (simp [*]; done)), H', ⟨by have := HK1.out; have := HK2.out; have := HK3.out; have := HJ25.out; first | omega | exact Nat.le_refl _⟩, ⟨by repeat (first | (with_reducible first | exact HB.out | apply below_alloc | apply pw_below_drewN | apply below_drew1) | exact HB.out)⟩⟩
                                              · rw [if_neg c33] at H
                                                have c33b0 : (t458 == 1) = false := beq_eq_false_iff_ne.mpr c33
                                                have c33b1 : (t458 != 1) = true := bne_iff_ne.mpr c33
                                                (first | rw [c33b0] | (simp only [i64_w, i32_w]; rw [c33b0]) | skip)
                                                have H' := Aside0.mk H
                                                clear H
                                                go_wp2
                                                go_meet
                                                case rel => exact ⟨_, (true), (by first | rfl | (simp; done) | (simp [*]; done)), H', ⟨by have := HK1.out; have := HK2.out; have := HK3.out; have := HJ25.out; first | omega | exact Nat.le_refl _⟩, ⟨by repeat (first | (with_reducible first | exact HB.out | apply below_alloc | apply pw_below_drewN | apply below_drew1) | exact HB.out)⟩⟩
                                            · replace c32 := Bool.eq_false_iff.mpr c32
                                              subst c32
                                              have H1 : (boundstoneref02_simple.j4 kj25 l0 (l0.length : Int) x5_2 x6_3 (t458 != 0)) = some r := by rw [if_neg (show ¬ (false = true) by decide)] at H; exact H
                                              clear H
                                              have H := H1
                                              clear H1
                                              have H' := Aside0.mk H
                                              clear H
                                              go_wp2
                                              go_meet
                                              case rel => exact ⟨_, ((t458 != 0)), (by first | rfl | (simp; done) | (simp [*]; done)), H', ⟨by have := HK1.out; have := HK2.out; have := HK3.out; have := HJ25.out; first | omega | exact Nat.le_refl _⟩, ⟨by repeat (first | (with_reducible first | exact HB.out | apply below_alloc | apply pw_below_drewN | apply below_drew1) | exact HB.out)⟩⟩
                                          case rest =>
                                            clear HC31
                                            (try clear c1); (try clear c2); (try clear c2b0); (try clear p2); (try clear c3); (try clear c3b0); (try clear c4); (try clear c4b0); (try clear p4); (try clear q4); (try clear hx4); (try clear c5); (try clear c5b0); (try clear c5b1); (try clear c5b2); (try clear p6); (try clear c7); (try clear c7b0); (try clear c8); (try clear c8b0); (try clear c9); (try clear c9b0); (try clear c9b1); (try clear c9b2); (try clear c12); (try clear c12b0); (try clear c13); (try clear c13b0); (try clear c14); (try clear c14b0); (try clear c15); (try clear c15b0); (try clear c16); (try clear c16b0); (try clear c16b1); (try clear c16b2); (try clear c18); (try clear c18b0); (try clear c19); (try clear c19b0); (try clear c20); (try clear c20b0); (try clear c21); (try clear c21b0); (try clear c23); (try clear c23b0); (try clear c24); (try clear c24b0); (try clear c29); (try clear c29b0); (try clear c29b1); (try clear c30); (try clear c30b0); (try clear c30b1); (try clear c32); (try clear c33); (try clear c33b0); (try clear c33b1); (try clear hx452_0); (try clear hx452_1); (try clear hx453_0); (try clear hx453_1); (try clear hx454_0); (try clear hx454_1); (try clear hx455_0); (try clear hx455_1); (try clear hx456_0); (try clear hx456_1); (try clear hx457_0); (try clear hx457_1); (try clear p2); (try clear p4); (try clear p452); (try clear p453); (try clear p454); (try clear p455); (try clear p456); (try clear p457); (try clear p6); (try clear q4); (try clear q452); (try clear q453); (try clear q454); (try clear q455); (try clear q456); (try clear q457)
                                            obtain ⟨kq, x89_30, rfl, HA, HJ30, HB⟩ := hcut
                                            cases kq with
                                            | zero => exact absurd HA.out (by simp [boundstoneref02_simple.j4])
                                            | succ kj30 =>
                                              have H := HA.out
                                              clear HA
                                              simp only [boundstoneref02_simple.j4] at H
                                              by_cases c34 : x89_30 = true
                                              · subst c34
                                                have H1 : (some false) = some r := by rw [if_pos rfl] at H; exact H
                                                clear H
                                                have H := H1
                                                clear H1
                                                obtain rfl := Option.some.inj H
                                                go_wp2
                                                go_ret
                                                exact ⟨by first | rfl | (simp [errW_none, errW_some] <;> rfl) | (simp only [← hji17, ← hji22]; first | rfl | (simp [errW_none, errW_some] <;> rfl)) | (simp [*, errW_none, errW_some] <;> rfl), by repeat (first | (with_reducible first | exact HB.out | apply below_alloc | apply pw_below_drewN | apply below_drew1) | exact HB.out)⟩
                                              · replace c34 := Bool.eq_false_iff.mpr c34
                                                subst c34
                                                have H1 : (boundstoneref02_simple.l2 kj30 l0 (l0.length : Int) x5_2 (wrap64 (x6_3 + 1))) = some r := by rw [if_neg (show ¬ (false = true) by decide)] at H; exact H
                                                clear H
                                                have H := H1
                                                clear H1
                                                have H' := Aside0.mk H
                                                clear H
                                                go_wp2
                                                go_roundg kj30
                                                case measure => have := HK1.out; have := HK2.out; have := HK3.out; have := HJ25.out; have := HJ30.out; omega
                                                case rel => exact ⟨(wrap64 (x6_3 + 1)), (by first | rfl | (simp; done) | (simp [*]; done)), H', ⟨by have := HK1.out; have := HK2.out; have := HK3.out; have := HJ25.out; have := HJ30.out; omega⟩, ⟨by repeat (first | (with_reducible first | exact HB.out | apply below_alloc | apply pw_below_drewN | apply below_drew1) | exact HB.out)⟩⟩
                                    · rw [if_neg c24] at H
                                      exact absurd H (by simp)
                                  · rw [if_neg c23] at H
                                    exact absurd H (by simp)
                                · rw [if_neg c21] at H
                                  exact absurd H (by simp)
                              · rw [if_neg c20] at H
                                exact absurd H (by simp)
                            · rw [if_neg c19] at H
                              exact absurd H (by simp)
                          · rw [if_neg c18] at H
                            exact absurd H (by simp)
                      · rw [if_neg c15] at H
                        exact absurd H (by simp)
                    · rw [if_neg c14] at H
                      exact absurd H (by simp)
                  · rw [if_neg c13] at H
                    have c13b0 : decide (x6_3 < x5_2) = false := decide_eq_false c13
                    clear c13
                    have H' := Aside0.mk H
                    clear H
                    go_wp2
                    go_roundg k3
                    case measure => have := HK1.out; have := HK2.out; have := HK3.out; omega
                    case rel => exact ⟨(wrap64 (x5_2 + 1)), (by first | rfl | (simp; done) | (simp [*]; done)), H', ⟨by have := HK1.out; have := HK2.out; have := HK3.out; omega⟩, ⟨by repeat (first | (with_reducible first | exact HB.out | apply below_alloc | apply pw_below_drewN | apply below_drew1) | exact HB.out)⟩⟩
            · rw [if_neg c12] at H
              have c12b0 : decide (x5_2 < (l0.length : Int)) = false := decide_eq_false c12
              clear c12
              obtain rfl := Option.some.inj H
              go_wp2
              go_ret
              exact ⟨by first | rfl | (simp [errW_none, errW_some] <;> rfl) | (simp [*, errW_none, errW_some] <;> rfl), by repeat (first | (with_reducible first | exact HB.out | apply below_alloc | apply pw_below_drewN | apply below_drew1) | exact HB.out)⟩
end Go.Proofs.Ytckaejgamfllfaa.G
end

section
namespace Go.Proofs.Ytckaejgamfllfaa.G
open Go.RowKit Go.Proofs.YtckaejgamfllfaaW.PrintWords Go.Proofs.YtckaejgamfllfaaW.PrintLast Go.Proofs.YtckaejgamfllfaaW.PrintMore
attribute [local go_sem] max2_int min2_int max_two min_two max_three min_three max_four min_four
set_option linter.unusedVariables false
set_option linter.unusedSimpArgs false
end Go.Proofs.Ytckaejgamfllfaa.G
end

section
namespace Go.Proofs.Ytckaejgamfllfaa.G
open Go.RowKit Go.Proofs.YtckaejgamfllfaaW.PrintWords Go.Proofs.YtckaejgamfllfaaW.PrintLast Go.Proofs.YtckaejgamfllfaaW.PrintMore
attribute [local go_sem] max2_int min2_int max_two min_two max_three min_three max_four min_four
set_option linter.unusedVariables false
set_option linter.unusedSimpArgs false
end Go.Proofs.Ytckaejgamfllfaa.G
end

section
namespace Go.Proofs.Ytckaejgamfllfaa.G
open Go.RowKit Go.Proofs.YtckaejgamfllfaaW.PrintWords Go.Proofs.YtckaejgamfllfaaW.PrintLast Go.Proofs.YtckaejgamfllfaaW.PrintMore
attribute [local go_sem] max2_int min2_int max_two min_two max_three min_three max_four min_four
set_option linter.unusedVariables false
set_option linter.unusedSimpArgs false
mutual
def boundstoneref02_winding.l0 : Nat → List (S23) → Int → Int → Int → Int → Option (Int)
  | 0, _, _, _, _, _ => none
  | k + 1, x0, x5, x6, x473000, x473001 => if x6 < (x0.length : Int) then (if 0 ≤ x6 then (if (x0.length : Int) = 0 then (none) else (if 0 ≤ (Int.tmod (wrap64 (x6 + 1)) (x0.length : Int)) then (if (Int.tmod (wrap64 (x6 + 1)) (x0.length : Int)) < (x0.length : Int) then (if ((rd_T23 x0 x6).f1) ≤ x473001 then (if ((rd_T23 x0 (Int.tmod (wrap64 (x6 + 1)) (x0.length : Int))).f1) > x473001 then ((boundstoneref02_twice.f ((rd_T23 x0 x6).f0) ((rd_T23 x0 x6).f1) ((rd_T23 x0 (Int.tmod (wrap64 (x6 + 1)) (x0.length : Int))).f0) ((rd_T23 x0 (Int.tmod (wrap64 (x6 + 1)) (x0.length : Int))).f1) x473000 x473001).bind fun t477 => (boundstoneref02_winding.j1 k x0 x5 x6 (decide (t477 > 0)) x473000 x473001 ((rd_T23 x0 x6).f0) ((rd_T23 x0 x6).f1) ((rd_T23 x0 (Int.tmod (wrap64 (x6 + 1)) (x0.length : Int))).f0) ((rd_T23 x0 (Int.tmod (wrap64 (x6 + 1)) (x0.length : Int))).f1))) else (boundstoneref02_winding.j1 k x0 x5 x6 false x473000 x473001 ((rd_T23 x0 x6).f0) ((rd_T23 x0 x6).f1) ((rd_T23 x0 (Int.tmod (wrap64 (x6 + 1)) (x0.length : Int))).f0) ((rd_T23 x0 (Int.tmod (wrap64 (x6 + 1)) (x0.length : Int))).f1))) else (boundstoneref02_winding.j1 k x0 x5 x6 false x473000 x473001 ((rd_T23 x0 x6).f0) ((rd_T23 x0 x6).f1) ((rd_T23 x0 (Int.tmod (wrap64 (x6 + 1)) (x0.length : Int))).f0) ((rd_T23 x0 (Int.tmod (wrap64 (x6 + 1)) (x0.length : Int))).f1))) else (none)) else (none))) else (none)) else (some x5)
def boundstoneref02_winding.j1 : Nat → List (S23) → Int → Int → Bool → Int → Int → Int → Int → Int → Int → Option (Int)
  | 0, _, _, _, _, _, _, _, _, _, _ => none
  | k + 1, x0, x5, x6, x45, x473000, x473001, x475000, x475001, x477000, x477001 => if x45 = true then (boundstoneref02_winding.j2 k x0 (wrap64 (x5 + 1)) x6 x473000 x473001 x475000 x475001 x477000 x477001) else (boundstoneref02_winding.j2 k x0 x5 x6 x473000 x473001 x475000 x475001 x477000 x477001)
def boundstoneref02_winding.j2 : Nat → List (S23) → Int → Int → Int → Int → Int → Int → Int → Int → Option (Int)
  | 0, _, _, _, _, _, _, _, _, _ => none
  | k + 1, x0, x5, x6, x473000, x473001, x475000, x475001, x477000, x477001 => if x475001 > x473001 then (if x477001 ≤ x473001 then ((boundstoneref02_twice.f x475000 x475001 x477000 x477001 x473000 x473001).bind fun t478 => (boundstoneref02_winding.j3 k x0 x5 x6 (decide (t478 < 0)) x473000 x473001)) else (boundstoneref02_winding.j3 k x0 x5 x6 false x473000 x473001)) else (boundstoneref02_winding.j3 k x0 x5 x6 false x473000 x473001)
def boundstoneref02_winding.j3 : Nat → List (S23) → Int → Int → Bool → Int → Int → Option (Int)
  | 0, _, _, _, _, _, _ => none
  | k + 1, x0, x5, x6, x66, x473000, x473001 => if x66 = true then (boundstoneref02_winding.l0 k x0 (wrap64 (x5 - 1)) (wrap64 (x6 + 1)) x473000 x473001) else (boundstoneref02_winding.l0 k x0 x5 (wrap64 (x6 + 1)) x473000 x473001)
end
def boundstoneref02_winding.f (k : Nat) (l0 : List (S23)) (a1_0 : Int) (a1_1 : Int) : Option (Int) := boundstoneref02_winding.l0 k l0 0 0 a1_0 a1_1
set_option maxHeartbeats 8000000 in
set_option maxRecDepth 100000 in
theorem boundstoneref02_winding.calls (k : Nat) (A0 : Option Addr) (c0 : Nat) (l0 : List (S23)) (a1_0 : Int) (a1_1 : Int) (r : Int) (w : World) (hr0 : Kd.C k23 w A0 l0.length l0) (hc0 : l0.length ≤ c0) (h : boundstoneref02_winding.f k l0 a1_0 a1_1 = some r) :
    Calls Try.prog 100 #[.slice A0 l0.length c0, .agg #[.int .i64 a1_0, .int .i64 a1_1]] w fun e w' => e = .returned (.int .i64 r) ∧ Below w.heap.size w w' := by
  have hu23 := Try.underlying23
  have HR0 := Aside0.mk hr0
  have HC0 := Aside0.mk hc0
  clear hr0 hc0
  have HB := Aside0.mk (Below.refl w.heap.size w)
  have H : (boundstoneref02_winding.l0 k l0 0 0 a1_0 a1_1) = some r := h
  clear h
  have H' := Aside0.mk H
  clear H
  go_enter Try.func100, Try.ntmps100
  go_wp2_with (first | ((with_reducible refine gate_dst (N := 3) rfl ?_); refine box_event ?hg (N := 3) ?hd (cs := #[.int .i64 a1_0, .int .i64 a1_1]) (t := 23) ?hr ?_; (case hd => rfl); (case hg => rfl); (case hr => first | (go_simp; done) | (go_simp; rfl)); intro gb472 hg w3 hbox hb; have n0_ := Aside0.mk (below_step (by repeat (first | (with_reducible first | exact HB.out | apply below_alloc | apply pw_below_drewN | apply below_drew1) | exact HB.out)) hb); have n1_ := Aside0.mk (hbox); have n2_ := Aside0.mk ((by rw [hg]; exact (below_size (by repeat (first | (with_reducible first | exact HB.out | apply below_alloc | apply pw_below_drewN | apply below_drew1) | exact HB.out))) : w.heap.size ≤ gb472)); have n3_ := Aside0.mk ((by rw [hg]; exact (below_size (by repeat (first | (with_reducible first | exact HB.out | apply below_alloc | apply pw_below_drewN | apply below_drew1) | exact HB.out))) : w.heap.size ≤ gb472)); clear HB; have HB := n0_; have BK472 := n1_; have GW472 := n2_; have GE472 := n3_; clear n0_ n1_ n2_ n3_; clear hb hbox hg))
  go_loopg [5, 6] k (fun kq v5 v6 w' => ∃ (x5_1 : Int) (x6_1 : Int), v5 = .int .i64 x5_1 ∧ v6 = .int .i64 x6_1 ∧ Aside0 (boundstoneref02_winding.l0 kq l0 x5_1 x6_1 a1_0 a1_1 = some r) ∧ Aside0 (kq ≤ k) ∧ Aside0 (w'.heap[gb472]? = some (.cells #[.int .i64 a1_0, .int .i64 a1_1] 23 (0, 0))) ∧ Aside0 (Below w.heap.size w w'))
  case atStart => exact ⟨(0), (0), (by first | rfl | (simp; done) | (simp [*]; done)), (by first | rfl | (simp; done) | (simp [*]; done)), H', ⟨Nat.le_refl _⟩, ⟨by (with_reducible repeat (first | refine blk_drewN ?_ _ | refine blk_drew ?_ | refine blk_alloc ?_ _)); exact BK472.out⟩, ⟨by repeat (first | (with_reducible first | exact HB.out | apply below_alloc | apply pw_below_drewN | apply below_drew1 | refine below_set ?_ GE472.out) | exact HB.out)⟩⟩
  case round =>
    clear H'
    (try clear c1); (try clear p2)
    obtain ⟨x5_1, x6_1, rfl, rfl, HA, HK1, BK472, HB⟩ := hrel
    cases gk with
    | zero => exact absurd HA.out (by simp [boundstoneref02_winding.l0])
    | succ k1 =>
      have H := HA.out
      clear HA
      simp only [boundstoneref02_winding.l0] at H
      by_cases c4 : x6_1 < (l0.length : Int)
      · rw [if_pos c4] at H
        have c4b0 : decide (x6_1 < (l0.length : Int)) = true := decide_eq_true c4
        clear c4
        by_cases c5 : 0 ≤ x6_1
        · rw [if_pos c5] at H
          have c5b0 : decide (0 ≤ x6_1) = true := decide_eq_true c5
          clear c5
          by_cases c6 : (l0.length : Int) = 0
          · rw [if_pos c6] at H
            exact absurd H (by simp)
          · rw [if_neg c6] at H
            have c6b0 : ((l0.length : Int) == 0) = false := beq_eq_false_iff_ne.mpr c6
            have c6b1 : ((l0.length : Int) != 0) = true := bne_iff_ne.mpr c6
            have c6b2 : ¬ (l0 = []) := fun h_ => c6 (by rw [h_]; rfl)
            obtain ⟨ji7, hji7⟩ : ∃ j_ : Int, (Int.tmod (wrap64 (x6_1 + 1)) (l0.length : Int)) = j_ := ⟨_, rfl⟩
            replace H : (if 0 ≤ (ji7) then (if (ji7) < (l0.length : Int) then (if ((rd_T23 l0 x6_1).f1) ≤ a1_1 then (if ((rd_T23 l0 (ji7)).f1) > a1_1 then ((boundstoneref02_twice.f ((rd_T23 l0 x6_1).f0) ((rd_T23 l0 x6_1).f1) ((rd_T23 l0 (ji7)).f0) ((rd_T23 l0 (ji7)).f1) a1_0 a1_1).bind fun t477 => (boundstoneref02_winding.j1 k1 l0 x5_1 x6_1 (decide (t477 > 0)) a1_0 a1_1 ((rd_T23 l0 x6_1).f0) ((rd_T23 l0 x6_1).f1) ((rd_T23 l0 (ji7)).f0) ((rd_T23 l0 (ji7)).f1))) else (boundstoneref02_winding.j1 k1 l0 x5_1 x6_1 false a1_0 a1_1 ((rd_T23 l0 x6_1).f0) ((rd_T23 l0 x6_1).f1) ((rd_T23 l0 (ji7)).f0) ((rd_T23 l0 (ji7)).f1))) else (boundstoneref02_winding.j1 k1 l0 x5_1 x6_1 false a1_0 a1_1 ((rd_T23 l0 x6_1).f0) ((rd_T23 l0 x6_1).f1) ((rd_T23 l0 (ji7)).f0) ((rd_T23 l0 (ji7)).f1))) else (none)) else (none)) = some r := by first | (rw [hji7] at H; exact H) | (simp only [hji7] at H ⊢; exact H)
            by_cases c8 : 0 ≤ (ji7)
            · rw [if_pos c8] at H
              have c8b0 : decide (0 ≤ (ji7)) = true := decide_eq_true c8
              clear c8
              by_cases c9 : (ji7) < (l0.length : Int)
              · rw [if_pos c9] at H
                have c9b0 : decide ((ji7) < (l0.length : Int)) = true := decide_eq_true c9
                clear c9
                have HC10 := Aside0.mk H
                clear H
                have p473 : 0 ≤ (x6_1 : Int) := of_decide_eq_true (by first | (with_reducible assumption) | assumption)
                have q473 : x6_1 < (l0.length : Int) := of_decide_eq_true (by first | (with_reducible assumption) | assumption)
                obtain ⟨ad473, e473, hx473_0, hx473_1⟩ := at_T23 HR0.out x6_1 p473 q473
                cases e473
                replace hx473_0 := (HB.out.cell (World.block_lt_of_cell? w _ hx473_0)).trans hx473_0
                replace hx473_1 := (HB.out.cell (World.block_lt_of_cell? w _ hx473_1)).trans hx473_1
                replace p473 := eq_true p473
                replace q473 := eq_true q473
                go_upto_region 7 with (first | ((with_reducible refine gate_dst (N := 7) rfl ?_); refine box_event ?hg (N := 7) ?hd (cs := #[.int .i64 0, .int .i64 0]) (t := 23) ?hr ?_; (case hd => rfl); (case hg => rfl); (case hr => first | (go_simp; done) | (go_simp; rfl)); intro gb474 hg w11 hbox hb; have n0_ := Aside0.mk (blk_below (g := gb472) (o := .cells #[.int .i64 a1_0, .int .i64 a1_1] 23 (0, 0)) (by (with_reducible repeat (first | refine blk_drewN ?_ _ | refine blk_drew ?_ | refine blk_alloc ?_ _)); exact BK472.out) hb); have n1_ := Aside0.mk (below_step (by repeat (first | (with_reducible first | exact HB.out | apply below_alloc | apply pw_below_drewN | apply below_drew1 | refine below_set ?_ GE472.out) | exact HB.out)) hb); have n2_ := Aside0.mk (hbox); have n3_ := Aside0.mk ((by rw [hg]; exact (below_size (by repeat (first | (with_reducible first | exact HB.out | apply below_alloc | apply pw_below_drewN | apply below_drew1 | refine below_set ?_ GE472.out) | exact HB.out))) : w.heap.size ≤ gb474)); have n4_ := Aside0.mk ((by rw [hg]; exact (below_size (by repeat (first | (with_reducible first | exact HB.out | apply below_alloc | apply pw_below_drewN | apply below_drew1 | refine below_set ?_ GE472.out) | exact HB.out))) : w.heap.size ≤ gb474)); have n5_ := Aside0.mk ((by rw [hg]; exact Nat.ne_of_lt (blk_lt (g := gb472) (o := .cells #[.int .i64 a1_0, .int .i64 a1_1] 23 (0, 0)) (by (with_reducible repeat (first | refine blk_drewN ?_ _ | refine blk_drew ?_ | refine blk_alloc ?_ _)); exact BK472.out)) : gb472 ≠ gb474)); have n6_ := Aside0.mk ((by rw [hg]; exact Nat.ne_of_gt (blk_lt (g := gb472) (o := .cells #[.int .i64 a1_0, .int .i64 a1_1] 23 (0, 0)) (by (with_reducible repeat (first | refine blk_drewN ?_ _ | refine blk_drew ?_ | refine blk_alloc ?_ _)); exact BK472.out)) : gb474 ≠ gb472)); clear BK472; clear HB; have BK472 := n0_; have HB := n1_; have BK474 := n2_; have GW474 := n3_; have GE474 := n4_; have NB472_474 := n5_; have NB474_472 := n6_; clear n0_ n1_ n2_ n3_ n4_ n5_ n6_; clear hb hbox hg; have hnb12 := NB474_472.out; have hnc12 := NB472_474.out; have hcz13_0 : w11.cell? ⟨gb474, 0, none⟩ = some (.int .i64 0) := (blk_cell BK474.out 0).trans rfl; have hcz13_1 : w11.cell? ⟨gb474, 1, none⟩ = some (.int .i64 0) := (blk_cell BK474.out 1).trans rfl; have hfz13_0 := blk_frozen BK474.out 0; have hfz13_1 := blk_frozen BK474.out 1; have p475 : 0 ≤ ((ji7) : Int) := of_decide_eq_true (by first | (with_reducible assumption) | assumption); have q475 : (ji7) < (l0.length : Int) := of_decide_eq_true (by first | (with_reducible assumption) | assumption); obtain ⟨ad475, e475, hx475_0, hx475_1⟩ := at_T23 HR0.out (ji7) p475 q475; obtain rfl : ad473 = ad475 := (by injection e475); have hn475_0 : ad473.block ≠ gb474 := Nat.ne_of_lt (Nat.lt_of_lt_of_le (by have := World.block_lt_of_cell? _ _ hx475_0; first | rwa [add_block] at this | exact this) GW474.out); have hn475_1 : ad473.block ≠ gb474 := Nat.ne_of_lt (Nat.lt_of_lt_of_le (by have := World.block_lt_of_cell? _ _ hx475_0; first | rwa [add_block] at this | exact this) GW474.out); replace hx475_0 := (HB.out.cell (World.block_lt_of_cell? w _ hx475_0)).trans hx475_0; replace hx475_1 := (HB.out.cell (World.block_lt_of_cell? w _ hx475_1)).trans hx475_1; replace hx475_0 := (cell_far (p := ⟨gb474, 0, none⟩) (by first | (rw [add_block]; exact hn475_0) | (show (Addr.add _ _).block ≠ _; rw [add_block]; exact hn475_0) | exact hn475_0) (.int .i64 ((rd_T23 l0 x6_1).f0))).trans hx475_0; replace hx475_1 := (cell_far (p := ⟨gb474, 0, none⟩) (by first | (rw [add_block]; exact hn475_0) | (show (Addr.add _ _).block ≠ _; rw [add_block]; exact hn475_0) | exact hn475_0) (.int .i64 ((rd_T23 l0 x6_1).f0))).trans hx475_1; replace hx475_0 := (cell_far (p := ⟨gb474, 1, none⟩) (by first | (rw [add_block]; exact hn475_1) | (show (Addr.add _ _).block ≠ _; rw [add_block]; exact hn475_1) | exact hn475_1) (.int .i64 ((rd_T23 l0 x6_1).f1))).trans hx475_0; replace hx475_1 := (cell_far (p := ⟨gb474, 1, none⟩) (by first | (rw [add_block]; exact hn475_1) | (show (Addr.add _ _).block ≠ _; rw [add_block]; exact hn475_1) | exact hn475_1) (.int .i64 ((rd_T23 l0 x6_1).f1))).trans hx475_1; clear hn475_0; clear hn475_1; replace p475 := eq_true p475; replace q475 := eq_true q475) | ((with_reducible refine gate_dst (N := 8) rfl ?_); refine box_event ?hg (N := 8) ?hd (cs := #[.int .i64 0, .int .i64 0]) (t := 23) ?hr ?_; (case hd => rfl); (case hg => rfl); (case hr => first | (go_simp; done) | (go_simp; rfl)); intro gb476 hg w14 hbox hb; have n0_ := Aside0.mk (blk_below (g := gb472) (o := .cells #[.int .i64 a1_0, .int .i64 a1_1] 23 (0, 0)) (by (with_reducible repeat (first | refine blk_drewN ?_ _ | refine blk_drew ?_ | refine blk_alloc ?_ _)); refine blk_far ?_ NB472_474.out _; (with_reducible repeat (first | refine blk_drewN ?_ _ | refine blk_drew ?_ | refine blk_alloc ?_ _)); refine blk_far ?_ NB472_474.out _; (with_reducible repeat (first | refine blk_drewN ?_ _ | refine blk_drew ?_ | refine blk_alloc ?_ _)); exact BK472.out) hb); have n1_ := Aside0.mk (blk_below (g := gb474) (o := .cells #[.int .i64 ((rd_T23 l0 x6_1).f0), .int .i64 ((rd_T23 l0 x6_1).f1)] 23 (0, 0)) (by (with_reducible repeat (first | refine blk_drewN ?_ _ | refine blk_drew ?_ | refine blk_alloc ?_ _)); refine blk_put (cs := #[.int .i64 ((rd_T23 l0 x6_1).f0), .int .i64 0]) ?_ 1 _ rfl; (with_reducible repeat (first | refine blk_drewN ?_ _ | refine blk_drew ?_ | refine blk_alloc ?_ _)); refine blk_put (cs := #[.int .i64 0, .int .i64 0]) ?_ 0 _ rfl; (with_reducible repeat (first | refine blk_drewN ?_ _ | refine blk_drew ?_ | refine blk_alloc ?_ _)); exact BK474.out) hb); have n2_ := Aside0.mk (below_step (by repeat (first | (with_reducible first | exact HB.out | apply below_alloc | apply pw_below_drewN | apply below_drew1 | refine below_set ?_ GE472.out | refine below_set ?_ GE474.out) | exact HB.out)) hb); have n3_ := Aside0.mk (hbox); have n4_ := Aside0.mk ((by rw [hg]; exact (below_size (by repeat (first | (with_reducible first | exact HB.out | apply below_alloc | apply pw_below_drewN | apply below_drew1 | refine below_set ?_ GE472.out | refine below_set ?_ GE474.out) | exact HB.out))) : w.heap.size ≤ gb476)); have n5_ := Aside0.mk ((by rw [hg]; exact (below_size (by repeat (first | (with_reducible first | exact HB.out | apply below_alloc | apply pw_below_drewN | apply below_drew1 | refine below_set ?_ GE472.out | refine below_set ?_ GE474.out) | exact HB.out))) : w.heap.size ≤ gb476)); have n6_ := Aside0.mk ((by rw [hg]; exact Nat.ne_of_lt (blk_lt (g := gb472) (o := .cells #[.int .i64 a1_0, .int .i64 a1_1] 23 (0, 0)) (by (with_reducible repeat (first | refine blk_drewN ?_ _ | refine blk_drew ?_ | refine blk_alloc ?_ _)); refine blk_far ?_ NB472_474.out _; (with_reducible repeat (first | refine blk_drewN ?_ _ | refine blk_drew ?_ | refine blk_alloc ?_ _)); refine blk_far ?_ NB472_474.out _; (with_reducible repeat (first | refine blk_drewN ?_ _ | refine blk_drew ?_ | refine blk_alloc ?_ _)); exact BK472.out)) : gb472 ≠ gb476)); have n7_ := Aside0.mk ((by rw [hg]; exact Nat.ne_of_gt (blk_lt (g := gb472) (o := .cells #[.int .i64 a1_0, .int .i64 a1_1] 23 (0, 0)) (by (with_reducible repeat (first | refine blk_drewN ?_ _ | refine blk_drew ?_ | refine blk_alloc ?_ _)); refine blk_far ?_ NB472_474.out _; (with_reducible repeat (first | refine blk_drewN ?_ _ | refine blk_drew ?_ | refine blk_alloc ?_ _)); refine blk_far ?_ NB472_474.out _; (with_reducible repeat (first | refine blk_drewN ?_ _ | refine blk_drew ?_ | refine blk_alloc ?_ _)); exact BK472.out)) : gb476 ≠ gb472)); have n8_ := Aside0.mk ((by rw [hg]; exact Nat.ne_of_lt (blk_lt (g := gb474) (o := .cells #[.int .i64 ((rd_T23 l0 x6_1).f0), .int .i64 ((rd_T23 l0 x6_1).f1)] 23 (0, 0)) (by (with_reducible repeat (first | refine blk_drewN ?_ _ | refine blk_drew ?_ | refine blk_alloc ?_ _)); refine blk_put (cs := #[.int .i64 ((rd_T23 l0 x6_1).f0), .int .i64 0]) ?_ 1 _ rfl; (with_reducible repeat (first | refine blk_drewN ?_ _ | refine blk_drew ?_ | refine blk_alloc ?_ _)); refine blk_put (cs := #[.int .i64 0, .int .i64 0]) ?_ 0 _ rfl; (with_reducible repeat (first | refine blk_drewN ?_ _ | refine blk_drew ?_ | refine blk_alloc ?_ _)); exact BK474.out)) : gb474 ≠ gb476)); have n9_ := Aside0.mk ((by rw [hg]; exact Nat.ne_of_gt (blk_lt (g := gb474) (o := .cells #[.int .i64 ((rd_T23 l0 x6_1).f0), .int .i64 ((rd_T23 l0 x6_1).f1)] 23 (0, 0)) (by (with_reducible repeat (first | refine blk_drewN ?_ _ | refine blk_drew ?_ | refine blk_alloc ?_ _)); refine blk_put (cs := #[.int .i64 ((rd_T23 l0 x6_1).f0), .int .i64 0]) ?_ 1 _ rfl; (with_reducible repeat (first | refine blk_drewN ?_ _ | refine blk_drew ?_ | refine blk_alloc ?_ _)); refine blk_put (cs := #[.int .i64 0, .int .i64 0]) ?_ 0 _ rfl; (with_reducible repeat (first | refine blk_drewN ?_ _ | refine blk_drew ?_ | refine blk_alloc ?_ _)); exact BK474.out)) : gb476 ≠ gb474)); clear BK472; clear BK474; clear HB; have BK472 := n0_; have BK474 := n1_; have HB := n2_; have BK476 := n3_; have GW476 := n4_; have GE476 := n5_; have NB472_476 := n6_; have NB476_472 := n7_; have NB474_476 := n8_; have NB476_474 := n9_; clear n0_ n1_ n2_ n3_ n4_ n5_ n6_ n7_ n8_ n9_; clear hb hbox hg; have hnb15 := NB476_472.out; have hnc15 := NB472_476.out; have hnb16 := NB476_474.out; have hnc16 := NB474_476.out; have hcz17_0 : w14.cell? ⟨gb476, 0, none⟩ = some (.int .i64 0) := (blk_cell BK476.out 0).trans rfl; have hcz17_1 : w14.cell? ⟨gb476, 1, none⟩ = some (.int .i64 0) := (blk_cell BK476.out 1).trans rfl; have hfz17_0 := blk_frozen BK476.out 0; have hfz17_1 := blk_frozen BK476.out 1))
                (try simp only [Act.put, List.setIfInBounds_toArray, List.set_cons_zero, List.set_cons_succ])
                go_cut [45] (fun v45 wc => ∃ (kq : Nat) (x45_9 : Bool), v45 = .bool x45_9 ∧ Aside0 (boundstoneref02_winding.j1 kq l0 x5_1 x6_1 x45_9 a1_0 a1_1 ((rd_T23 l0 x6_1).f0) ((rd_T23 l0 x6_1).f1) ((rd_T23 l0 (ji7)).f0) ((rd_T23 l0 (ji7)).f1) = some r) ∧ Aside0 (kq ≤ k1) ∧ Aside0 (wc.heap[gb472]? = some (.cells #[.int .i64 a1_0, .int .i64 a1_1] 23 (0, 0))) ∧ Aside0 (wc.heap[gb474]? = some (.cells #[.int .i64 ((rd_T23 l0 x6_1).f0), .int .i64 ((rd_T23 l0 x6_1).f1)] 23 (0, 0))) ∧ Aside0 (wc.heap[gb476]? = some (.cells #[.int .i64 ((rd_T23 l0 (ji7)).f0), .int .i64 ((rd_T23 l0 (ji7)).f1)] 23 (0, 0))) ∧ Aside0 (Below w.heap.size w wc))
                case first =>
                  have H := HC10.out
                  clear HC10
                  by_cases c18 : ((rd_T23 l0 x6_1).f1) ≤ a1_1
                  · rw [if_pos c18] at H
                    have c18b0 : decide (((rd_T23 l0 x6_1).f1) ≤ a1_1) = true := decide_eq_true c18
                    clear c18
                    (first | rw [c18b0] | (simp only [i64_w, i32_w]; rw [c18b0]) | skip)
                    by_cases c19 : ((rd_T23 l0 (ji7)).f1) > a1_1
                    · rw [if_pos c19] at H
                      have c19b0 : decide (a1_1 < ((rd_T23 l0 (ji7)).f1)) = true := decide_eq_true c19
                      clear c19
                      replace H := Option.bind_eq_some_iff.mp H
                      obtain ⟨t477, A200, H⟩ := H
                      replace H : (boundstoneref02_winding.j1 k1 l0 x5_1 x6_1 (decide (t477 > 0)) a1_0 a1_1 ((rd_T23 l0 x6_1).f0) ((rd_T23 l0 x6_1).f1) ((rd_T23 l0 (ji7)).f0) ((rd_T23 l0 (ji7)).f1)) = some r := H
                      have A20 := Aside0.mk A200
                      clear A200
                      have H' := Aside0.mk H
                      clear H
                      have hnb21 := NB474_472.out
                      have hnc21 := NB472_474.out
                      have hnb22 := NB474_476.out
                      have hnc22 := NB476_474.out
                      have hcz23_0 : w14.cell? ⟨gb474, 0, none⟩ = some (.int .i64 ((rd_T23 l0 x6_1).f0)) := (blk_cell BK474.out 0).trans rfl
                      have hcz23_1 : w14.cell? ⟨gb474, 1, none⟩ = some (.int .i64 ((rd_T23 l0 x6_1).f1)) := (blk_cell BK474.out 1).trans rfl
                      have hfz23_0 := blk_frozen BK474.out 0
                      have hfz23_1 := blk_frozen BK474.out 1
                      have hnb24 := NB472_476.out
                      have hnc24 := NB476_472.out
                      have hcz25_0 : w14.cell? ⟨gb472, 0, none⟩ = some (.int .i64 a1_0) := (blk_cell BK472.out 0).trans rfl
                      have hcz25_1 : w14.cell? ⟨gb472, 1, none⟩ = some (.int .i64 a1_1) := (blk_cell BK472.out 1).trans rfl
                      have hfz25_0 := blk_frozen BK472.out 0
                      have hfz25_1 := blk_frozen BK472.out 1
                      have hcz26_0 : w14.cell? ⟨gb476, 0, none⟩ = some (.int .i64 0) := (blk_cell BK476.out 0).trans rfl
                      have hcz26_1 : w14.cell? ⟨gb476, 1, none⟩ = some (.int .i64 0) := (blk_cell BK476.out 1).trans rfl
                      have hfz26_0 := blk_frozen BK476.out 0
                      have hfz26_1 := blk_frozen BK476.out 1
                      go_wp2_with (first | (go_at_call 83; (with_reducible refine (boundstoneref02_twice.calls ((rd_T23 l0 x6_1).f0) ((rd_T23 l0 x6_1).f1) ((rd_T23 l0 (ji7)).f0) ((rd_T23 l0 (ji7)).f1) a1_0 a1_1 t477 _ A20.out).mono ?_); rintro e w27 ⟨rfl, hb⟩; have n0_ := Aside0.mk (blk_below (g := gb472) (o := .cells #[.int .i64 a1_0, .int .i64 a1_1] 23 (0, 0)) (by (with_reducible repeat (first | refine blk_drewN ?_ _ | refine blk_drew ?_ | refine blk_alloc ?_ _)); refine blk_far ?_ NB472_476.out _; (with_reducible repeat (first | refine blk_drewN ?_ _ | refine blk_drew ?_ | refine blk_alloc ?_ _)); refine blk_far ?_ NB472_476.out _; (with_reducible repeat (first | refine blk_drewN ?_ _ | refine blk_drew ?_ | refine blk_alloc ?_ _)); exact BK472.out) hb); have n1_ := Aside0.mk (blk_below (g := gb474) (o := .cells #[.int .i64 ((rd_T23 l0 x6_1).f0), .int .i64 ((rd_T23 l0 x6_1).f1)] 23 (0, 0)) (by (with_reducible repeat (first | refine blk_drewN ?_ _ | refine blk_drew ?_ | refine blk_alloc ?_ _)); refine blk_far ?_ NB474_476.out _; (with_reducible repeat (first | refine blk_drewN ?_ _ | refine blk_drew ?_ | refine blk_alloc ?_ _)); refine blk_far ?_ NB474_476.out _; (with_reducible repeat (first | refine blk_drewN ?_ _ | refine blk_drew ?_ | refine blk_alloc ?_ _)); exact BK474.out) hb); have n2_ := Aside0.mk (blk_below (g := gb476) (o := .cells #[.int .i64 ((rd_T23 l0 (ji7)).f0), .int .i64 ((rd_T23 l0 (ji7)).f1)] 23 (0, 0)) (by (with_reducible repeat (first | refine blk_drewN ?_ _ | refine blk_drew ?_ | refine blk_alloc ?_ _)); refine blk_put (cs := #[.int .i64 ((rd_T23 l0 (ji7)).f0), .int .i64 0]) ?_ 1 _ rfl; (with_reducible repeat (first | refine blk_drewN ?_ _ | refine blk_drew ?_ | refine blk_alloc ?_ _)); refine blk_put (cs := #[.int .i64 0, .int .i64 0]) ?_ 0 _ rfl; (with_reducible repeat (first | refine blk_drewN ?_ _ | refine blk_drew ?_ | refine blk_alloc ?_ _)); exact BK476.out) hb); have n3_ := Aside0.mk (below_step (by repeat (first | (with_reducible first | exact HB.out | apply below_alloc | apply pw_below_drewN | apply below_drew1 | refine below_set ?_ GE472.out | refine below_set ?_ GE474.out | refine below_set ?_ GE476.out) | exact HB.out)) hb); clear BK472; clear BK474; clear BK476; clear HB; have BK472 := n0_; have BK474 := n1_; have BK476 := n2_; have HB := n3_; clear n0_ n1_ n2_ n3_; (try clear hb); (try clear hb2); (try clear hk); (try clear hi)))
                      go_meet
                      case rel => exact ⟨_, (decide (t477 > 0)), (by first | rfl | (simp; done) | (simp [*]; done)), H', ⟨by have := HK1.out; first | omega | exact Nat.le_refl _⟩, ⟨by (with_reducible repeat (first | refine blk_drewN ?_ _ | refine blk_drew ?_ | refine blk_alloc ?_ _)); exact BK472.out⟩, ⟨by (with_reducible repeat (first | refine blk_drewN ?_ _ | refine blk_drew ?_ | refine blk_alloc ?_ _)); exact BK474.out⟩, ⟨by (with_reducible repeat (first | refine blk_drewN ?_ _ | refine blk_drew ?_ | refine blk_alloc ?_ _)); exact BK476.out⟩, ⟨by repeat (first | (with_reducible first | exact HB.out | apply below_alloc | apply pw_below_drewN | apply below_drew1 | refine below_set ?_ GE472.out | refine below_set ?_ GE474.out | refine below_set ?_ GE476.out) | exact HB.out)⟩⟩
                    · rw [if_neg c19] at H
                      have c19b0 : decide (a1_1 < ((rd_T23 l0 (ji7)).f1)) = false := decide_eq_false c19
                      clear c19
                      have H' := Aside0.mk H
                      clear H
                      have hnb28 := NB474_472.out
                      have hnc28 := NB472_474.out
                      have hnb29 := NB474_476.out
                      have hnc29 := NB476_474.out
                      have hcz30_0 : w14.cell? ⟨gb474, 0, none⟩ = some (.int .i64 ((rd_T23 l0 x6_1).f0)) := (blk_cell BK474.out 0).trans rfl
                      have hcz30_1 : w14.cell? ⟨gb474, 1, none⟩ = some (.int .i64 ((rd_T23 l0 x6_1).f1)) := (blk_cell BK474.out 1).trans rfl
                      have hfz30_0 := blk_frozen BK474.out 0
                      have hfz30_1 := blk_frozen BK474.out 1
                      have hnb31 := NB472_476.out
                      have hnc31 := NB476_472.out
                      have hcz32_0 : w14.cell? ⟨gb472, 0, none⟩ = some (.int .i64 a1_0) := (blk_cell BK472.out 0).trans rfl
                      have hcz32_1 : w14.cell? ⟨gb472, 1, none⟩ = some (.int .i64 a1_1) := (blk_cell BK472.out 1).trans rfl
                      have hfz32_0 := blk_frozen BK472.out 0
                      have hfz32_1 := blk_frozen BK472.out 1
                      have hcz33_0 : w14.cell? ⟨gb476, 0, none⟩ = some (.int .i64 0) := (blk_cell BK476.out 0).trans rfl
                      have hcz33_1 : w14.cell? ⟨gb476, 1, none⟩ = some (.int .i64 0) := (blk_cell BK476.out 1).trans rfl
                      have hfz33_0 := blk_frozen BK476.out 0
                      have hfz33_1 := blk_frozen BK476.out 1
                      go_wp2
                      go_meet
                      case rel => exact ⟨_, (false), (by first | rfl | (simp; done) | (simp [*]; done)), H', ⟨by have := HK1.out; first | omega | exact Nat.le_refl _⟩, ⟨by (with_reducible repeat (first | refine blk_drewN ?_ _ | refine blk_drew ?_ | refine blk_alloc ?_ _)); refine blk_far ?_ NB472_476.out _; (with_reducible repeat (first | refine blk_drewN ?_ _ | refine blk_drew ?_ | refine blk_alloc ?_ _)); refine blk_far ?_ NB472_476.out _; (with_reducible repeat (first | refine blk_drewN ?_ _ | refine blk_drew ?_ | refine blk_alloc ?_ _)); exact BK472.out⟩, ⟨by (with_reducible repeat (first | refine blk_drewN ?_ _ | refine blk_drew ?_ | refine blk_alloc ?_ _)); refine blk_far ?_ NB474_476.out _; (with_reducible repeat (first | refine blk_drewN ?_ _ | refine blk_drew ?_ | refine blk_alloc ?_ _)); refine blk_far ?_ NB474_476.out _; (with_reducible repeat (first | refine blk_drewN ?_ _ | refine blk_drew ?_ | refine blk_alloc ?_ _)); exact BK474.out⟩, ⟨by (with_reducible repeat (first | refine blk_drewN ?_ _ | refine blk_drew ?_ | refine blk_alloc ?_ _)); refine blk_put (cs := #[.int .i64 ((rd_T23 l0 (ji7)).f0), .int .i64 0]) ?_ 1 _ rfl; (with_reducible repeat (first | refine blk_drewN ?_ _ | refine blk_drew ?_ | refine blk_alloc ?_ _)); refine blk_put (cs := #[.int .i64 0, .int .i64 0]) ?_ 0 _ rfl; (with_reducible repeat (first | refine blk_drewN ?_ _ | refine blk_drew ?_ | refine blk_alloc ?_ _)); exact BK476.out⟩, ⟨by repeat (first | (with_reducible first | exact HB.out | apply below_alloc | apply pw_below_drewN | apply below_drew1 | refine below_set ?_ GE472.out | refine below_set ?_ GE474.out | refine below_set ?_ GE476.out) | exact HB.out)⟩⟩
                  · rw [if_neg c18] at H
                    have c18b0 : decide (((rd_T23 l0 x6_1).f1) ≤ a1_1) = false := decide_eq_false c18
                    clear c18
                    (first | rw [c18b0] | (simp only [i64_w, i32_w]; rw [c18b0]) | skip)
                    have H' := Aside0.mk H
                    clear H
                    have hnb34 := NB474_472.out
                    have hnc34 := NB472_474.out
                    have hnb35 := NB474_476.out
                    have hnc35 := NB476_474.out
                    have hcz36_0 : w14.cell? ⟨gb474, 0, none⟩ = some (.int .i64 ((rd_T23 l0 x6_1).f0)) := (blk_cell BK474.out 0).trans rfl
                    have hcz36_1 : w14.cell? ⟨gb474, 1, none⟩ = some (.int .i64 ((rd_T23 l0 x6_1).f1)) := (blk_cell BK474.out 1).trans rfl
                    have hfz36_0 := blk_frozen BK474.out 0
                    have hfz36_1 := blk_frozen BK474.out 1
                    have hnb37 := NB472_476.out
                    have hnc37 := NB476_472.out
                    have hcz38_0 : w14.cell? ⟨gb472, 0, none⟩ = some (.int .i64 a1_0) := (blk_cell BK472.out 0).trans rfl
                    have hcz38_1 : w14.cell? ⟨gb472, 1, none⟩ = some (.int .i64 a1_1) := (blk_cell BK472.out 1).trans rfl
                    have hfz38_0 := blk_frozen BK472.out 0
                    have hfz38_1 := blk_frozen BK472.out 1
                    go_wp2
                    go_meet
                    case rel => exact ⟨_, (false), (by first | rfl | (simp; done) | (simp [*]; done)), H', ⟨by have := HK1.out; first | omega | exact Nat.le_refl _⟩, ⟨by (with_reducible repeat (first | refine blk_drewN ?_ _ | refine blk_drew ?_ | refine blk_alloc ?_ _)); refine blk_far ?_ NB472_476.out _; (with_reducible repeat (first | refine blk_drewN ?_ _ | refine blk_drew ?_ | refine blk_alloc ?_ _)); refine blk_far ?_ NB472_476.out _; (with_reducible repeat (first | refine blk_drewN ?_ _ | refine blk_drew ?_ | refine blk_alloc ?_ _)); exact BK472.out⟩, ⟨by (with_reducible repeat (first | refine blk_drewN ?_ _ | refine blk_drew ?_ | refine blk_alloc ?_ _)); refine blk_far ?_ NB474_476.out _; (with_reducible repeat (first | refine blk_drewN ?_ _ | refine blk_drew ?_ | refine blk_alloc ?_ _)); refine blk_far ?_ NB474_476.out _; (with_reducible repeat (first | refine blk_drewN ?_ _ | refine blk_drew ?_ | refine blk_alloc ?_ _)); exact BK474.out⟩, ⟨by (with_reducible repeat (first | refine blk_drewN ?_ _ | refine blk_drew ?_ | refine blk_alloc ?_ _)); refine blk_put (cs := #[.int .i64 ((rd_T23 l0 (ji7)).f0), .int .i64 0]) ?_ 1 _ rfl; (with_reducible repeat (first | refine blk_drewN ?_ _ | refine blk_drew ?_ | refine blk_alloc ?_ _)); refine blk_put (cs := #[.int .i64 0, .int .i64 0]) ?_ 0 _ rfl; (with_reducible repeat (first | refine blk_drewN ?_ _ | refine blk_drew ?_ | refine blk_alloc ?_ _)); exact BK476.out⟩, ⟨by repeat (first | (with_reducible first | exact HB.out | apply below_alloc | apply pw_below_drewN | apply below_drew1 | refine below_set ?_ GE472.out | refine below_set ?_ GE474.out | refine below_set ?_ GE476.out) | exact HB.out)⟩⟩
                case rest =>
                  clear HC10
                  (try clear c1); (try clear c2); (try clear p2); (try clear c3); (try clear c4); (try clear c4b0); (try clear p4); (try clear q4); (try clear hx4); (try clear c5); (try clear c5b0); (try clear c6); (try clear c6b0); (try clear c6b1); (try clear c6b2); (try clear p6); (try clear c8); (try clear c8b0); (try clear c9); (try clear c9b0); (try clear c10); (try clear c12); (try clear c15); (try clear c16); (try clear c18); (try clear c18b0); (try clear c19); (try clear c19b0); (try clear c21); (try clear c22); (try clear c24); (try clear c28); (try clear c29); (try clear c31); (try clear c34); (try clear c35); (try clear c37); (try clear hcz13_0); (try clear hcz13_1); (try clear hcz17_0); (try clear hcz17_1); (try clear hcz23_0); (try clear hcz23_1); (try clear hcz25_0); (try clear hcz25_1); (try clear hcz26_0); (try clear hcz26_1); (try clear hcz30_0); (try clear hcz30_1); (try clear hcz32_0); (try clear hcz32_1); (try clear hcz33_0); (try clear hcz33_1); (try clear hcz36_0); (try clear hcz36_1); (try clear hcz38_0); (try clear hcz38_1); (try clear hfz13_0); (try clear hfz13_1); (try clear hfz17_0); (try clear hfz17_1); (try clear hfz23_0); (try clear hfz23_1); (try clear hfz25_0); (try clear hfz25_1); (try clear hfz26_0); (try clear hfz26_1); (try clear hfz30_0); (try clear hfz30_1); (try clear hfz32_0); (try clear hfz32_1); (try clear hfz33_0); (try clear hfz33_1); (try clear hfz36_0); (try clear hfz36_1); (try clear hfz38_0); (try clear hfz38_1); (try clear hx473_0); (try clear hx473_1); (try clear hx475_0); (try clear hx475_1); (try clear p2); (try clear p473); (try clear p475); (try clear q473); (try clear q475)
                  obtain ⟨kq, x45_9, rfl, HA, HJ9, BK472, BK474, BK476, HB⟩ := hcut
                  cases kq with
                  | zero => exact absurd HA.out (by simp [boundstoneref02_winding.j1])
                  | succ kj9 =>
                    have H := HA.out
                    clear HA
                    simp only [boundstoneref02_winding.j1] at H
                    have HC39 := Aside0.mk H
                    clear H
                    go_upto_if 45 with (fail)
                    go_cut [5] (fun v5 wc => ∃ (kq : Nat) (x5_38 : Int), v5 = .int .i64 x5_38 ∧ Aside0 (boundstoneref02_winding.j2 kq l0 x5_38 x6_1 a1_0 a1_1 ((rd_T23 l0 x6_1).f0) ((rd_T23 l0 x6_1).f1) ((rd_T23 l0 (ji7)).f0) ((rd_T23 l0 (ji7)).f1) = some r) ∧ Aside0 (kq ≤ kj9) ∧ Aside0 (wc.heap[gb472]? = some (.cells #[.int .i64 a1_0, .int .i64 a1_1] 23 (0, 0))) ∧ Aside0 (wc.heap[gb474]? = some (.cells #[.int .i64 ((rd_T23 l0 x6_1).f0), .int .i64 ((rd_T23 l0 x6_1).f1)] 23 (0, 0))) ∧ Aside0 (wc.heap[gb476]? = some (.cells #[.int .i64 ((rd_T23 l0 (ji7)).f0), .int .i64 ((rd_T23 l0 (ji7)).f1)] 23 (0, 0))) ∧ Aside0 (Below w.heap.size w wc))
                    case first =>
                      have H := HC39.out
                      clear HC39
                      by_cases c40 : x45_9 = true
                      · subst c40
                        have H1 : (boundstoneref02_winding.j2 kj9 l0 (wrap64 (x5_1 + 1)) x6_1 a1_0 a1_1 ((rd_T23 l0 x6_1).f0) ((rd_T23 l0 x6_1).f1) ((rd_T23 l0 (ji7)).f0) ((rd_T23 l0 (ji7)).f1)) = some r := by rw [if_pos rfl] at H; exact H
                        clear H
                        have H := H1
                        clear H1
                        have H' := Aside0.mk H
                        clear H
                        go_wp2
                        go_meet
                        case rel => exact ⟨_, (wrap64 (x5_1 + 1)), (by first | rfl | (simp; done) | (simp [*]; done)), H', ⟨by have := HK1.out; have := HJ9.out; first | omega | exact Nat.le_refl _⟩, ⟨by (with_reducible repeat (first | refine blk_drewN ?_ _ | refine blk_drew ?_ | refine blk_alloc ?_ _)); exact BK472.out⟩, ⟨by (with_reducible repeat (first | refine blk_drewN ?_ _ | refine blk_drew ?_ | refine blk_alloc ?_ _)); exact BK474.out⟩, ⟨by (with_reducible repeat (first | refine blk_drewN ?_ _ | refine blk_drew ?_ | refine blk_alloc ?_ _)); exact BK476.out⟩, ⟨by repeat (first | (with_reducible first | exact HB.out | apply below_alloc | apply pw_below_drewN | apply below_drew1 | refine below_set ?_ GE472.out | refine below_set ?_ GE474.out | refine below_set ?_ GE476.out) | exact HB.out)⟩⟩
                      · replace c40 := Bool.eq_false_iff.mpr c40
                        subst c40
                        have H1 : (boundstoneref02_winding.j2 kj9 l0 x5_1 x6_1 a1_0 a1_1 ((rd_T23 l0 x6_1).f0) ((rd_T23 l0 x6_1).f1) ((rd_T23 l0 (ji7)).f0) ((rd_T23 l0 (ji7)).f1)) = some r := by rw [if_neg (show ¬ (false = true) by decide)] at H; exact H
                        clear H
                        have H := H1
                        clear H1
                        have H' := Aside0.mk H
                        clear H
                        go_wp2
                        go_meet
                        case rel => exact ⟨_, (x5_1), (by first | rfl | (simp; done) | (simp [*]; done)), H', ⟨by have := HK1.out; have := HJ9.out; first | omega | exact Nat.le_refl _⟩, ⟨by (with_reducible repeat (first | refine blk_drewN ?_ _ | refine blk_drew ?_ | refine blk_alloc ?_ _)); exact BK472.out⟩, ⟨by (with_reducible repeat (first | refine blk_drewN ?_ _ | refine blk_drew ?_ | refine blk_alloc ?_ _)); exact BK474.out⟩, ⟨by (with_reducible repeat (first | refine blk_drewN ?_ _ | refine blk_drew ?_ | refine blk_alloc ?_ _)); exact BK476.out⟩, ⟨by repeat (first | (with_reducible first | exact HB.out | apply below_alloc | apply pw_below_drewN | apply below_drew1 | refine below_set ?_ GE472.out | refine below_set ?_ GE474.out | refine below_set ?_ GE476.out) | exact HB.out)⟩⟩
                    case rest =>
                      clear HC39
                      (try clear c1); (try clear c2); (try clear p2); (try clear c3); (try clear c4); (try clear c4b0); (try clear p4); (try clear q4); (try clear hx4); (try clear c5); (try clear c5b0); (try clear c6); (try clear c6b0); (try clear c6b1); (try clear c6b2); (try clear p6); (try clear c8); (try clear c8b0); (try clear c9); (try clear c9b0); (try clear c10); (try clear c12); (try clear c15); (try clear c16); (try clear c18); (try clear c18b0); (try clear c19); (try clear c19b0); (try clear c21); (try clear c22); (try clear c24); (try clear c28); (try clear c29); (try clear c31); (try clear c34); (try clear c35); (try clear c37); (try clear c40); (try clear hcz13_0); (try clear hcz13_1); (try clear hcz17_0); (try clear hcz17_1); (try clear hcz23_0); (try clear hcz23_1); (try clear hcz25_0); (try clear hcz25_1); (try clear hcz26_0); (try clear hcz26_1); (try clear hcz30_0); (try clear hcz30_1); (try clear hcz32_0); (try clear hcz32_1); (try clear hcz33_0); (try clear hcz33_1); (try clear hcz36_0); (try clear hcz36_1); (try clear hcz38_0); (try clear hcz38_1); (try clear hfz13_0); (try clear hfz13_1); (try clear hfz17_0); (try clear hfz17_1); (try clear hfz23_0); (try clear hfz23_1); (try clear hfz25_0); (try clear hfz25_1); (try clear hfz26_0); (try clear hfz26_1); (try clear hfz30_0); (try clear hfz30_1); (try clear hfz32_0); (try clear hfz32_1); (try clear hfz33_0); (try clear hfz33_1); (try clear hfz36_0); (try clear hfz36_1); (try clear hfz38_0); (try clear hfz38_1); (try clear hx473_0); (try clear hx473_1); (try clear hx475_0); (try clear hx475_1); (try clear p2); (try clear p4); (try clear p473); (try clear p475); (try clear p6); (try clear q4); (try clear q473); (try clear q475)
                      obtain ⟨kq, x5_38, rfl, HA, HJ38, BK472, BK474, BK476, HB⟩ := hcut
                      cases kq with
                      | zero => exact absurd HA.out (by simp [boundstoneref02_winding.j2])
                      | succ kj38 =>
                        have H := HA.out
                        clear HA
                        simp only [boundstoneref02_winding.j2] at H
                        have HC41 := Aside0.mk H
                        clear H
                        go_upto_region 9 with (fail)
                        go_cut [66] (fun v66 wc => ∃ (kq : Nat) (x66_40 : Bool), v66 = .bool x66_40 ∧ Aside0 (boundstoneref02_winding.j3 kq l0 x5_38 x6_1 x66_40 a1_0 a1_1 = some r) ∧ Aside0 (kq ≤ kj38) ∧ Aside0 (wc.heap[gb472]? = some (.cells #[.int .i64 a1_0, .int .i64 a1_1] 23 (0, 0))) ∧ Aside0 (wc.heap[gb474]? = some (.cells #[.int .i64 ((rd_T23 l0 x6_1).f0), .int .i64 ((rd_T23 l0 x6_1).f1)] 23 (0, 0))) ∧ Aside0 (wc.heap[gb476]? = some (.cells #[.int .i64 ((rd_T23 l0 (ji7)).f0), .int .i64 ((rd_T23 l0 (ji7)).f1)] 23 (0, 0))) ∧ Aside0 (Below w.heap.size w wc))
                        case first =>
                          have H := HC41.out
                          clear HC41
                          by_cases c42 : ((rd_T23 l0 x6_1).f1) > a1_1
                          · rw [if_pos c42] at H
                            have c42b0 : decide (a1_1 < ((rd_T23 l0 x6_1).f1)) = true := decide_eq_true c42
                            clear c42
                            (first | rw [c42b0] | (simp only [i64_w, i32_w]; rw [c42b0]) | skip)
                            by_cases c43 : ((rd_T23 l0 (ji7)).f1) ≤ a1_1
                            · rw [if_pos c43] at H
                              have c43b0 : decide (((rd_T23 l0 (ji7)).f1) ≤ a1_1) = true := decide_eq_true c43
                              clear c43
                              replace H := Option.bind_eq_some_iff.mp H
                              obtain ⟨t478, A440, H⟩ := H
                              replace H : (boundstoneref02_winding.j3 kj38 l0 x5_38 x6_1 (decide (t478 < 0)) a1_0 a1_1) = some r := H
                              have A44 := Aside0.mk A440
                              clear A440
                              have H' := Aside0.mk H
                              clear H
                              have hnb45 := NB474_472.out
                              have hnc45 := NB472_474.out
                              have hnb46 := NB474_476.out
                              have hnc46 := NB476_474.out
                              have hcz47_0 : wc.cell? ⟨gb474, 0, none⟩ = some (.int .i64 ((rd_T23 l0 x6_1).f0)) := (blk_cell BK474.out 0).trans rfl
                              have hcz47_1 : wc.cell? ⟨gb474, 1, none⟩ = some (.int .i64 ((rd_T23 l0 x6_1).f1)) := (blk_cell BK474.out 1).trans rfl
                              have hfz47_0 := blk_frozen BK474.out 0
                              have hfz47_1 := blk_frozen BK474.out 1
                              have hnb48 := NB472_476.out
                              have hnc48 := NB476_472.out
                              have hcz49_0 : wc.cell? ⟨gb472, 0, none⟩ = some (.int .i64 a1_0) := (blk_cell BK472.out 0).trans rfl
                              have hcz49_1 : wc.cell? ⟨gb472, 1, none⟩ = some (.int .i64 a1_1) := (blk_cell BK472.out 1).trans rfl
                              have hfz49_0 := blk_frozen BK472.out 0
                              have hfz49_1 := blk_frozen BK472.out 1
                              have hcz50_0 : wc.cell? ⟨gb476, 0, none⟩ = some (.int .i64 ((rd_T23 l0 (ji7)).f0)) := (blk_cell BK476.out 0).trans rfl
                              have hcz50_1 : wc.cell? ⟨gb476, 1, none⟩ = some (.int .i64 ((rd_T23 l0 (ji7)).f1)) := (blk_cell BK476.out 1).trans rfl
                              have hfz50_0 := blk_frozen BK476.out 0
                              have hfz50_1 := blk_frozen BK476.out 1
                              go_wp2_with (first | (go_at_call 83; (with_reducible refine (boundstoneref02_twice.calls ((rd_T23 l0 x6_1).f0) ((rd_T23 l0 x6_1).f1) ((rd_T23 l0 (ji7)).f0) ((rd_T23 l0 (ji7)).f1) a1_0 a1_1 t478 _ A44.out).mono ?_); rintro e w51 ⟨rfl, hb⟩; have n0_ := Aside0.mk (blk_below (g := gb472) (o := .cells #[.int .i64 a1_0, .int .i64 a1_1] 23 (0, 0)) (by (with_reducible repeat (first | refine blk_drewN ?_ _ | refine blk_drew ?_ | refine blk_alloc ?_ _)); exact BK472.out) hb); have n1_ := Aside0.mk (blk_below (g := gb474) (o := .cells #[.int .i64 ((rd_T23 l0 x6_1).f0), .int .i64 ((rd_T23 l0 x6_1).f1)] 23 (0, 0)) (by (with_reducible repeat (first | refine blk_drewN ?_ _ | refine blk_drew ?_ | refine blk_alloc ?_ _)); exact BK474.out) hb); have n2_ := Aside0.mk (blk_below (g := gb476) (o := .cells #[.int .i64 ((rd_T23 l0 (ji7)).f0), .int .i64 ((rd_T23 l0 (ji7)).f1)] 23 (0, 0)) (by (with_reducible repeat (first | refine blk_drewN ?_ _ | refine blk_drew ?_ | refine blk_alloc ?_ _)); exact BK476.out) hb); have n3_ := Aside0.mk (below_step (by repeat (first | (with_reducible first | exact HB.out | apply below_alloc | apply pw_below_drewN | apply below_drew1 | refine below_set ?_ GE472.out | refine below_set ?_ GE474.out | refine below_set ?_ GE476.out) | exact HB.out)) hb); clear BK472; clear BK474; clear BK476; clear HB; have BK472 := n0_; have BK474 := n1_; have BK476 := n2_; have HB := n3_; clear n0_ n1_ n2_ n3_; (try clear hb); (try clear hb2); (try clear hk); (try clear hi)))
                              go_meet
                              case rel => exact ⟨_, (decide (t478 < 0)), (by first | rfl | (simp; done) | (simp [*]; done)), H', ⟨by have := HK1.out; have := HJ9.out; have := HJ38.out; first | omega | exact Nat.le_refl _⟩, ⟨by (with_reducible repeat (first | refine blk_drewN ?_ _ | refine blk_drew ?_ | refine blk_alloc ?_ _)); exact BK472.out⟩, ⟨by (with_reducible repeat (first | refine blk_drewN ?_ _ | refine blk_drew ?_ | refine blk_alloc ?_ _)); exact BK474.out⟩, ⟨by (with_reducible repeat (first | refine blk_drewN ?_ _ | refine blk_drew ?_ | refine blk_alloc ?_ _)); exact BK476.out⟩, ⟨by repeat (first | (with_reducible first | exact HB.out | apply below_alloc | apply pw_below_drewN | apply below_drew1 | refine below_set ?_ GE472.out | refine below_set ?_ GE474.out | refine below_set ?_ GE476.out) | exact HB.out)⟩⟩
                            · rw [if_neg c43] at H
                              have c43b0 : decide (((rd_T23 l0 (ji7)).f1) ≤ a1_1) = false := decide_eq_false c43
                              clear c43
                              have H' := Aside0.mk H
                              clear H
                              have hnb52 := NB474_472.out
                              have hnc52 := NB472_474.out
                              have hnb53 := NB474_476.out
                              have hnc53 := NB476_474.out
                              have hcz54_0 : wc.cell? ⟨gb474, 0, none⟩ = some (.int .i64 ((rd_T23 l0 x6_1).f0)) := (blk_cell BK474.out 0).trans rfl
                              have hcz54_1 : wc.cell? ⟨gb474, 1, none⟩ = some (.int .i64 ((rd_T23 l0 x6_1).f1)) := (blk_cell BK474.out 1).trans rfl
                              have hfz54_0 := blk_frozen BK474.out 0
                              have hfz54_1 := blk_frozen BK474.out 1
                              have hnb55 := NB472_476.out
                              have hnc55 := NB476_472.out
                              have hcz56_0 : wc.cell? ⟨gb472, 0, none⟩ = some (.int .i64 a1_0) := (blk_cell BK472.out 0).trans rfl
                              have hcz56_1 : wc.cell? ⟨gb472, 1, none⟩ = some (.int .i64 a1_1) := (blk_cell BK472.out 1).trans rfl
                              have hfz56_0 := blk_frozen BK472.out 0
                              have hfz56_1 := blk_frozen BK472.out 1
                              have hcz57_0 : wc.cell? ⟨gb476, 0, none⟩ = some (.int .i64 ((rd_T23 l0 (ji7)).f0)) := (blk_cell BK476.out 0).trans rfl
                              have hcz57_1 : wc.cell? ⟨gb476, 1, none⟩ = some (.int .i64 ((rd_T23 l0 (ji7)).f1)) := (blk_cell BK476.out 1).trans rfl
                              have hfz57_0 := blk_frozen BK476.out 0
                              have hfz57_1 := blk_frozen BK476.out 1
                              go_wp2
                              go_meet
                              case rel => exact ⟨_, (false), (by first | rfl | (simp; done) | (simp [*]; done)), H', ⟨by have := HK1.out; have := HJ9.out; have := HJ38.out; first | omega | exact Nat.le_refl _⟩, ⟨by (with_reducible repeat (first | refine blk_drewN ?_ _ | refine blk_drew ?_ | refine blk_alloc ?_ _)); exact BK472.out⟩, ⟨by (with_reducible repeat (first | refine blk_drewN ?_ _ | refine blk_drew ?_ | refine blk_alloc ?_ _)); exact BK474.out⟩, ⟨by (with_reducible repeat (first | refine blk_drewN ?_ _ | refine blk_drew ?_ | refine blk_alloc ?_ _)); exact BK476.out⟩, ⟨by repeat (first | (with_reducible first | exact HB.out | apply below_alloc | apply pw_below_drewN | apply below_drew1 | refine below_set ?_ GE472.out | refine below_set ?_ GE474.out | refine below_set ?_ GE476.out) | exact HB.out)⟩⟩
                          · rw [if_neg c42] at H
                            have c42b0 : decide (a1_1 < ((rd_T23 l0 x6_1).f1)) = false := decide_eq_false c42
                            clear c42
                            (first | rw [c42b0] | (simp only [i64_w, i32_w]; rw [c42b0]) | skip)
                            have H' := Aside0.mk H
                            clear H
                            have hnb58 := NB474_472.out
                            have hnc58 := NB472_474.out
                            have hnb59 := NB474_476.out
                            have hnc59 := NB476_474.out
                            have hcz60_0 : wc.cell? ⟨gb474, 0, none⟩ = some (.int .i64 ((rd_T23 l0 x6_1).f0)) := (blk_cell BK474.out 0).trans rfl
                            have hcz60_1 : wc.cell? ⟨gb474, 1, none⟩ = some (.int .i64 ((rd_T23 l0 x6_1).f1)) := (blk_cell BK474.out 1).trans rfl
                            have hfz60_0 := blk_frozen BK474.out 0
                            have hfz60_1 := blk_frozen BK474.out 1
                            have hnb61 := NB472_476.out
                            have hnc61 := NB476_472.out
                            have hcz62_0 : wc.cell? ⟨gb472, 0, none⟩ = some (.int .i64 a1_0) := (blk_cell BK472.out 0).trans rfl
                            have hcz62_1 : wc.cell? ⟨gb472, 1, none⟩ = some (.int .i64 a1_1) := (blk_cell BK472.out 1).trans rfl
                            have hfz62_0 := blk_frozen BK472.out 0
                            have hfz62_1 := blk_frozen BK472.out 1
                            go_wp2
                            go_meet
                            case rel => exact ⟨_, (false), (by first | rfl | (simp; done) | (simp [*]; done)), H', ⟨by have := HK1.out; have := HJ9.out; have := HJ38.out; first | omega | exact Nat.le_refl _⟩, ⟨by (with_reducible repeat (first | refine blk_drewN ?_ _ | refine blk_drew ?_ | refine blk_alloc ?_ _)); exact BK472.out⟩, ⟨by (with_reducible repeat (first | refine blk_drewN ?_ _ | refine blk_drew ?_ | refine blk_alloc ?_ _)); exact BK474.out⟩, ⟨by (with_reducible repeat (first | refine blk_drewN ?_ _ | refine blk_drew ?_ | refine blk_alloc ?_ _)); exact BK476.out⟩, ⟨by repeat (first | (with_reducible first | exact HB.out | apply below_alloc | apply pw_below_drewN | apply below_drew1 | refine below_set ?_ GE472.out | refine below_set ?_ GE474.out | refine below_set ?_ GE476.out) | exact HB.out)⟩⟩
                        case rest =>
                          clear HC41
                          (try clear c1); (try clear c2); (try clear p2); (try clear c3); (try clear c4); (try clear c4b0); (try clear p4); (try clear q4); (try clear hx4); (try clear c5); (try clear c5b0); (try clear c6); (try clear c6b0); (try clear c6b1); (try clear c6b2); (try clear p6); (try clear c8); (try clear c8b0); (try clear c9); (try clear c9b0); (try clear c10); (try clear c12); (try clear c15); (try clear c16); (try clear c18); (try clear c18b0); (try clear c19); (try clear c19b0); (try clear c21); (try clear c22); (try clear c24); (try clear c28); (try clear c29); (try clear c31); (try clear c34); (try clear c35); (try clear c37); (try clear c40); (try clear c42); (try clear c42b0); (try clear c43); (try clear c43b0); (try clear c45); (try clear c46); (try clear p47); (try clear q47); (try clear hx47); (try clear c48); (try clear c52); (try clear c53); (try clear c55); (try clear c58); (try clear c59); (try clear c61); (try clear hcz13_0); (try clear hcz13_1); (try clear hcz17_0); (try clear hcz17_1); (try clear hcz23_0); (try clear hcz23_1); (try clear hcz25_0); (try clear hcz25_1); (try clear hcz26_0); (try clear hcz26_1); (try clear hcz30_0); (try clear hcz30_1); (try clear hcz32_0); (try clear hcz32_1); (try clear hcz33_0); (try clear hcz33_1); (try clear hcz36_0); (try clear hcz36_1); (try clear hcz38_0); (try clear hcz38_1); (try clear hcz47_0); (try clear hcz47_1); (try clear hcz49_0); (try clear hcz49_1); (try clear hcz50_0); (try clear hcz50_1); (try clear hcz54_0); (try clear hcz54_1); (try clear hcz56_0); (try clear hcz56_1); (try clear hcz57_0); (try clear hcz57_1); (try clear hcz60_0); (try clear hcz60_1); (try clear hcz62_0); (try clear hcz62_1); (try clear hfz13_0); (try clear hfz13_1); (try clear hfz17_0); (try clear hfz17_1); (try clear hfz23_0); (try clear hfz23_1); (try clear hfz25_0); (try clear hfz25_1); (try clear hfz26_0); (try clear hfz26_1); (try clear hfz30_0); (try clear hfz30_1); (try clear hfz32_0); (try clear hfz32_1); (try clear hfz33_0); (try clear hfz33_1); (try clear hfz36_0); (try clear hfz36_1); (try clear hfz38_0); (try clear hfz38_1); (try clear hfz47_0); (try clear hfz47_1); (try clear hfz49_0); (try clear hfz49_1); (try clear hfz50_0); (try clear hfz50_1); (try clear hfz54_0); (try clear hfz54_1); (try clear hfz56_0); (try clear hfz56_1); (try clear hfz57_0); (try clear hfz57_1); (try clear hfz60_0); (try clear hfz60_1); (try clear hfz62_0); (try clear hfz62_1); (try clear hx473_0); (try clear hx473_1); (try clear hx475_0); (try clear hx475_1); (try clear p2); (try clear p4); (try clear p473); (try clear p475); (try clear p6); (try clear q4); (try clear q473); (try clear q475)
                          obtain ⟨kq, x66_40, rfl, HA, HJ40, BK472, BK474, BK476, HB⟩ := hcut
                          cases kq with
                          | zero => exact absurd HA.out (by simp [boundstoneref02_winding.j3])
                          | succ kj40 =>
                            have H := HA.out
                            clear HA
                            simp only [boundstoneref02_winding.j3] at H
                            by_cases c63 : x66_40 = true
                            · subst c63
                              have H1 : (boundstoneref02_winding.l0 kj40 l0 (wrap64 (x5_38 - 1)) (wrap64 (x6_1 + 1)) a1_0 a1_1) = some r := by rw [if_pos rfl] at H; exact H
                              clear H
                              have H := H1
                              clear H1
                              have H' := Aside0.mk H
                              clear H
                              go_wp2
                              go_roundg kj40
                              case measure => have := HK1.out; have := HJ9.out; have := HJ38.out; have := HJ40.out; omega
                              case rel => exact ⟨(wrap64 (x5_38 - 1)), (wrap64 (x6_1 + 1)), (by first | rfl | (simp; done) | (simp [*]; done)), (by first | rfl | (simp; done) | (simp [*]; done)), H', ⟨by have := HK1.out; have := HJ9.out; have := HJ38.out; have := HJ40.out; omega⟩, ⟨by (with_reducible repeat (first | refine blk_drewN ?_ _ | refine blk_drew ?_ | refine blk_alloc ?_ _)); exact BK472.out⟩, ⟨by repeat (first | (with_reducible first | exact HB.out | apply below_alloc | apply pw_below_drewN | apply below_drew1 | refine below_set ?_ GE472.out | refine below_set ?_ GE474.out | refine below_set ?_ GE476.out) | exact HB.out)⟩⟩
                            · replace c63 := Bool.eq_false_iff.mpr c63
                              subst c63
                              have H1 : (boundstoneref02_winding.l0 kj40 l0 x5_38 (wrap64 (x6_1 + 1)) a1_0 a1_1) = some r := by rw [if_neg (show ¬ (false = true) by decide)] at H; exact H
                              clear H
                              have H := H1
                              clear H1
                              have H' := Aside0.mk H
                              clear H
                              go_wp2
                              go_roundg kj40
                              case measure => have := HK1.out; have := HJ9.out; have := HJ38.out; have := HJ40.out; omega
                              case rel => exact ⟨(x5_38), (wrap64 (x6_1 + 1)), (by first | rfl | (simp; done) | (simp [*]; done)), (by first | rfl | (simp; done) | (simp [*]; done)), H', ⟨by have := HK1.out; have := HJ9.out; have := HJ38.out; have := HJ40.out; omega⟩, ⟨by (with_reducible repeat (first | refine blk_drewN ?_ _ | refine blk_drew ?_ | refine blk_alloc ?_ _)); exact BK472.out⟩, ⟨by repeat (first | (with_reducible first | exact HB.out | apply below_alloc | apply pw_below_drewN | apply below_drew1 | refine below_set ?_ GE472.out | refine below_set ?_ GE474.out | refine below_set ?_ GE476.out) | exact HB.out)⟩⟩
              · rw [if_neg c9] at H
                exact absurd H (by simp)
            · rw [if_neg c8] at H
              exact absurd H (by simp)
        · rw [if_neg c5] at H
          exact absurd H (by simp)
      · rw [if_neg c4] at H
        have c4b0 : decide (x6_1 < (l0.length : Int)) = false := decide_eq_false c4
        clear c4
        obtain rfl := Option.some.inj H
        go_wp2
        go_ret
        exact ⟨by first | rfl | (simp [errW_none, errW_some] <;> rfl) | (simp [*, errW_none, errW_some] <;> rfl), by repeat (first | (with_reducible first | exact HB.out | apply below_alloc | apply pw_below_drewN | apply below_drew1 | refine below_set ?_ GE472.out) | exact HB.out)⟩
end Go.Proofs.Ytckaejgamfllfaa.G
end

section
namespace Go.Proofs.Ytckaejgamfllfaa.G
open Go.RowKit Go.Proofs.YtckaejgamfllfaaW.PrintWords Go.Proofs.YtckaejgamfllfaaW.PrintLast Go.Proofs.YtckaejgamfllfaaW.PrintMore
attribute [local go_sem] max2_int min2_int max_two min_two max_three min_three max_four min_four
set_option linter.unusedVariables false
set_option linter.unusedSimpArgs false
def boundstoneref02_along.l0 : Nat → List (S23) → Int → Int → Int → Option (Bool)
  | 0, _, _, _, _ => none
  | k + 1, x0, x5, x469000, x469001 => if x5 < (x0.length : Int) then (if 0 ≤ x5 then (if (x0.length : Int) = 0 then (none) else (if 0 ≤ (Int.tmod (wrap64 (x5 + 1)) (x0.length : Int)) then (if (Int.tmod (wrap64 (x5 + 1)) (x0.length : Int)) < (x0.length : Int) then ((boundstoneref02_on.f ((rd_T23 x0 x5).f0) ((rd_T23 x0 x5).f1) ((rd_T23 x0 (Int.tmod (wrap64 (x5 + 1)) (x0.length : Int))).f0) ((rd_T23 x0 (Int.tmod (wrap64 (x5 + 1)) (x0.length : Int))).f1) x469000 x469001).bind fun t471 => (if t471 = true then (some true) else (boundstoneref02_along.l0 k x0 (wrap64 (x5 + 1)) x469000 x469001))) else (none)) else (none))) else (none)) else (some false)
def boundstoneref02_along.f (k : Nat) (l0 : List (S23)) (a1_0 : Int) (a1_1 : Int) : Option (Bool) := boundstoneref02_along.l0 k l0 0 a1_0 a1_1
def boundstoneref02_along.T4 : Bool × List (List Nat × List Nat) := (true, [([], []), ([], []), ([0, 1], [0, 1]), ([2], [2]), ([], []), ([], []), ([5], [5]), ([], []), ([7], [7]), ([6, 8], [6, 8]), ([4, 9], [4, 9]), ([10], [10]), ([], []), ([3, 11, 12], [3, 11, 12]), ([13, 13, 0, 1, 2, 3, 4, 5, 6, 7, 8, 9, 10, 11, 12, 13], [13])])
def boundstoneref02_along.B4 : List Nat := [0, 0, 3, 7, 0, 0, 32, 0, 128, 480, 1008, 2032, 0, 8191, 16383]
theorem boundstoneref02_along.tab4 : rtab .any (opsOf Try.f99 4) = boundstoneref02_along.T4 := by kernel_rfl
theorem boundstoneref02_along.bits4 : waitsOk boundstoneref02_along.T4.2 boundstoneref02_along.B4 = true := by kernel_rfl
set_option maxHeartbeats 8000000 in
set_option maxRecDepth 100000 in
theorem boundstoneref02_along.calls (k : Nat) (A0 : Option Addr) (c0 : Nat) (l0 : List (S23)) (a1_0 : Int) (a1_1 : Int) (r : Bool) (w : World) (hr0 : Kd.C k23 w A0 l0.length l0) (hc0 : l0.length ≤ c0) (h : boundstoneref02_along.f k l0 a1_0 a1_1 = some r) :
    Calls Try.prog 99 #[.slice A0 l0.length c0, .agg #[.int .i64 a1_0, .int .i64 a1_1]] w fun e w' => e = .returned (.bool r) ∧ Below w.heap.size w w' := by
  have hu23 := Try.underlying23
  have HR0 := Aside0.mk hr0
  have HC0 := Aside0.mk hc0
  clear hr0 hc0
  have HB := Aside0.mk (Below.refl w.heap.size w)
  have H : (boundstoneref02_along.l0 k l0 0 a1_0 a1_1) = some r := h
  clear h
  have H' := Aside0.mk H
  clear H
  go_enter Try.func99, Try.ntmps99
  go_wp2_with (first | ((with_reducible refine gate_dst (N := 3) rfl ?_); refine box_event ?hg (N := 3) ?hd (cs := #[.int .i64 a1_0, .int .i64 a1_1]) (t := 23) ?hr ?_; (case hd => rfl); (case hg => rfl); (case hr => first | (go_simp; done) | (go_simp; rfl)); intro gb468 hg w3 hbox hb; have n0_ := Aside0.mk (below_step (by repeat (first | (with_reducible first | exact HB.out | apply below_alloc | apply pw_below_drewN | apply below_drew1) | exact HB.out)) hb); have n1_ := Aside0.mk (hbox); have n2_ := Aside0.mk ((by rw [hg]; exact (below_size (by repeat (first | (with_reducible first | exact HB.out | apply below_alloc | apply pw_below_drewN | apply below_drew1) | exact HB.out))) : w.heap.size ≤ gb468)); have n3_ := Aside0.mk ((by rw [hg]; exact (below_size (by repeat (first | (with_reducible first | exact HB.out | apply below_alloc | apply pw_below_drewN | apply below_drew1) | exact HB.out))) : w.heap.size ≤ gb468)); clear HB; have HB := n0_; have BK468 := n1_; have GW468 := n2_; have GE468 := n3_; clear n0_ n1_ n2_ n3_; clear hb hbox hg))
  go_loopg [5] k (fun kq v5 w' => ∃ (x5_1 : Int), v5 = .int .i64 x5_1 ∧ Aside0 (boundstoneref02_along.l0 kq l0 x5_1 a1_0 a1_1 = some r) ∧ Aside0 (kq ≤ k) ∧ Aside0 (w'.heap[gb468]? = some (.cells #[.int .i64 a1_0, .int .i64 a1_1] 23 (0, 0))) ∧ Aside0 (Below w.heap.size w w'))
  case atStart => exact ⟨(0), (by first | rfl | (simp; done) | (simp [*]; done)), H', ⟨Nat.le_refl _⟩, ⟨by (with_reducible repeat (first | refine blk_drewN ?_ _ | refine blk_drew ?_ | refine blk_alloc ?_ _)); exact BK468.out⟩, ⟨by repeat (first | (with_reducible first | exact HB.out | apply below_alloc | apply pw_below_drewN | apply below_drew1 | refine below_set ?_ GE468.out) | exact HB.out)⟩⟩
  case round =>
    clear H'
    (try clear p2)
    obtain ⟨x5_1, rfl, HA, HK1, BK468, HB⟩ := hrel
    cases gk with
    | zero => exact absurd HA.out (by simp [boundstoneref02_along.l0])
    | succ k1 =>
      have H := HA.out
      clear HA
      simp only [boundstoneref02_along.l0] at H
      by_cases c4 : x5_1 < (l0.length : Int)
      · rw [if_pos c4] at H
        have c4b0 : decide (x5_1 < (l0.length : Int)) = true := decide_eq_true c4
        clear c4
        by_cases c5 : 0 ≤ x5_1
        · rw [if_pos c5] at H
          have c5b0 : decide (0 ≤ x5_1) = true := decide_eq_true c5
          clear c5
          by_cases c6 : (l0.length : Int) = 0
          · rw [if_pos c6] at H
            exact absurd H (by simp)
          · rw [if_neg c6] at H
            have c6b0 : ((l0.length : Int) == 0) = false := beq_eq_false_iff_ne.mpr c6
            have c6b1 : ((l0.length : Int) != 0) = true := bne_iff_ne.mpr c6
            have c6b2 : ¬ (l0 = []) := fun h_ => c6 (by rw [h_]; rfl)
            obtain ⟨ji7, hji7⟩ : ∃ j_ : Int, (Int.tmod (wrap64 (x5_1 + 1)) (l0.length : Int)) = j_ := ⟨_, rfl⟩
            replace H : (if 0 ≤ (ji7) then (if (ji7) < (l0.length : Int) then ((boundstoneref02_on.f ((rd_T23 l0 x5_1).f0) ((rd_T23 l0 x5_1).f1) ((rd_T23 l0 (ji7)).f0) ((rd_T23 l0 (ji7)).f1) a1_0 a1_1).bind fun t471 => (if t471 = true then (some true) else (boundstoneref02_along.l0 k1 l0 (wrap64 (x5_1 + 1)) a1_0 a1_1))) else (none)) else (none)) = some r := by first | (rw [hji7] at H; exact H) | (simp only [hji7] at H ⊢; exact H)
            by_cases c8 : 0 ≤ (ji7)
            · rw [if_pos c8] at H
              have c8b0 : decide (0 ≤ (ji7)) = true := decide_eq_true c8
              clear c8
              by_cases c9 : (ji7) < (l0.length : Int)
              · rw [if_pos c9] at H
                have c9b0 : decide ((ji7) < (l0.length : Int)) = true := decide_eq_true c9
                clear c9
                replace H := Option.bind_eq_some_iff.mp H
                obtain ⟨t471, A100, H⟩ := H
                replace H : (if t471 = true then (some true) else (boundstoneref02_along.l0 k1 l0 (wrap64 (x5_1 + 1)) a1_0 a1_1)) = some r := H
                have A10 := Aside0.mk A100
                clear A100
                by_cases c11 : t471 = true
                · subst c11
                  have H1 : (some true) = some r := by rw [if_pos rfl] at H; exact H
                  clear H
                  have H := H1
                  clear H1
                  obtain rfl := Option.some.inj H
                  try go_wp2
                  have n0_ := Aside0.mk (blk_drew BK468.out)
                  have n1_ := Aside0.mk (below_drew1 HB.out)
                  clear BK468
                  clear HB
                  have BK468 := n0_
                  have HB := n1_
                  clear n0_ n1_
                  have p469 : 0 ≤ (x5_1 : Int) := of_decide_eq_true (by first | (with_reducible assumption) | assumption)
                  have q469 : x5_1 < (l0.length : Int) := of_decide_eq_true (by first | (with_reducible assumption) | assumption)
                  obtain ⟨ad469, e469, hx469_0, hx469_1⟩ := at_T23 HR0.out x5_1 p469 q469
                  have hw469_1 := hx469_1
                  have hw469_0 := hx469_0
                  cases e469
                  replace hx469_0 := (HB.out.cell (World.block_lt_of_cell? w _ hx469_0)).trans hx469_0
                  replace hx469_1 := (HB.out.cell (World.block_lt_of_cell? w _ hx469_1)).trans hx469_1
                  replace p469 := eq_true p469
                  replace q469 := eq_true q469
                  have p470 : 0 ≤ ((ji7) : Int) := of_decide_eq_true (by first | (with_reducible assumption) | assumption)
                  have q470 : (ji7) < (l0.length : Int) := of_decide_eq_true (by first | (with_reducible assumption) | assumption)
                  obtain ⟨ad470, e470, hx470_0, hx470_1⟩ := at_T23 HR0.out (ji7) p470 q470
                  have hw470_1 := hx470_1
                  have hw470_0 := hx470_0
                  obtain rfl : ad469 = ad470 := (by injection e470)
                  replace hx470_0 := (HB.out.cell (World.block_lt_of_cell? w _ hx470_0)).trans hx470_0
                  replace hx470_1 := (HB.out.cell (World.block_lt_of_cell? w _ hx470_1)).trans hx470_1
                  replace p470 := eq_true p470
                  replace q470 := eq_true q470
                  refine start_ (n := 15) (S := fun w' => w'.cell? ⟨gb468, 0, none⟩ = some (.int .i64 a1_0) ∧ w'.cell? ⟨gb468, 1, none⟩ = some (.int .i64 a1_1) ∧ w'.cell? (ad469.add ((x5_1).toNat * 2)) = some (.int .i64 ((rd_T23 l0 x5_1).f0)) ∧ w'.cell? ⟨(ad469.add ((x5_1).toNat * 2)).block, (ad469.add ((x5_1).toNat * 2)).off + 1, none⟩ = some (.int .i64 ((rd_T23 l0 x5_1).f1)) ∧ w'.cell? (ad469.add (((ji7)).toNat * 2)) = some (.int .i64 ((rd_T23 l0 (ji7)).f0)) ∧ w'.cell? ⟨(ad469.add (((ji7)).toNat * 2)).block, (ad469.add (((ji7)).toNat * 2)).off + 1, none⟩ = some (.int .i64 ((rd_T23 l0 (ji7)).f1))) (ds := []) #[false, false, false, false, false, false, false, false, false, false, false, false, false, false, false] (by kernel_rfl) rfl rfl ⟨(blk_cell BK468.out 0).trans rfl, (blk_cell BK468.out 1).trans rfl, ((HB.out.cell (World.block_lt_of_cell? w _ hw469_0)).trans hw469_0), ((HB.out.cell (World.block_lt_of_cell? w _ hw469_1)).trans hw469_1), ((HB.out.cell (World.block_lt_of_cell? w _ hw470_0)).trans hw470_0), ((HB.out.cell (World.block_lt_of_cell? w _ hw470_1)).trans hw470_1)⟩ (fun hHeld => ?_); refine with_tabW boundstoneref02_along.tab4 boundstoneref02_along.bits4 (fun HT_ HW_ => ?_)
                  generalize wr.drew = w12 at BK468 HB hx469_0 hx469_1 hx470_0 hx470_1 hHeld ⊢
                  refine pure_ (i := 0) (N := some 13) (v := ?_) (a' := ?_) #[true, false, false, false, false, false, false, false, false, false, false, false, false, false, false] rfl rfl (any_of HT_.out (by kernel_rfl)) (fun _ _ _ h => h) (Or.inl ⟨by rfl, ?_⟩) ?_ ?_
                  rotate_left
                  · intro w'
                    go_simp
                    with_reducible rfl
                  rotate_left
                  · simp only [Act.put, List.setIfInBounds_toArray, List.set_cons_zero, List.set_cons_succ, i64_w, i32_w]
                    rfl
                  refine pure_ (i := 1) (N := some 14) (v := ?_) (a' := ?_) #[true, true, false, false, false, false, false, false, false, false, false, false, false, false, false] rfl rfl (any_of HT_.out (by kernel_rfl)) (fun _ _ _ h => h) (Or.inl ⟨by rfl, ?_⟩) ?_ ?_
                  rotate_left
                  · intro w'
                    go_simp
                    with_reducible rfl
                  rotate_left
                  · simp only [Act.put, List.setIfInBounds_toArray, List.set_cons_zero, List.set_cons_succ, i64_w, i32_w]
                    rfl
                  refine pure_ (i := 2) (N := some 15) (v := ?_) (a' := ?_) #[true, true, true, false, false, false, false, false, false, false, false, false, false, false, false] rfl rfl (any_of HT_.out (by kernel_rfl)) (fun _ _ _ h => h) (Or.inl ⟨by rfl, ?_⟩) ?_ ?_
                  rotate_left
                  · intro w'
                    go_simp
                    with_reducible rfl
                  rotate_left
                  · simp only [Act.put, List.setIfInBounds_toArray, List.set_cons_zero, List.set_cons_succ, i64_w, i32_w]
                    rfl
                  refine pure_ (i := 4) (N := some 17) (v := ?_) (a' := ?_) #[true, true, true, false, true, false, false, false, false, false, false, false, false, false, false] rfl rfl (any_of HT_.out (by kernel_rfl)) (fun _ _ _ h => h) (Or.inl ⟨by rfl, ?_⟩) ?_ ?_
                  rotate_left
                  · intro w'
                    go_simp
                    with_reducible rfl
                  rotate_left
                  · simp only [Act.put, List.setIfInBounds_toArray, List.set_cons_zero, List.set_cons_succ, i64_w, i32_w]
                    rfl
                  refine pure_ (i := 5) (N := some 18) (v := ?_) (a' := ?_) #[true, true, true, false, true, true, false, false, false, false, false, false, false, false, false] rfl rfl (any_of HT_.out (by kernel_rfl)) (fun _ _ _ h => h) (Or.inl ⟨by rfl, ?_⟩) ?_ ?_
                  rotate_left
                  · intro w'
                    go_simp
                    with_reducible rfl
                  rotate_left
                  · simp only [Act.put, List.setIfInBounds_toArray, List.set_cons_zero, List.set_cons_succ, i64_w, i32_w]
                    rfl
                  refine pure_ (i := 6) (N := some 19) (v := ?_) (a' := ?_) #[true, true, true, false, true, true, true, false, false, false, false, false, false, false, false] rfl rfl (any_of HT_.out (by kernel_rfl)) (fun _ _ _ h => h) (Or.inl ⟨by rfl, ?_⟩) ?_ ?_
                  rotate_left
                  · intro w'
                    go_simp
                    with_reducible rfl
                  rotate_left
                  · simp only [Act.put, List.setIfInBounds_toArray, List.set_cons_zero, List.set_cons_succ, i64_w, i32_w]
                    rfl
                  refine pure_ (i := 7) (N := some 20) (v := ?_) (a' := ?_) #[true, true, true, false, true, true, true, true, false, false, false, false, false, false, false] rfl rfl (any_of HT_.out (by kernel_rfl)) (fun _ _ _ h => h) (Or.inl ⟨by rfl, ?_⟩) ?_ ?_
                  rotate_left
                  · intro w'
                    go_simp
                    with_reducible rfl
                  rotate_left
                  · simp only [Act.put, List.setIfInBounds_toArray, List.set_cons_zero, List.set_cons_succ, i64_w, i32_w]
                    rfl
                  refine pure_ (i := 8) (N := some 21) (v := ?_) (a' := ?_) #[true, true, true, false, true, true, true, true, true, false, false, false, false, false, false] rfl rfl (any_of HT_.out (by kernel_rfl)) (fun _ _ _ h => h) (Or.inl ⟨by rfl, ?_⟩) ?_ ?_
                  rotate_left
                  · intro w'
                    go_simp
                    with_reducible rfl
                  rotate_left
                  · simp only [Act.put, List.setIfInBounds_toArray, List.set_cons_zero, List.set_cons_succ, i64_w, i32_w]
                    rfl
                  refine pure_ (i := 9) (N := some 22) (v := ?_) (a' := ?_) #[true, true, true, false, true, true, true, true, true, true, false, false, false, false, false] rfl rfl (any_of HT_.out (by kernel_rfl)) (fun _ _ _ h => h) (Or.inl ⟨by rfl, ?_⟩) ?_ ?_
                  rotate_left
                  · intro w'
                    go_simp
                    with_reducible rfl
                  rotate_left
                  · simp only [Act.put, List.setIfInBounds_toArray, List.set_cons_zero, List.set_cons_succ, i64_w, i32_w]
                    rfl
                  refine pure_ (i := 10) (N := some 23) (v := ?_) (a' := ?_) #[true, true, true, false, true, true, true, true, true, true, true, false, false, false, false] rfl rfl (any_of HT_.out (by kernel_rfl)) (fun _ _ _ h => h) (Or.inl ⟨by rfl, ?_⟩) ?_ ?_
                  rotate_left
                  · intro w'
                    go_simp
                    with_reducible rfl
                  rotate_left
                  · simp only [Act.put, List.setIfInBounds_toArray, List.set_cons_zero, List.set_cons_succ, i64_w, i32_w]
                    rfl
                  refine take_ (i := 3) (N := some 16) (v := ?_) (a' := ?_) #[true, true, true, true, true, true, true, true, true, true, true, false, false, false, false] rfl rfl (take_ofW HT_.out HW_.out (by kernel_rfl)) (fun _ _ _ h => h) (Or.inl ⟨by rfl, ?_⟩) hHeld ?_ ?_
                  rotate_left
                  · rintro w' ⟨s0, s1, s2, s3, s4, s5⟩
                    go_simp
                    with_reducible rfl
                  rotate_left
                  · simp only [Act.put, List.setIfInBounds_toArray, List.set_cons_zero, List.set_cons_succ, i64_w, i32_w]
                    rfl
                  refine take_ (i := 11) (N := some 24) (v := ?_) (a' := ?_) #[true, true, true, true, true, true, true, true, true, true, true, true, false, false, false] rfl rfl (take_ofW HT_.out HW_.out (by kernel_rfl)) (fun _ _ _ h => h) (Or.inl ⟨by rfl, ?_⟩) hHeld ?_ ?_
                  rotate_left
                  · rintro w' ⟨s0, s1, s2, s3, s4, s5⟩
                    go_simp
                    with_reducible rfl
                  rotate_left
                  · simp only [Act.put, List.setIfInBounds_toArray, List.set_cons_zero, List.set_cons_succ, i64_w, i32_w]
                    rfl
                  refine take_ (i := 12) (N := some 25) (v := ?_) (a' := ?_) #[true, true, true, true, true, true, true, true, true, true, true, true, true, false, false] rfl rfl (take_ofW HT_.out HW_.out (by kernel_rfl)) (fun _ _ _ h => h) (Or.inl ⟨by rfl, ?_⟩) hHeld ?_ ?_
                  rotate_left
                  · rintro w' ⟨s0, s1, s2, s3, s4, s5⟩
                    go_simp
                    with_reducible rfl
                  rotate_left
                  · simp only [Act.put, List.setIfInBounds_toArray, List.set_cons_zero, List.set_cons_succ, i64_w, i32_w]
                    rfl
                  refine one_ (i := 13) (N := some 26) #[true, true, true, true, true, true, true, true, true, true, true, true, true, true, false] rfl rfl (one_of HT_.out (by kernel_rfl)) (by decide) (fun K hK => ?_)
                  refine goes_ Try.func90 (by kernel_rfl) rfl #[.agg #[.int .i64 ((rd_T23 l0 x5_1).f0), .int .i64 ((rd_T23 l0 x5_1).f1)], .agg #[.int .i64 ((rd_T23 l0 (ji7)).f0), .int .i64 ((rd_T23 l0 (ji7)).f1)], .agg #[.int .i64 a1_0, .int .i64 a1_1]] (by rfl) rfl rfl (by (try simp only [List.map_toArray, List.map_cons, List.map_nil]); first | done | (simp only [hji7]; rfl) | rfl | (simp only [List.length_drop, List.length_take]; rfl)) ?_
                  with_reducible refine (boundstoneref02_on.calls ((rd_T23 l0 x5_1).f0) ((rd_T23 l0 x5_1).f1) ((rd_T23 l0 (ji7)).f0) ((rd_T23 l0 (ji7)).f1) a1_0 a1_1 true _ A10.out).mono ?_
                  rintro e w13 ⟨rfl, hb⟩
                  refine ⟨_, rfl, ?_⟩
                  have n0_ := Aside0.mk (blk_below (g := gb468) (o := .cells #[.int .i64 a1_0, .int .i64 a1_1] 23 (0, 0)) (by (with_reducible repeat (first | refine blk_drewN ?_ _ | refine blk_drew ?_ | refine blk_alloc ?_ _)); exact BK468.out) hb)
                  have n1_ := Aside0.mk (below_step (by repeat (first | (with_reducible first | exact HB.out | apply below_alloc | apply pw_below_drewN | apply below_drew1 | refine below_set ?_ GE468.out) | exact HB.out)) hb)
                  clear BK468
                  clear HB
                  have BK468 := n0_
                  have HB := n1_
                  clear n0_ n1_
                  (try clear hb)
                  (try clear hb2)
                  (try clear hk)
                  (try clear hi)
                  refine hK.out _ _ ⟨(blk_cell BK468.out 0).trans rfl, (blk_cell BK468.out 1).trans rfl, ((HB.out.cell (World.block_lt_of_cell? w _ hw469_0)).trans hw469_0), ((HB.out.cell (World.block_lt_of_cell? w _ hw469_1)).trans hw469_1), ((HB.out.cell (World.block_lt_of_cell? w _ hw470_0)).trans hw470_0), ((HB.out.cell (World.block_lt_of_cell? w _ hw470_1)).trans hw470_1)⟩ (fun hHeld => ?_)
                  clear hK K
                  refine norm_ (a' := ?_) ?_ ?_
                  rotate_left
                  · show Act.put _ (some 26) _ = _
                    simp only [Act.put, List.setIfInBounds_toArray, List.set_cons_zero, List.set_cons_succ, i64_w, i32_w]
                    rfl
                  refine pure_ (i := 14) (N := some 6) (v := ?_) (a' := ?_) #[true, true, true, true, true, true, true, true, true, true, true, true, true, true, true] rfl rfl (any_of HT_.out (by kernel_rfl)) (fun _ _ _ h => h) (Or.inl ⟨by rfl, ?_⟩) ?_ ?_
                  rotate_left
                  · intro w'
                    go_simp
                    with_reducible rfl
                  rotate_left
                  · simp only [Act.put, List.setIfInBounds_toArray, List.set_cons_zero, List.set_cons_succ, i64_w, i32_w]
                    rfl
                  refine done_ (done_of HT_.out (by kernel_rfl)) ?_
                  try go_wp2
                  go_ret
                  exact ⟨by first | rfl | (simp [errW_none, errW_some] <;> rfl) | (simp only [← hji7]; first | rfl | (simp [errW_none, errW_some] <;> rfl)) | (simp [*, errW_none, errW_some] <;> rfl), by repeat (first | (with_reducible first | exact HB.out | apply below_alloc | apply pw_below_drewN | apply below_drew1 | refine below_set ?_ GE468.out) | exact HB.out)⟩
                · replace c11 := Bool.eq_false_iff.mpr c11
                  subst c11
                  have H1 : (boundstoneref02_along.l0 k1 l0 (wrap64 (x5_1 + 1)) a1_0 a1_1) = some r := by rw [if_neg (show ¬ (false = true) by decide)] at H; exact H
                  clear H
                  have H := H1
                  clear H1
                  have H' := Aside0.mk H
                  clear H
                  try go_wp2
                  have n0_ := Aside0.mk (blk_drew BK468.out)
                  have n1_ := Aside0.mk (below_drew1 HB.out)
                  clear BK468
                  clear HB
                  have BK468 := n0_
                  have HB := n1_
                  clear n0_ n1_
                  have p469 : 0 ≤ (x5_1 : Int) := of_decide_eq_true (by first | (with_reducible assumption) | assumption)
                  have q469 : x5_1 < (l0.length : Int) := of_decide_eq_true (by first | (with_reducible assumption) | assumption)
                  obtain ⟨ad469, e469, hx469_0, hx469_1⟩ := at_T23 HR0.out x5_1 p469 q469
                  have hw469_1 := hx469_1
                  have hw469_0 := hx469_0
                  cases e469
                  replace hx469_0 := (HB.out.cell (World.block_lt_of_cell? w _ hx469_0)).trans hx469_0
                  replace hx469_1 := (HB.out.cell (World.block_lt_of_cell? w _ hx469_1)).trans hx469_1
                  replace p469 := eq_true p469
                  replace q469 := eq_true q469
                  have p470 : 0 ≤ ((ji7) : Int) := of_decide_eq_true (by first | (with_reducible assumption) | assumption)
                  have q470 : (ji7) < (l0.length : Int) := of_decide_eq_true (by first | (with_reducible assumption) | assumption)
                  obtain ⟨ad470, e470, hx470_0, hx470_1⟩ := at_T23 HR0.out (ji7) p470 q470
                  have hw470_1 := hx470_1
                  have hw470_0 := hx470_0
                  obtain rfl : ad469 = ad470 := (by injection e470)
                  replace hx470_0 := (HB.out.cell (World.block_lt_of_cell? w _ hx470_0)).trans hx470_0
                  replace hx470_1 := (HB.out.cell (World.block_lt_of_cell? w _ hx470_1)).trans hx470_1
                  replace p470 := eq_true p470
                  replace q470 := eq_true q470
                  refine start_ (n := 15) (S := fun w' => w'.cell? ⟨gb468, 0, none⟩ = some (.int .i64 a1_0) ∧ w'.cell? ⟨gb468, 1, none⟩ = some (.int .i64 a1_1) ∧ w'.cell? (ad469.add ((x5_1).toNat * 2)) = some (.int .i64 ((rd_T23 l0 x5_1).f0)) ∧ w'.cell? ⟨(ad469.add ((x5_1).toNat * 2)).block, (ad469.add ((x5_1).toNat * 2)).off + 1, none⟩ = some (.int .i64 ((rd_T23 l0 x5_1).f1)) ∧ w'.cell? (ad469.add (((ji7)).toNat * 2)) = some (.int .i64 ((rd_T23 l0 (ji7)).f0)) ∧ w'.cell? ⟨(ad469.add (((ji7)).toNat * 2)).block, (ad469.add (((ji7)).toNat * 2)).off + 1, none⟩ = some (.int .i64 ((rd_T23 l0 (ji7)).f1))) (ds := []) #[false, false, false, false, false, false, false, false, false, false, false, false, false, false, false] (by kernel_rfl) rfl rfl ⟨(blk_cell BK468.out 0).trans rfl, (blk_cell BK468.out 1).trans rfl, ((HB.out.cell (World.block_lt_of_cell? w _ hw469_0)).trans hw469_0), ((HB.out.cell (World.block_lt_of_cell? w _ hw469_1)).trans hw469_1), ((HB.out.cell (World.block_lt_of_cell? w _ hw470_0)).trans hw470_0), ((HB.out.cell (World.block_lt_of_cell? w _ hw470_1)).trans hw470_1)⟩ (fun hHeld => ?_); refine with_tabW boundstoneref02_along.tab4 boundstoneref02_along.bits4 (fun HT_ HW_ => ?_)
                  generalize wr.drew = w14 at BK468 HB hx469_0 hx469_1 hx470_0 hx470_1 hHeld ⊢
                  refine pure_ (i := 0) (N := some 13) (v := ?_) (a' := ?_) #[true, false, false, false, false, false, false, false, false, false, false, false, false, false, false] rfl rfl (any_of HT_.out (by kernel_rfl)) (fun _ _ _ h => h) (Or.inl ⟨by rfl, ?_⟩) ?_ ?_
                  rotate_left
                  · intro w'
                    go_simp
                    with_reducible rfl
                  rotate_left
                  · simp only [Act.put, List.setIfInBounds_toArray, List.set_cons_zero, List.set_cons_succ, i64_w, i32_w]
                    rfl
                  refine pure_ (i := 1) (N := some 14) (v := ?_) (a' := ?_) #[true, true, false, false, false, false, false, false, false, false, false, false, false, false, false] rfl rfl (any_of HT_.out (by kernel_rfl)) (fun _ _ _ h => h) (Or.inl ⟨by rfl, ?_⟩) ?_ ?_
                  rotate_left
                  · intro w'
                    go_simp
                    with_reducible rfl
                  rotate_left
                  · simp only [Act.put, List.setIfInBounds_toArray, List.set_cons_zero, List.set_cons_succ, i64_w, i32_w]
                    rfl
                  refine pure_ (i := 2) (N := some 15) (v := ?_) (a' := ?_) #[true, true, true, false, false, false, false, false, false, false, false, false, false, false, false] rfl rfl (any_of HT_.out (by kernel_rfl)) (fun _ _ _ h => h) (Or.inl ⟨by rfl, ?_⟩) ?_ ?_
                  rotate_left
                  · intro w'
                    go_simp
                    with_reducible rfl
                  rotate_left
                  · simp only [Act.put, List.setIfInBounds_toArray, List.set_cons_zero, List.set_cons_succ, i64_w, i32_w]
                    rfl
                  refine pure_ (i := 4) (N := some 17) (v := ?_) (a' := ?_) #[true, true, true, false, true, false, false, false, false, false, false, false, false, false, false] rfl rfl (any_of HT_.out (by kernel_rfl)) (fun _ _ _ h => h) (Or.inl ⟨by rfl, ?_⟩) ?_ ?_
                  rotate_left
                  · intro w'
                    go_simp
                    with_reducible rfl
                  rotate_left
                  · simp only [Act.put, List.setIfInBounds_toArray, List.set_cons_zero, List.set_cons_succ, i64_w, i32_w]
                    rfl
                  refine pure_ (i := 5) (N := some 18) (v := ?_) (a' := ?_) #[true, true, true, false, true, true, false, false, false, false, false, false, false, false, false] rfl rfl (any_of HT_.out (by kernel_rfl)) (fun _ _ _ h => h) (Or.inl ⟨by rfl, ?_⟩) ?_ ?_
                  rotate_left
                  · intro w'
                    go_simp
                    with_reducible rfl
                  rotate_left
                  · simp only [Act.put, List.setIfInBounds_toArray, List.set_cons_zero, List.set_cons_succ, i64_w, i32_w]
                    rfl
                  refine pure_ (i := 6) (N := some 19) (v := ?_) (a' := ?_) #[true, true, true, false, true, true, true, false, false, false, false, false, false, false, false] rfl rfl (any_of HT_.out (by kernel_rfl)) (fun _ _ _ h => h) (Or.inl ⟨by rfl, ?_⟩) ?_ ?_
                  rotate_left
                  · intro w'
                    go_simp
                    with_reducible rfl
                  rotate_left
                  · simp only [Act.put, List.setIfInBounds_toArray, List.set_cons_zero, List.set_cons_succ, i64_w, i32_w]
                    rfl
                  refine pure_ (i := 7) (N := some 20) (v := ?_) (a' := ?_) #[true, true, true, false, true, true, true, true, false, false, false, false, false, false, false] rfl rfl (any_of HT_.out (by kernel_rfl)) (fun _ _ _ h => h) (Or.inl ⟨by rfl, ?_⟩) ?_ ?_
                  rotate_left
                  · intro w'
                    go_simp
                    with_reducible rfl
                  rotate_left
                  · simp only [Act.put, List.setIfInBounds_toArray, List.set_cons_zero, List.set_cons_succ, i64_w, i32_w]
                    rfl
                  refine pure_ (i := 8) (N := some 21) (v := ?_) (a' := ?_) #[true, true, true, false, true, true, true, true, true, false, false, false, false, false, false] rfl rfl (any_of HT_.out (by kernel_rfl)) (fun _ _ _ h => h) (Or.inl ⟨by rfl, ?_⟩) ?_ ?_
                  rotate_left
                  · intro w'
                    go_simp
                    with_reducible rfl
                  rotate_left
                  · simp only [Act.put, List.setIfInBounds_toArray, List.set_cons_zero, List.set_cons_succ, i64_w, i32_w]
                    rfl
                  refine pure_ (i := 9) (N := some 22) (v := ?_) (a' := ?_) #[true, true, true, false, true, true, true, true, true, true, false, false, false, false, false] rfl rfl (any_of HT_.out (by kernel_rfl)) (fun _ _ _ h => h) (Or.inl ⟨by rfl, ?_⟩) ?_ ?_
                  rotate_left
                  · intro w'
                    go_simp
                    with_reducible rfl
                  rotate_left
                  · simp only [Act.put, List.setIfInBounds_toArray, List.set_cons_zero, List.set_cons_succ, i64_w, i32_w]
                    rfl
                  refine pure_ (i := 10) (N := some 23) (v := ?_) (a' := ?_) #[true, true, true, false, true, true, true, true, true, true, true, false, false, false, false] rfl rfl (any_of HT_.out (by kernel_rfl)) (fun _ _ _ h => h) (Or.inl ⟨by rfl, ?_⟩) ?_ ?_
                  rotate_left
                  · intro w'
                    go_simp
                    with_reducible rfl
                  rotate_left
                  · simp only [Act.put, List.setIfInBounds_toArray, List.set_cons_zero, List.set_cons_succ, i64_w, i32_w]
                    rfl
                  refine take_ (i := 3) (N := some 16) (v := ?_) (a' := ?_) #[true, true, true, true, true, true, true, true, true, true, true, false, false, false, false] rfl rfl (take_ofW HT_.out HW_.out (by kernel_rfl)) (fun _ _ _ h => h) (Or.inl ⟨by rfl, ?_⟩) hHeld ?_ ?_
                  rotate_left
                  · rintro w' ⟨s0, s1, s2, s3, s4, s5⟩
                    go_simp
                    with_reducible rfl
                  rotate_left
                  · simp only [Act.put, List.setIfInBounds_toArray, List.set_cons_zero, List.set_cons_succ, i64_w, i32_w]
                    rfl
                  refine take_ (i := 11) (N := some 24) (v := ?_) (a' := ?_) #[true, true, true, true, true, true, true, true, true, true, true, true, false, false, false] rfl rfl (take_ofW HT_.out HW_.out (by kernel_rfl)) (fun _ _ _ h => h) (Or.inl ⟨by rfl, ?_⟩) hHeld ?_ ?_
                  rotate_left
                  · rintro w' ⟨s0, s1, s2, s3, s4, s5⟩
                    go_simp
                    with_reducible rfl
                  rotate_left
                  · simp only [Act.put, List.setIfInBounds_toArray, List.set_cons_zero, List.set_cons_succ, i64_w, i32_w]
                    rfl
                  refine take_ (i := 12) (N := some 25) (v := ?_) (a' := ?_) #[true, true, true, true, true, true, true, true, true, true, true, true, true, false, false] rfl rfl (take_ofW HT_.out HW_.out (by kernel_rfl)) (fun _ _ _ h => h) (Or.inl ⟨by rfl, ?_⟩) hHeld ?_ ?_
                  rotate_left
                  · rintro w' ⟨s0, s1, s2, s3, s4, s5⟩
                    go_simp
                    with_reducible rfl
                  rotate_left
                  · simp only [Act.put, List.setIfInBounds_toArray, List.set_cons_zero, List.set_cons_succ, i64_w, i32_w]
                    rfl
                  refine one_ (i := 13) (N := some 26) #[true, true, true, true, true, true, true, true, true, true, true, true, true, true, false] rfl rfl (one_of HT_.out (by kernel_rfl)) (by decide) (fun K hK => ?_)
                  refine goes_ Try.func90 (by kernel_rfl) rfl #[.agg #[.int .i64 ((rd_T23 l0 x5_1).f0), .int .i64 ((rd_T23 l0 x5_1).f1)], .agg #[.int .i64 ((rd_T23 l0 (ji7)).f0), .int .i64 ((rd_T23 l0 (ji7)).f1)], .agg #[.int .i64 a1_0, .int .i64 a1_1]] (by rfl) rfl rfl (by (try simp only [List.map_toArray, List.map_cons, List.map_nil]); first | done | (simp only [hji7]; rfl) | rfl | (simp only [List.length_drop, List.length_take]; rfl)) ?_
                  with_reducible refine (boundstoneref02_on.calls ((rd_T23 l0 x5_1).f0) ((rd_T23 l0 x5_1).f1) ((rd_T23 l0 (ji7)).f0) ((rd_T23 l0 (ji7)).f1) a1_0 a1_1 false _ A10.out).mono ?_
                  rintro e w15 ⟨rfl, hb⟩
                  refine ⟨_, rfl, ?_⟩
                  have n0_ := Aside0.mk (blk_below (g := gb468) (o := .cells #[.int .i64 a1_0, .int .i64 a1_1] 23 (0, 0)) (by (with_reducible repeat (first | refine blk_drewN ?_ _ | refine blk_drew ?_ | refine blk_alloc ?_ _)); exact BK468.out) hb)
                  have n1_ := Aside0.mk (below_step (by repeat (first | (with_reducible first | exact HB.out | apply below_alloc | apply pw_below_drewN | apply below_drew1 | refine below_set ?_ GE468.out) | exact HB.out)) hb)
                  clear BK468
                  clear HB
                  have BK468 := n0_
                  have HB := n1_
                  clear n0_ n1_
                  (try clear hb)
                  (try clear hb2)
                  (try clear hk)
                  (try clear hi)
                  refine hK.out _ _ ⟨(blk_cell BK468.out 0).trans rfl, (blk_cell BK468.out 1).trans rfl, ((HB.out.cell (World.block_lt_of_cell? w _ hw469_0)).trans hw469_0), ((HB.out.cell (World.block_lt_of_cell? w _ hw469_1)).trans hw469_1), ((HB.out.cell (World.block_lt_of_cell? w _ hw470_0)).trans hw470_0), ((HB.out.cell (World.block_lt_of_cell? w _ hw470_1)).trans hw470_1)⟩ (fun hHeld => ?_)
                  clear hK K
                  refine norm_ (a' := ?_) ?_ ?_
                  rotate_left
                  · show Act.put _ (some 26) _ = _
                    simp only [Act.put, List.setIfInBounds_toArray, List.set_cons_zero, List.set_cons_succ, i64_w, i32_w]
                    rfl
                  refine pure_ (i := 14) (N := some 6) (v := ?_) (a' := ?_) #[true, true, true, true, true, true, true, true, true, true, true, true, true, true, true] rfl rfl (any_of HT_.out (by kernel_rfl)) (fun _ _ _ h => h) (Or.inl ⟨by rfl, ?_⟩) ?_ ?_
                  rotate_left
                  · intro w'
                    go_simp
                    with_reducible rfl
                  rotate_left
                  · simp only [Act.put, List.setIfInBounds_toArray, List.set_cons_zero, List.set_cons_succ, i64_w, i32_w]
                    rfl
                  refine done_ (done_of HT_.out (by kernel_rfl)) ?_
                  try go_wp2
                  go_roundg k1
                  case measure => have := HK1.out; omega
                  case rel => exact ⟨(wrap64 (x5_1 + 1)), (by first | rfl | (simp; done) | (simp [*]; done)), H', ⟨by have := HK1.out; omega⟩, ⟨by (with_reducible repeat (first | refine blk_drewN ?_ _ | refine blk_drew ?_ | refine blk_alloc ?_ _)); exact BK468.out⟩, ⟨by repeat (first | (with_reducible first | exact HB.out | apply below_alloc | apply pw_below_drewN | apply below_drew1 | refine below_set ?_ GE468.out) | exact HB.out)⟩⟩
              · rw [if_neg c9] at H
                exact absurd H (by simp)
            · rw [if_neg c8] at H
              exact absurd H (by simp)
        · rw [if_neg c5] at H
          exact absurd H (by simp)
      · rw [if_neg c4] at H
        have c4b0 : decide (x5_1 < (l0.length : Int)) = false := decide_eq_false c4
        clear c4
        obtain rfl := Option.some.inj H
        go_wp2
        go_ret
        exact ⟨by first | rfl | (simp [errW_none, errW_some] <;> rfl) | (simp [*, errW_none, errW_some] <;> rfl), by repeat (first | (with_reducible first | exact HB.out | apply below_alloc | apply pw_below_drewN | apply below_drew1 | refine below_set ?_ GE468.out) | exact HB.out)⟩
end Go.Proofs.Ytckaejgamfllfaa.G
end

section
namespace Go.Proofs.Ytckaejgamfllfaa.G
open Go.RowKit Go.Proofs.YtckaejgamfllfaaW.PrintWords Go.Proofs.YtckaejgamfllfaaW.PrintLast Go.Proofs.YtckaejgamfllfaaW.PrintMore
attribute [local go_sem] max2_int min2_int max_two min_two max_three min_three max_four min_four
set_option linter.unusedVariables false
set_option linter.unusedSimpArgs false
end Go.Proofs.Ytckaejgamfllfaa.G
end

section
namespace Go.Proofs.Ytckaejgamfllfaa.G
open Go.RowKit Go.Proofs.YtckaejgamfllfaaW.PrintWords Go.Proofs.YtckaejgamfllfaaW.PrintLast Go.Proofs.YtckaejgamfllfaaW.PrintMore
attribute [local go_sem] max2_int min2_int max_two min_two max_three min_three max_four min_four
set_option linter.unusedVariables false
set_option linter.unusedSimpArgs false
def boundstoneref02_where.f (k : Nat) (l0 : List (S23)) (a1_0 : Int) (a1_1 : Int) : Option (Int) := (boundstoneref02_along.f k l0 a1_0 a1_1).bind fun t485 => (if t485 = true then (some 0) else ((boundstoneref02_winding.f k l0 a1_0 a1_1).bind fun t486 => (if t486 = 0 then (some (-1)) else (some 1))))
set_option maxHeartbeats 8000000 in
set_option maxRecDepth 100000 in
theorem boundstoneref02_where.calls (k : Nat) (A0 : Option Addr) (c0 : Nat) (l0 : List (S23)) (a1_0 : Int) (a1_1 : Int) (r : Int) (w : World) (hr0 : Kd.C k23 w A0 l0.length l0) (hc0 : l0.length ≤ c0) (h : boundstoneref02_where.f k l0 a1_0 a1_1 = some r) :
    Calls Try.prog 102 #[.slice A0 l0.length c0, .agg #[.int .i64 a1_0, .int .i64 a1_1]] w fun e w' => e = .returned (.int .i64 r) ∧ Below w.heap.size w w' := by
  have hu23 := Try.underlying23
  have HR0 := Aside0.mk hr0
  have HC0 := Aside0.mk hc0
  clear hr0 hc0
  have HB := Aside0.mk (Below.refl w.heap.size w)
  have H : ((boundstoneref02_along.f k l0 a1_0 a1_1).bind fun t485 => (if t485 = true then (some 0) else ((boundstoneref02_winding.f k l0 a1_0 a1_1).bind fun t486 => (if t486 = 0 then (some (-1)) else (some 1))))) = some r := h
  clear h
  replace H := Option.bind_eq_some_iff.mp H
  obtain ⟨t485, A30, H⟩ := H
  replace H : (if t485 = true then (some 0) else ((boundstoneref02_winding.f k l0 a1_0 a1_1).bind fun t486 => (if t486 = 0 then (some (-1)) else (some 1)))) = some r := H
  have A3 := Aside0.mk A30
  clear A30
  by_cases c4 : t485 = true
  · subst c4
    have H1 : (some 0) = some r := by rw [if_pos rfl] at H; exact H
    clear H
    have H := H1
    clear H1
    obtain rfl := Option.some.inj H
    go_enter Try.func102, Try.ntmps102
    go_wp2_with (first | ((with_reducible refine gate_dst (N := 3) rfl ?_); refine box_event ?hg (N := 3) ?hd (cs := #[.int .i64 a1_0, .int .i64 a1_1]) (t := 23) ?hr ?_; (case hd => rfl); (case hg => rfl); (case hr => first | (go_simp; done) | (go_simp; rfl)); intro gb484 hg w5 hbox hb; have n0_ := Aside0.mk (below_step (by repeat (first | (with_reducible first | exact HB.out | apply below_alloc | apply pw_below_drewN | apply below_drew1) | exact HB.out)) hb); have n1_ := Aside0.mk (hbox); have n2_ := Aside0.mk ((by rw [hg]; exact (below_size (by repeat (first | (with_reducible first | exact HB.out | apply below_alloc | apply pw_below_drewN | apply below_drew1) | exact HB.out))) : w.heap.size ≤ gb484)); have n3_ := Aside0.mk ((by rw [hg]; exact (below_size (by repeat (first | (with_reducible first | exact HB.out | apply below_alloc | apply pw_below_drewN | apply below_drew1) | exact HB.out))) : w.heap.size ≤ gb484)); clear HB; have HB := n0_; have BK484 := n1_; have GW484 := n2_; have GE484 := n3_; clear n0_ n1_ n2_ n3_; clear hb hbox hg; have hcz6_0 : w5.cell? ⟨gb484, 0, none⟩ = some (.int .i64 a1_0) := (blk_cell BK484.out 0).trans rfl; have hcz6_1 : w5.cell? ⟨gb484, 1, none⟩ = some (.int .i64 a1_1) := (blk_cell BK484.out 1).trans rfl; have hfz6_0 := blk_frozen BK484.out 0; have hfz6_1 := blk_frozen BK484.out 1) | ((with_reducible refine gate_callee (f := 99) rfl ?_); refine goesL_ (some 8) rfl rfl Try.func99 (by kernel_rfl) rfl #[.slice A0 l0.length c0, .agg #[.int .i64 a1_0, .int .i64 a1_1]] rfl (by (try simp only [List.map_toArray, List.map_cons, List.map_nil]); first | done | rfl | (simp only [List.length_drop, List.length_take]; rfl)) ?_; (with_reducible refine (boundstoneref02_along.calls k _ _ l0 a1_0 a1_1 true _ ?side1 ?side2 A3.out).mono ?_); (case side1 => repeat (first | exact (Kd.C_below HR0.out HB.out) | (with_reducible refine Kd.C_alloc ?_ _) | (with_reducible refine Kd.C_drewN ?_ _) | (with_reducible refine Kd.C_drew ?_))); (case side2 => exact HC0.out); rintro e w7 ⟨rfl, hb⟩; refine ⟨_, rfl, ?_⟩; have n0_ := Aside0.mk (blk_below (g := gb484) (o := .cells #[.int .i64 a1_0, .int .i64 a1_1] 23 (0, 0)) (by (with_reducible repeat (first | refine blk_drewN ?_ _ | refine blk_drew ?_ | refine blk_alloc ?_ _)); exact BK484.out) hb); have n1_ := Aside0.mk (below_step (by repeat (first | (with_reducible first | exact HB.out | apply below_alloc | apply pw_below_drewN | apply below_drew1 | refine below_set ?_ GE484.out) | exact HB.out)) hb); clear BK484; clear HB; have BK484 := n0_; have HB := n1_; clear n0_ n1_; (try clear hb); (try clear hb2); (try clear hk); (try clear hi)))
    go_ret
    exact ⟨by first | rfl | (simp [errW_none, errW_some] <;> rfl) | (simp [*, errW_none, errW_some] <;> rfl), by repeat (first | (with_reducible first | exact HB.out | apply below_alloc | apply pw_below_drewN | apply below_drew1 | refine below_set ?_ GE484.out) | exact HB.out)⟩
  · replace c4 := Bool.eq_false_iff.mpr c4
    subst c4
    have H1 : ((boundstoneref02_winding.f k l0 a1_0 a1_1).bind fun t486 => (if t486 = 0 then (some (-1)) else (some 1))) = some r := by rw [if_neg (show ¬ (false = true) by decide)] at H; exact H
    clear H
    have H := H1
    clear H1
    replace H := Option.bind_eq_some_iff.mp H
    obtain ⟨t486, A80, H⟩ := H
    replace H : (if t486 = 0 then (some (-1)) else (some 1)) = some r := H
    have A8 := Aside0.mk A80
    clear A80
    by_cases c9 : t486 = 0
    · rw [if_pos c9] at H
      have c9b0 : (t486 == 0) = true := beq_iff_eq.mpr c9
      have c9b1 : (t486 != 0) = false := bne_eq_false_iff_eq.mpr c9
      clear c9
      obtain rfl := Option.some.inj H
      go_enter Try.func102, Try.ntmps102
      go_wp2_with (first | ((with_reducible refine gate_dst (N := 3) rfl ?_); refine box_event ?hg (N := 3) ?hd (cs := #[.int .i64 a1_0, .int .i64 a1_1]) (t := 23) ?hr ?_; (case hd => rfl); (case hg => rfl); (case hr => first | (go_simp; done) | (go_simp; rfl)); intro gb484 hg w10 hbox hb; have n0_ := Aside0.mk (below_step (by repeat (first | (with_reducible first | exact HB.out | apply below_alloc | apply pw_below_drewN | apply below_drew1) | exact HB.out)) hb); have n1_ := Aside0.mk (hbox); have n2_ := Aside0.mk ((by rw [hg]; exact (below_size (by repeat (first | (with_reducible first | exact HB.out | apply below_alloc | apply pw_below_drewN | apply below_drew1) | exact HB.out))) : w.heap.size ≤ gb484)); have n3_ := Aside0.mk ((by rw [hg]; exact (below_size (by repeat (first | (with_reducible first | exact HB.out | apply below_alloc | apply pw_below_drewN | apply below_drew1) | exact HB.out))) : w.heap.size ≤ gb484)); clear HB; have HB := n0_; have BK484 := n1_; have GW484 := n2_; have GE484 := n3_; clear n0_ n1_ n2_ n3_; clear hb hbox hg; have hcz11_0 : w10.cell? ⟨gb484, 0, none⟩ = some (.int .i64 a1_0) := (blk_cell BK484.out 0).trans rfl; have hcz11_1 : w10.cell? ⟨gb484, 1, none⟩ = some (.int .i64 a1_1) := (blk_cell BK484.out 1).trans rfl; have hfz11_0 := blk_frozen BK484.out 0; have hfz11_1 := blk_frozen BK484.out 1) | ((with_reducible refine gate_callee (f := 99) rfl ?_); refine goesL_ (some 8) rfl rfl Try.func99 (by kernel_rfl) rfl #[.slice A0 l0.length c0, .agg #[.int .i64 a1_0, .int .i64 a1_1]] rfl (by (try simp only [List.map_toArray, List.map_cons, List.map_nil]); first | done | rfl | (simp only [List.length_drop, List.length_take]; rfl)) ?_; (with_reducible refine (boundstoneref02_along.calls k _ _ l0 a1_0 a1_1 false _ ?side1 ?side2 A3.out).mono ?_); (case side1 => repeat (first | exact (Kd.C_below HR0.out HB.out) | (with_reducible refine Kd.C_alloc ?_ _) | (with_reducible refine Kd.C_drewN ?_ _) | (with_reducible refine Kd.C_drew ?_))); (case side2 => exact HC0.out); rintro e w12 ⟨rfl, hb⟩; refine ⟨_, rfl, ?_⟩; have n0_ := Aside0.mk (blk_below (g := gb484) (o := .cells #[.int .i64 a1_0, .int .i64 a1_1] 23 (0, 0)) (by (with_reducible repeat (first | refine blk_drewN ?_ _ | refine blk_drew ?_ | refine blk_alloc ?_ _)); exact BK484.out) hb); have n1_ := Aside0.mk (below_step (by repeat (first | (with_reducible first | exact HB.out | apply below_alloc | apply pw_below_drewN | apply below_drew1 | refine below_set ?_ GE484.out) | exact HB.out)) hb); clear BK484; clear HB; have BK484 := n0_; have HB := n1_; clear n0_ n1_; (try clear hb); (try clear hb2); (try clear hk); (try clear hi); have hcz13_0 : w12.cell? ⟨gb484, 0, none⟩ = some (.int .i64 a1_0) := (blk_cell BK484.out 0).trans rfl; have hcz13_1 : w12.cell? ⟨gb484, 1, none⟩ = some (.int .i64 a1_1) := (blk_cell BK484.out 1).trans rfl; have hfz13_0 := blk_frozen BK484.out 0; have hfz13_1 := blk_frozen BK484.out 1) | ((with_reducible refine gate_callee (f := 100) rfl ?_); refine goesL_ (some 12) rfl rfl Try.func100 (by kernel_rfl) rfl #[.slice A0 l0.length c0, .agg #[.int .i64 a1_0, .int .i64 a1_1]] rfl (by (try simp only [List.map_toArray, List.map_cons, List.map_nil]); first | done | rfl | (simp only [List.length_drop, List.length_take]; rfl)) ?_; (with_reducible refine (boundstoneref02_winding.calls k _ _ l0 a1_0 a1_1 t486 _ ?side1 ?side2 A8.out).mono ?_); (case side1 => repeat (first | exact (Kd.C_below HR0.out HB.out) | (with_reducible refine Kd.C_alloc ?_ _) | (with_reducible refine Kd.C_drewN ?_ _) | (with_reducible refine Kd.C_drew ?_))); (case side2 => exact HC0.out); rintro e w14 ⟨rfl, hb⟩; refine ⟨_, rfl, ?_⟩; have n0_ := Aside0.mk (blk_below (g := gb484) (o := .cells #[.int .i64 a1_0, .int .i64 a1_1] 23 (0, 0)) (by (with_reducible repeat (first | refine blk_drewN ?_ _ | refine blk_drew ?_ | refine blk_alloc ?_ _)); exact BK484.out) hb); have n1_ := Aside0.mk (below_step (by repeat (first | (with_reducible first | exact HB.out | apply below_alloc | apply pw_below_drewN | apply below_drew1 | refine below_set ?_ GE484.out) | exact HB.out)) hb); clear BK484; clear HB; have BK484 := n0_; have HB := n1_; clear n0_ n1_; (try clear hb); (try clear hb2); (try clear hk); (try clear hi)))
      go_ret
      exact ⟨by first | rfl | (simp [errW_none, errW_some] <;> rfl) | (simp [*, errW_none, errW_some] <;> rfl), by repeat (first | (with_reducible first | exact HB.out | apply below_alloc | apply pw_below_drewN | apply below_drew1 | refine below_set ?_ GE484.out) | exact HB.out)⟩
    · rw [if_neg c9] at H
      have c9b0 : (t486 == 0) = false := beq_eq_false_iff_ne.mpr c9
      have c9b1 : (t486 != 0) = true := bne_iff_ne.mpr c9
      obtain rfl := Option.some.inj H
      go_enter Try.func102, Try.ntmps102
      go_wp2_with (first | ((with_reducible refine gate_dst (N := 3) rfl ?_); refine box_event ?hg (N := 3) ?hd (cs := #[.int .i64 a1_0, .int .i64 a1_1]) (t := 23) ?hr ?_; (case hd => rfl); (case hg => rfl); (case hr => first | (go_simp; done) | (go_simp; rfl)); intro gb484 hg w15 hbox hb; have n0_ := Aside0.mk (below_step (by repeat (first | (with_reducible first | exact HB.out | apply below_alloc | apply pw_below_drewN | apply below_drew1) | exact HB.out)) hb); have n1_ := Aside0.mk (hbox); have n2_ := Aside0.mk ((by rw [hg]; exact (below_size (by repeat (first | (with_reducible first | exact HB.out | apply below_alloc | apply pw_below_drewN | apply below_drew1) | exact HB.out))) : w.heap.size ≤ gb484)); have n3_ := Aside0.mk ((by rw [hg]; exact (below_size (by repeat (first | (with_reducible first | exact HB.out | apply below_alloc | apply pw_below_drewN | apply below_drew1) | exact HB.out))) : w.heap.size ≤ gb484)); clear HB; have HB := n0_; have BK484 := n1_; have GW484 := n2_; have GE484 := n3_; clear n0_ n1_ n2_ n3_; clear hb hbox hg; have hcz16_0 : w15.cell? ⟨gb484, 0, none⟩ = some (.int .i64 a1_0) := (blk_cell BK484.out 0).trans rfl; have hcz16_1 : w15.cell? ⟨gb484, 1, none⟩ = some (.int .i64 a1_1) := (blk_cell BK484.out 1).trans rfl; have hfz16_0 := blk_frozen BK484.out 0; have hfz16_1 := blk_frozen BK484.out 1) | ((with_reducible refine gate_callee (f := 99) rfl ?_); refine goesL_ (some 8) rfl rfl Try.func99 (by kernel_rfl) rfl #[.slice A0 l0.length c0, .agg #[.int .i64 a1_0, .int .i64 a1_1]] rfl (by (try simp only [List.map_toArray, List.map_cons, List.map_nil]); first | done | rfl | (simp only [List.length_drop, List.length_take]; rfl)) ?_; (with_reducible refine (boundstoneref02_along.calls k _ _ l0 a1_0 a1_1 false _ ?side1 ?side2 A3.out).mono ?_); (case side1 => repeat (first | exact (Kd.C_below HR0.out HB.out) | (with_reducible refine Kd.C_alloc ?_ _) | (with_reducible refine Kd.C_drewN ?_ _) | (with_reducible refine Kd.C_drew ?_))); (case side2 => exact HC0.out); rintro e w17 ⟨rfl, hb⟩; refine ⟨_, rfl, ?_⟩; have n0_ := Aside0.mk (blk_below (g := gb484) (o := .cells #[.int .i64 a1_0, .int .i64 a1_1] 23 (0, 0)) (by (with_reducible repeat (first | refine blk_drewN ?_ _ | refine blk_drew ?_ | refine blk_alloc ?_ _)); exact BK484.out) hb); have n1_ := Aside0.mk (below_step (by repeat (first | (with_reducible first | exact HB.out | apply below_alloc | apply pw_below_drewN | apply below_drew1 | refine below_set ?_ GE484.out) | exact HB.out)) hb); clear BK484; clear HB; have BK484 := n0_; have HB := n1_; clear n0_ n1_; (try clear hb); (try clear hb2); (try clear hk); (try clear hi); have hcz18_0 : w17.cell? ⟨gb484, 0, none⟩ = some (.int .i64 a1_0) := (blk_cell BK484.out 0).trans rfl; have hcz18_1 : w17.cell? ⟨gb484, 1, none⟩ = some (.int .i64 a1_1) := (blk_cell BK484.out 1).trans rfl; have hfz18_0 := blk_frozen BK484.out 0; have hfz18_1 := blk_frozen BK484.out 1) | ((with_reducible refine gate_callee (f := 100) rfl ?_); refine goesL_ (some 12) rfl rfl Try.func100 (by kernel_rfl) rfl #[.slice A0 l0.length c0, .agg #[.int .i64 a1_0, .int .i64 a1_1]] rfl (by (try simp only [List.map_toArray, List.map_cons, List.map_nil]); first | done | rfl | (simp only [List.length_drop, List.length_take]; rfl)) ?_; (with_reducible refine (boundstoneref02_winding.calls k _ _ l0 a1_0 a1_1 t486 _ ?side1 ?side2 A8.out).mono ?_); (case side1 => repeat (first | exact (Kd.C_below HR0.out HB.out) | (with_reducible refine Kd.C_alloc ?_ _) | (with_reducible refine Kd.C_drewN ?_ _) | (with_reducible refine Kd.C_drew ?_))); (case side2 => exact HC0.out); rintro e w19 ⟨rfl, hb⟩; refine ⟨_, rfl, ?_⟩; have n0_ := Aside0.mk (blk_below (g := gb484) (o := .cells #[.int .i64 a1_0, .int .i64 a1_1] 23 (0, 0)) (by (with_reducible repeat (first | refine blk_drewN ?_ _ | refine blk_drew ?_ | refine blk_alloc ?_ _)); exact BK484.out) hb); have n1_ := Aside0.mk (below_step (by repeat (first | (with_reducible first | exact HB.out | apply below_alloc | apply pw_below_drewN | apply below_drew1 | refine below_set ?_ GE484.out) | exact HB.out)) hb); clear BK484; clear HB; have BK484 := n0_; have HB := n1_; clear n0_ n1_; (try clear hb); (try clear hb2); (try clear hk); (try clear hi)))
      go_ret
      exact ⟨by first | rfl | (simp [errW_none, errW_some] <;> rfl) | (simp [*, errW_none, errW_some] <;> rfl), by repeat (first | (with_reducible first | exact HB.out | apply below_alloc | apply pw_below_drewN | apply below_drew1 | refine below_set ?_ GE484.out) | exact HB.out)⟩
end Go.Proofs.Ytckaejgamfllfaa.G
end

section
namespace Go.Proofs.Ytckaejgamfllfaa.G
open Go.RowKit Go.Proofs.YtckaejgamfllfaaW.PrintWords Go.Proofs.YtckaejgamfllfaaW.PrintLast Go.Proofs.YtckaejgamfllfaaW.PrintMore
attribute [local go_sem] max2_int min2_int max_two min_two max_three min_three max_four min_four
set_option linter.unusedVariables false
set_option linter.unusedSimpArgs false
end Go.Proofs.Ytckaejgamfllfaa.G
end

section
namespace Go.Proofs.Ytckaejgamfllfaa.G
set_option linter.unusedSimpArgs false
open Go.RowKit Go.Proofs.YtckaejgamfllfaaW.PrintWords Go.Proofs.YtckaejgamfllfaaW.PrintLast Go.Proofs.YtckaejgamfllfaaW.PrintMore
theorem rd_getD (l : List S23) (i : Nat) : rd_T23 l (i : Int) = l.getD i z23 := by
  unfold rd_T23; simp [z23]
theorem tmod_nat (a n : Nat) : Int.tmod (a : Int) (n : Int) = ((a % n : Nat) : Int) := by
  exact (Int.ofNat_tmod a n).symm
theorem edges_drop (l : List S23) {i : Nat} (h : i < l.length) : (edgesTo l l.length).drop i = edgeAt l i :: (edgesTo l l.length).drop (i + 1) := by
  have hl : i < (edgesTo l l.length).length := by rw [edgesTo_length]; exact h
  rw [List.drop_eq_getElem_cons hl]
  simp [edgesTo]
theorem edges_end (l : List S23) {i : Nat} (h : l.length ≤ i) : (edgesTo l l.length).drop i = [] := by
  rw [List.drop_eq_nil_iff, edgesTo_length]; exact h
theorem round_facts (l : List S23) (hl : l.length ≤ 1000) {i : Nat} (h : i < l.length) :
    wrap64 ((i : Int) + 1) = ((i + 1 : Nat) : Int) ∧ Int.tmod (((i + 1 : Nat) : Int)) (l.length : Int) = (((i + 1) % l.length : Nat) : Int) ∧
    (0 : Int) ≤ (((i + 1) % l.length : Nat) : Int) ∧ (((i + 1) % l.length : Nat) : Int) < (l.length : Int) ∧ ((l.length : Int) = 0) = False ∧ ((i : Int) < (l.length : Int)) = True ∧ ((0 : Int) ≤ (i : Int)) = True := by
  refine ⟨by rw [wrap_small (by omega) (by omega)]; simp, tmod_nat _ _, by omega, ?_, ?_, ?_, ?_⟩
  · have := Nat.mod_lt (i + 1) (show 0 < l.length by omega); omega
  · simp only [eq_iff_iff, iff_true, iff_false]; omega
  · simp only [eq_iff_iff, iff_true, iff_false]; omega
  · simp only [eq_iff_iff, iff_true, iff_false]; omega
theorem ref_along_l0 (p : S23) (l : List S23) (hl : l.length ≤ 1000) : ∀ (m i k : Nat), l.length - i = m → i ≤ l.length → m < k →
    boundstoneref02_along.l0 k l (i : Int) p.f0 p.f1 = some (bordOf p ((edgesTo l l.length).drop i)) := by
  intro m
  induction m with
  | zero =>
    intro i k hm hi hk
    obtain ⟨k, rfl⟩ : ∃ m, k = m + 1 := ⟨k - 1, by omega⟩
    simp only [boundstoneref02_along.l0]
    rw [if_neg (by omega), edges_end l (by omega)]; rfl
  | succ m ih =>
    intro i k hm hi hk
    obtain ⟨k, rfl⟩ : ∃ m, k = m + 1 := ⟨k - 1, by omega⟩
    obtain ⟨e1, e2, e3, e4, e5, e6, e7⟩ := round_facts l hl (i := i) (by omega)
    simp only [boundstoneref02_along.l0]
    simp only [e1, e2, e3, e4, e5, e6, e7, if_true, if_false, rd_getD]
    rw [ref_on_eq, edges_drop l (by omega)]
    simp only [Option.bind_some]
    cases ho : onP (l.getD i z23) (l.getD ((i + 1) % l.length) z23) p with
    | true => simp only [bordOf, edgeAt, List.any_cons, ho, Bool.true_or, if_true]
    | false =>
      rw [if_neg (by simp), ih (i + 1) k (by omega) (by omega) (by omega)]
      simp only [bordOf, edgeAt, List.any_cons, ho, Bool.false_or]
theorem ref_along_eq (p : S23) (l : List S23) (hl : l.length ≤ 1000) (k : Nat) (hk : l.length < k) : boundstoneref02_along.f k l p.f0 p.f1 = some (bordOf p (edgesTo l l.length)) := by
  have := ref_along_l0 p l hl l.length 0 k (by omega) (by omega) hk
  unfold boundstoneref02_along.f
  simpa using this
theorem ref_wind_j3 (k : Nat) (l : List S23) (acc x : Int) (b : Bool) (p : S23) : boundstoneref02_winding.j3 (k + 1) l acc x b p.f0 p.f1 = boundstoneref02_winding.l0 k l (if b then wrap64 (acc - 1) else acc) (wrap64 (x + 1)) p.f0 p.f1 := by
  simp only [boundstoneref02_winding.j3]
  cases b <;> simp
theorem wind_l0 (p : S23) (l : List S23) (hl : l.length ≤ 1000) : ∀ (m i k : Nat) (acc : Int), l.length - i = m → i ≤ l.length → 4 * m < k →
    boundstoneref02_winding.l0 k l acc (i : Int) p.f0 p.f1 = some (((edgesTo l l.length).drop i).foldl (windStep p) acc) := by
  intro m
  induction m with
  | zero =>
    intro i k acc hm hi hk
    obtain ⟨k, rfl⟩ : ∃ m, k = m + 1 := ⟨k - 1, by omega⟩
    simp only [boundstoneref02_winding.l0]
    rw [if_neg (by omega), edges_end l (by omega)]; rfl
  | succ m ih =>
    intro i k acc hm hi hk
    obtain ⟨k, rfl⟩ : ∃ m, k = m + 4 := ⟨k - 4, by omega⟩
    obtain ⟨e1, e2, e3, e4, e5, e6, e7⟩ := round_facts l hl (i := i) (by omega)
    simp only [boundstoneref02_winding.l0, boundstoneref02_winding.j1, boundstoneref02_winding.j2]
    simp only [e1, e2, e3, e4, e5, e6, e7, if_true, if_false, rd_getD, ref_twice_eq, Option.bind_some, ref_wind_j3]
    rw [edges_drop l (by omega)]
    have ih' := fun acc => ih (i + 1) k acc (by omega) (by omega) (by omega)
    simp only [ih', List.foldl_cons]
    generalize hx : l.getD i z23 = u
    generalize hy : l.getD ((i + 1) % l.length) z23 = v
    have hs : edgeAt l i = (i, u, v) := by unfold edgeAt; rw [hx, hy]
    rw [hs]
    unfold windStep
    by_cases h1 : u.f1 ≤ p.f1
    · have h2 : ¬ u.f1 > p.f1 := by omega
      by_cases h3 : v.f1 > p.f1
      · by_cases h4 : twW u v p > 0 <;> simp [h1, h2, h3, h4]
      · simp [h1, h2, h3]
    · have h2 : u.f1 > p.f1 := by omega
      by_cases h3 : v.f1 ≤ p.f1
      · by_cases h4 : twW u v p < 0 <;> simp [h1, h2, h3, h4]
      · simp [h1, h2, h3]
theorem ref_winding_eq (p : S23) (l : List S23) (hl : l.length ≤ 1000) (k : Nat) (hk : 4 * l.length < k) : boundstoneref02_winding.f k l p.f0 p.f1 = some (windOf p (edgesTo l l.length)) := by
  have := wind_l0 p l hl l.length 0 k 0 (by omega) (by omega) hk
  unfold boundstoneref02_winding.f windOf
  simpa using this
def adjP (n k i : Nat) : Prop := k + 1 = i ∨ (i + 1 = n ∧ k = 0)
def edgeA (l : List S23) (i : Nat) : S23 := l.getD i z23
def edgeB (l : List S23) (i : Nat) : S23 := l.getD ((i + 1) % l.length) z23
def pairP (l : List S23) (k i : Nat) : Prop :=
  (adjP l.length k i → meetP (edgeA l i) (edgeB l i) (edgeA l k) (edgeB l k) = 1) ∧ (¬ adjP l.length k i → meetP (edgeA l i) (edgeB l i) (edgeA l k) (edgeB l k) = 0)
def SimpleP (l : List S23) : Prop := (∀ i, i < l.length → edgeA l i ≠ edgeB l i) ∧ ∀ i, i < l.length → ∀ k, k < i → pairP l k i
theorem mem_edges (l : List S23) (x : Nat × S23 × S23) : x ∈ edgesTo l l.length ↔ ∃ i, i < l.length ∧ x = (i, edgeA l i, edgeB l i) := by
  unfold edgesTo
  rw [List.mem_map]
  constructor
  · rintro ⟨i, hi, rfl⟩; exact ⟨i, List.mem_range.1 hi, rfl⟩
  · rintro ⟨i, hi, rfl⟩; exact ⟨i, List.mem_range.2 hi, rfl⟩
theorem simpleP_iff (l : List S23) (h3 : 3 ≤ l.length) (hl : l.length ≤ 1000) : simpleP l = true ↔ SimpleP l := by
  unfold simpleP edgeOk SimpleP
  rw [List.all_eq_true]
  simp only [Bool.and_eq_true, Bool.not_eq_true', eqP_false, List.all_eq_true, mem_edges]
  constructor
  · intro h
    have h0 : ∀ i, i < l.length → edgeA l i ≠ edgeB l i := fun i hi => (h _ ⟨i, hi, rfl⟩).1
    refine ⟨h0, fun i hi k hk => ?_⟩
    have := (h _ ⟨k, by omega, rfl⟩).2 _ ⟨i, hi, rfl⟩
    unfold pairOk at this
    simp only at this
    rw [if_neg (by omega), if_neg (by rw [eqP_iff]; exact h0 i hi), wrap_small (by omega) (by omega)] at this
    unfold pairP adjP
    rw [meet_sym]
    split at this
    · rename_i h1
      split at this
      · cases this
      · rename_i h2
        refine ⟨fun _ => by simpa using this, fun hn => absurd (.inl (by omega)) hn⟩
    · rename_i h1
      split at this
      · rename_i h2
        refine ⟨fun _ => by simpa using this, fun hn => absurd (.inr (by omega)) hn⟩
      · rename_i h2
        refine ⟨fun hn => ?_, fun _ => by simpa using this⟩
        rcases hn with h | h
        · omega
        · exfalso; apply h2; omega
  · rintro ⟨h0, h⟩ x ⟨k, hk, rfl⟩
    refine ⟨h0 k hk, ?_⟩
    rintro y ⟨i, hi, rfl⟩
    unfold pairOk
    simp only
    split
    · rfl
    · rename_i hlt
      rw [if_neg (by rw [eqP_iff]; exact h0 i hi), wrap_small (by omega) (by omega)]
      obtain ⟨p1, p2⟩ := h i hi k (by omega)
      rw [meet_sym] at p1 p2
      unfold adjP at p1 p2
      split
      · rw [if_neg (by omega)]
        simpa using p1 (.inl (by omega))
      · split
        · simpa using p1 (.inr (by omega))
        · simpa using p2 (by omega)
theorem ref_simple_j3 (k : Nat) (l : List S23) (n x y m : Int) (b : Bool) : boundstoneref02_simple.j3 (k + 2) l n x y m b =
    if (if b then m = 1 else m = 0) then boundstoneref02_simple.l2 k l n x (wrap64 (y + 1)) else some false := by
  simp only [boundstoneref02_simple.j3, boundstoneref02_simple.j4]
  cases b with
  | true => by_cases h : m = 1 <;> simp [h]
  | false => by_cases h : m = 0 <;> simp [h]
instance (n k i : Nat) : Decidable (adjP n k i) := by unfold adjP; infer_instance
theorem pairP_iff (l : List S23) (k i : Nat) : pairP l k i ↔ (if (decide (adjP l.length k i)) = true then meetP (edgeA l i) (edgeB l i) (edgeA l k) (edgeB l k) = 1 else meetP (edgeA l i) (edgeB l i) (edgeA l k) (edgeB l k) = 0) := by
  unfold pairP
  by_cases h : adjP l.length k i <;> simp [h]
theorem simple_l2 (l : List S23) (hl : l.length ≤ 1000) (i : Nat) (hi : i < l.length) (F : Nat) (hF : 20 ≤ F) (Q : Prop)
    (next : ∀ k, F ≤ k → ∃ b, boundstoneref02_simple.l1 k l (l.length : Int) ((i + 1 : Nat) : Int) = some b ∧ (b = true ↔ Q)) :
    ∀ (m y k : Nat), i - y = m → y ≤ i → 3 * m + 1 + F ≤ k →
    ∃ b, boundstoneref02_simple.l2 k l (l.length : Int) (i : Int) (y : Int) = some b ∧ (b = true ↔ (∀ z, y ≤ z → z < i → pairP l z i) ∧ Q) := by
  intro m
  induction m with
  | zero =>
    intro y k hm hy hk
    obtain ⟨k, rfl⟩ : ∃ m, k = m + 1 := ⟨k - 1, by omega⟩
    obtain ⟨e1, e2, e3, e4, e5, e6, e7⟩ := round_facts l hl (i := i) (by omega)
    simp only [boundstoneref02_simple.l2]
    rw [if_neg (by omega), e1]
    obtain ⟨b, h1, h2⟩ := next k (by omega)
    refine ⟨b, h1, h2.trans ⟨fun q => ⟨fun z h1 h2 => by omega, q⟩, fun q => q.2⟩⟩
  | succ m ih =>
    intro y k hm hy hk
    obtain ⟨k, rfl⟩ : ∃ m, k = m + 3 := ⟨k - 3, by omega⟩
    have g : ((y : Int) < (i : Int)) = True := by simp only [eq_iff_iff, iff_true]; omega
    have hi' : i + 1 ≤ 1000 := by omega
    obtain ⟨b, h1, h2⟩ := ih (y + 1) k (by omega) (by omega) (by omega)
    have hy' : y < l.length := by omega
    have hk14 : 14 ≤ k + 2 := by omega
    have w1 : ((i : Int) + 1 = ((i + 1 : Nat) : Int)) := by omega
    obtain ⟨e1, e2, e3, e4, e5, e6, e7⟩ := round_facts l hl hi
    obtain ⟨f1, f2, f3, f4, f5, f6, f7⟩ := round_facts l hl hy'
    simp only [boundstoneref02_simple.l2]
    simp only [e1, e2, e3, e4, e5, e6, e7, f1, f2, f3, f4, f5, f6, f7, g, if_true, if_false, rd_getD]
    rw [ref_Meeting_eq _ _ _ _ _ hk14]
    clear e1 e2 e3 e4 e5 e6 e7 f2 f3 f4 f5 f6 f7
    simp only [Option.bind_some]
    have key : ∀ nx : Bool, nx = decide (adjP l.length y i) → ∃ b, boundstoneref02_simple.j3 (k + 2) l (l.length : Int) (i : Int) (y : Int) (meetP (l.getD i z23) (l.getD ((i + 1) % l.length) z23) (l.getD y z23) (l.getD ((y + 1) % l.length) z23)) nx = some b ∧
        (b = true ↔ (∀ z, y ≤ z → z < i → pairP l z i) ∧ Q) := by
      intro nx hnx
      rw [ref_simple_j3, f1]
      have hp := pairP_iff l y i
      rw [← hnx] at hp
      unfold edgeA edgeB at hp
      by_cases hc : pairP l y i
      · rw [if_pos (hp.1 hc)]
        refine ⟨b, h1, h2.trans ⟨fun q => ⟨fun z z1 z2 => ?_, q.2⟩, fun q => ⟨fun z z1 z2 => q.1 z (by omega) z2, q.2⟩⟩⟩
        rcases Nat.lt_or_ge y z with h | h
        · exact q.1 z h z2
        · have : z = y := by omega
          rw [this]; exact hc
      · rw [if_neg (fun h => hc (hp.2 h))]
        refine ⟨false, rfl, ⟨fun h => by (cases h), fun q => absurd (q.1 y (Nat.le_refl _) (by omega)) hc⟩⟩
    split
    · rename_i h
      exact key true (by symm; rw [decide_eq_true_eq]; exact .inl (by omega))
    · rename_i h
      split
      · rename_i h'
        refine key _ ?_
        rw [Bool.eq_iff_iff, decide_eq_true_eq, beq_iff_eq]
        unfold adjP
        omega
      · rename_i h'
        refine key false ?_
        symm
        rw [decide_eq_false_iff_not]
        unfold adjP
        omega
theorem simple_l1 (l : List S23) (hl : l.length ≤ 1000) : ∀ (m i k : Nat), l.length - i = m → i ≤ l.length → m * (3 * l.length + 2) + 21 ≤ k →
    ∃ b, boundstoneref02_simple.l1 k l (l.length : Int) (i : Int) = some b ∧ (b = true ↔ ∀ j, i ≤ j → j < l.length → ∀ z, z < j → pairP l z j) := by
  intro m
  induction m with
  | zero =>
    intro i k hm hi hk
    obtain ⟨k, rfl⟩ : ∃ m, k = m + 1 := ⟨k - 1, by omega⟩
    simp only [boundstoneref02_simple.l1]
    rw [if_neg (by omega)]
    exact ⟨true, rfl, ⟨fun _ j h1 h2 => by omega, fun _ => rfl⟩⟩
  | succ m ih =>
    intro i k hm hi hk
    obtain ⟨k, rfl⟩ : ∃ m, k = m + 1 := ⟨k - 1, by omega⟩
    simp only [boundstoneref02_simple.l1]
    rw [if_pos (by omega)]
    have hmm : (m + 1) * (3 * l.length + 2) = m * (3 * l.length + 2) + (3 * l.length + 2) := by rw [Nat.add_mul, Nat.one_mul]
    obtain ⟨b, h1, h2⟩ := simple_l2 l hl i (by omega) (m * (3 * l.length + 2) + 21) (by omega) _ (fun k hk => ih (i + 1) k (by omega) (by omega) hk) i 0 k (by omega) (by omega) (by omega)
    refine ⟨b, h1, h2.trans ⟨fun q j j1 j2 z z1 => ?_, fun q => ⟨fun z _ z2 => q i (Nat.le_refl _) (by omega) z z2, fun j j1 j2 => q j (by omega) j2⟩⟩⟩
    rcases Nat.lt_or_ge i j with h | h
    · exact q.2 j h j2 z z1
    · have : j = i := by omega
      subst this
      exact q.1 z (Nat.zero_le _) z1
theorem simple_l0 (l : List S23) (hl : l.length ≤ 1000) : ∀ (m i k : Nat), l.length - i = m → i ≤ l.length → m + l.length * (3 * l.length + 2) + 22 ≤ k →
    ∃ b, boundstoneref02_simple.l0 k l (l.length : Int) (i : Int) = some b ∧ (b = true ↔ (∀ j, i ≤ j → j < l.length → edgeA l j ≠ edgeB l j) ∧ ∀ j, j < l.length → ∀ z, z < j → pairP l z j) := by
  intro m
  induction m with
  | zero =>
    intro i k hm hi hk
    obtain ⟨k, rfl⟩ : ∃ m, k = m + 1 := ⟨k - 1, by omega⟩
    simp only [boundstoneref02_simple.l0]
    rw [if_neg (by omega)]
    obtain ⟨b, h1, h2⟩ := simple_l1 l hl l.length 0 k (by omega) (by omega) (by omega)
    exact ⟨b, h1, h2.trans ⟨fun q => ⟨fun j h1 h2 => by omega, fun j j2 => q j (Nat.zero_le _) j2⟩, fun q j _ j2 => q.2 j j2⟩⟩
  | succ m ih =>
    intro i k hm hi hk
    obtain ⟨k, rfl⟩ : ∃ m, k = m + 1 := ⟨k - 1, by omega⟩
    obtain ⟨e1, e2, e3, e4, e5, e6, e7⟩ := round_facts l hl (i := i) (by omega)
    simp only [boundstoneref02_simple.l0]
    simp only [e1, e2, e3, e4, e5, e6, e7, if_true, if_false, rd_getD]
    have hq : (((l.getD i z23).f0 == (l.getD ((i + 1) % l.length) z23).f0) && ((l.getD i z23).f1 == (l.getD ((i + 1) % l.length) z23).f1)) = eqP (edgeA l i) (edgeB l i) := rfl
    rw [hq]
    cases he : eqP (edgeA l i) (edgeB l i) with
    | true =>
      rw [if_pos rfl]
      rw [eqP_iff] at he
      exact ⟨false, rfl, ⟨fun h => by (cases h), fun q => absurd he (q.1 i (Nat.le_refl _) (by omega))⟩⟩
    | false =>
      rw [if_neg (by simp)]
      rw [eqP_false] at he
      obtain ⟨b, h1, h2⟩ := ih (i + 1) k (by omega) (by omega) (by omega)
      refine ⟨b, h1, h2.trans ⟨fun q => ⟨fun j j1 j2 => ?_, q.2⟩, fun q => ⟨fun j j1 j2 => q.1 j (by omega) j2, q.2⟩⟩⟩
      rcases Nat.lt_or_ge i j with h | h
      · exact q.1 j h j2
      · have : j = i := by omega
        rw [this]; exact he
theorem ref_simple_eq (l : List S23) (h3 : 3 ≤ l.length) (hl : l.length ≤ 1000) (k : Nat) (hk : l.length + l.length * (3 * l.length + 2) + 22 ≤ k) : boundstoneref02_simple.f k l = some (simpleP l) := by
  obtain ⟨b, h1, h2⟩ := simple_l0 l hl l.length 0 k (by omega) (by omega) hk
  have : b = simpleP l := by
    rw [Bool.eq_iff_iff, h2, simpleP_iff l h3 hl]
    unfold SimpleP
    exact ⟨fun q => ⟨fun j j2 => q.1 j (Nat.zero_le _) j2, q.2⟩, fun q => ⟨fun j _ j2 => q.1 j j2, q.2⟩⟩
  unfold boundstoneref02_simple.f
  rw [← this]; exact h1
def ringOk (l : List S23) : Int := if 3 ≤ l.length ∧ l.length ≤ 200 then (if l.all validP then 0 else 1) else 2
theorem ref_points_eq (l : List S23) (k : Nat) (hk : 202 ≤ k) : boundstoneref02_points.f k l 3 = some (ringOk l) := by
  obtain ⟨k, rfl⟩ : ∃ m, k = m + 1 := ⟨k - 1, by omega⟩
  unfold boundstoneref02_points.f ringOk
  simp only [boundstoneref02_points.j0]
  by_cases h1 : (l.length : Int) < 3
  · rw [if_pos h1]
    have h2 : ¬ (3 ≤ l.length ∧ l.length ≤ 200) := by omega
    simp [h2]
  · rw [if_neg h1]
    by_cases h2 : (l.length : Int) > 200
    · rw [if_pos (by simpa using h2), if_neg (by omega)]
    · rw [if_neg (by simpa using h2), if_pos (by omega), ref_valid_eq l (by omega) k (by omega)]
      cases l.all validP <;> rfl
theorem plane_ring_eq (l more : List S23) (k : Nat) (hk : 1 ≤ k) (hm : more.length ≤ 1000) : plane_ring.f k l more = some (if ringOk l = 0 then (if more.all validP then 0 else 1) else ringOk l) := by
  obtain ⟨k, rfl⟩ : ∃ m, k = m + 1 := ⟨k - 1, by omega⟩
  unfold plane_ring.f plane_within.f ringOk plane_valid.f
  simp only [plane_ring.j0]
  have a2 : more.length ≤ 9223372036854775806 := by omega
  by_cases h : 3 ≤ l.length ∧ l.length ≤ 200
  · have a1 : l.length ≤ 9223372036854775806 := by omega
    have h1 : (3 : Int) ≤ (l.length : Int) := by omega
    have h2 : (l.length : Int) ≤ 200 := by omega
    rw [if_pos h, if_pos h1, if_pos a1, if_pos a2]
    cases l.all validP <;> cases more.all validP <;> simp [h2]
  · rw [if_neg h]
    by_cases h1 : (3 : Int) ≤ (l.length : Int)
    · have h2 : ¬ (l.length : Int) ≤ 200 := by omega
      simp [h1, h2]
    · simp [h1]
theorem ringOk_len {l : List S23} (h : ringOk l = 0) : 3 ≤ l.length ∧ l.length ≤ 200 ∧ l.all validP = true := by
  unfold ringOk at h
  split at h
  · rename_i h'
    split at h
    · rename_i h''; exact ⟨h'.1, h'.2, h''⟩
    · simp at h
  · simp at h
theorem plane_ring_none (l : List S23) (k : Nat) (hk : 1 ≤ k) : plane_ring.f k l [] = some (ringOk l) := by
  rw [plane_ring_eq l [] k hk (by simp)]
  simp only [List.all_nil, if_true]
  congr 1
  split
  · rename_i h; exact h.symm
  · rfl
theorem fuel_simple {l : List S23} (h : l.length ≤ 200) : l.length + l.length * (3 * l.length + 2) + 22 ≤ 121000 := by
  have : l.length * (3 * l.length + 2) ≤ 200 * 602 := Nat.mul_le_mul h (by omega)
  omega
end Go.Proofs.Ytckaejgamfllfaa.G
end

section
namespace Go.Proofs.Ytckaejgamfllfaa.G
open Go.RowKit Go.Proofs.YtckaejgamfllfaaW.PrintWords Go.Proofs.YtckaejgamfllfaaW.PrintLast Go.Proofs.YtckaejgamfllfaaW.PrintMore
attribute [local go_sem] max2_int min2_int max_two min_two max_three min_three max_four min_four
set_option linter.unusedVariables false
set_option linter.unusedSimpArgs false
def plane_span.f (a0_0 : Int) (a0_1 : Int) : Option (Bool) := (plane_within.f a0_0 (-1048576) 1048576).bind fun t550 => (if t550 = true then ((plane_within.f a0_1 a0_0 1048576).bind fun t551 => (some t551)) else (some false))
set_option maxHeartbeats 8000000 in
set_option maxRecDepth 100000 in
theorem plane_span.calls (a0_0 : Int) (a0_1 : Int) (r : Bool) (w : World) (h : plane_span.f a0_0 a0_1 = some r) :
    Calls Try.prog 123 #[.agg #[.int .i64 a0_0, .int .i64 a0_1]] w fun e w' => e = .returned (.bool r) ∧ Below w.heap.size w w' := by
  have hu50 := Try.underlying50
  have HB := Aside0.mk (Below.refl w.heap.size w)
  have H : ((plane_within.f a0_0 (-1048576) 1048576).bind fun t550 => (if t550 = true then ((plane_within.f a0_1 a0_0 1048576).bind fun t551 => (some t551)) else (some false))) = some r := h
  clear h
  replace H := Option.bind_eq_some_iff.mp H
  obtain ⟨t550, A20, H⟩ := H
  replace H : (if t550 = true then ((plane_within.f a0_1 a0_0 1048576).bind fun t551 => (some t551)) else (some false)) = some r := H
  have A2 := Aside0.mk A20
  clear A20
  by_cases c3 : t550 = true
  · subst c3
    have H1 : ((plane_within.f a0_1 a0_0 1048576).bind fun t551 => (some t551)) = some r := by rw [if_pos rfl] at H; exact H
    clear H
    have H := H1
    clear H1
    replace H := Option.bind_eq_some_iff.mp H
    obtain ⟨t551, A40, H⟩ := H
    replace H : (some t551) = some r := H
    have A4 := Aside0.mk A40
    clear A40
    obtain rfl := Option.some.inj H
    go_enter Try.func123, Try.ntmps123
    go_wp2_with (first | ((with_reducible refine gate_dst (N := 1) rfl ?_); refine box_event ?hg (N := 1) ?hd (cs := #[.int .i64 a0_0, .int .i64 a0_1]) (t := 50) ?hr ?_; (case hd => rfl); (case hg => rfl); (case hr => first | (go_simp; done) | (go_simp; rfl)); intro gb549 hg w5 hbox hb; have n0_ := Aside0.mk (below_step (by repeat (first | (with_reducible first | exact HB.out | apply below_alloc | apply pw_below_drewN | apply below_drew1) | exact HB.out)) hb); have n1_ := Aside0.mk (hbox); have n2_ := Aside0.mk ((by rw [hg]; exact (below_size (by repeat (first | (with_reducible first | exact HB.out | apply below_alloc | apply pw_below_drewN | apply below_drew1) | exact HB.out))) : w.heap.size ≤ gb549)); have n3_ := Aside0.mk ((by rw [hg]; exact (below_size (by repeat (first | (with_reducible first | exact HB.out | apply below_alloc | apply pw_below_drewN | apply below_drew1) | exact HB.out))) : w.heap.size ≤ gb549)); clear HB; have HB := n0_; have BK549 := n1_; have GW549 := n2_; have GE549 := n3_; clear n0_ n1_ n2_ n3_; clear hb hbox hg; have hcz6_0 : w5.cell? ⟨gb549, 0, none⟩ = some (.int .i64 a0_0) := (blk_cell BK549.out 0).trans rfl; have hcz6_1 : w5.cell? ⟨gb549, 1, none⟩ = some (.int .i64 a0_1) := (blk_cell BK549.out 1).trans rfl; have hfz6_0 := blk_frozen BK549.out 0; have hfz6_1 := blk_frozen BK549.out 1) | ((with_reducible refine gate_callee (f := 76) rfl ?_); refine goesL_ (some 5) rfl rfl Try.func76 (by kernel_rfl) rfl #[.int .i64 a0_0, .int .i64 (-1048576), .int .i64 1048576] rfl (by (try simp only [List.map_toArray, List.map_cons, List.map_nil]); first | done | rfl | (simp only [List.length_drop, List.length_take]; rfl)) ?_; (with_reducible refine (plane_within.calls a0_0 (-1048576) 1048576 true _ A2.out).mono ?_); rintro e w' ⟨rfl, ⟨nd, rfl⟩⟩; refine ⟨_, rfl, ?_⟩) | (go_at_call 76; (with_reducible refine (plane_within.calls a0_1 a0_0 1048576 t551 _ A4.out).mono ?_); rintro e w' ⟨rfl, ⟨nd, rfl⟩⟩))
    go_ret
    exact ⟨by first | rfl | (simp [errW_none, errW_some] <;> rfl) | (simp [*, errW_none, errW_some] <;> rfl), by repeat (first | (with_reducible first | exact HB.out | apply below_alloc | apply pw_below_drewN | apply below_drew1 | refine below_set ?_ GE549.out) | exact HB.out)⟩
  · replace c3 := Bool.eq_false_iff.mpr c3
    subst c3
    have H1 : (some false) = some r := by rw [if_neg (show ¬ (false = true) by decide)] at H; exact H
    clear H
    have H := H1
    clear H1
    obtain rfl := Option.some.inj H
    go_enter Try.func123, Try.ntmps123
    go_wp2_with (first | ((with_reducible refine gate_dst (N := 1) rfl ?_); refine box_event ?hg (N := 1) ?hd (cs := #[.int .i64 a0_0, .int .i64 a0_1]) (t := 50) ?hr ?_; (case hd => rfl); (case hg => rfl); (case hr => first | (go_simp; done) | (go_simp; rfl)); intro gb549 hg w7 hbox hb; have n0_ := Aside0.mk (below_step (by repeat (first | (with_reducible first | exact HB.out | apply below_alloc | apply pw_below_drewN | apply below_drew1) | exact HB.out)) hb); have n1_ := Aside0.mk (hbox); have n2_ := Aside0.mk ((by rw [hg]; exact (below_size (by repeat (first | (with_reducible first | exact HB.out | apply below_alloc | apply pw_below_drewN | apply below_drew1) | exact HB.out))) : w.heap.size ≤ gb549)); have n3_ := Aside0.mk ((by rw [hg]; exact (below_size (by repeat (first | (with_reducible first | exact HB.out | apply below_alloc | apply pw_below_drewN | apply below_drew1) | exact HB.out))) : w.heap.size ≤ gb549)); clear HB; have HB := n0_; have BK549 := n1_; have GW549 := n2_; have GE549 := n3_; clear n0_ n1_ n2_ n3_; clear hb hbox hg; have hcz8_0 : w7.cell? ⟨gb549, 0, none⟩ = some (.int .i64 a0_0) := (blk_cell BK549.out 0).trans rfl; have hcz8_1 : w7.cell? ⟨gb549, 1, none⟩ = some (.int .i64 a0_1) := (blk_cell BK549.out 1).trans rfl; have hfz8_0 := blk_frozen BK549.out 0; have hfz8_1 := blk_frozen BK549.out 1) | ((with_reducible refine gate_callee (f := 76) rfl ?_); refine goesL_ (some 5) rfl rfl Try.func76 (by kernel_rfl) rfl #[.int .i64 a0_0, .int .i64 (-1048576), .int .i64 1048576] rfl (by (try simp only [List.map_toArray, List.map_cons, List.map_nil]); first | done | rfl | (simp only [List.length_drop, List.length_take]; rfl)) ?_; (with_reducible refine (plane_within.calls a0_0 (-1048576) 1048576 false _ A2.out).mono ?_); rintro e w' ⟨rfl, ⟨nd, rfl⟩⟩; refine ⟨_, rfl, ?_⟩))
    go_ret
    exact ⟨by first | rfl | (simp [errW_none, errW_some] <;> rfl) | (simp [*, errW_none, errW_some] <;> rfl), by repeat (first | (with_reducible first | exact HB.out | apply below_alloc | apply pw_below_drewN | apply below_drew1 | refine below_set ?_ GE549.out) | exact HB.out)⟩
end Go.Proofs.Ytckaejgamfllfaa.G
end

section
namespace Go.Proofs.Ytckaejgamfllfaa.G
open Go.RowKit Go.Proofs.YtckaejgamfllfaaW.PrintWords Go.Proofs.YtckaejgamfllfaaW.PrintLast Go.Proofs.YtckaejgamfllfaaW.PrintMore
attribute [local go_sem] max2_int min2_int max_two min_two max_three min_three max_four min_four
set_option linter.unusedVariables false
set_option linter.unusedSimpArgs false
def plane_Proper.f (a0_0 : Int) (a0_1 : Int) (a0_2 : Int) (a0_3 : Int) : Option (Bool) := (plane_span.f a0_0 a0_1).bind fun t553 => (if t553 = true then ((plane_span.f a0_2 a0_3).bind fun t554 => (some t554)) else (some false))
set_option maxHeartbeats 8000000 in
set_option maxRecDepth 100000 in
theorem plane_Proper.calls (a0_0 : Int) (a0_1 : Int) (a0_2 : Int) (a0_3 : Int) (r : Bool) (w : World) (h : plane_Proper.f a0_0 a0_1 a0_2 a0_3 = some r) :
    Calls Try.prog 64 #[.agg #[.int .i64 a0_0, .int .i64 a0_1, .int .i64 a0_2, .int .i64 a0_3]] w fun e w' => e = .returned (.bool r) ∧ Below w.heap.size w w' := by
  have hu52 := Try.underlying52
  have hu50 := Try.underlying50
  have HB := Aside0.mk (Below.refl w.heap.size w)
  have H : ((plane_span.f a0_0 a0_1).bind fun t553 => (if t553 = true then ((plane_span.f a0_2 a0_3).bind fun t554 => (some t554)) else (some false))) = some r := h
  clear h
  replace H := Option.bind_eq_some_iff.mp H
  obtain ⟨t553, A20, H⟩ := H
  replace H : (if t553 = true then ((plane_span.f a0_2 a0_3).bind fun t554 => (some t554)) else (some false)) = some r := H
  have A2 := Aside0.mk A20
  clear A20
  by_cases c3 : t553 = true
  · subst c3
    have H1 : ((plane_span.f a0_2 a0_3).bind fun t554 => (some t554)) = some r := by rw [if_pos rfl] at H; exact H
    clear H
    have H := H1
    clear H1
    replace H := Option.bind_eq_some_iff.mp H
    obtain ⟨t554, A40, H⟩ := H
    replace H : (some t554) = some r := H
    have A4 := Aside0.mk A40
    clear A40
    obtain rfl := Option.some.inj H
    go_enter Try.func64, Try.ntmps64
    go_wp2_with (first | ((with_reducible refine gate_dst (N := 1) rfl ?_); refine box_event ?hg (N := 1) ?hd (cs := #[.int .i64 a0_0, .int .i64 a0_1, .int .i64 a0_2, .int .i64 a0_3]) (t := 52) ?hr ?_; (case hd => rfl); (case hg => rfl); (case hr => first | (go_simp; done) | (go_simp; rfl)); intro gb552 hg w5 hbox hb; have n0_ := Aside0.mk (below_step (by repeat (first | (with_reducible first | exact HB.out | apply below_alloc | apply pw_below_drewN | apply below_drew1) | exact HB.out)) hb); have n1_ := Aside0.mk (hbox); have n2_ := Aside0.mk ((by rw [hg]; exact (below_size (by repeat (first | (with_reducible first | exact HB.out | apply below_alloc | apply pw_below_drewN | apply below_drew1) | exact HB.out))) : w.heap.size ≤ gb552)); have n3_ := Aside0.mk ((by rw [hg]; exact (below_size (by repeat (first | (with_reducible first | exact HB.out | apply below_alloc | apply pw_below_drewN | apply below_drew1) | exact HB.out))) : w.heap.size ≤ gb552)); clear HB; have HB := n0_; have BK552 := n1_; have GW552 := n2_; have GE552 := n3_; clear n0_ n1_ n2_ n3_; clear hb hbox hg; have hcz6_0 : w5.cell? ⟨gb552, 0, none⟩ = some (.int .i64 a0_0) := (blk_cell BK552.out 0).trans rfl; have hcz6_1 : w5.cell? ⟨gb552, 1, none⟩ = some (.int .i64 a0_1) := (blk_cell BK552.out 1).trans rfl; have hcz6_2 : w5.cell? ⟨gb552, 2, none⟩ = some (.int .i64 a0_2) := (blk_cell BK552.out 2).trans rfl; have hcz6_3 : w5.cell? ⟨gb552, 3, none⟩ = some (.int .i64 a0_3) := (blk_cell BK552.out 3).trans rfl; have hfz6_0 := blk_frozen BK552.out 0; have hfz6_1 := blk_frozen BK552.out 1; have hfz6_2 := blk_frozen BK552.out 2; have hfz6_3 := blk_frozen BK552.out 3) | ((with_reducible refine gate_callee (f := 123) rfl ?_); refine goesL_ (some 5) rfl rfl Try.func123 (by kernel_rfl) rfl #[.agg #[.int .i64 a0_0, .int .i64 a0_1]] rfl (by (try simp only [List.map_toArray, List.map_cons, List.map_nil]); first | done | rfl | (simp only [List.length_drop, List.length_take]; rfl)) ?_; (with_reducible refine (plane_span.calls a0_0 a0_1 true _ A2.out).mono ?_); rintro e w7 ⟨rfl, hb⟩; refine ⟨_, rfl, ?_⟩; have n0_ := Aside0.mk (blk_below (g := gb552) (o := .cells #[.int .i64 a0_0, .int .i64 a0_1, .int .i64 a0_2, .int .i64 a0_3] 52 (0, 0)) (by (with_reducible repeat (first | refine blk_drewN ?_ _ | refine blk_drew ?_ | refine blk_alloc ?_ _)); exact BK552.out) hb); have n1_ := Aside0.mk (below_step (by repeat (first | (with_reducible first | exact HB.out | apply below_alloc | apply pw_below_drewN | apply below_drew1 | refine below_set ?_ GE552.out) | exact HB.out)) hb); clear BK552; clear HB; have BK552 := n0_; have HB := n1_; clear n0_ n1_; (try clear hb); (try clear hb2); (try clear hk); (try clear hi); have hcz8_0 : w7.cell? ⟨gb552, 0, none⟩ = some (.int .i64 a0_0) := (blk_cell BK552.out 0).trans rfl; have hcz8_1 : w7.cell? ⟨gb552, 1, none⟩ = some (.int .i64 a0_1) := (blk_cell BK552.out 1).trans rfl; have hcz8_2 : w7.cell? ⟨gb552, 2, none⟩ = some (.int .i64 a0_2) := (blk_cell BK552.out 2).trans rfl; have hcz8_3 : w7.cell? ⟨gb552, 3, none⟩ = some (.int .i64 a0_3) := (blk_cell BK552.out 3).trans rfl; have hfz8_0 := blk_frozen BK552.out 0; have hfz8_1 := blk_frozen BK552.out 1; have hfz8_2 := blk_frozen BK552.out 2; have hfz8_3 := blk_frozen BK552.out 3) | (go_at_call 123; (with_reducible refine (plane_span.calls a0_2 a0_3 t554 _ A4.out).mono ?_); rintro e w9 ⟨rfl, hb⟩; have n0_ := Aside0.mk (blk_below (g := gb552) (o := .cells #[.int .i64 a0_0, .int .i64 a0_1, .int .i64 a0_2, .int .i64 a0_3] 52 (0, 0)) (by (with_reducible repeat (first | refine blk_drewN ?_ _ | refine blk_drew ?_ | refine blk_alloc ?_ _)); exact BK552.out) hb); have n1_ := Aside0.mk (below_step (by repeat (first | (with_reducible first | exact HB.out | apply below_alloc | apply pw_below_drewN | apply below_drew1 | refine below_set ?_ GE552.out) | exact HB.out)) hb); clear BK552; clear HB; have BK552 := n0_; have HB := n1_; clear n0_ n1_; (try clear hb); (try clear hb2); (try clear hk); (try clear hi)))
    go_ret
    exact ⟨by first | rfl | (simp [errW_none, errW_some] <;> rfl) | (simp [*, errW_none, errW_some] <;> rfl), by repeat (first | (with_reducible first | exact HB.out | apply below_alloc | apply pw_below_drewN | apply below_drew1 | refine below_set ?_ GE552.out) | exact HB.out)⟩
  · replace c3 := Bool.eq_false_iff.mpr c3
    subst c3
    have H1 : (some false) = some r := by rw [if_neg (show ¬ (false = true) by decide)] at H; exact H
    clear H
    have H := H1
    clear H1
    obtain rfl := Option.some.inj H
    go_enter Try.func64, Try.ntmps64
    go_wp2_with (first | ((with_reducible refine gate_dst (N := 1) rfl ?_); refine box_event ?hg (N := 1) ?hd (cs := #[.int .i64 a0_0, .int .i64 a0_1, .int .i64 a0_2, .int .i64 a0_3]) (t := 52) ?hr ?_; (case hd => rfl); (case hg => rfl); (case hr => first | (go_simp; done) | (go_simp; rfl)); intro gb552 hg w10 hbox hb; have n0_ := Aside0.mk (below_step (by repeat (first | (with_reducible first | exact HB.out | apply below_alloc | apply pw_below_drewN | apply below_drew1) | exact HB.out)) hb); have n1_ := Aside0.mk (hbox); have n2_ := Aside0.mk ((by rw [hg]; exact (below_size (by repeat (first | (with_reducible first | exact HB.out | apply below_alloc | apply pw_below_drewN | apply below_drew1) | exact HB.out))) : w.heap.size ≤ gb552)); have n3_ := Aside0.mk ((by rw [hg]; exact (below_size (by repeat (first | (with_reducible first | exact HB.out | apply below_alloc | apply pw_below_drewN | apply below_drew1) | exact HB.out))) : w.heap.size ≤ gb552)); clear HB; have HB := n0_; have BK552 := n1_; have GW552 := n2_; have GE552 := n3_; clear n0_ n1_ n2_ n3_; clear hb hbox hg; have hcz11_0 : w10.cell? ⟨gb552, 0, none⟩ = some (.int .i64 a0_0) := (blk_cell BK552.out 0).trans rfl; have hcz11_1 : w10.cell? ⟨gb552, 1, none⟩ = some (.int .i64 a0_1) := (blk_cell BK552.out 1).trans rfl; have hcz11_2 : w10.cell? ⟨gb552, 2, none⟩ = some (.int .i64 a0_2) := (blk_cell BK552.out 2).trans rfl; have hcz11_3 : w10.cell? ⟨gb552, 3, none⟩ = some (.int .i64 a0_3) := (blk_cell BK552.out 3).trans rfl; have hfz11_0 := blk_frozen BK552.out 0; have hfz11_1 := blk_frozen BK552.out 1; have hfz11_2 := blk_frozen BK552.out 2; have hfz11_3 := blk_frozen BK552.out 3) | ((with_reducible refine gate_callee (f := 123) rfl ?_); refine goesL_ (some 5) rfl rfl Try.func123 (by kernel_rfl) rfl #[.agg #[.int .i64 a0_0, .int .i64 a0_1]] rfl (by (try simp only [List.map_toArray, List.map_cons, List.map_nil]); first | done | rfl | (simp only [List.length_drop, List.length_take]; rfl)) ?_; (with_reducible refine (plane_span.calls a0_0 a0_1 false _ A2.out).mono ?_); rintro e w12 ⟨rfl, hb⟩; refine ⟨_, rfl, ?_⟩; have n0_ := Aside0.mk (blk_below (g := gb552) (o := .cells #[.int .i64 a0_0, .int .i64 a0_1, .int .i64 a0_2, .int .i64 a0_3] 52 (0, 0)) (by (with_reducible repeat (first | refine blk_drewN ?_ _ | refine blk_drew ?_ | refine blk_alloc ?_ _)); exact BK552.out) hb); have n1_ := Aside0.mk (below_step (by repeat (first | (with_reducible first | exact HB.out | apply below_alloc | apply pw_below_drewN | apply below_drew1 | refine below_set ?_ GE552.out) | exact HB.out)) hb); clear BK552; clear HB; have BK552 := n0_; have HB := n1_; clear n0_ n1_; (try clear hb); (try clear hb2); (try clear hk); (try clear hi)))
    go_ret
    exact ⟨by first | rfl | (simp [errW_none, errW_some] <;> rfl) | (simp [*, errW_none, errW_some] <;> rfl), by repeat (first | (with_reducible first | exact HB.out | apply below_alloc | apply pw_below_drewN | apply below_drew1 | refine below_set ?_ GE552.out) | exact HB.out)⟩
end Go.Proofs.Ytckaejgamfllfaa.G
end

section
namespace Go.Proofs.Ytckaejgamfllfaa.G
open Go.RowKit Go.Proofs.YtckaejgamfllfaaW.PrintWords Go.Proofs.YtckaejgamfllfaaW.PrintLast Go.Proofs.YtckaejgamfllfaaW.PrintMore
attribute [local go_sem] max2_int min2_int max_two min_two max_three min_three max_four min_four
set_option linter.unusedVariables false
set_option linter.unusedSimpArgs false
def whereZ (l : List S23) (p : S23) : Int := if bordOf p (edgesTo l l.length) then 0 else if windOf p (edgesTo l l.length) = 0 then -1 else 1
def sideStep (l : List S23) (s : Bool × Bool × Bool) (p : S23) : Bool × Bool × Bool :=
  if whereZ l p = -1 then (true, s.2.1, s.2.2) else if whereZ l p = 0 then (s.1, true, s.2.2) else (s.1, s.2.1, true)
def sideCol (l : List S23) (x : Int) : Nat → Int → Bool × Bool × Bool → Bool × Bool × Bool
  | 0, _, s => s
  | n + 1, y, s => sideCol l x n (y + 1) (sideStep l s ⟨x, y⟩)
def sideRows (l : List S23) (lo hi : Int) : Nat → Int → Bool × Bool × Bool → Bool × Bool × Bool
  | 0, _, s => s
  | n + 1, x, s => sideRows l lo hi n (x + 1) (sideCol l x (hi - lo + 1).toNat lo s)
def sideSum (s : Bool × Bool × Bool) : Int := (if s.1 then 1 else 0) + (if s.2.1 then 2 else 0) + (if s.2.2 then 4 else 0)
def sidesP (l : List S23) (x0 x1 y0 y1 : Int) : Int := sideSum (sideRows l y0 y1 (x1 - x0 + 1).toNat x0 (false, false, false))
def seenC (s : Bool × Bool × Bool) : Array Value := #[.bool s.1, .bool s.2.1, .bool s.2.2]
theorem proper_true {a b c d : Int} (h : plane_Proper.f a b c d = some true) : -1048576 ≤ a ∧ a ≤ b ∧ b ≤ 1048576 ∧ -1048576 ≤ c ∧ c ≤ d ∧ d ≤ 1048576 := by
  unfold plane_Proper.f plane_span.f plane_within.f at h
  by_cases h1 : -1048576 ≤ a
  · by_cases h2 : a ≤ 1048576
    · by_cases h3 : a ≤ b
      · by_cases h4 : b ≤ 1048576
        · by_cases h5 : -1048576 ≤ c
          · by_cases h6 : c ≤ 1048576
            · by_cases h7 : c ≤ d
              · by_cases h8 : d ≤ 1048576
                · omega
                · simp [h1, h2, h3, h4, h5, h6, h7, h8] at h
              · simp [h1, h2, h3, h4, h5, h6, h7] at h
            · simp [h1, h2, h3, h4, h5, h6] at h
          · simp [h1, h2, h3, h4, h5] at h
        · simp [h1, h2, h3, h4] at h
      · simp [h1, h2, h3] at h
    · simp [h1, h2] at h
  · simp [h1] at h
theorem plane_where_z (l : List S23) (x y : Int) (hl : l.length ≤ 9223372036854775806) : plane_where.f l x y = some (whereZ l ⟨x, y⟩) := by
  unfold plane_where.f plane_border.f plane_winding.f whereZ
  rw [if_pos hl, if_pos hl]
  simp only [Option.bind_some]
  split
  · rfl
  · split <;> rfl
theorem whereZ_range (l : List S23) (p : S23) : whereZ l p = -1 ∨ whereZ l p = 0 ∨ whereZ l p = 1 := by
  unfold whereZ; split
  · simp
  · split <;> simp
theorem wrap_m1 : wrap64 (-1 + 1) = 0 := by kernel_rfl
theorem wrap_z1 : wrap64 (0 + 1) = 1 := by kernel_rfl
theorem wrap_p1 : wrap64 (1 + 1) = 2 := by kernel_rfl
theorem wrap_s {x : Int} (h0 : -1048576 ≤ x) (h1 : x ≤ 1048576) : wrap64 (x + 1) = x + 1 := by unfold wrap64; omega
theorem wrap_sm {m : Int} (h0 : 0 ≤ m) (h1 : m ≤ 10) : wrap64 m = m := by unfold wrap64; omega
theorem toNat_step {x y : Int} (h : x ≤ y) : (y - x + 1).toNat = (y - (x + 1) + 1).toNat + 1 := by omega
theorem toNat_none {x y : Int} (h : ¬ x ≤ y) : (y - x + 1).toNat = 0 := by omega
def plane_Sides.f (k : Nat) (l0 : List (S23)) (a1_0 : Int) (a1_1 : Int) (a1_2 : Int) (a1_3 : Int) : Option (Int × Int) := (plane_ring.f k l0 ([] : List (S23))).bind fun t298 => (if t298 = 0 then ((plane_Proper.f a1_0 a1_1 a1_2 a1_3).bind fun t299 => (if t299 = true then (if (wrap64 ((wrap64 ((wrap64 (a1_1 - a1_0)) + 1)) * (wrap64 ((wrap64 (a1_3 - a1_2)) + 1)))) > 4096 then (some (0, 2)) else ((plane_simple.f l0).bind fun t300 => (if t300 = true then (some (sidesP l0 a1_0 a1_1 a1_2 a1_3, 0)) else (some (0, 4))))) else (some (0, 1)))) else (some (0, t298)))
set_option maxHeartbeats 8000000 in
set_option maxRecDepth 100000 in
theorem plane_Sides.calls (k : Nat) (A0 : Option Addr) (c0 : Nat) (l0 : List (S23)) (a1_0 : Int) (a1_1 : Int) (a1_2 : Int) (a1_3 : Int) (r1 : Int) (r2 : Int) (w : World) (hr0 : Kd.C k23 w A0 l0.length l0) (hc0 : l0.length ≤ c0) (h : plane_Sides.f k l0 a1_0 a1_1 a1_2 a1_3 = some (r1, r2)) :
    Calls Try.prog 40 #[.slice A0 l0.length c0, .agg #[.int .i64 a1_0, .int .i64 a1_1, .int .i64 a1_2, .int .i64 a1_3]] w fun e w' => e = .returned (.tuple #[.int .i64 r1, .int .i64 r2]) ∧ Below w.heap.size w w' := by
  have hu52 := Try.underlying52
  have HR0 := Aside0.mk hr0
  have HC0 := Aside0.mk hc0
  clear hr0 hc0
  have HB := Aside0.mk (Below.refl w.heap.size w)
  have H : ((plane_ring.f k l0 ([] : List (S23))).bind fun t298 => (if t298 = 0 then ((plane_Proper.f a1_0 a1_1 a1_2 a1_3).bind fun t299 => (if t299 = true then (if (wrap64 ((wrap64 ((wrap64 (a1_1 - a1_0)) + 1)) * (wrap64 ((wrap64 (a1_3 - a1_2)) + 1)))) > 4096 then (some (0, 2)) else ((plane_simple.f l0).bind fun t300 => (if t300 = true then (some (sidesP l0 a1_0 a1_1 a1_2 a1_3, 0)) else (some (0, 4))))) else (some (0, 1)))) else (some (0, t298)))) = some (r1, r2) := h
  clear h
  replace H := Option.bind_eq_some_iff.mp H
  obtain ⟨t298, A30, H⟩ := H
  replace H : (if t298 = 0 then ((plane_Proper.f a1_0 a1_1 a1_2 a1_3).bind fun t299 => (if t299 = true then (if (wrap64 ((wrap64 ((wrap64 (a1_1 - a1_0)) + 1)) * (wrap64 ((wrap64 (a1_3 - a1_2)) + 1)))) > 4096 then (some (0, 2)) else ((plane_simple.f l0).bind fun t300 => (if t300 = true then (some (sidesP l0 a1_0 a1_1 a1_2 a1_3, 0)) else (some (0, 4))))) else (some (0, 1)))) else (some (0, t298))) = some (r1, r2) := H
  have A3 := Aside0.mk A30
  clear A30
  by_cases c4 : t298 = 0
  · rw [if_pos c4] at H
    have c4b0 : (t298 == 0) = true := beq_iff_eq.mpr c4
    have c4b1 : (t298 != 0) = false := bne_eq_false_iff_eq.mpr c4
    clear c4
    replace H := Option.bind_eq_some_iff.mp H
    obtain ⟨t299, A50, H⟩ := H
    replace H : (if t299 = true then (if (wrap64 ((wrap64 ((wrap64 (a1_1 - a1_0)) + 1)) * (wrap64 ((wrap64 (a1_3 - a1_2)) + 1)))) > 4096 then (some (0, 2)) else ((plane_simple.f l0).bind fun t300 => (if t300 = true then (some (sidesP l0 a1_0 a1_1 a1_2 a1_3, 0)) else (some (0, 4))))) else (some (0, 1))) = some (r1, r2) := H
    have A5 := Aside0.mk A50
    clear A50
    by_cases c6 : t299 = true
    · subst c6
      have H1 : (if (wrap64 ((wrap64 ((wrap64 (a1_1 - a1_0)) + 1)) * (wrap64 ((wrap64 (a1_3 - a1_2)) + 1)))) > 4096 then (some (0, 2)) else ((plane_simple.f l0).bind fun t300 => (if t300 = true then (some (sidesP l0 a1_0 a1_1 a1_2 a1_3, 0)) else (some (0, 4))))) = some (r1, r2) := by rw [if_pos rfl] at H; exact H
      clear H
      have H := H1
      clear H1
      by_cases c7 : (wrap64 ((wrap64 ((wrap64 (a1_1 - a1_0)) + 1)) * (wrap64 ((wrap64 (a1_3 - a1_2)) + 1)))) > 4096
      · rw [if_pos c7] at H
        have c7b0 : decide (4096 < (wrap64 ((wrap64 ((wrap64 (a1_1 - a1_0)) + 1)) * (wrap64 ((wrap64 (a1_3 - a1_2)) + 1))))) = true := decide_eq_true c7
        clear c7
        simp only [Option.some.injEq, Prod.mk.injEq] at H
        obtain ⟨rfl, rfl⟩ := H
        go_enter Try.func40, Try.ntmps40
        go_wp2_with (first | ((with_reducible refine gate_dst (N := 3) rfl ?_); refine box_event ?hg (N := 3) ?hd (cs := #[.int .i64 a1_0, .int .i64 a1_1, .int .i64 a1_2, .int .i64 a1_3]) (t := 52) ?hr ?_; (case hd => rfl); (case hg => rfl); (case hr => first | (go_simp; done) | (go_simp; rfl)); intro gb297 hg w8 hbox hb; have n0_ := Aside0.mk (below_step (by repeat (first | (with_reducible first | exact HB.out | apply below_alloc | apply pw_below_drewN | apply below_drew1) | exact HB.out)) hb); have n1_ := Aside0.mk (hbox); have n2_ := Aside0.mk ((by rw [hg]; exact (below_size (by repeat (first | (with_reducible first | exact HB.out | apply below_alloc | apply pw_below_drewN | apply below_drew1) | exact HB.out))) : w.heap.size ≤ gb297)); have n3_ := Aside0.mk ((by rw [hg]; exact (below_size (by repeat (first | (with_reducible first | exact HB.out | apply below_alloc | apply pw_below_drewN | apply below_drew1) | exact HB.out))) : w.heap.size ≤ gb297)); clear HB; have HB := n0_; have BK297 := n1_; have GW297 := n2_; have GE297 := n3_; clear n0_ n1_ n2_ n3_; clear hb hbox hg) | ((with_reducible refine gate_callee (f := 92) rfl ?_); refine goesL_ (some 14) rfl rfl Try.func92 (by kernel_rfl) rfl #[.slice A0 l0.length c0, .slice none 0 0] rfl (by (try simp only [List.map_toArray, List.map_cons, List.map_nil]); first | done | rfl | (simp only [List.length_drop, List.length_take]; rfl)) ?_; (refine (plane_ring.calls k _ _ l0 _ _ ([] : List (S23)) t298 _ ?side1 ?side2 ?side3 ?side4 A3.out).mono ?_); (case side1 => repeat (first | exact (Kd.C_below HR0.out HB.out) | (with_reducible refine Kd.C_alloc ?_ _) | (with_reducible refine Kd.C_drewN ?_ _) | (with_reducible refine Kd.C_drew ?_))); (case side2 => exact HC0.out); (case side3 => exact Kd.C_nil _ _); (case side4 => exact Nat.le_refl _); rintro e w9 ⟨rfl, hb⟩; refine ⟨_, rfl, ?_⟩; have n0_ := Aside0.mk (blk_below (g := gb297) (o := .cells #[.int .i64 a1_0, .int .i64 a1_1, .int .i64 a1_2, .int .i64 a1_3] 52 (0, 0)) (by (with_reducible repeat (first | refine blk_drewN ?_ _ | refine blk_drew ?_ | refine blk_alloc ?_ _)); exact BK297.out) hb); have n1_ := Aside0.mk (below_step (by repeat (first | (with_reducible first | exact HB.out | apply below_alloc | apply pw_below_drewN | apply below_drew1 | refine below_set ?_ GE297.out) | exact HB.out)) hb); clear BK297; clear HB; have BK297 := n0_; have HB := n1_; clear n0_ n1_; (try clear hb); (try clear hb2); (try clear hk); (try clear hi); have hcz10_0 : w9.cell? ⟨gb297, 0, none⟩ = some (.int .i64 a1_0) := (blk_cell BK297.out 0).trans rfl; have hcz10_1 : w9.cell? ⟨gb297, 1, none⟩ = some (.int .i64 a1_1) := (blk_cell BK297.out 1).trans rfl; have hcz10_2 : w9.cell? ⟨gb297, 2, none⟩ = some (.int .i64 a1_2) := (blk_cell BK297.out 2).trans rfl; have hcz10_3 : w9.cell? ⟨gb297, 3, none⟩ = some (.int .i64 a1_3) := (blk_cell BK297.out 3).trans rfl; have hfz10_0 := blk_frozen BK297.out 0; have hfz10_1 := blk_frozen BK297.out 1; have hfz10_2 := blk_frozen BK297.out 2; have hfz10_3 := blk_frozen BK297.out 3) | ((with_reducible refine gate_callee (f := 64) rfl ?_); refine goesL_ (some 20) rfl rfl Try.func64 (by kernel_rfl) rfl #[.agg #[.int .i64 a1_0, .int .i64 a1_1, .int .i64 a1_2, .int .i64 a1_3]] rfl (by (try simp only [List.map_toArray, List.map_cons, List.map_nil]); first | done | rfl | (simp only [List.length_drop, List.length_take]; rfl)) ?_; (with_reducible refine (plane_Proper.calls a1_0 a1_1 a1_2 a1_3 true _ A5.out).mono ?_); rintro e w11 ⟨rfl, hb⟩; refine ⟨_, rfl, ?_⟩; have n0_ := Aside0.mk (blk_below (g := gb297) (o := .cells #[.int .i64 a1_0, .int .i64 a1_1, .int .i64 a1_2, .int .i64 a1_3] 52 (0, 0)) (by (with_reducible repeat (first | refine blk_drewN ?_ _ | refine blk_drew ?_ | refine blk_alloc ?_ _)); exact BK297.out) hb); have n1_ := Aside0.mk (below_step (by repeat (first | (with_reducible first | exact HB.out | apply below_alloc | apply pw_below_drewN | apply below_drew1 | refine below_set ?_ GE297.out) | exact HB.out)) hb); clear BK297; clear HB; have BK297 := n0_; have HB := n1_; clear n0_ n1_; (try clear hb); (try clear hb2); (try clear hk); (try clear hi); have hcz12_0 : w11.cell? ⟨gb297, 0, none⟩ = some (.int .i64 a1_0) := (blk_cell BK297.out 0).trans rfl; have hcz12_1 : w11.cell? ⟨gb297, 1, none⟩ = some (.int .i64 a1_1) := (blk_cell BK297.out 1).trans rfl; have hcz12_2 : w11.cell? ⟨gb297, 2, none⟩ = some (.int .i64 a1_2) := (blk_cell BK297.out 2).trans rfl; have hcz12_3 : w11.cell? ⟨gb297, 3, none⟩ = some (.int .i64 a1_3) := (blk_cell BK297.out 3).trans rfl; have hfz12_0 := blk_frozen BK297.out 0; have hfz12_1 := blk_frozen BK297.out 1; have hfz12_2 := blk_frozen BK297.out 2; have hfz12_3 := blk_frozen BK297.out 3))
        go_ret2
        exact ⟨by first | rfl | (simp [errW_none, errW_some] <;> rfl) | (simp [*, errW_none, errW_some] <;> rfl), by repeat (first | (with_reducible first | exact HB.out | apply below_alloc | apply pw_below_drewN | apply below_drew1 | refine below_set ?_ GE297.out) | exact HB.out)⟩
      · rw [if_neg c7] at H
        have c7b0 : decide (4096 < (wrap64 ((wrap64 ((wrap64 (a1_1 - a1_0)) + 1)) * (wrap64 ((wrap64 (a1_3 - a1_2)) + 1))))) = false := decide_eq_false c7
        clear c7
        replace H := Option.bind_eq_some_iff.mp H
        obtain ⟨t300, A130, H⟩ := H
        replace H : (if t300 = true then (some (sidesP l0 a1_0 a1_1 a1_2 a1_3, 0)) else (some (0, 4))) = some (r1, r2) := H
        have A13 := Aside0.mk A130
        clear A130
        by_cases c14 : t300 = true
        · subst c14
          have H1 : (some (sidesP l0 a1_0 a1_1 a1_2 a1_3, 0)) = some (r1, r2) := by rw [if_pos rfl] at H; exact H
          clear H
          have H := H1
          clear H1
          simp only [Option.some.injEq, Prod.mk.injEq] at H
          obtain ⟨rfl, rfl⟩ := H
          go_enter Try.func40, Try.ntmps40
          go_upto_region 11 with (first | ((with_reducible refine gate_dst (N := 3) rfl ?_); refine box_event ?hg (N := 3) ?hd (cs := #[.int .i64 a1_0, .int .i64 a1_1, .int .i64 a1_2, .int .i64 a1_3]) (t := 52) ?hr ?_; (case hd => rfl); (case hg => rfl); (case hr => first | (go_simp; done) | (go_simp; rfl)); intro gb297 hg w15 hbox hb; have n0_ := Aside0.mk (below_step (by repeat (first | (with_reducible first | exact HB.out | apply below_alloc | apply pw_below_drewN | apply below_drew1) | exact HB.out)) hb); have n1_ := Aside0.mk (hbox); have n2_ := Aside0.mk ((by rw [hg]; exact (below_size (by repeat (first | (with_reducible first | exact HB.out | apply below_alloc | apply pw_below_drewN | apply below_drew1) | exact HB.out))) : w.heap.size ≤ gb297)); have n3_ := Aside0.mk ((by rw [hg]; exact (below_size (by repeat (first | (with_reducible first | exact HB.out | apply below_alloc | apply pw_below_drewN | apply below_drew1) | exact HB.out))) : w.heap.size ≤ gb297)); clear HB; have HB := n0_; have BK297 := n1_; have GW297 := n2_; have GE297 := n3_; clear n0_ n1_ n2_ n3_; clear hb hbox hg) | ((with_reducible refine gate_callee (f := 92) rfl ?_); refine goesL_ (some 14) rfl rfl Try.func92 (by kernel_rfl) rfl #[.slice A0 l0.length c0, .slice none 0 0] rfl (by (try simp only [List.map_toArray, List.map_cons, List.map_nil]); first | done | rfl | (simp only [List.length_drop, List.length_take]; rfl)) ?_; (refine (plane_ring.calls k _ _ l0 _ _ ([] : List (S23)) t298 _ ?side1 ?side2 ?side3 ?side4 A3.out).mono ?_); (case side1 => repeat (first | exact (Kd.C_below HR0.out HB.out) | (with_reducible refine Kd.C_alloc ?_ _) | (with_reducible refine Kd.C_drewN ?_ _) | (with_reducible refine Kd.C_drew ?_))); (case side2 => exact HC0.out); (case side3 => exact Kd.C_nil _ _); (case side4 => exact Nat.le_refl _); rintro e w16 ⟨rfl, hb⟩; refine ⟨_, rfl, ?_⟩; have n0_ := Aside0.mk (blk_below (g := gb297) (o := .cells #[.int .i64 a1_0, .int .i64 a1_1, .int .i64 a1_2, .int .i64 a1_3] 52 (0, 0)) (by (with_reducible repeat (first | refine blk_drewN ?_ _ | refine blk_drew ?_ | refine blk_alloc ?_ _)); exact BK297.out) hb); have n1_ := Aside0.mk (below_step (by repeat (first | (with_reducible first | exact HB.out | apply below_alloc | apply pw_below_drewN | apply below_drew1 | refine below_set ?_ GE297.out) | exact HB.out)) hb); clear BK297; clear HB; have BK297 := n0_; have HB := n1_; clear n0_ n1_; (try clear hb); (try clear hb2); (try clear hk); (try clear hi); have hcz17_0 : w16.cell? ⟨gb297, 0, none⟩ = some (.int .i64 a1_0) := (blk_cell BK297.out 0).trans rfl; have hcz17_1 : w16.cell? ⟨gb297, 1, none⟩ = some (.int .i64 a1_1) := (blk_cell BK297.out 1).trans rfl; have hcz17_2 : w16.cell? ⟨gb297, 2, none⟩ = some (.int .i64 a1_2) := (blk_cell BK297.out 2).trans rfl; have hcz17_3 : w16.cell? ⟨gb297, 3, none⟩ = some (.int .i64 a1_3) := (blk_cell BK297.out 3).trans rfl; have hfz17_0 := blk_frozen BK297.out 0; have hfz17_1 := blk_frozen BK297.out 1; have hfz17_2 := blk_frozen BK297.out 2; have hfz17_3 := blk_frozen BK297.out 3) | ((with_reducible refine gate_callee (f := 64) rfl ?_); refine goesL_ (some 20) rfl rfl Try.func64 (by kernel_rfl) rfl #[.agg #[.int .i64 a1_0, .int .i64 a1_1, .int .i64 a1_2, .int .i64 a1_3]] rfl (by (try simp only [List.map_toArray, List.map_cons, List.map_nil]); first | done | rfl | (simp only [List.length_drop, List.length_take]; rfl)) ?_; (with_reducible refine (plane_Proper.calls a1_0 a1_1 a1_2 a1_3 true _ A5.out).mono ?_); rintro e w18 ⟨rfl, hb⟩; refine ⟨_, rfl, ?_⟩; have n0_ := Aside0.mk (blk_below (g := gb297) (o := .cells #[.int .i64 a1_0, .int .i64 a1_1, .int .i64 a1_2, .int .i64 a1_3] 52 (0, 0)) (by (with_reducible repeat (first | refine blk_drewN ?_ _ | refine blk_drew ?_ | refine blk_alloc ?_ _)); exact BK297.out) hb); have n1_ := Aside0.mk (below_step (by repeat (first | (with_reducible first | exact HB.out | apply below_alloc | apply pw_below_drewN | apply below_drew1 | refine below_set ?_ GE297.out) | exact HB.out)) hb); clear BK297; clear HB; have BK297 := n0_; have HB := n1_; clear n0_ n1_; (try clear hb); (try clear hb2); (try clear hk); (try clear hi); have hcz19_0 : w18.cell? ⟨gb297, 0, none⟩ = some (.int .i64 a1_0) := (blk_cell BK297.out 0).trans rfl; have hcz19_1 : w18.cell? ⟨gb297, 1, none⟩ = some (.int .i64 a1_1) := (blk_cell BK297.out 1).trans rfl; have hcz19_2 : w18.cell? ⟨gb297, 2, none⟩ = some (.int .i64 a1_2) := (blk_cell BK297.out 2).trans rfl; have hcz19_3 : w18.cell? ⟨gb297, 3, none⟩ = some (.int .i64 a1_3) := (blk_cell BK297.out 3).trans rfl; have hfz19_0 := blk_frozen BK297.out 0; have hfz19_1 := blk_frozen BK297.out 1; have hfz19_2 := blk_frozen BK297.out 2; have hfz19_3 := blk_frozen BK297.out 3) | ((with_reducible refine gate_callee (f := 95) rfl ?_); refine goesL_ (some 43) rfl rfl Try.func95 (by kernel_rfl) rfl #[.slice A0 l0.length c0] rfl (by (try simp only [List.map_toArray, List.map_cons, List.map_nil]); first | done | rfl | (simp only [List.length_drop, List.length_take]; rfl)) ?_; (with_reducible refine (plane_simple.calls _ _ l0 true _ ?side1 ?side2 A13.out).mono ?_); (case side1 => repeat (first | exact (Kd.C_below HR0.out HB.out) | (with_reducible refine Kd.C_alloc ?_ _) | (with_reducible refine Kd.C_drewN ?_ _) | (with_reducible refine Kd.C_drew ?_))); (case side2 => exact HC0.out); rintro e w20 ⟨rfl, hb⟩; refine ⟨_, rfl, ?_⟩; have n0_ := Aside0.mk (blk_below (g := gb297) (o := .cells #[.int .i64 a1_0, .int .i64 a1_1, .int .i64 a1_2, .int .i64 a1_3] 52 (0, 0)) (by (with_reducible repeat (first | refine blk_drewN ?_ _ | refine blk_drew ?_ | refine blk_alloc ?_ _)); exact BK297.out) hb); have n1_ := Aside0.mk (below_step (by repeat (first | (with_reducible first | exact HB.out | apply below_alloc | apply pw_below_drewN | apply below_drew1 | refine below_set ?_ GE297.out) | exact HB.out)) hb); clear BK297; clear HB; have BK297 := n0_; have HB := n1_; clear n0_ n1_; (try clear hb); (try clear hb2); (try clear hk); (try clear hi)))
          have bX : Blk w20 gb297 #[.int .i64 a1_0, .int .i64 a1_1, .int .i64 a1_2, .int .i64 a1_3] 52 := BK297.out
          have bX1 := bX.alloc (.cells #[.bool false, .bool false, .bool false] 104)
          have bS1 := Blk.new w20 104 (seenC (false, false, false))
          have hB1 : Below w.heap.size w (w20.alloc (.cells #[.bool false, .bool false, .bool false] 104)) := HB.out.alloc HB.out.size _
          have hlt := bX.lt
          have hge := GE297.out
          have hsz := HB.out.size
          have hl : l0.length ≤ 9223372036854775806 := by
            have := A13.out
            unfold plane_simple.f at this
            split at this
            · assumption
            · cases this
          obtain ⟨q0, q1, q2, q3, q4, q5⟩ := proper_true A5.out
          have HR1 := Kd.C_below HR0.out hB1
          obtain ⟨W1, hW1⟩ : ∃ W, w20.alloc (.cells #[.bool false, .bool false, .bool false] 104) = W := ⟨_, rfl⟩
          obtain ⟨sb, hsb⟩ : ∃ n, w20.heap.size = n := ⟨_, rfl⟩
          simp only [seenC] at bS1
          rw [hW1] at bX1 bS1 hB1 ⊢
          rw [hsb] at bS1 hlt hsz ⊢
          clear hW1 hsb BK297 HB bX
          have cX0 : W1.cell? ⟨gb297, 0, none⟩ = some (.int .i64 a1_0) := bX1.cell 0
          have fX0 := bX1.frozen 0
          go_wp2
          obtain ⟨SF, hSF⟩ : ∃ SF, sideRows l0 a1_2 a1_3 (a1_1 - a1_0 + 1).toNat a1_0 (false, false, false) = SF := ⟨_, rfl⟩
          have hgoal : sidesP l0 a1_0 a1_1 a1_2 a1_3 = sideSum SF := by unfold sidesP; rw [hSF]
          have HSF := Aside0.mk hSF
          clear hSF
          have HG := Aside0.mk hgoal
          have HQ := Aside0.mk (And.intro q0 (And.intro q1 (And.intro q2 (And.intro q3 (And.intro q4 q5)))))
          have HS := Aside0.mk (And.intro hlt (And.intro hge hsz))
          have HL := Aside0.mk hl
          clear hgoal q0 q1 q2 q3 q4 q5 hlt hge hsz hl cX0 fX0
          go_loopg [8] ((a1_1 - a1_0 + 1).toNat + 1) (fun kq v8 w' => ∃ (x : Int) (S : Bool × Bool × Bool), v8 = .int .i64 x ∧ Aside0 (kq = (a1_1 - x + 1).toNat + 1 ∧ a1_0 ≤ x ∧ x ≤ a1_1 + 1) ∧ Aside0 (sideRows l0 a1_2 a1_3 (a1_1 - x + 1).toNat x S = SF) ∧ Aside0 (Blk w' gb297 #[.int .i64 a1_0, .int .i64 a1_1, .int .i64 a1_2, .int .i64 a1_3] 52) ∧ Aside0 (Blk w' sb (seenC S) 104) ∧ Aside0 (Below w.heap.size w w'))
          case atStart => exact ⟨a1_0, (false, false, false), rfl, ⟨by have := HQ.out; omega⟩, HSF, ⟨bX1⟩, ⟨bS1⟩, ⟨hB1⟩⟩
          case round =>
            clear bX1 bS1 hB1 HSF HR1
            obtain ⟨x, S, rfl, HK, HA, HBX, HBS, HB⟩ := hrel
            have cX0 : wr.cell? ⟨gb297, 1, none⟩ = some (.int .i64 a1_1) := HBX.out.cell 1
            have cX1 : wr.cell? ⟨gb297, 2, none⟩ = some (.int .i64 a1_2) := HBX.out.cell 2
            cases gk with
            | zero => exact absurd HK.out.1 (by omega)
            | succ k1 =>
            by_cases c1 : x ≤ a1_1
            · have c1b0 : decide (x ≤ a1_1) = true := decide_eq_true c1
              go_wp2
              obtain ⟨S1, hS1⟩ : ∃ S1, sideCol l0 x (a1_3 - a1_2 + 1).toNat a1_2 S = S1 := ⟨_, rfl⟩
              have HA1 : Aside0 (sideRows l0 a1_2 a1_3 (a1_1 - (x + 1) + 1).toNat (x + 1) S1 = SF) := ⟨by
                have := HA.out
                rw [toNat_step c1, sideRows, hS1] at this
                exact this⟩
              have HS1 := Aside0.mk hS1
              have HC1 := Aside0.mk c1
              clear hS1 c1 c1b0 cX0 cX1 HA
              go_loopg [9] ((a1_3 - a1_2 + 1).toNat + 1) (fun kq v9 w' => ∃ (y : Int) (S : Bool × Bool × Bool), v9 = .int .i64 y ∧ Aside0 (kq = (a1_3 - y + 1).toNat + 1 ∧ a1_2 ≤ y ∧ y ≤ a1_3 + 1) ∧ Aside0 (sideCol l0 x (a1_3 - y + 1).toNat y S = S1) ∧ Aside0 (Blk w' gb297 #[.int .i64 a1_0, .int .i64 a1_1, .int .i64 a1_2, .int .i64 a1_3] 52) ∧ Aside0 (Blk w' sb (seenC S) 104) ∧ Aside0 (Below w.heap.size w w'))
              case atStart => exact ⟨a1_2, S, rfl, ⟨by have := HQ.out; omega⟩, HS1, HBX, HBS, HB⟩
              case round =>
                clear HS1 HBX HBS HB
                obtain ⟨y, S', rfl, HK2, HA2, HBX, HBS, HB⟩ := hrel
                have cX0 : wr.cell? ⟨gb297, 3, none⟩ = some (.int .i64 a1_3) := HBX.out.cell 3
                cases gk with
                | zero => exact absurd HK2.out.1 (by omega)
                | succ k2 =>
                by_cases c2 : y ≤ a1_3
                · have c2b0 : decide (y ≤ a1_3) = true := decide_eq_true c2
                  have hw := plane_where_z l0 x y HL.out
                  have hy1 := Aside0.mk (wrap_s (show -1048576 ≤ y by have := HQ.out; have := HK2.out; omega) (show y ≤ 1048576 by have := HQ.out; have := HK2.out; omega))
                  have HC2 := Aside0.mk c2
                  clear c2
                  rcases whereZ_range l0 ⟨x, y⟩ with hz | hz | hz
                  · rw [hz] at hw
                    have HW := Aside0.mk hw
                    have HZ := Aside0.mk hz
                    clear hw hz
                    have ez := wrap_m1
                    go_wp2_with (go_at_call 101; refine (plane_where.calls A0 c0 l0 x y _ _ (Kd.C_below HR0.out HB.out) HC0.out HW.out).mono ?_; rintro e w6 ⟨rfl, hb⟩; have HBX6 := Aside0.mk (HBX.out.below hb); have HBS6 := Aside0.mk (HBS.out.below hb); have HB6 := Aside0.mk (below_step HB.out hb); have cS : w6.cell? ⟨sb, 0, none⟩ = some _ := HBS6.out.cell 0; have fS := HBS6.out.frozen 0; clear hb)
                    go_roundg k2
                    case measure => omega
                    case rel =>
                      refine ⟨y + 1, (true, S'.2.1, S'.2.2), by rw [hy1.out], ⟨by have := HK2.out; have := HC2.out; omega⟩, ⟨?_⟩, ⟨blk_far HBX6.out (show gb297 ≠ sb from Nat.ne_of_lt HS.out.1) _⟩, ⟨blk_put HBS6.out 0 (.bool true) rfl⟩, ⟨below_set HB6.out (by have := HS.out; omega)⟩⟩
                      have := HA2.out
                      rw [toNat_step HC2.out, sideCol] at this
                      simpa [sideStep, HZ.out] using this
                  · rw [hz] at hw
                    have HW := Aside0.mk hw
                    have HZ := Aside0.mk hz
                    clear hw hz
                    have ez := wrap_z1
                    go_wp2_with (go_at_call 101; refine (plane_where.calls A0 c0 l0 x y _ _ (Kd.C_below HR0.out HB.out) HC0.out HW.out).mono ?_; rintro e w6 ⟨rfl, hb⟩; have HBX6 := Aside0.mk (HBX.out.below hb); have HBS6 := Aside0.mk (HBS.out.below hb); have HB6 := Aside0.mk (below_step HB.out hb); have cS : w6.cell? ⟨sb, 1, none⟩ = some _ := HBS6.out.cell 1; have fS := HBS6.out.frozen 1; clear hb)
                    go_roundg k2
                    case measure => omega
                    case rel =>
                      refine ⟨y + 1, (S'.1, true, S'.2.2), by rw [hy1.out], ⟨by have := HK2.out; have := HC2.out; omega⟩, ⟨?_⟩, ⟨blk_far HBX6.out (show gb297 ≠ sb from Nat.ne_of_lt HS.out.1) _⟩, ⟨blk_put HBS6.out 1 (.bool true) rfl⟩, ⟨below_set HB6.out (by have := HS.out; omega)⟩⟩
                      have := HA2.out
                      rw [toNat_step HC2.out, sideCol] at this
                      simpa [sideStep, HZ.out] using this
                  · rw [hz] at hw
                    have HW := Aside0.mk hw
                    have HZ := Aside0.mk hz
                    clear hw hz
                    have ez := wrap_p1
                    go_wp2_with (go_at_call 101; refine (plane_where.calls A0 c0 l0 x y _ _ (Kd.C_below HR0.out HB.out) HC0.out HW.out).mono ?_; rintro e w6 ⟨rfl, hb⟩; have HBX6 := Aside0.mk (HBX.out.below hb); have HBS6 := Aside0.mk (HBS.out.below hb); have HB6 := Aside0.mk (below_step HB.out hb); have cS : w6.cell? ⟨sb, 2, none⟩ = some _ := HBS6.out.cell 2; have fS := HBS6.out.frozen 2; clear hb)
                    go_roundg k2
                    case measure => omega
                    case rel =>
                      refine ⟨y + 1, (S'.1, S'.2.1, true), by rw [hy1.out], ⟨by have := HK2.out; have := HC2.out; omega⟩, ⟨?_⟩, ⟨blk_far HBX6.out (show gb297 ≠ sb from Nat.ne_of_lt HS.out.1) _⟩, ⟨blk_put HBS6.out 2 (.bool true) rfl⟩, ⟨below_set HB6.out (by have := HS.out; omega)⟩⟩
                      have := HA2.out
                      rw [toNat_step HC2.out, sideCol] at this
                      simpa [sideStep, HZ.out] using this
                · have c2b0 : decide (y ≤ a1_3) = false := decide_eq_false c2
                  have HC2 := Aside0.mk c2
                  clear c2
                  go_wp2
                  go_roundg k1
                  case measure => omega
                  case rel =>
                    have hx1 := wrap_s (show -1048576 ≤ x by have := HQ.out; have := HK.out; omega) (show x ≤ 1048576 by have := HQ.out; have := HC1.out; omega)
                    have e1 : S' = S1 := by have := HA2.out; rw [toNat_none (x := y) (y := a1_3) (by have := HC2.out; omega)] at this; exact this
                    refine ⟨x + 1, S1, by rw [hx1], ⟨by have := HK.out; have := HC1.out; omega⟩, HA1, HBX, ⟨by rw [← e1]; exact HBS.out⟩, HB⟩
            · have c1b0 : decide (x ≤ a1_1) = false := decide_eq_false c1
              have e1 : S = SF := by have := HA.out; rw [toNat_none (x := x) (y := a1_1) (by omega)] at this; exact this
              subst e1
              have HGE := Aside0.mk HB.out.size
              have HBlt := Aside0.mk HBS.out.lt
              have HB7 : Aside0 (Below w.heap.size w (wr.alloc (.cells #[.int .i64 1, .int .i64 2, .int .i64 4] 53))) := ⟨HB.out.alloc HB.out.size _⟩
              have HBS7 : Aside0 (Blk (wr.alloc (.cells #[.int .i64 1, .int .i64 2, .int .i64 4] 53)) sb (seenC S) 104) := ⟨HBS.out.alloc _⟩
              have HBL7 : Aside0 (Blk (wr.alloc (.cells #[.int .i64 1, .int .i64 2, .int .i64 4] 53)) wr.heap.size #[.int .i64 1, .int .i64 2, .int .i64 4] 53) := ⟨Blk.new wr 53 _⟩
              go_wp2
              obtain ⟨W2, hW2⟩ : ∃ W2, wr.alloc (.cells #[.int .i64 1, .int .i64 2, .int .i64 4] 53) = W2 := ⟨_, rfl⟩
              obtain ⟨tb, htb⟩ : ∃ tb, wr.heap.size = tb := ⟨_, rfl⟩
              rw [hW2] at HB7 HBS7 HBL7 ⊢
              rw [htb] at HBL7 ⊢
              clear hW2 htb HB HBS HBX cX0 cX1 HA
              go_loopg [10, 75] 4 (fun kq v10 v75 w' => ∃ (i : Nat) (m : Int), v75 = .int .i64 (i : Int) ∧ v10 = .int .i64 m ∧ Aside0 (kq = 4 - i ∧ i ≤ 3) ∧ Aside0 (m = (if 0 < i ∧ S.1 = true then 1 else 0) + (if 1 < i ∧ S.2.1 = true then 2 else 0) + (if 2 < i ∧ S.2.2 = true then 4 else 0)) ∧ w' = W2)
              case atStart => exact ⟨0, 0, rfl, rfl, ⟨by omega⟩, ⟨by simp⟩, rfl⟩
              case round =>
                obtain ⟨i, m, rfl, rfl, HK3, HM, rfl⟩ := hrel
                have hi : i = 0 ∨ i = 1 ∨ i = 2 ∨ i = 3 := by have := HK3.out; omega
                have cL0 : wr.cell? ⟨tb, 0, none⟩ = some (.int .i64 1) := HBL7.out.cell 0
                have cL1 : wr.cell? ⟨tb, 1, none⟩ = some (.int .i64 2) := HBL7.out.cell 1
                have cL2 : wr.cell? ⟨tb, 2, none⟩ = some (.int .i64 4) := HBL7.out.cell 2
                have cS0 : wr.cell? ⟨sb, 0, none⟩ = some (.bool S.1) := HBS7.out.cell 0
                have cS1 : wr.cell? ⟨sb, 1, none⟩ = some (.bool S.2.1) := HBS7.out.cell 1
                have cS2 : wr.cell? ⟨sb, 2, none⟩ = some (.bool S.2.2) := HBS7.out.cell 2
                obtain ⟨s0, s1, s2⟩ := S
                simp only at cS0 cS1 cS2
                rcases hi with rfl | rfl | rfl | rfl
                · obtain rfl : gk = 4 := by have := HK3.out; omega
                  have hm : 0 ≤ m ∧ m ≤ 3 := by have h := HM.out; cases s0 <;> cases s1 <;> simp at h <;> omega
                  have hw := wrap_sm (m := m + 1) (by omega) (by omega)
                  cases s0 with
                  | true =>
                    go_wp2
                    go_roundg 3
                    case measure => omega
                    case rel => exact ⟨1, m + 1, by first | rfl | (congr 1), by first | rfl | rw [hw], ⟨by omega⟩, ⟨by have h := HM.out; simp at h ⊢; omega⟩, rfl⟩
                  | false =>
                    go_wp2
                    go_roundg 3
                    case measure => omega
                    case rel => exact ⟨1, m, by first | rfl | (congr 1), rfl, ⟨by omega⟩, ⟨by have h := HM.out; simp at h ⊢; omega⟩, rfl⟩
                · obtain rfl : gk = 3 := by have := HK3.out; omega
                  have hm : 0 ≤ m ∧ m ≤ 3 := by have h := HM.out; cases s0 <;> cases s1 <;> simp at h <;> omega
                  have hw := wrap_sm (m := m + 2) (by omega) (by omega)
                  cases s1 with
                  | true =>
                    go_wp2
                    go_roundg 2
                    case measure => omega
                    case rel => exact ⟨2, m + 2, by first | rfl | (congr 1), by first | rfl | rw [hw], ⟨by omega⟩, ⟨by have h := HM.out; simp at h ⊢; omega⟩, rfl⟩
                  | false =>
                    go_wp2
                    go_roundg 2
                    case measure => omega
                    case rel => exact ⟨2, m, by first | rfl | (congr 1), rfl, ⟨by omega⟩, ⟨by have h := HM.out; simp at h ⊢; omega⟩, rfl⟩
                · obtain rfl : gk = 2 := by have := HK3.out; omega
                  have hm : 0 ≤ m ∧ m ≤ 3 := by have h := HM.out; cases s0 <;> cases s1 <;> simp at h <;> omega
                  have hw := wrap_sm (m := m + 4) (by omega) (by omega)
                  cases s2 with
                  | true =>
                    go_wp2
                    go_roundg 1
                    case measure => omega
                    case rel => exact ⟨3, m + 4, by first | rfl | (congr 1), by first | rfl | rw [hw], ⟨by omega⟩, ⟨by have h := HM.out; simp at h ⊢; omega⟩, rfl⟩
                  | false =>
                    go_wp2
                    go_roundg 1
                    case measure => omega
                    case rel => exact ⟨3, m, by first | rfl | (congr 1), rfl, ⟨by omega⟩, ⟨by have h := HM.out; simp at h ⊢; omega⟩, rfl⟩
                · have hm : m = sidesP l0 a1_0 a1_1 a1_2 a1_3 := by rw [HG.out, HM.out]; simp [sideSum]
                  subst hm
                  go_wp2
                  go_ret2
                  exact ⟨rfl, HB7.out⟩
        · replace c14 := Bool.eq_false_iff.mpr c14
          subst c14
          have H1 : (some (0, 4)) = some (r1, r2) := by rw [if_neg (show ¬ (false = true) by decide)] at H; exact H
          clear H
          have H := H1
          clear H1
          simp only [Option.some.injEq, Prod.mk.injEq] at H
          obtain ⟨rfl, rfl⟩ := H
          go_enter Try.func40, Try.ntmps40
          go_wp2_with (first | ((with_reducible refine gate_dst (N := 3) rfl ?_); refine box_event ?hg (N := 3) ?hd (cs := #[.int .i64 a1_0, .int .i64 a1_1, .int .i64 a1_2, .int .i64 a1_3]) (t := 52) ?hr ?_; (case hd => rfl); (case hg => rfl); (case hr => first | (go_simp; done) | (go_simp; rfl)); intro gb297 hg w21 hbox hb; have n0_ := Aside0.mk (below_step (by repeat (first | (with_reducible first | exact HB.out | apply below_alloc | apply pw_below_drewN | apply below_drew1) | exact HB.out)) hb); have n1_ := Aside0.mk (hbox); have n2_ := Aside0.mk ((by rw [hg]; exact (below_size (by repeat (first | (with_reducible first | exact HB.out | apply below_alloc | apply pw_below_drewN | apply below_drew1) | exact HB.out))) : w.heap.size ≤ gb297)); have n3_ := Aside0.mk ((by rw [hg]; exact (below_size (by repeat (first | (with_reducible first | exact HB.out | apply below_alloc | apply pw_below_drewN | apply below_drew1) | exact HB.out))) : w.heap.size ≤ gb297)); clear HB; have HB := n0_; have BK297 := n1_; have GW297 := n2_; have GE297 := n3_; clear n0_ n1_ n2_ n3_; clear hb hbox hg) | ((with_reducible refine gate_callee (f := 92) rfl ?_); refine goesL_ (some 14) rfl rfl Try.func92 (by kernel_rfl) rfl #[.slice A0 l0.length c0, .slice none 0 0] rfl (by (try simp only [List.map_toArray, List.map_cons, List.map_nil]); first | done | rfl | (simp only [List.length_drop, List.length_take]; rfl)) ?_; (refine (plane_ring.calls k _ _ l0 _ _ ([] : List (S23)) t298 _ ?side1 ?side2 ?side3 ?side4 A3.out).mono ?_); (case side1 => repeat (first | exact (Kd.C_below HR0.out HB.out) | (with_reducible refine Kd.C_alloc ?_ _) | (with_reducible refine Kd.C_drewN ?_ _) | (with_reducible refine Kd.C_drew ?_))); (case side2 => exact HC0.out); (case side3 => exact Kd.C_nil _ _); (case side4 => exact Nat.le_refl _); rintro e w22 ⟨rfl, hb⟩; refine ⟨_, rfl, ?_⟩; have n0_ := Aside0.mk (blk_below (g := gb297) (o := .cells #[.int .i64 a1_0, .int .i64 a1_1, .int .i64 a1_2, .int .i64 a1_3] 52 (0, 0)) (by (with_reducible repeat (first | refine blk_drewN ?_ _ | refine blk_drew ?_ | refine blk_alloc ?_ _)); exact BK297.out) hb); have n1_ := Aside0.mk (below_step (by repeat (first | (with_reducible first | exact HB.out | apply below_alloc | apply pw_below_drewN | apply below_drew1 | refine below_set ?_ GE297.out) | exact HB.out)) hb); clear BK297; clear HB; have BK297 := n0_; have HB := n1_; clear n0_ n1_; (try clear hb); (try clear hb2); (try clear hk); (try clear hi); have hcz23_0 : w22.cell? ⟨gb297, 0, none⟩ = some (.int .i64 a1_0) := (blk_cell BK297.out 0).trans rfl; have hcz23_1 : w22.cell? ⟨gb297, 1, none⟩ = some (.int .i64 a1_1) := (blk_cell BK297.out 1).trans rfl; have hcz23_2 : w22.cell? ⟨gb297, 2, none⟩ = some (.int .i64 a1_2) := (blk_cell BK297.out 2).trans rfl; have hcz23_3 : w22.cell? ⟨gb297, 3, none⟩ = some (.int .i64 a1_3) := (blk_cell BK297.out 3).trans rfl; have hfz23_0 := blk_frozen BK297.out 0; have hfz23_1 := blk_frozen BK297.out 1; have hfz23_2 := blk_frozen BK297.out 2; have hfz23_3 := blk_frozen BK297.out 3) | ((with_reducible refine gate_callee (f := 64) rfl ?_); refine goesL_ (some 20) rfl rfl Try.func64 (by kernel_rfl) rfl #[.agg #[.int .i64 a1_0, .int .i64 a1_1, .int .i64 a1_2, .int .i64 a1_3]] rfl (by (try simp only [List.map_toArray, List.map_cons, List.map_nil]); first | done | rfl | (simp only [List.length_drop, List.length_take]; rfl)) ?_; (with_reducible refine (plane_Proper.calls a1_0 a1_1 a1_2 a1_3 true _ A5.out).mono ?_); rintro e w24 ⟨rfl, hb⟩; refine ⟨_, rfl, ?_⟩; have n0_ := Aside0.mk (blk_below (g := gb297) (o := .cells #[.int .i64 a1_0, .int .i64 a1_1, .int .i64 a1_2, .int .i64 a1_3] 52 (0, 0)) (by (with_reducible repeat (first | refine blk_drewN ?_ _ | refine blk_drew ?_ | refine blk_alloc ?_ _)); exact BK297.out) hb); have n1_ := Aside0.mk (below_step (by repeat (first | (with_reducible first | exact HB.out | apply below_alloc | apply pw_below_drewN | apply below_drew1 | refine below_set ?_ GE297.out) | exact HB.out)) hb); clear BK297; clear HB; have BK297 := n0_; have HB := n1_; clear n0_ n1_; (try clear hb); (try clear hb2); (try clear hk); (try clear hi); have hcz25_0 : w24.cell? ⟨gb297, 0, none⟩ = some (.int .i64 a1_0) := (blk_cell BK297.out 0).trans rfl; have hcz25_1 : w24.cell? ⟨gb297, 1, none⟩ = some (.int .i64 a1_1) := (blk_cell BK297.out 1).trans rfl; have hcz25_2 : w24.cell? ⟨gb297, 2, none⟩ = some (.int .i64 a1_2) := (blk_cell BK297.out 2).trans rfl; have hcz25_3 : w24.cell? ⟨gb297, 3, none⟩ = some (.int .i64 a1_3) := (blk_cell BK297.out 3).trans rfl; have hfz25_0 := blk_frozen BK297.out 0; have hfz25_1 := blk_frozen BK297.out 1; have hfz25_2 := blk_frozen BK297.out 2; have hfz25_3 := blk_frozen BK297.out 3) | ((with_reducible refine gate_callee (f := 95) rfl ?_); refine goesL_ (some 43) rfl rfl Try.func95 (by kernel_rfl) rfl #[.slice A0 l0.length c0] rfl (by (try simp only [List.map_toArray, List.map_cons, List.map_nil]); first | done | rfl | (simp only [List.length_drop, List.length_take]; rfl)) ?_; (with_reducible refine (plane_simple.calls _ _ l0 false _ ?side1 ?side2 A13.out).mono ?_); (case side1 => repeat (first | exact (Kd.C_below HR0.out HB.out) | (with_reducible refine Kd.C_alloc ?_ _) | (with_reducible refine Kd.C_drewN ?_ _) | (with_reducible refine Kd.C_drew ?_))); (case side2 => exact HC0.out); rintro e w26 ⟨rfl, hb⟩; refine ⟨_, rfl, ?_⟩; have n0_ := Aside0.mk (blk_below (g := gb297) (o := .cells #[.int .i64 a1_0, .int .i64 a1_1, .int .i64 a1_2, .int .i64 a1_3] 52 (0, 0)) (by (with_reducible repeat (first | refine blk_drewN ?_ _ | refine blk_drew ?_ | refine blk_alloc ?_ _)); exact BK297.out) hb); have n1_ := Aside0.mk (below_step (by repeat (first | (with_reducible first | exact HB.out | apply below_alloc | apply pw_below_drewN | apply below_drew1 | refine below_set ?_ GE297.out) | exact HB.out)) hb); clear BK297; clear HB; have BK297 := n0_; have HB := n1_; clear n0_ n1_; (try clear hb); (try clear hb2); (try clear hk); (try clear hi)))
          go_ret2
          exact ⟨by first | rfl | (simp [errW_none, errW_some] <;> rfl) | (simp [*, errW_none, errW_some] <;> rfl), by repeat (first | (with_reducible first | exact HB.out | apply below_alloc | apply pw_below_drewN | apply below_drew1 | refine below_set ?_ GE297.out) | exact HB.out)⟩
    · replace c6 := Bool.eq_false_iff.mpr c6
      subst c6
      have H1 : (some (0, 1)) = some (r1, r2) := by rw [if_neg (show ¬ (false = true) by decide)] at H; exact H
      clear H
      have H := H1
      clear H1
      simp only [Option.some.injEq, Prod.mk.injEq] at H
      obtain ⟨rfl, rfl⟩ := H
      go_enter Try.func40, Try.ntmps40
      go_wp2_with (first | ((with_reducible refine gate_dst (N := 3) rfl ?_); refine box_event ?hg (N := 3) ?hd (cs := #[.int .i64 a1_0, .int .i64 a1_1, .int .i64 a1_2, .int .i64 a1_3]) (t := 52) ?hr ?_; (case hd => rfl); (case hg => rfl); (case hr => first | (go_simp; done) | (go_simp; rfl)); intro gb297 hg w27 hbox hb; have n0_ := Aside0.mk (below_step (by repeat (first | (with_reducible first | exact HB.out | apply below_alloc | apply pw_below_drewN | apply below_drew1) | exact HB.out)) hb); have n1_ := Aside0.mk (hbox); have n2_ := Aside0.mk ((by rw [hg]; exact (below_size (by repeat (first | (with_reducible first | exact HB.out | apply below_alloc | apply pw_below_drewN | apply below_drew1) | exact HB.out))) : w.heap.size ≤ gb297)); have n3_ := Aside0.mk ((by rw [hg]; exact (below_size (by repeat (first | (with_reducible first | exact HB.out | apply below_alloc | apply pw_below_drewN | apply below_drew1) | exact HB.out))) : w.heap.size ≤ gb297)); clear HB; have HB := n0_; have BK297 := n1_; have GW297 := n2_; have GE297 := n3_; clear n0_ n1_ n2_ n3_; clear hb hbox hg) | ((with_reducible refine gate_callee (f := 92) rfl ?_); refine goesL_ (some 14) rfl rfl Try.func92 (by kernel_rfl) rfl #[.slice A0 l0.length c0, .slice none 0 0] rfl (by (try simp only [List.map_toArray, List.map_cons, List.map_nil]); first | done | rfl | (simp only [List.length_drop, List.length_take]; rfl)) ?_; (refine (plane_ring.calls k _ _ l0 _ _ ([] : List (S23)) t298 _ ?side1 ?side2 ?side3 ?side4 A3.out).mono ?_); (case side1 => repeat (first | exact (Kd.C_below HR0.out HB.out) | (with_reducible refine Kd.C_alloc ?_ _) | (with_reducible refine Kd.C_drewN ?_ _) | (with_reducible refine Kd.C_drew ?_))); (case side2 => exact HC0.out); (case side3 => exact Kd.C_nil _ _); (case side4 => exact Nat.le_refl _); rintro e w28 ⟨rfl, hb⟩; refine ⟨_, rfl, ?_⟩; have n0_ := Aside0.mk (blk_below (g := gb297) (o := .cells #[.int .i64 a1_0, .int .i64 a1_1, .int .i64 a1_2, .int .i64 a1_3] 52 (0, 0)) (by (with_reducible repeat (first | refine blk_drewN ?_ _ | refine blk_drew ?_ | refine blk_alloc ?_ _)); exact BK297.out) hb); have n1_ := Aside0.mk (below_step (by repeat (first | (with_reducible first | exact HB.out | apply below_alloc | apply pw_below_drewN | apply below_drew1 | refine below_set ?_ GE297.out) | exact HB.out)) hb); clear BK297; clear HB; have BK297 := n0_; have HB := n1_; clear n0_ n1_; (try clear hb); (try clear hb2); (try clear hk); (try clear hi); have hcz29_0 : w28.cell? ⟨gb297, 0, none⟩ = some (.int .i64 a1_0) := (blk_cell BK297.out 0).trans rfl; have hcz29_1 : w28.cell? ⟨gb297, 1, none⟩ = some (.int .i64 a1_1) := (blk_cell BK297.out 1).trans rfl; have hcz29_2 : w28.cell? ⟨gb297, 2, none⟩ = some (.int .i64 a1_2) := (blk_cell BK297.out 2).trans rfl; have hcz29_3 : w28.cell? ⟨gb297, 3, none⟩ = some (.int .i64 a1_3) := (blk_cell BK297.out 3).trans rfl; have hfz29_0 := blk_frozen BK297.out 0; have hfz29_1 := blk_frozen BK297.out 1; have hfz29_2 := blk_frozen BK297.out 2; have hfz29_3 := blk_frozen BK297.out 3) | ((with_reducible refine gate_callee (f := 64) rfl ?_); refine goesL_ (some 20) rfl rfl Try.func64 (by kernel_rfl) rfl #[.agg #[.int .i64 a1_0, .int .i64 a1_1, .int .i64 a1_2, .int .i64 a1_3]] rfl (by (try simp only [List.map_toArray, List.map_cons, List.map_nil]); first | done | rfl | (simp only [List.length_drop, List.length_take]; rfl)) ?_; (with_reducible refine (plane_Proper.calls a1_0 a1_1 a1_2 a1_3 false _ A5.out).mono ?_); rintro e w30 ⟨rfl, hb⟩; refine ⟨_, rfl, ?_⟩; have n0_ := Aside0.mk (blk_below (g := gb297) (o := .cells #[.int .i64 a1_0, .int .i64 a1_1, .int .i64 a1_2, .int .i64 a1_3] 52 (0, 0)) (by (with_reducible repeat (first | refine blk_drewN ?_ _ | refine blk_drew ?_ | refine blk_alloc ?_ _)); exact BK297.out) hb); have n1_ := Aside0.mk (below_step (by repeat (first | (with_reducible first | exact HB.out | apply below_alloc | apply pw_below_drewN | apply below_drew1 | refine below_set ?_ GE297.out) | exact HB.out)) hb); clear BK297; clear HB; have BK297 := n0_; have HB := n1_; clear n0_ n1_; (try clear hb); (try clear hb2); (try clear hk); (try clear hi)))
      go_ret2
      exact ⟨by first | rfl | (simp [errW_none, errW_some] <;> rfl) | (simp [*, errW_none, errW_some] <;> rfl), by repeat (first | (with_reducible first | exact HB.out | apply below_alloc | apply pw_below_drewN | apply below_drew1 | refine below_set ?_ GE297.out) | exact HB.out)⟩
  · rw [if_neg c4] at H
    have c4b0 : (t298 == 0) = false := beq_eq_false_iff_ne.mpr c4
    have c4b1 : (t298 != 0) = true := bne_iff_ne.mpr c4
    simp only [Option.some.injEq, Prod.mk.injEq] at H
    obtain ⟨rfl, rfl⟩ := H
    go_enter Try.func40, Try.ntmps40
    go_wp2_with (first | ((with_reducible refine gate_dst (N := 3) rfl ?_); refine box_event ?hg (N := 3) ?hd (cs := #[.int .i64 a1_0, .int .i64 a1_1, .int .i64 a1_2, .int .i64 a1_3]) (t := 52) ?hr ?_; (case hd => rfl); (case hg => rfl); (case hr => first | (go_simp; done) | (go_simp; rfl)); intro gb297 hg w31 hbox hb; have n0_ := Aside0.mk (below_step (by repeat (first | (with_reducible first | exact HB.out | apply below_alloc | apply pw_below_drewN | apply below_drew1) | exact HB.out)) hb); have n1_ := Aside0.mk (hbox); have n2_ := Aside0.mk ((by rw [hg]; exact (below_size (by repeat (first | (with_reducible first | exact HB.out | apply below_alloc | apply pw_below_drewN | apply below_drew1) | exact HB.out))) : w.heap.size ≤ gb297)); have n3_ := Aside0.mk ((by rw [hg]; exact (below_size (by repeat (first | (with_reducible first | exact HB.out | apply below_alloc | apply pw_below_drewN | apply below_drew1) | exact HB.out))) : w.heap.size ≤ gb297)); clear HB; have HB := n0_; have BK297 := n1_; have GW297 := n2_; have GE297 := n3_; clear n0_ n1_ n2_ n3_; clear hb hbox hg) | ((with_reducible refine gate_callee (f := 92) rfl ?_); refine goesL_ (some 14) rfl rfl Try.func92 (by kernel_rfl) rfl #[.slice A0 l0.length c0, .slice none 0 0] rfl (by (try simp only [List.map_toArray, List.map_cons, List.map_nil]); first | done | rfl | (simp only [List.length_drop, List.length_take]; rfl)) ?_; (refine (plane_ring.calls k _ _ l0 _ _ ([] : List (S23)) t298 _ ?side1 ?side2 ?side3 ?side4 A3.out).mono ?_); (case side1 => repeat (first | exact (Kd.C_below HR0.out HB.out) | (with_reducible refine Kd.C_alloc ?_ _) | (with_reducible refine Kd.C_drewN ?_ _) | (with_reducible refine Kd.C_drew ?_))); (case side2 => exact HC0.out); (case side3 => exact Kd.C_nil _ _); (case side4 => exact Nat.le_refl _); rintro e w32 ⟨rfl, hb⟩; refine ⟨_, rfl, ?_⟩; have n0_ := Aside0.mk (blk_below (g := gb297) (o := .cells #[.int .i64 a1_0, .int .i64 a1_1, .int .i64 a1_2, .int .i64 a1_3] 52 (0, 0)) (by (with_reducible repeat (first | refine blk_drewN ?_ _ | refine blk_drew ?_ | refine blk_alloc ?_ _)); exact BK297.out) hb); have n1_ := Aside0.mk (below_step (by repeat (first | (with_reducible first | exact HB.out | apply below_alloc | apply pw_below_drewN | apply below_drew1 | refine below_set ?_ GE297.out) | exact HB.out)) hb); clear BK297; clear HB; have BK297 := n0_; have HB := n1_; clear n0_ n1_; (try clear hb); (try clear hb2); (try clear hk); (try clear hi)))
    go_ret2
    exact ⟨by first | rfl | (simp [errW_none, errW_some] <;> rfl) | (simp [*, errW_none, errW_some] <;> rfl), by repeat (first | (with_reducible first | exact HB.out | apply below_alloc | apply pw_below_drewN | apply below_drew1 | refine below_set ?_ GE297.out) | exact HB.out)⟩
end Go.Proofs.Ytckaejgamfllfaa.G
end
