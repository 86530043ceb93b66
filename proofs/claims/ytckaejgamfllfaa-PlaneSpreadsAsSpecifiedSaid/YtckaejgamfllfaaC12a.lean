/- Part 1 of 2. -/
import Derived.Test.YtckaejgamfllfaaDf
import Derived.Shelf.Abstract
section
namespace Go.Proofs.Ytckaejgamfllfaa.G
open Go.RowKit Go.Proofs.YtckaejgamfllfaaW.PrintWords Go.Proofs.YtckaejgamfllfaaW.PrintLast Go.Proofs.YtckaejgamfllfaaW.PrintMore
def spanP (a b : Int) : Bool := decide (-1048576 ≤ a) && decide (a ≤ b) && decide (b ≤ 1048576)
def properB (a b c d : Int) : Bool := spanP a b && spanP c d
theorem plane_span_eq (a b : Int) : plane_span.f a b = some (spanP a b) := by
  unfold plane_span.f plane_within.f spanP
  by_cases h1 : -1048576 ≤ a <;> by_cases h2 : a ≤ 1048576 <;> by_cases h3 : a ≤ b <;> by_cases h4 : b ≤ 1048576 <;> first | (simp [h1, h2, h3, h4]; done) | omega
theorem plane_Proper_eq (a b c d : Int) : plane_Proper.f a b c d = some (properB a b c d) := by
  unfold plane_Proper.f properB
  rw [plane_span_eq, plane_span_eq]
  cases spanP a b <;> simp
theorem ref_Proper_eq (a b c d : Int) : boundstoneref02_Proper.f a b c d = some (properB a b c d) := by
  unfold boundstoneref02_Proper.f properB spanP
  rw [ref_Valid_eq, ref_Valid_eq]
  unfold validP
  simp only [Option.bind_some]
  by_cases h1 : -1048576 ≤ a <;> by_cases h2 : a ≤ 1048576 <;> by_cases h3 : a ≤ b <;> by_cases h4 : b ≤ 1048576 <;> by_cases h5 : -1048576 ≤ b <;> (try omega) <;>
  by_cases k1 : -1048576 ≤ c <;> by_cases k2 : c ≤ 1048576 <;> by_cases k3 : c ≤ d <;> by_cases k4 : d ≤ 1048576 <;> by_cases k5 : -1048576 ≤ d <;> first | omega | (simp [h1, h2, h3, h4, h5, k1, k2, k3, k4, k5]; done)
end Go.Proofs.Ytckaejgamfllfaa.G
end

section
namespace Go.Proofs.Ytckaejgamfllfaa.G
open Go.RowKit Go.Proofs.YtckaejgamfllfaaW.PrintWords Go.Proofs.YtckaejgamfllfaaW.PrintLast Go.Proofs.YtckaejgamfllfaaW.PrintMore
attribute [local go_sem] max2_int min2_int max_two min_two max_three min_three max_four min_four
set_option linter.unusedVariables false
set_option linter.unusedSimpArgs false
end Go.Proofs.Ytckaejgamfllfaa.G
end

section
namespace Go.Proofs.Ytckaejgamfllfaa.G
open Go.RowKit Go.Proofs.YtckaejgamfllfaaW.PrintWords Go.Proofs.YtckaejgamfllfaaW.PrintLast Go.Proofs.YtckaejgamfllfaaW.PrintMore
attribute [local go_sem] max2_int min2_int max_two min_two max_three min_three max_four min_four
set_option linter.unusedVariables false
set_option linter.unusedSimpArgs false
attribute [local go_sem high] eqA23
end Go.Proofs.Ytckaejgamfllfaa.G
end

section
namespace Go.Proofs.Ytckaejgamfllfaa.G
open Go.RowKit Go.Proofs.YtckaejgamfllfaaW.PrintWords Go.Proofs.YtckaejgamfllfaaW.PrintLast Go.Proofs.YtckaejgamfllfaaW.PrintMore
attribute [local go_sem] max2_int min2_int max_two min_two max_three min_three max_four min_four
set_option linter.unusedVariables false
set_option linter.unusedSimpArgs false
end Go.Proofs.Ytckaejgamfllfaa.G
end

section
namespace Go.Proofs.Ytckaejgamfllfaa.G
open Go.RowKit Go.Proofs.YtckaejgamfllfaaW.PrintWords Go.Proofs.YtckaejgamfllfaaW.PrintLast Go.Proofs.YtckaejgamfllfaaW.PrintMore
attribute [local go_sem] max2_int min2_int max_two min_two max_three min_three max_four min_four
set_option linter.unusedVariables false
set_option linter.unusedSimpArgs false
end Go.Proofs.Ytckaejgamfllfaa.G
end

section
namespace Go.Proofs.Ytckaejgamfllfaa.G
open Go.RowKit Go.Proofs.YtckaejgamfllfaaW.PrintWords Go.Proofs.YtckaejgamfllfaaW.PrintLast Go.Proofs.YtckaejgamfllfaaW.PrintMore
attribute [local go_sem] max2_int min2_int max_two min_two max_three min_three max_four min_four
set_option linter.unusedVariables false
set_option linter.unusedSimpArgs false
end Go.Proofs.Ytckaejgamfllfaa.G
end

section
namespace Go.Proofs.Ytckaejgamfllfaa.G
open Go.RowKit Go.Proofs.YtckaejgamfllfaaW.PrintWords Go.Proofs.YtckaejgamfllfaaW.PrintLast Go.Proofs.YtckaejgamfllfaaW.PrintMore
attribute [local go_sem] max2_int min2_int max_two min_two max_three min_three max_four min_four
set_option linter.unusedVariables false
set_option linter.unusedSimpArgs false
attribute [local go_sem high] eqA23
end Go.Proofs.Ytckaejgamfllfaa.G
end

section
namespace Go.Proofs.Ytckaejgamfllfaa.G
open Go.RowKit Go.Proofs.YtckaejgamfllfaaW.PrintWords Go.Proofs.YtckaejgamfllfaaW.PrintLast Go.Proofs.YtckaejgamfllfaaW.PrintMore
set_option linter.unusedVariables false
set_option linter.unusedSimpArgs false
attribute [local go_sem] max2_int min2_int max_two min_two max_three min_three max_four min_four
def outR (A B C : Nat → S23) : Nat → Int × Int → Int × Int
  | 0, s => s
  | i + 1, s => covN (outR A B C i s) (twW (A (i / 16)) (B (i / 4 % 4)) (C (i % 4)))
def spreadR (A B C : Nat → S23) : Int × Int := outR A B C 64 (twW (A 0) (B 0) (C 0), twW (A 0) (B 0) (C 0))
theorem ref_Corners_ok {b0 b1 b2 b3 : Int} (h : boundstoneref02_Proper.f b0 b1 b2 b3 = some true) : boundstoneref02_Corners.f b0 b1 b2 b3 = some (b0, b2, b1, b2, b1, b3, b0, b3) := by
  unfold boundstoneref02_Corners.f; rw [h]; rfl
theorem cell_corn {W : World} {g : Nat} {b0 b1 b2 b3 : Int} (h : Blk W g #[.int .i64 b0, .int .i64 b2, .int .i64 b1, .int .i64 b2, .int .i64 b1, .int .i64 b3, .int .i64 b0, .int .i64 b3] 82) {i : Nat} (hi : i < 4) :
    W.cell? ⟨g, i * 2, none⟩ = some (.int .i64 (corn b0 b1 b2 b3 i).f0) ∧ W.cell? ⟨g, i * 2 + 1, none⟩ = some (.int .i64 (corn b0 b1 b2 b3 i).f1) := by
  rcases i with _ | _ | _ | _ | i
  · exact ⟨h.cell 0, h.cell 1⟩
  · exact ⟨h.cell 2, h.cell 3⟩
  · exact ⟨h.cell 4, h.cell 5⟩
  · exact ⟨h.cell 6, h.cell 7⟩
  · omega
def boundstoneref02_Spread.f (a0_0 : Int) (a0_1 : Int) (a0_2 : Int) (a0_3 : Int) (a1_0 : Int) (a1_1 : Int) (a1_2 : Int) (a1_3 : Int) (a2_0 : Int) (a2_1 : Int) (a2_2 : Int) (a2_3 : Int) : Option (Int × Int × Bool) :=
  (boundstoneref02_Proper.f a0_0 a0_1 a0_2 a0_3).bind fun x => (boundstoneref02_Proper.f a1_0 a1_1 a1_2 a1_3).bind fun y => (boundstoneref02_Proper.f a2_0 a2_1 a2_2 a2_3).bind fun z =>
    if x = true ∧ y = true ∧ z = true then some ((spreadR (corn a0_0 a0_1 a0_2 a0_3) (corn a1_0 a1_1 a1_2 a1_3) (corn a2_0 a2_1 a2_2 a2_3)).1, (spreadR (corn a0_0 a0_1 a0_2 a0_3) (corn a1_0 a1_1 a1_2 a1_3) (corn a2_0 a2_1 a2_2 a2_3)).2, true) else some (0, 0, false)
set_option maxHeartbeats 40000000 in
set_option maxRecDepth 100000 in
theorem boundstoneref02_Spread.calls (a0_0 : Int) (a0_1 : Int) (a0_2 : Int) (a0_3 : Int) (a1_0 : Int) (a1_1 : Int) (a1_2 : Int) (a1_3 : Int) (a2_0 : Int) (a2_1 : Int) (a2_2 : Int) (a2_3 : Int) (r1 r2 : Int) (r3 : Bool) (w : World) (h : boundstoneref02_Spread.f a0_0 a0_1 a0_2 a0_3 a1_0 a1_1 a1_2 a1_3 a2_0 a2_1 a2_2 a2_3 = some (r1, r2, r3)) :
    Calls Try.prog 51 #[.agg #[.int .i64 a0_0, .int .i64 a0_1, .int .i64 a0_2, .int .i64 a0_3], .agg #[.int .i64 a1_0, .int .i64 a1_1, .int .i64 a1_2, .int .i64 a1_3], .agg #[.int .i64 a2_0, .int .i64 a2_1, .int .i64 a2_2, .int .i64 a2_3]] w fun e w' => e = .returned (.tuple #[.agg #[.int .i64 r1, .int .i64 r2], .bool r3]) ∧ Below w.heap.size w w' := by
  unfold boundstoneref02_Spread.f at h
  obtain ⟨x, hx, h⟩ := Option.bind_eq_some_iff.mp h
  obtain ⟨y, hy, h⟩ := Option.bind_eq_some_iff.mp h
  obtain ⟨z, hz, h⟩ := Option.bind_eq_some_iff.mp h
  have HPx := Aside0.mk hx; have HPy := Aside0.mk hy; have HPz := Aside0.mk hz; have HH := Aside0.mk h
  clear hx hy hz h
  have hu50 := Try.underlying50; have hu52 := Try.underlying52; have hu23 := Try.underlying23; have hu82 := Try.underlying82
  obtain ⟨W0, hW0⟩ : ∃ W0, W0 = (((w.alloc (.cells #[.int .i64 a0_0, .int .i64 a0_1, .int .i64 a0_2, .int .i64 a0_3] 52)).alloc (.cells #[.int .i64 a1_0, .int .i64 a1_1, .int .i64 a1_2, .int .i64 a1_3] 52)).alloc (.cells #[.int .i64 a2_0, .int .i64 a2_1, .int .i64 a2_2, .int .i64 a2_3] 52)).alloc (.cells #[.int .i64 0, .int .i64 0] 50) := ⟨_, rfl⟩
  obtain ⟨g3, hg3⟩ : ∃ g, g = w.heap.size := ⟨_, rfl⟩
  obtain ⟨g4, hg4⟩ : ∃ g, g = w.heap.size + 1 := ⟨_, rfl⟩
  obtain ⟨g5, hg5⟩ : ∃ g, g = w.heap.size + 1 + 1 := ⟨_, rfl⟩
  obtain ⟨g6, hg6⟩ : ∃ g, g = w.heap.size + 1 + 1 + 1 := ⟨_, rfl⟩
  have hs0 : W0.heap.size = w.heap.size + 4 := by rw [hW0]; simp
  have B0 : Blk W0 g3 #[.int .i64 a0_0, .int .i64 a0_1, .int .i64 a0_2, .int .i64 a0_3] 52 := by rw [hW0, hg3]; exact (((Blk.new w 52 _).alloc _).alloc _).alloc _
  have B1 : Blk W0 g4 #[.int .i64 a1_0, .int .i64 a1_1, .int .i64 a1_2, .int .i64 a1_3] 52 := by rw [hW0, hg4]; have := Blk.new (w.alloc (.cells #[.int .i64 a0_0, .int .i64 a0_1, .int .i64 a0_2, .int .i64 a0_3] 52)) 52 #[.int .i64 a1_0, .int .i64 a1_1, .int .i64 a1_2, .int .i64 a1_3]; rw [World.size_alloc] at this; exact (this.alloc _).alloc _
  have B2 : Blk W0 g5 #[.int .i64 a2_0, .int .i64 a2_1, .int .i64 a2_2, .int .i64 a2_3] 52 := by rw [hW0, hg5]; have := Blk.new ((w.alloc (.cells #[.int .i64 a0_0, .int .i64 a0_1, .int .i64 a0_2, .int .i64 a0_3] 52)).alloc (.cells #[.int .i64 a1_0, .int .i64 a1_1, .int .i64 a1_2, .int .i64 a1_3] 52)) 52 #[.int .i64 a2_0, .int .i64 a2_1, .int .i64 a2_2, .int .i64 a2_3]; rw [World.size_alloc, World.size_alloc] at this; exact this.alloc _
  have B3 : Blk W0 g6 #[.int .i64 0, .int .i64 0] 50 := by rw [hW0, hg6]; have := Blk.new (((w.alloc (.cells #[.int .i64 a0_0, .int .i64 a0_1, .int .i64 a0_2, .int .i64 a0_3] 52)).alloc (.cells #[.int .i64 a1_0, .int .i64 a1_1, .int .i64 a1_2, .int .i64 a1_3] 52)).alloc (.cells #[.int .i64 a2_0, .int .i64 a2_1, .int .i64 a2_2, .int .i64 a2_3] 52)) 50 #[.int .i64 0, .int .i64 0]; rw [World.size_alloc, World.size_alloc, World.size_alloc] at this; exact this
  have hB : Below w.heap.size w W0 := by rw [hW0]; exact ((((Below.refl _ w).alloc (Nat.le_refl _) _).alloc (by simp) _).alloc (by simp; omega) _).alloc (by simp; omega) _
  have HW := Aside0.mk hW0
  have K := Aside0.mk (show ∀ W, Below W0.heap.size W0 W → Blk W g3 #[.int .i64 a0_0, .int .i64 a0_1, .int .i64 a0_2, .int .i64 a0_3] 52 ∧ Blk W g4 #[.int .i64 a1_0, .int .i64 a1_1, .int .i64 a1_2, .int .i64 a1_3] 52 ∧ Blk W g5 #[.int .i64 a2_0, .int .i64 a2_1, .int .i64 a2_2, .int .i64 a2_3] 52 ∧ Blk W g6 #[.int .i64 0, .int .i64 0] 50 ∧ Below w.heap.size w W ∧ w.heap.size + 4 ≤ W.heap.size from
    fun W hb => ⟨B0.below hb, B1.below hb, B2.below hb, B3.below hb, below_then hB (by omega) hb, by have := hb.size; omega⟩)
  have GE6 := Aside0.mk (show w.heap.size ≤ g6 by omega)
  have G3 := Aside0.mk hg3; have G4 := Aside0.mk hg4; have G5 := Aside0.mk hg5; have G6 := Aside0.mk hg6
  have n36 : g3 ≠ g6 := by omega
  have n46 : g4 ≠ g6 := by omega
  have n56 : g5 ≠ g6 := by omega
  clear B0 B1 B2 B3 hB hs0 hW0 hg3 hg4 hg5 hg6
  have HX := Aside0.mk (Below.refl W0.heap.size W0)
  go_enter Try.func51, Try.ntmps51
  go_upto_region 1 with fail
  rw [← HW.out, ← G6.out, ← G5.out, ← G4.out, ← G3.out]
  have ac0 : W0.cell? ⟨g3, 0, none⟩ = some (.int .i64 a0_0) := ((K.out W0 HX.out).1).cell 0
  have ac1 : W0.cell? ⟨g3, 1, none⟩ = some (.int .i64 a0_1) := ((K.out W0 HX.out).1).cell 1
  have ac2 : W0.cell? ⟨g3, 2, none⟩ = some (.int .i64 a0_2) := ((K.out W0 HX.out).1).cell 2
  have ac3 : W0.cell? ⟨g3, 3, none⟩ = some (.int .i64 a0_3) := ((K.out W0 HX.out).1).cell 3
  have bc0 : W0.cell? ⟨g4, 0, none⟩ = some (.int .i64 a1_0) := ((K.out W0 HX.out).2.1).cell 0
  have bc1 : W0.cell? ⟨g4, 1, none⟩ = some (.int .i64 a1_1) := ((K.out W0 HX.out).2.1).cell 1
  have bc2 : W0.cell? ⟨g4, 2, none⟩ = some (.int .i64 a1_2) := ((K.out W0 HX.out).2.1).cell 2
  have bc3 : W0.cell? ⟨g4, 3, none⟩ = some (.int .i64 a1_3) := ((K.out W0 HX.out).2.1).cell 3
  have cc0 : W0.cell? ⟨g5, 0, none⟩ = some (.int .i64 a2_0) := ((K.out W0 HX.out).2.2.1).cell 0
  have cc1 : W0.cell? ⟨g5, 1, none⟩ = some (.int .i64 a2_1) := ((K.out W0 HX.out).2.2.1).cell 1
  have cc2 : W0.cell? ⟨g5, 2, none⟩ = some (.int .i64 a2_2) := ((K.out W0 HX.out).2.2.1).cell 2
  have cc3 : W0.cell? ⟨g5, 3, none⟩ = some (.int .i64 a2_3) := ((K.out W0 HX.out).2.2.1).cell 3
  cases x with
  | false =>
    have hh := HH.out
    simp only [Bool.false_eq_true, false_and, and_false, if_false, Option.some.injEq, Prod.mk.injEq] at hh
    obtain ⟨rfl, rfl, rfl⟩ := hh
    go_wp2_with (first | (go_at_call 65; (with_reducible refine (boundstoneref02_Proper.calls a0_0 a0_1 a0_2 a0_3 _ _ HPx.out).mono ?_); rintro e wp ⟨rfl, hb⟩; have HX2 := Aside0.mk (below_then HX.out HX.out.size hb); clear hb HX; have HX := HX2; clear HX2; have ac0 : wp.cell? ⟨g3, 0, none⟩ = some (.int .i64 a0_0) := ((K.out wp HX.out).1).cell 0; have ac1 : wp.cell? ⟨g3, 1, none⟩ = some (.int .i64 a0_1) := ((K.out wp HX.out).1).cell 1; have ac2 : wp.cell? ⟨g3, 2, none⟩ = some (.int .i64 a0_2) := ((K.out wp HX.out).1).cell 2; have ac3 : wp.cell? ⟨g3, 3, none⟩ = some (.int .i64 a0_3) := ((K.out wp HX.out).1).cell 3; have bc0 : wp.cell? ⟨g4, 0, none⟩ = some (.int .i64 a1_0) := ((K.out wp HX.out).2.1).cell 0; have bc1 : wp.cell? ⟨g4, 1, none⟩ = some (.int .i64 a1_1) := ((K.out wp HX.out).2.1).cell 1; have bc2 : wp.cell? ⟨g4, 2, none⟩ = some (.int .i64 a1_2) := ((K.out wp HX.out).2.1).cell 2; have bc3 : wp.cell? ⟨g4, 3, none⟩ = some (.int .i64 a1_3) := ((K.out wp HX.out).2.1).cell 3; have cc0 : wp.cell? ⟨g5, 0, none⟩ = some (.int .i64 a2_0) := ((K.out wp HX.out).2.2.1).cell 0; have cc1 : wp.cell? ⟨g5, 1, none⟩ = some (.int .i64 a2_1) := ((K.out wp HX.out).2.2.1).cell 1; have cc2 : wp.cell? ⟨g5, 2, none⟩ = some (.int .i64 a2_2) := ((K.out wp HX.out).2.2.1).cell 2; have cc3 : wp.cell? ⟨g5, 3, none⟩ = some (.int .i64 a2_3) := ((K.out wp HX.out).2.2.1).cell 3; have rc0 : wp.cell? ⟨g6, 0, none⟩ = some (.int .i64 0) := ((K.out wp HX.out).2.2.2.1).cell 0; have rf0 := ((K.out wp HX.out).2.2.2.1).frozen 0; have rc1 : wp.cell? ⟨g6, 1, none⟩ = some (.int .i64 0) := ((K.out wp HX.out).2.2.2.1).cell 1; have rf1 := ((K.out wp HX.out).2.2.2.1).frozen 1) | (go_at_call 65; (with_reducible refine (boundstoneref02_Proper.calls a1_0 a1_1 a1_2 a1_3 _ _ HPy.out).mono ?_); rintro e wp ⟨rfl, hb⟩; have HX2 := Aside0.mk (below_then HX.out HX.out.size hb); clear hb HX; have HX := HX2; clear HX2; have ac0 : wp.cell? ⟨g3, 0, none⟩ = some (.int .i64 a0_0) := ((K.out wp HX.out).1).cell 0; have ac1 : wp.cell? ⟨g3, 1, none⟩ = some (.int .i64 a0_1) := ((K.out wp HX.out).1).cell 1; have ac2 : wp.cell? ⟨g3, 2, none⟩ = some (.int .i64 a0_2) := ((K.out wp HX.out).1).cell 2; have ac3 : wp.cell? ⟨g3, 3, none⟩ = some (.int .i64 a0_3) := ((K.out wp HX.out).1).cell 3; have bc0 : wp.cell? ⟨g4, 0, none⟩ = some (.int .i64 a1_0) := ((K.out wp HX.out).2.1).cell 0; have bc1 : wp.cell? ⟨g4, 1, none⟩ = some (.int .i64 a1_1) := ((K.out wp HX.out).2.1).cell 1; have bc2 : wp.cell? ⟨g4, 2, none⟩ = some (.int .i64 a1_2) := ((K.out wp HX.out).2.1).cell 2; have bc3 : wp.cell? ⟨g4, 3, none⟩ = some (.int .i64 a1_3) := ((K.out wp HX.out).2.1).cell 3; have cc0 : wp.cell? ⟨g5, 0, none⟩ = some (.int .i64 a2_0) := ((K.out wp HX.out).2.2.1).cell 0; have cc1 : wp.cell? ⟨g5, 1, none⟩ = some (.int .i64 a2_1) := ((K.out wp HX.out).2.2.1).cell 1; have cc2 : wp.cell? ⟨g5, 2, none⟩ = some (.int .i64 a2_2) := ((K.out wp HX.out).2.2.1).cell 2; have cc3 : wp.cell? ⟨g5, 3, none⟩ = some (.int .i64 a2_3) := ((K.out wp HX.out).2.2.1).cell 3; have rc0 : wp.cell? ⟨g6, 0, none⟩ = some (.int .i64 0) := ((K.out wp HX.out).2.2.2.1).cell 0; have rf0 := ((K.out wp HX.out).2.2.2.1).frozen 0; have rc1 : wp.cell? ⟨g6, 1, none⟩ = some (.int .i64 0) := ((K.out wp HX.out).2.2.2.1).cell 1; have rf1 := ((K.out wp HX.out).2.2.2.1).frozen 1) | (go_at_call 65; (with_reducible refine (boundstoneref02_Proper.calls a2_0 a2_1 a2_2 a2_3 _ _ HPz.out).mono ?_); rintro e wp ⟨rfl, hb⟩; have HX2 := Aside0.mk (below_then HX.out HX.out.size hb); clear hb HX; have HX := HX2; clear HX2; have ac0 : wp.cell? ⟨g3, 0, none⟩ = some (.int .i64 a0_0) := ((K.out wp HX.out).1).cell 0; have ac1 : wp.cell? ⟨g3, 1, none⟩ = some (.int .i64 a0_1) := ((K.out wp HX.out).1).cell 1; have ac2 : wp.cell? ⟨g3, 2, none⟩ = some (.int .i64 a0_2) := ((K.out wp HX.out).1).cell 2; have ac3 : wp.cell? ⟨g3, 3, none⟩ = some (.int .i64 a0_3) := ((K.out wp HX.out).1).cell 3; have bc0 : wp.cell? ⟨g4, 0, none⟩ = some (.int .i64 a1_0) := ((K.out wp HX.out).2.1).cell 0; have bc1 : wp.cell? ⟨g4, 1, none⟩ = some (.int .i64 a1_1) := ((K.out wp HX.out).2.1).cell 1; have bc2 : wp.cell? ⟨g4, 2, none⟩ = some (.int .i64 a1_2) := ((K.out wp HX.out).2.1).cell 2; have bc3 : wp.cell? ⟨g4, 3, none⟩ = some (.int .i64 a1_3) := ((K.out wp HX.out).2.1).cell 3; have cc0 : wp.cell? ⟨g5, 0, none⟩ = some (.int .i64 a2_0) := ((K.out wp HX.out).2.2.1).cell 0; have cc1 : wp.cell? ⟨g5, 1, none⟩ = some (.int .i64 a2_1) := ((K.out wp HX.out).2.2.1).cell 1; have cc2 : wp.cell? ⟨g5, 2, none⟩ = some (.int .i64 a2_2) := ((K.out wp HX.out).2.2.1).cell 2; have cc3 : wp.cell? ⟨g5, 3, none⟩ = some (.int .i64 a2_3) := ((K.out wp HX.out).2.2.1).cell 3; have rc0 : wp.cell? ⟨g6, 0, none⟩ = some (.int .i64 0) := ((K.out wp HX.out).2.2.2.1).cell 0; have rf0 := ((K.out wp HX.out).2.2.2.1).frozen 0; have rc1 : wp.cell? ⟨g6, 1, none⟩ = some (.int .i64 0) := ((K.out wp HX.out).2.2.2.1).cell 1; have rf1 := ((K.out wp HX.out).2.2.2.1).frozen 1))
    refine bodyPost_ret (results_ct rfl _ _ g6 50 #[.int .i64 0, .int .i64 0] (0, 0) _ rfl ?h1 Try.underlying50 rfl (by kernel_rfl)) rfl ?_
    case h1 => exact (by refine blk_put (cs := #[.int .i64 0, .int .i64 0]) ?_ 1 _ rfl; refine blk_put (cs := #[.int .i64 0, .int .i64 0]) ?_ 0 _ rfl; exact (K.out _ HX.out).2.2.2.1)
    exact ⟨rfl, (by repeat (with_reducible first | exact (K.out _ HX.out).2.2.2.2.1 | refine below_set ?_ GE6.out))⟩
  | true =>
    cases y with
    | false =>
      have hh := HH.out
      simp only [Bool.false_eq_true, false_and, and_false, if_false, Option.some.injEq, Prod.mk.injEq] at hh
      obtain ⟨rfl, rfl, rfl⟩ := hh
      go_wp2_with (first | (go_at_call 65; (with_reducible refine (boundstoneref02_Proper.calls a0_0 a0_1 a0_2 a0_3 _ _ HPx.out).mono ?_); rintro e wp ⟨rfl, hb⟩; have HX2 := Aside0.mk (below_then HX.out HX.out.size hb); clear hb HX; have HX := HX2; clear HX2; have ac0 : wp.cell? ⟨g3, 0, none⟩ = some (.int .i64 a0_0) := ((K.out wp HX.out).1).cell 0; have ac1 : wp.cell? ⟨g3, 1, none⟩ = some (.int .i64 a0_1) := ((K.out wp HX.out).1).cell 1; have ac2 : wp.cell? ⟨g3, 2, none⟩ = some (.int .i64 a0_2) := ((K.out wp HX.out).1).cell 2; have ac3 : wp.cell? ⟨g3, 3, none⟩ = some (.int .i64 a0_3) := ((K.out wp HX.out).1).cell 3; have bc0 : wp.cell? ⟨g4, 0, none⟩ = some (.int .i64 a1_0) := ((K.out wp HX.out).2.1).cell 0; have bc1 : wp.cell? ⟨g4, 1, none⟩ = some (.int .i64 a1_1) := ((K.out wp HX.out).2.1).cell 1; have bc2 : wp.cell? ⟨g4, 2, none⟩ = some (.int .i64 a1_2) := ((K.out wp HX.out).2.1).cell 2; have bc3 : wp.cell? ⟨g4, 3, none⟩ = some (.int .i64 a1_3) := ((K.out wp HX.out).2.1).cell 3; have cc0 : wp.cell? ⟨g5, 0, none⟩ = some (.int .i64 a2_0) := ((K.out wp HX.out).2.2.1).cell 0; have cc1 : wp.cell? ⟨g5, 1, none⟩ = some (.int .i64 a2_1) := ((K.out wp HX.out).2.2.1).cell 1; have cc2 : wp.cell? ⟨g5, 2, none⟩ = some (.int .i64 a2_2) := ((K.out wp HX.out).2.2.1).cell 2; have cc3 : wp.cell? ⟨g5, 3, none⟩ = some (.int .i64 a2_3) := ((K.out wp HX.out).2.2.1).cell 3; have rc0 : wp.cell? ⟨g6, 0, none⟩ = some (.int .i64 0) := ((K.out wp HX.out).2.2.2.1).cell 0; have rf0 := ((K.out wp HX.out).2.2.2.1).frozen 0; have rc1 : wp.cell? ⟨g6, 1, none⟩ = some (.int .i64 0) := ((K.out wp HX.out).2.2.2.1).cell 1; have rf1 := ((K.out wp HX.out).2.2.2.1).frozen 1) | (go_at_call 65; (with_reducible refine (boundstoneref02_Proper.calls a1_0 a1_1 a1_2 a1_3 _ _ HPy.out).mono ?_); rintro e wp ⟨rfl, hb⟩; have HX2 := Aside0.mk (below_then HX.out HX.out.size hb); clear hb HX; have HX := HX2; clear HX2; have ac0 : wp.cell? ⟨g3, 0, none⟩ = some (.int .i64 a0_0) := ((K.out wp HX.out).1).cell 0; have ac1 : wp.cell? ⟨g3, 1, none⟩ = some (.int .i64 a0_1) := ((K.out wp HX.out).1).cell 1; have ac2 : wp.cell? ⟨g3, 2, none⟩ = some (.int .i64 a0_2) := ((K.out wp HX.out).1).cell 2; have ac3 : wp.cell? ⟨g3, 3, none⟩ = some (.int .i64 a0_3) := ((K.out wp HX.out).1).cell 3; have bc0 : wp.cell? ⟨g4, 0, none⟩ = some (.int .i64 a1_0) := ((K.out wp HX.out).2.1).cell 0; have bc1 : wp.cell? ⟨g4, 1, none⟩ = some (.int .i64 a1_1) := ((K.out wp HX.out).2.1).cell 1; have bc2 : wp.cell? ⟨g4, 2, none⟩ = some (.int .i64 a1_2) := ((K.out wp HX.out).2.1).cell 2; have bc3 : wp.cell? ⟨g4, 3, none⟩ = some (.int .i64 a1_3) := ((K.out wp HX.out).2.1).cell 3; have cc0 : wp.cell? ⟨g5, 0, none⟩ = some (.int .i64 a2_0) := ((K.out wp HX.out).2.2.1).cell 0; have cc1 : wp.cell? ⟨g5, 1, none⟩ = some (.int .i64 a2_1) := ((K.out wp HX.out).2.2.1).cell 1; have cc2 : wp.cell? ⟨g5, 2, none⟩ = some (.int .i64 a2_2) := ((K.out wp HX.out).2.2.1).cell 2; have cc3 : wp.cell? ⟨g5, 3, none⟩ = some (.int .i64 a2_3) := ((K.out wp HX.out).2.2.1).cell 3; have rc0 : wp.cell? ⟨g6, 0, none⟩ = some (.int .i64 0) := ((K.out wp HX.out).2.2.2.1).cell 0; have rf0 := ((K.out wp HX.out).2.2.2.1).frozen 0; have rc1 : wp.cell? ⟨g6, 1, none⟩ = some (.int .i64 0) := ((K.out wp HX.out).2.2.2.1).cell 1; have rf1 := ((K.out wp HX.out).2.2.2.1).frozen 1) | (go_at_call 65; (with_reducible refine (boundstoneref02_Proper.calls a2_0 a2_1 a2_2 a2_3 _ _ HPz.out).mono ?_); rintro e wp ⟨rfl, hb⟩; have HX2 := Aside0.mk (below_then HX.out HX.out.size hb); clear hb HX; have HX := HX2; clear HX2; have ac0 : wp.cell? ⟨g3, 0, none⟩ = some (.int .i64 a0_0) := ((K.out wp HX.out).1).cell 0; have ac1 : wp.cell? ⟨g3, 1, none⟩ = some (.int .i64 a0_1) := ((K.out wp HX.out).1).cell 1; have ac2 : wp.cell? ⟨g3, 2, none⟩ = some (.int .i64 a0_2) := ((K.out wp HX.out).1).cell 2; have ac3 : wp.cell? ⟨g3, 3, none⟩ = some (.int .i64 a0_3) := ((K.out wp HX.out).1).cell 3; have bc0 : wp.cell? ⟨g4, 0, none⟩ = some (.int .i64 a1_0) := ((K.out wp HX.out).2.1).cell 0; have bc1 : wp.cell? ⟨g4, 1, none⟩ = some (.int .i64 a1_1) := ((K.out wp HX.out).2.1).cell 1; have bc2 : wp.cell? ⟨g4, 2, none⟩ = some (.int .i64 a1_2) := ((K.out wp HX.out).2.1).cell 2; have bc3 : wp.cell? ⟨g4, 3, none⟩ = some (.int .i64 a1_3) := ((K.out wp HX.out).2.1).cell 3; have cc0 : wp.cell? ⟨g5, 0, none⟩ = some (.int .i64 a2_0) := ((K.out wp HX.out).2.2.1).cell 0; have cc1 : wp.cell? ⟨g5, 1, none⟩ = some (.int .i64 a2_1) := ((K.out wp HX.out).2.2.1).cell 1; have cc2 : wp.cell? ⟨g5, 2, none⟩ = some (.int .i64 a2_2) := ((K.out wp HX.out).2.2.1).cell 2; have cc3 : wp.cell? ⟨g5, 3, none⟩ = some (.int .i64 a2_3) := ((K.out wp HX.out).2.2.1).cell 3; have rc0 : wp.cell? ⟨g6, 0, none⟩ = some (.int .i64 0) := ((K.out wp HX.out).2.2.2.1).cell 0; have rf0 := ((K.out wp HX.out).2.2.2.1).frozen 0; have rc1 : wp.cell? ⟨g6, 1, none⟩ = some (.int .i64 0) := ((K.out wp HX.out).2.2.2.1).cell 1; have rf1 := ((K.out wp HX.out).2.2.2.1).frozen 1))
      refine bodyPost_ret (results_ct rfl _ _ g6 50 #[.int .i64 0, .int .i64 0] (0, 0) _ rfl ?h1 Try.underlying50 rfl (by kernel_rfl)) rfl ?_
      case h1 => exact (by refine blk_put (cs := #[.int .i64 0, .int .i64 0]) ?_ 1 _ rfl; refine blk_put (cs := #[.int .i64 0, .int .i64 0]) ?_ 0 _ rfl; exact (K.out _ HX.out).2.2.2.1)
      exact ⟨rfl, (by repeat (with_reducible first | exact (K.out _ HX.out).2.2.2.2.1 | refine below_set ?_ GE6.out))⟩
    | true =>
      cases z with
      | false =>
        have hh := HH.out
        simp only [Bool.false_eq_true, false_and, and_false, if_false, Option.some.injEq, Prod.mk.injEq] at hh
        obtain ⟨rfl, rfl, rfl⟩ := hh
        go_wp2_with (first | (go_at_call 65; (with_reducible refine (boundstoneref02_Proper.calls a0_0 a0_1 a0_2 a0_3 _ _ HPx.out).mono ?_); rintro e wp ⟨rfl, hb⟩; have HX2 := Aside0.mk (below_then HX.out HX.out.size hb); clear hb HX; have HX := HX2; clear HX2; have ac0 : wp.cell? ⟨g3, 0, none⟩ = some (.int .i64 a0_0) := ((K.out wp HX.out).1).cell 0; have ac1 : wp.cell? ⟨g3, 1, none⟩ = some (.int .i64 a0_1) := ((K.out wp HX.out).1).cell 1; have ac2 : wp.cell? ⟨g3, 2, none⟩ = some (.int .i64 a0_2) := ((K.out wp HX.out).1).cell 2; have ac3 : wp.cell? ⟨g3, 3, none⟩ = some (.int .i64 a0_3) := ((K.out wp HX.out).1).cell 3; have bc0 : wp.cell? ⟨g4, 0, none⟩ = some (.int .i64 a1_0) := ((K.out wp HX.out).2.1).cell 0; have bc1 : wp.cell? ⟨g4, 1, none⟩ = some (.int .i64 a1_1) := ((K.out wp HX.out).2.1).cell 1; have bc2 : wp.cell? ⟨g4, 2, none⟩ = some (.int .i64 a1_2) := ((K.out wp HX.out).2.1).cell 2; have bc3 : wp.cell? ⟨g4, 3, none⟩ = some (.int .i64 a1_3) := ((K.out wp HX.out).2.1).cell 3; have cc0 : wp.cell? ⟨g5, 0, none⟩ = some (.int .i64 a2_0) := ((K.out wp HX.out).2.2.1).cell 0; have cc1 : wp.cell? ⟨g5, 1, none⟩ = some (.int .i64 a2_1) := ((K.out wp HX.out).2.2.1).cell 1; have cc2 : wp.cell? ⟨g5, 2, none⟩ = some (.int .i64 a2_2) := ((K.out wp HX.out).2.2.1).cell 2; have cc3 : wp.cell? ⟨g5, 3, none⟩ = some (.int .i64 a2_3) := ((K.out wp HX.out).2.2.1).cell 3; have rc0 : wp.cell? ⟨g6, 0, none⟩ = some (.int .i64 0) := ((K.out wp HX.out).2.2.2.1).cell 0; have rf0 := ((K.out wp HX.out).2.2.2.1).frozen 0; have rc1 : wp.cell? ⟨g6, 1, none⟩ = some (.int .i64 0) := ((K.out wp HX.out).2.2.2.1).cell 1; have rf1 := ((K.out wp HX.out).2.2.2.1).frozen 1) | (go_at_call 65; (with_reducible refine (boundstoneref02_Proper.calls a1_0 a1_1 a1_2 a1_3 _ _ HPy.out).mono ?_); rintro e wp ⟨rfl, hb⟩; have HX2 := Aside0.mk (below_then HX.out HX.out.size hb); clear hb HX; have HX := HX2; clear HX2; have ac0 : wp.cell? ⟨g3, 0, none⟩ = some (.int .i64 a0_0) := ((K.out wp HX.out).1).cell 0; have ac1 : wp.cell? ⟨g3, 1, none⟩ = some (.int .i64 a0_1) := ((K.out wp HX.out).1).cell 1; have ac2 : wp.cell? ⟨g3, 2, none⟩ = some (.int .i64 a0_2) := ((K.out wp HX.out).1).cell 2; have ac3 : wp.cell? ⟨g3, 3, none⟩ = some (.int .i64 a0_3) := ((K.out wp HX.out).1).cell 3; have bc0 : wp.cell? ⟨g4, 0, none⟩ = some (.int .i64 a1_0) := ((K.out wp HX.out).2.1).cell 0; have bc1 : wp.cell? ⟨g4, 1, none⟩ = some (.int .i64 a1_1) := ((K.out wp HX.out).2.1).cell 1; have bc2 : wp.cell? ⟨g4, 2, none⟩ = some (.int .i64 a1_2) := ((K.out wp HX.out).2.1).cell 2; have bc3 : wp.cell? ⟨g4, 3, none⟩ = some (.int .i64 a1_3) := ((K.out wp HX.out).2.1).cell 3; have cc0 : wp.cell? ⟨g5, 0, none⟩ = some (.int .i64 a2_0) := ((K.out wp HX.out).2.2.1).cell 0; have cc1 : wp.cell? ⟨g5, 1, none⟩ = some (.int .i64 a2_1) := ((K.out wp HX.out).2.2.1).cell 1; have cc2 : wp.cell? ⟨g5, 2, none⟩ = some (.int .i64 a2_2) := ((K.out wp HX.out).2.2.1).cell 2; have cc3 : wp.cell? ⟨g5, 3, none⟩ = some (.int .i64 a2_3) := ((K.out wp HX.out).2.2.1).cell 3; have rc0 : wp.cell? ⟨g6, 0, none⟩ = some (.int .i64 0) := ((K.out wp HX.out).2.2.2.1).cell 0; have rf0 := ((K.out wp HX.out).2.2.2.1).frozen 0; have rc1 : wp.cell? ⟨g6, 1, none⟩ = some (.int .i64 0) := ((K.out wp HX.out).2.2.2.1).cell 1; have rf1 := ((K.out wp HX.out).2.2.2.1).frozen 1) | (go_at_call 65; (with_reducible refine (boundstoneref02_Proper.calls a2_0 a2_1 a2_2 a2_3 _ _ HPz.out).mono ?_); rintro e wp ⟨rfl, hb⟩; have HX2 := Aside0.mk (below_then HX.out HX.out.size hb); clear hb HX; have HX := HX2; clear HX2; have ac0 : wp.cell? ⟨g3, 0, none⟩ = some (.int .i64 a0_0) := ((K.out wp HX.out).1).cell 0; have ac1 : wp.cell? ⟨g3, 1, none⟩ = some (.int .i64 a0_1) := ((K.out wp HX.out).1).cell 1; have ac2 : wp.cell? ⟨g3, 2, none⟩ = some (.int .i64 a0_2) := ((K.out wp HX.out).1).cell 2; have ac3 : wp.cell? ⟨g3, 3, none⟩ = some (.int .i64 a0_3) := ((K.out wp HX.out).1).cell 3; have bc0 : wp.cell? ⟨g4, 0, none⟩ = some (.int .i64 a1_0) := ((K.out wp HX.out).2.1).cell 0; have bc1 : wp.cell? ⟨g4, 1, none⟩ = some (.int .i64 a1_1) := ((K.out wp HX.out).2.1).cell 1; have bc2 : wp.cell? ⟨g4, 2, none⟩ = some (.int .i64 a1_2) := ((K.out wp HX.out).2.1).cell 2; have bc3 : wp.cell? ⟨g4, 3, none⟩ = some (.int .i64 a1_3) := ((K.out wp HX.out).2.1).cell 3; have cc0 : wp.cell? ⟨g5, 0, none⟩ = some (.int .i64 a2_0) := ((K.out wp HX.out).2.2.1).cell 0; have cc1 : wp.cell? ⟨g5, 1, none⟩ = some (.int .i64 a2_1) := ((K.out wp HX.out).2.2.1).cell 1; have cc2 : wp.cell? ⟨g5, 2, none⟩ = some (.int .i64 a2_2) := ((K.out wp HX.out).2.2.1).cell 2; have cc3 : wp.cell? ⟨g5, 3, none⟩ = some (.int .i64 a2_3) := ((K.out wp HX.out).2.2.1).cell 3; have rc0 : wp.cell? ⟨g6, 0, none⟩ = some (.int .i64 0) := ((K.out wp HX.out).2.2.2.1).cell 0; have rf0 := ((K.out wp HX.out).2.2.2.1).frozen 0; have rc1 : wp.cell? ⟨g6, 1, none⟩ = some (.int .i64 0) := ((K.out wp HX.out).2.2.2.1).cell 1; have rf1 := ((K.out wp HX.out).2.2.2.1).frozen 1))
        refine bodyPost_ret (results_ct rfl _ _ g6 50 #[.int .i64 0, .int .i64 0] (0, 0) _ rfl ?h1 Try.underlying50 rfl (by kernel_rfl)) rfl ?_
        case h1 => exact (by refine blk_put (cs := #[.int .i64 0, .int .i64 0]) ?_ 1 _ rfl; refine blk_put (cs := #[.int .i64 0, .int .i64 0]) ?_ 0 _ rfl; exact (K.out _ HX.out).2.2.2.1)
        exact ⟨rfl, (by repeat (with_reducible first | exact (K.out _ HX.out).2.2.2.2.1 | refine below_set ?_ GE6.out))⟩
      | true =>
        have hh := HH.out
        simp only [and_self, if_true, Option.some.injEq, Prod.mk.injEq] at hh
        obtain ⟨rfl, rfl, rfl⟩ := hh
        have HC0 := Aside0.mk (ref_Corners_ok HPx.out); have HC1 := Aside0.mk (ref_Corners_ok HPy.out); have HC2 := Aside0.mk (ref_Corners_ok HPz.out)
        go_upto_region 6 with (first | (go_at_call 65; (with_reducible refine (boundstoneref02_Proper.calls a0_0 a0_1 a0_2 a0_3 _ _ HPx.out).mono ?_); rintro e wp ⟨rfl, hb⟩; have HX2 := Aside0.mk (below_then HX.out HX.out.size hb); clear hb HX; have HX := HX2; clear HX2; have ac0 : wp.cell? ⟨g3, 0, none⟩ = some (.int .i64 a0_0) := ((K.out wp HX.out).1).cell 0; have ac1 : wp.cell? ⟨g3, 1, none⟩ = some (.int .i64 a0_1) := ((K.out wp HX.out).1).cell 1; have ac2 : wp.cell? ⟨g3, 2, none⟩ = some (.int .i64 a0_2) := ((K.out wp HX.out).1).cell 2; have ac3 : wp.cell? ⟨g3, 3, none⟩ = some (.int .i64 a0_3) := ((K.out wp HX.out).1).cell 3; have bc0 : wp.cell? ⟨g4, 0, none⟩ = some (.int .i64 a1_0) := ((K.out wp HX.out).2.1).cell 0; have bc1 : wp.cell? ⟨g4, 1, none⟩ = some (.int .i64 a1_1) := ((K.out wp HX.out).2.1).cell 1; have bc2 : wp.cell? ⟨g4, 2, none⟩ = some (.int .i64 a1_2) := ((K.out wp HX.out).2.1).cell 2; have bc3 : wp.cell? ⟨g4, 3, none⟩ = some (.int .i64 a1_3) := ((K.out wp HX.out).2.1).cell 3; have cc0 : wp.cell? ⟨g5, 0, none⟩ = some (.int .i64 a2_0) := ((K.out wp HX.out).2.2.1).cell 0; have cc1 : wp.cell? ⟨g5, 1, none⟩ = some (.int .i64 a2_1) := ((K.out wp HX.out).2.2.1).cell 1; have cc2 : wp.cell? ⟨g5, 2, none⟩ = some (.int .i64 a2_2) := ((K.out wp HX.out).2.2.1).cell 2; have cc3 : wp.cell? ⟨g5, 3, none⟩ = some (.int .i64 a2_3) := ((K.out wp HX.out).2.2.1).cell 3) | (go_at_call 65; (with_reducible refine (boundstoneref02_Proper.calls a1_0 a1_1 a1_2 a1_3 _ _ HPy.out).mono ?_); rintro e wp ⟨rfl, hb⟩; have HX2 := Aside0.mk (below_then HX.out HX.out.size hb); clear hb HX; have HX := HX2; clear HX2; have ac0 : wp.cell? ⟨g3, 0, none⟩ = some (.int .i64 a0_0) := ((K.out wp HX.out).1).cell 0; have ac1 : wp.cell? ⟨g3, 1, none⟩ = some (.int .i64 a0_1) := ((K.out wp HX.out).1).cell 1; have ac2 : wp.cell? ⟨g3, 2, none⟩ = some (.int .i64 a0_2) := ((K.out wp HX.out).1).cell 2; have ac3 : wp.cell? ⟨g3, 3, none⟩ = some (.int .i64 a0_3) := ((K.out wp HX.out).1).cell 3; have bc0 : wp.cell? ⟨g4, 0, none⟩ = some (.int .i64 a1_0) := ((K.out wp HX.out).2.1).cell 0; have bc1 : wp.cell? ⟨g4, 1, none⟩ = some (.int .i64 a1_1) := ((K.out wp HX.out).2.1).cell 1; have bc2 : wp.cell? ⟨g4, 2, none⟩ = some (.int .i64 a1_2) := ((K.out wp HX.out).2.1).cell 2; have bc3 : wp.cell? ⟨g4, 3, none⟩ = some (.int .i64 a1_3) := ((K.out wp HX.out).2.1).cell 3; have cc0 : wp.cell? ⟨g5, 0, none⟩ = some (.int .i64 a2_0) := ((K.out wp HX.out).2.2.1).cell 0; have cc1 : wp.cell? ⟨g5, 1, none⟩ = some (.int .i64 a2_1) := ((K.out wp HX.out).2.2.1).cell 1; have cc2 : wp.cell? ⟨g5, 2, none⟩ = some (.int .i64 a2_2) := ((K.out wp HX.out).2.2.1).cell 2; have cc3 : wp.cell? ⟨g5, 3, none⟩ = some (.int .i64 a2_3) := ((K.out wp HX.out).2.2.1).cell 3) | (go_at_call 65; (with_reducible refine (boundstoneref02_Proper.calls a2_0 a2_1 a2_2 a2_3 _ _ HPz.out).mono ?_); rintro e wp ⟨rfl, hb⟩; have HX2 := Aside0.mk (below_then HX.out HX.out.size hb); clear hb HX; have HX := HX2; clear HX2; have ac0 : wp.cell? ⟨g3, 0, none⟩ = some (.int .i64 a0_0) := ((K.out wp HX.out).1).cell 0; have ac1 : wp.cell? ⟨g3, 1, none⟩ = some (.int .i64 a0_1) := ((K.out wp HX.out).1).cell 1; have ac2 : wp.cell? ⟨g3, 2, none⟩ = some (.int .i64 a0_2) := ((K.out wp HX.out).1).cell 2; have ac3 : wp.cell? ⟨g3, 3, none⟩ = some (.int .i64 a0_3) := ((K.out wp HX.out).1).cell 3; have bc0 : wp.cell? ⟨g4, 0, none⟩ = some (.int .i64 a1_0) := ((K.out wp HX.out).2.1).cell 0; have bc1 : wp.cell? ⟨g4, 1, none⟩ = some (.int .i64 a1_1) := ((K.out wp HX.out).2.1).cell 1; have bc2 : wp.cell? ⟨g4, 2, none⟩ = some (.int .i64 a1_2) := ((K.out wp HX.out).2.1).cell 2; have bc3 : wp.cell? ⟨g4, 3, none⟩ = some (.int .i64 a1_3) := ((K.out wp HX.out).2.1).cell 3; have cc0 : wp.cell? ⟨g5, 0, none⟩ = some (.int .i64 a2_0) := ((K.out wp HX.out).2.2.1).cell 0; have cc1 : wp.cell? ⟨g5, 1, none⟩ = some (.int .i64 a2_1) := ((K.out wp HX.out).2.2.1).cell 1; have cc2 : wp.cell? ⟨g5, 2, none⟩ = some (.int .i64 a2_2) := ((K.out wp HX.out).2.2.1).cell 2; have cc3 : wp.cell? ⟨g5, 3, none⟩ = some (.int .i64 a2_3) := ((K.out wp HX.out).2.2.1).cell 3))
        clear HPx HPy HPz HH
        go_upto_region 7 with (go_at_call 69; (with_reducible refine (boundstoneref02_Corners.calls a0_0 a0_1 a0_2 a0_3 _ _ _ _ _ _ _ _ _ HC0.out).mono ?_); rintro e ws ⟨rfl, hb⟩; have HX2 := Aside0.mk (below_then HX.out HX.out.size hb); clear hb HX; have HX := HX2; clear HX2)
        obtain ⟨g11, hg11⟩ : ∃ g, g = ws.heap.size := ⟨_, rfl⟩
        obtain ⟨Wa, hWa⟩ : ∃ W, ws.alloc (.cells #[.int .i64 a0_0, .int .i64 a0_2, .int .i64 a0_1, .int .i64 a0_2, .int .i64 a0_1, .int .i64 a0_3, .int .i64 a0_0, .int .i64 a0_3] 82) = W := ⟨_, rfl⟩
        rw [hWa, ← hg11]
        have KWa := Aside0.mk (show (Blk Wa g3 #[.int .i64 a0_0, .int .i64 a0_1, .int .i64 a0_2, .int .i64 a0_3] 52 ∧ Blk Wa g4 #[.int .i64 a1_0, .int .i64 a1_1, .int .i64 a1_2, .int .i64 a1_3] 52 ∧ Blk Wa g5 #[.int .i64 a2_0, .int .i64 a2_1, .int .i64 a2_2, .int .i64 a2_3] 52 ∧ Blk Wa g6 #[.int .i64 0, .int .i64 0] 50 ∧ Below w.heap.size w Wa ∧ w.heap.size + 4 ≤ Wa.heap.size) ∧ Blk Wa g11 #[.int .i64 a0_0, .int .i64 a0_2, .int .i64 a0_1, .int .i64 a0_2, .int .i64 a0_1, .int .i64 a0_3, .int .i64 a0_0, .int .i64 a0_3] 82 by
          obtain ⟨d0, d1, d2, d3, d4, d5⟩ := K.out ws HX.out
          rw [← hWa, hg11]
          exact ⟨⟨d0.alloc _, d1.alloc _, d2.alloc _, d3.alloc _, d4.alloc (by omega) _, by simp; omega⟩, Blk.new ws 82 _⟩)
        clear hg11 hWa K HX ac0 ac1 ac2 ac3 bc0 bc1 bc2 bc3 cc0 cc1 cc2 cc3
        have K := Aside0.mk (show ∀ X, Below Wa.heap.size Wa X → (Blk X g3 #[.int .i64 a0_0, .int .i64 a0_1, .int .i64 a0_2, .int .i64 a0_3] 52 ∧ Blk X g4 #[.int .i64 a1_0, .int .i64 a1_1, .int .i64 a1_2, .int .i64 a1_3] 52 ∧ Blk X g5 #[.int .i64 a2_0, .int .i64 a2_1, .int .i64 a2_2, .int .i64 a2_3] 52 ∧ Blk X g6 #[.int .i64 0, .int .i64 0] 50 ∧ Below w.heap.size w X ∧ w.heap.size + 4 ≤ X.heap.size) ∧ Blk X g11 #[.int .i64 a0_0, .int .i64 a0_2, .int .i64 a0_1, .int .i64 a0_2, .int .i64 a0_1, .int .i64 a0_3, .int .i64 a0_0, .int .i64 a0_3] 82 from fun X hb => by obtain ⟨⟨d0, d1, d2, d3, d4, d5⟩, e0⟩ := KWa.out; exact ⟨⟨d0.below hb, d1.below hb, d2.below hb, d3.below hb, below_then d4 (by omega) hb, by have := hb.size; omega⟩, e0.below hb⟩); have HX := Aside0.mk (Below.refl Wa.heap.size Wa)
        have ac0 : Wa.cell? ⟨g3, 0, none⟩ = some (.int .i64 a0_0) := (KWa.out.1.1).cell 0
        have ac1 : Wa.cell? ⟨g3, 1, none⟩ = some (.int .i64 a0_1) := (KWa.out.1.1).cell 1
        have ac2 : Wa.cell? ⟨g3, 2, none⟩ = some (.int .i64 a0_2) := (KWa.out.1.1).cell 2
        have ac3 : Wa.cell? ⟨g3, 3, none⟩ = some (.int .i64 a0_3) := (KWa.out.1.1).cell 3
        have bc0 : Wa.cell? ⟨g4, 0, none⟩ = some (.int .i64 a1_0) := (KWa.out.1.2.1).cell 0
        have bc1 : Wa.cell? ⟨g4, 1, none⟩ = some (.int .i64 a1_1) := (KWa.out.1.2.1).cell 1
        have bc2 : Wa.cell? ⟨g4, 2, none⟩ = some (.int .i64 a1_2) := (KWa.out.1.2.1).cell 2
        have bc3 : Wa.cell? ⟨g4, 3, none⟩ = some (.int .i64 a1_3) := (KWa.out.1.2.1).cell 3
        have cc0 : Wa.cell? ⟨g5, 0, none⟩ = some (.int .i64 a2_0) := (KWa.out.1.2.2.1).cell 0
        have cc1 : Wa.cell? ⟨g5, 1, none⟩ = some (.int .i64 a2_1) := (KWa.out.1.2.2.1).cell 1
        have cc2 : Wa.cell? ⟨g5, 2, none⟩ = some (.int .i64 a2_2) := (KWa.out.1.2.2.1).cell 2
        have cc3 : Wa.cell? ⟨g5, 3, none⟩ = some (.int .i64 a2_3) := (KWa.out.1.2.2.1).cell 3
        go_upto_region 8 with (go_at_call 69; (with_reducible refine (boundstoneref02_Corners.calls a1_0 a1_1 a1_2 a1_3 _ _ _ _ _ _ _ _ _ HC1.out).mono ?_); rintro e ws ⟨rfl, hb⟩; have HX2 := Aside0.mk (below_then HX.out HX.out.size hb); clear hb HX; have HX := HX2; clear HX2)
        obtain ⟨g12, hg12⟩ : ∃ g, g = ws.heap.size := ⟨_, rfl⟩
        obtain ⟨Wb, hWb⟩ : ∃ W, ws.alloc (.cells #[.int .i64 a1_0, .int .i64 a1_2, .int .i64 a1_1, .int .i64 a1_2, .int .i64 a1_1, .int .i64 a1_3, .int .i64 a1_0, .int .i64 a1_3] 82) = W := ⟨_, rfl⟩
        rw [hWb, ← hg12]
        have KWb := Aside0.mk (show (Blk Wb g3 #[.int .i64 a0_0, .int .i64 a0_1, .int .i64 a0_2, .int .i64 a0_3] 52 ∧ Blk Wb g4 #[.int .i64 a1_0, .int .i64 a1_1, .int .i64 a1_2, .int .i64 a1_3] 52 ∧ Blk Wb g5 #[.int .i64 a2_0, .int .i64 a2_1, .int .i64 a2_2, .int .i64 a2_3] 52 ∧ Blk Wb g6 #[.int .i64 0, .int .i64 0] 50 ∧ Below w.heap.size w Wb ∧ w.heap.size + 4 ≤ Wb.heap.size) ∧ Blk Wb g11 #[.int .i64 a0_0, .int .i64 a0_2, .int .i64 a0_1, .int .i64 a0_2, .int .i64 a0_1, .int .i64 a0_3, .int .i64 a0_0, .int .i64 a0_3] 82 ∧ Blk Wb g12 #[.int .i64 a1_0, .int .i64 a1_2, .int .i64 a1_1, .int .i64 a1_2, .int .i64 a1_1, .int .i64 a1_3, .int .i64 a1_0, .int .i64 a1_3] 82 by
          obtain ⟨⟨d0, d1, d2, d3, d4, d5⟩, e0⟩ := K.out ws HX.out
          rw [← hWb, hg12]
          exact ⟨⟨d0.alloc _, d1.alloc _, d2.alloc _, d3.alloc _, d4.alloc (by omega) _, by simp; omega⟩, e0.alloc _, Blk.new ws 82 _⟩)
        clear hg12 hWb K HX ac0 ac1 ac2 ac3 bc0 bc1 bc2 bc3 cc0 cc1 cc2 cc3
        have K := Aside0.mk (show ∀ X, Below Wb.heap.size Wb X → (Blk X g3 #[.int .i64 a0_0, .int .i64 a0_1, .int .i64 a0_2, .int .i64 a0_3] 52 ∧ Blk X g4 #[.int .i64 a1_0, .int .i64 a1_1, .int .i64 a1_2, .int .i64 a1_3] 52 ∧ Blk X g5 #[.int .i64 a2_0, .int .i64 a2_1, .int .i64 a2_2, .int .i64 a2_3] 52 ∧ Blk X g6 #[.int .i64 0, .int .i64 0] 50 ∧ Below w.heap.size w X ∧ w.heap.size + 4 ≤ X.heap.size) ∧ Blk X g11 #[.int .i64 a0_0, .int .i64 a0_2, .int .i64 a0_1, .int .i64 a0_2, .int .i64 a0_1, .int .i64 a0_3, .int .i64 a0_0, .int .i64 a0_3] 82 ∧ Blk X g12 #[.int .i64 a1_0, .int .i64 a1_2, .int .i64 a1_1, .int .i64 a1_2, .int .i64 a1_1, .int .i64 a1_3, .int .i64 a1_0, .int .i64 a1_3] 82 from fun X hb => by obtain ⟨⟨d0, d1, d2, d3, d4, d5⟩, e0, e1⟩ := KWb.out; exact ⟨⟨d0.below hb, d1.below hb, d2.below hb, d3.below hb, below_then d4 (by omega) hb, by have := hb.size; omega⟩, e0.below hb, e1.below hb⟩); have HX := Aside0.mk (Below.refl Wb.heap.size Wb)
        have ac0 : Wb.cell? ⟨g3, 0, none⟩ = some (.int .i64 a0_0) := (KWb.out.1.1).cell 0
        have ac1 : Wb.cell? ⟨g3, 1, none⟩ = some (.int .i64 a0_1) := (KWb.out.1.1).cell 1
        have ac2 : Wb.cell? ⟨g3, 2, none⟩ = some (.int .i64 a0_2) := (KWb.out.1.1).cell 2
        have ac3 : Wb.cell? ⟨g3, 3, none⟩ = some (.int .i64 a0_3) := (KWb.out.1.1).cell 3
        have bc0 : Wb.cell? ⟨g4, 0, none⟩ = some (.int .i64 a1_0) := (KWb.out.1.2.1).cell 0
        have bc1 : Wb.cell? ⟨g4, 1, none⟩ = some (.int .i64 a1_1) := (KWb.out.1.2.1).cell 1
        have bc2 : Wb.cell? ⟨g4, 2, none⟩ = some (.int .i64 a1_2) := (KWb.out.1.2.1).cell 2
        have bc3 : Wb.cell? ⟨g4, 3, none⟩ = some (.int .i64 a1_3) := (KWb.out.1.2.1).cell 3
        have cc0 : Wb.cell? ⟨g5, 0, none⟩ = some (.int .i64 a2_0) := (KWb.out.1.2.2.1).cell 0
        have cc1 : Wb.cell? ⟨g5, 1, none⟩ = some (.int .i64 a2_1) := (KWb.out.1.2.2.1).cell 1
        have cc2 : Wb.cell? ⟨g5, 2, none⟩ = some (.int .i64 a2_2) := (KWb.out.1.2.2.1).cell 2
        have cc3 : Wb.cell? ⟨g5, 3, none⟩ = some (.int .i64 a2_3) := (KWb.out.1.2.2.1).cell 3
        go_upto_region 9 with (go_at_call 69; (with_reducible refine (boundstoneref02_Corners.calls a2_0 a2_1 a2_2 a2_3 _ _ _ _ _ _ _ _ _ HC2.out).mono ?_); rintro e ws ⟨rfl, hb⟩; have HX2 := Aside0.mk (below_then HX.out HX.out.size hb); clear hb HX; have HX := HX2; clear HX2)
        obtain ⟨g13, hg13⟩ : ∃ g, g = ws.heap.size := ⟨_, rfl⟩
        obtain ⟨Wc, hWc⟩ : ∃ W, ws.alloc (.cells #[.int .i64 a2_0, .int .i64 a2_2, .int .i64 a2_1, .int .i64 a2_2, .int .i64 a2_1, .int .i64 a2_3, .int .i64 a2_0, .int .i64 a2_3] 82) = W := ⟨_, rfl⟩
        rw [hWc, ← hg13]
        have KWc := Aside0.mk (show (Blk Wc g3 #[.int .i64 a0_0, .int .i64 a0_1, .int .i64 a0_2, .int .i64 a0_3] 52 ∧ Blk Wc g4 #[.int .i64 a1_0, .int .i64 a1_1, .int .i64 a1_2, .int .i64 a1_3] 52 ∧ Blk Wc g5 #[.int .i64 a2_0, .int .i64 a2_1, .int .i64 a2_2, .int .i64 a2_3] 52 ∧ Blk Wc g6 #[.int .i64 0, .int .i64 0] 50 ∧ Below w.heap.size w Wc ∧ w.heap.size + 4 ≤ Wc.heap.size) ∧ Blk Wc g11 #[.int .i64 a0_0, .int .i64 a0_2, .int .i64 a0_1, .int .i64 a0_2, .int .i64 a0_1, .int .i64 a0_3, .int .i64 a0_0, .int .i64 a0_3] 82 ∧ Blk Wc g12 #[.int .i64 a1_0, .int .i64 a1_2, .int .i64 a1_1, .int .i64 a1_2, .int .i64 a1_1, .int .i64 a1_3, .int .i64 a1_0, .int .i64 a1_3] 82 ∧ Blk Wc g13 #[.int .i64 a2_0, .int .i64 a2_2, .int .i64 a2_1, .int .i64 a2_2, .int .i64 a2_1, .int .i64 a2_3, .int .i64 a2_0, .int .i64 a2_3] 82 by
          obtain ⟨⟨d0, d1, d2, d3, d4, d5⟩, e0, e1⟩ := K.out ws HX.out
          rw [← hWc, hg13]
          exact ⟨⟨d0.alloc _, d1.alloc _, d2.alloc _, d3.alloc _, d4.alloc (by omega) _, by simp; omega⟩, e0.alloc _, e1.alloc _, Blk.new ws 82 _⟩)
        clear hg13 hWc K HX ac0 ac1 ac2 ac3 bc0 bc1 bc2 bc3 cc0 cc1 cc2 cc3
        have K := Aside0.mk (show ∀ X, Below Wc.heap.size Wc X → (Blk X g3 #[.int .i64 a0_0, .int .i64 a0_1, .int .i64 a0_2, .int .i64 a0_3] 52 ∧ Blk X g4 #[.int .i64 a1_0, .int .i64 a1_1, .int .i64 a1_2, .int .i64 a1_3] 52 ∧ Blk X g5 #[.int .i64 a2_0, .int .i64 a2_1, .int .i64 a2_2, .int .i64 a2_3] 52 ∧ Blk X g6 #[.int .i64 0, .int .i64 0] 50 ∧ Below w.heap.size w X ∧ w.heap.size + 4 ≤ X.heap.size) ∧ Blk X g11 #[.int .i64 a0_0, .int .i64 a0_2, .int .i64 a0_1, .int .i64 a0_2, .int .i64 a0_1, .int .i64 a0_3, .int .i64 a0_0, .int .i64 a0_3] 82 ∧ Blk X g12 #[.int .i64 a1_0, .int .i64 a1_2, .int .i64 a1_1, .int .i64 a1_2, .int .i64 a1_1, .int .i64 a1_3, .int .i64 a1_0, .int .i64 a1_3] 82 ∧ Blk X g13 #[.int .i64 a2_0, .int .i64 a2_2, .int .i64 a2_1, .int .i64 a2_2, .int .i64 a2_1, .int .i64 a2_3, .int .i64 a2_0, .int .i64 a2_3] 82 from fun X hb => by obtain ⟨⟨d0, d1, d2, d3, d4, d5⟩, e0, e1, e2⟩ := KWc.out; exact ⟨⟨d0.below hb, d1.below hb, d2.below hb, d3.below hb, below_then d4 (by omega) hb, by have := hb.size; omega⟩, e0.below hb, e1.below hb, e2.below hb⟩); have HX := Aside0.mk (Below.refl Wc.heap.size Wc)
        have ac0 : Wc.cell? ⟨g3, 0, none⟩ = some (.int .i64 a0_0) := (KWc.out.1.1).cell 0
        have ac1 : Wc.cell? ⟨g3, 1, none⟩ = some (.int .i64 a0_1) := (KWc.out.1.1).cell 1
        have ac2 : Wc.cell? ⟨g3, 2, none⟩ = some (.int .i64 a0_2) := (KWc.out.1.1).cell 2
        have ac3 : Wc.cell? ⟨g3, 3, none⟩ = some (.int .i64 a0_3) := (KWc.out.1.1).cell 3
        have bc0 : Wc.cell? ⟨g4, 0, none⟩ = some (.int .i64 a1_0) := (KWc.out.1.2.1).cell 0
        have bc1 : Wc.cell? ⟨g4, 1, none⟩ = some (.int .i64 a1_1) := (KWc.out.1.2.1).cell 1
        have bc2 : Wc.cell? ⟨g4, 2, none⟩ = some (.int .i64 a1_2) := (KWc.out.1.2.1).cell 2
        have bc3 : Wc.cell? ⟨g4, 3, none⟩ = some (.int .i64 a1_3) := (KWc.out.1.2.1).cell 3
        have cc0 : Wc.cell? ⟨g5, 0, none⟩ = some (.int .i64 a2_0) := (KWc.out.1.2.2.1).cell 0
        have cc1 : Wc.cell? ⟨g5, 1, none⟩ = some (.int .i64 a2_1) := (KWc.out.1.2.2.1).cell 1
        have cc2 : Wc.cell? ⟨g5, 2, none⟩ = some (.int .i64 a2_2) := (KWc.out.1.2.2.1).cell 2
        have cc3 : Wc.cell? ⟨g5, 3, none⟩ = some (.int .i64 a2_3) := (KWc.out.1.2.2.1).cell 3
        have HT := Aside0.mk (show boundstoneref02_twice.f a0_0 a0_2 a1_0 a1_2 a2_0 a2_2 = some (twW ((corn a0_0 a0_1 a0_2 a0_3) 0) ((corn a1_0 a1_1 a1_2 a1_3) 0) ((corn a2_0 a2_1 a2_2 a2_3) 0)) from rfl)
        obtain ⟨first, hfirst⟩ : ∃ n, n = twW ((corn a0_0 a0_1 a0_2 a0_3) 0) ((corn a1_0 a1_1 a1_2 a1_3) 0) ((corn a2_0 a2_1 a2_2 a2_3) 0) := ⟨_, rfl⟩
        rw [← hfirst] at HT
        have HF := Aside0.mk hfirst
        clear hfirst
        have p0c0 : Wc.cell? ⟨g11, 0, none⟩ = some (.int .i64 a0_0) := (KWc.out.2.1).cell 0
        have p0c1 : Wc.cell? ⟨g11, 1, none⟩ = some (.int .i64 a0_2) := (KWc.out.2.1).cell 1
        have p1c0 : Wc.cell? ⟨g12, 0, none⟩ = some (.int .i64 a1_0) := (KWc.out.2.2.1).cell 0
        have p1c1 : Wc.cell? ⟨g12, 1, none⟩ = some (.int .i64 a1_2) := (KWc.out.2.2.1).cell 1
        have p2c0 : Wc.cell? ⟨g13, 0, none⟩ = some (.int .i64 a2_0) := (KWc.out.2.2.2).cell 0
        have p2c1 : Wc.cell? ⟨g13, 1, none⟩ = some (.int .i64 a2_2) := (KWc.out.2.2.2).cell 1
        go_upto_region 10 with (go_at_call 83; (with_reducible refine (boundstoneref02_twice.calls _ _ _ _ _ _ _ _ HT.out).mono ?_); rintro e ws ⟨rfl, hb⟩; have HX2 := Aside0.mk (below_then HX.out HX.out.size hb); clear hb HX; have HX := HX2; clear HX2)
        go_upto_region 11 with fail
        obtain ⟨g15, hg15⟩ : ∃ g, g = ws.heap.size := ⟨_, rfl⟩
        obtain ⟨Wd, hWd⟩ : ∃ W, ws.alloc (.cells #[.int .i64 first, .int .i64 first] 50) = W := ⟨_, rfl⟩
        rw [hWd, ← hg15]
        have KD := Aside0.mk (show (Blk Wd g3 #[.int .i64 a0_0, .int .i64 a0_1, .int .i64 a0_2, .int .i64 a0_3] 52 ∧ Blk Wd g4 #[.int .i64 a1_0, .int .i64 a1_1, .int .i64 a1_2, .int .i64 a1_3] 52 ∧ Blk Wd g5 #[.int .i64 a2_0, .int .i64 a2_1, .int .i64 a2_2, .int .i64 a2_3] 52 ∧ Blk Wd g6 #[.int .i64 0, .int .i64 0] 50 ∧ Below w.heap.size w Wd ∧ w.heap.size + 4 ≤ Wd.heap.size) ∧ Blk Wd g11 #[.int .i64 a0_0, .int .i64 a0_2, .int .i64 a0_1, .int .i64 a0_2, .int .i64 a0_1, .int .i64 a0_3, .int .i64 a0_0, .int .i64 a0_3] 82 ∧ Blk Wd g12 #[.int .i64 a1_0, .int .i64 a1_2, .int .i64 a1_1, .int .i64 a1_2, .int .i64 a1_1, .int .i64 a1_3, .int .i64 a1_0, .int .i64 a1_3] 82 ∧ Blk Wd g13 #[.int .i64 a2_0, .int .i64 a2_2, .int .i64 a2_1, .int .i64 a2_2, .int .i64 a2_1, .int .i64 a2_3, .int .i64 a2_0, .int .i64 a2_3] 82 ∧ Blk Wd g15 #[.int .i64 first, .int .i64 first] 50 by
          obtain ⟨⟨d0, d1, d2, d3, d4, d5⟩, e0, e1, e2⟩ := K.out ws HX.out
          rw [← hWd, hg15]
          exact ⟨⟨d0.alloc _, d1.alloc _, d2.alloc _, d3.alloc _, d4.alloc (by omega) _, by simp; omega⟩, e0.alloc _, e1.alloc _, e2.alloc _, Blk.new ws 50 _⟩)
        have N := Aside0.mk (show (g15 ≠ g3 ∧ g15 ≠ g4 ∧ g15 ≠ g5 ∧ g15 ≠ g6) ∧ (g15 ≠ g11 ∧ g15 ≠ g12 ∧ g15 ≠ g13) ∧ w.heap.size ≤ g15 by
          obtain ⟨⟨d0, d1, d2, d3, d4, d5⟩, e0, e1, e2⟩ := K.out ws HX.out
          have := d0.lt; have := d1.lt; have := d2.lt; have := d3.lt; have := e0.lt; have := e1.lt; have := e2.lt
          omega)
        clear hg15 hWd K HX ac0 ac1 ac2 ac3 bc0 bc1 bc2 bc3 cc0 cc1 cc2 cc3 KWa KWb KWc p0c0 p0c1 p1c0 p1c1 p2c0 p2c1
        go_wp2
        go_loopw [16] (fun v16 wr => ∃ (i : Nat) (lo hi : Int), i ≤ 64 ∧ v16 = .int .i64 i ∧ Aside0 ((lo, hi) = outR (corn a0_0 a0_1 a0_2 a0_3) (corn a1_0 a1_1 a1_2 a1_3) (corn a2_0 a2_1 a2_2 a2_3) i (first, first)) ∧ Aside0 ((Blk wr g3 #[.int .i64 a0_0, .int .i64 a0_1, .int .i64 a0_2, .int .i64 a0_3] 52 ∧ Blk wr g4 #[.int .i64 a1_0, .int .i64 a1_1, .int .i64 a1_2, .int .i64 a1_3] 52 ∧ Blk wr g5 #[.int .i64 a2_0, .int .i64 a2_1, .int .i64 a2_2, .int .i64 a2_3] 52 ∧ Blk wr g6 #[.int .i64 0, .int .i64 0] 50 ∧ Below w.heap.size w wr ∧ w.heap.size + 4 ≤ wr.heap.size) ∧ Blk wr g11 #[.int .i64 a0_0, .int .i64 a0_2, .int .i64 a0_1, .int .i64 a0_2, .int .i64 a0_1, .int .i64 a0_3, .int .i64 a0_0, .int .i64 a0_3] 82 ∧ Blk wr g12 #[.int .i64 a1_0, .int .i64 a1_2, .int .i64 a1_1, .int .i64 a1_2, .int .i64 a1_1, .int .i64 a1_3, .int .i64 a1_0, .int .i64 a1_3] 82 ∧ Blk wr g13 #[.int .i64 a2_0, .int .i64 a2_2, .int .i64 a2_1, .int .i64 a2_2, .int .i64 a2_1, .int .i64 a2_3, .int .i64 a2_0, .int .i64 a2_3] 82 ∧ Blk wr g15 #[.int .i64 lo, .int .i64 hi] 50)) (fun v16 _ => 64 - (intOf v16).toNat)
        case atStart => exact ⟨0, first, first, by omega, rfl, ⟨rfl⟩, KD⟩
        case round =>
          clear KD
          obtain ⟨i, lo, hi, hi4, rfl, HO, KR⟩ := hrel
          by_cases hlt : i < 64
          · obtain ⟨x, hx⟩ : ∃ x, x = i / 16 := ⟨_, rfl⟩
            obtain ⟨y4, hy4⟩ : ∃ x, x = i / 4 := ⟨_, rfl⟩
            obtain ⟨y, hy⟩ : ∃ x, x = i / 4 % 4 := ⟨_, rfl⟩
            obtain ⟨z, hz⟩ : ∃ x, x = i % 4 := ⟨_, rfl⟩
            have tx : Int.tdiv (i : Int) 16 = (x : Int) := by rw [Int.tdiv_eq_ediv_of_nonneg (by omega)]; omega
            have ty4 : Int.tdiv (i : Int) 4 = (y4 : Int) := by rw [Int.tdiv_eq_ediv_of_nonneg (by omega)]; omega
            have ty : Int.tmod (y4 : Int) 4 = (y : Int) := by rw [Int.tmod_eq_emod_of_nonneg (by omega)]; omega
            have tz : Int.tmod (i : Int) 4 = (z : Int) := by rw [Int.tmod_eq_emod_of_nonneg (by omega)]; omega
            have wx : IntKind.i64.wrap (x : Int) = (x : Int) := by rw [IntKind.wrap_i64]; omega
            have wy4 : IntKind.i64.wrap (y4 : Int) = (y4 : Int) := by rw [IntKind.wrap_i64]; omega
            have wy : IntKind.i64.wrap (y : Int) = (y : Int) := by rw [IntKind.wrap_i64]; omega
            have wz : IntKind.i64.wrap (z : Int) = (z : Int) := by rw [IntKind.wrap_i64]; omega
            have lx : x < 4 := by omega
            have ly : y < 4 := by omega
            have lz : z < 4 := by omega
            have lx0 : (0 : Int) ≤ (x : Int) := by omega
            have ly0 : (0 : Int) ≤ (y : Int) := by omega
            have lz0 : (0 : Int) ≤ (z : Int) := by omega
            have lx1 : (x : Int) < 4 := by omega
            have ly1 : (y : Int) < 4 := by omega
            have lz1 : (z : Int) < 4 := by omega
            have HI := Aside0.mk (show i / 16 = x ∧ i / 4 % 4 = y ∧ i % 4 = z from ⟨hx.symm, hy.symm, hz.symm⟩)
            clear hx hy4 hy hz
            obtain ⟨p, hp⟩ : ∃ p, (corn a0_0 a0_1 a0_2 a0_3) x = p := ⟨_, rfl⟩
            obtain ⟨q, hq⟩ : ∃ p, (corn a1_0 a1_1 a1_2 a1_3) y = p := ⟨_, rfl⟩
            obtain ⟨r, hr⟩ : ∃ p, (corn a2_0 a2_1 a2_2 a2_3) z = p := ⟨_, rfl⟩
            obtain ⟨n, hn⟩ : ∃ n, twW p q r = n := ⟨_, rfl⟩
            have HT2 := Aside0.mk (show boundstoneref02_twice.f p.f0 p.f1 q.f0 q.f1 r.f0 r.f1 = some n by rw [← hn]; rfl)
            obtain ⟨p0, p1⟩ := cell_corn KR.out.2.1 lx
            obtain ⟨q0, q1⟩ := cell_corn KR.out.2.2.1 ly
            obtain ⟨r0, r1⟩ := cell_corn KR.out.2.2.2.1 lz
            rw [hp] at p0 p1
            rw [hq] at q0 q1
            rw [hr] at r0 r1
            have HP := Aside0.mk (And.intro hp (And.intro hq (And.intro hr hn)))
            clear hp hq hr hn
            have K := Aside0.mk (show ∀ X, Below wr.heap.size wr X → (Blk X g3 #[.int .i64 a0_0, .int .i64 a0_1, .int .i64 a0_2, .int .i64 a0_3] 52 ∧ Blk X g4 #[.int .i64 a1_0, .int .i64 a1_1, .int .i64 a1_2, .int .i64 a1_3] 52 ∧ Blk X g5 #[.int .i64 a2_0, .int .i64 a2_1, .int .i64 a2_2, .int .i64 a2_3] 52 ∧ Blk X g6 #[.int .i64 0, .int .i64 0] 50 ∧ Below w.heap.size w X ∧ w.heap.size + 4 ≤ X.heap.size) ∧ Blk X g11 #[.int .i64 a0_0, .int .i64 a0_2, .int .i64 a0_1, .int .i64 a0_2, .int .i64 a0_1, .int .i64 a0_3, .int .i64 a0_0, .int .i64 a0_3] 82 ∧ Blk X g12 #[.int .i64 a1_0, .int .i64 a1_2, .int .i64 a1_1, .int .i64 a1_2, .int .i64 a1_1, .int .i64 a1_3, .int .i64 a1_0, .int .i64 a1_3] 82 ∧ Blk X g13 #[.int .i64 a2_0, .int .i64 a2_2, .int .i64 a2_1, .int .i64 a2_2, .int .i64 a2_1, .int .i64 a2_3, .int .i64 a2_0, .int .i64 a2_3] 82 ∧ Blk X g15 #[.int .i64 lo, .int .i64 hi] 50 from fun X hb => by obtain ⟨⟨d0, d1, d2, d3, d4, d5⟩, e0, e1, e2, e3⟩ := KR.out; exact ⟨⟨d0.below hb, d1.below hb, d2.below hb, d3.below hb, below_then d4 (by omega) hb, by have := hb.size; omega⟩, e0.below hb, e1.below hb, e2.below hb, e3.below hb⟩); have HX := Aside0.mk (Below.refl wr.heap.size wr)
            clear HX
            have HX := Aside0.mk (show Below wr.heap.size wr wr.drew from below_drew1 (Below.refl _ _))
            obtain ⟨m1, hm1⟩ : ∃ m, m = mn lo n := ⟨_, rfl⟩
            obtain ⟨m2, hm2⟩ : ∃ m, m = mx hi n := ⟨_, rfl⟩
            have hm1_ : (if n < lo then n else lo) = m1 := hm1.symm
            have hm2_ : (if hi < n then n else hi) = m2 := hm2.symm
            have HM := Aside0.mk (And.intro hm1 hm2)
            clear hm1 hm2
            go_upto_region 14 with fail
            (try simp only [Act.put, List.setIfInBounds_toArray, List.set_cons_zero, List.set_cons_succ])
            go_cut [17] (fun v17 wd => v17 = .int .i64 n ∧ Aside0 ((Blk wd g3 #[.int .i64 a0_0, .int .i64 a0_1, .int .i64 a0_2, .int .i64 a0_3] 52 ∧ Blk wd g4 #[.int .i64 a1_0, .int .i64 a1_1, .int .i64 a1_2, .int .i64 a1_3] 52 ∧ Blk wd g5 #[.int .i64 a2_0, .int .i64 a2_1, .int .i64 a2_2, .int .i64 a2_3] 52 ∧ Blk wd g6 #[.int .i64 0, .int .i64 0] 50 ∧ Below w.heap.size w wd ∧ w.heap.size + 4 ≤ wd.heap.size) ∧ Blk wd g11 #[.int .i64 a0_0, .int .i64 a0_2, .int .i64 a0_1, .int .i64 a0_2, .int .i64 a0_1, .int .i64 a0_3, .int .i64 a0_0, .int .i64 a0_3] 82 ∧ Blk wd g12 #[.int .i64 a1_0, .int .i64 a1_2, .int .i64 a1_1, .int .i64 a1_2, .int .i64 a1_1, .int .i64 a1_3, .int .i64 a1_0, .int .i64 a1_3] 82 ∧ Blk wd g13 #[.int .i64 a2_0, .int .i64 a2_2, .int .i64 a2_1, .int .i64 a2_2, .int .i64 a2_1, .int .i64 a2_3, .int .i64 a2_0, .int .i64 a2_3] 82 ∧ Blk wd g15 #[.int .i64 lo, .int .i64 hi] 50))
            case first =>
              go_region_held3 (fun X => X.cell? ⟨g11, x * 2, none⟩ = some (.int .i64 p.f0) ∧ X.cell? ⟨g11, x * 2 + 1, none⟩ = some (.int .i64 p.f1) ∧ X.cell? ⟨g12, y * 2, none⟩ = some (.int .i64 q.f0) ∧ X.cell? ⟨g12, y * 2 + 1, none⟩ = some (.int .i64 q.f1) ∧ X.cell? ⟨g13, z * 2, none⟩ = some (.int .i64 r.f0) ∧ X.cell? ⟨g13, z * 2 + 1, none⟩ = some (.int .i64 r.f1)) (first | (refine ⟨?_, ?_, ?_, ?_, ?_, ?_⟩ <;> assumption; done) | (go_keep; done)) (first | (go_at_call 83; (with_reducible refine (boundstoneref02_twice.calls _ _ _ _ _ _ _ _ HT2.out).mono ?_); rintro e ws ⟨rfl, hb⟩; have HX2 := Aside0.mk (below_then HX.out HX.out.size hb); clear hb HX; have HX := HX2; clear HX2; have KZ := Aside0.mk (K.out ws HX.out); have z0 := HP.out.1 ▸ (cell_corn KZ.out.2.1 lx); have z1 := HP.out.2.1 ▸ (cell_corn KZ.out.2.2.1 ly); have z2 := HP.out.2.2.1 ▸ (cell_corn KZ.out.2.2.2.1 lz); obtain ⟨s0, s1⟩ := z0; obtain ⟨s2, s3⟩ := z1; obtain ⟨s4, s5⟩ := z2))
              all_goals (first | go_meet | (go_wp2; go_meet))
              all_goals exact ⟨rfl, ⟨K.out _ HX.out⟩⟩
            case rest =>
              obtain ⟨rfl, KD⟩ := hcut
              clear K HX KR p0 p1 q0 q1 r0 r1
              have oc0 : wc.cell? ⟨g15, 0, none⟩ = some (.int .i64 lo) := (KD.out.2.2.2.2).cell 0
              have of0 := (KD.out.2.2.2.2).frozen 0
              have oc1 : wc.cell? ⟨g15, 1, none⟩ = some (.int .i64 hi) := (KD.out.2.2.2.2).cell 1
              have of1 := (KD.out.2.2.2.2).frozen 1
              go_wp2
              go_roundw
              case rel =>
                obtain ⟨⟨d0, d1, d2, d3, d4, d5⟩, e0, e1, e2, e3⟩ := KD.out
                obtain ⟨rfl, rfl⟩ := HM.out
                exact ⟨i + 1, mn lo n, mx hi n, by omega, by go_num, ⟨by show _ = covN (outR (corn a0_0 a0_1 a0_2 a0_3) (corn a1_0 a1_1 a1_2 a1_3) (corn a2_0 a2_1 a2_2 a2_3) i (first, first)) (twW ((corn a0_0 a0_1 a0_2 a0_3) (i / 16)) ((corn a1_0 a1_1 a1_2 a1_3) (i / 4 % 4)) ((corn a2_0 a2_1 a2_2 a2_3) (i % 4))); rw [← HO.out, HI.out.1, HI.out.2.1, HI.out.2.2, HP.out.1, HP.out.2.1, HP.out.2.2.1, HP.out.2.2.2]; rfl⟩,
                  ⟨⟨blk_other_ (blk_other_ d0 N.out.1.1 _) N.out.1.1 _, blk_other_ (blk_other_ d1 N.out.1.2.1 _) N.out.1.2.1 _, blk_other_ (blk_other_ d2 N.out.1.2.2.1 _) N.out.1.2.2.1 _, blk_other_ (blk_other_ d3 N.out.1.2.2.2 _) N.out.1.2.2.2 _, below_set (below_set d4 N.out.2.2) N.out.2.2, by simpa using d5⟩,
                    blk_other_ (blk_other_ e0 N.out.2.1.1 _) N.out.2.1.1 _, blk_other_ (blk_other_ e1 N.out.2.1.2.1 _) N.out.2.1.2.1 _, blk_other_ (blk_other_ e2 N.out.2.1.2.2 _) N.out.2.1.2.2 _, blk_put (blk_put e3 0 (.int .i64 (mn lo n)) rfl) 1 (.int .i64 (mx hi n)) rfl⟩⟩
              case measure => simp [intOf]; omega
          · obtain rfl : i = 64 := by omega
            have oc0 : wr.cell? ⟨g15, 0, none⟩ = some (.int .i64 lo) := (KR.out.2.2.2.2).cell 0
            have oc1 : wr.cell? ⟨g15, 1, none⟩ = some (.int .i64 hi) := (KR.out.2.2.2.2).cell 1
            have rc0 : wr.cell? ⟨g6, 0, none⟩ = some (.int .i64 0) := (KR.out.1.2.2.2.1).cell 0
            have rf0 := (KR.out.1.2.2.2.1).frozen 0
            have rc1 : wr.cell? ⟨g6, 1, none⟩ = some (.int .i64 0) := (KR.out.1.2.2.2.1).cell 1
            have rf1 := (KR.out.1.2.2.2.1).frozen 1
            go_wp2
            refine bodyPost_ret (results_ct rfl _ _ g6 50 #[.int .i64 lo, .int .i64 hi] (0, 0) _ rfl ?h1 Try.underlying50 rfl (by kernel_rfl)) rfl ?_
            case h1 => exact (by refine blk_put (cs := #[.int .i64 lo, .int .i64 0]) ?_ 1 _ rfl; refine blk_put (cs := #[.int .i64 0, .int .i64 0]) ?_ 0 _ rfl; exact KR.out.1.2.2.2.1)
            have hS : (lo, hi) = spreadR (corn a0_0 a0_1 a0_2 a0_3) (corn a1_0 a1_1 a1_2 a1_3) (corn a2_0 a2_1 a2_2 a2_3) := by unfold spreadR; rw [← HF.out]; exact HO.out
            rw [← hS]
            exact ⟨rfl, (by repeat (with_reducible first | exact KR.out.1.2.2.2.2.1 | refine below_set ?_ GE6.out))⟩
end Go.Proofs.Ytckaejgamfllfaa.G
end

section
namespace Go.Proofs.Ytckaejgamfllfaa.G
open Go.RowKit Go.Proofs.YtckaejgamfllfaaW.PrintWords Go.Proofs.YtckaejgamfllfaaW.PrintLast Go.Proofs.YtckaejgamfllfaaW.PrintMore
attribute [local go_sem] max2_int min2_int max_two min_two max_three min_three max_four min_four
set_option linter.unusedVariables false
set_option linter.unusedSimpArgs false
mutual
def plane_Turns.j0 : Nat → Bool → Int → Bool → Int → Int → Option (Int)
 | 0, _, _, _, _, _ => none
 | k + 1, x8, x9, x22, x840000, x840001 => if x22 = true then (plane_Turns.j1 k x8 (wrap64 (x9 + 1)) x840000 x840001) else (plane_Turns.j1 k x8 x9 x840000 x840001)
def plane_Turns.j1 : Nat → Bool → Int → Int → Int → Option (Int)
 | 0, _, _, _, _ => none
 | k + 1, x8, x9, x840000, x840001 => if x8 = true then (if x840000 ≤ 0 then (plane_Turns.j2 k x8 x9 (decide (x840001 ≥ 0)) x840000 x840001) else (plane_Turns.j2 k x8 x9 false x840000 x840001)) else (plane_Turns.j2 k x8 x9 false x840000 x840001)
def plane_Turns.j2 : Nat → Bool → Int → Bool → Int → Int → Option (Int)
 | 0, _, _, _, _, _ => none
 | k + 1, x8, x9, x35, x840000, x840001 => if x35 = true then (plane_Turns.j3 k x8 (wrap64 (x9 + 2)) x840000 x840001) else (plane_Turns.j3 k x8 x9 x840000 x840001)
def plane_Turns.j3 : Nat → Bool → Int → Int → Int → Option (Int)
 | 0, _, _, _, _ => none
 | k + 1, x8, x9, x840000, x840001 => if x8 = true then (plane_Turns.j4 k x9 (decide (x840001 > 0))) else (plane_Turns.j4 k x9 false)
def plane_Turns.j4 : Nat → Int → Bool → Option (Int)
 | 0, _, _ => none
 | k + 1, x9, x43 => if x43 = true then (some (wrap64 (x9 + 4))) else (some x9)
end
def plane_Turns.f (k : Nat) (a0_0 : Int) (a0_1 : Int) (a0_2 : Int) (a0_3 : Int) (a1_0 : Int) (a1_1 : Int) (a1_2 : Int) (a1_3 : Int) (a2_0 : Int) (a2_1 : Int) (a2_2 : Int) (a2_3 : Int) : Option (Int) := (plane_Spread.f a0_0 a0_1 a0_2 a0_3 a1_0 a1_1 a1_2 a1_3 a2_0 a2_1 a2_2 a2_3).bind fun bt836 => (if bt836.2.2 = true then (plane_Turns.j0 k bt836.2.2 0 (decide (bt836.1 < 0)) bt836.1 bt836.2.1) else (plane_Turns.j0 k bt836.2.2 0 false bt836.1 bt836.2.1))
set_option maxHeartbeats 8000000 in
set_option maxRecDepth 100000 in
theorem plane_Turns.calls (k : Nat) (a0_0 : Int) (a0_1 : Int) (a0_2 : Int) (a0_3 : Int) (a1_0 : Int) (a1_1 : Int) (a1_2 : Int) (a1_3 : Int) (a2_0 : Int) (a2_1 : Int) (a2_2 : Int) (a2_3 : Int) (r : Int) (w : World) (h : plane_Turns.f k a0_0 a0_1 a0_2 a0_3 a1_0 a1_1 a1_2 a1_3 a2_0 a2_1 a2_2 a2_3 = some r) :
  Calls Try.prog 54 #[.agg #[.int .i64 a0_0, .int .i64 a0_1, .int .i64 a0_2, .int .i64 a0_3], .agg #[.int .i64 a1_0, .int .i64 a1_1, .int .i64 a1_2, .int .i64 a1_3], .agg #[.int .i64 a2_0, .int .i64 a2_1, .int .i64 a2_2, .int .i64 a2_3]] w fun e w' => e = .returned (.int .i64 r) ∧ Below w.heap.size w w' := by
 have hu52 := Try.underlying52
 have hu50 := Try.underlying50
 have HB := Aside0.mk (Below.refl w.heap.size w)
 have H : ((plane_Spread.f a0_0 a0_1 a0_2 a0_3 a1_0 a1_1 a1_2 a1_3 a2_0 a2_1 a2_2 a2_3).bind fun bt836 => (if bt836.2.2 = true then (plane_Turns.j0 k bt836.2.2 0 (decide (bt836.1 < 0)) bt836.1 bt836.2.1) else (plane_Turns.j0 k bt836.2.2 0 false bt836.1 bt836.2.1))) = some r := h
 clear h
 replace H := Option.bind_eq_some_iff.mp H
 obtain ⟨⟨t836, t837, t838⟩, A40, H⟩ := H
 replace H : (if t838 = true then (plane_Turns.j0 k t838 0 (decide (t836 < 0)) t836 t837) else (plane_Turns.j0 k t838 0 false t836 t837)) = some r := H
 have A4 := Aside0.mk A40
 clear A40
 have HC5 := Aside0.mk H
 clear H
 go_enter Try.func54, Try.ntmps54
 go_upto_region 3 with (first | ((with_reducible refine gate_dst (N := 3) rfl ?_); refine box_event ?hg (N := 3) ?hd (cs := #[.int .i64 a0_0, .int .i64 a0_1, .int .i64 a0_2, .int .i64 a0_3]) (t := 52) ?hr ?_; (case hd => rfl); (case hg => rfl); (case hr => first | (go_simp; done) | (go_simp; rfl)); intro gb833 hg w6 hbox hb; have BK833 := Aside0.mk (hbox); have GW833 := geBA HB hg; have GE833 := geBA HB hg; replace HB := Aside0.mk (below_step (hk HB) hb); clear hb hbox hg) | ((with_reducible refine gate_dst (N := 4) rfl ?_); refine box_event ?hg (N := 4) ?hd (cs := #[.int .i64 a1_0, .int .i64 a1_1, .int .i64 a1_2, .int .i64 a1_3]) (t := 52) ?hr ?_; (case hd => rfl); (case hg => rfl); (case hr => first | (go_simp; done) | (go_simp; rfl)); intro gb834 hg w7 hbox hb; have BK834 := Aside0.mk (hbox); have GW834 := Aside0.mk ((by rw [hg]; exact (below_size (by repeat (first | (with_reducible first | exact HB.out | apply below_alloc | apply pw_below_drewN | apply below_drew1 | refine below_set ?_ GE833.out) | exact HB.out))) : w.heap.size ≤ gb834)); have GE834 := Aside0.mk ((by rw [hg]; exact (below_size (by repeat (first | (with_reducible first | exact HB.out | apply below_alloc | apply pw_below_drewN | apply below_drew1 | refine below_set ?_ GE833.out) | exact HB.out))) : w.heap.size ≤ gb834)); have NB833_834 := neLA BK833 hg; have NB834_833 := neGA BK833 hg; replace BK833 := bkC BK833 hb; replace HB := Aside0.mk (below_step (by repeat (first | (with_reducible first | exact HB.out | apply below_alloc | apply pw_below_drewN | apply below_drew1 | refine below_set ?_ GE833.out) | exact HB.out)) hb); clear hb hbox hg) | ((with_reducible refine gate_dst (N := 5) rfl ?_); refine box_event ?hg (N := 5) ?hd (cs := #[.int .i64 a2_0, .int .i64 a2_1, .int .i64 a2_2, .int .i64 a2_3]) (t := 52) ?hr ?_; (case hd => rfl); (case hg => rfl); (case hr => first | (go_simp; done) | (go_simp; rfl)); intro gb835 hg w8 hbox hb; have BK835 := Aside0.mk (hbox); have GW835 := Aside0.mk ((by rw [hg]; exact (below_size (by repeat (first | (with_reducible first | exact HB.out | apply below_alloc | apply pw_below_drewN | apply below_drew1 | refine below_set ?_ GE833.out | refine below_set ?_ GE834.out) | exact HB.out))) : w.heap.size ≤ gb835)); have GE835 := Aside0.mk ((by rw [hg]; exact (below_size (by repeat (first | (with_reducible first | exact HB.out | apply below_alloc | apply pw_below_drewN | apply below_drew1 | refine below_set ?_ GE833.out | refine below_set ?_ GE834.out) | exact HB.out))) : w.heap.size ≤ gb835)); have NB833_835 := neLA BK833 hg; have NB835_833 := neGA BK833 hg; have NB834_835 := neLA BK834 hg; have NB835_834 := neGA BK834 hg; replace BK833 := bkC BK833 hb; replace BK834 := bkC BK834 hb; replace HB := Aside0.mk (below_step (by repeat (first | (with_reducible first | exact HB.out | apply below_alloc | apply pw_below_drewN | apply below_drew1 | refine below_set ?_ GE833.out | refine below_set ?_ GE834.out) | exact HB.out)) hb); clear hb hbox hg; have hnb9 := NB833_834.out; have hnc9 := NB834_833.out; have hnb10 := NB833_835.out; have hnc10 := NB835_833.out; have hcz11_0 : w8.cell? ⟨gb833, 0, none⟩ = some (.int .i64 a0_0) := (blk_cell BK833.out 0).trans rfl; have hcz11_1 : w8.cell? ⟨gb833, 1, none⟩ = some (.int .i64 a0_1) := (blk_cell BK833.out 1).trans rfl; have hcz11_2 : w8.cell? ⟨gb833, 2, none⟩ = some (.int .i64 a0_2) := (blk_cell BK833.out 2).trans rfl; have hcz11_3 : w8.cell? ⟨gb833, 3, none⟩ = some (.int .i64 a0_3) := (blk_cell BK833.out 3).trans rfl; have hfz11_0 := blk_frozen BK833.out 0; have hfz11_1 := blk_frozen BK833.out 1; have hfz11_2 := blk_frozen BK833.out 2; have hfz11_3 := blk_frozen BK833.out 3; have hnb12 := NB834_835.out; have hnc12 := NB835_834.out; have hcz13_0 : w8.cell? ⟨gb834, 0, none⟩ = some (.int .i64 a1_0) := (blk_cell BK834.out 0).trans rfl; have hcz13_1 : w8.cell? ⟨gb834, 1, none⟩ = some (.int .i64 a1_1) := (blk_cell BK834.out 1).trans rfl; have hcz13_2 : w8.cell? ⟨gb834, 2, none⟩ = some (.int .i64 a1_2) := (blk_cell BK834.out 2).trans rfl; have hcz13_3 : w8.cell? ⟨gb834, 3, none⟩ = some (.int .i64 a1_3) := (blk_cell BK834.out 3).trans rfl; have hfz13_0 := blk_frozen BK834.out 0; have hfz13_1 := blk_frozen BK834.out 1; have hfz13_2 := blk_frozen BK834.out 2; have hfz13_3 := blk_frozen BK834.out 3; have hcz14_0 : w8.cell? ⟨gb835, 0, none⟩ = some (.int .i64 a2_0) := (blk_cell BK835.out 0).trans rfl; have hcz14_1 : w8.cell? ⟨gb835, 1, none⟩ = some (.int .i64 a2_1) := (blk_cell BK835.out 1).trans rfl; have hcz14_2 : w8.cell? ⟨gb835, 2, none⟩ = some (.int .i64 a2_2) := (blk_cell BK835.out 2).trans rfl; have hcz14_3 : w8.cell? ⟨gb835, 3, none⟩ = some (.int .i64 a2_3) := (blk_cell BK835.out 3).trans rfl; have hfz14_0 := blk_frozen BK835.out 0; have hfz14_1 := blk_frozen BK835.out 1; have hfz14_2 := blk_frozen BK835.out 2; have hfz14_3 := blk_frozen BK835.out 3) | ((with_reducible refine gate_callee (f := 50) rfl ?_); refine goesL_ (some 14) rfl rfl Try.func50 (by kernel_rfl) rfl #[.agg #[.int .i64 a0_0, .int .i64 a0_1, .int .i64 a0_2, .int .i64 a0_3], .agg #[.int .i64 a1_0, .int .i64 a1_1, .int .i64 a1_2, .int .i64 a1_3], .agg #[.int .i64 a2_0, .int .i64 a2_1, .int .i64 a2_2, .int .i64 a2_3]] rfl (by (try simp only [List.map_toArray, List.map_cons, List.map_nil]); first | done | rfl | (simp only [List.length_drop, List.length_take]; rfl)) ?_; (with_reducible refine (plane_Spread.calls a0_0 a0_1 a0_2 a0_3 a1_0 a1_1 a1_2 a1_3 a2_0 a2_1 a2_2 a2_3 t836 t837 t838 _ A4.out).mono ?_); rintro e w15 ⟨rfl, hb⟩; refine ⟨_, rfl, ?_⟩; replace BK833 := bkC BK833 hb; replace BK834 := bkC BK834 hb; replace BK835 := bkC BK835 hb; replace HB := Aside0.mk (below_step (by repeat (first | (with_reducible first | exact HB.out | apply below_alloc | apply pw_below_drewN | apply below_drew1 | refine below_set ?_ GE833.out | refine below_set ?_ GE834.out | refine below_set ?_ GE835.out) | exact HB.out)) hb); (try clear hb); (try clear hb2); (try clear hk); (try clear hi)) | ((with_reducible refine gate_dst (N := 7) rfl ?_); refine box_event ?hg (N := 7) ?hd (cs := #[.int .i64 0, .int .i64 0]) (t := 50) ?hr ?_; (case hd => rfl); (case hg => rfl); (case hr => first | (go_simp; done) | (go_simp; rfl)); intro gb839 hg w16 hbox hb; have BK839 := Aside0.mk (hbox); have GW839 := Aside0.mk ((by rw [hg]; exact (below_size (by repeat (first | (with_reducible first | exact HB.out | apply below_alloc | apply pw_below_drewN | apply below_drew1 | refine below_set ?_ GE833.out | refine below_set ?_ GE834.out | refine below_set ?_ GE835.out) | exact HB.out))) : w.heap.size ≤ gb839)); have GE839 := Aside0.mk ((by rw [hg]; exact (below_size (by repeat (first | (with_reducible first | exact HB.out | apply below_alloc | apply pw_below_drewN | apply below_drew1 | refine below_set ?_ GE833.out | refine below_set ?_ GE834.out | refine below_set ?_ GE835.out) | exact HB.out))) : w.heap.size ≤ gb839)); have NB833_839 := neLA BK833 hg; have NB839_833 := neGA BK833 hg; have NB834_839 := neLA BK834 hg; have NB839_834 := neGA BK834 hg; have NB835_839 := neLA BK835 hg; have NB839_835 := neGA BK835 hg; replace BK833 := bkC BK833 hb; replace BK834 := bkC BK834 hb; replace BK835 := bkC BK835 hb; replace HB := Aside0.mk (below_step (by repeat (first | (with_reducible first | exact HB.out | apply below_alloc | apply pw_below_drewN | apply below_drew1 | refine below_set ?_ GE833.out | refine below_set ?_ GE834.out | refine below_set ?_ GE835.out) | exact HB.out)) hb); clear hb hbox hg; have hnb17 := NB839_833.out; have hnc17 := NB833_839.out; have hnb18 := NB839_834.out; have hnc18 := NB834_839.out; have hnb19 := NB839_835.out; have hnc19 := NB835_839.out; have hcz20_0 : w16.cell? ⟨gb839, 0, none⟩ = some (.int .i64 0) := (blk_cell BK839.out 0).trans rfl; have hcz20_1 : w16.cell? ⟨gb839, 1, none⟩ = some (.int .i64 0) := (blk_cell BK839.out 1).trans rfl; have hfz20_0 := blk_frozen BK839.out 0; have hfz20_1 := blk_frozen BK839.out 1))
 (try simp only [Act.put, List.setIfInBounds_toArray, List.set_cons_zero, List.set_cons_succ])
 go_cut [22] (fun v22 wc => ∃ (kq : Nat) (x22_4 : Bool), v22 = .bool x22_4 ∧ Aside0 (plane_Turns.j0 kq t838 0 x22_4 t836 t837 = some r) ∧ Aside0 (kq ≤ k) ∧ Aside0 (wc.heap[gb833]? = some (.cells #[.int .i64 a0_0, .int .i64 a0_1, .int .i64 a0_2, .int .i64 a0_3] 52 (0, 0))) ∧ Aside0 (wc.heap[gb834]? = some (.cells #[.int .i64 a1_0, .int .i64 a1_1, .int .i64 a1_2, .int .i64 a1_3] 52 (0, 0))) ∧ Aside0 (wc.heap[gb835]? = some (.cells #[.int .i64 a2_0, .int .i64 a2_1, .int .i64 a2_2, .int .i64 a2_3] 52 (0, 0))) ∧ Aside0 (wc.heap[gb839]? = some (.cells #[.int .i64 t836, .int .i64 t837] 50 (0, 0))) ∧ Aside0 (Below w.heap.size w wc))
 case first =>
  have H := HC5.out
  clear HC5
  by_cases c21 : t838 = true
  ·subst c21
   have H1 : (plane_Turns.j0 k true 0 (decide (t836 < 0)) t836 t837) = some r := by rw [if_pos rfl] at H; exact H
   clear H
   have H := H1
   clear H1
   have H' := Aside0.mk H
   clear H
   have hnb22 := NB839_833.out
   have hnc22 := NB833_839.out
   have hnb23 := NB839_834.out
   have hnc23 := NB834_839.out
   have hnb24 := NB839_835.out
   have hnc24 := NB835_839.out
   have hcz25_0 : w16.cell? ⟨gb839, 0, none⟩ = some (.int .i64 0) := (blk_cell BK839.out 0).trans rfl
   have hcz25_1 : w16.cell? ⟨gb839, 1, none⟩ = some (.int .i64 0) := (blk_cell BK839.out 1).trans rfl
   have hfz25_0 := blk_frozen BK839.out 0
   have hfz25_1 := blk_frozen BK839.out 1
   go_wp2
   go_meet
   case rel => exact ⟨_, (decide (t836 < 0)), (by first | rfl | (simp; done) | (simp [*]; done) | kernel_rfl), H', ⟨by first | omega | exact Nat.le_refl _⟩, ⟨by (with_reducible repeat (first | refine blk_drewN ?_ _ | refine blk_drew ?_ | refine blk_alloc ?_ _)); refine blk_far ?_ NB833_839.out _; (with_reducible repeat (first | refine blk_drewN ?_ _ | refine blk_drew ?_ | refine blk_alloc ?_ _)); refine blk_far ?_ NB833_839.out _; (with_reducible repeat (first | refine blk_drewN ?_ _ | refine blk_drew ?_ | refine blk_alloc ?_ _)); exact BK833.out⟩, ⟨by (with_reducible repeat (first | refine blk_drewN ?_ _ | refine blk_drew ?_ | refine blk_alloc ?_ _)); refine blk_far ?_ NB834_839.out _; (with_reducible repeat (first | refine blk_drewN ?_ _ | refine blk_drew ?_ | refine blk_alloc ?_ _)); refine blk_far ?_ NB834_839.out _; (with_reducible repeat (first | refine blk_drewN ?_ _ | refine blk_drew ?_ | refine blk_alloc ?_ _)); exact BK834.out⟩, ⟨by (with_reducible repeat (first | refine blk_drewN ?_ _ | refine blk_drew ?_ | refine blk_alloc ?_ _)); refine blk_far ?_ NB835_839.out _; (with_reducible repeat (first | refine blk_drewN ?_ _ | refine blk_drew ?_ | refine blk_alloc ?_ _)); refine blk_far ?_ NB835_839.out _; (with_reducible repeat (first | refine blk_drewN ?_ _ | refine blk_drew ?_ | refine blk_alloc ?_ _)); exact BK835.out⟩, ⟨by (with_reducible repeat (first | refine blk_drewN ?_ _ | refine blk_drew ?_ | refine blk_alloc ?_ _)); refine blk_put (cs := #[.int .i64 t836, .int .i64 0]) ?_ 1 _ rfl; (with_reducible repeat (first | refine blk_drewN ?_ _ | refine blk_drew ?_ | refine blk_alloc ?_ _)); refine blk_put (cs := #[.int .i64 0, .int .i64 0]) ?_ 0 _ rfl; (with_reducible repeat (first | refine blk_drewN ?_ _ | refine blk_drew ?_ | refine blk_alloc ?_ _)); exact BK839.out⟩, ⟨by repeat (first | (with_reducible first | exact HB.out | apply below_alloc | apply pw_below_drewN | apply below_drew1 | refine below_set ?_ GE833.out | refine below_set ?_ GE834.out | refine below_set ?_ GE835.out | refine below_set ?_ GE839.out) | exact HB.out)⟩⟩
  ·replace c21 := Bool.eq_false_iff.mpr c21
   subst c21
   have H1 : (plane_Turns.j0 k false 0 false t836 t837) = some r := by rw [if_neg (show ¬ (false = true) by decide)] at H; exact H
   clear H
   have H := H1
   clear H1
   have H' := Aside0.mk H
   clear H
   go_wp2
   go_meet
   case rel => exact ⟨_, (false), (by first | rfl | (simp; done) | (simp [*]; done) | kernel_rfl), H', ⟨by first | omega | exact Nat.le_refl _⟩, ⟨by (with_reducible repeat (first | refine blk_drewN ?_ _ | refine blk_drew ?_ | refine blk_alloc ?_ _)); refine blk_far ?_ NB833_839.out _; (with_reducible repeat (first | refine blk_drewN ?_ _ | refine blk_drew ?_ | refine blk_alloc ?_ _)); refine blk_far ?_ NB833_839.out _; (with_reducible repeat (first | refine blk_drewN ?_ _ | refine blk_drew ?_ | refine blk_alloc ?_ _)); exact BK833.out⟩, ⟨by (with_reducible repeat (first | refine blk_drewN ?_ _ | refine blk_drew ?_ | refine blk_alloc ?_ _)); refine blk_far ?_ NB834_839.out _; (with_reducible repeat (first | refine blk_drewN ?_ _ | refine blk_drew ?_ | refine blk_alloc ?_ _)); refine blk_far ?_ NB834_839.out _; (with_reducible repeat (first | refine blk_drewN ?_ _ | refine blk_drew ?_ | refine blk_alloc ?_ _)); exact BK834.out⟩, ⟨by (with_reducible repeat (first | refine blk_drewN ?_ _ | refine blk_drew ?_ | refine blk_alloc ?_ _)); refine blk_far ?_ NB835_839.out _; (with_reducible repeat (first | refine blk_drewN ?_ _ | refine blk_drew ?_ | refine blk_alloc ?_ _)); refine blk_far ?_ NB835_839.out _; (with_reducible repeat (first | refine blk_drewN ?_ _ | refine blk_drew ?_ | refine blk_alloc ?_ _)); exact BK835.out⟩, ⟨by (with_reducible repeat (first | refine blk_drewN ?_ _ | refine blk_drew ?_ | refine blk_alloc ?_ _)); refine blk_put (cs := #[.int .i64 t836, .int .i64 0]) ?_ 1 _ rfl; (with_reducible repeat (first | refine blk_drewN ?_ _ | refine blk_drew ?_ | refine blk_alloc ?_ _)); refine blk_put (cs := #[.int .i64 0, .int .i64 0]) ?_ 0 _ rfl; (with_reducible repeat (first | refine blk_drewN ?_ _ | refine blk_drew ?_ | refine blk_alloc ?_ _)); exact BK839.out⟩, ⟨by repeat (first | (with_reducible first | exact HB.out | apply below_alloc | apply pw_below_drewN | apply below_drew1 | refine below_set ?_ GE833.out | refine below_set ?_ GE834.out | refine below_set ?_ GE835.out | refine below_set ?_ GE839.out) | exact HB.out)⟩⟩
 case rest =>
  clear HC5
  try clear c1
  try clear c2
  try clear p2
  try clear c5
  try clear c9
  try clear c10
  try clear c12
  try clear c17
  try clear c18
  try clear c19
  try clear c21
  try clear c22
  try clear c23
  try clear c24
  try clear hcz11_0
  try clear hcz11_1
  try clear hcz11_2
  try clear hcz11_3
  try clear hcz13_0
  try clear hcz13_1
  try clear hcz13_2
  try clear hcz13_3
  try clear hcz14_0
  try clear hcz14_1
  try clear hcz14_2
  try clear hcz14_3
  try clear hcz20_0
  try clear hcz20_1
  try clear hcz25_0
  try clear hcz25_1
  try clear hfz11_0
  try clear hfz11_1
  try clear hfz11_2
  try clear hfz11_3
  try clear hfz13_0
  try clear hfz13_1
  try clear hfz13_2
  try clear hfz13_3
  try clear hfz14_0
  try clear hfz14_1
  try clear hfz14_2
  try clear hfz14_3
  try clear hfz20_0
  try clear hfz20_1
  try clear hfz25_0
  try clear hfz25_1
  obtain ⟨kq, x22_4, rfl, HA, HJ4, BK833, BK834, BK835, BK839, HB⟩ := hcut
  cases kq with
  | zero => exact absurd HA.out (by simp [plane_Turns.j0])
  | succ kj4 =>
   have H := HA.out
   clear HA
   simp only [plane_Turns.j0] at H
   have HC26 := Aside0.mk H
   clear H
   go_upto_if 22 with (fail)
   go_cut [9] (fun v9 wc => ∃ (kq : Nat) (x9_25 : Int), v9 = .int .i64 x9_25 ∧ Aside0 (plane_Turns.j1 kq t838 x9_25 t836 t837 = some r) ∧ Aside0 (kq ≤ kj4) ∧ Aside0 (wc.heap[gb833]? = some (.cells #[.int .i64 a0_0, .int .i64 a0_1, .int .i64 a0_2, .int .i64 a0_3] 52 (0, 0))) ∧ Aside0 (wc.heap[gb834]? = some (.cells #[.int .i64 a1_0, .int .i64 a1_1, .int .i64 a1_2, .int .i64 a1_3] 52 (0, 0))) ∧ Aside0 (wc.heap[gb835]? = some (.cells #[.int .i64 a2_0, .int .i64 a2_1, .int .i64 a2_2, .int .i64 a2_3] 52 (0, 0))) ∧ Aside0 (wc.heap[gb839]? = some (.cells #[.int .i64 t836, .int .i64 t837] 50 (0, 0))) ∧ Aside0 (Below w.heap.size w wc))
   case first =>
    have H := HC26.out
    clear HC26
    by_cases c27 : x22_4 = true
    ·subst c27
     have H1 : (plane_Turns.j1 kj4 t838 (wrap64 (0 + 1)) t836 t837) = some r := by rw [if_pos rfl] at H; exact H
     clear H
     have H := H1
     clear H1
     have H' := Aside0.mk H
     clear H
     go_wp2
     go_meet
     case rel => exact ⟨_, (wrap64 (0 + 1)), (by first | rfl | (simp; done) | (simp [*]; done) | kernel_rfl), H', ⟨by have := HJ4.out; first | omega | exact Nat.le_refl _⟩, ⟨bk BK833⟩, ⟨bk BK834⟩, ⟨bk BK835⟩, ⟨bk BK839⟩, ⟨by repeat (first | (with_reducible first | exact HB.out | apply below_alloc | apply pw_below_drewN | apply below_drew1 | refine below_set ?_ GE833.out | refine below_set ?_ GE834.out | refine below_set ?_ GE835.out | refine below_set ?_ GE839.out) | exact HB.out)⟩⟩
    ·replace c27 := Bool.eq_false_iff.mpr c27
     subst c27
     have H1 : (plane_Turns.j1 kj4 t838 0 t836 t837) = some r := by rw [if_neg (show ¬ (false = true) by decide)] at H; exact H
     clear H
     have H := H1
     clear H1
     have H' := Aside0.mk H
     clear H
     go_wp2
     go_meet
     case rel => exact ⟨_, (0), (by first | rfl | (simp; done) | (simp [*]; done) | kernel_rfl), H', ⟨by have := HJ4.out; first | omega | exact Nat.le_refl _⟩, ⟨bk BK833⟩, ⟨bk BK834⟩, ⟨bk BK835⟩, ⟨bk BK839⟩, ⟨by repeat (first | (with_reducible first | exact HB.out | apply below_alloc | apply pw_below_drewN | apply below_drew1 | refine below_set ?_ GE833.out | refine below_set ?_ GE834.out | refine below_set ?_ GE835.out | refine below_set ?_ GE839.out) | exact HB.out)⟩⟩
   case rest =>
    clear HC26
    try clear c1
    try clear c2
    try clear p2
    try clear c5
    try clear p6
    try clear c9
    try clear c10
    try clear c12
    try clear c17
    try clear c18
    try clear c19
    try clear c21
    try clear c22
    try clear c23
    try clear c24
    try clear c27
    try clear hcz11_0
    try clear hcz11_1
    try clear hcz11_2
    try clear hcz11_3
    try clear hcz13_0
    try clear hcz13_1
    try clear hcz13_2
    try clear hcz13_3
    try clear hcz14_0
    try clear hcz14_1
    try clear hcz14_2
    try clear hcz14_3
    try clear hcz20_0
    try clear hcz20_1
    try clear hcz25_0
    try clear hcz25_1
    try clear hfz11_0
    try clear hfz11_1
    try clear hfz11_2
    try clear hfz11_3
    try clear hfz13_0
    try clear hfz13_1
    try clear hfz13_2
    try clear hfz13_3
    try clear hfz14_0
    try clear hfz14_1
    try clear hfz14_2
    try clear hfz14_3
    try clear hfz20_0
    try clear hfz20_1
    try clear hfz25_0
    try clear hfz25_1
    try clear p2
    obtain ⟨kq, x9_25, rfl, HA, HJ25, BK833, BK834, BK835, BK839, HB⟩ := hcut
    cases kq with
    | zero => exact absurd HA.out (by simp [plane_Turns.j1])
    | succ kj25 =>
     have H := HA.out
     clear HA
     simp only [plane_Turns.j1] at H
     have HC28 := Aside0.mk H
     clear H
     go_upto_region 5 with (fail)
     go_cut [35] (fun v35 wc => ∃ (kq : Nat) (x35_27 : Bool), v35 = .bool x35_27 ∧ Aside0 (plane_Turns.j2 kq t838 x9_25 x35_27 t836 t837 = some r) ∧ Aside0 (kq ≤ kj25) ∧ Aside0 (wc.heap[gb833]? = some (.cells #[.int .i64 a0_0, .int .i64 a0_1, .int .i64 a0_2, .int .i64 a0_3] 52 (0, 0))) ∧ Aside0 (wc.heap[gb834]? = some (.cells #[.int .i64 a1_0, .int .i64 a1_1, .int .i64 a1_2, .int .i64 a1_3] 52 (0, 0))) ∧ Aside0 (wc.heap[gb835]? = some (.cells #[.int .i64 a2_0, .int .i64 a2_1, .int .i64 a2_2, .int .i64 a2_3] 52 (0, 0))) ∧ Aside0 (wc.heap[gb839]? = some (.cells #[.int .i64 t836, .int .i64 t837] 50 (0, 0))) ∧ Aside0 (Below w.heap.size w wc))
     case first =>
      have H := HC28.out
      clear HC28
      by_cases c29 : t838 = true
      ·subst c29
       have H1 : (if t836 ≤ 0 then (plane_Turns.j2 kj25 true x9_25 (decide (t837 ≥ 0)) t836 t837) else (plane_Turns.j2 kj25 true x9_25 false t836 t837)) = some r := by rw [if_pos rfl] at H; exact H
       clear H
       have H := H1
       clear H1
       by_cases c30 : t836 ≤ 0
       ·rw [if_pos c30] at H
        have c30b0 : decide (t836 ≤ 0) = true := decide_eq_true c30
        clear c30
        (first | rw [c30b0] | (simp only [i64_w, i32_w]; rw [c30b0]) | skip)
        have H' := Aside0.mk H
        clear H
        have hnb31 := NB839_833.out
        have hnc31 := NB833_839.out
        have hnb32 := NB839_834.out
        have hnc32 := NB834_839.out
        have hnb33 := NB839_835.out
        have hnc33 := NB835_839.out
        have hcz34_0 : wc.cell? ⟨gb839, 0, none⟩ = some (.int .i64 t836) := (blk_cell BK839.out 0).trans rfl
        have hcz34_1 : wc.cell? ⟨gb839, 1, none⟩ = some (.int .i64 t837) := (blk_cell BK839.out 1).trans rfl
        have hfz34_0 := blk_frozen BK839.out 0
        have hfz34_1 := blk_frozen BK839.out 1
        go_wp2
        go_meet
        case rel => exact ⟨_, (decide (t837 ≥ 0)), (by first | rfl | (simp; done) | (simp [*]; done) | kernel_rfl), H', ⟨by have := HJ4.out; have := HJ25.out; first | omega | exact Nat.le_refl _⟩, ⟨bk BK833⟩, ⟨bk BK834⟩, ⟨bk BK835⟩, ⟨bk BK839⟩, ⟨by repeat (first | (with_reducible first | exact HB.out | apply below_alloc | apply pw_below_drewN | apply below_drew1 | refine below_set ?_ GE833.out | refine below_set ?_ GE834.out | refine below_set ?_ GE835.out | refine below_set ?_ GE839.out) | exact HB.out)⟩⟩
       ·rw [if_neg c30] at H
        have c30b0 : decide (t836 ≤ 0) = false := decide_eq_false c30
        clear c30
        (first | rw [c30b0] | (simp only [i64_w, i32_w]; rw [c30b0]) | skip)
        have H' := Aside0.mk H
        clear H
        have hnb35 := NB839_833.out
        have hnc35 := NB833_839.out
        have hnb36 := NB839_834.out
        have hnc36 := NB834_839.out
        have hnb37 := NB839_835.out
        have hnc37 := NB835_839.out
        have hcz38_0 : wc.cell? ⟨gb839, 0, none⟩ = some (.int .i64 t836) := (blk_cell BK839.out 0).trans rfl
        have hcz38_1 : wc.cell? ⟨gb839, 1, none⟩ = some (.int .i64 t837) := (blk_cell BK839.out 1).trans rfl
        have hfz38_0 := blk_frozen BK839.out 0
        have hfz38_1 := blk_frozen BK839.out 1
        go_wp2
        go_meet
        case rel => exact ⟨_, (false), (by first | rfl | (simp; done) | (simp [*]; done) | kernel_rfl), H', ⟨by have := HJ4.out; have := HJ25.out; first | omega | exact Nat.le_refl _⟩, ⟨bk BK833⟩, ⟨bk BK834⟩, ⟨bk BK835⟩, ⟨bk BK839⟩, ⟨by repeat (first | (with_reducible first | exact HB.out | apply below_alloc | apply pw_below_drewN | apply below_drew1 | refine below_set ?_ GE833.out | refine below_set ?_ GE834.out | refine below_set ?_ GE835.out | refine below_set ?_ GE839.out) | exact HB.out)⟩⟩
      ·replace c29 := Bool.eq_false_iff.mpr c29
       subst c29
       have H1 : (plane_Turns.j2 kj25 false x9_25 false t836 t837) = some r := by rw [if_neg (show ¬ (false = true) by decide)] at H; exact H
       clear H
       have H := H1
       clear H1
       have H' := Aside0.mk H
       clear H
       go_wp2
       go_meet
       case rel => exact ⟨_, (false), (by first | rfl | (simp; done) | (simp [*]; done) | kernel_rfl), H', ⟨by have := HJ4.out; have := HJ25.out; first | omega | exact Nat.le_refl _⟩, ⟨bk BK833⟩, ⟨bk BK834⟩, ⟨bk BK835⟩, ⟨bk BK839⟩, ⟨by repeat (first | (with_reducible first | exact HB.out | apply below_alloc | apply pw_below_drewN | apply below_drew1 | refine below_set ?_ GE833.out | refine below_set ?_ GE834.out | refine below_set ?_ GE835.out | refine below_set ?_ GE839.out) | exact HB.out)⟩⟩
     case rest =>
      clear HC28
      try clear c1
      try clear c2
      try clear p2
      try clear c3
      try clear c5
      try clear p6
      try clear c9
      try clear c10
      try clear c12
      try clear c17
      try clear c18
      try clear c19
      try clear c21
      try clear c22
      try clear c23
      try clear c24
      try clear c27
      try clear c29
      try clear c30
      try clear c30b0
      try clear c31
      try clear c32
      try clear c33
      try clear c35
      try clear c36
      try clear c37
      try clear hcz11_0
      try clear hcz11_1
      try clear hcz11_2
      try clear hcz11_3
      try clear hcz13_0
      try clear hcz13_1
      try clear hcz13_2
      try clear hcz13_3
      try clear hcz14_0
      try clear hcz14_1
      try clear hcz14_2
      try clear hcz14_3
      try clear hcz20_0
      try clear hcz20_1
      try clear hcz25_0
      try clear hcz25_1
      try clear hcz34_0
      try clear hcz34_1
      try clear hcz38_0
      try clear hcz38_1
      try clear hfz11_0
      try clear hfz11_1
      try clear hfz11_2
      try clear hfz11_3
      try clear hfz13_0
      try clear hfz13_1
      try clear hfz13_2
      try clear hfz13_3
      try clear hfz14_0
      try clear hfz14_1
      try clear hfz14_2
      try clear hfz14_3
      try clear hfz20_0
      try clear hfz20_1
      try clear hfz25_0
      try clear hfz25_1
      try clear hfz34_0
      try clear hfz34_1
      try clear hfz38_0
      try clear hfz38_1
      try clear p2
      try clear p6
      obtain ⟨kq, x35_27, rfl, HA, HJ27, BK833, BK834, BK835, BK839, HB⟩ := hcut
      cases kq with
      | zero => exact absurd HA.out (by simp [plane_Turns.j2])
      | succ kj27 =>
       have H := HA.out
       clear HA
       simp only [plane_Turns.j2] at H
       have HC39 := Aside0.mk H
       clear H
       go_upto_if 35 with (fail)
       go_cut [9] (fun v9 wc => ∃ (kq : Nat) (x9_38 : Int), v9 = .int .i64 x9_38 ∧ Aside0 (plane_Turns.j3 kq t838 x9_38 t836 t837 = some r) ∧ Aside0 (kq ≤ kj27) ∧ Aside0 (wc.heap[gb833]? = some (.cells #[.int .i64 a0_0, .int .i64 a0_1, .int .i64 a0_2, .int .i64 a0_3] 52 (0, 0))) ∧ Aside0 (wc.heap[gb834]? = some (.cells #[.int .i64 a1_0, .int .i64 a1_1, .int .i64 a1_2, .int .i64 a1_3] 52 (0, 0))) ∧ Aside0 (wc.heap[gb835]? = some (.cells #[.int .i64 a2_0, .int .i64 a2_1, .int .i64 a2_2, .int .i64 a2_3] 52 (0, 0))) ∧ Aside0 (wc.heap[gb839]? = some (.cells #[.int .i64 t836, .int .i64 t837] 50 (0, 0))) ∧ Aside0 (Below w.heap.size w wc))
       case first =>
        have H := HC39.out
        clear HC39
        by_cases c40 : x35_27 = true
        ·subst c40
         have H1 : (plane_Turns.j3 kj27 t838 (wrap64 (x9_25 + 2)) t836 t837) = some r := by rw [if_pos rfl] at H; exact H
         clear H
         have H := H1
         clear H1
         have H' := Aside0.mk H
         clear H
         go_wp2
         go_meet
         case rel => exact ⟨_, (wrap64 (x9_25 + 2)), (by first | rfl | (simp; done) | (simp [*]; done) | kernel_rfl), H', ⟨by have := HJ4.out; have := HJ25.out; have := HJ27.out; first | omega | exact Nat.le_refl _⟩, ⟨bk BK833⟩, ⟨bk BK834⟩, ⟨bk BK835⟩, ⟨bk BK839⟩, ⟨by repeat (first | (with_reducible first | exact HB.out | apply below_alloc | apply pw_below_drewN | apply below_drew1 | refine below_set ?_ GE833.out | refine below_set ?_ GE834.out | refine below_set ?_ GE835.out | refine below_set ?_ GE839.out) | exact HB.out)⟩⟩
        ·replace c40 := Bool.eq_false_iff.mpr c40
         subst c40
         have H1 : (plane_Turns.j3 kj27 t838 x9_25 t836 t837) = some r := by rw [if_neg (show ¬ (false = true) by decide)] at H; exact H
         clear H
         have H := H1
         clear H1
         have H' := Aside0.mk H
         clear H
         go_wp2
         go_meet
         case rel => exact ⟨_, (x9_25), (by first | rfl | (simp; done) | (simp [*]; done) | kernel_rfl), H', ⟨by have := HJ4.out; have := HJ25.out; have := HJ27.out; first | omega | exact Nat.le_refl _⟩, ⟨bk BK833⟩, ⟨bk BK834⟩, ⟨bk BK835⟩, ⟨bk BK839⟩, ⟨by repeat (first | (with_reducible first | exact HB.out | apply below_alloc | apply pw_below_drewN | apply below_drew1 | refine below_set ?_ GE833.out | refine below_set ?_ GE834.out | refine below_set ?_ GE835.out | refine below_set ?_ GE839.out) | exact HB.out)⟩⟩
       case rest =>
        clear HC39
        try clear c1
        try clear c2
        try clear p2
        try clear c3
        try clear c4
        try clear c5
        try clear p6
        try clear c9
        try clear c10
        try clear c12
        try clear c17
        try clear c18
        try clear c19
        try clear c21
        try clear c22
        try clear c23
        try clear c24
        try clear c27
        try clear c29
        try clear c30
        try clear c30b0
        try clear c31
        try clear c32
        try clear c33
        try clear c35
        try clear c36
        try clear c37
        try clear c40
        try clear hcz11_0
        try clear hcz11_1
        try clear hcz11_2
        try clear hcz11_3
        try clear hcz13_0
        try clear hcz13_1
        try clear hcz13_2
        try clear hcz13_3
        try clear hcz14_0
        try clear hcz14_1
        try clear hcz14_2
        try clear hcz14_3
        try clear hcz20_0
        try clear hcz20_1
        try clear hcz25_0
        try clear hcz25_1
        try clear hcz34_0
        try clear hcz34_1
        try clear hcz38_0
        try clear hcz38_1
        try clear hfz11_0
        try clear hfz11_1
        try clear hfz11_2
        try clear hfz11_3
        try clear hfz13_0
        try clear hfz13_1
        try clear hfz13_2
        try clear hfz13_3
        try clear hfz14_0
        try clear hfz14_1
        try clear hfz14_2
        try clear hfz14_3
        try clear hfz20_0
        try clear hfz20_1
        try clear hfz25_0
        try clear hfz25_1
        try clear hfz34_0
        try clear hfz34_1
        try clear hfz38_0
        try clear hfz38_1
        try clear p2
        try clear p6
        obtain ⟨kq, x9_38, rfl, HA, HJ38, BK833, BK834, BK835, BK839, HB⟩ := hcut
        cases kq with
        | zero => exact absurd HA.out (by simp [plane_Turns.j3])
        | succ kj38 =>
         have H := HA.out
         clear HA
         simp only [plane_Turns.j3] at H
         have HC41 := Aside0.mk H
         clear H
         go_upto_region 7 with (fail)
         go_cut [43] (fun v43 wc => ∃ (kq : Nat) (x43_40 : Bool), v43 = .bool x43_40 ∧ Aside0 (plane_Turns.j4 kq x9_38 x43_40 = some r) ∧ Aside0 (kq ≤ kj38) ∧ Aside0 (wc.heap[gb833]? = some (.cells #[.int .i64 a0_0, .int .i64 a0_1, .int .i64 a0_2, .int .i64 a0_3] 52 (0, 0))) ∧ Aside0 (wc.heap[gb834]? = some (.cells #[.int .i64 a1_0, .int .i64 a1_1, .int .i64 a1_2, .int .i64 a1_3] 52 (0, 0))) ∧ Aside0 (wc.heap[gb835]? = some (.cells #[.int .i64 a2_0, .int .i64 a2_1, .int .i64 a2_2, .int .i64 a2_3] 52 (0, 0))) ∧ Aside0 (wc.heap[gb839]? = some (.cells #[.int .i64 t836, .int .i64 t837] 50 (0, 0))) ∧ Aside0 (Below w.heap.size w wc))
         case first =>
          have H := HC41.out
          clear HC41
          by_cases c42 : t838 = true
          ·subst c42
           have H1 : (plane_Turns.j4 kj38 x9_38 (decide (t837 > 0))) = some r := by rw [if_pos rfl] at H; exact H
           clear H
           have H := H1
           clear H1
           have H' := Aside0.mk H
           clear H
           have hnb43 := NB839_833.out
           have hnc43 := NB833_839.out
           have hnb44 := NB839_834.out
           have hnc44 := NB834_839.out
           have hnb45 := NB839_835.out
           have hnc45 := NB835_839.out
           have hcz46_0 : wc.cell? ⟨gb839, 0, none⟩ = some (.int .i64 t836) := (blk_cell BK839.out 0).trans rfl
           have hcz46_1 : wc.cell? ⟨gb839, 1, none⟩ = some (.int .i64 t837) := (blk_cell BK839.out 1).trans rfl
           have hfz46_0 := blk_frozen BK839.out 0
           have hfz46_1 := blk_frozen BK839.out 1
           go_wp2
           go_meet
           case rel => exact ⟨_, (decide (t837 > 0)), (by first | rfl | (simp; done) | (simp [*]; done) | kernel_rfl), H', ⟨by have := HJ4.out; have := HJ25.out; have := HJ27.out; have := HJ38.out; first | omega | exact Nat.le_refl _⟩, ⟨bk BK833⟩, ⟨bk BK834⟩, ⟨bk BK835⟩, ⟨bk BK839⟩, ⟨by repeat (first | (with_reducible first | exact HB.out | apply below_alloc | apply pw_below_drewN | apply below_drew1 | refine below_set ?_ GE833.out | refine below_set ?_ GE834.out | refine below_set ?_ GE835.out | refine below_set ?_ GE839.out) | exact HB.out)⟩⟩
          ·replace c42 := Bool.eq_false_iff.mpr c42
           subst c42
           have H1 : (plane_Turns.j4 kj38 x9_38 false) = some r := by rw [if_neg (show ¬ (false = true) by decide)] at H; exact H
           clear H
           have H := H1
           clear H1
           have H' := Aside0.mk H
           clear H
           go_wp2
           go_meet
           case rel => exact ⟨_, (false), (by first | rfl | (simp; done) | (simp [*]; done) | kernel_rfl), H', ⟨by have := HJ4.out; have := HJ25.out; have := HJ27.out; have := HJ38.out; first | omega | exact Nat.le_refl _⟩, ⟨bk BK833⟩, ⟨bk BK834⟩, ⟨bk BK835⟩, ⟨bk BK839⟩, ⟨by repeat (first | (with_reducible first | exact HB.out | apply below_alloc | apply pw_below_drewN | apply below_drew1 | refine below_set ?_ GE833.out | refine below_set ?_ GE834.out | refine below_set ?_ GE835.out | refine below_set ?_ GE839.out) | exact HB.out)⟩⟩
         case rest =>
          clear HC41
          try clear c1
          try clear c2
          try clear p2
          try clear c3
          try clear c4
          try clear c5
          try clear p6
          try clear c9
          try clear c10
          try clear c12
          try clear c17
          try clear c18
          try clear c19
          try clear c21
          try clear c22
          try clear c23
          try clear c24
          try clear c27
          try clear c29
          try clear c30
          try clear c30b0
          try clear c31
          try clear c32
          try clear c33
          try clear c35
          try clear c36
          try clear c37
          try clear c40
          try clear c42
          try clear c43
          try clear c44
          try clear c45
          try clear hcz11_0
          try clear hcz11_1
          try clear hcz11_2
          try clear hcz11_3
          try clear hcz13_0
          try clear hcz13_1
          try clear hcz13_2
          try clear hcz13_3
          try clear hcz14_0
          try clear hcz14_1
          try clear hcz14_2
          try clear hcz14_3
          try clear hcz20_0
          try clear hcz20_1
          try clear hcz25_0
          try clear hcz25_1
          try clear hcz34_0
          try clear hcz34_1
          try clear hcz38_0
          try clear hcz38_1
          try clear hcz46_0
          try clear hcz46_1
          try clear hfz11_0
          try clear hfz11_1
          try clear hfz11_2
          try clear hfz11_3
          try clear hfz13_0
          try clear hfz13_1
          try clear hfz13_2
          try clear hfz13_3
          try clear hfz14_0
          try clear hfz14_1
          try clear hfz14_2
          try clear hfz14_3
          try clear hfz20_0
          try clear hfz20_1
          try clear hfz25_0
          try clear hfz25_1
          try clear hfz34_0
          try clear hfz34_1
          try clear hfz38_0
          try clear hfz38_1
          try clear hfz46_0
          try clear hfz46_1
          try clear p2
          try clear p6
          obtain ⟨kq, x43_40, rfl, HA, HJ40, BK833, BK834, BK835, BK839, HB⟩ := hcut
          cases kq with
          | zero => exact absurd HA.out (by simp [plane_Turns.j4])
          | succ kj40 =>
           have H := HA.out
           clear HA
           simp only [plane_Turns.j4] at H
           by_cases c47 : x43_40 = true
           ·subst c47
            have H1 : (some (wrap64 (x9_38 + 4))) = some r := by rw [if_pos rfl] at H; exact H
            clear H
            have H := H1
            clear H1
            obtain rfl := Option.some.inj H
            go_wp2
            go_ret
            exact ⟨by first | rfl | (simp [errW_none, errW_some] <;> rfl) | (simp [*, errW_none, errW_some] <;> rfl), by repeat (first | (with_reducible first | exact HB.out | apply below_alloc | apply pw_below_drewN | apply below_drew1 | refine below_set ?_ GE833.out | refine below_set ?_ GE834.out | refine below_set ?_ GE835.out | refine below_set ?_ GE839.out) | exact HB.out)⟩
           ·replace c47 := Bool.eq_false_iff.mpr c47
            subst c47
            have H1 : (some x9_38) = some r := by rw [if_neg (show ¬ (false = true) by decide)] at H; exact H
            clear H
            have H := H1
            clear H1
            obtain rfl := Option.some.inj H
            go_wp2
            go_ret
            exact ⟨by first | rfl | (simp [errW_none, errW_some] <;> rfl) | (simp [*, errW_none, errW_some] <;> rfl), by repeat (first | (with_reducible first | exact HB.out | apply below_alloc | apply pw_below_drewN | apply below_drew1 | refine below_set ?_ GE833.out | refine below_set ?_ GE834.out | refine below_set ?_ GE835.out | refine below_set ?_ GE839.out) | exact HB.out)⟩
end Go.Proofs.Ytckaejgamfllfaa.G
end

section
namespace Go.Proofs.Ytckaejgamfllfaa.G
open Go.RowKit Go.Proofs.YtckaejgamfllfaaW.PrintWords Go.Proofs.YtckaejgamfllfaaW.PrintLast Go.Proofs.YtckaejgamfllfaaW.PrintMore
attribute [local go_sem] max2_int min2_int max_two min_two max_three min_three max_four min_four
set_option linter.unusedVariables false
set_option linter.unusedSimpArgs false
mutual
def boundstoneref02_Turns.j0 : Nat → Bool → Int → Bool → Int → Int → Option (Int)
 | 0, _, _, _, _, _ => none
 | k + 1, x8, x9, x22, x847000, x847001 => if x22 = true then (boundstoneref02_Turns.j1 k x8 (wrap64 (x9 + 1)) x847000 x847001) else (boundstoneref02_Turns.j1 k x8 x9 x847000 x847001)
def boundstoneref02_Turns.j1 : Nat → Bool → Int → Int → Int → Option (Int)
 | 0, _, _, _, _ => none
 | k + 1, x8, x9, x847000, x847001 => if x8 = true then (boundstoneref02_Turns.j2 k x8 x9 (decide (x847001 > 0)) x847000 x847001) else (boundstoneref02_Turns.j2 k x8 x9 false x847000 x847001)
def boundstoneref02_Turns.j2 : Nat → Bool → Int → Bool → Int → Int → Option (Int)
 | 0, _, _, _, _, _ => none
 | k + 1, x8, x9, x30, x847000, x847001 => if x30 = true then (boundstoneref02_Turns.j3 k x8 (wrap64 (x9 + 4)) x847000 x847001) else (boundstoneref02_Turns.j3 k x8 x9 x847000 x847001)
def boundstoneref02_Turns.j3 : Nat → Bool → Int → Int → Int → Option (Int)
 | 0, _, _, _, _ => none
 | k + 1, x8, x9, x847000, x847001 => if x8 = true then (if x847000 ≤ 0 then (boundstoneref02_Turns.j4 k x9 (decide (x847001 ≥ 0))) else (boundstoneref02_Turns.j4 k x9 false)) else (boundstoneref02_Turns.j4 k x9 false)
def boundstoneref02_Turns.j4 : Nat → Int → Bool → Option (Int)
 | 0, _, _ => none
 | k + 1, x9, x43 => if x43 = true then (some (wrap64 (x9 + 2))) else (some x9)
end
def boundstoneref02_Turns.f (k : Nat) (a0_0 : Int) (a0_1 : Int) (a0_2 : Int) (a0_3 : Int) (a1_0 : Int) (a1_1 : Int) (a1_2 : Int) (a1_3 : Int) (a2_0 : Int) (a2_1 : Int) (a2_2 : Int) (a2_3 : Int) : Option (Int) := (boundstoneref02_Spread.f a0_0 a0_1 a0_2 a0_3 a1_0 a1_1 a1_2 a1_3 a2_0 a2_1 a2_2 a2_3).bind fun bt843 => (if bt843.2.2 = true then (boundstoneref02_Turns.j0 k bt843.2.2 0 (decide (bt843.1 < 0)) bt843.1 bt843.2.1) else (boundstoneref02_Turns.j0 k bt843.2.2 0 false bt843.1 bt843.2.1))
set_option maxHeartbeats 8000000 in
set_option maxRecDepth 100000 in
theorem boundstoneref02_Turns.calls (k : Nat) (a0_0 : Int) (a0_1 : Int) (a0_2 : Int) (a0_3 : Int) (a1_0 : Int) (a1_1 : Int) (a1_2 : Int) (a1_3 : Int) (a2_0 : Int) (a2_1 : Int) (a2_2 : Int) (a2_3 : Int) (r : Int) (w : World) (h : boundstoneref02_Turns.f k a0_0 a0_1 a0_2 a0_3 a1_0 a1_1 a1_2 a1_3 a2_0 a2_1 a2_2 a2_3 = some r) :
  Calls Try.prog 55 #[.agg #[.int .i64 a0_0, .int .i64 a0_1, .int .i64 a0_2, .int .i64 a0_3], .agg #[.int .i64 a1_0, .int .i64 a1_1, .int .i64 a1_2, .int .i64 a1_3], .agg #[.int .i64 a2_0, .int .i64 a2_1, .int .i64 a2_2, .int .i64 a2_3]] w fun e w' => e = .returned (.int .i64 r) ∧ Below w.heap.size w w' := by
 have hu52 := Try.underlying52
 have hu50 := Try.underlying50
 have HB := Aside0.mk (Below.refl w.heap.size w)
 have H : ((boundstoneref02_Spread.f a0_0 a0_1 a0_2 a0_3 a1_0 a1_1 a1_2 a1_3 a2_0 a2_1 a2_2 a2_3).bind fun bt843 => (if bt843.2.2 = true then (boundstoneref02_Turns.j0 k bt843.2.2 0 (decide (bt843.1 < 0)) bt843.1 bt843.2.1) else (boundstoneref02_Turns.j0 k bt843.2.2 0 false bt843.1 bt843.2.1))) = some r := h
 clear h
 replace H := Option.bind_eq_some_iff.mp H
 obtain ⟨⟨t843, t844, t845⟩, A40, H⟩ := H
 replace H : (if t845 = true then (boundstoneref02_Turns.j0 k t845 0 (decide (t843 < 0)) t843 t844) else (boundstoneref02_Turns.j0 k t845 0 false t843 t844)) = some r := H
 have A4 := Aside0.mk A40
 clear A40
 have HC5 := Aside0.mk H
 clear H
 go_enter Try.func55, Try.ntmps55
 go_upto_region 3 with (first | ((with_reducible refine gate_dst (N := 3) rfl ?_); refine box_event ?hg (N := 3) ?hd (cs := #[.int .i64 a0_0, .int .i64 a0_1, .int .i64 a0_2, .int .i64 a0_3]) (t := 52) ?hr ?_; (case hd => rfl); (case hg => rfl); (case hr => first | (go_simp; done) | (go_simp; rfl)); intro gb840 hg w6 hbox hb; have BK840 := Aside0.mk (hbox); have GW840 := geBA HB hg; have GE840 := geBA HB hg; replace HB := Aside0.mk (below_step (hk HB) hb); clear hb hbox hg) | ((with_reducible refine gate_dst (N := 4) rfl ?_); refine box_event ?hg (N := 4) ?hd (cs := #[.int .i64 a1_0, .int .i64 a1_1, .int .i64 a1_2, .int .i64 a1_3]) (t := 52) ?hr ?_; (case hd => rfl); (case hg => rfl); (case hr => first | (go_simp; done) | (go_simp; rfl)); intro gb841 hg w7 hbox hb; have BK841 := Aside0.mk (hbox); have GW841 := Aside0.mk ((by rw [hg]; exact (below_size (by repeat (first | (with_reducible first | exact HB.out | apply below_alloc | apply pw_below_drewN | apply below_drew1 | refine below_set ?_ GE840.out) | exact HB.out))) : w.heap.size ≤ gb841)); have GE841 := Aside0.mk ((by rw [hg]; exact (below_size (by repeat (first | (with_reducible first | exact HB.out | apply below_alloc | apply pw_below_drewN | apply below_drew1 | refine below_set ?_ GE840.out) | exact HB.out))) : w.heap.size ≤ gb841)); have NB840_841 := neLA BK840 hg; have NB841_840 := neGA BK840 hg; replace BK840 := bkC BK840 hb; replace HB := Aside0.mk (below_step (by repeat (first | (with_reducible first | exact HB.out | apply below_alloc | apply pw_below_drewN | apply below_drew1 | refine below_set ?_ GE840.out) | exact HB.out)) hb); clear hb hbox hg) | ((with_reducible refine gate_dst (N := 5) rfl ?_); refine box_event ?hg (N := 5) ?hd (cs := #[.int .i64 a2_0, .int .i64 a2_1, .int .i64 a2_2, .int .i64 a2_3]) (t := 52) ?hr ?_; (case hd => rfl); (case hg => rfl); (case hr => first | (go_simp; done) | (go_simp; rfl)); intro gb842 hg w8 hbox hb; have BK842 := Aside0.mk (hbox); have GW842 := Aside0.mk ((by rw [hg]; exact (below_size (by repeat (first | (with_reducible first | exact HB.out | apply below_alloc | apply pw_below_drewN | apply below_drew1 | refine below_set ?_ GE840.out | refine below_set ?_ GE841.out) | exact HB.out))) : w.heap.size ≤ gb842)); have GE842 := Aside0.mk ((by rw [hg]; exact (below_size (by repeat (first | (with_reducible first | exact HB.out | apply below_alloc | apply pw_below_drewN | apply below_drew1 | refine below_set ?_ GE840.out | refine below_set ?_ GE841.out) | exact HB.out))) : w.heap.size ≤ gb842)); have NB840_842 := neLA BK840 hg; have NB842_840 := neGA BK840 hg; have NB841_842 := neLA BK841 hg; have NB842_841 := neGA BK841 hg; replace BK840 := bkC BK840 hb; replace BK841 := bkC BK841 hb; replace HB := Aside0.mk (below_step (by repeat (first | (with_reducible first | exact HB.out | apply below_alloc | apply pw_below_drewN | apply below_drew1 | refine below_set ?_ GE840.out | refine below_set ?_ GE841.out) | exact HB.out)) hb); clear hb hbox hg; have hnb9 := NB840_841.out; have hnc9 := NB841_840.out; have hnb10 := NB840_842.out; have hnc10 := NB842_840.out; have hcz11_0 : w8.cell? ⟨gb840, 0, none⟩ = some (.int .i64 a0_0) := (blk_cell BK840.out 0).trans rfl; have hcz11_1 : w8.cell? ⟨gb840, 1, none⟩ = some (.int .i64 a0_1) := (blk_cell BK840.out 1).trans rfl; have hcz11_2 : w8.cell? ⟨gb840, 2, none⟩ = some (.int .i64 a0_2) := (blk_cell BK840.out 2).trans rfl; have hcz11_3 : w8.cell? ⟨gb840, 3, none⟩ = some (.int .i64 a0_3) := (blk_cell BK840.out 3).trans rfl; have hfz11_0 := blk_frozen BK840.out 0; have hfz11_1 := blk_frozen BK840.out 1; have hfz11_2 := blk_frozen BK840.out 2; have hfz11_3 := blk_frozen BK840.out 3; have hnb12 := NB841_842.out; have hnc12 := NB842_841.out; have hcz13_0 : w8.cell? ⟨gb841, 0, none⟩ = some (.int .i64 a1_0) := (blk_cell BK841.out 0).trans rfl; have hcz13_1 : w8.cell? ⟨gb841, 1, none⟩ = some (.int .i64 a1_1) := (blk_cell BK841.out 1).trans rfl; have hcz13_2 : w8.cell? ⟨gb841, 2, none⟩ = some (.int .i64 a1_2) := (blk_cell BK841.out 2).trans rfl; have hcz13_3 : w8.cell? ⟨gb841, 3, none⟩ = some (.int .i64 a1_3) := (blk_cell BK841.out 3).trans rfl; have hfz13_0 := blk_frozen BK841.out 0; have hfz13_1 := blk_frozen BK841.out 1; have hfz13_2 := blk_frozen BK841.out 2; have hfz13_3 := blk_frozen BK841.out 3; have hcz14_0 : w8.cell? ⟨gb842, 0, none⟩ = some (.int .i64 a2_0) := (blk_cell BK842.out 0).trans rfl; have hcz14_1 : w8.cell? ⟨gb842, 1, none⟩ = some (.int .i64 a2_1) := (blk_cell BK842.out 1).trans rfl; have hcz14_2 : w8.cell? ⟨gb842, 2, none⟩ = some (.int .i64 a2_2) := (blk_cell BK842.out 2).trans rfl; have hcz14_3 : w8.cell? ⟨gb842, 3, none⟩ = some (.int .i64 a2_3) := (blk_cell BK842.out 3).trans rfl; have hfz14_0 := blk_frozen BK842.out 0; have hfz14_1 := blk_frozen BK842.out 1; have hfz14_2 := blk_frozen BK842.out 2; have hfz14_3 := blk_frozen BK842.out 3) | ((with_reducible refine gate_callee (f := 51) rfl ?_); refine goesL_ (some 14) rfl rfl Try.func51 (by kernel_rfl) rfl #[.agg #[.int .i64 a0_0, .int .i64 a0_1, .int .i64 a0_2, .int .i64 a0_3], .agg #[.int .i64 a1_0, .int .i64 a1_1, .int .i64 a1_2, .int .i64 a1_3], .agg #[.int .i64 a2_0, .int .i64 a2_1, .int .i64 a2_2, .int .i64 a2_3]] rfl (by (try simp only [List.map_toArray, List.map_cons, List.map_nil]); first | done | rfl | (simp only [List.length_drop, List.length_take]; rfl)) ?_; (with_reducible refine (boundstoneref02_Spread.calls a0_0 a0_1 a0_2 a0_3 a1_0 a1_1 a1_2 a1_3 a2_0 a2_1 a2_2 a2_3 t843 t844 t845 _ A4.out).mono ?_); rintro e w15 ⟨rfl, hb⟩; refine ⟨_, rfl, ?_⟩; replace BK840 := bkC BK840 hb; replace BK841 := bkC BK841 hb; replace BK842 := bkC BK842 hb; replace HB := Aside0.mk (below_step (by repeat (first | (with_reducible first | exact HB.out | apply below_alloc | apply pw_below_drewN | apply below_drew1 | refine below_set ?_ GE840.out | refine below_set ?_ GE841.out | refine below_set ?_ GE842.out) | exact HB.out)) hb); (try clear hb); (try clear hb2); (try clear hk); (try clear hi)) | ((with_reducible refine gate_dst (N := 7) rfl ?_); refine box_event ?hg (N := 7) ?hd (cs := #[.int .i64 0, .int .i64 0]) (t := 50) ?hr ?_; (case hd => rfl); (case hg => rfl); (case hr => first | (go_simp; done) | (go_simp; rfl)); intro gb846 hg w16 hbox hb; have BK846 := Aside0.mk (hbox); have GW846 := Aside0.mk ((by rw [hg]; exact (below_size (by repeat (first | (with_reducible first | exact HB.out | apply below_alloc | apply pw_below_drewN | apply below_drew1 | refine below_set ?_ GE840.out | refine below_set ?_ GE841.out | refine below_set ?_ GE842.out) | exact HB.out))) : w.heap.size ≤ gb846)); have GE846 := Aside0.mk ((by rw [hg]; exact (below_size (by repeat (first | (with_reducible first | exact HB.out | apply below_alloc | apply pw_below_drewN | apply below_drew1 | refine below_set ?_ GE840.out | refine below_set ?_ GE841.out | refine below_set ?_ GE842.out) | exact HB.out))) : w.heap.size ≤ gb846)); have NB840_846 := neLA BK840 hg; have NB846_840 := neGA BK840 hg; have NB841_846 := neLA BK841 hg; have NB846_841 := neGA BK841 hg; have NB842_846 := neLA BK842 hg; have NB846_842 := neGA BK842 hg; replace BK840 := bkC BK840 hb; replace BK841 := bkC BK841 hb; replace BK842 := bkC BK842 hb; replace HB := Aside0.mk (below_step (by repeat (first | (with_reducible first | exact HB.out | apply below_alloc | apply pw_below_drewN | apply below_drew1 | refine below_set ?_ GE840.out | refine below_set ?_ GE841.out | refine below_set ?_ GE842.out) | exact HB.out)) hb); clear hb hbox hg; have hnb17 := NB846_840.out; have hnc17 := NB840_846.out; have hnb18 := NB846_841.out; have hnc18 := NB841_846.out; have hnb19 := NB846_842.out; have hnc19 := NB842_846.out; have hcz20_0 : w16.cell? ⟨gb846, 0, none⟩ = some (.int .i64 0) := (blk_cell BK846.out 0).trans rfl; have hcz20_1 : w16.cell? ⟨gb846, 1, none⟩ = some (.int .i64 0) := (blk_cell BK846.out 1).trans rfl; have hfz20_0 := blk_frozen BK846.out 0; have hfz20_1 := blk_frozen BK846.out 1))
 (try simp only [Act.put, List.setIfInBounds_toArray, List.set_cons_zero, List.set_cons_succ])
 go_cut [22] (fun v22 wc => ∃ (kq : Nat) (x22_4 : Bool), v22 = .bool x22_4 ∧ Aside0 (boundstoneref02_Turns.j0 kq t845 0 x22_4 t843 t844 = some r) ∧ Aside0 (kq ≤ k) ∧ Aside0 (wc.heap[gb840]? = some (.cells #[.int .i64 a0_0, .int .i64 a0_1, .int .i64 a0_2, .int .i64 a0_3] 52 (0, 0))) ∧ Aside0 (wc.heap[gb841]? = some (.cells #[.int .i64 a1_0, .int .i64 a1_1, .int .i64 a1_2, .int .i64 a1_3] 52 (0, 0))) ∧ Aside0 (wc.heap[gb842]? = some (.cells #[.int .i64 a2_0, .int .i64 a2_1, .int .i64 a2_2, .int .i64 a2_3] 52 (0, 0))) ∧ Aside0 (wc.heap[gb846]? = some (.cells #[.int .i64 t843, .int .i64 t844] 50 (0, 0))) ∧ Aside0 (Below w.heap.size w wc))
 case first =>
  have H := HC5.out
  clear HC5
  by_cases c21 : t845 = true
  ·subst c21
   have H1 : (boundstoneref02_Turns.j0 k true 0 (decide (t843 < 0)) t843 t844) = some r := by rw [if_pos rfl] at H; exact H
   clear H
   have H := H1
   clear H1
   have H' := Aside0.mk H
   clear H
   have hnb22 := NB846_840.out
   have hnc22 := NB840_846.out
   have hnb23 := NB846_841.out
   have hnc23 := NB841_846.out
   have hnb24 := NB846_842.out
   have hnc24 := NB842_846.out
   have hcz25_0 : w16.cell? ⟨gb846, 0, none⟩ = some (.int .i64 0) := (blk_cell BK846.out 0).trans rfl
   have hcz25_1 : w16.cell? ⟨gb846, 1, none⟩ = some (.int .i64 0) := (blk_cell BK846.out 1).trans rfl
   have hfz25_0 := blk_frozen BK846.out 0
   have hfz25_1 := blk_frozen BK846.out 1
   go_wp2
   go_meet
   case rel => exact ⟨_, (decide (t843 < 0)), (by first | rfl | (simp; done) | (simp [*]; done) | kernel_rfl), H', ⟨by first | omega | exact Nat.le_refl _⟩, ⟨by (with_reducible repeat (first | refine blk_drewN ?_ _ | refine blk_drew ?_ | refine blk_alloc ?_ _)); refine blk_far ?_ NB840_846.out _; (with_reducible repeat (first | refine blk_drewN ?_ _ | refine blk_drew ?_ | refine blk_alloc ?_ _)); refine blk_far ?_ NB840_846.out _; (with_reducible repeat (first | refine blk_drewN ?_ _ | refine blk_drew ?_ | refine blk_alloc ?_ _)); exact BK840.out⟩, ⟨by (with_reducible repeat (first | refine blk_drewN ?_ _ | refine blk_drew ?_ | refine blk_alloc ?_ _)); refine blk_far ?_ NB841_846.out _; (with_reducible repeat (first | refine blk_drewN ?_ _ | refine blk_drew ?_ | refine blk_alloc ?_ _)); refine blk_far ?_ NB841_846.out _; (with_reducible repeat (first | refine blk_drewN ?_ _ | refine blk_drew ?_ | refine blk_alloc ?_ _)); exact BK841.out⟩, ⟨by (with_reducible repeat (first | refine blk_drewN ?_ _ | refine blk_drew ?_ | refine blk_alloc ?_ _)); refine blk_far ?_ NB842_846.out _; (with_reducible repeat (first | refine blk_drewN ?_ _ | refine blk_drew ?_ | refine blk_alloc ?_ _)); refine blk_far ?_ NB842_846.out _; (with_reducible repeat (first | refine blk_drewN ?_ _ | refine blk_drew ?_ | refine blk_alloc ?_ _)); exact BK842.out⟩, ⟨by (with_reducible repeat (first | refine blk_drewN ?_ _ | refine blk_drew ?_ | refine blk_alloc ?_ _)); refine blk_put (cs := #[.int .i64 t843, .int .i64 0]) ?_ 1 _ rfl; (with_reducible repeat (first | refine blk_drewN ?_ _ | refine blk_drew ?_ | refine blk_alloc ?_ _)); refine blk_put (cs := #[.int .i64 0, .int .i64 0]) ?_ 0 _ rfl; (with_reducible repeat (first | refine blk_drewN ?_ _ | refine blk_drew ?_ | refine blk_alloc ?_ _)); exact BK846.out⟩, ⟨by repeat (first | (with_reducible first | exact HB.out | apply below_alloc | apply pw_below_drewN | apply below_drew1 | refine below_set ?_ GE840.out | refine below_set ?_ GE841.out | refine below_set ?_ GE842.out | refine below_set ?_ GE846.out) | exact HB.out)⟩⟩
  ·replace c21 := Bool.eq_false_iff.mpr c21
   subst c21
   have H1 : (boundstoneref02_Turns.j0 k false 0 false t843 t844) = some r := by rw [if_neg (show ¬ (false = true) by decide)] at H; exact H
   clear H
   have H := H1
   clear H1
   have H' := Aside0.mk H
   clear H
   go_wp2
   go_meet
   case rel => exact ⟨_, (false), (by first | rfl | (simp; done) | (simp [*]; done) | kernel_rfl), H', ⟨by first | omega | exact Nat.le_refl _⟩, ⟨by (with_reducible repeat (first | refine blk_drewN ?_ _ | refine blk_drew ?_ | refine blk_alloc ?_ _)); refine blk_far ?_ NB840_846.out _; (with_reducible repeat (first | refine blk_drewN ?_ _ | refine blk_drew ?_ | refine blk_alloc ?_ _)); refine blk_far ?_ NB840_846.out _; (with_reducible repeat (first | refine blk_drewN ?_ _ | refine blk_drew ?_ | refine blk_alloc ?_ _)); exact BK840.out⟩, ⟨by (with_reducible repeat (first | refine blk_drewN ?_ _ | refine blk_drew ?_ | refine blk_alloc ?_ _)); refine blk_far ?_ NB841_846.out _; (with_reducible repeat (first | refine blk_drewN ?_ _ | refine blk_drew ?_ | refine blk_alloc ?_ _)); refine blk_far ?_ NB841_846.out _; (with_reducible repeat (first | refine blk_drewN ?_ _ | refine blk_drew ?_ | refine blk_alloc ?_ _)); exact BK841.out⟩, ⟨by (with_reducible repeat (first | refine blk_drewN ?_ _ | refine blk_drew ?_ | refine blk_alloc ?_ _)); refine blk_far ?_ NB842_846.out _; (with_reducible repeat (first | refine blk_drewN ?_ _ | refine blk_drew ?_ | refine blk_alloc ?_ _)); refine blk_far ?_ NB842_846.out _; (with_reducible repeat (first | refine blk_drewN ?_ _ | refine blk_drew ?_ | refine blk_alloc ?_ _)); exact BK842.out⟩, ⟨by (with_reducible repeat (first | refine blk_drewN ?_ _ | refine blk_drew ?_ | refine blk_alloc ?_ _)); refine blk_put (cs := #[.int .i64 t843, .int .i64 0]) ?_ 1 _ rfl; (with_reducible repeat (first | refine blk_drewN ?_ _ | refine blk_drew ?_ | refine blk_alloc ?_ _)); refine blk_put (cs := #[.int .i64 0, .int .i64 0]) ?_ 0 _ rfl; (with_reducible repeat (first | refine blk_drewN ?_ _ | refine blk_drew ?_ | refine blk_alloc ?_ _)); exact BK846.out⟩, ⟨by repeat (first | (with_reducible first | exact HB.out | apply below_alloc | apply pw_below_drewN | apply below_drew1 | refine below_set ?_ GE840.out | refine below_set ?_ GE841.out | refine below_set ?_ GE842.out | refine below_set ?_ GE846.out) | exact HB.out)⟩⟩
 case rest =>
  clear HC5
  try clear c1
  try clear c2
  try clear p2
  try clear c5
  try clear c9
  try clear c10
  try clear c12
  try clear c17
  try clear c18
  try clear c19
  try clear c21
  try clear c22
  try clear c23
  try clear c24
  try clear hcz11_0
  try clear hcz11_1
  try clear hcz11_2
  try clear hcz11_3
  try clear hcz13_0
  try clear hcz13_1
  try clear hcz13_2
  try clear hcz13_3
  try clear hcz14_0
  try clear hcz14_1
  try clear hcz14_2
  try clear hcz14_3
  try clear hcz20_0
  try clear hcz20_1
  try clear hcz25_0
  try clear hcz25_1
  try clear hfz11_0
  try clear hfz11_1
  try clear hfz11_2
  try clear hfz11_3
  try clear hfz13_0
  try clear hfz13_1
  try clear hfz13_2
  try clear hfz13_3
  try clear hfz14_0
  try clear hfz14_1
  try clear hfz14_2
  try clear hfz14_3
  try clear hfz20_0
  try clear hfz20_1
  try clear hfz25_0
  try clear hfz25_1
  obtain ⟨kq, x22_4, rfl, HA, HJ4, BK840, BK841, BK842, BK846, HB⟩ := hcut
  cases kq with
  | zero => exact absurd HA.out (by simp [boundstoneref02_Turns.j0])
  | succ kj4 =>
   have H := HA.out
   clear HA
   simp only [boundstoneref02_Turns.j0] at H
   have HC26 := Aside0.mk H
   clear H
   go_upto_if 22 with (fail)
   go_cut [9] (fun v9 wc => ∃ (kq : Nat) (x9_25 : Int), v9 = .int .i64 x9_25 ∧ Aside0 (boundstoneref02_Turns.j1 kq t845 x9_25 t843 t844 = some r) ∧ Aside0 (kq ≤ kj4) ∧ Aside0 (wc.heap[gb840]? = some (.cells #[.int .i64 a0_0, .int .i64 a0_1, .int .i64 a0_2, .int .i64 a0_3] 52 (0, 0))) ∧ Aside0 (wc.heap[gb841]? = some (.cells #[.int .i64 a1_0, .int .i64 a1_1, .int .i64 a1_2, .int .i64 a1_3] 52 (0, 0))) ∧ Aside0 (wc.heap[gb842]? = some (.cells #[.int .i64 a2_0, .int .i64 a2_1, .int .i64 a2_2, .int .i64 a2_3] 52 (0, 0))) ∧ Aside0 (wc.heap[gb846]? = some (.cells #[.int .i64 t843, .int .i64 t844] 50 (0, 0))) ∧ Aside0 (Below w.heap.size w wc))
   case first =>
    have H := HC26.out
    clear HC26
    by_cases c27 : x22_4 = true
    ·subst c27
     have H1 : (boundstoneref02_Turns.j1 kj4 t845 (wrap64 (0 + 1)) t843 t844) = some r := by rw [if_pos rfl] at H; exact H
     clear H
     have H := H1
     clear H1
     have H' := Aside0.mk H
     clear H
     go_wp2
     go_meet
     case rel => exact ⟨_, (wrap64 (0 + 1)), (by first | rfl | (simp; done) | (simp [*]; done) | kernel_rfl), H', ⟨by have := HJ4.out; first | omega | exact Nat.le_refl _⟩, ⟨bk BK840⟩, ⟨bk BK841⟩, ⟨bk BK842⟩, ⟨bk BK846⟩, ⟨by repeat (first | (with_reducible first | exact HB.out | apply below_alloc | apply pw_below_drewN | apply below_drew1 | refine below_set ?_ GE840.out | refine below_set ?_ GE841.out | refine below_set ?_ GE842.out | refine below_set ?_ GE846.out) | exact HB.out)⟩⟩
    ·replace c27 := Bool.eq_false_iff.mpr c27
     subst c27
     have H1 : (boundstoneref02_Turns.j1 kj4 t845 0 t843 t844) = some r := by rw [if_neg (show ¬ (false = true) by decide)] at H; exact H
     clear H
     have H := H1
     clear H1
     have H' := Aside0.mk H
     clear H
     go_wp2
     go_meet
     case rel => exact ⟨_, (0), (by first | rfl | (simp; done) | (simp [*]; done) | kernel_rfl), H', ⟨by have := HJ4.out; first | omega | exact Nat.le_refl _⟩, ⟨bk BK840⟩, ⟨bk BK841⟩, ⟨bk BK842⟩, ⟨bk BK846⟩, ⟨by repeat (first | (with_reducible first | exact HB.out | apply below_alloc | apply pw_below_drewN | apply below_drew1 | refine below_set ?_ GE840.out | refine below_set ?_ GE841.out | refine below_set ?_ GE842.out | refine below_set ?_ GE846.out) | exact HB.out)⟩⟩
   case rest =>
    clear HC26
    try clear c1
    try clear c2
    try clear p2
    try clear c5
    try clear p6
    try clear c9
    try clear c10
    try clear c12
    try clear c17
    try clear c18
    try clear c19
    try clear c21
    try clear c22
    try clear c23
    try clear c24
    try clear c27
    try clear hcz11_0
    try clear hcz11_1
    try clear hcz11_2
    try clear hcz11_3
    try clear hcz13_0
    try clear hcz13_1
    try clear hcz13_2
    try clear hcz13_3
    try clear hcz14_0
    try clear hcz14_1
    try clear hcz14_2
    try clear hcz14_3
    try clear hcz20_0
    try clear hcz20_1
    try clear hcz25_0
    try clear hcz25_1
    try clear hfz11_0
    try clear hfz11_1
    try clear hfz11_2
    try clear hfz11_3
    try clear hfz13_0
    try clear hfz13_1
    try clear hfz13_2
    try clear hfz13_3
    try clear hfz14_0
    try clear hfz14_1
    try clear hfz14_2
    try clear hfz14_3
    try clear hfz20_0
    try clear hfz20_1
    try clear hfz25_0
    try clear hfz25_1
    try clear p2
    obtain ⟨kq, x9_25, rfl, HA, HJ25, BK840, BK841, BK842, BK846, HB⟩ := hcut
    cases kq with
    | zero => exact absurd HA.out (by simp [boundstoneref02_Turns.j1])
    | succ kj25 =>
     have H := HA.out
     clear HA
     simp only [boundstoneref02_Turns.j1] at H
     have HC28 := Aside0.mk H
     clear H
     go_upto_region 5 with (fail)
     go_cut [30] (fun v30 wc => ∃ (kq : Nat) (x30_27 : Bool), v30 = .bool x30_27 ∧ Aside0 (boundstoneref02_Turns.j2 kq t845 x9_25 x30_27 t843 t844 = some r) ∧ Aside0 (kq ≤ kj25) ∧ Aside0 (wc.heap[gb840]? = some (.cells #[.int .i64 a0_0, .int .i64 a0_1, .int .i64 a0_2, .int .i64 a0_3] 52 (0, 0))) ∧ Aside0 (wc.heap[gb841]? = some (.cells #[.int .i64 a1_0, .int .i64 a1_1, .int .i64 a1_2, .int .i64 a1_3] 52 (0, 0))) ∧ Aside0 (wc.heap[gb842]? = some (.cells #[.int .i64 a2_0, .int .i64 a2_1, .int .i64 a2_2, .int .i64 a2_3] 52 (0, 0))) ∧ Aside0 (wc.heap[gb846]? = some (.cells #[.int .i64 t843, .int .i64 t844] 50 (0, 0))) ∧ Aside0 (Below w.heap.size w wc))
     case first =>
      have H := HC28.out
      clear HC28
      by_cases c29 : t845 = true
      ·subst c29
       have H1 : (boundstoneref02_Turns.j2 kj25 true x9_25 (decide (t844 > 0)) t843 t844) = some r := by rw [if_pos rfl] at H; exact H
       clear H
       have H := H1
       clear H1
       have H' := Aside0.mk H
       clear H
       have hnb30 := NB846_840.out
       have hnc30 := NB840_846.out
       have hnb31 := NB846_841.out
       have hnc31 := NB841_846.out
       have hnb32 := NB846_842.out
       have hnc32 := NB842_846.out
       have hcz33_0 : wc.cell? ⟨gb846, 0, none⟩ = some (.int .i64 t843) := (blk_cell BK846.out 0).trans rfl
       have hcz33_1 : wc.cell? ⟨gb846, 1, none⟩ = some (.int .i64 t844) := (blk_cell BK846.out 1).trans rfl
       have hfz33_0 := blk_frozen BK846.out 0
       have hfz33_1 := blk_frozen BK846.out 1
       go_wp2
       go_meet
       case rel => exact ⟨_, (decide (t844 > 0)), (by first | rfl | (simp; done) | (simp [*]; done) | kernel_rfl), H', ⟨by have := HJ4.out; have := HJ25.out; first | omega | exact Nat.le_refl _⟩, ⟨bk BK840⟩, ⟨bk BK841⟩, ⟨bk BK842⟩, ⟨bk BK846⟩, ⟨by repeat (first | (with_reducible first | exact HB.out | apply below_alloc | apply pw_below_drewN | apply below_drew1 | refine below_set ?_ GE840.out | refine below_set ?_ GE841.out | refine below_set ?_ GE842.out | refine below_set ?_ GE846.out) | exact HB.out)⟩⟩
      ·replace c29 := Bool.eq_false_iff.mpr c29
       subst c29
       have H1 : (boundstoneref02_Turns.j2 kj25 false x9_25 false t843 t844) = some r := by rw [if_neg (show ¬ (false = true) by decide)] at H; exact H
       clear H
       have H := H1
       clear H1
       have H' := Aside0.mk H
       clear H
       go_wp2
       go_meet
       case rel => exact ⟨_, (false), (by first | rfl | (simp; done) | (simp [*]; done) | kernel_rfl), H', ⟨by have := HJ4.out; have := HJ25.out; first | omega | exact Nat.le_refl _⟩, ⟨bk BK840⟩, ⟨bk BK841⟩, ⟨bk BK842⟩, ⟨bk BK846⟩, ⟨by repeat (first | (with_reducible first | exact HB.out | apply below_alloc | apply pw_below_drewN | apply below_drew1 | refine below_set ?_ GE840.out | refine below_set ?_ GE841.out | refine below_set ?_ GE842.out | refine below_set ?_ GE846.out) | exact HB.out)⟩⟩
     case rest =>
      clear HC28
      try clear c1
      try clear c2
      try clear p2
      try clear c3
      try clear c5
      try clear p6
      try clear c9
      try clear c10
      try clear c12
      try clear c17
      try clear c18
      try clear c19
      try clear c21
      try clear c22
      try clear c23
      try clear c24
      try clear c27
      try clear c29
      try clear c30
      try clear c31
      try clear c32
      try clear hcz11_0
      try clear hcz11_1
      try clear hcz11_2
      try clear hcz11_3
      try clear hcz13_0
      try clear hcz13_1
      try clear hcz13_2
      try clear hcz13_3
      try clear hcz14_0
      try clear hcz14_1
      try clear hcz14_2
      try clear hcz14_3
      try clear hcz20_0
      try clear hcz20_1
      try clear hcz25_0
      try clear hcz25_1
      try clear hcz33_0
      try clear hcz33_1
      try clear hfz11_0
      try clear hfz11_1
      try clear hfz11_2
      try clear hfz11_3
      try clear hfz13_0
      try clear hfz13_1
      try clear hfz13_2
      try clear hfz13_3
      try clear hfz14_0
      try clear hfz14_1
      try clear hfz14_2
      try clear hfz14_3
      try clear hfz20_0
      try clear hfz20_1
      try clear hfz25_0
      try clear hfz25_1
      try clear hfz33_0
      try clear hfz33_1
      try clear p2
      try clear p6
      obtain ⟨kq, x30_27, rfl, HA, HJ27, BK840, BK841, BK842, BK846, HB⟩ := hcut
      cases kq with
      | zero => exact absurd HA.out (by simp [boundstoneref02_Turns.j2])
      | succ kj27 =>
       have H := HA.out
       clear HA
       simp only [boundstoneref02_Turns.j2] at H
       have HC34 := Aside0.mk H
       clear H
       go_upto_if 30 with (fail)
       go_cut [9] (fun v9 wc => ∃ (kq : Nat) (x9_33 : Int), v9 = .int .i64 x9_33 ∧ Aside0 (boundstoneref02_Turns.j3 kq t845 x9_33 t843 t844 = some r) ∧ Aside0 (kq ≤ kj27) ∧ Aside0 (wc.heap[gb840]? = some (.cells #[.int .i64 a0_0, .int .i64 a0_1, .int .i64 a0_2, .int .i64 a0_3] 52 (0, 0))) ∧ Aside0 (wc.heap[gb841]? = some (.cells #[.int .i64 a1_0, .int .i64 a1_1, .int .i64 a1_2, .int .i64 a1_3] 52 (0, 0))) ∧ Aside0 (wc.heap[gb842]? = some (.cells #[.int .i64 a2_0, .int .i64 a2_1, .int .i64 a2_2, .int .i64 a2_3] 52 (0, 0))) ∧ Aside0 (wc.heap[gb846]? = some (.cells #[.int .i64 t843, .int .i64 t844] 50 (0, 0))) ∧ Aside0 (Below w.heap.size w wc))
       case first =>
        have H := HC34.out
        clear HC34
        by_cases c35 : x30_27 = true
        ·subst c35
         have H1 : (boundstoneref02_Turns.j3 kj27 t845 (wrap64 (x9_25 + 4)) t843 t844) = some r := by rw [if_pos rfl] at H; exact H
         clear H
         have H := H1
         clear H1
         have H' := Aside0.mk H
         clear H
         go_wp2
         go_meet
         case rel => exact ⟨_, (wrap64 (x9_25 + 4)), (by first | rfl | (simp; done) | (simp [*]; done) | kernel_rfl), H', ⟨by have := HJ4.out; have := HJ25.out; have := HJ27.out; first | omega | exact Nat.le_refl _⟩, ⟨bk BK840⟩, ⟨bk BK841⟩, ⟨bk BK842⟩, ⟨bk BK846⟩, ⟨by repeat (first | (with_reducible first | exact HB.out | apply below_alloc | apply pw_below_drewN | apply below_drew1 | refine below_set ?_ GE840.out | refine below_set ?_ GE841.out | refine below_set ?_ GE842.out | refine below_set ?_ GE846.out) | exact HB.out)⟩⟩
        ·replace c35 := Bool.eq_false_iff.mpr c35
         subst c35
         have H1 : (boundstoneref02_Turns.j3 kj27 t845 x9_25 t843 t844) = some r := by rw [if_neg (show ¬ (false = true) by decide)] at H; exact H
         clear H
         have H := H1
         clear H1
         have H' := Aside0.mk H
         clear H
         go_wp2
         go_meet
         case rel => exact ⟨_, (x9_25), (by first | rfl | (simp; done) | (simp [*]; done) | kernel_rfl), H', ⟨by have := HJ4.out; have := HJ25.out; have := HJ27.out; first | omega | exact Nat.le_refl _⟩, ⟨bk BK840⟩, ⟨bk BK841⟩, ⟨bk BK842⟩, ⟨bk BK846⟩, ⟨by repeat (first | (with_reducible first | exact HB.out | apply below_alloc | apply pw_below_drewN | apply below_drew1 | refine below_set ?_ GE840.out | refine below_set ?_ GE841.out | refine below_set ?_ GE842.out | refine below_set ?_ GE846.out) | exact HB.out)⟩⟩
       case rest =>
        clear HC34
        try clear c1
        try clear c2
        try clear p2
        try clear c3
        try clear c5
        try clear p6
        try clear c9
        try clear c10
        try clear c12
        try clear c17
        try clear c18
        try clear c19
        try clear c21
        try clear c22
        try clear c23
        try clear c24
        try clear c27
        try clear c29
        try clear c30
        try clear c31
        try clear c32
        try clear c35
        try clear hcz11_0
        try clear hcz11_1
        try clear hcz11_2
        try clear hcz11_3
        try clear hcz13_0
        try clear hcz13_1
        try clear hcz13_2
        try clear hcz13_3
        try clear hcz14_0
        try clear hcz14_1
        try clear hcz14_2
        try clear hcz14_3
        try clear hcz20_0
        try clear hcz20_1
        try clear hcz25_0
        try clear hcz25_1
        try clear hcz33_0
        try clear hcz33_1
        try clear hfz11_0
        try clear hfz11_1
        try clear hfz11_2
        try clear hfz11_3
        try clear hfz13_0
        try clear hfz13_1
        try clear hfz13_2
        try clear hfz13_3
        try clear hfz14_0
        try clear hfz14_1
        try clear hfz14_2
        try clear hfz14_3
        try clear hfz20_0
        try clear hfz20_1
        try clear hfz25_0
        try clear hfz25_1
        try clear hfz33_0
        try clear hfz33_1
        try clear p2
        try clear p6
        obtain ⟨kq, x9_33, rfl, HA, HJ33, BK840, BK841, BK842, BK846, HB⟩ := hcut
        cases kq with
        | zero => exact absurd HA.out (by simp [boundstoneref02_Turns.j3])
        | succ kj33 =>
         have H := HA.out
         clear HA
         simp only [boundstoneref02_Turns.j3] at H
         have HC36 := Aside0.mk H
         clear H
         go_upto_region 7 with (fail)
         go_cut [43] (fun v43 wc => ∃ (kq : Nat) (x43_35 : Bool), v43 = .bool x43_35 ∧ Aside0 (boundstoneref02_Turns.j4 kq x9_33 x43_35 = some r) ∧ Aside0 (kq ≤ kj33) ∧ Aside0 (wc.heap[gb840]? = some (.cells #[.int .i64 a0_0, .int .i64 a0_1, .int .i64 a0_2, .int .i64 a0_3] 52 (0, 0))) ∧ Aside0 (wc.heap[gb841]? = some (.cells #[.int .i64 a1_0, .int .i64 a1_1, .int .i64 a1_2, .int .i64 a1_3] 52 (0, 0))) ∧ Aside0 (wc.heap[gb842]? = some (.cells #[.int .i64 a2_0, .int .i64 a2_1, .int .i64 a2_2, .int .i64 a2_3] 52 (0, 0))) ∧ Aside0 (wc.heap[gb846]? = some (.cells #[.int .i64 t843, .int .i64 t844] 50 (0, 0))) ∧ Aside0 (Below w.heap.size w wc))
         case first =>
          have H := HC36.out
          clear HC36
          by_cases c37 : t845 = true
          ·subst c37
           have H1 : (if t843 ≤ 0 then (boundstoneref02_Turns.j4 kj33 x9_33 (decide (t844 ≥ 0))) else (boundstoneref02_Turns.j4 kj33 x9_33 false)) = some r := by rw [if_pos rfl] at H; exact H
           clear H
           have H := H1
           clear H1
           by_cases c38 : t843 ≤ 0
           ·rw [if_pos c38] at H
            have c38b0 : decide (t843 ≤ 0) = true := decide_eq_true c38
            clear c38
            (first | rw [c38b0] | (simp only [i64_w, i32_w]; rw [c38b0]) | skip)
            have H' := Aside0.mk H
            clear H
            have hnb39 := NB846_840.out
            have hnc39 := NB840_846.out
            have hnb40 := NB846_841.out
            have hnc40 := NB841_846.out
            have hnb41 := NB846_842.out
            have hnc41 := NB842_846.out
            have hcz42_0 : wc.cell? ⟨gb846, 0, none⟩ = some (.int .i64 t843) := (blk_cell BK846.out 0).trans rfl
            have hcz42_1 : wc.cell? ⟨gb846, 1, none⟩ = some (.int .i64 t844) := (blk_cell BK846.out 1).trans rfl
            have hfz42_0 := blk_frozen BK846.out 0
            have hfz42_1 := blk_frozen BK846.out 1
            go_wp2
            go_meet
            case rel => exact ⟨_, (decide (t844 ≥ 0)), (by first | rfl | (simp; done) | (simp [*]; done) | kernel_rfl), H', ⟨by have := HJ4.out; have := HJ25.out; have := HJ27.out; have := HJ33.out; first | omega | exact Nat.le_refl _⟩, ⟨bk BK840⟩, ⟨bk BK841⟩, ⟨bk BK842⟩, ⟨bk BK846⟩, ⟨by repeat (first | (with_reducible first | exact HB.out | apply below_alloc | apply pw_below_drewN | apply below_drew1 | refine below_set ?_ GE840.out | refine below_set ?_ GE841.out | refine below_set ?_ GE842.out | refine below_set ?_ GE846.out) | exact HB.out)⟩⟩
           ·rw [if_neg c38] at H
            have c38b0 : decide (t843 ≤ 0) = false := decide_eq_false c38
            clear c38
            (first | rw [c38b0] | (simp only [i64_w, i32_w]; rw [c38b0]) | skip)
            have H' := Aside0.mk H
            clear H
            have hnb43 := NB846_840.out
            have hnc43 := NB840_846.out
            have hnb44 := NB846_841.out
            have hnc44 := NB841_846.out
            have hnb45 := NB846_842.out
            have hnc45 := NB842_846.out
            have hcz46_0 : wc.cell? ⟨gb846, 0, none⟩ = some (.int .i64 t843) := (blk_cell BK846.out 0).trans rfl
            have hcz46_1 : wc.cell? ⟨gb846, 1, none⟩ = some (.int .i64 t844) := (blk_cell BK846.out 1).trans rfl
            have hfz46_0 := blk_frozen BK846.out 0
            have hfz46_1 := blk_frozen BK846.out 1
            go_wp2
            go_meet
            case rel => exact ⟨_, (false), (by first | rfl | (simp; done) | (simp [*]; done) | kernel_rfl), H', ⟨by have := HJ4.out; have := HJ25.out; have := HJ27.out; have := HJ33.out; first | omega | exact Nat.le_refl _⟩, ⟨bk BK840⟩, ⟨bk BK841⟩, ⟨bk BK842⟩, ⟨bk BK846⟩, ⟨by repeat (first | (with_reducible first | exact HB.out | apply below_alloc | apply pw_below_drewN | apply below_drew1 | refine below_set ?_ GE840.out | refine below_set ?_ GE841.out | refine below_set ?_ GE842.out | refine below_set ?_ GE846.out) | exact HB.out)⟩⟩
          ·replace c37 := Bool.eq_false_iff.mpr c37
           subst c37
           have H1 : (boundstoneref02_Turns.j4 kj33 x9_33 false) = some r := by rw [if_neg (show ¬ (false = true) by decide)] at H; exact H
           clear H
           have H := H1
           clear H1
           have H' := Aside0.mk H
           clear H
           go_wp2
           go_meet
           case rel => exact ⟨_, (false), (by first | rfl | (simp; done) | (simp [*]; done) | kernel_rfl), H', ⟨by have := HJ4.out; have := HJ25.out; have := HJ27.out; have := HJ33.out; first | omega | exact Nat.le_refl _⟩, ⟨bk BK840⟩, ⟨bk BK841⟩, ⟨bk BK842⟩, ⟨bk BK846⟩, ⟨by repeat (first | (with_reducible first | exact HB.out | apply below_alloc | apply pw_below_drewN | apply below_drew1 | refine below_set ?_ GE840.out | refine below_set ?_ GE841.out | refine below_set ?_ GE842.out | refine below_set ?_ GE846.out) | exact HB.out)⟩⟩
         case rest =>
          clear HC36
          try clear c1
          try clear c2
          try clear p2
          try clear c3
          try clear c4
          try clear c5
          try clear p6
          try clear c9
          try clear c10
          try clear c12
          try clear c17
          try clear c18
          try clear c19
          try clear c21
          try clear c22
          try clear c23
          try clear c24
          try clear c27
          try clear c29
          try clear c30
          try clear c31
          try clear c32
          try clear c35
          try clear c37
          try clear c38
          try clear c38b0
          try clear c39
          try clear c40
          try clear c41
          try clear c43
          try clear c44
          try clear c45
          try clear hcz11_0
          try clear hcz11_1
          try clear hcz11_2
          try clear hcz11_3
          try clear hcz13_0
          try clear hcz13_1
          try clear hcz13_2
          try clear hcz13_3
          try clear hcz14_0
          try clear hcz14_1
          try clear hcz14_2
          try clear hcz14_3
          try clear hcz20_0
          try clear hcz20_1
          try clear hcz25_0
          try clear hcz25_1
          try clear hcz33_0
          try clear hcz33_1
          try clear hcz42_0
          try clear hcz42_1
          try clear hcz46_0
          try clear hcz46_1
          try clear hfz11_0
          try clear hfz11_1
          try clear hfz11_2
          try clear hfz11_3
          try clear hfz13_0
          try clear hfz13_1
          try clear hfz13_2
          try clear hfz13_3
          try clear hfz14_0
          try clear hfz14_1
          try clear hfz14_2
          try clear hfz14_3
          try clear hfz20_0
          try clear hfz20_1
          try clear hfz25_0
          try clear hfz25_1
          try clear hfz33_0
          try clear hfz33_1
          try clear hfz42_0
          try clear hfz42_1
          try clear hfz46_0
          try clear hfz46_1
          try clear p2
          try clear p6
          obtain ⟨kq, x43_35, rfl, HA, HJ35, BK840, BK841, BK842, BK846, HB⟩ := hcut
          cases kq with
          | zero => exact absurd HA.out (by simp [boundstoneref02_Turns.j4])
          | succ kj35 =>
           have H := HA.out
           clear HA
           simp only [boundstoneref02_Turns.j4] at H
           by_cases c47 : x43_35 = true
           ·subst c47
            have H1 : (some (wrap64 (x9_33 + 2))) = some r := by rw [if_pos rfl] at H; exact H
            clear H
            have H := H1
            clear H1
            obtain rfl := Option.some.inj H
            go_wp2
            go_ret
            exact ⟨by first | rfl | (simp [errW_none, errW_some] <;> rfl) | (simp [*, errW_none, errW_some] <;> rfl), by repeat (first | (with_reducible first | exact HB.out | apply below_alloc | apply pw_below_drewN | apply below_drew1 | refine below_set ?_ GE840.out | refine below_set ?_ GE841.out | refine below_set ?_ GE842.out | refine below_set ?_ GE846.out) | exact HB.out)⟩
           ·replace c47 := Bool.eq_false_iff.mpr c47
            subst c47
            have H1 : (some x9_33) = some r := by rw [if_neg (show ¬ (false = true) by decide)] at H; exact H
            clear H
            have H := H1
            clear H1
            obtain rfl := Option.some.inj H
            go_wp2
            go_ret
            exact ⟨by first | rfl | (simp [errW_none, errW_some] <;> rfl) | (simp [*, errW_none, errW_some] <;> rfl), by repeat (first | (with_reducible first | exact HB.out | apply below_alloc | apply pw_below_drewN | apply below_drew1 | refine below_set ?_ GE840.out | refine below_set ?_ GE841.out | refine below_set ?_ GE842.out | refine below_set ?_ GE846.out) | exact HB.out)⟩
end Go.Proofs.Ytckaejgamfllfaa.G
end

section
namespace Go.Proofs.Ytckaejgamfllfaa.G
open Go.RowKit Go.Proofs.YtckaejgamfllfaaW.PrintWords Go.Proofs.YtckaejgamfllfaaW.PrintLast Go.Proofs.YtckaejgamfllfaaW.PrintMore
attribute [local go_sem] max2_int min2_int max_two min_two max_three min_three max_four min_four
set_option linter.unusedVariables false
set_option linter.unusedSimpArgs false
end Go.Proofs.Ytckaejgamfllfaa.G
end

section
namespace Go.Proofs.Ytckaejgamfllfaa.G
open Go.RowKit Go.Proofs.YtckaejgamfllfaaW.PrintWords Go.Proofs.YtckaejgamfllfaaW.PrintLast Go.Proofs.YtckaejgamfllfaaW.PrintMore
attribute [local go_sem] max2_int min2_int max_two min_two max_three min_three max_four min_four
set_option linter.unusedVariables false
set_option linter.unusedSimpArgs false
end Go.Proofs.Ytckaejgamfllfaa.G
end

section
namespace Go.Proofs.Ytckaejgamfllfaa.G
open Go.RowKit Go.Proofs.YtckaejgamfllfaaW.PrintWords Go.Proofs.YtckaejgamfllfaaW.PrintLast Go.Proofs.YtckaejgamfllfaaW.PrintMore
attribute [local go_sem] max2_int min2_int max_two min_two max_three min_three max_four min_four
set_option linter.unusedVariables false
set_option linter.unusedSimpArgs false
def plane_Cover.T3 : Bool × List (List Nat × List Nat) := (true, [([], []), ([0], [0]), ([], []), ([2], [2]), ([1, 3], [1, 3]), ([], []), ([5], [5]), ([], []), ([7], [7]), ([6, 8, 4], [6, 8]), ([4, 9], [4, 9]), ([10, 9, 0, 1, 2, 3, 4, 5, 6, 7, 8, 9, 10], [10]), ([11, 0, 1, 2, 3, 4, 5, 6, 7, 8, 9, 10, 11], [])])
def plane_Cover.B3 : List Nat := [0, 1, 0, 4, 15, 0, 32, 0, 128, 511, 1023, 2047, 4095]
theorem plane_Cover.tab3 : rtab .any (opsOf Try.f58 3) = plane_Cover.T3 := by kernel_rfl
theorem plane_Cover.bits3 : waitsOk plane_Cover.T3.2 plane_Cover.B3 = true := by kernel_rfl
end Go.Proofs.Ytckaejgamfllfaa.G
end

section
namespace Go.Proofs.Ytckaejgamfllfaa.G
open Go.RowKit Go.Proofs.YtckaejgamfllfaaW.PrintWords Go.Proofs.YtckaejgamfllfaaW.PrintLast Go.Proofs.YtckaejgamfllfaaW.PrintMore
attribute [local go_sem] max2_int min2_int max_two min_two max_three min_three max_four min_four
set_option linter.unusedVariables false
set_option linter.unusedSimpArgs false
end Go.Proofs.Ytckaejgamfllfaa.G
end

section
namespace Go.Proofs.Ytckaejgamfllfaa.G
open Go.RowKit Go.Proofs.YtckaejgamfllfaaW.PrintWords Go.Proofs.YtckaejgamfllfaaW.PrintLast Go.Proofs.YtckaejgamfllfaaW.PrintMore
attribute [local go_sem] max2_int min2_int max_two min_two max_three min_three max_four min_four
set_option linter.unusedVariables false
set_option linter.unusedSimpArgs false
end Go.Proofs.Ytckaejgamfllfaa.G
end

section
namespace Go.Proofs.Ytckaejgamfllfaa.G
open Go.RowKit Go.Proofs.YtckaejgamfllfaaW.PrintWords Go.Proofs.YtckaejgamfllfaaW.PrintLast Go.Proofs.YtckaejgamfllfaaW.PrintMore
attribute [local go_sem] max2_int min2_int max_two min_two max_three min_three max_four min_four
set_option linter.unusedVariables false
set_option linter.unusedSimpArgs false
end Go.Proofs.Ytckaejgamfllfaa.G
end

section
namespace Go.Proofs.Ytckaejgamfllfaa.G
open Go.RowKit Go.Proofs.YtckaejgamfllfaaW.PrintWords Go.Proofs.YtckaejgamfllfaaW.PrintLast Go.Proofs.YtckaejgamfllfaaW.PrintMore
attribute [local go_sem] max2_int min2_int max_two min_two max_three min_three max_four min_four
set_option linter.unusedVariables false
set_option linter.unusedSimpArgs false
end Go.Proofs.Ytckaejgamfllfaa.G
end

section
namespace Go.Proofs.Ytckaejgamfllfaa.G
open Go.RowKit Go.Proofs.YtckaejgamfllfaaW.PrintWords Go.Proofs.YtckaejgamfllfaaW.PrintLast Go.Proofs.YtckaejgamfllfaaW.PrintMore
attribute [local go_sem] max2_int min2_int max_two min_two max_three min_three max_four min_four
set_option linter.unusedVariables false
set_option linter.unusedSimpArgs false
end Go.Proofs.Ytckaejgamfllfaa.G
end

section
namespace Go.Proofs.Ytckaejgamfllfaa.G
open Go.RowKit Go.Proofs.YtckaejgamfllfaaW.PrintWords Go.Proofs.YtckaejgamfllfaaW.PrintLast Go.Proofs.YtckaejgamfllfaaW.PrintMore
attribute [local go_sem] max2_int min2_int max_two min_two max_three min_three max_four min_four
set_option linter.unusedVariables false
set_option linter.unusedSimpArgs false
end Go.Proofs.Ytckaejgamfllfaa.G
end

section
namespace Go.Proofs.Ytckaejgamfllfaa.G
open Go.RowKit Go.Proofs.YtckaejgamfllfaaW.PrintWords Go.Proofs.YtckaejgamfllfaaW.PrintLast Go.Proofs.YtckaejgamfllfaaW.PrintMore
attribute [local go_sem] max2_int min2_int max_two min_two max_three min_three max_four min_four
set_option linter.unusedVariables false
set_option linter.unusedSimpArgs false
def boundstoneref02_gaps.f (a0_0 : Int) (a0_1 : Int) (a1_0 : Int) (a1_1 : Int) : Option (Int × Int) := some (mx 0 (mx (wrap64 (a1_0 - a0_1)) (wrap64 (a0_0 - a1_1))), mx (wrap64 (a1_1 - a0_0)) (wrap64 (a0_1 - a1_0)))
set_option maxHeartbeats 8000000 in
set_option maxRecDepth 100000 in
theorem boundstoneref02_gaps.calls (a0_0 : Int) (a0_1 : Int) (a1_0 : Int) (a1_1 : Int) (r1 : Int) (r2 : Int) (w : World) (h : boundstoneref02_gaps.f a0_0 a0_1 a1_0 a1_1 = some (r1, r2)) :
  Calls Try.prog 117 #[.agg #[.int .i64 a0_0, .int .i64 a0_1], .agg #[.int .i64 a1_0, .int .i64 a1_1]] w fun e w' => e = .returned (.agg #[.int .i64 r1, .int .i64 r2]) ∧ Below w.heap.size w w' := by
 have hu50 := Try.underlying50
 have HB := Aside0.mk (Below.refl w.heap.size w)
 have H : (some (mx 0 (mx (wrap64 (a1_0 - a0_1)) (wrap64 (a0_0 - a1_1))), mx (wrap64 (a1_1 - a0_0)) (wrap64 (a0_1 - a1_0)))) = some (r1, r2) := h
 clear h
 obtain ⟨ji3, hji3⟩ : ∃ j_ : Int, (mx (wrap64 (a1_0 - a0_1)) (wrap64 (a0_0 - a1_1))) = j_ := ⟨_, rfl⟩
 replace H : (some (mx 0 (ji3), mx (wrap64 (a1_1 - a0_0)) (wrap64 (a0_1 - a1_0)))) = some (r1, r2) := by first | (rw [hji3] at H; exact H) | (simp only [hji3] at H ⊢; exact H)
 have hji3_ : (if (wrap64 (a1_0 - a0_1)) < (wrap64 (a0_0 - a1_1)) then (wrap64 (a0_0 - a1_1)) else (wrap64 (a1_0 - a0_1))) = ji3 := hji3
 obtain ⟨ji4, hji4⟩ : ∃ j_ : Int, (mx 0 (ji3)) = j_ := ⟨_, rfl⟩
 replace H : (some (ji4, mx (wrap64 (a1_1 - a0_0)) (wrap64 (a0_1 - a1_0)))) = some (r1, r2) := by first | (rw [hji4] at H; exact H) | (simp only [hji4] at H ⊢; exact H)
 have hji4_ : (if 0 < (ji3) then (ji3) else 0) = ji4 := hji4
 obtain ⟨ji5, hji5⟩ : ∃ j_ : Int, (mx (wrap64 (a1_1 - a0_0)) (wrap64 (a0_1 - a1_0))) = j_ := ⟨_, rfl⟩
 replace H : (some (ji4, ji5)) = some (r1, r2) := by first | (rw [hji5] at H; exact H) | (simp only [hji5] at H ⊢; exact H)
 have hji5_ : (if (wrap64 (a1_1 - a0_0)) < (wrap64 (a0_1 - a1_0)) then (wrap64 (a0_1 - a1_0)) else (wrap64 (a1_1 - a0_0))) = ji5 := hji5
 simp only [Option.some.injEq, Prod.mk.injEq] at H
 obtain ⟨rfl, rfl⟩ := H
 go_enter Try.func117, Try.ntmps117
 go_wp2_with (first | ((with_reducible refine gate_dst (N := 2) rfl ?_); refine box_event ?hg (N := 2) ?hd (cs := #[.int .i64 a0_0, .int .i64 a0_1]) (t := 50) ?hr ?_; (case hd => rfl); (case hg => rfl); (case hr => first | (go_simp; done) | (go_simp; rfl)); intro gb819 hg w6 hbox hb; have BK819 := Aside0.mk (hbox); have GW819 := geBA HB hg; have GE819 := geBA HB hg; replace HB := Aside0.mk (below_step (hk HB) hb); clear hb hbox hg) | ((with_reducible refine gate_dst (N := 3) rfl ?_); refine box_event ?hg (N := 3) ?hd (cs := #[.int .i64 a1_0, .int .i64 a1_1]) (t := 50) ?hr ?_; (case hd => rfl); (case hg => rfl); (case hr => first | (go_simp; done) | (go_simp; rfl)); intro gb820 hg w7 hbox hb; have BK820 := Aside0.mk (hbox); have GW820 := Aside0.mk ((by rw [hg]; exact (below_size (by repeat (first | (with_reducible first | exact HB.out | apply below_alloc | apply pw_below_drewN | apply below_drew1 | refine below_set ?_ GE819.out) | exact HB.out))) : w.heap.size ≤ gb820)); have GE820 := Aside0.mk ((by rw [hg]; exact (below_size (by repeat (first | (with_reducible first | exact HB.out | apply below_alloc | apply pw_below_drewN | apply below_drew1 | refine below_set ?_ GE819.out) | exact HB.out))) : w.heap.size ≤ gb820)); have NB819_820 := neLA BK819 hg; have NB820_819 := neGA BK819 hg; replace BK819 := bkC BK819 hb; replace HB := Aside0.mk (below_step (by repeat (first | (with_reducible first | exact HB.out | apply below_alloc | apply pw_below_drewN | apply below_drew1 | refine below_set ?_ GE819.out) | exact HB.out)) hb); clear hb hbox hg) | ((with_reducible refine gate_dst (N := 4) rfl ?_); refine box_event ?hg (N := 4) ?hd (cs := #[.int .i64 0, .int .i64 0]) (t := 50) ?hr ?_; (case hd => rfl); (case hg => rfl); (case hr => first | (go_simp; done) | (go_simp; rfl)); intro gb821 hg w8 hbox hb; have BK821 := Aside0.mk (hbox); have GW821 := Aside0.mk ((by rw [hg]; exact (below_size (by repeat (first | (with_reducible first | exact HB.out | apply below_alloc | apply pw_below_drewN | apply below_drew1 | refine below_set ?_ GE819.out | refine below_set ?_ GE820.out) | exact HB.out))) : w.heap.size ≤ gb821)); have GE821 := Aside0.mk ((by rw [hg]; exact (below_size (by repeat (first | (with_reducible first | exact HB.out | apply below_alloc | apply pw_below_drewN | apply below_drew1 | refine below_set ?_ GE819.out | refine below_set ?_ GE820.out) | exact HB.out))) : w.heap.size ≤ gb821)); have NB819_821 := neLA BK819 hg; have NB821_819 := neGA BK819 hg; have NB820_821 := neLA BK820 hg; have NB821_820 := neGA BK820 hg; replace BK819 := bkC BK819 hb; replace BK820 := bkC BK820 hb; replace HB := Aside0.mk (below_step (by repeat (first | (with_reducible first | exact HB.out | apply below_alloc | apply pw_below_drewN | apply below_drew1 | refine below_set ?_ GE819.out | refine below_set ?_ GE820.out) | exact HB.out)) hb); clear hb hbox hg; have hnb9 := NB820_819.out; have hnc9 := NB819_820.out; have hnb10 := NB820_821.out; have hnc10 := NB821_820.out; have hcz11_0 : w8.cell? ⟨gb820, 0, none⟩ = some (.int .i64 a1_0) := (blk_cell BK820.out 0).trans rfl; have hcz11_1 : w8.cell? ⟨gb820, 1, none⟩ = some (.int .i64 a1_1) := (blk_cell BK820.out 1).trans rfl; have hfz11_0 := blk_frozen BK820.out 0; have hfz11_1 := blk_frozen BK820.out 1; have hnb12 := NB819_821.out; have hnc12 := NB821_819.out; have hcz13_0 : w8.cell? ⟨gb819, 0, none⟩ = some (.int .i64 a0_0) := (blk_cell BK819.out 0).trans rfl; have hcz13_1 : w8.cell? ⟨gb819, 1, none⟩ = some (.int .i64 a0_1) := (blk_cell BK819.out 1).trans rfl; have hfz13_0 := blk_frozen BK819.out 0; have hfz13_1 := blk_frozen BK819.out 1; have hcz14_0 : w8.cell? ⟨gb821, 0, none⟩ = some (.int .i64 0) := (blk_cell BK821.out 0).trans rfl; have hcz14_1 : w8.cell? ⟨gb821, 1, none⟩ = some (.int .i64 0) := (blk_cell BK821.out 1).trans rfl; have hfz14_0 := blk_frozen BK821.out 0; have hfz14_1 := blk_frozen BK821.out 1))
 refine bodyPost_ret (results_cell_row rfl _ _ gb821 50 #[.int .i64 ji4, .int .i64 ji5] (0, 0) _ rfl (by (with_reducible repeat (first | refine blk_drewN ?_ _ | refine blk_drew ?_ | refine blk_alloc ?_ _)); refine blk_put (cs := #[.int .i64 ji4, .int .i64 0]) ?_ 1 _ rfl; (with_reducible repeat (first | refine blk_drewN ?_ _ | refine blk_drew ?_ | refine blk_alloc ?_ _)); refine blk_put (cs := #[.int .i64 0, .int .i64 0]) ?_ 0 _ rfl; (with_reducible repeat (first | refine blk_drewN ?_ _ | refine blk_drew ?_ | refine blk_alloc ?_ _)); exact BK821.out) Try.underlying50 rfl (by kernel_rfl)) rfl ?_
 exact ⟨by first | rfl | (simp [errW_none, errW_some] <;> rfl) | (simp only [← hji3, ← hji4, ← hji5]; first | rfl | (simp [errW_none, errW_some] <;> rfl)) | (simp [*, errW_none, errW_some] <;> rfl), by repeat (first | (with_reducible first | exact HB.out | apply below_alloc | apply pw_below_drewN | apply below_drew1 | refine below_set ?_ GE819.out | refine below_set ?_ GE820.out | refine below_set ?_ GE821.out) | exact HB.out)⟩
end Go.Proofs.Ytckaejgamfllfaa.G
end

section
namespace Go.Proofs.Ytckaejgamfllfaa.G
open Go.RowKit Go.Proofs.YtckaejgamfllfaaW.PrintWords Go.Proofs.YtckaejgamfllfaaW.PrintLast Go.Proofs.YtckaejgamfllfaaW.PrintMore
attribute [local go_sem] max2_int min2_int max_two min_two max_three min_three max_four min_four
set_option linter.unusedVariables false
set_option linter.unusedSimpArgs false
def boundstoneref02_Dists.j0 : Nat → Bool → Int → Int → Int → Int → Int → Int → Int → Int → Option (Int × Int × Bool)
 | 0, _, _, _, _, _, _, _, _, _ => none
 | k + 1, x19, x823000, x823001, x823002, x823003, x824000, x824001, x824002, x824003 => if x19 = true then (some (0, 0, false)) else ((boundstoneref02_gaps.f x823000 x823001 x824000 x824001).bind fun bt827 => ((boundstoneref02_gaps.f x823002 x823003 x824002 x824003).bind fun bt830 => (some (wrap64 ((wrap64 (bt827.1 * bt827.1)) + (wrap64 (bt830.1 * bt830.1))), wrap64 ((wrap64 (bt827.2 * bt827.2)) + (wrap64 (bt830.2 * bt830.2))), true))))
def boundstoneref02_Dists.f (k : Nat) (a0_0 : Int) (a0_1 : Int) (a0_2 : Int) (a0_3 : Int) (a1_0 : Int) (a1_1 : Int) (a1_2 : Int) (a1_3 : Int) : Option (Int × Int × Bool) := (boundstoneref02_Proper.f a0_0 a0_1 a0_2 a0_3).bind fun t825 => ((boundstoneref02_Proper.f a1_0 a1_1 a1_2 a1_3).bind fun t826 => (if t825 = true then (boundstoneref02_Dists.j0 k (!t826) a0_0 a0_1 a0_2 a0_3 a1_0 a1_1 a1_2 a1_3) else (boundstoneref02_Dists.j0 k true a0_0 a0_1 a0_2 a0_3 a1_0 a1_1 a1_2 a1_3)))
set_option maxHeartbeats 8000000 in
set_option maxRecDepth 100000 in
theorem boundstoneref02_Dists.calls (k : Nat) (a0_0 : Int) (a0_1 : Int) (a0_2 : Int) (a0_3 : Int) (a1_0 : Int) (a1_1 : Int) (a1_2 : Int) (a1_3 : Int) (r1 : Int) (r2 : Int) (r3 : Bool) (w : World) (h : boundstoneref02_Dists.f k a0_0 a0_1 a0_2 a0_3 a1_0 a1_1 a1_2 a1_3 = some (r1, r2, r3)) :
  Calls Try.prog 53 #[.agg #[.int .i64 a0_0, .int .i64 a0_1, .int .i64 a0_2, .int .i64 a0_3], .agg #[.int .i64 a1_0, .int .i64 a1_1, .int .i64 a1_2, .int .i64 a1_3]] w fun e w' => e = .returned (.tuple #[.agg #[.int .i64 r1, .int .i64 r2], .bool r3]) ∧ Below w.heap.size w w' := by
 have hu52 := Try.underlying52
 have hu50 := Try.underlying50
 have HB := Aside0.mk (Below.refl w.heap.size w)
 have H : ((boundstoneref02_Proper.f a0_0 a0_1 a0_2 a0_3).bind fun t825 => ((boundstoneref02_Proper.f a1_0 a1_1 a1_2 a1_3).bind fun t826 => (if t825 = true then (boundstoneref02_Dists.j0 k (!t826) a0_0 a0_1 a0_2 a0_3 a1_0 a1_1 a1_2 a1_3) else (boundstoneref02_Dists.j0 k true a0_0 a0_1 a0_2 a0_3 a1_0 a1_1 a1_2 a1_3)))) = some (r1, r2, r3) := h
 clear h
 replace H := Option.bind_eq_some_iff.mp H
 obtain ⟨t825, A30, H⟩ := H
 replace H : ((boundstoneref02_Proper.f a1_0 a1_1 a1_2 a1_3).bind fun t826 => (if t825 = true then (boundstoneref02_Dists.j0 k (!t826) a0_0 a0_1 a0_2 a0_3 a1_0 a1_1 a1_2 a1_3) else (boundstoneref02_Dists.j0 k true a0_0 a0_1 a0_2 a0_3 a1_0 a1_1 a1_2 a1_3))) = some (r1, r2, r3) := H
 have A3 := Aside0.mk A30
 clear A30
 replace H := Option.bind_eq_some_iff.mp H
 obtain ⟨t826, A40, H⟩ := H
 replace H : (if t825 = true then (boundstoneref02_Dists.j0 k (!t826) a0_0 a0_1 a0_2 a0_3 a1_0 a1_1 a1_2 a1_3) else (boundstoneref02_Dists.j0 k true a0_0 a0_1 a0_2 a0_3 a1_0 a1_1 a1_2 a1_3)) = some (r1, r2, r3) := H
 have A4 := Aside0.mk A40
 clear A40
 have HC5 := Aside0.mk H
 clear H
 go_enter Try.func53, Try.ntmps53
 go_upto_region 3 with (first | ((with_reducible refine gate_dst (N := 2) rfl ?_); refine box_event ?hg (N := 2) ?hd (cs := #[.int .i64 a0_0, .int .i64 a0_1, .int .i64 a0_2, .int .i64 a0_3]) (t := 52) ?hr ?_; (case hd => rfl); (case hg => rfl); (case hr => first | (go_simp; done) | (go_simp; rfl)); intro gb822 hg w6 hbox hb; have BK822 := Aside0.mk (hbox); have GW822 := geBA HB hg; have GE822 := geBA HB hg; replace HB := Aside0.mk (below_step (hk HB) hb); clear hb hbox hg) | ((with_reducible refine gate_dst (N := 3) rfl ?_); refine box_event ?hg (N := 3) ?hd (cs := #[.int .i64 a1_0, .int .i64 a1_1, .int .i64 a1_2, .int .i64 a1_3]) (t := 52) ?hr ?_; (case hd => rfl); (case hg => rfl); (case hr => first | (go_simp; done) | (go_simp; rfl)); intro gb823 hg w7 hbox hb; have BK823 := Aside0.mk (hbox); have GW823 := Aside0.mk ((by rw [hg]; exact (below_size (by repeat (first | (with_reducible first | exact HB.out | apply below_alloc | apply pw_below_drewN | apply below_drew1 | refine below_set ?_ GE822.out) | exact HB.out))) : w.heap.size ≤ gb823)); have GE823 := Aside0.mk ((by rw [hg]; exact (below_size (by repeat (first | (with_reducible first | exact HB.out | apply below_alloc | apply pw_below_drewN | apply below_drew1 | refine below_set ?_ GE822.out) | exact HB.out))) : w.heap.size ≤ gb823)); have NB822_823 := neLA BK822 hg; have NB823_822 := neGA BK822 hg; replace BK822 := bkC BK822 hb; replace HB := Aside0.mk (below_step (by repeat (first | (with_reducible first | exact HB.out | apply below_alloc | apply pw_below_drewN | apply below_drew1 | refine below_set ?_ GE822.out) | exact HB.out)) hb); clear hb hbox hg) | ((with_reducible refine gate_dst (N := 4) rfl ?_); refine box_event ?hg (N := 4) ?hd (cs := #[.int .i64 0, .int .i64 0]) (t := 50) ?hr ?_; (case hd => rfl); (case hg => rfl); (case hr => first | (go_simp; done) | (go_simp; rfl)); intro gb824 hg w8 hbox hb; have BK824 := Aside0.mk (hbox); have GW824 := Aside0.mk ((by rw [hg]; exact (below_size (by repeat (first | (with_reducible first | exact HB.out | apply below_alloc | apply pw_below_drewN | apply below_drew1 | refine below_set ?_ GE822.out | refine below_set ?_ GE823.out) | exact HB.out))) : w.heap.size ≤ gb824)); have GE824 := Aside0.mk ((by rw [hg]; exact (below_size (by repeat (first | (with_reducible first | exact HB.out | apply below_alloc | apply pw_below_drewN | apply below_drew1 | refine below_set ?_ GE822.out | refine below_set ?_ GE823.out) | exact HB.out))) : w.heap.size ≤ gb824)); have NB822_824 := neLA BK822 hg; have NB824_822 := neGA BK822 hg; have NB823_824 := neLA BK823 hg; have NB824_823 := neGA BK823 hg; replace BK822 := bkC BK822 hb; replace BK823 := bkC BK823 hb; replace HB := Aside0.mk (below_step (by repeat (first | (with_reducible first | exact HB.out | apply below_alloc | apply pw_below_drewN | apply below_drew1 | refine below_set ?_ GE822.out | refine below_set ?_ GE823.out) | exact HB.out)) hb); clear hb hbox hg; have hnb9 := NB822_823.out; have hnc9 := NB823_822.out; have hnb10 := NB822_824.out; have hnc10 := NB824_822.out; have hcz11_0 : w8.cell? ⟨gb822, 0, none⟩ = some (.int .i64 a0_0) := (blk_cell BK822.out 0).trans rfl; have hcz11_1 : w8.cell? ⟨gb822, 1, none⟩ = some (.int .i64 a0_1) := (blk_cell BK822.out 1).trans rfl; have hcz11_2 : w8.cell? ⟨gb822, 2, none⟩ = some (.int .i64 a0_2) := (blk_cell BK822.out 2).trans rfl; have hcz11_3 : w8.cell? ⟨gb822, 3, none⟩ = some (.int .i64 a0_3) := (blk_cell BK822.out 3).trans rfl; have hfz11_0 := blk_frozen BK822.out 0; have hfz11_1 := blk_frozen BK822.out 1; have hfz11_2 := blk_frozen BK822.out 2; have hfz11_3 := blk_frozen BK822.out 3) | ((with_reducible refine gate_callee (f := 65) rfl ?_); refine goesL_ (some 11) rfl rfl Try.func65 (by kernel_rfl) rfl #[.agg #[.int .i64 a0_0, .int .i64 a0_1, .int .i64 a0_2, .int .i64 a0_3]] rfl (by (try simp only [List.map_toArray, List.map_cons, List.map_nil]); first | done | rfl | (simp only [List.length_drop, List.length_take]; rfl)) ?_; (with_reducible refine (boundstoneref02_Proper.calls a0_0 a0_1 a0_2 a0_3 t825 _ A3.out).mono ?_); rintro e w12 ⟨rfl, hb⟩; refine ⟨_, rfl, ?_⟩; replace BK822 := bkC BK822 hb; replace BK823 := bkC BK823 hb; replace BK824 := bkC BK824 hb; replace HB := Aside0.mk (below_step (by repeat (first | (with_reducible first | exact HB.out | apply below_alloc | apply pw_below_drewN | apply below_drew1 | refine below_set ?_ GE822.out | refine below_set ?_ GE823.out | refine below_set ?_ GE824.out) | exact HB.out)) hb); (try clear hb); (try clear hb2); (try clear hk); (try clear hi); have hnb13 := NB823_824.out; have hnc13 := NB824_823.out; have hcz14_0 : w12.cell? ⟨gb823, 0, none⟩ = some (.int .i64 a1_0) := (blk_cell BK823.out 0).trans rfl; have hcz14_1 : w12.cell? ⟨gb823, 1, none⟩ = some (.int .i64 a1_1) := (blk_cell BK823.out 1).trans rfl; have hcz14_2 : w12.cell? ⟨gb823, 2, none⟩ = some (.int .i64 a1_2) := (blk_cell BK823.out 2).trans rfl; have hcz14_3 : w12.cell? ⟨gb823, 3, none⟩ = some (.int .i64 a1_3) := (blk_cell BK823.out 3).trans rfl; have hfz14_0 := blk_frozen BK823.out 0; have hfz14_1 := blk_frozen BK823.out 1; have hfz14_2 := blk_frozen BK823.out 2; have hfz14_3 := blk_frozen BK823.out 3) | ((with_reducible refine gate_callee (f := 65) rfl ?_); refine goesL_ (some 13) rfl rfl Try.func65 (by kernel_rfl) rfl #[.agg #[.int .i64 a1_0, .int .i64 a1_1, .int .i64 a1_2, .int .i64 a1_3]] rfl (by (try simp only [List.map_toArray, List.map_cons, List.map_nil]); first | done | rfl | (simp only [List.length_drop, List.length_take]; rfl)) ?_; (with_reducible refine (boundstoneref02_Proper.calls a1_0 a1_1 a1_2 a1_3 t826 _ A4.out).mono ?_); rintro e w15 ⟨rfl, hb⟩; refine ⟨_, rfl, ?_⟩; replace BK822 := bkC BK822 hb; replace BK823 := bkC BK823 hb; replace BK824 := bkC BK824 hb; replace HB := Aside0.mk (below_step (by repeat (first | (with_reducible first | exact HB.out | apply below_alloc | apply pw_below_drewN | apply below_drew1 | refine below_set ?_ GE822.out | refine below_set ?_ GE823.out | refine below_set ?_ GE824.out) | exact HB.out)) hb); (try clear hb); (try clear hb2); (try clear hk); (try clear hi)))
 (try simp only [Act.put, List.setIfInBounds_toArray, List.set_cons_zero, List.set_cons_succ])
 go_cut [19] (fun v19 wc => ∃ (kq : Nat) (x19_4 : Bool), v19 = .bool x19_4 ∧ Aside0 (boundstoneref02_Dists.j0 kq x19_4 a0_0 a0_1 a0_2 a0_3 a1_0 a1_1 a1_2 a1_3 = some (r1, r2, r3)) ∧ Aside0 (kq ≤ k) ∧ Aside0 (wc.heap[gb822]? = some (.cells #[.int .i64 a0_0, .int .i64 a0_1, .int .i64 a0_2, .int .i64 a0_3] 52 (0, 0))) ∧ Aside0 (wc.heap[gb823]? = some (.cells #[.int .i64 a1_0, .int .i64 a1_1, .int .i64 a1_2, .int .i64 a1_3] 52 (0, 0))) ∧ Aside0 (wc.heap[gb824]? = some (.cells #[.int .i64 0, .int .i64 0] 50 (0, 0))) ∧ Aside0 (Below w.heap.size w wc))
 case first =>
  have H := HC5.out
  clear HC5
  by_cases c16 : t825 = true
  ·subst c16
   have H1 : (boundstoneref02_Dists.j0 k (!t826) a0_0 a0_1 a0_2 a0_3 a1_0 a1_1 a1_2 a1_3) = some (r1, r2, r3) := by rw [if_pos rfl] at H; exact H
   clear H
   have H := H1
   clear H1
   have H' := Aside0.mk H
   clear H
   go_wp2
   go_meet
   case rel => exact ⟨_, (!t826), (by first | rfl | (simp; done) | (simp [*]; done)), H', ⟨by first | omega | exact Nat.le_refl _⟩, ⟨bk BK822⟩, ⟨bk BK823⟩, ⟨bk BK824⟩, ⟨by repeat (first | (with_reducible first | exact HB.out | apply below_alloc | apply pw_below_drewN | apply below_drew1 | refine below_set ?_ GE822.out | refine below_set ?_ GE823.out | refine below_set ?_ GE824.out) | exact HB.out)⟩⟩
  ·replace c16 := Bool.eq_false_iff.mpr c16
   subst c16
   have H1 : (boundstoneref02_Dists.j0 k true a0_0 a0_1 a0_2 a0_3 a1_0 a1_1 a1_2 a1_3) = some (r1, r2, r3) := by rw [if_neg (show ¬ (false = true) by decide)] at H; exact H
   clear H
   have H := H1
   clear H1
   have H' := Aside0.mk H
   clear H
   go_wp2
   go_meet
   case rel => exact ⟨_, (true), (by first | rfl | (simp; done) | (simp [*]; done)), H', ⟨by first | omega | exact Nat.le_refl _⟩, ⟨bk BK822⟩, ⟨bk BK823⟩, ⟨bk BK824⟩, ⟨by repeat (first | (with_reducible first | exact HB.out | apply below_alloc | apply pw_below_drewN | apply below_drew1 | refine below_set ?_ GE822.out | refine below_set ?_ GE823.out | refine below_set ?_ GE824.out) | exact HB.out)⟩⟩
 case rest =>
  clear HC5
  try clear c1
  try clear p2
  try clear c5
  try clear c6
  try clear c9
  try clear c10
  try clear c13
  try clear c16
  try clear hcz11_0
  try clear hcz11_1
  try clear hcz11_2
  try clear hcz11_3
  try clear hcz14_0
  try clear hcz14_1
  try clear hcz14_2
  try clear hcz14_3
  try clear hfz11_0
  try clear hfz11_1
  try clear hfz11_2
  try clear hfz11_3
  try clear hfz14_0
  try clear hfz14_1
  try clear hfz14_2
  try clear hfz14_3
  obtain ⟨kq, x19_4, rfl, HA, HJ4, BK822, BK823, BK824, HB⟩ := hcut
  cases kq with
  | zero => exact absurd HA.out (by simp [boundstoneref02_Dists.j0])
  | succ kj4 =>
   have H := HA.out
   clear HA
   simp only [boundstoneref02_Dists.j0] at H
   by_cases c17 : x19_4 = true
   ·subst c17
    have H1 : (some (0, 0, false)) = some (r1, r2, r3) := by rw [if_pos rfl] at H; exact H
    clear H
    have H := H1
    clear H1
    simp only [Option.some.injEq, Prod.mk.injEq] at H
    obtain ⟨rfl, rfl, rfl⟩ := H
    have hnb18 := NB824_822.out
    have hnc18 := NB822_824.out
    have hnb19 := NB824_823.out
    have hnc19 := NB823_824.out
    have hcz20_0 : wc.cell? ⟨gb824, 0, none⟩ = some (.int .i64 0) := (blk_cell BK824.out 0).trans rfl
    have hcz20_1 : wc.cell? ⟨gb824, 1, none⟩ = some (.int .i64 0) := (blk_cell BK824.out 1).trans rfl
    have hfz20_0 := blk_frozen BK824.out 0
    have hfz20_1 := blk_frozen BK824.out 1
    go_wp2
    refine bodyPost_ret (results_ct rfl _ _ gb824 50 #[.int .i64 0, .int .i64 0] (0, 0) _ rfl (by (with_reducible repeat (first | refine blk_drewN ?_ _ | refine blk_drew ?_ | refine blk_alloc ?_ _)); refine blk_put (cs := #[.int .i64 0, .int .i64 0]) ?_ 1 _ rfl; (with_reducible repeat (first | refine blk_drewN ?_ _ | refine blk_drew ?_ | refine blk_alloc ?_ _)); refine blk_put (cs := #[.int .i64 0, .int .i64 0]) ?_ 0 _ rfl; (with_reducible repeat (first | refine blk_drewN ?_ _ | refine blk_drew ?_ | refine blk_alloc ?_ _)); exact BK824.out) Try.underlying50 rfl (by kernel_rfl)) rfl ?_
    exact ⟨by first | rfl | (simp [errW_none, errW_some] <;> rfl) | (simp [*, errW_none, errW_some] <;> rfl), by repeat (first | (with_reducible first | exact HB.out | apply below_alloc | apply pw_below_drewN | apply below_drew1 | refine below_set ?_ GE822.out | refine below_set ?_ GE823.out | refine below_set ?_ GE824.out) | exact HB.out)⟩
   ·replace c17 := Bool.eq_false_iff.mpr c17
    subst c17
    have H1 : ((boundstoneref02_gaps.f a0_0 a0_1 a1_0 a1_1).bind fun bt827 => ((boundstoneref02_gaps.f a0_2 a0_3 a1_2 a1_3).bind fun bt830 => (some (wrap64 ((wrap64 (bt827.1 * bt827.1)) + (wrap64 (bt830.1 * bt830.1))), wrap64 ((wrap64 (bt827.2 * bt827.2)) + (wrap64 (bt830.2 * bt830.2))), true)))) = some (r1, r2, r3) := by rw [if_neg (show ¬ (false = true) by decide)] at H; exact H
    clear H
    have H := H1
    clear H1
    replace H := Option.bind_eq_some_iff.mp H
    obtain ⟨⟨t827, t828⟩, A210, H⟩ := H
    replace H : ((boundstoneref02_gaps.f a0_2 a0_3 a1_2 a1_3).bind fun bt830 => (some (wrap64 ((wrap64 (t827 * t827)) + (wrap64 (bt830.1 * bt830.1))), wrap64 ((wrap64 (t828 * t828)) + (wrap64 (bt830.2 * bt830.2))), true))) = some (r1, r2, r3) := H
    have A21 := Aside0.mk A210
    clear A210
    replace H := Option.bind_eq_some_iff.mp H
    obtain ⟨⟨t830, t831⟩, A220, H⟩ := H
    replace H : (some (wrap64 ((wrap64 (t827 * t827)) + (wrap64 (t830 * t830))), wrap64 ((wrap64 (t828 * t828)) + (wrap64 (t831 * t831))), true)) = some (r1, r2, r3) := H
    have A22 := Aside0.mk A220
    clear A220
    simp only [Option.some.injEq, Prod.mk.injEq] at H
    obtain ⟨rfl, rfl, rfl⟩ := H
    have hnb23 := NB822_823.out
    have hnc23 := NB823_822.out
    have hnb24 := NB822_824.out
    have hnc24 := NB824_822.out
    have hcz25_0 : wc.cell? ⟨gb822, 0, none⟩ = some (.int .i64 a0_0) := (blk_cell BK822.out 0).trans rfl
    have hcz25_1 : wc.cell? ⟨gb822, 1, none⟩ = some (.int .i64 a0_1) := (blk_cell BK822.out 1).trans rfl
    have hcz25_2 : wc.cell? ⟨gb822, 2, none⟩ = some (.int .i64 a0_2) := (blk_cell BK822.out 2).trans rfl
    have hcz25_3 : wc.cell? ⟨gb822, 3, none⟩ = some (.int .i64 a0_3) := (blk_cell BK822.out 3).trans rfl
    have hfz25_0 := blk_frozen BK822.out 0
    have hfz25_1 := blk_frozen BK822.out 1
    have hfz25_2 := blk_frozen BK822.out 2
    have hfz25_3 := blk_frozen BK822.out 3
    have hnb26 := NB823_824.out
    have hnc26 := NB824_823.out
    have hcz27_0 : wc.cell? ⟨gb823, 0, none⟩ = some (.int .i64 a1_0) := (blk_cell BK823.out 0).trans rfl
    have hcz27_1 : wc.cell? ⟨gb823, 1, none⟩ = some (.int .i64 a1_1) := (blk_cell BK823.out 1).trans rfl
    have hcz27_2 : wc.cell? ⟨gb823, 2, none⟩ = some (.int .i64 a1_2) := (blk_cell BK823.out 2).trans rfl
    have hcz27_3 : wc.cell? ⟨gb823, 3, none⟩ = some (.int .i64 a1_3) := (blk_cell BK823.out 3).trans rfl
    have hfz27_0 := blk_frozen BK823.out 0
    have hfz27_1 := blk_frozen BK823.out 1
    have hfz27_2 := blk_frozen BK823.out 2
    have hfz27_3 := blk_frozen BK823.out 3
    go_wp2_with (first | ((with_reducible refine gate_callee (f := 117) rfl ?_); refine goesL_ (some 25) rfl rfl Try.func117 (by kernel_rfl) rfl #[.agg #[.int .i64 a0_0, .int .i64 a0_1], .agg #[.int .i64 a1_0, .int .i64 a1_1]] rfl (by (try simp only [List.map_toArray, List.map_cons, List.map_nil]); first | done | rfl | (simp only [List.length_drop, List.length_take]; rfl)) ?_; (with_reducible refine (boundstoneref02_gaps.calls a0_0 a0_1 a1_0 a1_1 t827 t828 _ A21.out).mono ?_); rintro e w28 ⟨rfl, hb⟩; refine ⟨_, rfl, ?_⟩; replace BK822 := bkC BK822 hb; replace BK823 := bkC BK823 hb; replace BK824 := bkC BK824 hb; replace HB := Aside0.mk (below_step (by repeat (first | (with_reducible first | exact HB.out | apply below_alloc | apply pw_below_drewN | apply below_drew1 | refine below_set ?_ GE822.out | refine below_set ?_ GE823.out | refine below_set ?_ GE824.out) | exact HB.out)) hb); (try clear hb); (try clear hb2); (try clear hk); (try clear hi)) | ((with_reducible refine gate_dst (N := 8) rfl ?_); refine box_event ?hg (N := 8) ?hd (cs := #[.int .i64 0, .int .i64 0]) (t := 50) ?hr ?_; (case hd => rfl); (case hg => rfl); (case hr => first | (go_simp; done) | (go_simp; rfl)); intro gb829 hg w29 hbox hb; have BK829 := Aside0.mk (hbox); have GW829 := Aside0.mk ((by rw [hg]; exact (below_size (by repeat (first | (with_reducible first | exact HB.out | apply below_alloc | apply pw_below_drewN | apply below_drew1 | refine below_set ?_ GE822.out | refine below_set ?_ GE823.out | refine below_set ?_ GE824.out) | exact HB.out))) : w.heap.size ≤ gb829)); have GE829 := Aside0.mk ((by rw [hg]; exact (below_size (by repeat (first | (with_reducible first | exact HB.out | apply below_alloc | apply pw_below_drewN | apply below_drew1 | refine below_set ?_ GE822.out | refine below_set ?_ GE823.out | refine below_set ?_ GE824.out) | exact HB.out))) : w.heap.size ≤ gb829)); have NB822_829 := neLA BK822 hg; have NB829_822 := neGA BK822 hg; have NB823_829 := neLA BK823 hg; have NB829_823 := neGA BK823 hg; have NB824_829 := neLA BK824 hg; have NB829_824 := neGA BK824 hg; replace BK822 := bkC BK822 hb; replace BK823 := bkC BK823 hb; replace BK824 := bkC BK824 hb; replace HB := Aside0.mk (below_step (by repeat (first | (with_reducible first | exact HB.out | apply below_alloc | apply pw_below_drewN | apply below_drew1 | refine below_set ?_ GE822.out | refine below_set ?_ GE823.out | refine below_set ?_ GE824.out) | exact HB.out)) hb); clear hb hbox hg; have hnb30 := NB829_822.out; have hnc30 := NB822_829.out; have hnb31 := NB829_823.out; have hnc31 := NB823_829.out; have hnb32 := NB829_824.out; have hnc32 := NB824_829.out; have hcz33_0 : w29.cell? ⟨gb829, 0, none⟩ = some (.int .i64 0) := (blk_cell BK829.out 0).trans rfl; have hcz33_1 : w29.cell? ⟨gb829, 1, none⟩ = some (.int .i64 0) := (blk_cell BK829.out 1).trans rfl; have hfz33_0 := blk_frozen BK829.out 0; have hfz33_1 := blk_frozen BK829.out 1; have hcz34_0 : w29.cell? ⟨gb822, 0, none⟩ = some (.int .i64 a0_0) := (blk_cell BK822.out 0).trans rfl; have hcz34_1 : w29.cell? ⟨gb822, 1, none⟩ = some (.int .i64 a0_1) := (blk_cell BK822.out 1).trans rfl; have hcz34_2 : w29.cell? ⟨gb822, 2, none⟩ = some (.int .i64 a0_2) := (blk_cell BK822.out 2).trans rfl; have hcz34_3 : w29.cell? ⟨gb822, 3, none⟩ = some (.int .i64 a0_3) := (blk_cell BK822.out 3).trans rfl; have hfz34_0 := blk_frozen BK822.out 0; have hfz34_1 := blk_frozen BK822.out 1; have hfz34_2 := blk_frozen BK822.out 2; have hfz34_3 := blk_frozen BK822.out 3; have hcz35_0 : w29.cell? ⟨gb823, 0, none⟩ = some (.int .i64 a1_0) := (blk_cell BK823.out 0).trans rfl; have hcz35_1 : w29.cell? ⟨gb823, 1, none⟩ = some (.int .i64 a1_1) := (blk_cell BK823.out 1).trans rfl; have hcz35_2 : w29.cell? ⟨gb823, 2, none⟩ = some (.int .i64 a1_2) := (blk_cell BK823.out 2).trans rfl; have hcz35_3 : w29.cell? ⟨gb823, 3, none⟩ = some (.int .i64 a1_3) := (blk_cell BK823.out 3).trans rfl; have hfz35_0 := blk_frozen BK823.out 0; have hfz35_1 := blk_frozen BK823.out 1; have hfz35_2 := blk_frozen BK823.out 2; have hfz35_3 := blk_frozen BK823.out 3) | ((with_reducible refine gate_callee (f := 117) rfl ?_); refine goesL_ (some 30) rfl rfl Try.func117 (by kernel_rfl) rfl #[.agg #[.int .i64 a0_2, .int .i64 a0_3], .agg #[.int .i64 a1_2, .int .i64 a1_3]] rfl (by (try simp only [List.map_toArray, List.map_cons, List.map_nil]); first | done | rfl | (simp only [List.length_drop, List.length_take]; rfl)) ?_; (with_reducible refine (boundstoneref02_gaps.calls a0_2 a0_3 a1_2 a1_3 t830 t831 _ A22.out).mono ?_); rintro e w36 ⟨rfl, hb⟩; refine ⟨_, rfl, ?_⟩; replace BK822 := Aside0.mk (blk_below (g := gb822) (o := .cells #[.int .i64 a0_0, .int .i64 a0_1, .int .i64 a0_2, .int .i64 a0_3] 52 (0, 0)) (by (with_reducible repeat (first | refine blk_drewN ?_ _ | refine blk_drew ?_ | refine blk_alloc ?_ _)); refine blk_far ?_ NB822_829.out _; (with_reducible repeat (first | refine blk_drewN ?_ _ | refine blk_drew ?_ | refine blk_alloc ?_ _)); refine blk_far ?_ NB822_829.out _; (with_reducible repeat (first | refine blk_drewN ?_ _ | refine blk_drew ?_ | refine blk_alloc ?_ _)); exact BK822.out) hb); replace BK823 := Aside0.mk (blk_below (g := gb823) (o := .cells #[.int .i64 a1_0, .int .i64 a1_1, .int .i64 a1_2, .int .i64 a1_3] 52 (0, 0)) (by (with_reducible repeat (first | refine blk_drewN ?_ _ | refine blk_drew ?_ | refine blk_alloc ?_ _)); refine blk_far ?_ NB823_829.out _; (with_reducible repeat (first | refine blk_drewN ?_ _ | refine blk_drew ?_ | refine blk_alloc ?_ _)); refine blk_far ?_ NB823_829.out _; (with_reducible repeat (first | refine blk_drewN ?_ _ | refine blk_drew ?_ | refine blk_alloc ?_ _)); exact BK823.out) hb); replace BK824 := Aside0.mk (blk_below (g := gb824) (o := .cells #[.int .i64 0, .int .i64 0] 50 (0, 0)) (by (with_reducible repeat (first | refine blk_drewN ?_ _ | refine blk_drew ?_ | refine blk_alloc ?_ _)); refine blk_far ?_ NB824_829.out _; (with_reducible repeat (first | refine blk_drewN ?_ _ | refine blk_drew ?_ | refine blk_alloc ?_ _)); refine blk_far ?_ NB824_829.out _; (with_reducible repeat (first | refine blk_drewN ?_ _ | refine blk_drew ?_ | refine blk_alloc ?_ _)); exact BK824.out) hb); replace BK829 := Aside0.mk (blk_below (g := gb829) (o := .cells #[.int .i64 t827, .int .i64 t828] 50 (0, 0)) (by (with_reducible repeat (first | refine blk_drewN ?_ _ | refine blk_drew ?_ | refine blk_alloc ?_ _)); refine blk_put (cs := #[.int .i64 t827, .int .i64 0]) ?_ 1 _ rfl; (with_reducible repeat (first | refine blk_drewN ?_ _ | refine blk_drew ?_ | refine blk_alloc ?_ _)); refine blk_put (cs := #[.int .i64 0, .int .i64 0]) ?_ 0 _ rfl; (with_reducible repeat (first | refine blk_drewN ?_ _ | refine blk_drew ?_ | refine blk_alloc ?_ _)); exact BK829.out) hb); replace HB := Aside0.mk (below_step (by repeat (first | (with_reducible first | exact HB.out | apply below_alloc | apply pw_below_drewN | apply below_drew1 | refine below_set ?_ GE822.out | refine below_set ?_ GE823.out | refine below_set ?_ GE824.out | refine below_set ?_ GE829.out) | exact HB.out)) hb); (try clear hb); (try clear hb2); (try clear hk); (try clear hi)) | ((with_reducible refine gate_dst (N := 9) rfl ?_); refine box_event ?hg (N := 9) ?hd (cs := #[.int .i64 0, .int .i64 0]) (t := 50) ?hr ?_; (case hd => rfl); (case hg => rfl); (case hr => first | (go_simp; done) | (go_simp; rfl)); intro gb832 hg w37 hbox hb; have BK832 := Aside0.mk (hbox); have GW832 := Aside0.mk ((by rw [hg]; exact (below_size (by repeat (first | (with_reducible first | exact HB.out | apply below_alloc | apply pw_below_drewN | apply below_drew1 | refine below_set ?_ GE822.out | refine below_set ?_ GE823.out | refine below_set ?_ GE824.out | refine below_set ?_ GE829.out) | exact HB.out))) : w.heap.size ≤ gb832)); have GE832 := Aside0.mk ((by rw [hg]; exact (below_size (by repeat (first | (with_reducible first | exact HB.out | apply below_alloc | apply pw_below_drewN | apply below_drew1 | refine below_set ?_ GE822.out | refine below_set ?_ GE823.out | refine below_set ?_ GE824.out | refine below_set ?_ GE829.out) | exact HB.out))) : w.heap.size ≤ gb832)); have NB822_832 := neLA BK822 hg; have NB832_822 := neGA BK822 hg; have NB823_832 := neLA BK823 hg; have NB832_823 := neGA BK823 hg; have NB824_832 := neLA BK824 hg; have NB832_824 := neGA BK824 hg; have NB829_832 := neLA BK829 hg; have NB832_829 := neGA BK829 hg; replace BK822 := bkC BK822 hb; replace BK823 := bkC BK823 hb; replace BK824 := bkC BK824 hb; replace BK829 := bkC BK829 hb; replace HB := Aside0.mk (below_step (by repeat (first | (with_reducible first | exact HB.out | apply below_alloc | apply pw_below_drewN | apply below_drew1 | refine below_set ?_ GE822.out | refine below_set ?_ GE823.out | refine below_set ?_ GE824.out | refine below_set ?_ GE829.out) | exact HB.out)) hb); clear hb hbox hg; have hnb38 := NB832_822.out; have hnc38 := NB822_832.out; have hnb39 := NB832_823.out; have hnc39 := NB823_832.out; have hnb40 := NB832_824.out; have hnc40 := NB824_832.out; have hnb41 := NB832_829.out; have hnc41 := NB829_832.out; have hcz42_0 : w37.cell? ⟨gb832, 0, none⟩ = some (.int .i64 0) := (blk_cell BK832.out 0).trans rfl; have hcz42_1 : w37.cell? ⟨gb832, 1, none⟩ = some (.int .i64 0) := (blk_cell BK832.out 1).trans rfl; have hfz42_0 := blk_frozen BK832.out 0; have hfz42_1 := blk_frozen BK832.out 1; have hcz43_0 : w37.cell? ⟨gb829, 0, none⟩ = some (.int .i64 t827) := (blk_cell BK829.out 0).trans rfl; have hcz43_1 : w37.cell? ⟨gb829, 1, none⟩ = some (.int .i64 t828) := (blk_cell BK829.out 1).trans rfl; have hfz43_0 := blk_frozen BK829.out 0; have hfz43_1 := blk_frozen BK829.out 1; have hcz44_0 : w37.cell? ⟨gb824, 0, none⟩ = some (.int .i64 0) := (blk_cell BK824.out 0).trans rfl; have hcz44_1 : w37.cell? ⟨gb824, 1, none⟩ = some (.int .i64 0) := (blk_cell BK824.out 1).trans rfl; have hfz44_0 := blk_frozen BK824.out 0; have hfz44_1 := blk_frozen BK824.out 1))
    refine bodyPost_ret (results_ct rfl _ _ gb824 50 #[.int .i64 (wrap64 ((wrap64 (t827 * t827)) + (wrap64 (t830 * t830)))), .int .i64 (wrap64 ((wrap64 (t828 * t828)) + (wrap64 (t831 * t831))))] (0, 0) _ rfl (by (with_reducible repeat (first | refine blk_drewN ?_ _ | refine blk_drew ?_ | refine blk_alloc ?_ _)); refine blk_put (cs := #[.int .i64 (wrap64 ((wrap64 (t827 * t827)) + (wrap64 (t830 * t830)))), .int .i64 0]) ?_ 1 _ rfl; (with_reducible repeat (first | refine blk_drewN ?_ _ | refine blk_drew ?_ | refine blk_alloc ?_ _)); refine blk_put (cs := #[.int .i64 0, .int .i64 0]) ?_ 0 _ rfl; (with_reducible repeat (first | refine blk_drewN ?_ _ | refine blk_drew ?_ | refine blk_alloc ?_ _)); refine blk_far ?_ NB824_832.out _; (with_reducible repeat (first | refine blk_drewN ?_ _ | refine blk_drew ?_ | refine blk_alloc ?_ _)); refine blk_far ?_ NB824_832.out _; (with_reducible repeat (first | refine blk_drewN ?_ _ | refine blk_drew ?_ | refine blk_alloc ?_ _)); exact BK824.out) Try.underlying50 rfl (by kernel_rfl)) rfl ?_
    exact ⟨by first | rfl | (simp [errW_none, errW_some] <;> rfl) | (simp [*, errW_none, errW_some] <;> rfl), by repeat (first | (with_reducible first | exact HB.out | apply below_alloc | apply pw_below_drewN | apply below_drew1 | refine below_set ?_ GE822.out | refine below_set ?_ GE823.out | refine below_set ?_ GE824.out | refine below_set ?_ GE829.out | refine below_set ?_ GE832.out) | exact HB.out)⟩
end Go.Proofs.Ytckaejgamfllfaa.G
end

section
namespace Go.Proofs.Ytckaejgamfllfaa.G
open Go.RowKit Go.Proofs.YtckaejgamfllfaaW.PrintWords Go.Proofs.YtckaejgamfllfaaW.PrintLast Go.Proofs.YtckaejgamfllfaaW.PrintMore
set_option linter.unusedVariables false
set_option linter.unusedSimpArgs false
theorem mx_comm (a b : Int) : mx a b = mx b a := by unfold mx; split <;> split <;> omega
theorem mx_assoc (a b c : Int) : mx (mx a b) c = mx a (mx b c) := by
  unfold mx; repeat' split
  all_goals omega
def gapLo (a b c d : Int) : Int := mx 0 (mx (wrap64 (a - d)) (wrap64 (c - b)))
def gapHi (a b c d : Int) : Int := mx (wrap64 (b - c)) (wrap64 (d - a))
def distsZ (a b c d e f g h : Int) : Int × Int × Bool :=
  if (properB a b c d && properB e f g h) = true then
    (wrap64 (wrap64 (gapLo a b e f * gapLo a b e f) + wrap64 (gapLo c d g h * gapLo c d g h)), wrap64 (wrap64 (gapHi a b e f * gapHi a b e f) + wrap64 (gapHi c d g h * gapHi c d g h)), true) else (0, 0, false)
theorem plane_Dists_eq (k : Nat) (a b c d e f g h : Int) : plane_Dists.f (k + 1) a b c d e f g h = some (distsZ a b c d e f g h) := by
  unfold plane_Dists.f distsZ
  simp only [plane_Proper_eq, plane_Dists.j0, Option.bind_some, plane_apart.f, mx_assoc]
  cases properB a b c d <;> cases properB e f g h <;> rfl
theorem ref_Dists_eq (k : Nat) (a b c d e f g h : Int) : boundstoneref02_Dists.f (k + 1) a b c d e f g h = some (distsZ a b c d e f g h) := by
  unfold boundstoneref02_Dists.f distsZ gapLo gapHi
  simp only [ref_Proper_eq, boundstoneref02_Dists.j0, Option.bind_some, boundstoneref02_gaps.f]
  rw [mx_comm (wrap64 (e - b)), mx_comm (wrap64 (g - d)), mx_comm (wrap64 (f - a)), mx_comm (wrap64 (h - c))]
  cases properB a b c d <;> cases properB e f g h <;> rfl
theorem spread_same (A B C : Nat → S23) : spreadR A B C = spreadP A B C := by
  unfold spreadR spreadP
  simp only [outR, outL, midL, inL]
def spreadZ (a b c d e f g h i j k l : Int) : Int × Int × Bool :=
  if properB a b c d = true ∧ properB e f g h = true ∧ properB i j k l = true then ((spreadP (corn a b c d) (corn e f g h) (corn i j k l)).1, (spreadP (corn a b c d) (corn e f g h) (corn i j k l)).2, true) else (0, 0, false)
theorem plane_Spread_eq (a b c d e f g h i j k l : Int) : plane_Spread.f a b c d e f g h i j k l = some (spreadZ a b c d e f g h i j k l) := by
  unfold plane_Spread.f spreadZ
  simp only [plane_Proper_eq, Option.bind_some]
  split <;> rfl
theorem ref_Spread_eq (a b c d e f g h i j k l : Int) : boundstoneref02_Spread.f a b c d e f g h i j k l = some (spreadZ a b c d e f g h i j k l) := by
  unfold boundstoneref02_Spread.f spreadZ
  simp only [ref_Proper_eq, Option.bind_some, spread_same]
  split <;> rfl
def turnsZ (s : Int × Int × Bool) : Int := if s.2.2 = true then (if s.1 < 0 then 1 else 0) + (if s.1 ≤ 0 ∧ s.2.1 ≥ 0 then 2 else 0) + (if s.2.1 > 0 then 4 else 0) else 0
theorem plane_Turns_eq (n : Nat) (a b c d e f g h i j k l : Int) : plane_Turns.f (n + 5) a b c d e f g h i j k l = some (turnsZ (spreadZ a b c d e f g h i j k l)) := by
  unfold plane_Turns.f
  rw [plane_Spread_eq]
  simp only [Option.bind_some]
  obtain ⟨lo, hi, b⟩ := spreadZ a b c d e f g h i j k l
  unfold turnsZ
  simp only [plane_Turns.j0, plane_Turns.j1, plane_Turns.j2, plane_Turns.j3, plane_Turns.j4]
  cases b
  · rfl
  · by_cases h1 : lo < 0 <;> by_cases h2 : lo ≤ 0 <;> by_cases h3 : 0 ≤ hi <;> by_cases h4 : 0 < hi <;> (try omega) <;> simp [h1, h2, h3, h4] <;> kernel_rfl
theorem ref_Turns_eq (n : Nat) (a b c d e f g h i j k l : Int) : boundstoneref02_Turns.f (n + 5) a b c d e f g h i j k l = some (turnsZ (spreadZ a b c d e f g h i j k l)) := by
  unfold boundstoneref02_Turns.f
  rw [ref_Spread_eq]
  simp only [Option.bind_some]
  obtain ⟨lo, hi, b⟩ := spreadZ a b c d e f g h i j k l
  unfold turnsZ
  simp only [boundstoneref02_Turns.j0, boundstoneref02_Turns.j1, boundstoneref02_Turns.j2, boundstoneref02_Turns.j3, boundstoneref02_Turns.j4]
  cases b
  · rfl
  · by_cases h1 : lo < 0 <;> by_cases h2 : lo ≤ 0 <;> by_cases h3 : 0 ≤ hi <;> by_cases h4 : 0 < hi <;> (try omega) <;> simp [h1, h2, h3, h4] <;> kernel_rfl
end Go.Proofs.Ytckaejgamfllfaa.G
end

section
namespace Go.Proofs.Ytckaejgamfllfaa.G
open Go.RowKit Go.Proofs.YtckaejgamfllfaaW.PrintWords Go.Proofs.YtckaejgamfllfaaW.PrintLast Go.Proofs.YtckaejgamfllfaaW.PrintMore
attribute [local go_sem] max2_int min2_int max_two min_two max_three min_three max_four min_four
set_option linter.unusedVariables false
set_option linter.unusedSimpArgs false
attribute [local go_sem high] eqA50
def boundstonelaw02_PlaneSpreadsAsSpecified.f (k : Nat) (a0_0 : Int) (a0_1 : Int) (a0_2 : Int) (a0_3 : Int) (a1_0 : Int) (a1_1 : Int) (a1_2 : Int) (a1_3 : Int) (a2_0 : Int) (a2_1 : Int) (a2_2 : Int) (a2_3 : Int) : Option (Bool) := (plane_Spread.f a0_0 a0_1 a0_2 a0_3 a1_0 a1_1 a1_2 a1_3 a2_0 a2_1 a2_2 a2_3).bind fun bt850 => ((boundstoneref02_Spread.f a0_0 a0_1 a0_2 a0_3 a1_0 a1_1 a1_2 a1_3 a2_0 a2_1 a2_2 a2_3).bind fun bt854 => ((plane_Dists.f k a0_0 a0_1 a0_2 a0_3 a1_0 a1_1 a1_2 a1_3).bind fun bt858 => ((boundstoneref02_Dists.f k a0_0 a0_1 a0_2 a0_3 a1_0 a1_1 a1_2 a1_3).bind fun bt862 => ((boundstonelaw02_boxes.f k).bind fun t866 => (if t866 = true then (if (bt850.1 == bt854.1 && (bt850.2.1 == bt854.2.1)) = true then (if (bt850.2.2 == bt854.2.2) = true then ((plane_Turns.f k a0_0 a0_1 a0_2 a0_3 a1_0 a1_1 a1_2 a1_3 a2_0 a2_1 a2_2 a2_3).bind fun t867 => ((boundstoneref02_Turns.f k a0_0 a0_1 a0_2 a0_3 a1_0 a1_1 a1_2 a1_3 a2_0 a2_1 a2_2 a2_3).bind fun t868 => (if t867 = t868 then (if (bt858.1 == bt862.1 && (bt858.2.1 == bt862.2.1)) = true then (some (bt858.2.2 == bt862.2.2)) else (none)) else (none)))) else (none)) else (none)) else (none))))))
def boundstonelaw02_PlaneSpreadsAsSpecified.T5 : Bool × List (List Nat × List Nat) := (true, [([], []), ([0, 0], [0]), ([1], [1]), ([1], [1]), ([2, 3, 1], [1, 2, 3]), ([1, 4], [1, 4]), ([5, 1], [5]), ([6], [6]), ([6], [6]), ([7, 8, 6], [6, 7, 8]), ([6, 9], [6, 9]), ([10, 6], [10]), ([11], [11]), ([11], [11]), ([11], [11]), ([12, 13, 14, 11, 11], [11, 12, 13, 14]), ([11], [11]), ([11], [11]), ([11], [11]), ([16, 17, 18, 15, 11], [11, 16, 17, 18]), ([15, 19, 11], [11, 15, 19]), ([11, 20], [11, 20]), ([21, 19], [21]), ([22], [22]), ([22], [22]), ([23, 24, 22], [22, 23, 24]), ([22, 25], [22, 25]), ([26, 22], [26]), ([27], [27]), ([27], [27]), ([28, 29, 27], [27, 28, 29]), ([27, 30], [27, 30]), ([31, 27, 0, 1, 2, 3, 4, 5, 6, 7, 8, 9, 10, 11, 12, 13, 14, 15, 16, 17, 18, 19, 20, 21, 22, 23, 24, 25, 26, 27, 28, 29, 30, 31], [31])])
def boundstonelaw02_PlaneSpreadsAsSpecified.B5 : List Nat := [0, 1, 3, 3, 15, 31, 63, 127, 127, 511, 1023, 2047, 4095, 4095, 4095, 32767, 4095, 4095, 4095, 524287, 1048575, 2097151, 4194303, 8388607, 8388607, 33554431, 67108863, 134217727, 268435455, 268435455, 1073741823, 2147483647, 4294967295]
theorem boundstonelaw02_PlaneSpreadsAsSpecified.tab5 : rtab .any (opsOf Try.f12 5) = boundstonelaw02_PlaneSpreadsAsSpecified.T5 := by kernel_rfl
theorem boundstonelaw02_PlaneSpreadsAsSpecified.bits5 : waitsOk boundstonelaw02_PlaneSpreadsAsSpecified.T5.2 boundstonelaw02_PlaneSpreadsAsSpecified.B5 = true := by kernel_rfl
set_option maxHeartbeats 8000000 in
set_option maxRecDepth 100000 in
theorem boundstonelaw02_PlaneSpreadsAsSpecified.calls (k : Nat) (a0_0 : Int) (a0_1 : Int) (a0_2 : Int) (a0_3 : Int) (a1_0 : Int) (a1_1 : Int) (a1_2 : Int) (a1_3 : Int) (a2_0 : Int) (a2_1 : Int) (a2_2 : Int) (a2_3 : Int) (r : Bool) (w : World) (h : boundstonelaw02_PlaneSpreadsAsSpecified.f k a0_0 a0_1 a0_2 a0_3 a1_0 a1_1 a1_2 a1_3 a2_0 a2_1 a2_2 a2_3 = some r) :
  Calls Try.prog 12 #[.agg #[.int .i64 a0_0, .int .i64 a0_1, .int .i64 a0_2, .int .i64 a0_3], .agg #[.int .i64 a1_0, .int .i64 a1_1, .int .i64 a1_2, .int .i64 a1_3], .agg #[.int .i64 a2_0, .int .i64 a2_1, .int .i64 a2_2, .int .i64 a2_3]] w fun e w' => e = .returned (.bool r) ∧ Below w.heap.size w w' := by
 have hu52 := Try.underlying52
 have hu50 := Try.underlying50
 have HB := Aside0.mk (Below.refl w.heap.size w)
 have H : ((plane_Spread.f a0_0 a0_1 a0_2 a0_3 a1_0 a1_1 a1_2 a1_3 a2_0 a2_1 a2_2 a2_3).bind fun bt850 => ((boundstoneref02_Spread.f a0_0 a0_1 a0_2 a0_3 a1_0 a1_1 a1_2 a1_3 a2_0 a2_1 a2_2 a2_3).bind fun bt854 => ((plane_Dists.f k a0_0 a0_1 a0_2 a0_3 a1_0 a1_1 a1_2 a1_3).bind fun bt858 => ((boundstoneref02_Dists.f k a0_0 a0_1 a0_2 a0_3 a1_0 a1_1 a1_2 a1_3).bind fun bt862 => ((boundstonelaw02_boxes.f k).bind fun t866 => (if t866 = true then (if (bt850.1 == bt854.1 && (bt850.2.1 == bt854.2.1)) = true then (if (bt850.2.2 == bt854.2.2) = true then ((plane_Turns.f k a0_0 a0_1 a0_2 a0_3 a1_0 a1_1 a1_2 a1_3 a2_0 a2_1 a2_2 a2_3).bind fun t867 => ((boundstoneref02_Turns.f k a0_0 a0_1 a0_2 a0_3 a1_0 a1_1 a1_2 a1_3 a2_0 a2_1 a2_2 a2_3).bind fun t868 => (if t867 = t868 then (if (bt858.1 == bt862.1 && (bt858.2.1 == bt862.2.1)) = true then (some (bt858.2.2 == bt862.2.2)) else (none)) else (none)))) else (none)) else (none)) else (none))))))) = some r := h
 clear h
 replace H := Option.bind_eq_some_iff.mp H
 obtain ⟨⟨t850, t851, t852⟩, A40, H⟩ := H
 try dsimp only at H
 have A4 := Aside0.mk A40
 clear A40
 replace H := Option.bind_eq_some_iff.mp H
 obtain ⟨⟨t854, t855, t856⟩, A50, H⟩ := H
 try dsimp only at H
 have A5 := Aside0.mk A50
 clear A50
 replace H := Option.bind_eq_some_iff.mp H
 obtain ⟨⟨t858, t859, t860⟩, A60, H⟩ := H
 try dsimp only at H
 have A6 := Aside0.mk A60
 clear A60
 replace H := Option.bind_eq_some_iff.mp H
 obtain ⟨⟨t862, t863, t864⟩, A70, H⟩ := H
 try dsimp only at H
 have A7 := Aside0.mk A70
 clear A70
 replace H := Option.bind_eq_some_iff.mp H
 obtain ⟨t866, A80, H⟩ := H
 try dsimp only at H
 have A8 := Aside0.mk A80
 clear A80
 by_cases c9 : t866 = true
 ·subst c9
  have H1 : (if (t850 == t854 && (t851 == t855)) = true then (if (t852 == t856) = true then ((plane_Turns.f k a0_0 a0_1 a0_2 a0_3 a1_0 a1_1 a1_2 a1_3 a2_0 a2_1 a2_2 a2_3).bind fun t867 => ((boundstoneref02_Turns.f k a0_0 a0_1 a0_2 a0_3 a1_0 a1_1 a1_2 a1_3 a2_0 a2_1 a2_2 a2_3).bind fun t868 => (if t867 = t868 then (if (t858 == t862 && (t859 == t863)) = true then (some (t860 == t864)) else (none)) else (none)))) else (none)) else (none)) = some r := by rw [if_pos rfl] at H; exact H
  clear H
  have H := H1
  clear H1
  by_cases c10 : (t850 == t854 && (t851 == t855)) = true
  ·rw [if_pos c10] at H
   have c10b0 : (t850 == t854 && (t851 == t855)) = true := c10
   (try (have c10b1 : decide (t850 = t854 && (t851 == t855)) = true := by simpa using c10))
   (try (have c10b2 : (t850 == t854 && (t851 == t855)) = true := by simpa using c10))
   clear c10
   by_cases c11 : (t852 == t856) = true
   ·rw [if_pos c11] at H
    have c11b0 : (t852 == t856) = true := c11
    (try (have c11b1 : decide (t852 = t856) = true := by simpa using c11))
    (try (have c11b2 : (t852 == t856) = true := by simpa using c11))
    clear c11
    replace H := Option.bind_eq_some_iff.mp H
    obtain ⟨t867, A120, H⟩ := H
    replace H : ((boundstoneref02_Turns.f k a0_0 a0_1 a0_2 a0_3 a1_0 a1_1 a1_2 a1_3 a2_0 a2_1 a2_2 a2_3).bind fun t868 => (if t867 = t868 then (if (t858 == t862 && (t859 == t863)) = true then (some (t860 == t864)) else (none)) else (none))) = some r := H
    have A12 := Aside0.mk A120
    clear A120
    replace H := Option.bind_eq_some_iff.mp H
    obtain ⟨t868, A130, H⟩ := H
    replace H : (if t867 = t868 then (if (t858 == t862 && (t859 == t863)) = true then (some (t860 == t864)) else (none)) else (none)) = some r := H
    have A13 := Aside0.mk A130
    clear A130
    by_cases c14 : t867 = t868
    ·rw [if_pos c14] at H
     have c14b0 : (t867 == t868) = true := beq_iff_eq.mpr c14
     have c14b1 : (t867 != t868) = false := bne_eq_false_iff_eq.mpr c14
     clear c14
     by_cases c15 : (t858 == t862 && (t859 == t863)) = true
     ·rw [if_pos c15] at H
      have c15b0 : (t858 == t862 && (t859 == t863)) = true := c15
      (try (have c15b1 : decide (t858 = t862 && (t859 == t863)) = true := by simpa using c15))
      (try (have c15b2 : (t858 == t862 && (t859 == t863)) = true := by simpa using c15))
      clear c15
      obtain rfl := Option.some.inj H
      go_enter Try.func12, Try.ntmps12
      try go_wp2_with (first | ((with_reducible refine gate_dst (N := 3) rfl ?_); refine box_event ?hg (N := 3) ?hd (cs := #[.int .i64 a0_0, .int .i64 a0_1, .int .i64 a0_2, .int .i64 a0_3]) (t := 52) ?hr ?_; (case hd => rfl); (case hg => rfl); (case hr => first | (go_simp; done) | (go_simp; rfl)); intro gb847 hg w16 hbox hb; have BK847 := Aside0.mk (hbox); have GW847 := geBA HB hg; have GE847 := geBA HB hg; replace HB := Aside0.mk (below_step (hk HB) hb); clear hb hbox hg) | ((with_reducible refine gate_dst (N := 4) rfl ?_); refine box_event ?hg (N := 4) ?hd (cs := #[.int .i64 a1_0, .int .i64 a1_1, .int .i64 a1_2, .int .i64 a1_3]) (t := 52) ?hr ?_; (case hd => rfl); (case hg => rfl); (case hr => first | (go_simp; done) | (go_simp; rfl)); intro gb848 hg w17 hbox hb; have BK848 := Aside0.mk (hbox); have GW848 := Aside0.mk ((by rw [hg]; exact (below_size (by repeat (first | (with_reducible first | exact HB.out | apply below_alloc | apply pw_below_drewN | apply below_drew1 | refine below_set ?_ GE847.out) | exact HB.out))) : w.heap.size ≤ gb848)); have GE848 := Aside0.mk ((by rw [hg]; exact (below_size (by repeat (first | (with_reducible first | exact HB.out | apply below_alloc | apply pw_below_drewN | apply below_drew1 | refine below_set ?_ GE847.out) | exact HB.out))) : w.heap.size ≤ gb848)); have NB847_848 := neLA BK847 hg; have NB848_847 := neGA BK847 hg; replace BK847 := bkC BK847 hb; replace HB := Aside0.mk (below_step (by repeat (first | (with_reducible first | exact HB.out | apply below_alloc | apply pw_below_drewN | apply below_drew1 | refine below_set ?_ GE847.out) | exact HB.out)) hb); clear hb hbox hg) | ((with_reducible refine gate_dst (N := 5) rfl ?_); refine box_event ?hg (N := 5) ?hd (cs := #[.int .i64 a2_0, .int .i64 a2_1, .int .i64 a2_2, .int .i64 a2_3]) (t := 52) ?hr ?_; (case hd => rfl); (case hg => rfl); (case hr => first | (go_simp; done) | (go_simp; rfl)); intro gb849 hg w18 hbox hb; have BK849 := Aside0.mk (hbox); have GW849 := Aside0.mk ((by rw [hg]; exact (below_size (by repeat (first | (with_reducible first | exact HB.out | apply below_alloc | apply pw_below_drewN | apply below_drew1 | refine below_set ?_ GE847.out | refine below_set ?_ GE848.out) | exact HB.out))) : w.heap.size ≤ gb849)); have GE849 := Aside0.mk ((by rw [hg]; exact (below_size (by repeat (first | (with_reducible first | exact HB.out | apply below_alloc | apply pw_below_drewN | apply below_drew1 | refine below_set ?_ GE847.out | refine below_set ?_ GE848.out) | exact HB.out))) : w.heap.size ≤ gb849)); have NB847_849 := neLA BK847 hg; have NB849_847 := neGA BK847 hg; have NB848_849 := neLA BK848 hg; have NB849_848 := neGA BK848 hg; replace BK847 := bkC BK847 hb; replace BK848 := bkC BK848 hb; replace HB := Aside0.mk (below_step (by repeat (first | (with_reducible first | exact HB.out | apply below_alloc | apply pw_below_drewN | apply below_drew1 | refine below_set ?_ GE847.out | refine below_set ?_ GE848.out) | exact HB.out)) hb); clear hb hbox hg; have hnb19 := NB847_848.out; have hnc19 := NB848_847.out; have hnb20 := NB847_849.out; have hnc20 := NB849_847.out; have hcz21_0 : w18.cell? ⟨gb847, 0, none⟩ = some (.int .i64 a0_0) := (blk_cell BK847.out 0).trans rfl; have hcz21_1 : w18.cell? ⟨gb847, 1, none⟩ = some (.int .i64 a0_1) := (blk_cell BK847.out 1).trans rfl; have hcz21_2 : w18.cell? ⟨gb847, 2, none⟩ = some (.int .i64 a0_2) := (blk_cell BK847.out 2).trans rfl; have hcz21_3 : w18.cell? ⟨gb847, 3, none⟩ = some (.int .i64 a0_3) := (blk_cell BK847.out 3).trans rfl; have hfz21_0 := blk_frozen BK847.out 0; have hfz21_1 := blk_frozen BK847.out 1; have hfz21_2 := blk_frozen BK847.out 2; have hfz21_3 := blk_frozen BK847.out 3; have hnb22 := NB848_849.out; have hnc22 := NB849_848.out; have hcz23_0 : w18.cell? ⟨gb848, 0, none⟩ = some (.int .i64 a1_0) := (blk_cell BK848.out 0).trans rfl; have hcz23_1 : w18.cell? ⟨gb848, 1, none⟩ = some (.int .i64 a1_1) := (blk_cell BK848.out 1).trans rfl; have hcz23_2 : w18.cell? ⟨gb848, 2, none⟩ = some (.int .i64 a1_2) := (blk_cell BK848.out 2).trans rfl; have hcz23_3 : w18.cell? ⟨gb848, 3, none⟩ = some (.int .i64 a1_3) := (blk_cell BK848.out 3).trans rfl; have hfz23_0 := blk_frozen BK848.out 0; have hfz23_1 := blk_frozen BK848.out 1; have hfz23_2 := blk_frozen BK848.out 2; have hfz23_3 := blk_frozen BK848.out 3; have hcz24_0 : w18.cell? ⟨gb849, 0, none⟩ = some (.int .i64 a2_0) := (blk_cell BK849.out 0).trans rfl; have hcz24_1 : w18.cell? ⟨gb849, 1, none⟩ = some (.int .i64 a2_1) := (blk_cell BK849.out 1).trans rfl; have hcz24_2 : w18.cell? ⟨gb849, 2, none⟩ = some (.int .i64 a2_2) := (blk_cell BK849.out 2).trans rfl; have hcz24_3 : w18.cell? ⟨gb849, 3, none⟩ = some (.int .i64 a2_3) := (blk_cell BK849.out 3).trans rfl; have hfz24_0 := blk_frozen BK849.out 0; have hfz24_1 := blk_frozen BK849.out 1; have hfz24_2 := blk_frozen BK849.out 2; have hfz24_3 := blk_frozen BK849.out 3) | ((with_reducible refine gate_callee (f := 50) rfl ?_); refine goesL_ (some 19) rfl rfl Try.func50 (by kernel_rfl) rfl #[.agg #[.int .i64 a0_0, .int .i64 a0_1, .int .i64 a0_2, .int .i64 a0_3], .agg #[.int .i64 a1_0, .int .i64 a1_1, .int .i64 a1_2, .int .i64 a1_3], .agg #[.int .i64 a2_0, .int .i64 a2_1, .int .i64 a2_2, .int .i64 a2_3]] rfl (by (try simp only [List.map_toArray, List.map_cons, List.map_nil]); first | done | rfl | (simp only [List.length_drop, List.length_take]; rfl)) ?_; (with_reducible refine (plane_Spread.calls a0_0 a0_1 a0_2 a0_3 a1_0 a1_1 a1_2 a1_3 a2_0 a2_1 a2_2 a2_3 t850 t851 t852 _ A4.out).mono ?_); rintro e w25 ⟨rfl, hb⟩; refine ⟨_, rfl, ?_⟩; replace BK847 := bkC BK847 hb; replace BK848 := bkC BK848 hb; replace BK849 := bkC BK849 hb; replace HB := Aside0.mk (below_step (by repeat (first | (with_reducible first | exact HB.out | apply below_alloc | apply pw_below_drewN | apply below_drew1 | refine below_set ?_ GE847.out | refine below_set ?_ GE848.out | refine below_set ?_ GE849.out) | exact HB.out)) hb); (try clear hb); (try clear hb2); (try clear hk); (try clear hi)) | ((with_reducible refine gate_dst (N := 7) rfl ?_); refine box_event ?hg (N := 7) ?hd (cs := #[.int .i64 0, .int .i64 0]) (t := 50) ?hr ?_; (case hd => rfl); (case hg => rfl); (case hr => first | (go_simp; done) | (go_simp; rfl)); intro gb853 hg w26 hbox hb; have BK853 := Aside0.mk (hbox); have GW853 := Aside0.mk ((by rw [hg]; exact (below_size (by repeat (first | (with_reducible first | exact HB.out | apply below_alloc | apply pw_below_drewN | apply below_drew1 | refine below_set ?_ GE847.out | refine below_set ?_ GE848.out | refine below_set ?_ GE849.out) | exact HB.out))) : w.heap.size ≤ gb853)); have GE853 := Aside0.mk ((by rw [hg]; exact (below_size (by repeat (first | (with_reducible first | exact HB.out | apply below_alloc | apply pw_below_drewN | apply below_drew1 | refine below_set ?_ GE847.out | refine below_set ?_ GE848.out | refine below_set ?_ GE849.out) | exact HB.out))) : w.heap.size ≤ gb853)); have NB847_853 := neLA BK847 hg; have NB853_847 := neGA BK847 hg; have NB848_853 := neLA BK848 hg; have NB853_848 := neGA BK848 hg; have NB849_853 := neLA BK849 hg; have NB853_849 := neGA BK849 hg; replace BK847 := bkC BK847 hb; replace BK848 := bkC BK848 hb; replace BK849 := bkC BK849 hb; replace HB := Aside0.mk (below_step (by repeat (first | (with_reducible first | exact HB.out | apply below_alloc | apply pw_below_drewN | apply below_drew1 | refine below_set ?_ GE847.out | refine below_set ?_ GE848.out | refine below_set ?_ GE849.out) | exact HB.out)) hb); clear hb hbox hg; have hnb27 := NB853_847.out; have hnc27 := NB847_853.out; have hnb28 := NB853_848.out; have hnc28 := NB848_853.out; have hnb29 := NB853_849.out; have hnc29 := NB849_853.out; have hcz30_0 : w26.cell? ⟨gb853, 0, none⟩ = some (.int .i64 0) := (blk_cell BK853.out 0).trans rfl; have hcz30_1 : w26.cell? ⟨gb853, 1, none⟩ = some (.int .i64 0) := (blk_cell BK853.out 1).trans rfl; have hfz30_0 := blk_frozen BK853.out 0; have hfz30_1 := blk_frozen BK853.out 1; have hcz31_0 : w26.cell? ⟨gb847, 0, none⟩ = some (.int .i64 a0_0) := (blk_cell BK847.out 0).trans rfl; have hcz31_1 : w26.cell? ⟨gb847, 1, none⟩ = some (.int .i64 a0_1) := (blk_cell BK847.out 1).trans rfl; have hcz31_2 : w26.cell? ⟨gb847, 2, none⟩ = some (.int .i64 a0_2) := (blk_cell BK847.out 2).trans rfl; have hcz31_3 : w26.cell? ⟨gb847, 3, none⟩ = some (.int .i64 a0_3) := (blk_cell BK847.out 3).trans rfl; have hfz31_0 := blk_frozen BK847.out 0; have hfz31_1 := blk_frozen BK847.out 1; have hfz31_2 := blk_frozen BK847.out 2; have hfz31_3 := blk_frozen BK847.out 3; have hcz32_0 : w26.cell? ⟨gb848, 0, none⟩ = some (.int .i64 a1_0) := (blk_cell BK848.out 0).trans rfl; have hcz32_1 : w26.cell? ⟨gb848, 1, none⟩ = some (.int .i64 a1_1) := (blk_cell BK848.out 1).trans rfl; have hcz32_2 : w26.cell? ⟨gb848, 2, none⟩ = some (.int .i64 a1_2) := (blk_cell BK848.out 2).trans rfl; have hcz32_3 : w26.cell? ⟨gb848, 3, none⟩ = some (.int .i64 a1_3) := (blk_cell BK848.out 3).trans rfl; have hfz32_0 := blk_frozen BK848.out 0; have hfz32_1 := blk_frozen BK848.out 1; have hfz32_2 := blk_frozen BK848.out 2; have hfz32_3 := blk_frozen BK848.out 3; have hcz33_0 : w26.cell? ⟨gb849, 0, none⟩ = some (.int .i64 a2_0) := (blk_cell BK849.out 0).trans rfl; have hcz33_1 : w26.cell? ⟨gb849, 1, none⟩ = some (.int .i64 a2_1) := (blk_cell BK849.out 1).trans rfl; have hcz33_2 : w26.cell? ⟨gb849, 2, none⟩ = some (.int .i64 a2_2) := (blk_cell BK849.out 2).trans rfl; have hcz33_3 : w26.cell? ⟨gb849, 3, none⟩ = some (.int .i64 a2_3) := (blk_cell BK849.out 3).trans rfl; have hfz33_0 := blk_frozen BK849.out 0; have hfz33_1 := blk_frozen BK849.out 1; have hfz33_2 := blk_frozen BK849.out 2; have hfz33_3 := blk_frozen BK849.out 3) | ((with_reducible refine gate_callee (f := 51) rfl ?_); refine goesL_ (some 26) rfl rfl Try.func51 (by kernel_rfl) rfl #[.agg #[.int .i64 a0_0, .int .i64 a0_1, .int .i64 a0_2, .int .i64 a0_3], .agg #[.int .i64 a1_0, .int .i64 a1_1, .int .i64 a1_2, .int .i64 a1_3], .agg #[.int .i64 a2_0, .int .i64 a2_1, .int .i64 a2_2, .int .i64 a2_3]] rfl (by (try simp only [List.map_toArray, List.map_cons, List.map_nil]); first | done | rfl | (simp only [List.length_drop, List.length_take]; rfl)) ?_; (with_reducible refine (boundstoneref02_Spread.calls a0_0 a0_1 a0_2 a0_3 a1_0 a1_1 a1_2 a1_3 a2_0 a2_1 a2_2 a2_3 t854 t855 t856 _ A5.out).mono ?_); rintro e w34 ⟨rfl, hb⟩; refine ⟨_, rfl, ?_⟩; replace BK847 := Aside0.mk (blk_below (g := gb847) (o := .cells #[.int .i64 a0_0, .int .i64 a0_1, .int .i64 a0_2, .int .i64 a0_3] 52 (0, 0)) (by (with_reducible repeat (first | refine blk_drewN ?_ _ | refine blk_drew ?_ | refine blk_alloc ?_ _)); refine blk_far ?_ NB847_853.out _; (with_reducible repeat (first | refine blk_drewN ?_ _ | refine blk_drew ?_ | refine blk_alloc ?_ _)); refine blk_far ?_ NB847_853.out _; (with_reducible repeat (first | refine blk_drewN ?_ _ | refine blk_drew ?_ | refine blk_alloc ?_ _)); exact BK847.out) hb); replace BK848 := Aside0.mk (blk_below (g := gb848) (o := .cells #[.int .i64 a1_0, .int .i64 a1_1, .int .i64 a1_2, .int .i64 a1_3] 52 (0, 0)) (by (with_reducible repeat (first | refine blk_drewN ?_ _ | refine blk_drew ?_ | refine blk_alloc ?_ _)); refine blk_far ?_ NB848_853.out _; (with_reducible repeat (first | refine blk_drewN ?_ _ | refine blk_drew ?_ | refine blk_alloc ?_ _)); refine blk_far ?_ NB848_853.out _; (with_reducible repeat (first | refine blk_drewN ?_ _ | refine blk_drew ?_ | refine blk_alloc ?_ _)); exact BK848.out) hb); replace BK849 := Aside0.mk (blk_below (g := gb849) (o := .cells #[.int .i64 a2_0, .int .i64 a2_1, .int .i64 a2_2, .int .i64 a2_3] 52 (0, 0)) (by (with_reducible repeat (first | refine blk_drewN ?_ _ | refine blk_drew ?_ | refine blk_alloc ?_ _)); refine blk_far ?_ NB849_853.out _; (with_reducible repeat (first | refine blk_drewN ?_ _ | refine blk_drew ?_ | refine blk_alloc ?_ _)); refine blk_far ?_ NB849_853.out _; (with_reducible repeat (first | refine blk_drewN ?_ _ | refine blk_drew ?_ | refine blk_alloc ?_ _)); exact BK849.out) hb); replace BK853 := Aside0.mk (blk_below (g := gb853) (o := .cells #[.int .i64 t850, .int .i64 t851] 50 (0, 0)) (by (with_reducible repeat (first | refine blk_drewN ?_ _ | refine blk_drew ?_ | refine blk_alloc ?_ _)); refine blk_put (cs := #[.int .i64 t850, .int .i64 0]) ?_ 1 _ rfl; (with_reducible repeat (first | refine blk_drewN ?_ _ | refine blk_drew ?_ | refine blk_alloc ?_ _)); refine blk_put (cs := #[.int .i64 0, .int .i64 0]) ?_ 0 _ rfl; (with_reducible repeat (first | refine blk_drewN ?_ _ | refine blk_drew ?_ | refine blk_alloc ?_ _)); exact BK853.out) hb); replace HB := Aside0.mk (below_step (by repeat (first | (with_reducible first | exact HB.out | apply below_alloc | apply pw_below_drewN | apply below_drew1 | refine below_set ?_ GE847.out | refine below_set ?_ GE848.out | refine below_set ?_ GE849.out | refine below_set ?_ GE853.out) | exact HB.out)) hb); (try clear hb); (try clear hb2); (try clear hk); (try clear hi)) | ((with_reducible refine gate_dst (N := 9) rfl ?_); refine box_event ?hg (N := 9) ?hd (cs := #[.int .i64 0, .int .i64 0]) (t := 50) ?hr ?_; (case hd => rfl); (case hg => rfl); (case hr => first | (go_simp; done) | (go_simp; rfl)); intro gb857 hg w35 hbox hb; have BK857 := Aside0.mk (hbox); have GW857 := Aside0.mk ((by rw [hg]; exact (below_size (by repeat (first | (with_reducible first | exact HB.out | apply below_alloc | apply pw_below_drewN | apply below_drew1 | refine below_set ?_ GE847.out | refine below_set ?_ GE848.out | refine below_set ?_ GE849.out | refine below_set ?_ GE853.out) | exact HB.out))) : w.heap.size ≤ gb857)); have GE857 := Aside0.mk ((by rw [hg]; exact (below_size (by repeat (first | (with_reducible first | exact HB.out | apply below_alloc | apply pw_below_drewN | apply below_drew1 | refine below_set ?_ GE847.out | refine below_set ?_ GE848.out | refine below_set ?_ GE849.out | refine below_set ?_ GE853.out) | exact HB.out))) : w.heap.size ≤ gb857)); have NB847_857 := neLA BK847 hg; have NB857_847 := neGA BK847 hg; have NB848_857 := neLA BK848 hg; have NB857_848 := neGA BK848 hg; have NB849_857 := neLA BK849 hg; have NB857_849 := neGA BK849 hg; have NB853_857 := neLA BK853 hg; have NB857_853 := neGA BK853 hg; replace BK847 := bkC BK847 hb; replace BK848 := bkC BK848 hb; replace BK849 := bkC BK849 hb; replace BK853 := bkC BK853 hb; replace HB := Aside0.mk (below_step (by repeat (first | (with_reducible first | exact HB.out | apply below_alloc | apply pw_below_drewN | apply below_drew1 | refine below_set ?_ GE847.out | refine below_set ?_ GE848.out | refine below_set ?_ GE849.out | refine below_set ?_ GE853.out) | exact HB.out)) hb); clear hb hbox hg; have hnb36 := NB857_847.out; have hnc36 := NB847_857.out; have hnb37 := NB857_848.out; have hnc37 := NB848_857.out; have hnb38 := NB857_849.out; have hnc38 := NB849_857.out; have hnb39 := NB857_853.out; have hnc39 := NB853_857.out; have hcz40_0 : w35.cell? ⟨gb857, 0, none⟩ = some (.int .i64 0) := (blk_cell BK857.out 0).trans rfl; have hcz40_1 : w35.cell? ⟨gb857, 1, none⟩ = some (.int .i64 0) := (blk_cell BK857.out 1).trans rfl; have hfz40_0 := blk_frozen BK857.out 0; have hfz40_1 := blk_frozen BK857.out 1; have hcz41_0 : w35.cell? ⟨gb847, 0, none⟩ = some (.int .i64 a0_0) := (blk_cell BK847.out 0).trans rfl; have hcz41_1 : w35.cell? ⟨gb847, 1, none⟩ = some (.int .i64 a0_1) := (blk_cell BK847.out 1).trans rfl; have hcz41_2 : w35.cell? ⟨gb847, 2, none⟩ = some (.int .i64 a0_2) := (blk_cell BK847.out 2).trans rfl; have hcz41_3 : w35.cell? ⟨gb847, 3, none⟩ = some (.int .i64 a0_3) := (blk_cell BK847.out 3).trans rfl; have hfz41_0 := blk_frozen BK847.out 0; have hfz41_1 := blk_frozen BK847.out 1; have hfz41_2 := blk_frozen BK847.out 2; have hfz41_3 := blk_frozen BK847.out 3; have hcz42_0 : w35.cell? ⟨gb848, 0, none⟩ = some (.int .i64 a1_0) := (blk_cell BK848.out 0).trans rfl; have hcz42_1 : w35.cell? ⟨gb848, 1, none⟩ = some (.int .i64 a1_1) := (blk_cell BK848.out 1).trans rfl; have hcz42_2 : w35.cell? ⟨gb848, 2, none⟩ = some (.int .i64 a1_2) := (blk_cell BK848.out 2).trans rfl; have hcz42_3 : w35.cell? ⟨gb848, 3, none⟩ = some (.int .i64 a1_3) := (blk_cell BK848.out 3).trans rfl; have hfz42_0 := blk_frozen BK848.out 0; have hfz42_1 := blk_frozen BK848.out 1; have hfz42_2 := blk_frozen BK848.out 2; have hfz42_3 := blk_frozen BK848.out 3) | ((with_reducible refine gate_callee (f := 52) rfl ?_); refine goesL_ (some 32) rfl rfl Try.func52 (by kernel_rfl) rfl #[.agg #[.int .i64 a0_0, .int .i64 a0_1, .int .i64 a0_2, .int .i64 a0_3], .agg #[.int .i64 a1_0, .int .i64 a1_1, .int .i64 a1_2, .int .i64 a1_3]] rfl (by (try simp only [List.map_toArray, List.map_cons, List.map_nil]); first | done | rfl | (simp only [List.length_drop, List.length_take]; rfl)) ?_; (with_reducible refine (plane_Dists.calls k a0_0 a0_1 a0_2 a0_3 a1_0 a1_1 a1_2 a1_3 t858 t859 t860 _ A6.out).mono ?_); rintro e w43 ⟨rfl, hb⟩; refine ⟨_, rfl, ?_⟩; replace BK847 := Aside0.mk (blk_below (g := gb847) (o := .cells #[.int .i64 a0_0, .int .i64 a0_1, .int .i64 a0_2, .int .i64 a0_3] 52 (0, 0)) (by (with_reducible repeat (first | refine blk_drewN ?_ _ | refine blk_drew ?_ | refine blk_alloc ?_ _)); refine blk_far ?_ NB847_857.out _; (with_reducible repeat (first | refine blk_drewN ?_ _ | refine blk_drew ?_ | refine blk_alloc ?_ _)); refine blk_far ?_ NB847_857.out _; (with_reducible repeat (first | refine blk_drewN ?_ _ | refine blk_drew ?_ | refine blk_alloc ?_ _)); exact BK847.out) hb); replace BK848 := Aside0.mk (blk_below (g := gb848) (o := .cells #[.int .i64 a1_0, .int .i64 a1_1, .int .i64 a1_2, .int .i64 a1_3] 52 (0, 0)) (by (with_reducible repeat (first | refine blk_drewN ?_ _ | refine blk_drew ?_ | refine blk_alloc ?_ _)); refine blk_far ?_ NB848_857.out _; (with_reducible repeat (first | refine blk_drewN ?_ _ | refine blk_drew ?_ | refine blk_alloc ?_ _)); refine blk_far ?_ NB848_857.out _; (with_reducible repeat (first | refine blk_drewN ?_ _ | refine blk_drew ?_ | refine blk_alloc ?_ _)); exact BK848.out) hb); replace BK849 := Aside0.mk (blk_below (g := gb849) (o := .cells #[.int .i64 a2_0, .int .i64 a2_1, .int .i64 a2_2, .int .i64 a2_3] 52 (0, 0)) (by (with_reducible repeat (first | refine blk_drewN ?_ _ | refine blk_drew ?_ | refine blk_alloc ?_ _)); refine blk_far ?_ NB849_857.out _; (with_reducible repeat (first | refine blk_drewN ?_ _ | refine blk_drew ?_ | refine blk_alloc ?_ _)); refine blk_far ?_ NB849_857.out _; (with_reducible repeat (first | refine blk_drewN ?_ _ | refine blk_drew ?_ | refine blk_alloc ?_ _)); exact BK849.out) hb); replace BK853 := Aside0.mk (blk_below (g := gb853) (o := .cells #[.int .i64 t850, .int .i64 t851] 50 (0, 0)) (by (with_reducible repeat (first | refine blk_drewN ?_ _ | refine blk_drew ?_ | refine blk_alloc ?_ _)); refine blk_far ?_ NB853_857.out _; (with_reducible repeat (first | refine blk_drewN ?_ _ | refine blk_drew ?_ | refine blk_alloc ?_ _)); refine blk_far ?_ NB853_857.out _; (with_reducible repeat (first | refine blk_drewN ?_ _ | refine blk_drew ?_ | refine blk_alloc ?_ _)); exact BK853.out) hb); replace BK857 := Aside0.mk (blk_below (g := gb857) (o := .cells #[.int .i64 t854, .int .i64 t855] 50 (0, 0)) (by (with_reducible repeat (first | refine blk_drewN ?_ _ | refine blk_drew ?_ | refine blk_alloc ?_ _)); refine blk_put (cs := #[.int .i64 t854, .int .i64 0]) ?_ 1 _ rfl; (with_reducible repeat (first | refine blk_drewN ?_ _ | refine blk_drew ?_ | refine blk_alloc ?_ _)); refine blk_put (cs := #[.int .i64 0, .int .i64 0]) ?_ 0 _ rfl; (with_reducible repeat (first | refine blk_drewN ?_ _ | refine blk_drew ?_ | refine blk_alloc ?_ _)); exact BK857.out) hb); replace HB := Aside0.mk (below_step (by repeat (first | (with_reducible first | exact HB.out | apply below_alloc | apply pw_below_drewN | apply below_drew1 | refine below_set ?_ GE847.out | refine below_set ?_ GE848.out | refine below_set ?_ GE849.out | refine below_set ?_ GE853.out | refine below_set ?_ GE857.out) | exact HB.out)) hb); (try clear hb); (try clear hb2); (try clear hk); (try clear hi)) | ((with_reducible refine gate_dst (N := 11) rfl ?_); refine box_event ?hg (N := 11) ?hd (cs := #[.int .i64 0, .int .i64 0]) (t := 50) ?hr ?_; (case hd => rfl); (case hg => rfl); (case hr => first | (go_simp; done) | (go_simp; rfl)); intro gb861 hg w44 hbox hb; have BK861 := Aside0.mk (hbox); have GW861 := Aside0.mk ((by rw [hg]; exact (below_size (by repeat (first | (with_reducible first | exact HB.out | apply below_alloc | apply pw_below_drewN | apply below_drew1 | refine below_set ?_ GE847.out | refine below_set ?_ GE848.out | refine below_set ?_ GE849.out | refine below_set ?_ GE853.out | refine below_set ?_ GE857.out) | exact HB.out))) : w.heap.size ≤ gb861)); have GE861 := Aside0.mk ((by rw [hg]; exact (below_size (by repeat (first | (with_reducible first | exact HB.out | apply below_alloc | apply pw_below_drewN | apply below_drew1 | refine below_set ?_ GE847.out | refine below_set ?_ GE848.out | refine below_set ?_ GE849.out | refine below_set ?_ GE853.out | refine below_set ?_ GE857.out) | exact HB.out))) : w.heap.size ≤ gb861)); have NB847_861 := neLA BK847 hg; have NB861_847 := neGA BK847 hg; have NB848_861 := neLA BK848 hg; have NB861_848 := neGA BK848 hg; have NB849_861 := neLA BK849 hg; have NB861_849 := neGA BK849 hg; have NB853_861 := neLA BK853 hg; have NB861_853 := neGA BK853 hg; have NB857_861 := neLA BK857 hg; have NB861_857 := neGA BK857 hg; replace BK847 := bkC BK847 hb; replace BK848 := bkC BK848 hb; replace BK849 := bkC BK849 hb; replace BK853 := bkC BK853 hb; replace BK857 := bkC BK857 hb; replace HB := Aside0.mk (below_step (by repeat (first | (with_reducible first | exact HB.out | apply below_alloc | apply pw_below_drewN | apply below_drew1 | refine below_set ?_ GE847.out | refine below_set ?_ GE848.out | refine below_set ?_ GE849.out | refine below_set ?_ GE853.out | refine below_set ?_ GE857.out) | exact HB.out)) hb); clear hb hbox hg; have hnb45 := NB861_847.out; have hnc45 := NB847_861.out; have hnb46 := NB861_848.out; have hnc46 := NB848_861.out; have hnb47 := NB861_849.out; have hnc47 := NB849_861.out; have hnb48 := NB861_853.out; have hnc48 := NB853_861.out; have hnb49 := NB861_857.out; have hnc49 := NB857_861.out; have hcz50_0 : w44.cell? ⟨gb861, 0, none⟩ = some (.int .i64 0) := (blk_cell BK861.out 0).trans rfl; have hcz50_1 : w44.cell? ⟨gb861, 1, none⟩ = some (.int .i64 0) := (blk_cell BK861.out 1).trans rfl; have hfz50_0 := blk_frozen BK861.out 0; have hfz50_1 := blk_frozen BK861.out 1; have hcz51_0 : w44.cell? ⟨gb847, 0, none⟩ = some (.int .i64 a0_0) := (blk_cell BK847.out 0).trans rfl; have hcz51_1 : w44.cell? ⟨gb847, 1, none⟩ = some (.int .i64 a0_1) := (blk_cell BK847.out 1).trans rfl; have hcz51_2 : w44.cell? ⟨gb847, 2, none⟩ = some (.int .i64 a0_2) := (blk_cell BK847.out 2).trans rfl; have hcz51_3 : w44.cell? ⟨gb847, 3, none⟩ = some (.int .i64 a0_3) := (blk_cell BK847.out 3).trans rfl; have hfz51_0 := blk_frozen BK847.out 0; have hfz51_1 := blk_frozen BK847.out 1; have hfz51_2 := blk_frozen BK847.out 2; have hfz51_3 := blk_frozen BK847.out 3; have hcz52_0 : w44.cell? ⟨gb848, 0, none⟩ = some (.int .i64 a1_0) := (blk_cell BK848.out 0).trans rfl; have hcz52_1 : w44.cell? ⟨gb848, 1, none⟩ = some (.int .i64 a1_1) := (blk_cell BK848.out 1).trans rfl; have hcz52_2 : w44.cell? ⟨gb848, 2, none⟩ = some (.int .i64 a1_2) := (blk_cell BK848.out 2).trans rfl; have hcz52_3 : w44.cell? ⟨gb848, 3, none⟩ = some (.int .i64 a1_3) := (blk_cell BK848.out 3).trans rfl; have hfz52_0 := blk_frozen BK848.out 0; have hfz52_1 := blk_frozen BK848.out 1; have hfz52_2 := blk_frozen BK848.out 2; have hfz52_3 := blk_frozen BK848.out 3) | ((with_reducible refine gate_callee (f := 53) rfl ?_); refine goesL_ (some 38) rfl rfl Try.func53 (by kernel_rfl) rfl #[.agg #[.int .i64 a0_0, .int .i64 a0_1, .int .i64 a0_2, .int .i64 a0_3], .agg #[.int .i64 a1_0, .int .i64 a1_1, .int .i64 a1_2, .int .i64 a1_3]] rfl (by (try simp only [List.map_toArray, List.map_cons, List.map_nil]); first | done | rfl | (simp only [List.length_drop, List.length_take]; rfl)) ?_; (with_reducible refine (boundstoneref02_Dists.calls k a0_0 a0_1 a0_2 a0_3 a1_0 a1_1 a1_2 a1_3 t862 t863 t864 _ A7.out).mono ?_); rintro e w53 ⟨rfl, hb⟩; refine ⟨_, rfl, ?_⟩; replace BK847 := Aside0.mk (blk_below (g := gb847) (o := .cells #[.int .i64 a0_0, .int .i64 a0_1, .int .i64 a0_2, .int .i64 a0_3] 52 (0, 0)) (by (with_reducible repeat (first | refine blk_drewN ?_ _ | refine blk_drew ?_ | refine blk_alloc ?_ _)); refine blk_far ?_ NB847_861.out _; (with_reducible repeat (first | refine blk_drewN ?_ _ | refine blk_drew ?_ | refine blk_alloc ?_ _)); refine blk_far ?_ NB847_861.out _; (with_reducible repeat (first | refine blk_drewN ?_ _ | refine blk_drew ?_ | refine blk_alloc ?_ _)); exact BK847.out) hb); replace BK848 := Aside0.mk (blk_below (g := gb848) (o := .cells #[.int .i64 a1_0, .int .i64 a1_1, .int .i64 a1_2, .int .i64 a1_3] 52 (0, 0)) (by (with_reducible repeat (first | refine blk_drewN ?_ _ | refine blk_drew ?_ | refine blk_alloc ?_ _)); refine blk_far ?_ NB848_861.out _; (with_reducible repeat (first | refine blk_drewN ?_ _ | refine blk_drew ?_ | refine blk_alloc ?_ _)); refine blk_far ?_ NB848_861.out _; (with_reducible repeat (first | refine blk_drewN ?_ _ | refine blk_drew ?_ | refine blk_alloc ?_ _)); exact BK848.out) hb); replace BK849 := Aside0.mk (blk_below (g := gb849) (o := .cells #[.int .i64 a2_0, .int .i64 a2_1, .int .i64 a2_2, .int .i64 a2_3] 52 (0, 0)) (by (with_reducible repeat (first | refine blk_drewN ?_ _ | refine blk_drew ?_ | refine blk_alloc ?_ _)); refine blk_far ?_ NB849_861.out _; (with_reducible repeat (first | refine blk_drewN ?_ _ | refine blk_drew ?_ | refine blk_alloc ?_ _)); refine blk_far ?_ NB849_861.out _; (with_reducible repeat (first | refine blk_drewN ?_ _ | refine blk_drew ?_ | refine blk_alloc ?_ _)); exact BK849.out) hb); replace BK853 := Aside0.mk (blk_below (g := gb853) (o := .cells #[.int .i64 t850, .int .i64 t851] 50 (0, 0)) (by (with_reducible repeat (first | refine blk_drewN ?_ _ | refine blk_drew ?_ | refine blk_alloc ?_ _)); refine blk_far ?_ NB853_861.out _; (with_reducible repeat (first | refine blk_drewN ?_ _ | refine blk_drew ?_ | refine blk_alloc ?_ _)); refine blk_far ?_ NB853_861.out _; (with_reducible repeat (first | refine blk_drewN ?_ _ | refine blk_drew ?_ | refine blk_alloc ?_ _)); exact BK853.out) hb); replace BK857 := Aside0.mk (blk_below (g := gb857) (o := .cells #[.int .i64 t854, .int .i64 t855] 50 (0, 0)) (by (with_reducible repeat (first | refine blk_drewN ?_ _ | refine blk_drew ?_ | refine blk_alloc ?_ _)); refine blk_far ?_ NB857_861.out _; (with_reducible repeat (first | refine blk_drewN ?_ _ | refine blk_drew ?_ | refine blk_alloc ?_ _)); refine blk_far ?_ NB857_861.out _; (with_reducible repeat (first | refine blk_drewN ?_ _ | refine blk_drew ?_ | refine blk_alloc ?_ _)); exact BK857.out) hb); replace BK861 := Aside0.mk (blk_below (g := gb861) (o := .cells #[.int .i64 t858, .int .i64 t859] 50 (0, 0)) (by (with_reducible repeat (first | refine blk_drewN ?_ _ | refine blk_drew ?_ | refine blk_alloc ?_ _)); refine blk_put (cs := #[.int .i64 t858, .int .i64 0]) ?_ 1 _ rfl; (with_reducible repeat (first | refine blk_drewN ?_ _ | refine blk_drew ?_ | refine blk_alloc ?_ _)); refine blk_put (cs := #[.int .i64 0, .int .i64 0]) ?_ 0 _ rfl; (with_reducible repeat (first | refine blk_drewN ?_ _ | refine blk_drew ?_ | refine blk_alloc ?_ _)); exact BK861.out) hb); replace HB := Aside0.mk (below_step (by repeat (first | (with_reducible first | exact HB.out | apply below_alloc | apply pw_below_drewN | apply below_drew1 | refine below_set ?_ GE847.out | refine below_set ?_ GE848.out | refine below_set ?_ GE849.out | refine below_set ?_ GE853.out | refine below_set ?_ GE857.out | refine below_set ?_ GE861.out) | exact HB.out)) hb); (try clear hb); (try clear hb2); (try clear hk); (try clear hi)) | ((with_reducible refine gate_dst (N := 13) rfl ?_); refine box_event ?hg (N := 13) ?hd (cs := #[.int .i64 0, .int .i64 0]) (t := 50) ?hr ?_; (case hd => rfl); (case hg => rfl); (case hr => first | (go_simp; done) | (go_simp; rfl)); intro gb865 hg w54 hbox hb; have BK865 := Aside0.mk (hbox); have GW865 := Aside0.mk ((by rw [hg]; exact (below_size (by repeat (first | (with_reducible first | exact HB.out | apply below_alloc | apply pw_below_drewN | apply below_drew1 | refine below_set ?_ GE847.out | refine below_set ?_ GE848.out | refine below_set ?_ GE849.out | refine below_set ?_ GE853.out | refine below_set ?_ GE857.out | refine below_set ?_ GE861.out) | exact HB.out))) : w.heap.size ≤ gb865)); have GE865 := Aside0.mk ((by rw [hg]; exact (below_size (by repeat (first | (with_reducible first | exact HB.out | apply below_alloc | apply pw_below_drewN | apply below_drew1 | refine below_set ?_ GE847.out | refine below_set ?_ GE848.out | refine below_set ?_ GE849.out | refine below_set ?_ GE853.out | refine below_set ?_ GE857.out | refine below_set ?_ GE861.out) | exact HB.out))) : w.heap.size ≤ gb865)); have NB847_865 := neLA BK847 hg; have NB865_847 := neGA BK847 hg; have NB848_865 := neLA BK848 hg; have NB865_848 := neGA BK848 hg; have NB849_865 := neLA BK849 hg; have NB865_849 := neGA BK849 hg; have NB853_865 := neLA BK853 hg; have NB865_853 := neGA BK853 hg; have NB857_865 := neLA BK857 hg; have NB865_857 := neGA BK857 hg; have NB861_865 := neLA BK861 hg; have NB865_861 := neGA BK861 hg; replace BK847 := bkC BK847 hb; replace BK848 := bkC BK848 hb; replace BK849 := bkC BK849 hb; replace BK853 := bkC BK853 hb; replace BK857 := bkC BK857 hb; replace BK861 := bkC BK861 hb; replace HB := Aside0.mk (below_step (by repeat (first | (with_reducible first | exact HB.out | apply below_alloc | apply pw_below_drewN | apply below_drew1 | refine below_set ?_ GE847.out | refine below_set ?_ GE848.out | refine below_set ?_ GE849.out | refine below_set ?_ GE853.out | refine below_set ?_ GE857.out | refine below_set ?_ GE861.out) | exact HB.out)) hb); clear hb hbox hg; have hnb55 := NB865_847.out; have hnc55 := NB847_865.out; have hnb56 := NB865_848.out; have hnc56 := NB848_865.out; have hnb57 := NB865_849.out; have hnc57 := NB849_865.out; have hnb58 := NB865_853.out; have hnc58 := NB853_865.out; have hnb59 := NB865_857.out; have hnc59 := NB857_865.out; have hnb60 := NB865_861.out; have hnc60 := NB861_865.out; have hcz61_0 : w54.cell? ⟨gb865, 0, none⟩ = some (.int .i64 0) := (blk_cell BK865.out 0).trans rfl; have hcz61_1 : w54.cell? ⟨gb865, 1, none⟩ = some (.int .i64 0) := (blk_cell BK865.out 1).trans rfl; have hfz61_0 := blk_frozen BK865.out 0; have hfz61_1 := blk_frozen BK865.out 1))
      have n0_ : Aside0 (((w54.setCell ⟨gb865, 0, none⟩ (.int .i64 t862)).setCell ⟨gb865, 1, none⟩ (.int .i64 t863)).heap[gb847]? = some (.cells #[.int .i64 a0_0, .int .i64 a0_1, .int .i64 a0_2, .int .i64 a0_3] 52 (0, 0))) := ⟨by (with_reducible repeat (first | refine blk_drewN ?_ _ | refine blk_drew ?_ | refine blk_alloc ?_ _)); refine blk_far ?_ NB847_865.out _; (with_reducible repeat (first | refine blk_drewN ?_ _ | refine blk_drew ?_ | refine blk_alloc ?_ _)); refine blk_far ?_ NB847_865.out _; (with_reducible repeat (first | refine blk_drewN ?_ _ | refine blk_drew ?_ | refine blk_alloc ?_ _)); exact BK847.out⟩
      have n1_ : Aside0 (((w54.setCell ⟨gb865, 0, none⟩ (.int .i64 t862)).setCell ⟨gb865, 1, none⟩ (.int .i64 t863)).heap[gb848]? = some (.cells #[.int .i64 a1_0, .int .i64 a1_1, .int .i64 a1_2, .int .i64 a1_3] 52 (0, 0))) := ⟨by (with_reducible repeat (first | refine blk_drewN ?_ _ | refine blk_drew ?_ | refine blk_alloc ?_ _)); refine blk_far ?_ NB848_865.out _; (with_reducible repeat (first | refine blk_drewN ?_ _ | refine blk_drew ?_ | refine blk_alloc ?_ _)); refine blk_far ?_ NB848_865.out _; (with_reducible repeat (first | refine blk_drewN ?_ _ | refine blk_drew ?_ | refine blk_alloc ?_ _)); exact BK848.out⟩
      have n2_ : Aside0 (((w54.setCell ⟨gb865, 0, none⟩ (.int .i64 t862)).setCell ⟨gb865, 1, none⟩ (.int .i64 t863)).heap[gb849]? = some (.cells #[.int .i64 a2_0, .int .i64 a2_1, .int .i64 a2_2, .int .i64 a2_3] 52 (0, 0))) := ⟨by (with_reducible repeat (first | refine blk_drewN ?_ _ | refine blk_drew ?_ | refine blk_alloc ?_ _)); refine blk_far ?_ NB849_865.out _; (with_reducible repeat (first | refine blk_drewN ?_ _ | refine blk_drew ?_ | refine blk_alloc ?_ _)); refine blk_far ?_ NB849_865.out _; (with_reducible repeat (first | refine blk_drewN ?_ _ | refine blk_drew ?_ | refine blk_alloc ?_ _)); exact BK849.out⟩
      have n3_ : Aside0 (((w54.setCell ⟨gb865, 0, none⟩ (.int .i64 t862)).setCell ⟨gb865, 1, none⟩ (.int .i64 t863)).heap[gb853]? = some (.cells #[.int .i64 t850, .int .i64 t851] 50 (0, 0))) := ⟨by (with_reducible repeat (first | refine blk_drewN ?_ _ | refine blk_drew ?_ | refine blk_alloc ?_ _)); refine blk_far ?_ NB853_865.out _; (with_reducible repeat (first | refine blk_drewN ?_ _ | refine blk_drew ?_ | refine blk_alloc ?_ _)); refine blk_far ?_ NB853_865.out _; (with_reducible repeat (first | refine blk_drewN ?_ _ | refine blk_drew ?_ | refine blk_alloc ?_ _)); exact BK853.out⟩
      have n4_ : Aside0 (((w54.setCell ⟨gb865, 0, none⟩ (.int .i64 t862)).setCell ⟨gb865, 1, none⟩ (.int .i64 t863)).heap[gb857]? = some (.cells #[.int .i64 t854, .int .i64 t855] 50 (0, 0))) := ⟨by (with_reducible repeat (first | refine blk_drewN ?_ _ | refine blk_drew ?_ | refine blk_alloc ?_ _)); refine blk_far ?_ NB857_865.out _; (with_reducible repeat (first | refine blk_drewN ?_ _ | refine blk_drew ?_ | refine blk_alloc ?_ _)); refine blk_far ?_ NB857_865.out _; (with_reducible repeat (first | refine blk_drewN ?_ _ | refine blk_drew ?_ | refine blk_alloc ?_ _)); exact BK857.out⟩
      have n5_ : Aside0 (((w54.setCell ⟨gb865, 0, none⟩ (.int .i64 t862)).setCell ⟨gb865, 1, none⟩ (.int .i64 t863)).heap[gb861]? = some (.cells #[.int .i64 t858, .int .i64 t859] 50 (0, 0))) := ⟨by (with_reducible repeat (first | refine blk_drewN ?_ _ | refine blk_drew ?_ | refine blk_alloc ?_ _)); refine blk_far ?_ NB861_865.out _; (with_reducible repeat (first | refine blk_drewN ?_ _ | refine blk_drew ?_ | refine blk_alloc ?_ _)); refine blk_far ?_ NB861_865.out _; (with_reducible repeat (first | refine blk_drewN ?_ _ | refine blk_drew ?_ | refine blk_alloc ?_ _)); exact BK861.out⟩
      have n6_ : Aside0 (((w54.setCell ⟨gb865, 0, none⟩ (.int .i64 t862)).setCell ⟨gb865, 1, none⟩ (.int .i64 t863)).heap[gb865]? = some (.cells #[.int .i64 t862, .int .i64 t863] 50 (0, 0))) := ⟨by (with_reducible repeat (first | refine blk_drewN ?_ _ | refine blk_drew ?_ | refine blk_alloc ?_ _)); refine blk_put (cs := #[.int .i64 t862, .int .i64 0]) ?_ 1 _ rfl; (with_reducible repeat (first | refine blk_drewN ?_ _ | refine blk_drew ?_ | refine blk_alloc ?_ _)); refine blk_put (cs := #[.int .i64 0, .int .i64 0]) ?_ 0 _ rfl; (with_reducible repeat (first | refine blk_drewN ?_ _ | refine blk_drew ?_ | refine blk_alloc ?_ _)); exact BK865.out⟩
      have n7_ : Aside0 (Below w.heap.size w ((w54.setCell ⟨gb865, 0, none⟩ (.int .i64 t862)).setCell ⟨gb865, 1, none⟩ (.int .i64 t863))) := ⟨by repeat (first | (with_reducible first | exact HB.out | apply below_alloc | apply pw_below_drewN | apply below_drew1 | refine below_set ?_ GE847.out | refine below_set ?_ GE848.out | refine below_set ?_ GE849.out | refine below_set ?_ GE853.out | refine below_set ?_ GE857.out | refine below_set ?_ GE861.out | refine below_set ?_ GE865.out) | exact HB.out)⟩
      (try clear BK847)
      (try clear BK848)
      (try clear BK849)
      (try clear BK853)
      (try clear BK857)
      (try clear BK861)
      (try clear BK865)
      (try clear HB)
      generalize ((w54.setCell ⟨gb865, 0, none⟩ (.int .i64 t862)).setCell ⟨gb865, 1, none⟩ (.int .i64 t863)) = w62 at n0_ n1_ n2_ n3_ n4_ n5_ n6_ n7_ ⊢
      have BK847 := n0_
      have BK848 := n1_
      have BK849 := n2_
      have BK853 := n3_
      have BK857 := n4_
      have BK861 := n5_
      have BK865 := n6_
      have HB := n7_
      clear n0_ n1_ n2_ n3_ n4_ n5_ n6_ n7_
      replace BK847 := Aside0.mk (blk_drew BK847.out)
      replace BK848 := Aside0.mk (blk_drew BK848.out)
      replace BK849 := Aside0.mk (blk_drew BK849.out)
      replace BK853 := Aside0.mk (blk_drew BK853.out)
      replace BK857 := Aside0.mk (blk_drew BK857.out)
      replace BK861 := Aside0.mk (blk_drew BK861.out)
      replace BK865 := Aside0.mk (blk_drew BK865.out)
      replace HB := Aside0.mk (below_drew1 HB.out)
      refine start_ (n := 33) (S := fun w' => w'.cell? ⟨gb853, 0, none⟩ = some (.int .i64 t850) ∧ w'.cell? ⟨gb853, 1, none⟩ = some (.int .i64 t851) ∧ w'.cell? ⟨gb857, 0, none⟩ = some (.int .i64 t854) ∧ w'.cell? ⟨gb857, 1, none⟩ = some (.int .i64 t855) ∧ w'.cell? ⟨gb847, 0, none⟩ = some (.int .i64 a0_0) ∧ w'.cell? ⟨gb847, 1, none⟩ = some (.int .i64 a0_1) ∧ w'.cell? ⟨gb847, 2, none⟩ = some (.int .i64 a0_2) ∧ w'.cell? ⟨gb847, 3, none⟩ = some (.int .i64 a0_3) ∧ w'.cell? ⟨gb848, 0, none⟩ = some (.int .i64 a1_0) ∧ w'.cell? ⟨gb848, 1, none⟩ = some (.int .i64 a1_1) ∧ w'.cell? ⟨gb848, 2, none⟩ = some (.int .i64 a1_2) ∧ w'.cell? ⟨gb848, 3, none⟩ = some (.int .i64 a1_3) ∧ w'.cell? ⟨gb849, 0, none⟩ = some (.int .i64 a2_0) ∧ w'.cell? ⟨gb849, 1, none⟩ = some (.int .i64 a2_1) ∧ w'.cell? ⟨gb849, 2, none⟩ = some (.int .i64 a2_2) ∧ w'.cell? ⟨gb849, 3, none⟩ = some (.int .i64 a2_3) ∧ w'.cell? ⟨gb861, 0, none⟩ = some (.int .i64 t858) ∧ w'.cell? ⟨gb861, 1, none⟩ = some (.int .i64 t859) ∧ w'.cell? ⟨gb865, 0, none⟩ = some (.int .i64 t862) ∧ w'.cell? ⟨gb865, 1, none⟩ = some (.int .i64 t863)) (ds := []) #[false, false, false, false, false, false, false, false, false, false, false, false, false, false, false, false, false, false, false, false, false, false, false, false, false, false, false, false, false, false, false, false, false] (by kernel_rfl) rfl rfl ⟨(blk_cell BK853.out 0).trans rfl, (blk_cell BK853.out 1).trans rfl, (blk_cell BK857.out 0).trans rfl, (blk_cell BK857.out 1).trans rfl, (blk_cell BK847.out 0).trans rfl, (blk_cell BK847.out 1).trans rfl, (blk_cell BK847.out 2).trans rfl, (blk_cell BK847.out 3).trans rfl, (blk_cell BK848.out 0).trans rfl, (blk_cell BK848.out 1).trans rfl, (blk_cell BK848.out 2).trans rfl, (blk_cell BK848.out 3).trans rfl, (blk_cell BK849.out 0).trans rfl, (blk_cell BK849.out 1).trans rfl, (blk_cell BK849.out 2).trans rfl, (blk_cell BK849.out 3).trans rfl, (blk_cell BK861.out 0).trans rfl, (blk_cell BK861.out 1).trans rfl, (blk_cell BK865.out 0).trans rfl, (blk_cell BK865.out 1).trans rfl⟩ (fun hHeld => ?_); refine with_tabW boundstonelaw02_PlaneSpreadsAsSpecified.tab5 boundstonelaw02_PlaneSpreadsAsSpecified.bits5 (fun HT_ HW_ => ?_)
      generalize w62.drew = w63 at BK847 BK848 BK849 BK853 BK857 BK861 BK865 HB hHeld ⊢
      refine one_ (i := 0) (N := some 41) #[true, false, false, false, false, false, false, false, false, false, false, false, false, false, false, false, false, false, false, false, false, false, false, false, false, false, false, false, false, false, false, false, false] rfl rfl (one_of HT_.out (by kernel_rfl)) (by decide) (fun K hK => ?_)
      refine goes_ Try.func42 (by kernel_rfl) rfl #[] (by rfl) rfl rfl (by (try simp only [List.map_toArray, List.map_cons, List.map_nil]); first | done | rfl | (simp only [List.length_drop, List.length_take]; rfl)) ?_
      with_reducible refine (boundstonelaw02_boxes.calls k  true _ A8.out).mono ?_
      rintro e w64 ⟨rfl, hb⟩
      refine ⟨_, rfl, ?_⟩
      replace BK847 := bkC BK847 hb
      replace BK848 := bkC BK848 hb
      replace BK849 := bkC BK849 hb
      replace BK853 := bkC BK853 hb
      replace BK857 := bkC BK857 hb
      replace BK861 := bkC BK861 hb
      replace BK865 := bkC BK865 hb
      replace HB := Aside0.mk (below_step (by repeat (first | (with_reducible first | exact HB.out | apply below_alloc | apply pw_below_drewN | apply below_drew1 | refine below_set ?_ GE847.out | refine below_set ?_ GE848.out | refine below_set ?_ GE849.out | refine below_set ?_ GE853.out | refine below_set ?_ GE857.out | refine below_set ?_ GE861.out | refine below_set ?_ GE865.out) | exact HB.out)) hb)
      (try clear hb)
      (try clear hb2)
      (try clear hk)
      (try clear hi)
      refine hK.out _ _ ⟨(blk_cell BK853.out 0).trans rfl, (blk_cell BK853.out 1).trans rfl, (blk_cell BK857.out 0).trans rfl, (blk_cell BK857.out 1).trans rfl, (blk_cell BK847.out 0).trans rfl, (blk_cell BK847.out 1).trans rfl, (blk_cell BK847.out 2).trans rfl, (blk_cell BK847.out 3).trans rfl, (blk_cell BK848.out 0).trans rfl, (blk_cell BK848.out 1).trans rfl, (blk_cell BK848.out 2).trans rfl, (blk_cell BK848.out 3).trans rfl, (blk_cell BK849.out 0).trans rfl, (blk_cell BK849.out 1).trans rfl, (blk_cell BK849.out 2).trans rfl, (blk_cell BK849.out 3).trans rfl, (blk_cell BK861.out 0).trans rfl, (blk_cell BK861.out 1).trans rfl, (blk_cell BK865.out 0).trans rfl, (blk_cell BK865.out 1).trans rfl⟩ (fun hHeld => ?_)
      clear hK K
      refine norm_ (a' := ?_) ?_ ?_
      rotate_left
      ·show Act.put _ (some 41) _ = _
       simp only [Act.put, List.setIfInBounds_toArray, List.set_cons_zero, List.set_cons_succ, i64_w, i32_w]
       rfl
      refine pure_ (i := 1) (N := some 42) (v := ?_) (a' := ?_) #[true, true, false, false, false, false, false, false, false, false, false, false, false, false, false, false, false, false, false, false, false, false, false, false, false, false, false, false, false, false, false, false, false] rfl rfl (any_of HT_.out (by kernel_rfl)) (fun _ _ _ h => h) (Or.inl ⟨by rfl, ?_⟩) ?_ ?_
      rotate_left
      ·intro w'
       go_simp
       with_reducible rfl
      rotate_left
      ·simp only [Act.put, List.setIfInBounds_toArray, List.set_cons_zero, List.set_cons_succ, i64_w, i32_w]
       rfl
      refine take_ (i := 2) (N := some 43) (v := ?_) (a' := ?_) #[true, true, true, false, false, false, false, false, false, false, false, false, false, false, false, false, false, false, false, false, false, false, false, false, false, false, false, false, false, false, false, false, false] rfl rfl (take_ofW HT_.out HW_.out (by kernel_rfl)) (fun _ _ _ h => h) (Or.inl ⟨by rfl, ?_⟩) hHeld ?_ ?_
      rotate_left
      ·rintro w' ⟨s0, s1, s2, s3, s4, s5, s6, s7, s8, s9, s10, s11, s12, s13, s14, s15, s16, s17, s18, s19⟩
       go_simp
       with_reducible rfl
      rotate_left
      ·simp only [Act.put, List.setIfInBounds_toArray, List.set_cons_zero, List.set_cons_succ, i64_w, i32_w]
       rfl
      refine take_ (i := 3) (N := some 44) (v := ?_) (a' := ?_) #[true, true, true, true, false, false, false, false, false, false, false, false, false, false, false, false, false, false, false, false, false, false, false, false, false, false, false, false, false, false, false, false, false] rfl rfl (take_ofW HT_.out HW_.out (by kernel_rfl)) (fun _ _ _ h => h) (Or.inl ⟨by rfl, ?_⟩) hHeld ?_ ?_
      rotate_left
      ·rintro w' ⟨s0, s1, s2, s3, s4, s5, s6, s7, s8, s9, s10, s11, s12, s13, s14, s15, s16, s17, s18, s19⟩
       go_simp
       with_reducible rfl
      rotate_left
      ·simp only [Act.put, List.setIfInBounds_toArray, List.set_cons_zero, List.set_cons_succ, i64_w, i32_w]
       rfl
      refine pure_ (i := 4) (N := some 45) (v := ?_) (a' := ?_) #[true, true, true, true, true, false, false, false, false, false, false, false, false, false, false, false, false, false, false, false, false, false, false, false, false, false, false, false, false, false, false, false, false] rfl rfl (any_of HT_.out (by kernel_rfl)) (fun _ _ _ h => h) (Or.inl ⟨by rfl, ?_⟩) ?_ ?_
      rotate_left
      ·intro w'
       go_simp
       with_reducible rfl
      rotate_left
      ·simp only [Act.put, List.setIfInBounds_toArray, List.set_cons_zero, List.set_cons_succ, i64_w, i32_w]
       rfl
      refine pure_ (i := 5) (N := some 46) (v := ?_) (a' := ?_) #[true, true, true, true, true, true, false, false, false, false, false, false, false, false, false, false, false, false, false, false, false, false, false, false, false, false, false, false, false, false, false, false, false] rfl rfl (any_of HT_.out (by kernel_rfl)) (fun _ _ _ h => h) (Or.inl ⟨by rfl, ?_⟩) ?_ ?_
      rotate_left
      ·intro w'
       go_simp
       with_reducible rfl
      rotate_left
      ·simp only [Act.put, List.setIfInBounds_toArray, List.set_cons_zero, List.set_cons_succ, i64_w, i32_w]
       rfl
      refine pure_ (i := 6) (N := some 47) (v := ?_) (a' := ?_) #[true, true, true, true, true, true, true, false, false, false, false, false, false, false, false, false, false, false, false, false, false, false, false, false, false, false, false, false, false, false, false, false, false] rfl rfl (any_of HT_.out (by kernel_rfl)) (fun _ _ _ h => h) (Or.inl ⟨by rfl, ?_⟩) ?_ ?_
      rotate_left
      ·intro w'
       go_simp
       with_reducible rfl
      rotate_left
      ·simp only [Act.put, List.setIfInBounds_toArray, List.set_cons_zero, List.set_cons_succ, i64_w, i32_w]
       rfl
      refine pure_ (i := 7) (N := some 48) (v := ?_) (a' := ?_) #[true, true, true, true, true, true, true, true, false, false, false, false, false, false, false, false, false, false, false, false, false, false, false, false, false, false, false, false, false, false, false, false, false] rfl rfl (any_of HT_.out (by kernel_rfl)) (fun _ _ _ h => h) (Or.inl ⟨by rfl, ?_⟩) ?_ ?_
      rotate_left
      ·intro w'
       go_simp
       with_reducible rfl
      rotate_left
      ·simp only [Act.put, List.setIfInBounds_toArray, List.set_cons_zero, List.set_cons_succ, i64_w, i32_w]
       rfl
      refine pure_ (i := 8) (N := some 49) (v := ?_) (a' := ?_) #[true, true, true, true, true, true, true, true, true, false, false, false, false, false, false, false, false, false, false, false, false, false, false, false, false, false, false, false, false, false, false, false, false] rfl rfl (any_of HT_.out (by kernel_rfl)) (fun _ _ _ h => h) (Or.inl ⟨by rfl, ?_⟩) ?_ ?_
      rotate_left
      ·intro w'
       go_simp
       with_reducible rfl
      rotate_left
      ·simp only [Act.put, List.setIfInBounds_toArray, List.set_cons_zero, List.set_cons_succ, i64_w, i32_w]
       rfl
      refine pure_ (i := 9) (N := some 50) (v := ?_) (a' := ?_) #[true, true, true, true, true, true, true, true, true, true, false, false, false, false, false, false, false, false, false, false, false, false, false, false, false, false, false, false, false, false, false, false, false] rfl rfl (any_of HT_.out (by kernel_rfl)) (fun _ _ _ h => h) (Or.inl ⟨by rfl, ?_⟩) ?_ ?_
      rotate_left
      ·intro w'
       go_simp
       with_reducible rfl
      rotate_left
      ·simp only [Act.put, List.setIfInBounds_toArray, List.set_cons_zero, List.set_cons_succ, i64_w, i32_w]
       rfl
      refine pure_ (i := 10) (N := some 51) (v := ?_) (a' := ?_) #[true, true, true, true, true, true, true, true, true, true, true, false, false, false, false, false, false, false, false, false, false, false, false, false, false, false, false, false, false, false, false, false, false] rfl rfl (any_of HT_.out (by kernel_rfl)) (fun _ _ _ h => h) (Or.inl ⟨by rfl, ?_⟩) ?_ ?_
      rotate_left
      ·intro w'
       go_simp
       with_reducible rfl
      rotate_left
      ·simp only [Act.put, List.setIfInBounds_toArray, List.set_cons_zero, List.set_cons_succ, i64_w, i32_w]
       rfl
      refine pure_ (i := 11) (N := some 52) (v := ?_) (a' := ?_) #[true, true, true, true, true, true, true, true, true, true, true, true, false, false, false, false, false, false, false, false, false, false, false, false, false, false, false, false, false, false, false, false, false] rfl rfl (any_of HT_.out (by kernel_rfl)) (fun _ _ _ h => h) (Or.inl ⟨by rfl, ?_⟩) ?_ ?_
      rotate_left
      ·intro w'
       go_simp
       with_reducible rfl
      rotate_left
      ·simp only [Act.put, List.setIfInBounds_toArray, List.set_cons_zero, List.set_cons_succ, i64_w, i32_w]
       rfl
      refine take_ (i := 12) (N := some 53) (v := ?_) (a' := ?_) #[true, true, true, true, true, true, true, true, true, true, true, true, true, false, false, false, false, false, false, false, false, false, false, false, false, false, false, false, false, false, false, false, false] rfl rfl (take_ofW HT_.out HW_.out (by kernel_rfl)) (fun _ _ _ h => h) (Or.inl ⟨by rfl, ?_⟩) hHeld ?_ ?_
      rotate_left
      ·rintro w' ⟨s0, s1, s2, s3, s4, s5, s6, s7, s8, s9, s10, s11, s12, s13, s14, s15, s16, s17, s18, s19⟩
       go_simp
       with_reducible rfl
      rotate_left
      ·simp only [Act.put, List.setIfInBounds_toArray, List.set_cons_zero, List.set_cons_succ, i64_w, i32_w]
       rfl
      refine take_ (i := 13) (N := some 54) (v := ?_) (a' := ?_) #[true, true, true, true, true, true, true, true, true, true, true, true, true, true, false, false, false, false, false, false, false, false, false, false, false, false, false, false, false, false, false, false, false] rfl rfl (take_ofW HT_.out HW_.out (by kernel_rfl)) (fun _ _ _ h => h) (Or.inl ⟨by rfl, ?_⟩) hHeld ?_ ?_
      rotate_left
      ·rintro w' ⟨s0, s1, s2, s3, s4, s5, s6, s7, s8, s9, s10, s11, s12, s13, s14, s15, s16, s17, s18, s19⟩
       go_simp
       with_reducible rfl
      rotate_left
      ·simp only [Act.put, List.setIfInBounds_toArray, List.set_cons_zero, List.set_cons_succ, i64_w, i32_w]
       rfl
      refine take_ (i := 14) (N := some 55) (v := ?_) (a' := ?_) #[true, true, true, true, true, true, true, true, true, true, true, true, true, true, true, false, false, false, false, false, false, false, false, false, false, false, false, false, false, false, false, false, false] rfl rfl (take_ofW HT_.out HW_.out (by kernel_rfl)) (fun _ _ _ h => h) (Or.inl ⟨by rfl, ?_⟩) hHeld ?_ ?_
      rotate_left
      ·rintro w' ⟨s0, s1, s2, s3, s4, s5, s6, s7, s8, s9, s10, s11, s12, s13, s14, s15, s16, s17, s18, s19⟩
       go_simp
       with_reducible rfl
      rotate_left
      ·simp only [Act.put, List.setIfInBounds_toArray, List.set_cons_zero, List.set_cons_succ, i64_w, i32_w]
       rfl
      refine take_ (i := 16) (N := some 57) (v := ?_) (a' := ?_) #[true, true, true, true, true, true, true, true, true, true, true, true, true, true, true, false, true, false, false, false, false, false, false, false, false, false, false, false, false, false, false, false, false] rfl rfl (take_ofW HT_.out HW_.out (by kernel_rfl)) (fun _ _ _ h => h) (Or.inl ⟨by rfl, ?_⟩) hHeld ?_ ?_
      rotate_left
      ·rintro w' ⟨s0, s1, s2, s3, s4, s5, s6, s7, s8, s9, s10, s11, s12, s13, s14, s15, s16, s17, s18, s19⟩
       go_simp
       with_reducible rfl
      rotate_left
      ·simp only [Act.put, List.setIfInBounds_toArray, List.set_cons_zero, List.set_cons_succ, i64_w, i32_w]
       rfl
      refine take_ (i := 17) (N := some 58) (v := ?_) (a' := ?_) #[true, true, true, true, true, true, true, true, true, true, true, true, true, true, true, false, true, true, false, false, false, false, false, false, false, false, false, false, false, false, false, false, false] rfl rfl (take_ofW HT_.out HW_.out (by kernel_rfl)) (fun _ _ _ h => h) (Or.inl ⟨by rfl, ?_⟩) hHeld ?_ ?_
      rotate_left
      ·rintro w' ⟨s0, s1, s2, s3, s4, s5, s6, s7, s8, s9, s10, s11, s12, s13, s14, s15, s16, s17, s18, s19⟩
       go_simp
       with_reducible rfl
      rotate_left
      ·simp only [Act.put, List.setIfInBounds_toArray, List.set_cons_zero, List.set_cons_succ, i64_w, i32_w]
       rfl
      refine take_ (i := 18) (N := some 59) (v := ?_) (a' := ?_) #[true, true, true, true, true, true, true, true, true, true, true, true, true, true, true, false, true, true, true, false, false, false, false, false, false, false, false, false, false, false, false, false, false] rfl rfl (take_ofW HT_.out HW_.out (by kernel_rfl)) (fun _ _ _ h => h) (Or.inl ⟨by rfl, ?_⟩) hHeld ?_ ?_
      rotate_left
      ·rintro w' ⟨s0, s1, s2, s3, s4, s5, s6, s7, s8, s9, s10, s11, s12, s13, s14, s15, s16, s17, s18, s19⟩
       go_simp
       with_reducible rfl
      rotate_left
      ·simp only [Act.put, List.setIfInBounds_toArray, List.set_cons_zero, List.set_cons_succ, i64_w, i32_w]
       rfl
      refine one_ (i := 15) (N := some 56) #[true, true, true, true, true, true, true, true, true, true, true, true, true, true, true, true, true, true, true, false, false, false, false, false, false, false, false, false, false, false, false, false, false] rfl rfl (one_of HT_.out (by kernel_rfl)) (by decide) (fun K hK => ?_)
      refine goes_ Try.func54 (by kernel_rfl) rfl #[.agg #[.int .i64 a0_0, .int .i64 a0_1, .int .i64 a0_2, .int .i64 a0_3], .agg #[.int .i64 a1_0, .int .i64 a1_1, .int .i64 a1_2, .int .i64 a1_3], .agg #[.int .i64 a2_0, .int .i64 a2_1, .int .i64 a2_2, .int .i64 a2_3]] (by rfl) rfl rfl (by (try simp only [List.map_toArray, List.map_cons, List.map_nil]); first | done | rfl | (simp only [List.length_drop, List.length_take]; rfl)) ?_
      with_reducible refine (plane_Turns.calls k a0_0 a0_1 a0_2 a0_3 a1_0 a1_1 a1_2 a1_3 a2_0 a2_1 a2_2 a2_3 t867 _ A12.out).mono ?_
      rintro e w65 ⟨rfl, hb⟩
      refine ⟨_, rfl, ?_⟩
      replace BK847 := bkC BK847 hb
      replace BK848 := bkC BK848 hb
      replace BK849 := bkC BK849 hb
      replace BK853 := bkC BK853 hb
      replace BK857 := bkC BK857 hb
      replace BK861 := bkC BK861 hb
      replace BK865 := bkC BK865 hb
      replace HB := Aside0.mk (below_step (by repeat (first | (with_reducible first | exact HB.out | apply below_alloc | apply pw_below_drewN | apply below_drew1 | refine below_set ?_ GE847.out | refine below_set ?_ GE848.out | refine below_set ?_ GE849.out | refine below_set ?_ GE853.out | refine below_set ?_ GE857.out | refine below_set ?_ GE861.out | refine below_set ?_ GE865.out) | exact HB.out)) hb)
      (try clear hb)
      (try clear hb2)
      (try clear hk)
      (try clear hi)
      refine hK.out _ _ ⟨(blk_cell BK853.out 0).trans rfl, (blk_cell BK853.out 1).trans rfl, (blk_cell BK857.out 0).trans rfl, (blk_cell BK857.out 1).trans rfl, (blk_cell BK847.out 0).trans rfl, (blk_cell BK847.out 1).trans rfl, (blk_cell BK847.out 2).trans rfl, (blk_cell BK847.out 3).trans rfl, (blk_cell BK848.out 0).trans rfl, (blk_cell BK848.out 1).trans rfl, (blk_cell BK848.out 2).trans rfl, (blk_cell BK848.out 3).trans rfl, (blk_cell BK849.out 0).trans rfl, (blk_cell BK849.out 1).trans rfl, (blk_cell BK849.out 2).trans rfl, (blk_cell BK849.out 3).trans rfl, (blk_cell BK861.out 0).trans rfl, (blk_cell BK861.out 1).trans rfl, (blk_cell BK865.out 0).trans rfl, (blk_cell BK865.out 1).trans rfl⟩ (fun hHeld => ?_)
      clear hK K
      refine norm_ (a' := ?_) ?_ ?_
      rotate_left
      ·show Act.put _ (some 56) _ = _
       simp only [Act.put, List.setIfInBounds_toArray, List.set_cons_zero, List.set_cons_succ, i64_w, i32_w]
       rfl
      refine one_ (i := 19) (N := some 60) #[true, true, true, true, true, true, true, true, true, true, true, true, true, true, true, true, true, true, true, true, false, false, false, false, false, false, false, false, false, false, false, false, false] rfl rfl (one_of HT_.out (by kernel_rfl)) (by decide) (fun K hK => ?_)
      refine goes_ Try.func55 (by kernel_rfl) rfl #[.agg #[.int .i64 a0_0, .int .i64 a0_1, .int .i64 a0_2, .int .i64 a0_3], .agg #[.int .i64 a1_0, .int .i64 a1_1, .int .i64 a1_2, .int .i64 a1_3], .agg #[.int .i64 a2_0, .int .i64 a2_1, .int .i64 a2_2, .int .i64 a2_3]] (by rfl) rfl rfl (by (try simp only [List.map_toArray, List.map_cons, List.map_nil]); first | done | rfl | (simp only [List.length_drop, List.length_take]; rfl)) ?_
      with_reducible refine (boundstoneref02_Turns.calls k a0_0 a0_1 a0_2 a0_3 a1_0 a1_1 a1_2 a1_3 a2_0 a2_1 a2_2 a2_3 t868 _ A13.out).mono ?_
      rintro e w66 ⟨rfl, hb⟩
      refine ⟨_, rfl, ?_⟩
      replace BK847 := bkC BK847 hb
      replace BK848 := bkC BK848 hb
      replace BK849 := bkC BK849 hb
      replace BK853 := bkC BK853 hb
      replace BK857 := bkC BK857 hb
      replace BK861 := bkC BK861 hb
      replace BK865 := bkC BK865 hb
      replace HB := Aside0.mk (below_step (by repeat (first | (with_reducible first | exact HB.out | apply below_alloc | apply pw_below_drewN | apply below_drew1 | refine below_set ?_ GE847.out | refine below_set ?_ GE848.out | refine below_set ?_ GE849.out | refine below_set ?_ GE853.out | refine below_set ?_ GE857.out | refine below_set ?_ GE861.out | refine below_set ?_ GE865.out) | exact HB.out)) hb)
      (try clear hb)
      (try clear hb2)
      (try clear hk)
      (try clear hi)
      refine hK.out _ _ ⟨(blk_cell BK853.out 0).trans rfl, (blk_cell BK853.out 1).trans rfl, (blk_cell BK857.out 0).trans rfl, (blk_cell BK857.out 1).trans rfl, (blk_cell BK847.out 0).trans rfl, (blk_cell BK847.out 1).trans rfl, (blk_cell BK847.out 2).trans rfl, (blk_cell BK847.out 3).trans rfl, (blk_cell BK848.out 0).trans rfl, (blk_cell BK848.out 1).trans rfl, (blk_cell BK848.out 2).trans rfl, (blk_cell BK848.out 3).trans rfl, (blk_cell BK849.out 0).trans rfl, (blk_cell BK849.out 1).trans rfl, (blk_cell BK849.out 2).trans rfl, (blk_cell BK849.out 3).trans rfl, (blk_cell BK861.out 0).trans rfl, (blk_cell BK861.out 1).trans rfl, (blk_cell BK865.out 0).trans rfl, (blk_cell BK865.out 1).trans rfl⟩ (fun hHeld => ?_)
      clear hK K
      refine norm_ (a' := ?_) ?_ ?_
      rotate_left
      ·show Act.put _ (some 60) _ = _
       simp only [Act.put, List.setIfInBounds_toArray, List.set_cons_zero, List.set_cons_succ, i64_w, i32_w]
       rfl
      refine pure_ (i := 20) (N := some 61) (v := ?_) (a' := ?_) #[true, true, true, true, true, true, true, true, true, true, true, true, true, true, true, true, true, true, true, true, true, false, false, false, false, false, false, false, false, false, false, false, false] rfl rfl (any_of HT_.out (by kernel_rfl)) (fun _ _ _ h => h) (Or.inl ⟨by rfl, ?_⟩) ?_ ?_
      rotate_left
      ·intro w'
       go_simp
       with_reducible rfl
      rotate_left
      ·simp only [Act.put, List.setIfInBounds_toArray, List.set_cons_zero, List.set_cons_succ, i64_w, i32_w]
       rfl
      refine pure_ (i := 21) (N := some 62) (v := ?_) (a' := ?_) #[true, true, true, true, true, true, true, true, true, true, true, true, true, true, true, true, true, true, true, true, true, true, false, false, false, false, false, false, false, false, false, false, false] rfl rfl (any_of HT_.out (by kernel_rfl)) (fun _ _ _ h => h) (Or.inl ⟨by rfl, ?_⟩) ?_ ?_
      rotate_left
      ·intro w'
       go_simp
       with_reducible rfl
      rotate_left
      ·simp only [Act.put, List.setIfInBounds_toArray, List.set_cons_zero, List.set_cons_succ, i64_w, i32_w]
       rfl
      refine pure_ (i := 22) (N := some 63) (v := ?_) (a' := ?_) #[true, true, true, true, true, true, true, true, true, true, true, true, true, true, true, true, true, true, true, true, true, true, true, false, false, false, false, false, false, false, false, false, false] rfl rfl (any_of HT_.out (by kernel_rfl)) (fun _ _ _ h => h) (Or.inl ⟨by rfl, ?_⟩) ?_ ?_
      rotate_left
      ·intro w'
       go_simp
       with_reducible rfl
      rotate_left
      ·simp only [Act.put, List.setIfInBounds_toArray, List.set_cons_zero, List.set_cons_succ, i64_w, i32_w]
       rfl
      refine take_ (i := 23) (N := some 64) (v := ?_) (a' := ?_) #[true, true, true, true, true, true, true, true, true, true, true, true, true, true, true, true, true, true, true, true, true, true, true, true, false, false, false, false, false, false, false, false, false] rfl rfl (take_ofW HT_.out HW_.out (by kernel_rfl)) (fun _ _ _ h => h) (Or.inl ⟨by rfl, ?_⟩) hHeld ?_ ?_
      rotate_left
      ·rintro w' ⟨s0, s1, s2, s3, s4, s5, s6, s7, s8, s9, s10, s11, s12, s13, s14, s15, s16, s17, s18, s19⟩
       go_simp
       with_reducible rfl
      rotate_left
      ·simp only [Act.put, List.setIfInBounds_toArray, List.set_cons_zero, List.set_cons_succ, i64_w, i32_w]
       rfl
      refine take_ (i := 24) (N := some 65) (v := ?_) (a' := ?_) #[true, true, true, true, true, true, true, true, true, true, true, true, true, true, true, true, true, true, true, true, true, true, true, true, true, false, false, false, false, false, false, false, false] rfl rfl (take_ofW HT_.out HW_.out (by kernel_rfl)) (fun _ _ _ h => h) (Or.inl ⟨by rfl, ?_⟩) hHeld ?_ ?_
      rotate_left
      ·rintro w' ⟨s0, s1, s2, s3, s4, s5, s6, s7, s8, s9, s10, s11, s12, s13, s14, s15, s16, s17, s18, s19⟩
       go_simp
       with_reducible rfl
      rotate_left
      ·simp only [Act.put, List.setIfInBounds_toArray, List.set_cons_zero, List.set_cons_succ, i64_w, i32_w]
       rfl
      refine pure_ (i := 25) (N := some 66) (v := ?_) (a' := ?_) #[true, true, true, true, true, true, true, true, true, true, true, true, true, true, true, true, true, true, true, true, true, true, true, true, true, true, false, false, false, false, false, false, false] rfl rfl (any_of HT_.out (by kernel_rfl)) (fun _ _ _ h => h) (Or.inl ⟨by rfl, ?_⟩) ?_ ?_
      rotate_left
      ·intro w'
       go_simp
       with_reducible rfl
      rotate_left
      ·simp only [Act.put, List.setIfInBounds_toArray, List.set_cons_zero, List.set_cons_succ, i64_w, i32_w]
       rfl
      refine pure_ (i := 26) (N := some 67) (v := ?_) (a' := ?_) #[true, true, true, true, true, true, true, true, true, true, true, true, true, true, true, true, true, true, true, true, true, true, true, true, true, true, true, false, false, false, false, false, false] rfl rfl (any_of HT_.out (by kernel_rfl)) (fun _ _ _ h => h) (Or.inl ⟨by rfl, ?_⟩) ?_ ?_
      rotate_left
      ·intro w'
       go_simp
       with_reducible rfl
      rotate_left
      ·simp only [Act.put, List.setIfInBounds_toArray, List.set_cons_zero, List.set_cons_succ, i64_w, i32_w]
       rfl
      refine pure_ (i := 27) (N := some 68) (v := ?_) (a' := ?_) #[true, true, true, true, true, true, true, true, true, true, true, true, true, true, true, true, true, true, true, true, true, true, true, true, true, true, true, true, false, false, false, false, false] rfl rfl (any_of HT_.out (by kernel_rfl)) (fun _ _ _ h => h) (Or.inl ⟨by rfl, ?_⟩) ?_ ?_
      rotate_left
      ·intro w'
       go_simp
       with_reducible rfl
      rotate_left
      ·simp only [Act.put, List.setIfInBounds_toArray, List.set_cons_zero, List.set_cons_succ, i64_w, i32_w]
       rfl
      refine pure_ (i := 28) (N := some 69) (v := ?_) (a' := ?_) #[true, true, true, true, true, true, true, true, true, true, true, true, true, true, true, true, true, true, true, true, true, true, true, true, true, true, true, true, true, false, false, false, false] rfl rfl (any_of HT_.out (by kernel_rfl)) (fun _ _ _ h => h) (Or.inl ⟨by rfl, ?_⟩) ?_ ?_
      rotate_left
      ·intro w'
       go_simp
       with_reducible rfl
      rotate_left
      ·simp only [Act.put, List.setIfInBounds_toArray, List.set_cons_zero, List.set_cons_succ, i64_w, i32_w]
       rfl
      refine pure_ (i := 29) (N := some 70) (v := ?_) (a' := ?_) #[true, true, true, true, true, true, true, true, true, true, true, true, true, true, true, true, true, true, true, true, true, true, true, true, true, true, true, true, true, true, false, false, false] rfl rfl (any_of HT_.out (by kernel_rfl)) (fun _ _ _ h => h) (Or.inl ⟨by rfl, ?_⟩) ?_ ?_
      rotate_left
      ·intro w'
       go_simp
       with_reducible rfl
      rotate_left
      ·simp only [Act.put, List.setIfInBounds_toArray, List.set_cons_zero, List.set_cons_succ, i64_w, i32_w]
       rfl
      refine pure_ (i := 30) (N := some 71) (v := ?_) (a' := ?_) #[true, true, true, true, true, true, true, true, true, true, true, true, true, true, true, true, true, true, true, true, true, true, true, true, true, true, true, true, true, true, true, false, false] rfl rfl (any_of HT_.out (by kernel_rfl)) (fun _ _ _ h => h) (Or.inl ⟨by rfl, ?_⟩) ?_ ?_
      rotate_left
      ·intro w'
       go_simp
       with_reducible rfl
      rotate_left
      ·simp only [Act.put, List.setIfInBounds_toArray, List.set_cons_zero, List.set_cons_succ, i64_w, i32_w]
       rfl
      refine pure_ (i := 31) (N := some 72) (v := ?_) (a' := ?_) #[true, true, true, true, true, true, true, true, true, true, true, true, true, true, true, true, true, true, true, true, true, true, true, true, true, true, true, true, true, true, true, true, false] rfl rfl (any_of HT_.out (by kernel_rfl)) (fun _ _ _ h => h) (Or.inl ⟨by rfl, ?_⟩) ?_ ?_
      rotate_left
      ·intro w'
       go_simp
       with_reducible rfl
      rotate_left
      ·simp only [Act.put, List.setIfInBounds_toArray, List.set_cons_zero, List.set_cons_succ, i64_w, i32_w]
       rfl
      refine pure_ (i := 32) (N := some 6) (v := ?_) (a' := ?_) #[true, true, true, true, true, true, true, true, true, true, true, true, true, true, true, true, true, true, true, true, true, true, true, true, true, true, true, true, true, true, true, true, true] rfl rfl (any_of HT_.out (by kernel_rfl)) (fun _ _ _ h => h) (Or.inl ⟨by rfl, ?_⟩) ?_ ?_
      rotate_left
      ·intro w'
       go_simp
       with_reducible rfl
      rotate_left
      ·simp only [Act.put, List.setIfInBounds_toArray, List.set_cons_zero, List.set_cons_succ, i64_w, i32_w]
       rfl
      refine done_ (done_of HT_.out (by kernel_rfl)) ?_
      try go_wp2
      go_ret
      exact ⟨by first | rfl | (simp [errW_none, errW_some] <;> rfl) | (simp [*, errW_none, errW_some] <;> rfl), by repeat (first | (with_reducible first | exact HB.out | apply below_alloc | apply pw_below_drewN | apply below_drew1 | refine below_set ?_ GE847.out | refine below_set ?_ GE848.out | refine below_set ?_ GE849.out | refine below_set ?_ GE853.out | refine below_set ?_ GE857.out | refine below_set ?_ GE861.out | refine below_set ?_ GE865.out) | exact HB.out)⟩
     ·rw [if_neg c15] at H
      exact absurd H (by simp)
    ·rw [if_neg c14] at H
     exact absurd H (by simp)
   ·rw [if_neg c11] at H
    exact absurd H (by simp)
  ·rw [if_neg c10] at H
   exact absurd H (by simp)
 ·replace c9 := Bool.eq_false_iff.mpr c9
  subst c9
  have H1 : (none) = some r := by rw [if_neg (show ¬ (false = true) by decide)] at H; exact H
  clear H
  have H := H1
  clear H1
  exact absurd H (by simp)
end Go.Proofs.Ytckaejgamfllfaa.G
end

section
namespace Go.Proofs.Ytckaejgamfllfaa.G
open Go.RowKit Go.Proofs.YtckaejgamfllfaaW.PrintWords Go.Proofs.YtckaejgamfllfaaW.PrintLast Go.Proofs.YtckaejgamfllfaaW.PrintMore
set_option linter.unusedVariables false
set_option linter.unusedSimpArgs false
theorem law12 (a b c d e f g h i j k l : Int) : boundstonelaw02_PlaneSpreadsAsSpecified.f 200 a b c d e f g h i j k l = some true := by
  unfold boundstonelaw02_PlaneSpreadsAsSpecified.f
  rw [plane_Dists_eq 199, ref_Dists_eq 199]
  simp only [plane_Spread_eq, ref_Spread_eq, plane_Turns_eq 195, ref_Turns_eq 195, Option.bind_some, boxes_eq 200 (by omega), beq_self_eq_true, Bool.and_self, if_true]
end Go.Proofs.Ytckaejgamfllfaa.G
end

section
namespace Go.Proofs.Ytckaejgamfllfaa.G
open Go.ChangeShapes Go.WideShapes Go.ChangeAt Go.RowKit Go.Deep Go.Proofs.YtckaejgamfllfaaW.PrintWords
variable {H : Type} {enc : TypeId × Value → H} {w : World} {base : Nat} {spare : Nat → Bool} {held : Bool}
theorem cells50 : Try.prog.cellsOf 50 = 2 := by kernel_rfl
theorem span_cs {fuel : Nat} {cs : List Value} {x : DataW H × List MemPlace} (h : DataW.trod enc Try.prog w base spare held fuel 50 cs = some x) :
    ∃ a b : Int, cs = [.int .i64 a, .int .i64 b] ∧ I64 a ∧ I64 b := by
  obtain ⟨y0, y1, n, _, hl, h0, h1⟩ := trod_struct2 Try.underlying50 h
  rw [cells50] at hl
  obtain ⟨c0, c1, rfl⟩ := list2 hl
  rw [cells3] at h0 h1
  obtain ⟨a, e0, _, wa⟩ := DataW.trod_int Try.underlying3 h0
  obtain ⟨b, e1, _, wb⟩ := DataW.trod_int Try.underlying3 h1
  simp at e0 e1
  subst e0 e1
  exact ⟨a, b, rfl, .of_wf wa, .of_wf wb⟩
theorem cells52 : Try.prog.cellsOf 52 = 4 := by kernel_rfl
theorem box_cs {fuel : Nat} {cs : List Value} {x : DataW H × List MemPlace} (h : DataW.trod enc Try.prog w base spare held fuel 52 cs = some x) :
    ∃ a b c d : Int, cs = [.int .i64 a, .int .i64 b, .int .i64 c, .int .i64 d] ∧ (I64 a ∧ I64 b) ∧ I64 c ∧ I64 d := by
  obtain ⟨y0, y1, n, _, hl, h0, h1⟩ := trod_struct2 Try.underlying52 h
  rw [cells52] at hl
  obtain ⟨c0, c1, c2, c3, rfl⟩ := list4 hl
  rw [cells50] at h0 h1
  obtain ⟨a, b, e0, wp⟩ := span_cs h0
  obtain ⟨c, d, e1, wq⟩ := span_cs h1
  simp at e0 e1
  obtain ⟨rfl, rfl⟩ := e0
  obtain ⟨rfl, rfl⟩ := e1
  exact ⟨a, b, c, d, rfl, wp, wq⟩
set_option maxRecDepth 100000 in
theorem open_box {r : Reach} {b0 : Nat} {v : Value} {d : DataW H} {ps : List MemPlace} (hv : Value.okWide Try.prog w r b0 52 v) (h : DataW.Trod enc Try.prog w base spare held 52 v d ps) :
    ∃ x0 x1 x2 x3 : Int, v = .agg #[.int .i64 x0, .int .i64 x1, .int .i64 x2, .int .i64 x3] ∧ (I64 x0 ∧ I64 x1) ∧ I64 x2 ∧ I64 x3 := by
  obtain ⟨cs, rfl, _⟩ := okWide_struct Try.underlying52 hv
  obtain ⟨fuel, hf⟩ := h
  obtain ⟨a, b, c, d, e, hp⟩ := box_cs hf
  exact ⟨a, b, c, d, by rw [arr_of_list e], hp⟩
end Go.Proofs.Ytckaejgamfllfaa.G
end
