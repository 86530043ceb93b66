/- Part 6 of 6. -/
import Derived.Test.YtckaejgamfllfaaDe
section
namespace Go.Proofs.Ytckaejgamfllfaa.G
open Go.RowKit Go.Proofs.YtckaejgamfllfaaW.PrintWords Go.Proofs.YtckaejgamfllfaaW.PrintLast Go.Proofs.YtckaejgamfllfaaW.PrintMore
attribute [local go_sem] max2_int min2_int max_two min_two max_three min_three max_four min_four
set_option linter.unusedVariables false
set_option linter.unusedSimpArgs false
attribute [local go_sem high] eqA50 eqA52
mutual
def boundstonelaw02_boxes.j0 : Nat → List Int → Int → Bool → Bool → Bool → Bool → Bool → Int → Int → Int → Int → Int → Int → Int → Int → Int → Int → Int → Int → Int → Int → Int → Int → Option (Bool)
 | 0, _, _, _, _, _, _, _, _, _, _, _, _, _, _, _, _, _, _, _, _, _, _, _ => none
 | k + 1, x3, x4, x6, x9, x11, x13, x14, x661000, x661001, x661002, x661003, x675000, x675001, x675002, x675003, x676000, x676001, x676002, x676003, x692000, x692001, x704000, x704001 => if x4 = 0 then ((boundstoneref02_SameInts.f k x3 (([2, 1, 0, 3] : List Int))).bind fun t717 => (boundstonelaw02_boxes.j1 k x6 x9 x11 x13 x14 t717 x661000 x661001 x661002 x661003 x675000 x675001 x675002 x675003 x676000 x676001 x676002 x676003 x692000 x692001 x704000 x704001)) else (boundstonelaw02_boxes.j1 k x6 x9 x11 x13 x14 false x661000 x661001 x661002 x661003 x675000 x675001 x675002 x675003 x676000 x676001 x676002 x676003 x692000 x692001 x704000 x704001)
def boundstonelaw02_boxes.j1 : Nat → Bool → Bool → Bool → Bool → Bool → Bool → Int → Int → Int → Int → Int → Int → Int → Int → Int → Int → Int → Int → Int → Int → Int → Int → Option (Bool)
 | 0, _, _, _, _, _, _, _, _, _, _, _, _, _, _, _, _, _, _, _, _, _, _ => none
 | k + 1, x6, x9, x11, x13, x14, x15, x661000, x661001, x661002, x661003, x675000, x675001, x675002, x675003, x676000, x676001, x676002, x676003, x692000, x692001, x704000, x704001 => if x14 = true then (if x15 = true then (if x6 = true then (if x9 = true then (if x11 = true then (if x13 = true then ((boundstonelaw02_box.f (-3) 5 (-3) 3).bind fun bt718 => (if ((x661000 == bt718.1 && (x661001 == bt718.2.1)) && ((x661002 == bt718.2.2.1 && (x661003 == bt718.2.2.2)))) = true then ((boundstonelaw02_box.f 0 3 5 7).bind fun bt722 => (if ((x675000 == bt722.1 && (x675001 == bt722.2.1)) && ((x675002 == bt722.2.2.1 && (x675003 == bt722.2.2.2)))) = true then ((boundstonelaw02_box.f 0 3 8 9).bind fun bt726 => (if ((x676000 == bt726.1 && (x676001 == bt726.2.1)) && ((x676002 == bt726.2.2.1 && (x676003 == bt726.2.2.2)))) = true then (if (x692000 == (-4) && (x692001 == 12)) = true then (some (x704000 == 4 && (x704001 == 41))) else (none)) else (none))) else (none))) else (none))) else (none)) else (none)) else (none)) else (none)) else (none)) else (none)
end
def boundstonelaw02_boxes.f (k : Nat)  : Option (Bool) := (boundstonelaw02_at.f 2 1).bind fun bt617 => ((boundstonelaw02_at.f 0 0).bind fun bt619 => ((boundstonelaw02_at.f 4 0).bind fun bt621 => ((boundstonelaw02_at.f 2 0).bind fun bt623 => ((boundstonelaw02_at.f 0 3).bind fun bt625 => ((plane_Hull.f (([(⟨bt617.1, bt617.2⟩ : S23), (⟨bt619.1, bt619.2⟩ : S23), (⟨bt621.1, bt621.2⟩ : S23), (⟨bt623.1, bt623.2⟩ : S23), (⟨bt625.1, bt625.2⟩ : S23)] : List (S23)))).bind fun bt630 => ((boundstonelaw02_at.f 0 0).bind fun bt634 => ((boundstonelaw02_at.f 0 1).bind fun bt636 => ((boundstonelaw02_at.f 2 0).bind fun bt638 => ((boundstonelaw02_at.f 1 0).bind fun bt640 => ((boundstonelaw02_at.f (-1) (-1)).bind fun bt642 => ((plane_Around.f bt634.1 bt634.2 (([(⟨bt636.1, bt636.2⟩ : S23), (⟨bt638.1, bt638.2⟩ : S23), (⟨bt640.1, bt640.2⟩ : S23), (⟨bt642.1, bt642.2⟩ : S23)] : List (S23)))).bind fun bt647 => ((boundstonelaw02_box.f 0 2 0 0).bind fun bt651 => ((plane_Grow.f bt651.1 bt651.2.1 bt651.2.2.1 bt651.2.2.2 3).bind fun bt655 => ((boundstonelaw02_box.f 0 3 5 9).bind fun bt661 => ((plane_Cut.f bt661.1 bt661.2.1 bt661.2.2.1 bt661.2.2.2).bind fun bt665 => ((boundstonelaw02_box.f 0 0 0 0).bind fun bt676 => ((boundstonelaw02_box.f 4 4 0 0).bind fun bt680 => ((boundstonelaw02_box.f 1 2 (-1) 3).bind fun bt684 => ((plane_Spread.f bt676.1 bt676.2.1 bt676.2.2.1 bt676.2.2.2 bt680.1 bt680.2.1 bt680.2.2.1 bt680.2.2.2 bt684.1 bt684.2.1 bt684.2.2.1 bt684.2.2.2).bind fun bt688 => ((boundstonelaw02_box.f 0 1 0 1).bind fun bt692 => ((boundstonelaw02_box.f 3 4 0 5).bind fun bt696 => ((plane_Dists.f k bt692.1 bt692.2.1 bt692.2.2.1 bt692.2.2.2 bt696.1 bt696.2.1 bt696.2.2.1 bt696.2.2.2).bind fun bt700 => (if bt630.2 = 0 then ((boundstonelaw02_at.f 0 0).bind fun bt704 => ((boundstonelaw02_at.f 4 0).bind fun bt706 => ((boundstonelaw02_at.f 0 3).bind fun bt708 => ((boundstoneref02_SamePoints.f k bt630.1 (([(⟨bt704.1, bt704.2⟩ : S23), (⟨bt706.1, bt706.2⟩ : S23), (⟨bt708.1, bt708.2⟩ : S23)] : List (S23)))).bind fun t713 => (boundstonelaw02_boxes.j0 k bt647.1 bt647.2 bt655.2.2.2.2 bt665.2.2.2.2.2.2.2.2 bt688.2.2 bt700.2.2 t713 bt655.1 bt655.2.1 bt655.2.2.1 bt655.2.2.2.1 bt665.1 bt665.2.1 bt665.2.2.1 bt665.2.2.2.1 bt665.2.2.2.2.1 bt665.2.2.2.2.2.1 bt665.2.2.2.2.2.2.1 bt665.2.2.2.2.2.2.2.1 bt688.1 bt688.2.1 bt700.1 bt700.2.1))))) else (boundstonelaw02_boxes.j0 k bt647.1 bt647.2 bt655.2.2.2.2 bt665.2.2.2.2.2.2.2.2 bt688.2.2 bt700.2.2 false bt655.1 bt655.2.1 bt655.2.2.1 bt655.2.2.2.1 bt665.1 bt665.2.1 bt665.2.2.1 bt665.2.2.2.1 bt665.2.2.2.2.1 bt665.2.2.2.2.2.1 bt665.2.2.2.2.2.2.1 bt665.2.2.2.2.2.2.2.1 bt688.1 bt688.2.1 bt700.1 bt700.2.1))))))))))))))))))))))))
theorem boundstonelaw02_boxes.mono_l : ∀ k, (∀ y0 y1 y2 y3 y4 y5 y6 y7 y8 y9 y10 y11 y12 y13 y14 y15 y16 y17 y18 y19 y20 y21 y22, LeO (boundstonelaw02_boxes.j0 k y0 y1 y2 y3 y4 y5 y6 y7 y8 y9 y10 y11 y12 y13 y14 y15 y16 y17 y18 y19 y20 y21 y22) (boundstonelaw02_boxes.j0 (k + 1) y0 y1 y2 y3 y4 y5 y6 y7 y8 y9 y10 y11 y12 y13 y14 y15 y16 y17 y18 y19 y20 y21 y22)) ∧ (∀ y0 y1 y2 y3 y4 y5 y6 y7 y8 y9 y10 y11 y12 y13 y14 y15 y16 y17 y18 y19 y20 y21, LeO (boundstonelaw02_boxes.j1 k y0 y1 y2 y3 y4 y5 y6 y7 y8 y9 y10 y11 y12 y13 y14 y15 y16 y17 y18 y19 y20 y21) (boundstonelaw02_boxes.j1 (k + 1) y0 y1 y2 y3 y4 y5 y6 y7 y8 y9 y10 y11 y12 y13 y14 y15 y16 y17 y18 y19 y20 y21))
 | 0 => ⟨fun _ _ _ _ _ _ _ _ _ _ _ _ _ _ _ _ _ _ _ _ _ _ _ r h => by simp [boundstonelaw02_boxes.j0] at h, fun _ _ _ _ _ _ _ _ _ _ _ _ _ _ _ _ _ _ _ _ _ _ r h => by simp [boundstonelaw02_boxes.j1] at h⟩
 | k + 1 => by
  obtain ⟨ih0, ih1⟩ := boundstonelaw02_boxes.mono_l k
  refine ⟨?_, ?_⟩
  ·intro y0 y1 y2 y3 y4 y5 y6 y7 y8 y9 y10 y11 y12 y13 y14 y15 y16 y17 y18 y19 y20 y21 y22
   unfold boundstonelaw02_boxes.j0
   repeat' first
   | (with_reducible exact ih0 _ _ _ _ _ _ _ _ _ _ _ _ _ _ _ _ _ _ _ _ _ _ _)
   | (with_reducible exact ih1 _ _ _ _ _ _ _ _ _ _ _ _ _ _ _ _ _ _ _ _ _ _)
   | (with_reducible exact boundstoneref02_SameInts.mono _ _ _)
   | (with_reducible exact boundstoneref02_SamePoints.mono _ _ _)
   | (with_reducible exact plane_Dists.mono _ _ _ _ _ _ _ _ _)
   | (with_reducible exact LeO.refl _)
   | (with_reducible exact LeO.none _)
   | (with_reducible refine LeO.ite ?_ ?_)
   | (with_reducible refine LeO.bind ?_ (fun _ => ?_))
   | exact ih0 _ _ _ _ _ _ _ _ _ _ _ _ _ _ _ _ _ _ _ _ _ _ _
   | exact ih1 _ _ _ _ _ _ _ _ _ _ _ _ _ _ _ _ _ _ _ _ _ _
   | exact boundstoneref02_SameInts.mono _ _ _
   | exact boundstoneref02_SamePoints.mono _ _ _
   | exact plane_Dists.mono _ _ _ _ _ _ _ _ _
   | exact LeO.none _
   | refine LeO.ite ?_ ?_
   | refine LeO.bind ?_ (fun _ => ?_)
  ·intro y0 y1 y2 y3 y4 y5 y6 y7 y8 y9 y10 y11 y12 y13 y14 y15 y16 y17 y18 y19 y20 y21
   unfold boundstonelaw02_boxes.j1
   repeat' first
   | (with_reducible exact ih0 _ _ _ _ _ _ _ _ _ _ _ _ _ _ _ _ _ _ _ _ _ _ _)
   | (with_reducible exact ih1 _ _ _ _ _ _ _ _ _ _ _ _ _ _ _ _ _ _ _ _ _ _)
   | (with_reducible exact boundstoneref02_SameInts.mono _ _ _)
   | (with_reducible exact boundstoneref02_SamePoints.mono _ _ _)
   | (with_reducible exact plane_Dists.mono _ _ _ _ _ _ _ _ _)
   | (with_reducible exact LeO.refl _)
   | (with_reducible exact LeO.none _)
   | (with_reducible refine LeO.ite ?_ ?_)
   | (with_reducible refine LeO.bind ?_ (fun _ => ?_))
   | exact ih0 _ _ _ _ _ _ _ _ _ _ _ _ _ _ _ _ _ _ _ _ _ _ _
   | exact ih1 _ _ _ _ _ _ _ _ _ _ _ _ _ _ _ _ _ _ _ _ _ _
   | exact boundstoneref02_SameInts.mono _ _ _
   | exact boundstoneref02_SamePoints.mono _ _ _
   | exact plane_Dists.mono _ _ _ _ _ _ _ _ _
   | exact LeO.none _
   | refine LeO.ite ?_ ?_
   | refine LeO.bind ?_ (fun _ => ?_)
theorem boundstonelaw02_boxes.mono : ∀ k, LeO (boundstonelaw02_boxes.f k ) (boundstonelaw02_boxes.f (k + 1) ) := by
 intro  k
 obtain ⟨ih0, ih1⟩ := boundstonelaw02_boxes.mono_l k
 unfold boundstonelaw02_boxes.f
 repeat' first
   | (with_reducible exact ih0 _ _ _ _ _ _ _ _ _ _ _ _ _ _ _ _ _ _ _ _ _ _ _)
   | (with_reducible exact ih1 _ _ _ _ _ _ _ _ _ _ _ _ _ _ _ _ _ _ _ _ _ _)
   | (with_reducible exact boundstoneref02_SameInts.mono _ _ _)
   | (with_reducible exact boundstoneref02_SamePoints.mono _ _ _)
   | (with_reducible exact plane_Dists.mono _ _ _ _ _ _ _ _ _)
   | (with_reducible exact LeO.refl _)
   | (with_reducible exact LeO.none _)
   | (with_reducible refine LeO.ite ?_ ?_)
   | (with_reducible refine LeO.bind ?_ (fun _ => ?_))
   | exact ih0 _ _ _ _ _ _ _ _ _ _ _ _ _ _ _ _ _ _ _ _ _ _ _
   | exact ih1 _ _ _ _ _ _ _ _ _ _ _ _ _ _ _ _ _ _ _ _ _ _
   | exact boundstoneref02_SameInts.mono _ _ _
   | exact boundstoneref02_SamePoints.mono _ _ _
   | exact plane_Dists.mono _ _ _ _ _ _ _ _ _
   | exact LeO.none _
   | refine LeO.ite ?_ ?_
   | refine LeO.bind ?_ (fun _ => ?_)
def boundstonelaw02_boxes.T9 : Bool × List (List Nat × List Nat) := (true, [([], []), ([0], [0]), ([1], [1]), ([1, 2], [1, 2]), ([3, 1], [3]), ([4], [4]), ([4, 5], [4, 5]), ([6, 4], [6]), ([7], [7]), ([7, 8], [7, 8]), ([9, 7], [9]), ([10], [10]), ([10, 11], [10, 11]), ([12, 10], [12]), ([13], [13]), ([13, 14], [13, 14]), ([15, 13], [15]), ([16], [16]), ([16, 16], [16]), ([17, 18, 16], [16, 17, 18]), ([16, 19], [16, 19]), ([20, 18], [20]), ([21], [21]), ([21, 21], [21]), ([22, 23, 21], [21, 22, 23]), ([21, 24], [21, 24]), ([25, 23], [25]), ([26], [26]), ([26, 26], [26]), ([27, 28, 26], [26, 27, 28]), ([26, 29], [26, 29]), ([30, 28], [30]), ([31], [31]), ([31], [31]), ([32, 33, 31], [31, 32, 33]), ([31, 34], [31, 34]), ([35, 31], [35]), ([36], [36]), ([36], [36]), ([37, 38, 36], [36, 37, 38]), ([36, 39], [36, 39]), ([40, 36, 0, 1, 2, 3, 4, 5, 6, 7, 8, 9, 10, 11, 12, 13, 14, 15, 16, 17, 18, 19, 20, 21, 22, 23, 24, 25, 26, 27, 28, 29, 30, 31, 32, 33, 34, 35, 36, 37, 38, 39, 40], [40])])
def boundstonelaw02_boxes.B9 : List Nat := [0, 1, 3, 7, 15, 31, 63, 127, 255, 511, 1023, 2047, 4095, 8191, 16383, 32767, 65535, 131071, 131071, 524287, 1048575, 2097151, 4194303, 4194303, 16777215, 33554431, 67108863, 134217727, 134217727, 536870911, 1073741823, 2147483647, 4294967295, 4294967295, 17179869183, 34359738367, 68719476735, 137438953471, 137438953471, 549755813887, 1099511627775, 2199023255551]
theorem boundstonelaw02_boxes.tab9 : rtab .any (opsOf Try.f42 9) = boundstonelaw02_boxes.T9 := by kernel_rfl
theorem boundstonelaw02_boxes.bits9 : waitsOk boundstonelaw02_boxes.T9.2 boundstonelaw02_boxes.B9 = true := by kernel_rfl
set_option maxHeartbeats 8000000 in
set_option maxRecDepth 100000 in
theorem boundstonelaw02_boxes.calls (k : Nat)  (r : Bool) (w : World) (h : boundstonelaw02_boxes.f k  = some r) :
  Calls Try.prog 42 #[] w fun e w' => e = .returned (.bool r) ∧ Below w.heap.size w w' := by
 have hu52 := Try.underlying52
 have hu50 := Try.underlying50
 have HB := Aside0.mk (Below.refl w.heap.size w)
 have H : ((boundstonelaw02_at.f 2 1).bind fun bt617 => ((boundstonelaw02_at.f 0 0).bind fun bt619 => ((boundstonelaw02_at.f 4 0).bind fun bt621 => ((boundstonelaw02_at.f 2 0).bind fun bt623 => ((boundstonelaw02_at.f 0 3).bind fun bt625 => ((plane_Hull.f (([(⟨bt617.1, bt617.2⟩ : S23), (⟨bt619.1, bt619.2⟩ : S23), (⟨bt621.1, bt621.2⟩ : S23), (⟨bt623.1, bt623.2⟩ : S23), (⟨bt625.1, bt625.2⟩ : S23)] : List (S23)))).bind fun bt630 => ((boundstonelaw02_at.f 0 0).bind fun bt634 => ((boundstonelaw02_at.f 0 1).bind fun bt636 => ((boundstonelaw02_at.f 2 0).bind fun bt638 => ((boundstonelaw02_at.f 1 0).bind fun bt640 => ((boundstonelaw02_at.f (-1) (-1)).bind fun bt642 => ((plane_Around.f bt634.1 bt634.2 (([(⟨bt636.1, bt636.2⟩ : S23), (⟨bt638.1, bt638.2⟩ : S23), (⟨bt640.1, bt640.2⟩ : S23), (⟨bt642.1, bt642.2⟩ : S23)] : List (S23)))).bind fun bt647 => ((boundstonelaw02_box.f 0 2 0 0).bind fun bt651 => ((plane_Grow.f bt651.1 bt651.2.1 bt651.2.2.1 bt651.2.2.2 3).bind fun bt655 => ((boundstonelaw02_box.f 0 3 5 9).bind fun bt661 => ((plane_Cut.f bt661.1 bt661.2.1 bt661.2.2.1 bt661.2.2.2).bind fun bt665 => ((boundstonelaw02_box.f 0 0 0 0).bind fun bt676 => ((boundstonelaw02_box.f 4 4 0 0).bind fun bt680 => ((boundstonelaw02_box.f 1 2 (-1) 3).bind fun bt684 => ((plane_Spread.f bt676.1 bt676.2.1 bt676.2.2.1 bt676.2.2.2 bt680.1 bt680.2.1 bt680.2.2.1 bt680.2.2.2 bt684.1 bt684.2.1 bt684.2.2.1 bt684.2.2.2).bind fun bt688 => ((boundstonelaw02_box.f 0 1 0 1).bind fun bt692 => ((boundstonelaw02_box.f 3 4 0 5).bind fun bt696 => ((plane_Dists.f k bt692.1 bt692.2.1 bt692.2.2.1 bt692.2.2.2 bt696.1 bt696.2.1 bt696.2.2.1 bt696.2.2.2).bind fun bt700 => (if bt630.2 = 0 then ((boundstonelaw02_at.f 0 0).bind fun bt704 => ((boundstonelaw02_at.f 4 0).bind fun bt706 => ((boundstonelaw02_at.f 0 3).bind fun bt708 => ((boundstoneref02_SamePoints.f k bt630.1 (([(⟨bt704.1, bt704.2⟩ : S23), (⟨bt706.1, bt706.2⟩ : S23), (⟨bt708.1, bt708.2⟩ : S23)] : List (S23)))).bind fun t713 => (boundstonelaw02_boxes.j0 k bt647.1 bt647.2 bt655.2.2.2.2 bt665.2.2.2.2.2.2.2.2 bt688.2.2 bt700.2.2 t713 bt655.1 bt655.2.1 bt655.2.2.1 bt655.2.2.2.1 bt665.1 bt665.2.1 bt665.2.2.1 bt665.2.2.2.1 bt665.2.2.2.2.1 bt665.2.2.2.2.2.1 bt665.2.2.2.2.2.2.1 bt665.2.2.2.2.2.2.2.1 bt688.1 bt688.2.1 bt700.1 bt700.2.1))))) else (boundstonelaw02_boxes.j0 k bt647.1 bt647.2 bt655.2.2.2.2 bt665.2.2.2.2.2.2.2.2 bt688.2.2 bt700.2.2 false bt655.1 bt655.2.1 bt655.2.2.1 bt655.2.2.2.1 bt665.1 bt665.2.1 bt665.2.2.1 bt665.2.2.2.1 bt665.2.2.2.2.1 bt665.2.2.2.2.2.1 bt665.2.2.2.2.2.2.1 bt665.2.2.2.2.2.2.2.1 bt688.1 bt688.2.1 bt700.1 bt700.2.1))))))))))))))))))))))))) = some r := h
 clear h
 replace H := Option.bind_eq_some_iff.mp H
 obtain ⟨⟨t617, t618⟩, A10, H⟩ := H
 try dsimp only at H
 have A1 := Aside0.mk A10
 clear A10
 replace H := Option.bind_eq_some_iff.mp H
 obtain ⟨⟨t619, t620⟩, A20, H⟩ := H
 try dsimp only at H
 have A2 := Aside0.mk A20
 clear A20
 replace H := Option.bind_eq_some_iff.mp H
 obtain ⟨⟨t621, t622⟩, A30, H⟩ := H
 try dsimp only at H
 have A3 := Aside0.mk A30
 clear A30
 replace H := Option.bind_eq_some_iff.mp H
 obtain ⟨⟨t623, t624⟩, A40, H⟩ := H
 try dsimp only at H
 have A4 := Aside0.mk A40
 clear A40
 replace H := Option.bind_eq_some_iff.mp H
 obtain ⟨⟨t625, t626⟩, A50, H⟩ := H
 try dsimp only at H
 have A5 := Aside0.mk A50
 clear A50
 obtain ⟨y627, hy627⟩ : ∃ y_ : List (S23), y_ = (([(⟨t617, t618⟩ : S23), (⟨t619, t620⟩ : S23), (⟨t621, t622⟩ : S23), (⟨t623, t624⟩ : S23), (⟨t625, t626⟩ : S23)] : List (S23))) := ⟨_, rfl⟩
 replace H : ((plane_Hull.f y627).bind fun bt630 => ((boundstonelaw02_at.f 0 0).bind fun bt634 => ((boundstonelaw02_at.f 0 1).bind fun bt636 => ((boundstonelaw02_at.f 2 0).bind fun bt638 => ((boundstonelaw02_at.f 1 0).bind fun bt640 => ((boundstonelaw02_at.f (-1) (-1)).bind fun bt642 => ((plane_Around.f bt634.1 bt634.2 (([(⟨bt636.1, bt636.2⟩ : S23), (⟨bt638.1, bt638.2⟩ : S23), (⟨bt640.1, bt640.2⟩ : S23), (⟨bt642.1, bt642.2⟩ : S23)] : List (S23)))).bind fun bt647 => ((boundstonelaw02_box.f 0 2 0 0).bind fun bt651 => ((plane_Grow.f bt651.1 bt651.2.1 bt651.2.2.1 bt651.2.2.2 3).bind fun bt655 => ((boundstonelaw02_box.f 0 3 5 9).bind fun bt661 => ((plane_Cut.f bt661.1 bt661.2.1 bt661.2.2.1 bt661.2.2.2).bind fun bt665 => ((boundstonelaw02_box.f 0 0 0 0).bind fun bt676 => ((boundstonelaw02_box.f 4 4 0 0).bind fun bt680 => ((boundstonelaw02_box.f 1 2 (-1) 3).bind fun bt684 => ((plane_Spread.f bt676.1 bt676.2.1 bt676.2.2.1 bt676.2.2.2 bt680.1 bt680.2.1 bt680.2.2.1 bt680.2.2.2 bt684.1 bt684.2.1 bt684.2.2.1 bt684.2.2.2).bind fun bt688 => ((boundstonelaw02_box.f 0 1 0 1).bind fun bt692 => ((boundstonelaw02_box.f 3 4 0 5).bind fun bt696 => ((plane_Dists.f k bt692.1 bt692.2.1 bt692.2.2.1 bt692.2.2.2 bt696.1 bt696.2.1 bt696.2.2.1 bt696.2.2.2).bind fun bt700 => (if bt630.2 = 0 then ((boundstonelaw02_at.f 0 0).bind fun bt704 => ((boundstonelaw02_at.f 4 0).bind fun bt706 => ((boundstonelaw02_at.f 0 3).bind fun bt708 => ((boundstoneref02_SamePoints.f k bt630.1 (([(⟨bt704.1, bt704.2⟩ : S23), (⟨bt706.1, bt706.2⟩ : S23), (⟨bt708.1, bt708.2⟩ : S23)] : List (S23)))).bind fun t713 => (boundstonelaw02_boxes.j0 k bt647.1 bt647.2 bt655.2.2.2.2 bt665.2.2.2.2.2.2.2.2 bt688.2.2 bt700.2.2 t713 bt655.1 bt655.2.1 bt655.2.2.1 bt655.2.2.2.1 bt665.1 bt665.2.1 bt665.2.2.1 bt665.2.2.2.1 bt665.2.2.2.2.1 bt665.2.2.2.2.2.1 bt665.2.2.2.2.2.2.1 bt665.2.2.2.2.2.2.2.1 bt688.1 bt688.2.1 bt700.1 bt700.2.1))))) else (boundstonelaw02_boxes.j0 k bt647.1 bt647.2 bt655.2.2.2.2 bt665.2.2.2.2.2.2.2.2 bt688.2.2 bt700.2.2 false bt655.1 bt655.2.1 bt655.2.2.1 bt655.2.2.2.1 bt665.1 bt665.2.1 bt665.2.2.1 bt665.2.2.2.1 bt665.2.2.2.2.1 bt665.2.2.2.2.2.1 bt665.2.2.2.2.2.2.1 bt665.2.2.2.2.2.2.2.1 bt688.1 bt688.2.1 bt700.1 bt700.2.1)))))))))))))))))))) = some r := by first | (rw [hy627]; with_reducible exact H) | (have H2_ := (Option.bind_some _ _).symm.trans H; rw [hy627]; with_reducible exact H2_) | (have H2_ := (Option.bind_some _ _).symm.trans H; with_reducible exact H2_) | with_reducible exact H | (rw [hy627]; exact H) | exact H
 have Ny627 := Aside0.mk hy627
 clear hy627
 replace H := Option.bind_eq_some_iff.mp H
 obtain ⟨⟨t630, t631⟩, A60, H⟩ := H
 try dsimp only at H
 have A6 := Aside0.mk A60
 clear A60
 replace H := Option.bind_eq_some_iff.mp H
 obtain ⟨⟨t634, t635⟩, A70, H⟩ := H
 try dsimp only at H
 have A7 := Aside0.mk A70
 clear A70
 replace H := Option.bind_eq_some_iff.mp H
 obtain ⟨⟨t636, t637⟩, A80, H⟩ := H
 try dsimp only at H
 have A8 := Aside0.mk A80
 clear A80
 replace H := Option.bind_eq_some_iff.mp H
 obtain ⟨⟨t638, t639⟩, A90, H⟩ := H
 try dsimp only at H
 have A9 := Aside0.mk A90
 clear A90
 replace H := Option.bind_eq_some_iff.mp H
 obtain ⟨⟨t640, t641⟩, A100, H⟩ := H
 try dsimp only at H
 have A10 := Aside0.mk A100
 clear A100
 replace H := Option.bind_eq_some_iff.mp H
 obtain ⟨⟨t642, t643⟩, A110, H⟩ := H
 try dsimp only at H
 have A11 := Aside0.mk A110
 clear A110
 obtain ⟨y644, hy644⟩ : ∃ y_ : List (S23), y_ = (([(⟨t636, t637⟩ : S23), (⟨t638, t639⟩ : S23), (⟨t640, t641⟩ : S23), (⟨t642, t643⟩ : S23)] : List (S23))) := ⟨_, rfl⟩
 replace H : ((plane_Around.f t634 t635 y644).bind fun bt647 => ((boundstonelaw02_box.f 0 2 0 0).bind fun bt651 => ((plane_Grow.f bt651.1 bt651.2.1 bt651.2.2.1 bt651.2.2.2 3).bind fun bt655 => ((boundstonelaw02_box.f 0 3 5 9).bind fun bt661 => ((plane_Cut.f bt661.1 bt661.2.1 bt661.2.2.1 bt661.2.2.2).bind fun bt665 => ((boundstonelaw02_box.f 0 0 0 0).bind fun bt676 => ((boundstonelaw02_box.f 4 4 0 0).bind fun bt680 => ((boundstonelaw02_box.f 1 2 (-1) 3).bind fun bt684 => ((plane_Spread.f bt676.1 bt676.2.1 bt676.2.2.1 bt676.2.2.2 bt680.1 bt680.2.1 bt680.2.2.1 bt680.2.2.2 bt684.1 bt684.2.1 bt684.2.2.1 bt684.2.2.2).bind fun bt688 => ((boundstonelaw02_box.f 0 1 0 1).bind fun bt692 => ((boundstonelaw02_box.f 3 4 0 5).bind fun bt696 => ((plane_Dists.f k bt692.1 bt692.2.1 bt692.2.2.1 bt692.2.2.2 bt696.1 bt696.2.1 bt696.2.2.1 bt696.2.2.2).bind fun bt700 => (if t631 = 0 then ((boundstonelaw02_at.f 0 0).bind fun bt704 => ((boundstonelaw02_at.f 4 0).bind fun bt706 => ((boundstonelaw02_at.f 0 3).bind fun bt708 => ((boundstoneref02_SamePoints.f k t630 (([(⟨bt704.1, bt704.2⟩ : S23), (⟨bt706.1, bt706.2⟩ : S23), (⟨bt708.1, bt708.2⟩ : S23)] : List (S23)))).bind fun t713 => (boundstonelaw02_boxes.j0 k bt647.1 bt647.2 bt655.2.2.2.2 bt665.2.2.2.2.2.2.2.2 bt688.2.2 bt700.2.2 t713 bt655.1 bt655.2.1 bt655.2.2.1 bt655.2.2.2.1 bt665.1 bt665.2.1 bt665.2.2.1 bt665.2.2.2.1 bt665.2.2.2.2.1 bt665.2.2.2.2.2.1 bt665.2.2.2.2.2.2.1 bt665.2.2.2.2.2.2.2.1 bt688.1 bt688.2.1 bt700.1 bt700.2.1))))) else (boundstonelaw02_boxes.j0 k bt647.1 bt647.2 bt655.2.2.2.2 bt665.2.2.2.2.2.2.2.2 bt688.2.2 bt700.2.2 false bt655.1 bt655.2.1 bt655.2.2.1 bt655.2.2.2.1 bt665.1 bt665.2.1 bt665.2.2.1 bt665.2.2.2.1 bt665.2.2.2.2.1 bt665.2.2.2.2.2.1 bt665.2.2.2.2.2.2.1 bt665.2.2.2.2.2.2.2.1 bt688.1 bt688.2.1 bt700.1 bt700.2.1)))))))))))))) = some r := by first | (rw [hy644]; with_reducible exact H) | (have H2_ := (Option.bind_some _ _).symm.trans H; rw [hy644]; with_reducible exact H2_) | (have H2_ := (Option.bind_some _ _).symm.trans H; with_reducible exact H2_) | with_reducible exact H | (rw [hy644]; exact H) | exact H
 have Ny644 := Aside0.mk hy644
 clear hy644
 replace H := Option.bind_eq_some_iff.mp H
 obtain ⟨⟨t647, t650⟩, A120, H⟩ := H
 try dsimp only at H
 have A12 := Aside0.mk A120
 clear A120
 replace H := Option.bind_eq_some_iff.mp H
 obtain ⟨⟨t651, t652, t653, t654⟩, A130, H⟩ := H
 try dsimp only at H
 have A13 := Aside0.mk A130
 clear A130
 replace H := Option.bind_eq_some_iff.mp H
 obtain ⟨⟨t655, t656, t657, t658, t659⟩, A140, H⟩ := H
 try dsimp only at H
 have A14 := Aside0.mk A140
 clear A140
 replace H := Option.bind_eq_some_iff.mp H
 obtain ⟨⟨t661, t662, t663, t664⟩, A150, H⟩ := H
 try dsimp only at H
 have A15 := Aside0.mk A150
 clear A150
 replace H := Option.bind_eq_some_iff.mp H
 obtain ⟨⟨t665, t666, t667, t668, t669, t670, t671, t672, t673⟩, A160, H⟩ := H
 try dsimp only at H
 have A16 := Aside0.mk A160
 clear A160
 replace H := Option.bind_eq_some_iff.mp H
 obtain ⟨⟨t676, t677, t678, t679⟩, A170, H⟩ := H
 try dsimp only at H
 have A17 := Aside0.mk A170
 clear A170
 replace H := Option.bind_eq_some_iff.mp H
 obtain ⟨⟨t680, t681, t682, t683⟩, A180, H⟩ := H
 try dsimp only at H
 have A18 := Aside0.mk A180
 clear A180
 replace H := Option.bind_eq_some_iff.mp H
 obtain ⟨⟨t684, t685, t686, t687⟩, A190, H⟩ := H
 try dsimp only at H
 have A19 := Aside0.mk A190
 clear A190
 replace H := Option.bind_eq_some_iff.mp H
 obtain ⟨⟨t688, t689, t690⟩, A200, H⟩ := H
 try dsimp only at H
 have A20 := Aside0.mk A200
 clear A200
 replace H := Option.bind_eq_some_iff.mp H
 obtain ⟨⟨t692, t693, t694, t695⟩, A210, H⟩ := H
 try dsimp only at H
 have A21 := Aside0.mk A210
 clear A210
 replace H := Option.bind_eq_some_iff.mp H
 obtain ⟨⟨t696, t697, t698, t699⟩, A220, H⟩ := H
 try dsimp only at H
 have A22 := Aside0.mk A220
 clear A220
 replace H := Option.bind_eq_some_iff.mp H
 obtain ⟨⟨t700, t701, t702⟩, A230, H⟩ := H
 try dsimp only at H
 have A23 := Aside0.mk A230
 clear A230
 have HC24 := Aside0.mk H
 clear H
 go_enter Try.func42, Try.ntmps42
 go_upto_region 7 with (first | ((with_reducible refine gate_callee (f := 74) rfl ?_); refine goesL_ (some 17) rfl rfl Try.func74 (by kernel_rfl) rfl #[.int .i64 2, .int .i64 1] rfl (by (try simp only [List.map_toArray, List.map_cons, List.map_nil]); first | done | rfl | (simp only [List.length_drop, List.length_take]; rfl)) ?_; (with_reducible refine (boundstonelaw02_at.calls 2 1 t617 t618 _ A1.out).mono ?_); rintro e w25 ⟨rfl, hb⟩; refine ⟨_, rfl, ?_⟩; replace HB := Aside0.mk (below_step (hk HB) hb); (try clear hb); (try clear hb2); (try clear hk); (try clear hi)) | ((with_reducible refine gate_callee (f := 74) rfl ?_); refine goesL_ (some 18) rfl rfl Try.func74 (by kernel_rfl) rfl #[.int .i64 0, .int .i64 0] rfl (by (try simp only [List.map_toArray, List.map_cons, List.map_nil]); first | done | rfl | (simp only [List.length_drop, List.length_take]; rfl)) ?_; (with_reducible refine (boundstonelaw02_at.calls 0 0 t619 t620 _ A2.out).mono ?_); rintro e w26 ⟨rfl, hb⟩; refine ⟨_, rfl, ?_⟩; replace HB := Aside0.mk (below_step (hk HB) hb); (try clear hb); (try clear hb2); (try clear hk); (try clear hi)) | ((with_reducible refine gate_callee (f := 74) rfl ?_); refine goesL_ (some 19) rfl rfl Try.func74 (by kernel_rfl) rfl #[.int .i64 4, .int .i64 0] rfl (by (try simp only [List.map_toArray, List.map_cons, List.map_nil]); first | done | rfl | (simp only [List.length_drop, List.length_take]; rfl)) ?_; (with_reducible refine (boundstonelaw02_at.calls 4 0 t621 t622 _ A3.out).mono ?_); rintro e w27 ⟨rfl, hb⟩; refine ⟨_, rfl, ?_⟩; replace HB := Aside0.mk (below_step (hk HB) hb); (try clear hb); (try clear hb2); (try clear hk); (try clear hi)) | ((with_reducible refine gate_callee (f := 74) rfl ?_); refine goesL_ (some 20) rfl rfl Try.func74 (by kernel_rfl) rfl #[.int .i64 2, .int .i64 0] rfl (by (try simp only [List.map_toArray, List.map_cons, List.map_nil]); first | done | rfl | (simp only [List.length_drop, List.length_take]; rfl)) ?_; (with_reducible refine (boundstonelaw02_at.calls 2 0 t623 t624 _ A4.out).mono ?_); rintro e w28 ⟨rfl, hb⟩; refine ⟨_, rfl, ?_⟩; replace HB := Aside0.mk (below_step (hk HB) hb); (try clear hb); (try clear hb2); (try clear hk); (try clear hi)) | ((with_reducible refine gate_callee (f := 74) rfl ?_); refine goesL_ (some 21) rfl rfl Try.func74 (by kernel_rfl) rfl #[.int .i64 0, .int .i64 3] rfl (by (try simp only [List.map_toArray, List.map_cons, List.map_nil]); first | done | rfl | (simp only [List.length_drop, List.length_take]; rfl)) ?_; (with_reducible refine (boundstonelaw02_at.calls 0 3 t625 t626 _ A5.out).mono ?_); rintro e w29 ⟨rfl, hb⟩; refine ⟨_, rfl, ?_⟩; replace HB := Aside0.mk (below_step (hk HB) hb); (try clear hb); (try clear hb2); (try clear hk); (try clear hi)) | ((with_reducible refine gate_dst (N := 22) rfl ?_); (try (refine gate_guard (by rfl) ?_; dsimp only)); refine Kd.R_lit k23 _ 23 ?hg (N := 22) ?hd (xs := ([(⟨t617, t618⟩ : S23), (⟨t619, t620⟩ : S23), (⟨t621, t622⟩ : S23), (⟨t623, t624⟩ : S23), (⟨t625, t626⟩ : S23)] : List (S23))) (inner := [.int .i64 t617, .int .i64 t618, .int .i64 t619, .int .i64 t620, .int .i64 t621, .int .i64 t622, .int .i64 t623, .int .i64 t624, .int .i64 t625, .int .i64 t626]) (ok := fun _ => True) (okp := fun _ => True) ?hr ?hp (fun _ hk => hk) trivial (Below.refl _ _) (Nat.le_refl _) (by simp) ?_; (case hd => rfl); (case hg => rfl); (case hr => first | (go_simp; done) | (go_simp; rfl)); (case hp => exact (Reps.c2 (show Kd.M k23 _ _ _ (⟨t617, t618⟩ : S23) [.int .i64 t617, .int .i64 t618] from (k23_mkM _ _ _ (⟨t617, t618⟩ : S23) )) (Reps.c2 (show Kd.M k23 _ _ _ (⟨t619, t620⟩ : S23) [.int .i64 t619, .int .i64 t620] from (k23_mkM _ _ _ (⟨t619, t620⟩ : S23) )) (Reps.c2 (show Kd.M k23 _ _ _ (⟨t621, t622⟩ : S23) [.int .i64 t621, .int .i64 t622] from (k23_mkM _ _ _ (⟨t621, t622⟩ : S23) )) (Reps.c2 (show Kd.M k23 _ _ _ (⟨t623, t624⟩ : S23) [.int .i64 t623, .int .i64 t624] from (k23_mkM _ _ _ (⟨t623, t624⟩ : S23) )) (Reps.c2 (show Kd.M k23 _ _ _ (⟨t625, t626⟩ : S23) [.int .i64 t625, .int .i64 t626] from (k23_mkM _ _ _ (⟨t625, t626⟩ : S23) )) (Reps.none _ _))))))); intro v628 w30 ho31 hb hg_ hnew_; clear hg_ hnew_; (first | rw [← Ny627.out] at ho31 | (simp only [Int.reduceToNat] at ho31; rw [← Ny627.out] at ho31)); have HO629 := Aside0.mk (Kd.R_lower ho31 (below_size (hk HB))); replace HB := Aside0.mk (below_step (hk HB) hb); clear hb ho31; obtain ⟨Ao32, co32, eo32⟩ := Kd.R_slice HO629.out; subst eo32) | ((with_reducible refine gate_callee (f := 43) rfl ?_); refine goesL_ (some 23) rfl rfl Try.func43 (by kernel_rfl) rfl #[.slice Ao32 y627.length co32] rfl (by (try simp only [List.map_toArray, List.map_cons, List.map_nil]); first | done | rfl | (simp only [List.length_drop, List.length_take]; rfl)) ?_; (with_reducible refine (plane_Hull.calls _ _ y627 t630 t631 _ ?side1 ?side2 A6.out).mono ?_); (case side1 => repeat (first | exact (Kd.R_reads' HO629.out).2.2 | (with_reducible refine Kd.C_alloc ?_ _) | (with_reducible refine Kd.C_drewN ?_ _) | (with_reducible refine Kd.C_drew ?_))); (case side2 => exact (Kd.R_reads' HO629.out).2.1); rintro e w33 ⟨v632, rfl, ho0, hb⟩; refine ⟨_, rfl, ?_⟩; have HO633 := Aside0.mk (Kd.R_lower (Kd.R_new' ho0 (Kd.R_lt (rk HO629))) (below_size (hk HB))); replace HO629 := Aside0.mk (Kd.R_elder' (rk HO629) (Kd.R_base ho0) hb); replace HB := Aside0.mk (below_step (hk HB) hb); (try clear hb); (try clear hb2); (try clear hk); (try clear hi); (try clear ho0)) | ((with_reducible refine gate_callee (f := 74) rfl ?_); refine goesL_ (some 27) rfl rfl Try.func74 (by kernel_rfl) rfl #[.int .i64 0, .int .i64 0] rfl (by (try simp only [List.map_toArray, List.map_cons, List.map_nil]); first | done | rfl | (simp only [List.length_drop, List.length_take]; rfl)) ?_; (with_reducible refine (boundstonelaw02_at.calls 0 0 t634 t635 _ A7.out).mono ?_); rintro e w34 ⟨rfl, hb⟩; refine ⟨_, rfl, ?_⟩; replace HO629 := Aside0.mk (Kd.R_below (rk HO629) hb); replace HO633 := Aside0.mk (Kd.R_below (rk HO633) hb); replace HB := Aside0.mk (below_step (hk HB) hb); (try clear hb); (try clear hb2); (try clear hk); (try clear hi)) | ((with_reducible refine gate_callee (f := 74) rfl ?_); refine goesL_ (some 28) rfl rfl Try.func74 (by kernel_rfl) rfl #[.int .i64 0, .int .i64 1] rfl (by (try simp only [List.map_toArray, List.map_cons, List.map_nil]); first | done | rfl | (simp only [List.length_drop, List.length_take]; rfl)) ?_; (with_reducible refine (boundstonelaw02_at.calls 0 1 t636 t637 _ A8.out).mono ?_); rintro e w35 ⟨rfl, hb⟩; refine ⟨_, rfl, ?_⟩; replace HO629 := Aside0.mk (Kd.R_below (rk HO629) hb); replace HO633 := Aside0.mk (Kd.R_below (rk HO633) hb); replace HB := Aside0.mk (below_step (hk HB) hb); (try clear hb); (try clear hb2); (try clear hk); (try clear hi)) | ((with_reducible refine gate_callee (f := 74) rfl ?_); refine goesL_ (some 29) rfl rfl Try.func74 (by kernel_rfl) rfl #[.int .i64 2, .int .i64 0] rfl (by (try simp only [List.map_toArray, List.map_cons, List.map_nil]); first | done | rfl | (simp only [List.length_drop, List.length_take]; rfl)) ?_; (with_reducible refine (boundstonelaw02_at.calls 2 0 t638 t639 _ A9.out).mono ?_); rintro e w36 ⟨rfl, hb⟩; refine ⟨_, rfl, ?_⟩; replace HO629 := Aside0.mk (Kd.R_below (rk HO629) hb); replace HO633 := Aside0.mk (Kd.R_below (rk HO633) hb); replace HB := Aside0.mk (below_step (hk HB) hb); (try clear hb); (try clear hb2); (try clear hk); (try clear hi)) | ((with_reducible refine gate_callee (f := 74) rfl ?_); refine goesL_ (some 30) rfl rfl Try.func74 (by kernel_rfl) rfl #[.int .i64 1, .int .i64 0] rfl (by (try simp only [List.map_toArray, List.map_cons, List.map_nil]); first | done | rfl | (simp only [List.length_drop, List.length_take]; rfl)) ?_; (with_reducible refine (boundstonelaw02_at.calls 1 0 t640 t641 _ A10.out).mono ?_); rintro e w37 ⟨rfl, hb⟩; refine ⟨_, rfl, ?_⟩; replace HO629 := Aside0.mk (Kd.R_below (rk HO629) hb); replace HO633 := Aside0.mk (Kd.R_below (rk HO633) hb); replace HB := Aside0.mk (below_step (hk HB) hb); (try clear hb); (try clear hb2); (try clear hk); (try clear hi)) | ((with_reducible refine gate_callee (f := 74) rfl ?_); refine goesL_ (some 31) rfl rfl Try.func74 (by kernel_rfl) rfl #[.int .i64 (-1), .int .i64 (-1)] rfl (by (try simp only [List.map_toArray, List.map_cons, List.map_nil]); first | done | rfl | (simp only [List.length_drop, List.length_take]; rfl)) ?_; (with_reducible refine (boundstonelaw02_at.calls (-1) (-1) t642 t643 _ A11.out).mono ?_); rintro e w38 ⟨rfl, hb⟩; refine ⟨_, rfl, ?_⟩; replace HO629 := Aside0.mk (Kd.R_below (rk HO629) hb); replace HO633 := Aside0.mk (Kd.R_below (rk HO633) hb); replace HB := Aside0.mk (below_step (hk HB) hb); (try clear hb); (try clear hb2); (try clear hk); (try clear hi)) | ((with_reducible refine gate_dst (N := 32) rfl ?_); (try (refine gate_guard (by rfl) ?_; dsimp only)); refine Kd.R_lit k23 _ 23 ?hg (N := 32) ?hd (xs := ([(⟨t636, t637⟩ : S23), (⟨t638, t639⟩ : S23), (⟨t640, t641⟩ : S23), (⟨t642, t643⟩ : S23)] : List (S23))) (inner := [.int .i64 t636, .int .i64 t637, .int .i64 t638, .int .i64 t639, .int .i64 t640, .int .i64 t641, .int .i64 t642, .int .i64 t643]) (ok := fun _ => True) (okp := fun _ => True) ?hr ?hp (fun _ hk => hk) trivial (Below.refl _ _) (Nat.le_refl _) (by simp) ?_; (case hd => rfl); (case hg => rfl); (case hr => first | (go_simp; done) | (go_simp; rfl)); (case hp => exact (Reps.c2 (show Kd.M k23 _ _ _ (⟨t636, t637⟩ : S23) [.int .i64 t636, .int .i64 t637] from (k23_mkM _ _ _ (⟨t636, t637⟩ : S23) )) (Reps.c2 (show Kd.M k23 _ _ _ (⟨t638, t639⟩ : S23) [.int .i64 t638, .int .i64 t639] from (k23_mkM _ _ _ (⟨t638, t639⟩ : S23) )) (Reps.c2 (show Kd.M k23 _ _ _ (⟨t640, t641⟩ : S23) [.int .i64 t640, .int .i64 t641] from (k23_mkM _ _ _ (⟨t640, t641⟩ : S23) )) (Reps.c2 (show Kd.M k23 _ _ _ (⟨t642, t643⟩ : S23) [.int .i64 t642, .int .i64 t643] from (k23_mkM _ _ _ (⟨t642, t643⟩ : S23) )) (Reps.none _ _)))))); intro v645 w39 ho40 hb hg_ hnew_; clear hg_ hnew_; (first | rw [← Ny644.out] at ho40 | (simp only [Int.reduceToNat] at ho40; rw [← Ny644.out] at ho40)); have HO646 := Aside0.mk (Kd.R_lower (Kd.R_new' (Kd.R_new' ho40 (Kd.R_lt (rk HO629))) (Kd.R_lt (rk HO633))) (below_size (hk HB))); replace HO629 := Aside0.mk (Kd.R_elder' (rk HO629) (Kd.R_base ho40) hb); replace HO633 := Aside0.mk (Kd.R_elder' (rk HO633) (Kd.R_base ho40) hb); replace HB := Aside0.mk (below_step (hk HB) hb); clear hb ho40; obtain ⟨Ao41, co41, eo41⟩ := Kd.R_slice HO646.out; subst eo41) | ((with_reducible refine gate_callee (f := 45) rfl ?_); refine goesL_ (some 33) rfl rfl Try.func45 (by kernel_rfl) rfl #[.agg #[.int .i64 t634, .int .i64 t635], .slice Ao41 y644.length co41] rfl (by (try simp only [List.map_toArray, List.map_cons, List.map_nil]); first | done | rfl | (simp only [List.length_drop, List.length_take]; rfl)) ?_; (with_reducible refine (plane_Around.calls t634 t635 _ _ y644 t647 t650 _ ?side1 ?side2 A12.out).mono ?_); (case side1 => repeat (first | exact (Kd.R_reads' HO646.out).2.2 | (with_reducible refine Kd.C_alloc ?_ _) | (with_reducible refine Kd.C_drewN ?_ _) | (with_reducible refine Kd.C_drew ?_))); (case side2 => exact (Kd.R_reads' HO646.out).2.1); rintro e w42 ⟨v648, rfl, ho0, hb⟩; refine ⟨_, rfl, ?_⟩; have HO649 := Aside0.mk (Kd.R_lower ho0 (below_size (hk HB))); replace HO629 := Aside0.mk (Kd.R_below (rk HO629) hb); replace HO633 := Aside0.mk (Kd.R_below (rk HO633) hb); replace HO646 := Aside0.mk (Kd.R_below (rk HO646) hb); replace HB := Aside0.mk (below_step (hk HB) hb); (try clear hb); (try clear hb2); (try clear hk); (try clear hi); (try clear ho0)) | ((with_reducible refine gate_callee (f := 103) rfl ?_); refine goesL_ (some 37) rfl rfl Try.func103 (by kernel_rfl) rfl #[.int .i64 0, .int .i64 2, .int .i64 0, .int .i64 0] rfl (by (try simp only [List.map_toArray, List.map_cons, List.map_nil]); first | done | rfl | (simp only [List.length_drop, List.length_take]; rfl)) ?_; (with_reducible refine (boundstonelaw02_box.calls 0 2 0 0 t651 t652 t653 t654 _ A13.out).mono ?_); rintro e w43 ⟨rfl, hb⟩; refine ⟨_, rfl, ?_⟩; replace HO629 := Aside0.mk (Kd.R_below (rk HO629) hb); replace HO633 := Aside0.mk (Kd.R_below (rk HO633) hb); replace HO646 := Aside0.mk (Kd.R_below (rk HO646) hb); replace HO649 := Aside0.mk (Kd.R_below (rk HO649) hb); replace HB := Aside0.mk (below_step (hk HB) hb); (try clear hb); (try clear hb2); (try clear hk); (try clear hi)) | ((with_reducible refine gate_callee (f := 60) rfl ?_); refine goesL_ (some 38) rfl rfl Try.func60 (by kernel_rfl) rfl #[.agg #[.int .i64 t651, .int .i64 t652, .int .i64 t653, .int .i64 t654], .int .i64 3] rfl (by (try simp only [List.map_toArray, List.map_cons, List.map_nil]); first | done | rfl | (simp only [List.length_drop, List.length_take]; rfl)) ?_; (with_reducible refine (plane_Grow.calls t651 t652 t653 t654 3 t655 t656 t657 t658 t659 _ A14.out).mono ?_); rintro e w44 ⟨rfl, hb⟩; refine ⟨_, rfl, ?_⟩; replace HO629 := Aside0.mk (Kd.R_below (rk HO629) hb); replace HO633 := Aside0.mk (Kd.R_below (rk HO633) hb); replace HO646 := Aside0.mk (Kd.R_below (rk HO646) hb); replace HO649 := Aside0.mk (Kd.R_below (rk HO649) hb); replace HB := Aside0.mk (below_step (hk HB) hb); (try clear hb); (try clear hb2); (try clear hk); (try clear hi)) | ((with_reducible refine gate_dst (N := 5) rfl ?_); (try (refine gate_guard (by rfl) ?_; dsimp only)); refine box_event ?hg (N := 5) ?hd (cs := #[.int .i64 0, .int .i64 0, .int .i64 0, .int .i64 0]) (t := 52) ?hr ?_; (case hd => rfl); (case hg => rfl); (case hr => first | (go_simp; done) | (go_simp; rfl)); intro gb660 hg w45 hbox hb; have BK660 := Aside0.mk (hbox); have GW660 := geBA HB hg; have GE660 := geBA HB hg; replace HO629 := Aside0.mk (Kd.R_below (rk HO629) hb); replace HO633 := Aside0.mk (Kd.R_below (rk HO633) hb); replace HO646 := Aside0.mk (Kd.R_below (rk HO646) hb); replace HO649 := Aside0.mk (Kd.R_below (rk HO649) hb); replace HB := Aside0.mk (below_step (hk HB) hb); clear hb hbox hg; have hcz46_0 : w45.cell? ⟨gb660, 0, none⟩ = some (.int .i64 0) := (blk_cell BK660.out 0).trans rfl; have hcz46_1 : w45.cell? ⟨gb660, 1, none⟩ = some (.int .i64 0) := (blk_cell BK660.out 1).trans rfl; have hcz46_2 : w45.cell? ⟨gb660, 2, none⟩ = some (.int .i64 0) := (blk_cell BK660.out 2).trans rfl; have hcz46_3 : w45.cell? ⟨gb660, 3, none⟩ = some (.int .i64 0) := (blk_cell BK660.out 3).trans rfl; have hfz46_0 := blk_frozen BK660.out 0; have hfz46_1 := blk_frozen BK660.out 1; have hfz46_2 := blk_frozen BK660.out 2; have hfz46_3 := blk_frozen BK660.out 3) | ((with_reducible refine gate_callee (f := 103) rfl ?_); refine goesL_ (some 42) rfl rfl Try.func103 (by kernel_rfl) rfl #[.int .i64 0, .int .i64 3, .int .i64 5, .int .i64 9] rfl (by (try simp only [List.map_toArray, List.map_cons, List.map_nil]); first | done | rfl | (simp only [List.length_drop, List.length_take]; rfl)) ?_; (with_reducible refine (boundstonelaw02_box.calls 0 3 5 9 t661 t662 t663 t664 _ A15.out).mono ?_); rintro e w47 ⟨rfl, hb⟩; refine ⟨_, rfl, ?_⟩; replace HO629 := Aside0.mk (Kd.R_below (by (with_reducible repeat (first | apply Kd.R_alloc | apply Kd.R_drewN | apply Kd.R_drew)); exact (Kd.R_mono (Kd.R_far (p := ⟨gb660, 3, none⟩) (Kd.R_far (p := ⟨gb660, 2, none⟩) (Kd.R_far (p := ⟨gb660, 1, none⟩) (Kd.R_far (p := ⟨gb660, 0, none⟩) (Kd.R_types HO629.out BK660.out (by decide)) (fun _ hk => hk.2) (.int .i64 t655)) (fun _ hk => hk.2) (.int .i64 t656)) (fun _ hk => hk.2) (.int .i64 t657)) (fun _ hk => hk.2) (.int .i64 t658)) (fun _ h_ => h_.1))) hb); replace HO633 := Aside0.mk (Kd.R_below (by (with_reducible repeat (first | apply Kd.R_alloc | apply Kd.R_drewN | apply Kd.R_drew)); exact (Kd.R_mono (Kd.R_far (p := ⟨gb660, 3, none⟩) (Kd.R_far (p := ⟨gb660, 2, none⟩) (Kd.R_far (p := ⟨gb660, 1, none⟩) (Kd.R_far (p := ⟨gb660, 0, none⟩) (Kd.R_types HO633.out BK660.out (by decide)) (fun _ hk => hk.2) (.int .i64 t655)) (fun _ hk => hk.2) (.int .i64 t656)) (fun _ hk => hk.2) (.int .i64 t657)) (fun _ hk => hk.2) (.int .i64 t658)) (fun _ h_ => h_.1))) hb); replace HO646 := Aside0.mk (Kd.R_below (by (with_reducible repeat (first | apply Kd.R_alloc | apply Kd.R_drewN | apply Kd.R_drew)); exact (Kd.R_mono (Kd.R_far (p := ⟨gb660, 3, none⟩) (Kd.R_far (p := ⟨gb660, 2, none⟩) (Kd.R_far (p := ⟨gb660, 1, none⟩) (Kd.R_far (p := ⟨gb660, 0, none⟩) (Kd.R_types HO646.out BK660.out (by decide)) (fun _ hk => hk.2) (.int .i64 t655)) (fun _ hk => hk.2) (.int .i64 t656)) (fun _ hk => hk.2) (.int .i64 t657)) (fun _ hk => hk.2) (.int .i64 t658)) (fun _ h_ => h_.1))) hb); replace HO649 := Aside0.mk (Kd.R_below (by (with_reducible repeat (first | apply Kd.R_alloc | apply Kd.R_drewN | apply Kd.R_drew)); exact (Kd.R_mono (Kd.R_far (p := ⟨gb660, 3, none⟩) (Kd.R_far (p := ⟨gb660, 2, none⟩) (Kd.R_far (p := ⟨gb660, 1, none⟩) (Kd.R_far (p := ⟨gb660, 0, none⟩) (Kd.R_types HO649.out BK660.out (by decide)) (fun _ hk => hk.2) (.int .i64 t655)) (fun _ hk => hk.2) (.int .i64 t656)) (fun _ hk => hk.2) (.int .i64 t657)) (fun _ hk => hk.2) (.int .i64 t658)) (fun _ h_ => h_.1))) hb); replace BK660 := Aside0.mk (blk_below (g := gb660) (o := .cells #[.int .i64 t655, .int .i64 t656, .int .i64 t657, .int .i64 t658] 52 (0, 0)) (by (with_reducible repeat (first | refine blk_drewN ?_ _ | refine blk_drew ?_ | refine blk_alloc ?_ _)); refine blk_put (cs := #[.int .i64 t655, .int .i64 t656, .int .i64 t657, .int .i64 0]) ?_ 3 _ rfl; (with_reducible repeat (first | refine blk_drewN ?_ _ | refine blk_drew ?_ | refine blk_alloc ?_ _)); refine blk_put (cs := #[.int .i64 t655, .int .i64 t656, .int .i64 0, .int .i64 0]) ?_ 2 _ rfl; (with_reducible repeat (first | refine blk_drewN ?_ _ | refine blk_drew ?_ | refine blk_alloc ?_ _)); refine blk_put (cs := #[.int .i64 t655, .int .i64 0, .int .i64 0, .int .i64 0]) ?_ 1 _ rfl; (with_reducible repeat (first | refine blk_drewN ?_ _ | refine blk_drew ?_ | refine blk_alloc ?_ _)); refine blk_put (cs := #[.int .i64 0, .int .i64 0, .int .i64 0, .int .i64 0]) ?_ 0 _ rfl; (with_reducible repeat (first | refine blk_drewN ?_ _ | refine blk_drew ?_ | refine blk_alloc ?_ _)); exact BK660.out) hb); replace HB := Aside0.mk (below_step (by repeat (first | (with_reducible first | exact HB.out | apply below_alloc | apply pw_below_drewN | apply below_drew1 | refine below_set ?_ GE660.out) | exact HB.out)) hb); (try clear hb); (try clear hb2); (try clear hk); (try clear hi)) | ((with_reducible refine gate_callee (f := 62) rfl ?_); refine goesL_ (some 43) rfl rfl Try.func62 (by kernel_rfl) rfl #[.agg #[.int .i64 t661, .int .i64 t662, .int .i64 t663, .int .i64 t664]] rfl (by (try simp only [List.map_toArray, List.map_cons, List.map_nil]); first | done | rfl | (simp only [List.length_drop, List.length_take]; rfl)) ?_; (with_reducible refine (plane_Cut.calls t661 t662 t663 t664 t665 t666 t667 t668 t669 t670 t671 t672 t673 _ A16.out).mono ?_); rintro e w48 ⟨rfl, hb⟩; refine ⟨_, rfl, ?_⟩; replace HO629 := Aside0.mk (Kd.R_below (rk HO629) hb); replace HO633 := Aside0.mk (Kd.R_below (rk HO633) hb); replace HO646 := Aside0.mk (Kd.R_below (rk HO646) hb); replace HO649 := Aside0.mk (Kd.R_below (rk HO649) hb); replace BK660 := bkC BK660 hb; replace HB := Aside0.mk (below_step (by repeat (first | (with_reducible first | exact HB.out | apply below_alloc | apply pw_below_drewN | apply below_drew1 | refine below_set ?_ GE660.out) | exact HB.out)) hb); (try clear hb); (try clear hb2); (try clear hk); (try clear hi)) | ((with_reducible refine gate_dst (N := 7) rfl ?_); (try (refine gate_guard (by rfl) ?_; dsimp only)); refine box_event ?hg (N := 7) ?hd (cs := #[.int .i64 0, .int .i64 0, .int .i64 0, .int .i64 0]) (t := 52) ?hr ?_; (case hd => rfl); (case hg => rfl); (case hr => first | (go_simp; done) | (go_simp; rfl)); intro gb674 hg w49 hbox hb; have BK674 := Aside0.mk (hbox); have GW674 := Aside0.mk ((by rw [hg]; exact (below_size (by repeat (first | (with_reducible first | exact HB.out | apply below_alloc | apply pw_below_drewN | apply below_drew1 | refine below_set ?_ GE660.out) | exact HB.out))) : w.heap.size ≤ gb674)); have GE674 := Aside0.mk ((by rw [hg]; exact (below_size (by repeat (first | (with_reducible first | exact HB.out | apply below_alloc | apply pw_below_drewN | apply below_drew1 | refine below_set ?_ GE660.out) | exact HB.out))) : w.heap.size ≤ gb674)); have NB660_674 := neLA BK660 hg; have NB674_660 := neGA BK660 hg; replace HO629 := Aside0.mk (Kd.R_below (rk HO629) hb); replace HO633 := Aside0.mk (Kd.R_below (rk HO633) hb); replace HO646 := Aside0.mk (Kd.R_below (rk HO646) hb); replace HO649 := Aside0.mk (Kd.R_below (rk HO649) hb); replace BK660 := bkC BK660 hb; replace HB := Aside0.mk (below_step (by repeat (first | (with_reducible first | exact HB.out | apply below_alloc | apply pw_below_drewN | apply below_drew1 | refine below_set ?_ GE660.out) | exact HB.out)) hb); clear hb hbox hg) | ((with_reducible refine gate_dst (N := 8) rfl ?_); (try (refine gate_guard (by rfl) ?_; dsimp only)); refine box_event ?hg (N := 8) ?hd (cs := #[.int .i64 0, .int .i64 0, .int .i64 0, .int .i64 0]) (t := 52) ?hr ?_; (case hd => rfl); (case hg => rfl); (case hr => first | (go_simp; done) | (go_simp; rfl)); intro gb675 hg w50 hbox hb; have BK675 := Aside0.mk (hbox); have GW675 := Aside0.mk ((by rw [hg]; exact (below_size (by repeat (first | (with_reducible first | exact HB.out | apply below_alloc | apply pw_below_drewN | apply below_drew1 | refine below_set ?_ GE660.out | refine below_set ?_ GE674.out) | exact HB.out))) : w.heap.size ≤ gb675)); have GE675 := Aside0.mk ((by rw [hg]; exact (below_size (by repeat (first | (with_reducible first | exact HB.out | apply below_alloc | apply pw_below_drewN | apply below_drew1 | refine below_set ?_ GE660.out | refine below_set ?_ GE674.out) | exact HB.out))) : w.heap.size ≤ gb675)); have NB660_675 := neLA BK660 hg; have NB675_660 := neGA BK660 hg; have NB674_675 := neLA BK674 hg; have NB675_674 := neGA BK674 hg; replace HO629 := Aside0.mk (Kd.R_below (rk HO629) hb); replace HO633 := Aside0.mk (Kd.R_below (rk HO633) hb); replace HO646 := Aside0.mk (Kd.R_below (rk HO646) hb); replace HO649 := Aside0.mk (Kd.R_below (rk HO649) hb); replace BK660 := bkC BK660 hb; replace BK674 := bkC BK674 hb; replace HB := Aside0.mk (below_step (by repeat (first | (with_reducible first | exact HB.out | apply below_alloc | apply pw_below_drewN | apply below_drew1 | refine below_set ?_ GE660.out | refine below_set ?_ GE674.out) | exact HB.out)) hb); clear hb hbox hg; have hnb51 := NB674_660.out; have hnc51 := NB660_674.out; have hnb52 := NB674_675.out; have hnc52 := NB675_674.out; have hcz53_0 : w50.cell? ⟨gb674, 0, none⟩ = some (.int .i64 0) := (blk_cell BK674.out 0).trans rfl; have hcz53_1 : w50.cell? ⟨gb674, 1, none⟩ = some (.int .i64 0) := (blk_cell BK674.out 1).trans rfl; have hcz53_2 : w50.cell? ⟨gb674, 2, none⟩ = some (.int .i64 0) := (blk_cell BK674.out 2).trans rfl; have hcz53_3 : w50.cell? ⟨gb674, 3, none⟩ = some (.int .i64 0) := (blk_cell BK674.out 3).trans rfl; have hfz53_0 := blk_frozen BK674.out 0; have hfz53_1 := blk_frozen BK674.out 1; have hfz53_2 := blk_frozen BK674.out 2; have hfz53_3 := blk_frozen BK674.out 3; have hnb54 := NB675_660.out; have hnc54 := NB660_675.out; have hcz55_0 : w50.cell? ⟨gb675, 0, none⟩ = some (.int .i64 0) := (blk_cell BK675.out 0).trans rfl; have hcz55_1 : w50.cell? ⟨gb675, 1, none⟩ = some (.int .i64 0) := (blk_cell BK675.out 1).trans rfl; have hcz55_2 : w50.cell? ⟨gb675, 2, none⟩ = some (.int .i64 0) := (blk_cell BK675.out 2).trans rfl; have hcz55_3 : w50.cell? ⟨gb675, 3, none⟩ = some (.int .i64 0) := (blk_cell BK675.out 3).trans rfl; have hfz55_0 := blk_frozen BK675.out 0; have hfz55_1 := blk_frozen BK675.out 1; have hfz55_2 := blk_frozen BK675.out 2; have hfz55_3 := blk_frozen BK675.out 3) | ((with_reducible refine gate_callee (f := 103) rfl ?_); refine goesL_ (some 48) rfl rfl Try.func103 (by kernel_rfl) rfl #[.int .i64 0, .int .i64 0, .int .i64 0, .int .i64 0] rfl (by (try simp only [List.map_toArray, List.map_cons, List.map_nil]); first | done | rfl | (simp only [List.length_drop, List.length_take]; rfl)) ?_; (with_reducible refine (boundstonelaw02_box.calls 0 0 0 0 t676 t677 t678 t679 _ A17.out).mono ?_); rintro e w56 ⟨rfl, hb⟩; refine ⟨_, rfl, ?_⟩; replace HO629 := Aside0.mk (Kd.R_below (by (with_reducible repeat (first | apply Kd.R_alloc | apply Kd.R_drewN | apply Kd.R_drew)); exact (Kd.R_mono (Kd.R_mono (Kd.R_far (p := ⟨gb675, 3, none⟩) (Kd.R_far (p := ⟨gb675, 2, none⟩) (Kd.R_far (p := ⟨gb675, 1, none⟩) (Kd.R_far (p := ⟨gb675, 0, none⟩) (Kd.R_far (p := ⟨gb674, 3, none⟩) (Kd.R_far (p := ⟨gb674, 2, none⟩) (Kd.R_far (p := ⟨gb674, 1, none⟩) (Kd.R_far (p := ⟨gb674, 0, none⟩) (Kd.R_types (Kd.R_types HO629.out BK674.out (by decide)) BK675.out (by decide)) (fun _ hk => hk.1.2) (.int .i64 t665)) (fun _ hk => hk.1.2) (.int .i64 t666)) (fun _ hk => hk.1.2) (.int .i64 t667)) (fun _ hk => hk.1.2) (.int .i64 t668)) (fun _ hk => hk.2) (.int .i64 t669)) (fun _ hk => hk.2) (.int .i64 t670)) (fun _ hk => hk.2) (.int .i64 t671)) (fun _ hk => hk.2) (.int .i64 t672)) (fun _ h_ => h_.1)) (fun _ h_ => h_.1))) hb); replace HO633 := Aside0.mk (Kd.R_below (by (with_reducible repeat (first | apply Kd.R_alloc | apply Kd.R_drewN | apply Kd.R_drew)); exact (Kd.R_mono (Kd.R_mono (Kd.R_far (p := ⟨gb675, 3, none⟩) (Kd.R_far (p := ⟨gb675, 2, none⟩) (Kd.R_far (p := ⟨gb675, 1, none⟩) (Kd.R_far (p := ⟨gb675, 0, none⟩) (Kd.R_far (p := ⟨gb674, 3, none⟩) (Kd.R_far (p := ⟨gb674, 2, none⟩) (Kd.R_far (p := ⟨gb674, 1, none⟩) (Kd.R_far (p := ⟨gb674, 0, none⟩) (Kd.R_types (Kd.R_types HO633.out BK674.out (by decide)) BK675.out (by decide)) (fun _ hk => hk.1.2) (.int .i64 t665)) (fun _ hk => hk.1.2) (.int .i64 t666)) (fun _ hk => hk.1.2) (.int .i64 t667)) (fun _ hk => hk.1.2) (.int .i64 t668)) (fun _ hk => hk.2) (.int .i64 t669)) (fun _ hk => hk.2) (.int .i64 t670)) (fun _ hk => hk.2) (.int .i64 t671)) (fun _ hk => hk.2) (.int .i64 t672)) (fun _ h_ => h_.1)) (fun _ h_ => h_.1))) hb); replace HO646 := Aside0.mk (Kd.R_below (by (with_reducible repeat (first | apply Kd.R_alloc | apply Kd.R_drewN | apply Kd.R_drew)); exact (Kd.R_mono (Kd.R_mono (Kd.R_far (p := ⟨gb675, 3, none⟩) (Kd.R_far (p := ⟨gb675, 2, none⟩) (Kd.R_far (p := ⟨gb675, 1, none⟩) (Kd.R_far (p := ⟨gb675, 0, none⟩) (Kd.R_far (p := ⟨gb674, 3, none⟩) (Kd.R_far (p := ⟨gb674, 2, none⟩) (Kd.R_far (p := ⟨gb674, 1, none⟩) (Kd.R_far (p := ⟨gb674, 0, none⟩) (Kd.R_types (Kd.R_types HO646.out BK674.out (by decide)) BK675.out (by decide)) (fun _ hk => hk.1.2) (.int .i64 t665)) (fun _ hk => hk.1.2) (.int .i64 t666)) (fun _ hk => hk.1.2) (.int .i64 t667)) (fun _ hk => hk.1.2) (.int .i64 t668)) (fun _ hk => hk.2) (.int .i64 t669)) (fun _ hk => hk.2) (.int .i64 t670)) (fun _ hk => hk.2) (.int .i64 t671)) (fun _ hk => hk.2) (.int .i64 t672)) (fun _ h_ => h_.1)) (fun _ h_ => h_.1))) hb); replace HO649 := Aside0.mk (Kd.R_below (by (with_reducible repeat (first | apply Kd.R_alloc | apply Kd.R_drewN | apply Kd.R_drew)); exact (Kd.R_mono (Kd.R_mono (Kd.R_far (p := ⟨gb675, 3, none⟩) (Kd.R_far (p := ⟨gb675, 2, none⟩) (Kd.R_far (p := ⟨gb675, 1, none⟩) (Kd.R_far (p := ⟨gb675, 0, none⟩) (Kd.R_far (p := ⟨gb674, 3, none⟩) (Kd.R_far (p := ⟨gb674, 2, none⟩) (Kd.R_far (p := ⟨gb674, 1, none⟩) (Kd.R_far (p := ⟨gb674, 0, none⟩) (Kd.R_types (Kd.R_types HO649.out BK674.out (by decide)) BK675.out (by decide)) (fun _ hk => hk.1.2) (.int .i64 t665)) (fun _ hk => hk.1.2) (.int .i64 t666)) (fun _ hk => hk.1.2) (.int .i64 t667)) (fun _ hk => hk.1.2) (.int .i64 t668)) (fun _ hk => hk.2) (.int .i64 t669)) (fun _ hk => hk.2) (.int .i64 t670)) (fun _ hk => hk.2) (.int .i64 t671)) (fun _ hk => hk.2) (.int .i64 t672)) (fun _ h_ => h_.1)) (fun _ h_ => h_.1))) hb); replace BK660 := Aside0.mk (blk_below (g := gb660) (o := .cells #[.int .i64 t655, .int .i64 t656, .int .i64 t657, .int .i64 t658] 52 (0, 0)) (by (with_reducible repeat (first | refine blk_drewN ?_ _ | refine blk_drew ?_ | refine blk_alloc ?_ _)); refine blk_far ?_ NB660_675.out _; (with_reducible repeat (first | refine blk_drewN ?_ _ | refine blk_drew ?_ | refine blk_alloc ?_ _)); refine blk_far ?_ NB660_675.out _; (with_reducible repeat (first | refine blk_drewN ?_ _ | refine blk_drew ?_ | refine blk_alloc ?_ _)); refine blk_far ?_ NB660_675.out _; (with_reducible repeat (first | refine blk_drewN ?_ _ | refine blk_drew ?_ | refine blk_alloc ?_ _)); refine blk_far ?_ NB660_675.out _; (with_reducible repeat (first | refine blk_drewN ?_ _ | refine blk_drew ?_ | refine blk_alloc ?_ _)); refine blk_far ?_ NB660_674.out _; (with_reducible repeat (first | refine blk_drewN ?_ _ | refine blk_drew ?_ | refine blk_alloc ?_ _)); refine blk_far ?_ NB660_674.out _; (with_reducible repeat (first | refine blk_drewN ?_ _ | refine blk_drew ?_ | refine blk_alloc ?_ _)); refine blk_far ?_ NB660_674.out _; (with_reducible repeat (first | refine blk_drewN ?_ _ | refine blk_drew ?_ | refine blk_alloc ?_ _)); refine blk_far ?_ NB660_674.out _; (with_reducible repeat (first | refine blk_drewN ?_ _ | refine blk_drew ?_ | refine blk_alloc ?_ _)); exact BK660.out) hb); replace BK674 := Aside0.mk (blk_below (g := gb674) (o := .cells #[.int .i64 t665, .int .i64 t666, .int .i64 t667, .int .i64 t668] 52 (0, 0)) (by (with_reducible repeat (first | refine blk_drewN ?_ _ | refine blk_drew ?_ | refine blk_alloc ?_ _)); refine blk_far ?_ NB674_675.out _; (with_reducible repeat (first | refine blk_drewN ?_ _ | refine blk_drew ?_ | refine blk_alloc ?_ _)); refine blk_far ?_ NB674_675.out _; (with_reducible repeat (first | refine blk_drewN ?_ _ | refine blk_drew ?_ | refine blk_alloc ?_ _)); refine blk_far ?_ NB674_675.out _; (with_reducible repeat (first | refine blk_drewN ?_ _ | refine blk_drew ?_ | refine blk_alloc ?_ _)); refine blk_far ?_ NB674_675.out _; (with_reducible repeat (first | refine blk_drewN ?_ _ | refine blk_drew ?_ | refine blk_alloc ?_ _)); refine blk_put (cs := #[.int .i64 t665, .int .i64 t666, .int .i64 t667, .int .i64 0]) ?_ 3 _ rfl; (with_reducible repeat (first | refine blk_drewN ?_ _ | refine blk_drew ?_ | refine blk_alloc ?_ _)); refine blk_put (cs := #[.int .i64 t665, .int .i64 t666, .int .i64 0, .int .i64 0]) ?_ 2 _ rfl; (with_reducible repeat (first | refine blk_drewN ?_ _ | refine blk_drew ?_ | refine blk_alloc ?_ _)); refine blk_put (cs := #[.int .i64 t665, .int .i64 0, .int .i64 0, .int .i64 0]) ?_ 1 _ rfl; (with_reducible repeat (first | refine blk_drewN ?_ _ | refine blk_drew ?_ | refine blk_alloc ?_ _)); refine blk_put (cs := #[.int .i64 0, .int .i64 0, .int .i64 0, .int .i64 0]) ?_ 0 _ rfl; (with_reducible repeat (first | refine blk_drewN ?_ _ | refine blk_drew ?_ | refine blk_alloc ?_ _)); exact BK674.out) hb); replace BK675 := Aside0.mk (blk_below (g := gb675) (o := .cells #[.int .i64 t669, .int .i64 t670, .int .i64 t671, .int .i64 t672] 52 (0, 0)) (by (with_reducible repeat (first | refine blk_drewN ?_ _ | refine blk_drew ?_ | refine blk_alloc ?_ _)); refine blk_put (cs := #[.int .i64 t669, .int .i64 t670, .int .i64 t671, .int .i64 0]) ?_ 3 _ rfl; (with_reducible repeat (first | refine blk_drewN ?_ _ | refine blk_drew ?_ | refine blk_alloc ?_ _)); refine blk_put (cs := #[.int .i64 t669, .int .i64 t670, .int .i64 0, .int .i64 0]) ?_ 2 _ rfl; (with_reducible repeat (first | refine blk_drewN ?_ _ | refine blk_drew ?_ | refine blk_alloc ?_ _)); refine blk_put (cs := #[.int .i64 t669, .int .i64 0, .int .i64 0, .int .i64 0]) ?_ 1 _ rfl; (with_reducible repeat (first | refine blk_drewN ?_ _ | refine blk_drew ?_ | refine blk_alloc ?_ _)); refine blk_put (cs := #[.int .i64 0, .int .i64 0, .int .i64 0, .int .i64 0]) ?_ 0 _ rfl; (with_reducible repeat (first | refine blk_drewN ?_ _ | refine blk_drew ?_ | refine blk_alloc ?_ _)); refine blk_far ?_ NB675_674.out _; (with_reducible repeat (first | refine blk_drewN ?_ _ | refine blk_drew ?_ | refine blk_alloc ?_ _)); refine blk_far ?_ NB675_674.out _; (with_reducible repeat (first | refine blk_drewN ?_ _ | refine blk_drew ?_ | refine blk_alloc ?_ _)); refine blk_far ?_ NB675_674.out _; (with_reducible repeat (first | refine blk_drewN ?_ _ | refine blk_drew ?_ | refine blk_alloc ?_ _)); refine blk_far ?_ NB675_674.out _; (with_reducible repeat (first | refine blk_drewN ?_ _ | refine blk_drew ?_ | refine blk_alloc ?_ _)); exact BK675.out) hb); replace HB := Aside0.mk (below_step (by repeat (first | (with_reducible first | exact HB.out | apply below_alloc | apply pw_below_drewN | apply below_drew1 | refine below_set ?_ GE660.out | refine below_set ?_ GE674.out | refine below_set ?_ GE675.out) | exact HB.out)) hb); (try clear hb); (try clear hb2); (try clear hk); (try clear hi)) | ((with_reducible refine gate_callee (f := 103) rfl ?_); refine goesL_ (some 49) rfl rfl Try.func103 (by kernel_rfl) rfl #[.int .i64 4, .int .i64 4, .int .i64 0, .int .i64 0] rfl (by (try simp only [List.map_toArray, List.map_cons, List.map_nil]); first | done | rfl | (simp only [List.length_drop, List.length_take]; rfl)) ?_; (with_reducible refine (boundstonelaw02_box.calls 4 4 0 0 t680 t681 t682 t683 _ A18.out).mono ?_); rintro e w57 ⟨rfl, hb⟩; refine ⟨_, rfl, ?_⟩; replace HO629 := Aside0.mk (Kd.R_below (rk HO629) hb); replace HO633 := Aside0.mk (Kd.R_below (rk HO633) hb); replace HO646 := Aside0.mk (Kd.R_below (rk HO646) hb); replace HO649 := Aside0.mk (Kd.R_below (rk HO649) hb); replace BK660 := bkC BK660 hb; replace BK674 := bkC BK674 hb; replace BK675 := bkC BK675 hb; replace HB := Aside0.mk (below_step (by repeat (first | (with_reducible first | exact HB.out | apply below_alloc | apply pw_below_drewN | apply below_drew1 | refine below_set ?_ GE660.out | refine below_set ?_ GE674.out | refine below_set ?_ GE675.out) | exact HB.out)) hb); (try clear hb); (try clear hb2); (try clear hk); (try clear hi)) | ((with_reducible refine gate_callee (f := 103) rfl ?_); refine goesL_ (some 50) rfl rfl Try.func103 (by kernel_rfl) rfl #[.int .i64 1, .int .i64 2, .int .i64 (-1), .int .i64 3] rfl (by (try simp only [List.map_toArray, List.map_cons, List.map_nil]); first | done | rfl | (simp only [List.length_drop, List.length_take]; rfl)) ?_; (with_reducible refine (boundstonelaw02_box.calls 1 2 (-1) 3 t684 t685 t686 t687 _ A19.out).mono ?_); rintro e w58 ⟨rfl, hb⟩; refine ⟨_, rfl, ?_⟩; replace HO629 := Aside0.mk (Kd.R_below (rk HO629) hb); replace HO633 := Aside0.mk (Kd.R_below (rk HO633) hb); replace HO646 := Aside0.mk (Kd.R_below (rk HO646) hb); replace HO649 := Aside0.mk (Kd.R_below (rk HO649) hb); replace BK660 := bkC BK660 hb; replace BK674 := bkC BK674 hb; replace BK675 := bkC BK675 hb; replace HB := Aside0.mk (below_step (by repeat (first | (with_reducible first | exact HB.out | apply below_alloc | apply pw_below_drewN | apply below_drew1 | refine below_set ?_ GE660.out | refine below_set ?_ GE674.out | refine below_set ?_ GE675.out) | exact HB.out)) hb); (try clear hb); (try clear hb2); (try clear hk); (try clear hi)) | ((with_reducible refine gate_callee (f := 50) rfl ?_); refine goesL_ (some 51) rfl rfl Try.func50 (by kernel_rfl) rfl #[.agg #[.int .i64 t676, .int .i64 t677, .int .i64 t678, .int .i64 t679], .agg #[.int .i64 t680, .int .i64 t681, .int .i64 t682, .int .i64 t683], .agg #[.int .i64 t684, .int .i64 t685, .int .i64 t686, .int .i64 t687]] rfl (by (try simp only [List.map_toArray, List.map_cons, List.map_nil]); first | done | rfl | (simp only [List.length_drop, List.length_take]; rfl)) ?_; (with_reducible refine (plane_Spread.calls t676 t677 t678 t679 t680 t681 t682 t683 t684 t685 t686 t687 t688 t689 t690 _ A20.out).mono ?_); rintro e w59 ⟨rfl, hb⟩; refine ⟨_, rfl, ?_⟩; replace HO629 := Aside0.mk (Kd.R_below (rk HO629) hb); replace HO633 := Aside0.mk (Kd.R_below (rk HO633) hb); replace HO646 := Aside0.mk (Kd.R_below (rk HO646) hb); replace HO649 := Aside0.mk (Kd.R_below (rk HO649) hb); replace BK660 := bkC BK660 hb; replace BK674 := bkC BK674 hb; replace BK675 := bkC BK675 hb; replace HB := Aside0.mk (below_step (by repeat (first | (with_reducible first | exact HB.out | apply below_alloc | apply pw_below_drewN | apply below_drew1 | refine below_set ?_ GE660.out | refine below_set ?_ GE674.out | refine below_set ?_ GE675.out) | exact HB.out)) hb); (try clear hb); (try clear hb2); (try clear hk); (try clear hi)) | ((with_reducible refine gate_dst (N := 10) rfl ?_); (try (refine gate_guard (by rfl) ?_; dsimp only)); refine box_event ?hg (N := 10) ?hd (cs := #[.int .i64 0, .int .i64 0]) (t := 50) ?hr ?_; (case hd => rfl); (case hg => rfl); (case hr => first | (go_simp; done) | (go_simp; rfl)); intro gb691 hg w60 hbox hb; have BK691 := Aside0.mk (hbox); have GW691 := Aside0.mk ((by rw [hg]; exact (below_size (by repeat (first | (with_reducible first | exact HB.out | apply below_alloc | apply pw_below_drewN | apply below_drew1 | refine below_set ?_ GE660.out | refine below_set ?_ GE674.out | refine below_set ?_ GE675.out) | exact HB.out))) : w.heap.size ≤ gb691)); have GE691 := Aside0.mk ((by rw [hg]; exact (below_size (by repeat (first | (with_reducible first | exact HB.out | apply below_alloc | apply pw_below_drewN | apply below_drew1 | refine below_set ?_ GE660.out | refine below_set ?_ GE674.out | refine below_set ?_ GE675.out) | exact HB.out))) : w.heap.size ≤ gb691)); have NB660_691 := neLA BK660 hg; have NB691_660 := neGA BK660 hg; have NB674_691 := neLA BK674 hg; have NB691_674 := neGA BK674 hg; have NB675_691 := neLA BK675 hg; have NB691_675 := neGA BK675 hg; replace HO629 := Aside0.mk (Kd.R_below (rk HO629) hb); replace HO633 := Aside0.mk (Kd.R_below (rk HO633) hb); replace HO646 := Aside0.mk (Kd.R_below (rk HO646) hb); replace HO649 := Aside0.mk (Kd.R_below (rk HO649) hb); replace BK660 := bkC BK660 hb; replace BK674 := bkC BK674 hb; replace BK675 := bkC BK675 hb; replace HB := Aside0.mk (below_step (by repeat (first | (with_reducible first | exact HB.out | apply below_alloc | apply pw_below_drewN | apply below_drew1 | refine below_set ?_ GE660.out | refine below_set ?_ GE674.out | refine below_set ?_ GE675.out) | exact HB.out)) hb); clear hb hbox hg; have hnb61 := NB691_660.out; have hnc61 := NB660_691.out; have hnb62 := NB691_674.out; have hnc62 := NB674_691.out; have hnb63 := NB691_675.out; have hnc63 := NB675_691.out; have hcz64_0 : w60.cell? ⟨gb691, 0, none⟩ = some (.int .i64 0) := (blk_cell BK691.out 0).trans rfl; have hcz64_1 : w60.cell? ⟨gb691, 1, none⟩ = some (.int .i64 0) := (blk_cell BK691.out 1).trans rfl; have hfz64_0 := blk_frozen BK691.out 0; have hfz64_1 := blk_frozen BK691.out 1) | ((with_reducible refine gate_callee (f := 103) rfl ?_); refine goesL_ (some 55) rfl rfl Try.func103 (by kernel_rfl) rfl #[.int .i64 0, .int .i64 1, .int .i64 0, .int .i64 1] rfl (by (try simp only [List.map_toArray, List.map_cons, List.map_nil]); first | done | rfl | (simp only [List.length_drop, List.length_take]; rfl)) ?_; (with_reducible refine (boundstonelaw02_box.calls 0 1 0 1 t692 t693 t694 t695 _ A21.out).mono ?_); rintro e w65 ⟨rfl, hb⟩; refine ⟨_, rfl, ?_⟩; replace HO629 := Aside0.mk (Kd.R_below (by (with_reducible repeat (first | apply Kd.R_alloc | apply Kd.R_drewN | apply Kd.R_drew)); exact (Kd.R_mono (Kd.R_far (p := ⟨gb691, 1, none⟩) (Kd.R_far (p := ⟨gb691, 0, none⟩) (Kd.R_types HO629.out BK691.out (by decide)) (fun _ hk => hk.2) (.int .i64 t688)) (fun _ hk => hk.2) (.int .i64 t689)) (fun _ h_ => h_.1))) hb); replace HO633 := Aside0.mk (Kd.R_below (by (with_reducible repeat (first | apply Kd.R_alloc | apply Kd.R_drewN | apply Kd.R_drew)); exact (Kd.R_mono (Kd.R_far (p := ⟨gb691, 1, none⟩) (Kd.R_far (p := ⟨gb691, 0, none⟩) (Kd.R_types HO633.out BK691.out (by decide)) (fun _ hk => hk.2) (.int .i64 t688)) (fun _ hk => hk.2) (.int .i64 t689)) (fun _ h_ => h_.1))) hb); replace HO646 := Aside0.mk (Kd.R_below (by (with_reducible repeat (first | apply Kd.R_alloc | apply Kd.R_drewN | apply Kd.R_drew)); exact (Kd.R_mono (Kd.R_far (p := ⟨gb691, 1, none⟩) (Kd.R_far (p := ⟨gb691, 0, none⟩) (Kd.R_types HO646.out BK691.out (by decide)) (fun _ hk => hk.2) (.int .i64 t688)) (fun _ hk => hk.2) (.int .i64 t689)) (fun _ h_ => h_.1))) hb); replace HO649 := Aside0.mk (Kd.R_below (by (with_reducible repeat (first | apply Kd.R_alloc | apply Kd.R_drewN | apply Kd.R_drew)); exact (Kd.R_mono (Kd.R_far (p := ⟨gb691, 1, none⟩) (Kd.R_far (p := ⟨gb691, 0, none⟩) (Kd.R_types HO649.out BK691.out (by decide)) (fun _ hk => hk.2) (.int .i64 t688)) (fun _ hk => hk.2) (.int .i64 t689)) (fun _ h_ => h_.1))) hb); replace BK660 := Aside0.mk (blk_below (g := gb660) (o := .cells #[.int .i64 t655, .int .i64 t656, .int .i64 t657, .int .i64 t658] 52 (0, 0)) (by (with_reducible repeat (first | refine blk_drewN ?_ _ | refine blk_drew ?_ | refine blk_alloc ?_ _)); refine blk_far ?_ NB660_691.out _; (with_reducible repeat (first | refine blk_drewN ?_ _ | refine blk_drew ?_ | refine blk_alloc ?_ _)); refine blk_far ?_ NB660_691.out _; (with_reducible repeat (first | refine blk_drewN ?_ _ | refine blk_drew ?_ | refine blk_alloc ?_ _)); exact BK660.out) hb); replace BK674 := Aside0.mk (blk_below (g := gb674) (o := .cells #[.int .i64 t665, .int .i64 t666, .int .i64 t667, .int .i64 t668] 52 (0, 0)) (by (with_reducible repeat (first | refine blk_drewN ?_ _ | refine blk_drew ?_ | refine blk_alloc ?_ _)); refine blk_far ?_ NB674_691.out _; (with_reducible repeat (first | refine blk_drewN ?_ _ | refine blk_drew ?_ | refine blk_alloc ?_ _)); refine blk_far ?_ NB674_691.out _; (with_reducible repeat (first | refine blk_drewN ?_ _ | refine blk_drew ?_ | refine blk_alloc ?_ _)); exact BK674.out) hb); replace BK675 := Aside0.mk (blk_below (g := gb675) (o := .cells #[.int .i64 t669, .int .i64 t670, .int .i64 t671, .int .i64 t672] 52 (0, 0)) (by (with_reducible repeat (first | refine blk_drewN ?_ _ | refine blk_drew ?_ | refine blk_alloc ?_ _)); refine blk_far ?_ NB675_691.out _; (with_reducible repeat (first | refine blk_drewN ?_ _ | refine blk_drew ?_ | refine blk_alloc ?_ _)); refine blk_far ?_ NB675_691.out _; (with_reducible repeat (first | refine blk_drewN ?_ _ | refine blk_drew ?_ | refine blk_alloc ?_ _)); exact BK675.out) hb); replace BK691 := Aside0.mk (blk_below (g := gb691) (o := .cells #[.int .i64 t688, .int .i64 t689] 50 (0, 0)) (by (with_reducible repeat (first | refine blk_drewN ?_ _ | refine blk_drew ?_ | refine blk_alloc ?_ _)); refine blk_put (cs := #[.int .i64 t688, .int .i64 0]) ?_ 1 _ rfl; (with_reducible repeat (first | refine blk_drewN ?_ _ | refine blk_drew ?_ | refine blk_alloc ?_ _)); refine blk_put (cs := #[.int .i64 0, .int .i64 0]) ?_ 0 _ rfl; (with_reducible repeat (first | refine blk_drewN ?_ _ | refine blk_drew ?_ | refine blk_alloc ?_ _)); exact BK691.out) hb); replace HB := Aside0.mk (below_step (by repeat (first | (with_reducible first | exact HB.out | apply below_alloc | apply pw_below_drewN | apply below_drew1 | refine below_set ?_ GE660.out | refine below_set ?_ GE674.out | refine below_set ?_ GE675.out | refine below_set ?_ GE691.out) | exact HB.out)) hb); (try clear hb); (try clear hb2); (try clear hk); (try clear hi)) | ((with_reducible refine gate_callee (f := 103) rfl ?_); refine goesL_ (some 56) rfl rfl Try.func103 (by kernel_rfl) rfl #[.int .i64 3, .int .i64 4, .int .i64 0, .int .i64 5] rfl (by (try simp only [List.map_toArray, List.map_cons, List.map_nil]); first | done | rfl | (simp only [List.length_drop, List.length_take]; rfl)) ?_; (with_reducible refine (boundstonelaw02_box.calls 3 4 0 5 t696 t697 t698 t699 _ A22.out).mono ?_); rintro e w66 ⟨rfl, hb⟩; refine ⟨_, rfl, ?_⟩; replace HO629 := Aside0.mk (Kd.R_below (rk HO629) hb); replace HO633 := Aside0.mk (Kd.R_below (rk HO633) hb); replace HO646 := Aside0.mk (Kd.R_below (rk HO646) hb); replace HO649 := Aside0.mk (Kd.R_below (rk HO649) hb); replace BK660 := bkC BK660 hb; replace BK674 := bkC BK674 hb; replace BK675 := bkC BK675 hb; replace BK691 := bkC BK691 hb; replace HB := Aside0.mk (below_step (by repeat (first | (with_reducible first | exact HB.out | apply below_alloc | apply pw_below_drewN | apply below_drew1 | refine below_set ?_ GE660.out | refine below_set ?_ GE674.out | refine below_set ?_ GE675.out | refine below_set ?_ GE691.out) | exact HB.out)) hb); (try clear hb); (try clear hb2); (try clear hk); (try clear hi)) | ((with_reducible refine gate_callee (f := 52) rfl ?_); refine goesL_ (some 57) rfl rfl Try.func52 (by kernel_rfl) rfl #[.agg #[.int .i64 t692, .int .i64 t693, .int .i64 t694, .int .i64 t695], .agg #[.int .i64 t696, .int .i64 t697, .int .i64 t698, .int .i64 t699]] rfl (by (try simp only [List.map_toArray, List.map_cons, List.map_nil]); first | done | rfl | (simp only [List.length_drop, List.length_take]; rfl)) ?_; (with_reducible refine (plane_Dists.calls k t692 t693 t694 t695 t696 t697 t698 t699 t700 t701 t702 _ A23.out).mono ?_); rintro e w67 ⟨rfl, hb⟩; refine ⟨_, rfl, ?_⟩; replace HO629 := Aside0.mk (Kd.R_below (rk HO629) hb); replace HO633 := Aside0.mk (Kd.R_below (rk HO633) hb); replace HO646 := Aside0.mk (Kd.R_below (rk HO646) hb); replace HO649 := Aside0.mk (Kd.R_below (rk HO649) hb); replace BK660 := bkC BK660 hb; replace BK674 := bkC BK674 hb; replace BK675 := bkC BK675 hb; replace BK691 := bkC BK691 hb; replace HB := Aside0.mk (below_step (by repeat (first | (with_reducible first | exact HB.out | apply below_alloc | apply pw_below_drewN | apply below_drew1 | refine below_set ?_ GE660.out | refine below_set ?_ GE674.out | refine below_set ?_ GE675.out | refine below_set ?_ GE691.out) | exact HB.out)) hb); (try clear hb); (try clear hb2); (try clear hk); (try clear hi)) | ((with_reducible refine gate_dst (N := 12) rfl ?_); (try (refine gate_guard (by rfl) ?_; dsimp only)); refine box_event ?hg (N := 12) ?hd (cs := #[.int .i64 0, .int .i64 0]) (t := 50) ?hr ?_; (case hd => rfl); (case hg => rfl); (case hr => first | (go_simp; done) | (go_simp; rfl)); intro gb703 hg w68 hbox hb; have BK703 := Aside0.mk (hbox); have GW703 := Aside0.mk ((by rw [hg]; exact (below_size (by repeat (first | (with_reducible first | exact HB.out | apply below_alloc | apply pw_below_drewN | apply below_drew1 | refine below_set ?_ GE660.out | refine below_set ?_ GE674.out | refine below_set ?_ GE675.out | refine below_set ?_ GE691.out) | exact HB.out))) : w.heap.size ≤ gb703)); have GE703 := Aside0.mk ((by rw [hg]; exact (below_size (by repeat (first | (with_reducible first | exact HB.out | apply below_alloc | apply pw_below_drewN | apply below_drew1 | refine below_set ?_ GE660.out | refine below_set ?_ GE674.out | refine below_set ?_ GE675.out | refine below_set ?_ GE691.out) | exact HB.out))) : w.heap.size ≤ gb703)); have NB660_703 := neLA BK660 hg; have NB703_660 := neGA BK660 hg; have NB674_703 := neLA BK674 hg; have NB703_674 := neGA BK674 hg; have NB675_703 := neLA BK675 hg; have NB703_675 := neGA BK675 hg; have NB691_703 := neLA BK691 hg; have NB703_691 := neGA BK691 hg; replace HO629 := Aside0.mk (Kd.R_below (rk HO629) hb); replace HO633 := Aside0.mk (Kd.R_below (rk HO633) hb); replace HO646 := Aside0.mk (Kd.R_below (rk HO646) hb); replace HO649 := Aside0.mk (Kd.R_below (rk HO649) hb); replace BK660 := bkC BK660 hb; replace BK674 := bkC BK674 hb; replace BK675 := bkC BK675 hb; replace BK691 := bkC BK691 hb; replace HB := Aside0.mk (below_step (by repeat (first | (with_reducible first | exact HB.out | apply below_alloc | apply pw_below_drewN | apply below_drew1 | refine below_set ?_ GE660.out | refine below_set ?_ GE674.out | refine below_set ?_ GE675.out | refine below_set ?_ GE691.out) | exact HB.out)) hb); clear hb hbox hg; have hnb69 := NB703_660.out; have hnc69 := NB660_703.out; have hnb70 := NB703_674.out; have hnc70 := NB674_703.out; have hnb71 := NB703_675.out; have hnc71 := NB675_703.out; have hnb72 := NB703_691.out; have hnc72 := NB691_703.out; have hcz73_0 : w68.cell? ⟨gb703, 0, none⟩ = some (.int .i64 0) := (blk_cell BK703.out 0).trans rfl; have hcz73_1 : w68.cell? ⟨gb703, 1, none⟩ = some (.int .i64 0) := (blk_cell BK703.out 1).trans rfl; have hfz73_0 := blk_frozen BK703.out 0; have hfz73_1 := blk_frozen BK703.out 1))
 (try simp only [Act.put, List.setIfInBounds_toArray, List.set_cons_zero, List.set_cons_succ])
 go_cut [14] (fun v14 wc => ∃ (kq : Nat) (x14_23 : Bool), v14 = .bool x14_23 ∧ Aside0 (boundstonelaw02_boxes.j0 kq t647 t650 t659 t673 t690 t702 x14_23 t655 t656 t657 t658 t665 t666 t667 t668 t669 t670 t671 t672 t688 t689 t700 t701 = some r) ∧ Aside0 (kq ≤ k) ∧ Aside0 (Kd.R (Kd.int .i64) 3 wc w.heap.size (fun _ => True) v648 t647) ∧ Aside0 (wc.heap[gb660]? = some (.cells #[.int .i64 t655, .int .i64 t656, .int .i64 t657, .int .i64 t658] 52 (0, 0))) ∧ Aside0 (wc.heap[gb674]? = some (.cells #[.int .i64 t665, .int .i64 t666, .int .i64 t667, .int .i64 t668] 52 (0, 0))) ∧ Aside0 (wc.heap[gb675]? = some (.cells #[.int .i64 t669, .int .i64 t670, .int .i64 t671, .int .i64 t672] 52 (0, 0))) ∧ Aside0 (wc.heap[gb691]? = some (.cells #[.int .i64 t688, .int .i64 t689] 50 (0, 0))) ∧ Aside0 (wc.heap[gb703]? = some (.cells #[.int .i64 t700, .int .i64 t701] 50 (0, 0))) ∧ Aside0 (Below w.heap.size w wc))
 case first =>
  have H := HC24.out
  clear HC24
  by_cases c74 : t631 = 0
  ·rw [if_pos c74] at H
   have c74b0 : (t631 == 0) = true := beq_iff_eq.mpr c74
   have c74b1 : (t631 != 0) = false := bne_eq_false_iff_eq.mpr c74
   clear c74
   (first | rw [c74b0] | (simp only [i64_w, i32_w]; rw [c74b0]) | skip)
   replace H := Option.bind_eq_some_iff.mp H
   obtain ⟨⟨t704, t705⟩, A750, H⟩ := H
   try dsimp only at H
   have A75 := Aside0.mk A750
   clear A750
   replace H := Option.bind_eq_some_iff.mp H
   obtain ⟨⟨t706, t707⟩, A760, H⟩ := H
   replace H : ((boundstonelaw02_at.f 0 3).bind fun bt708 => ((boundstoneref02_SamePoints.f k t630 (([(⟨t704, t705⟩ : S23), (⟨t706, t707⟩ : S23), (⟨bt708.1, bt708.2⟩ : S23)] : List (S23)))).bind fun t713 => (boundstonelaw02_boxes.j0 k t647 t650 t659 t673 t690 t702 t713 t655 t656 t657 t658 t665 t666 t667 t668 t669 t670 t671 t672 t688 t689 t700 t701))) = some r := H
   have A76 := Aside0.mk A760
   clear A760
   replace H := Option.bind_eq_some_iff.mp H
   obtain ⟨⟨t708, t709⟩, A770, H⟩ := H
   replace H : ((boundstoneref02_SamePoints.f k t630 (([(⟨t704, t705⟩ : S23), (⟨t706, t707⟩ : S23), (⟨t708, t709⟩ : S23)] : List (S23)))).bind fun t713 => (boundstonelaw02_boxes.j0 k t647 t650 t659 t673 t690 t702 t713 t655 t656 t657 t658 t665 t666 t667 t668 t669 t670 t671 t672 t688 t689 t700 t701)) = some r := H
   have A77 := Aside0.mk A770
   clear A770
   obtain ⟨y710, hy710⟩ : ∃ y_ : List (S23), y_ = (([(⟨t704, t705⟩ : S23), (⟨t706, t707⟩ : S23), (⟨t708, t709⟩ : S23)] : List (S23))) := ⟨_, rfl⟩
   replace H : ((boundstoneref02_SamePoints.f k t630 y710).bind fun t713 => (boundstonelaw02_boxes.j0 k t647 t650 t659 t673 t690 t702 t713 t655 t656 t657 t658 t665 t666 t667 t668 t669 t670 t671 t672 t688 t689 t700 t701)) = some r := by first | (rw [hy710]; with_reducible exact H) | (have H2_ := (Option.bind_some _ _).symm.trans H; rw [hy710]; with_reducible exact H2_) | (have H2_ := (Option.bind_some _ _).symm.trans H; with_reducible exact H2_) | with_reducible exact H | (rw [hy710]; exact H) | exact H
   have Ny710 := Aside0.mk hy710
   clear hy710
   replace H := Option.bind_eq_some_iff.mp H
   obtain ⟨t713, A780, H⟩ := H
   replace H : (boundstonelaw02_boxes.j0 k t647 t650 t659 t673 t690 t702 t713 t655 t656 t657 t658 t665 t666 t667 t668 t669 t670 t671 t672 t688 t689 t700 t701) = some r := H
   have A78 := Aside0.mk A780
   clear A780
   have H' := Aside0.mk H
   clear H
   go_wp2_with (first | (go_at_call 74; (with_reducible refine (boundstonelaw02_at.calls 0 0 t704 t705 _ A75.out).mono ?_); rintro e w79 ⟨rfl, hb⟩; replace HO629 := Aside0.mk (Kd.R_below (by (with_reducible repeat (first | apply Kd.R_alloc | apply Kd.R_drewN | apply Kd.R_drew)); exact (Kd.R_mono (Kd.R_far (p := ⟨gb703, 1, none⟩) (Kd.R_far (p := ⟨gb703, 0, none⟩) (Kd.R_types HO629.out BK703.out (by decide)) (fun _ hk => hk.2) (.int .i64 t700)) (fun _ hk => hk.2) (.int .i64 t701)) (fun _ h_ => h_.1))) hb); replace HO633 := Aside0.mk (Kd.R_below (by (with_reducible repeat (first | apply Kd.R_alloc | apply Kd.R_drewN | apply Kd.R_drew)); exact (Kd.R_mono (Kd.R_far (p := ⟨gb703, 1, none⟩) (Kd.R_far (p := ⟨gb703, 0, none⟩) (Kd.R_types HO633.out BK703.out (by decide)) (fun _ hk => hk.2) (.int .i64 t700)) (fun _ hk => hk.2) (.int .i64 t701)) (fun _ h_ => h_.1))) hb); replace HO646 := Aside0.mk (Kd.R_below (by (with_reducible repeat (first | apply Kd.R_alloc | apply Kd.R_drewN | apply Kd.R_drew)); exact (Kd.R_mono (Kd.R_far (p := ⟨gb703, 1, none⟩) (Kd.R_far (p := ⟨gb703, 0, none⟩) (Kd.R_types HO646.out BK703.out (by decide)) (fun _ hk => hk.2) (.int .i64 t700)) (fun _ hk => hk.2) (.int .i64 t701)) (fun _ h_ => h_.1))) hb); replace HO649 := Aside0.mk (Kd.R_below (by (with_reducible repeat (first | apply Kd.R_alloc | apply Kd.R_drewN | apply Kd.R_drew)); exact (Kd.R_mono (Kd.R_far (p := ⟨gb703, 1, none⟩) (Kd.R_far (p := ⟨gb703, 0, none⟩) (Kd.R_types HO649.out BK703.out (by decide)) (fun _ hk => hk.2) (.int .i64 t700)) (fun _ hk => hk.2) (.int .i64 t701)) (fun _ h_ => h_.1))) hb); replace BK660 := Aside0.mk (blk_below (g := gb660) (o := .cells #[.int .i64 t655, .int .i64 t656, .int .i64 t657, .int .i64 t658] 52 (0, 0)) (by (with_reducible repeat (first | refine blk_drewN ?_ _ | refine blk_drew ?_ | refine blk_alloc ?_ _)); refine blk_far ?_ NB660_703.out _; (with_reducible repeat (first | refine blk_drewN ?_ _ | refine blk_drew ?_ | refine blk_alloc ?_ _)); refine blk_far ?_ NB660_703.out _; (with_reducible repeat (first | refine blk_drewN ?_ _ | refine blk_drew ?_ | refine blk_alloc ?_ _)); exact BK660.out) hb); replace BK674 := Aside0.mk (blk_below (g := gb674) (o := .cells #[.int .i64 t665, .int .i64 t666, .int .i64 t667, .int .i64 t668] 52 (0, 0)) (by (with_reducible repeat (first | refine blk_drewN ?_ _ | refine blk_drew ?_ | refine blk_alloc ?_ _)); refine blk_far ?_ NB674_703.out _; (with_reducible repeat (first | refine blk_drewN ?_ _ | refine blk_drew ?_ | refine blk_alloc ?_ _)); refine blk_far ?_ NB674_703.out _; (with_reducible repeat (first | refine blk_drewN ?_ _ | refine blk_drew ?_ | refine blk_alloc ?_ _)); exact BK674.out) hb); replace BK675 := Aside0.mk (blk_below (g := gb675) (o := .cells #[.int .i64 t669, .int .i64 t670, .int .i64 t671, .int .i64 t672] 52 (0, 0)) (by (with_reducible repeat (first | refine blk_drewN ?_ _ | refine blk_drew ?_ | refine blk_alloc ?_ _)); refine blk_far ?_ NB675_703.out _; (with_reducible repeat (first | refine blk_drewN ?_ _ | refine blk_drew ?_ | refine blk_alloc ?_ _)); refine blk_far ?_ NB675_703.out _; (with_reducible repeat (first | refine blk_drewN ?_ _ | refine blk_drew ?_ | refine blk_alloc ?_ _)); exact BK675.out) hb); replace BK691 := Aside0.mk (blk_below (g := gb691) (o := .cells #[.int .i64 t688, .int .i64 t689] 50 (0, 0)) (by (with_reducible repeat (first | refine blk_drewN ?_ _ | refine blk_drew ?_ | refine blk_alloc ?_ _)); refine blk_far ?_ NB691_703.out _; (with_reducible repeat (first | refine blk_drewN ?_ _ | refine blk_drew ?_ | refine blk_alloc ?_ _)); refine blk_far ?_ NB691_703.out _; (with_reducible repeat (first | refine blk_drewN ?_ _ | refine blk_drew ?_ | refine blk_alloc ?_ _)); exact BK691.out) hb); replace BK703 := Aside0.mk (blk_below (g := gb703) (o := .cells #[.int .i64 t700, .int .i64 t701] 50 (0, 0)) (by (with_reducible repeat (first | refine blk_drewN ?_ _ | refine blk_drew ?_ | refine blk_alloc ?_ _)); refine blk_put (cs := #[.int .i64 t700, .int .i64 0]) ?_ 1 _ rfl; (with_reducible repeat (first | refine blk_drewN ?_ _ | refine blk_drew ?_ | refine blk_alloc ?_ _)); refine blk_put (cs := #[.int .i64 0, .int .i64 0]) ?_ 0 _ rfl; (with_reducible repeat (first | refine blk_drewN ?_ _ | refine blk_drew ?_ | refine blk_alloc ?_ _)); exact BK703.out) hb); replace HB := Aside0.mk (below_step (by repeat (first | (with_reducible first | exact HB.out | apply below_alloc | apply pw_below_drewN | apply below_drew1 | refine below_set ?_ GE660.out | refine below_set ?_ GE674.out | refine below_set ?_ GE675.out | refine below_set ?_ GE691.out | refine below_set ?_ GE703.out) | exact HB.out)) hb); (try clear hb); (try clear hb2); (try clear hk); (try clear hi)) | (go_at_call 74; (with_reducible refine (boundstonelaw02_at.calls 4 0 t706 t707 _ A76.out).mono ?_); rintro e w80 ⟨rfl, hb⟩; replace HO629 := Aside0.mk (Kd.R_below (rk HO629) hb); replace HO633 := Aside0.mk (Kd.R_below (rk HO633) hb); replace HO646 := Aside0.mk (Kd.R_below (rk HO646) hb); replace HO649 := Aside0.mk (Kd.R_below (rk HO649) hb); replace BK660 := bkC BK660 hb; replace BK674 := bkC BK674 hb; replace BK675 := bkC BK675 hb; replace BK691 := bkC BK691 hb; replace BK703 := bkC BK703 hb; replace HB := Aside0.mk (below_step (by repeat (first | (with_reducible first | exact HB.out | apply below_alloc | apply pw_below_drewN | apply below_drew1 | refine below_set ?_ GE660.out | refine below_set ?_ GE674.out | refine below_set ?_ GE675.out | refine below_set ?_ GE691.out | refine below_set ?_ GE703.out) | exact HB.out)) hb); (try clear hb); (try clear hb2); (try clear hk); (try clear hi)) | (go_at_call 74; (with_reducible refine (boundstonelaw02_at.calls 0 3 t708 t709 _ A77.out).mono ?_); rintro e w81 ⟨rfl, hb⟩; replace HO629 := Aside0.mk (Kd.R_below (rk HO629) hb); replace HO633 := Aside0.mk (Kd.R_below (rk HO633) hb); replace HO646 := Aside0.mk (Kd.R_below (rk HO646) hb); replace HO649 := Aside0.mk (Kd.R_below (rk HO649) hb); replace BK660 := bkC BK660 hb; replace BK674 := bkC BK674 hb; replace BK675 := bkC BK675 hb; replace BK691 := bkC BK691 hb; replace BK703 := bkC BK703 hb; replace HB := Aside0.mk (below_step (by repeat (first | (with_reducible first | exact HB.out | apply below_alloc | apply pw_below_drewN | apply below_drew1 | refine below_set ?_ GE660.out | refine below_set ?_ GE674.out | refine below_set ?_ GE675.out | refine below_set ?_ GE691.out | refine below_set ?_ GE703.out) | exact HB.out)) hb); (try clear hb); (try clear hb2); (try clear hk); (try clear hi)) | ((with_reducible refine gate_dst (N := 67) rfl ?_); (try (refine gate_guard (by rfl) ?_; dsimp only)); refine Kd.R_lit k23 _ 23 ?hg (N := 67) ?hd (xs := ([(⟨t704, t705⟩ : S23), (⟨t706, t707⟩ : S23), (⟨t708, t709⟩ : S23)] : List (S23))) (inner := [.int .i64 t704, .int .i64 t705, .int .i64 t706, .int .i64 t707, .int .i64 t708, .int .i64 t709]) (ok := fun _ => True) (okp := fun _ => True) ?hr ?hp (fun _ hk => hk) trivial (Below.refl _ _) (Nat.le_refl _) (by simp) ?_; (case hd => rfl); (case hg => rfl); (case hr => first | (go_simp; done) | (go_simp; rfl)); (case hp => exact (Reps.c2 (show Kd.M k23 _ _ _ (⟨t704, t705⟩ : S23) [.int .i64 t704, .int .i64 t705] from (k23_mkM _ _ _ (⟨t704, t705⟩ : S23) )) (Reps.c2 (show Kd.M k23 _ _ _ (⟨t706, t707⟩ : S23) [.int .i64 t706, .int .i64 t707] from (k23_mkM _ _ _ (⟨t706, t707⟩ : S23) )) (Reps.c2 (show Kd.M k23 _ _ _ (⟨t708, t709⟩ : S23) [.int .i64 t708, .int .i64 t709] from (k23_mkM _ _ _ (⟨t708, t709⟩ : S23) )) (Reps.none _ _))))); intro v711 w82 ho83 hb hg_ hnew_; clear hg_ hnew_; (first | rw [← Ny710.out] at ho83 | (simp only [Int.reduceToNat] at ho83; rw [← Ny710.out] at ho83)); have HO712 := Aside0.mk (Kd.R_lower (Kd.R_new' (Kd.R_new' (Kd.R_new' ho83 (Kd.R_lt (rk HO629))) (Kd.R_lt (rk HO633))) (Kd.R_lt (rk HO646))) (below_size (by repeat (first | (with_reducible first | exact HB.out | apply below_alloc | apply pw_below_drewN | apply below_drew1 | refine below_set ?_ GE660.out | refine below_set ?_ GE674.out | refine below_set ?_ GE675.out | refine below_set ?_ GE691.out | refine below_set ?_ GE703.out) | exact HB.out)))); replace HO629 := Aside0.mk (Kd.R_elder' (rk HO629) (Kd.R_base ho83) hb); replace HO633 := Aside0.mk (Kd.R_elder' (rk HO633) (Kd.R_base ho83) hb); replace HO646 := Aside0.mk (Kd.R_elder' (rk HO646) (Kd.R_base ho83) hb); replace HO649 := Aside0.mk (Kd.R_below (rk HO649) hb); replace BK660 := bkC BK660 hb; replace BK674 := bkC BK674 hb; replace BK675 := bkC BK675 hb; replace BK691 := bkC BK691 hb; replace BK703 := bkC BK703 hb; replace HB := Aside0.mk (below_step (by repeat (first | (with_reducible first | exact HB.out | apply below_alloc | apply pw_below_drewN | apply below_drew1 | refine below_set ?_ GE660.out | refine below_set ?_ GE674.out | refine below_set ?_ GE675.out | refine below_set ?_ GE691.out | refine below_set ?_ GE703.out) | exact HB.out)) hb); clear hb ho83; obtain ⟨Ao84, co84, eo84⟩ := Kd.R_slice HO633.out; subst eo84; obtain ⟨Ao85, co85, eo85⟩ := Kd.R_slice HO712.out; subst eo85) | (go_at_call 47; (with_reducible refine (boundstoneref02_SamePoints.calls k _ _ t630 _ _ y710 t713 _ ?side1 ?side2 ?side3 ?side4 A78.out).mono ?_); (case side1 => repeat (first | exact (Kd.R_reads' HO633.out).2.2 | (with_reducible refine Kd.C_alloc ?_ _) | (with_reducible refine Kd.C_drewN ?_ _) | (with_reducible refine Kd.C_drew ?_))); (case side2 => exact (Kd.R_reads' HO633.out).2.1); (case side3 => repeat (first | exact (Kd.R_reads' HO712.out).2.2 | (with_reducible refine Kd.C_alloc ?_ _) | (with_reducible refine Kd.C_drewN ?_ _) | (with_reducible refine Kd.C_drew ?_))); (case side4 => exact (Kd.R_reads' HO712.out).2.1); rintro e w' ⟨rfl, ⟨nd, rfl⟩⟩))
   go_meet
   case rel => exact ⟨_, (t713), (by first | rfl | (simp; done) | (simp [*]; done)), H', ⟨by first | omega | exact Nat.le_refl _⟩, ⟨rk HO649⟩, ⟨bk BK660⟩, ⟨bk BK674⟩, ⟨bk BK675⟩, ⟨bk BK691⟩, ⟨bk BK703⟩, ⟨by repeat (first | (with_reducible first | exact HB.out | apply below_alloc | apply pw_below_drewN | apply below_drew1 | refine below_set ?_ GE660.out | refine below_set ?_ GE674.out | refine below_set ?_ GE675.out | refine below_set ?_ GE691.out | refine below_set ?_ GE703.out) | exact HB.out)⟩⟩
  ·rw [if_neg c74] at H
   have c74b0 : (t631 == 0) = false := beq_eq_false_iff_ne.mpr c74
   have c74b1 : (t631 != 0) = true := bne_iff_ne.mpr c74
   (first | rw [c74b0] | (simp only [i64_w, i32_w]; rw [c74b0]) | skip)
   have H' := Aside0.mk H
   clear H
   go_wp2
   go_meet
   case rel => exact ⟨_, (false), (by first | rfl | (simp; done) | (simp [*]; done)), H', ⟨by first | omega | exact Nat.le_refl _⟩, ⟨by (with_reducible repeat (first | apply Kd.R_alloc | apply Kd.R_drewN | apply Kd.R_drew)); exact Kd.R_mono (Kd.R_far (p := ⟨gb703, 1, none⟩) (Kd.R_far (p := ⟨gb703, 0, none⟩) (Kd.R_types HO649.out BK703.out (by decide)) (fun _ hk => hk.2) (.int .i64 t700)) (fun _ hk => hk.2) (.int .i64 t701)) (fun _ hk => trivial)⟩, ⟨by (with_reducible repeat (first | refine blk_drewN ?_ _ | refine blk_drew ?_ | refine blk_alloc ?_ _)); refine blk_far ?_ NB660_703.out _; (with_reducible repeat (first | refine blk_drewN ?_ _ | refine blk_drew ?_ | refine blk_alloc ?_ _)); refine blk_far ?_ NB660_703.out _; (with_reducible repeat (first | refine blk_drewN ?_ _ | refine blk_drew ?_ | refine blk_alloc ?_ _)); exact BK660.out⟩, ⟨by (with_reducible repeat (first | refine blk_drewN ?_ _ | refine blk_drew ?_ | refine blk_alloc ?_ _)); refine blk_far ?_ NB674_703.out _; (with_reducible repeat (first | refine blk_drewN ?_ _ | refine blk_drew ?_ | refine blk_alloc ?_ _)); refine blk_far ?_ NB674_703.out _; (with_reducible repeat (first | refine blk_drewN ?_ _ | refine blk_drew ?_ | refine blk_alloc ?_ _)); exact BK674.out⟩, ⟨by (with_reducible repeat (first | refine blk_drewN ?_ _ | refine blk_drew ?_ | refine blk_alloc ?_ _)); refine blk_far ?_ NB675_703.out _; (with_reducible repeat (first | refine blk_drewN ?_ _ | refine blk_drew ?_ | refine blk_alloc ?_ _)); refine blk_far ?_ NB675_703.out _; (with_reducible repeat (first | refine blk_drewN ?_ _ | refine blk_drew ?_ | refine blk_alloc ?_ _)); exact BK675.out⟩, ⟨by (with_reducible repeat (first | refine blk_drewN ?_ _ | refine blk_drew ?_ | refine blk_alloc ?_ _)); refine blk_far ?_ NB691_703.out _; (with_reducible repeat (first | refine blk_drewN ?_ _ | refine blk_drew ?_ | refine blk_alloc ?_ _)); refine blk_far ?_ NB691_703.out _; (with_reducible repeat (first | refine blk_drewN ?_ _ | refine blk_drew ?_ | refine blk_alloc ?_ _)); exact BK691.out⟩, ⟨by (with_reducible repeat (first | refine blk_drewN ?_ _ | refine blk_drew ?_ | refine blk_alloc ?_ _)); refine blk_put (cs := #[.int .i64 t700, .int .i64 0]) ?_ 1 _ rfl; (with_reducible repeat (first | refine blk_drewN ?_ _ | refine blk_drew ?_ | refine blk_alloc ?_ _)); refine blk_put (cs := #[.int .i64 0, .int .i64 0]) ?_ 0 _ rfl; (with_reducible repeat (first | refine blk_drewN ?_ _ | refine blk_drew ?_ | refine blk_alloc ?_ _)); exact BK703.out⟩, ⟨by repeat (first | (with_reducible first | exact HB.out | apply below_alloc | apply pw_below_drewN | apply below_drew1 | refine below_set ?_ GE660.out | refine below_set ?_ GE674.out | refine below_set ?_ GE675.out | refine below_set ?_ GE691.out | refine below_set ?_ GE703.out) | exact HB.out)⟩⟩
 case rest =>
  clear HC24
  try clear c1
  try clear c2
  try clear p2
  try clear c4
  try clear c5
  try clear c6
  try clear c7
  try clear c10
  try clear c42
  try clear c43
  try clear c45
  try clear c50
  try clear c51
  try clear c52
  try clear c54
  try clear c60
  try clear c61
  try clear c62
  try clear c63
  try clear c69
  try clear c70
  try clear c71
  try clear c72
  try clear c74
  try clear c74b0
  try clear c74b1
  try clear hcz46_0
  try clear hcz46_1
  try clear hcz46_2
  try clear hcz46_3
  try clear hcz53_0
  try clear hcz53_1
  try clear hcz53_2
  try clear hcz53_3
  try clear hcz55_0
  try clear hcz55_1
  try clear hcz55_2
  try clear hcz55_3
  try clear hcz64_0
  try clear hcz64_1
  try clear hcz73_0
  try clear hcz73_1
  try clear hfz46_0
  try clear hfz46_1
  try clear hfz46_2
  try clear hfz46_3
  try clear hfz53_0
  try clear hfz53_1
  try clear hfz53_2
  try clear hfz53_3
  try clear hfz55_0
  try clear hfz55_1
  try clear hfz55_2
  try clear hfz55_3
  try clear hfz64_0
  try clear hfz64_1
  try clear hfz73_0
  try clear hfz73_1
  obtain ⟨kq, x14_23, rfl, HA, HJ23, HO_3, BK660, BK674, BK675, BK691, BK703, HB⟩ := hcut
  cases kq with
  | zero => exact absurd HA.out (by simp [boundstonelaw02_boxes.j0])
  | succ kj23 =>
   have H := HA.out
   clear HA
   simp only [boundstonelaw02_boxes.j0] at H
   have HC86 := Aside0.mk H
   clear H
   go_upto_region 8 with (fail)
   go_cut [15] (fun v15 wc => ∃ (kq : Nat) (x15_85 : Bool), v15 = .bool x15_85 ∧ Aside0 (boundstonelaw02_boxes.j1 kq t659 t673 t690 t702 x14_23 x15_85 t655 t656 t657 t658 t665 t666 t667 t668 t669 t670 t671 t672 t688 t689 t700 t701 = some r) ∧ Aside0 (kq ≤ kj23) ∧ Aside0 (wc.heap[gb660]? = some (.cells #[.int .i64 t655, .int .i64 t656, .int .i64 t657, .int .i64 t658] 52 (0, 0))) ∧ Aside0 (wc.heap[gb674]? = some (.cells #[.int .i64 t665, .int .i64 t666, .int .i64 t667, .int .i64 t668] 52 (0, 0))) ∧ Aside0 (wc.heap[gb675]? = some (.cells #[.int .i64 t669, .int .i64 t670, .int .i64 t671, .int .i64 t672] 52 (0, 0))) ∧ Aside0 (wc.heap[gb691]? = some (.cells #[.int .i64 t688, .int .i64 t689] 50 (0, 0))) ∧ Aside0 (wc.heap[gb703]? = some (.cells #[.int .i64 t700, .int .i64 t701] 50 (0, 0))) ∧ Aside0 (Below w.heap.size w wc))
   case first =>
    have H := HC86.out
    clear HC86
    by_cases c87 : t650 = 0
    ·rw [if_pos c87] at H
     have c87b0 : (t650 == 0) = true := beq_iff_eq.mpr c87
     have c87b1 : (t650 != 0) = false := bne_eq_false_iff_eq.mpr c87
     clear c87
     (first | rw [c87b0] | (simp only [i64_w, i32_w]; rw [c87b0]) | skip)
     obtain ⟨y714, hy714⟩ : ∃ y_ : List Int, y_ = (([2, 1, 0, 3] : List Int)) := ⟨_, rfl⟩
     replace H : ((boundstoneref02_SameInts.f kj23 t647 y714).bind fun t717 => (boundstonelaw02_boxes.j1 kj23 t659 t673 t690 t702 x14_23 t717 t655 t656 t657 t658 t665 t666 t667 t668 t669 t670 t671 t672 t688 t689 t700 t701)) = some r := by first | (rw [hy714]; with_reducible exact H) | (have H2_ := (Option.bind_some _ _).symm.trans H; rw [hy714]; with_reducible exact H2_) | (have H2_ := (Option.bind_some _ _).symm.trans H; with_reducible exact H2_) | with_reducible exact H | (rw [hy714]; exact H) | exact H
     have Ny714 := Aside0.mk hy714
     clear hy714
     replace H := Option.bind_eq_some_iff.mp H
     obtain ⟨t717, A880, H⟩ := H
     replace H : (boundstonelaw02_boxes.j1 kj23 t659 t673 t690 t702 x14_23 t717 t655 t656 t657 t658 t665 t666 t667 t668 t669 t670 t671 t672 t688 t689 t700 t701) = some r := H
     have A88 := Aside0.mk A880
     clear A880
     have H' := Aside0.mk H
     clear H
     go_wp2_with (first | ((with_reducible refine gate_dst (N := 74) rfl ?_); (try (refine gate_guard (by rfl) ?_; dsimp only)); refine Kd.R_lit (Kd.int .i64) _ 3 ?hg (N := 74) ?hd (xs := ([2, 1, 0, 3] : List Int)) (inner := [.int .i64 2, .int .i64 1, .int .i64 0, .int .i64 3]) (ok := fun _ => True) (okp := fun _ => True) ?hr ?hp (fun _ hk => hk) trivial (Below.refl _ _) (Nat.le_refl _) (by simp) ?_; (case hd => rfl); (case hg => rfl); (case hr => first | (go_simp; done) | (go_simp; rfl)); (case hp => exact (Reps.one (show Kd.M (Kd.int .i64) _ _ _ 2 [.int .i64 2] from rfl) (Reps.one (show Kd.M (Kd.int .i64) _ _ _ 1 [.int .i64 1] from rfl) (Reps.one (show Kd.M (Kd.int .i64) _ _ _ 0 [.int .i64 0] from rfl) (Reps.one (show Kd.M (Kd.int .i64) _ _ _ 3 [.int .i64 3] from rfl) (Reps.none _ _)))))); intro v715 w89 ho90 hb hg_ hnew_; clear hg_ hnew_; (first | rw [← Ny714.out] at ho90 | (simp only [Int.reduceToNat] at ho90; rw [← Ny714.out] at ho90)); have HO716 := Aside0.mk (Kd.R_lower (Kd.R_new' ho90 (Kd.R_lt (rk HO_3))) (below_size (by repeat (first | (with_reducible first | exact HB.out | apply below_alloc | apply pw_below_drewN | apply below_drew1 | refine below_set ?_ GE660.out | refine below_set ?_ GE674.out | refine below_set ?_ GE675.out | refine below_set ?_ GE691.out | refine below_set ?_ GE703.out) | exact HB.out)))); replace HO_3 := Aside0.mk (Kd.R_elder' (rk HO_3) (Kd.R_base ho90) hb); replace BK660 := bkC BK660 hb; replace BK674 := bkC BK674 hb; replace BK675 := bkC BK675 hb; replace BK691 := bkC BK691 hb; replace BK703 := bkC BK703 hb; replace HB := Aside0.mk (below_step (by repeat (first | (with_reducible first | exact HB.out | apply below_alloc | apply pw_below_drewN | apply below_drew1 | refine below_set ?_ GE660.out | refine below_set ?_ GE674.out | refine below_set ?_ GE675.out | refine below_set ?_ GE691.out | refine below_set ?_ GE703.out) | exact HB.out)) hb); clear hb ho90; obtain ⟨Ao91, co91, eo91⟩ := Kd.R_slice HO_3.out; subst eo91; obtain ⟨Ao92, co92, eo92⟩ := Kd.R_slice HO716.out; subst eo92) | (go_at_call 48; (with_reducible refine (boundstoneref02_SameInts.calls kj23 _ _ t647 _ _ y714 t717 _ ?side1 ?side2 ?side3 ?side4 A88.out).mono ?_); (case side1 => repeat (first | exact (Kd.R_reads' HO_3.out).2.2 | (with_reducible refine Kd.C_alloc ?_ _) | (with_reducible refine Kd.C_drewN ?_ _) | (with_reducible refine Kd.C_drew ?_))); (case side2 => exact (Kd.R_reads' HO_3.out).2.1); (case side3 => repeat (first | exact (Kd.R_reads' HO716.out).2.2 | (with_reducible refine Kd.C_alloc ?_ _) | (with_reducible refine Kd.C_drewN ?_ _) | (with_reducible refine Kd.C_drew ?_))); (case side4 => exact (Kd.R_reads' HO716.out).2.1); rintro e w' ⟨rfl, ⟨nd, rfl⟩⟩))
     go_meet
     case rel => exact ⟨_, (t717), (by first | rfl | (simp; done) | (simp [*]; done)), H', ⟨by have := HJ23.out; first | omega | exact Nat.le_refl _⟩, ⟨bk BK660⟩, ⟨bk BK674⟩, ⟨bk BK675⟩, ⟨bk BK691⟩, ⟨bk BK703⟩, ⟨by repeat (first | (with_reducible first | exact HB.out | apply below_alloc | apply pw_below_drewN | apply below_drew1 | refine below_set ?_ GE660.out | refine below_set ?_ GE674.out | refine below_set ?_ GE675.out | refine below_set ?_ GE691.out | refine below_set ?_ GE703.out) | exact HB.out)⟩⟩
    ·rw [if_neg c87] at H
     have c87b0 : (t650 == 0) = false := beq_eq_false_iff_ne.mpr c87
     have c87b1 : (t650 != 0) = true := bne_iff_ne.mpr c87
     (first | rw [c87b0] | (simp only [i64_w, i32_w]; rw [c87b0]) | skip)
     have H' := Aside0.mk H
     clear H
     go_wp2
     go_meet
     case rel => exact ⟨_, (false), (by first | rfl | (simp; done) | (simp [*]; done)), H', ⟨by have := HJ23.out; first | omega | exact Nat.le_refl _⟩, ⟨bk BK660⟩, ⟨bk BK674⟩, ⟨bk BK675⟩, ⟨bk BK691⟩, ⟨bk BK703⟩, ⟨by repeat (first | (with_reducible first | exact HB.out | apply below_alloc | apply pw_below_drewN | apply below_drew1 | refine below_set ?_ GE660.out | refine below_set ?_ GE674.out | refine below_set ?_ GE675.out | refine below_set ?_ GE691.out | refine below_set ?_ GE703.out) | exact HB.out)⟩⟩
   case rest =>
    clear HC86
    try clear c1
    try clear c2
    try clear p2
    try clear c4
    try clear c5
    try clear c6
    try clear c7
    try clear c8
    try clear c10
    try clear c42
    try clear c43
    try clear c45
    try clear c50
    try clear c51
    try clear c52
    try clear c54
    try clear c60
    try clear c61
    try clear c62
    try clear c63
    try clear c69
    try clear c70
    try clear c71
    try clear c72
    try clear c74
    try clear c74b0
    try clear c74b1
    try clear c87
    try clear c87b0
    try clear c87b1
    try clear hcz46_0
    try clear hcz46_1
    try clear hcz46_2
    try clear hcz46_3
    try clear hcz53_0
    try clear hcz53_1
    try clear hcz53_2
    try clear hcz53_3
    try clear hcz55_0
    try clear hcz55_1
    try clear hcz55_2
    try clear hcz55_3
    try clear hcz64_0
    try clear hcz64_1
    try clear hcz73_0
    try clear hcz73_1
    try clear hfz46_0
    try clear hfz46_1
    try clear hfz46_2
    try clear hfz46_3
    try clear hfz53_0
    try clear hfz53_1
    try clear hfz53_2
    try clear hfz53_3
    try clear hfz55_0
    try clear hfz55_1
    try clear hfz55_2
    try clear hfz55_3
    try clear hfz64_0
    try clear hfz64_1
    try clear hfz73_0
    try clear hfz73_1
    try clear p2
    obtain ⟨kq, x15_85, rfl, HA, HJ85, BK660, BK674, BK675, BK691, BK703, HB⟩ := hcut
    cases kq with
    | zero => exact absurd HA.out (by simp [boundstonelaw02_boxes.j1])
    | succ kj85 =>
     have H := HA.out
     clear HA
     simp only [boundstonelaw02_boxes.j1] at H
     by_cases c93 : x14_23 = true
     ·subst c93
      have H1 : (if x15_85 = true then (if t659 = true then (if t673 = true then (if t690 = true then (if t702 = true then ((boundstonelaw02_box.f (-3) 5 (-3) 3).bind fun bt718 => (if ((t655 == bt718.1 && (t656 == bt718.2.1)) && ((t657 == bt718.2.2.1 && (t658 == bt718.2.2.2)))) = true then ((boundstonelaw02_box.f 0 3 5 7).bind fun bt722 => (if ((t665 == bt722.1 && (t666 == bt722.2.1)) && ((t667 == bt722.2.2.1 && (t668 == bt722.2.2.2)))) = true then ((boundstonelaw02_box.f 0 3 8 9).bind fun bt726 => (if ((t669 == bt726.1 && (t670 == bt726.2.1)) && ((t671 == bt726.2.2.1 && (t672 == bt726.2.2.2)))) = true then (if (t688 == (-4) && (t689 == 12)) = true then (some (t700 == 4 && (t701 == 41))) else (none)) else (none))) else (none))) else (none))) else (none)) else (none)) else (none)) else (none)) else (none)) = some r := by rw [if_pos rfl] at H; exact H
      clear H
      have H := H1
      clear H1
      by_cases c94 : x15_85 = true
      ·subst c94
       have H1 : (if t659 = true then (if t673 = true then (if t690 = true then (if t702 = true then ((boundstonelaw02_box.f (-3) 5 (-3) 3).bind fun bt718 => (if ((t655 == bt718.1 && (t656 == bt718.2.1)) && ((t657 == bt718.2.2.1 && (t658 == bt718.2.2.2)))) = true then ((boundstonelaw02_box.f 0 3 5 7).bind fun bt722 => (if ((t665 == bt722.1 && (t666 == bt722.2.1)) && ((t667 == bt722.2.2.1 && (t668 == bt722.2.2.2)))) = true then ((boundstonelaw02_box.f 0 3 8 9).bind fun bt726 => (if ((t669 == bt726.1 && (t670 == bt726.2.1)) && ((t671 == bt726.2.2.1 && (t672 == bt726.2.2.2)))) = true then (if (t688 == (-4) && (t689 == 12)) = true then (some (t700 == 4 && (t701 == 41))) else (none)) else (none))) else (none))) else (none))) else (none)) else (none)) else (none)) else (none)) = some r := by rw [if_pos rfl] at H; exact H
       clear H
       have H := H1
       clear H1
       by_cases c95 : t659 = true
       ·subst c95
        have H1 : (if t673 = true then (if t690 = true then (if t702 = true then ((boundstonelaw02_box.f (-3) 5 (-3) 3).bind fun bt718 => (if ((t655 == bt718.1 && (t656 == bt718.2.1)) && ((t657 == bt718.2.2.1 && (t658 == bt718.2.2.2)))) = true then ((boundstonelaw02_box.f 0 3 5 7).bind fun bt722 => (if ((t665 == bt722.1 && (t666 == bt722.2.1)) && ((t667 == bt722.2.2.1 && (t668 == bt722.2.2.2)))) = true then ((boundstonelaw02_box.f 0 3 8 9).bind fun bt726 => (if ((t669 == bt726.1 && (t670 == bt726.2.1)) && ((t671 == bt726.2.2.1 && (t672 == bt726.2.2.2)))) = true then (if (t688 == (-4) && (t689 == 12)) = true then (some (t700 == 4 && (t701 == 41))) else (none)) else (none))) else (none))) else (none))) else (none)) else (none)) else (none)) = some r := by rw [if_pos rfl] at H; exact H
        clear H
        have H := H1
        clear H1
        by_cases c96 : t673 = true
        ·subst c96
         have H1 : (if t690 = true then (if t702 = true then ((boundstonelaw02_box.f (-3) 5 (-3) 3).bind fun bt718 => (if ((t655 == bt718.1 && (t656 == bt718.2.1)) && ((t657 == bt718.2.2.1 && (t658 == bt718.2.2.2)))) = true then ((boundstonelaw02_box.f 0 3 5 7).bind fun bt722 => (if ((t665 == bt722.1 && (t666 == bt722.2.1)) && ((t667 == bt722.2.2.1 && (t668 == bt722.2.2.2)))) = true then ((boundstonelaw02_box.f 0 3 8 9).bind fun bt726 => (if ((t669 == bt726.1 && (t670 == bt726.2.1)) && ((t671 == bt726.2.2.1 && (t672 == bt726.2.2.2)))) = true then (if (t688 == (-4) && (t689 == 12)) = true then (some (t700 == 4 && (t701 == 41))) else (none)) else (none))) else (none))) else (none))) else (none)) else (none)) = some r := by rw [if_pos rfl] at H; exact H
         clear H
         have H := H1
         clear H1
         by_cases c97 : t690 = true
         ·subst c97
          have H1 : (if t702 = true then ((boundstonelaw02_box.f (-3) 5 (-3) 3).bind fun bt718 => (if ((t655 == bt718.1 && (t656 == bt718.2.1)) && ((t657 == bt718.2.2.1 && (t658 == bt718.2.2.2)))) = true then ((boundstonelaw02_box.f 0 3 5 7).bind fun bt722 => (if ((t665 == bt722.1 && (t666 == bt722.2.1)) && ((t667 == bt722.2.2.1 && (t668 == bt722.2.2.2)))) = true then ((boundstonelaw02_box.f 0 3 8 9).bind fun bt726 => (if ((t669 == bt726.1 && (t670 == bt726.2.1)) && ((t671 == bt726.2.2.1 && (t672 == bt726.2.2.2)))) = true then (if (t688 == (-4) && (t689 == 12)) = true then (some (t700 == 4 && (t701 == 41))) else (none)) else (none))) else (none))) else (none))) else (none)) = some r := by rw [if_pos rfl] at H; exact H
          clear H
          have H := H1
          clear H1
          by_cases c98 : t702 = true
          ·subst c98
           have H1 : ((boundstonelaw02_box.f (-3) 5 (-3) 3).bind fun bt718 => (if ((t655 == bt718.1 && (t656 == bt718.2.1)) && ((t657 == bt718.2.2.1 && (t658 == bt718.2.2.2)))) = true then ((boundstonelaw02_box.f 0 3 5 7).bind fun bt722 => (if ((t665 == bt722.1 && (t666 == bt722.2.1)) && ((t667 == bt722.2.2.1 && (t668 == bt722.2.2.2)))) = true then ((boundstonelaw02_box.f 0 3 8 9).bind fun bt726 => (if ((t669 == bt726.1 && (t670 == bt726.2.1)) && ((t671 == bt726.2.2.1 && (t672 == bt726.2.2.2)))) = true then (if (t688 == (-4) && (t689 == 12)) = true then (some (t700 == 4 && (t701 == 41))) else (none)) else (none))) else (none))) else (none))) = some r := by rw [if_pos rfl] at H; exact H
           clear H
           have H := H1
           clear H1
           replace H := Option.bind_eq_some_iff.mp H
           obtain ⟨⟨t718, t719, t720, t721⟩, A990, H⟩ := H
           try dsimp only at H
           have A99 := Aside0.mk A990
           clear A990
           by_cases c100 : ((t655 == t718 && (t656 == t719)) && ((t657 == t720 && (t658 == t721)))) = true
           ·rw [if_pos c100] at H
            have c100b0 : ((t655 == t718 && (t656 == t719)) && ((t657 == t720 && (t658 == t721)))) = true := c100
            clear c100
            replace H := Option.bind_eq_some_iff.mp H
            obtain ⟨⟨t722, t723, t724, t725⟩, A1010, H⟩ := H
            try dsimp only at H
            have A101 := Aside0.mk A1010
            clear A1010
            by_cases c102 : ((t665 == t722 && (t666 == t723)) && ((t667 == t724 && (t668 == t725)))) = true
            ·rw [if_pos c102] at H
             have c102b0 : ((t665 == t722 && (t666 == t723)) && ((t667 == t724 && (t668 == t725)))) = true := c102
             clear c102
             replace H := Option.bind_eq_some_iff.mp H
             obtain ⟨⟨t726, t727, t728, t729⟩, A1030, H⟩ := H
             replace H : (if ((t669 == t726 && (t670 == t727)) && ((t671 == t728 && (t672 == t729)))) = true then (if (t688 == (-4) && (t689 == 12)) = true then (some (t700 == 4 && (t701 == 41))) else (none)) else (none)) = some r := H
             have A103 := Aside0.mk A1030
             clear A1030
             by_cases c104 : ((t669 == t726 && (t670 == t727)) && ((t671 == t728 && (t672 == t729)))) = true
             ·rw [if_pos c104] at H
              have c104b0 : ((t669 == t726 && (t670 == t727)) && ((t671 == t728 && (t672 == t729)))) = true := c104
              clear c104
              by_cases c105 : (t688 == (-4) && (t689 == 12)) = true
              ·rw [if_pos c105] at H
               have c105b0 : (t688 == (-4) && (t689 == 12)) = true := c105
               (try (have c105b1 : decide (t688 = (-4) && (t689 == 12)) = true := by simpa using c105))
               (try (have c105b2 : (t688 == (-4) && (t689 == 12)) = true := by simpa using c105))
               clear c105
               obtain rfl := Option.some.inj H
               try go_wp2
               replace BK660 := Aside0.mk (blk_drew BK660.out)
               replace BK674 := Aside0.mk (blk_drew BK674.out)
               replace BK675 := Aside0.mk (blk_drew BK675.out)
               replace BK691 := Aside0.mk (blk_drew BK691.out)
               replace BK703 := Aside0.mk (blk_drew BK703.out)
               replace HB := Aside0.mk (below_drew1 HB.out)
               refine start_ (n := 42) (S := fun w' => w'.cell? ⟨gb660, 0, none⟩ = some (.int .i64 t655) ∧ w'.cell? ⟨gb660, 1, none⟩ = some (.int .i64 t656) ∧ w'.cell? ⟨gb660, 2, none⟩ = some (.int .i64 t657) ∧ w'.cell? ⟨gb660, 3, none⟩ = some (.int .i64 t658) ∧ w'.cell? ⟨gb674, 0, none⟩ = some (.int .i64 t665) ∧ w'.cell? ⟨gb674, 1, none⟩ = some (.int .i64 t666) ∧ w'.cell? ⟨gb674, 2, none⟩ = some (.int .i64 t667) ∧ w'.cell? ⟨gb674, 3, none⟩ = some (.int .i64 t668) ∧ w'.cell? ⟨gb675, 0, none⟩ = some (.int .i64 t669) ∧ w'.cell? ⟨gb675, 1, none⟩ = some (.int .i64 t670) ∧ w'.cell? ⟨gb675, 2, none⟩ = some (.int .i64 t671) ∧ w'.cell? ⟨gb675, 3, none⟩ = some (.int .i64 t672) ∧ w'.cell? ⟨gb691, 0, none⟩ = some (.int .i64 t688) ∧ w'.cell? ⟨gb691, 1, none⟩ = some (.int .i64 t689) ∧ w'.cell? ⟨gb703, 0, none⟩ = some (.int .i64 t700) ∧ w'.cell? ⟨gb703, 1, none⟩ = some (.int .i64 t701)) (ds := []) #[false, false, false, false, false, false, false, false, false, false, false, false, false, false, false, false, false, false, false, false, false, false, false, false, false, false, false, false, false, false, false, false, false, false, false, false, false, false, false, false, false, false] (by kernel_rfl) rfl rfl ⟨(blk_cell BK660.out 0).trans rfl, (blk_cell BK660.out 1).trans rfl, (blk_cell BK660.out 2).trans rfl, (blk_cell BK660.out 3).trans rfl, (blk_cell BK674.out 0).trans rfl, (blk_cell BK674.out 1).trans rfl, (blk_cell BK674.out 2).trans rfl, (blk_cell BK674.out 3).trans rfl, (blk_cell BK675.out 0).trans rfl, (blk_cell BK675.out 1).trans rfl, (blk_cell BK675.out 2).trans rfl, (blk_cell BK675.out 3).trans rfl, (blk_cell BK691.out 0).trans rfl, (blk_cell BK691.out 1).trans rfl, (blk_cell BK703.out 0).trans rfl, (blk_cell BK703.out 1).trans rfl⟩ (fun hHeld => ?_); refine with_tabW boundstonelaw02_boxes.tab9 boundstonelaw02_boxes.bits9 (fun HT_ HW_ => ?_)
               generalize wc.drew = w106 at BK660 BK674 BK675 BK691 BK703 HB hHeld ⊢
               refine pure_ (i := 0) (N := some 77) (v := ?_) (a' := ?_) #[true, false, false, false, false, false, false, false, false, false, false, false, false, false, false, false, false, false, false, false, false, false, false, false, false, false, false, false, false, false, false, false, false, false, false, false, false, false, false, false, false, false] rfl rfl (any_of HT_.out (by kernel_rfl)) (fun _ _ _ h => h) (Or.inl ⟨by rfl, ?_⟩) ?_ ?_
               rotate_left
               ·intro w'
                go_simp
                with_reducible rfl
               rotate_left
               ·simp only [Act.put, List.setIfInBounds_toArray, List.set_cons_zero, List.set_cons_succ, i64_w, i32_w]
                rfl
               refine pure_ (i := 1) (N := some 78) (v := ?_) (a' := ?_) #[true, true, false, false, false, false, false, false, false, false, false, false, false, false, false, false, false, false, false, false, false, false, false, false, false, false, false, false, false, false, false, false, false, false, false, false, false, false, false, false, false, false] rfl rfl (any_of HT_.out (by kernel_rfl)) (fun _ _ _ h => h) (Or.inl ⟨by rfl, ?_⟩) ?_ ?_
               rotate_left
               ·intro w'
                go_simp
                with_reducible rfl
               rotate_left
               ·simp only [Act.put, List.setIfInBounds_toArray, List.set_cons_zero, List.set_cons_succ, i64_w, i32_w]
                rfl
               refine pure_ (i := 2) (N := some 79) (v := ?_) (a' := ?_) #[true, true, true, false, false, false, false, false, false, false, false, false, false, false, false, false, false, false, false, false, false, false, false, false, false, false, false, false, false, false, false, false, false, false, false, false, false, false, false, false, false, false] rfl rfl (any_of HT_.out (by kernel_rfl)) (fun _ _ _ h => h) (Or.inl ⟨by rfl, ?_⟩) ?_ ?_
               rotate_left
               ·intro w'
                go_simp
                with_reducible rfl
               rotate_left
               ·simp only [Act.put, List.setIfInBounds_toArray, List.set_cons_zero, List.set_cons_succ, i64_w, i32_w]
                rfl
               refine pure_ (i := 3) (N := some 80) (v := ?_) (a' := ?_) #[true, true, true, true, false, false, false, false, false, false, false, false, false, false, false, false, false, false, false, false, false, false, false, false, false, false, false, false, false, false, false, false, false, false, false, false, false, false, false, false, false, false] rfl rfl (any_of HT_.out (by kernel_rfl)) (fun _ _ _ h => h) (Or.inl ⟨by rfl, ?_⟩) ?_ ?_
               rotate_left
               ·intro w'
                go_simp
                with_reducible rfl
               rotate_left
               ·simp only [Act.put, List.setIfInBounds_toArray, List.set_cons_zero, List.set_cons_succ, i64_w, i32_w]
                rfl
               refine pure_ (i := 4) (N := some 81) (v := ?_) (a' := ?_) #[true, true, true, true, true, false, false, false, false, false, false, false, false, false, false, false, false, false, false, false, false, false, false, false, false, false, false, false, false, false, false, false, false, false, false, false, false, false, false, false, false, false] rfl rfl (any_of HT_.out (by kernel_rfl)) (fun _ _ _ h => h) (Or.inl ⟨by rfl, ?_⟩) ?_ ?_
               rotate_left
               ·intro w'
                go_simp
                with_reducible rfl
               rotate_left
               ·simp only [Act.put, List.setIfInBounds_toArray, List.set_cons_zero, List.set_cons_succ, i64_w, i32_w]
                rfl
               refine pure_ (i := 5) (N := some 82) (v := ?_) (a' := ?_) #[true, true, true, true, true, true, false, false, false, false, false, false, false, false, false, false, false, false, false, false, false, false, false, false, false, false, false, false, false, false, false, false, false, false, false, false, false, false, false, false, false, false] rfl rfl (any_of HT_.out (by kernel_rfl)) (fun _ _ _ h => h) (Or.inl ⟨by rfl, ?_⟩) ?_ ?_
               rotate_left
               ·intro w'
                go_simp
                with_reducible rfl
               rotate_left
               ·simp only [Act.put, List.setIfInBounds_toArray, List.set_cons_zero, List.set_cons_succ, i64_w, i32_w]
                rfl
               refine pure_ (i := 6) (N := some 83) (v := ?_) (a' := ?_) #[true, true, true, true, true, true, true, false, false, false, false, false, false, false, false, false, false, false, false, false, false, false, false, false, false, false, false, false, false, false, false, false, false, false, false, false, false, false, false, false, false, false] rfl rfl (any_of HT_.out (by kernel_rfl)) (fun _ _ _ h => h) (Or.inl ⟨by rfl, ?_⟩) ?_ ?_
               rotate_left
               ·intro w'
                go_simp
                with_reducible rfl
               rotate_left
               ·simp only [Act.put, List.setIfInBounds_toArray, List.set_cons_zero, List.set_cons_succ, i64_w, i32_w]
                rfl
               refine pure_ (i := 7) (N := some 84) (v := ?_) (a' := ?_) #[true, true, true, true, true, true, true, true, false, false, false, false, false, false, false, false, false, false, false, false, false, false, false, false, false, false, false, false, false, false, false, false, false, false, false, false, false, false, false, false, false, false] rfl rfl (any_of HT_.out (by kernel_rfl)) (fun _ _ _ h => h) (Or.inl ⟨by rfl, ?_⟩) ?_ ?_
               rotate_left
               ·intro w'
                go_simp
                with_reducible rfl
               rotate_left
               ·simp only [Act.put, List.setIfInBounds_toArray, List.set_cons_zero, List.set_cons_succ, i64_w, i32_w]
                rfl
               refine pure_ (i := 8) (N := some 85) (v := ?_) (a' := ?_) #[true, true, true, true, true, true, true, true, true, false, false, false, false, false, false, false, false, false, false, false, false, false, false, false, false, false, false, false, false, false, false, false, false, false, false, false, false, false, false, false, false, false] rfl rfl (any_of HT_.out (by kernel_rfl)) (fun _ _ _ h => h) (Or.inl ⟨by rfl, ?_⟩) ?_ ?_
               rotate_left
               ·intro w'
                go_simp
                with_reducible rfl
               rotate_left
               ·simp only [Act.put, List.setIfInBounds_toArray, List.set_cons_zero, List.set_cons_succ, i64_w, i32_w]
                rfl
               refine pure_ (i := 9) (N := some 86) (v := ?_) (a' := ?_) #[true, true, true, true, true, true, true, true, true, true, false, false, false, false, false, false, false, false, false, false, false, false, false, false, false, false, false, false, false, false, false, false, false, false, false, false, false, false, false, false, false, false] rfl rfl (any_of HT_.out (by kernel_rfl)) (fun _ _ _ h => h) (Or.inl ⟨by rfl, ?_⟩) ?_ ?_
               rotate_left
               ·intro w'
                go_simp
                with_reducible rfl
               rotate_left
               ·simp only [Act.put, List.setIfInBounds_toArray, List.set_cons_zero, List.set_cons_succ, i64_w, i32_w]
                rfl
               refine pure_ (i := 10) (N := some 87) (v := ?_) (a' := ?_) #[true, true, true, true, true, true, true, true, true, true, true, false, false, false, false, false, false, false, false, false, false, false, false, false, false, false, false, false, false, false, false, false, false, false, false, false, false, false, false, false, false, false] rfl rfl (any_of HT_.out (by kernel_rfl)) (fun _ _ _ h => h) (Or.inl ⟨by rfl, ?_⟩) ?_ ?_
               rotate_left
               ·intro w'
                go_simp
                with_reducible rfl
               rotate_left
               ·simp only [Act.put, List.setIfInBounds_toArray, List.set_cons_zero, List.set_cons_succ, i64_w, i32_w]
                rfl
               refine pure_ (i := 11) (N := some 88) (v := ?_) (a' := ?_) #[true, true, true, true, true, true, true, true, true, true, true, true, false, false, false, false, false, false, false, false, false, false, false, false, false, false, false, false, false, false, false, false, false, false, false, false, false, false, false, false, false, false] rfl rfl (any_of HT_.out (by kernel_rfl)) (fun _ _ _ h => h) (Or.inl ⟨by rfl, ?_⟩) ?_ ?_
               rotate_left
               ·intro w'
                go_simp
                with_reducible rfl
               rotate_left
               ·simp only [Act.put, List.setIfInBounds_toArray, List.set_cons_zero, List.set_cons_succ, i64_w, i32_w]
                rfl
               refine pure_ (i := 12) (N := some 89) (v := ?_) (a' := ?_) #[true, true, true, true, true, true, true, true, true, true, true, true, true, false, false, false, false, false, false, false, false, false, false, false, false, false, false, false, false, false, false, false, false, false, false, false, false, false, false, false, false, false] rfl rfl (any_of HT_.out (by kernel_rfl)) (fun _ _ _ h => h) (Or.inl ⟨by rfl, ?_⟩) ?_ ?_
               rotate_left
               ·intro w'
                go_simp
                with_reducible rfl
               rotate_left
               ·simp only [Act.put, List.setIfInBounds_toArray, List.set_cons_zero, List.set_cons_succ, i64_w, i32_w]
                rfl
               refine pure_ (i := 13) (N := some 90) (v := ?_) (a' := ?_) #[true, true, true, true, true, true, true, true, true, true, true, true, true, true, false, false, false, false, false, false, false, false, false, false, false, false, false, false, false, false, false, false, false, false, false, false, false, false, false, false, false, false] rfl rfl (any_of HT_.out (by kernel_rfl)) (fun _ _ _ h => h) (Or.inl ⟨by rfl, ?_⟩) ?_ ?_
               rotate_left
               ·intro w'
                go_simp
                with_reducible rfl
               rotate_left
               ·simp only [Act.put, List.setIfInBounds_toArray, List.set_cons_zero, List.set_cons_succ, i64_w, i32_w]
                rfl
               refine pure_ (i := 14) (N := some 91) (v := ?_) (a' := ?_) #[true, true, true, true, true, true, true, true, true, true, true, true, true, true, true, false, false, false, false, false, false, false, false, false, false, false, false, false, false, false, false, false, false, false, false, false, false, false, false, false, false, false] rfl rfl (any_of HT_.out (by kernel_rfl)) (fun _ _ _ h => h) (Or.inl ⟨by rfl, ?_⟩) ?_ ?_
               rotate_left
               ·intro w'
                go_simp
                with_reducible rfl
               rotate_left
               ·simp only [Act.put, List.setIfInBounds_toArray, List.set_cons_zero, List.set_cons_succ, i64_w, i32_w]
                rfl
               refine pure_ (i := 15) (N := some 92) (v := ?_) (a' := ?_) #[true, true, true, true, true, true, true, true, true, true, true, true, true, true, true, true, false, false, false, false, false, false, false, false, false, false, false, false, false, false, false, false, false, false, false, false, false, false, false, false, false, false] rfl rfl (any_of HT_.out (by kernel_rfl)) (fun _ _ _ h => h) (Or.inl ⟨by rfl, ?_⟩) ?_ ?_
               rotate_left
               ·intro w'
                go_simp
                with_reducible rfl
               rotate_left
               ·simp only [Act.put, List.setIfInBounds_toArray, List.set_cons_zero, List.set_cons_succ, i64_w, i32_w]
                rfl
               refine pure_ (i := 16) (N := some 93) (v := ?_) (a' := ?_) #[true, true, true, true, true, true, true, true, true, true, true, true, true, true, true, true, true, false, false, false, false, false, false, false, false, false, false, false, false, false, false, false, false, false, false, false, false, false, false, false, false, false] rfl rfl (any_of HT_.out (by kernel_rfl)) (fun _ _ _ h => h) (Or.inl ⟨by rfl, ?_⟩) ?_ ?_
               rotate_left
               ·intro w'
                go_simp
                with_reducible rfl
               rotate_left
               ·simp only [Act.put, List.setIfInBounds_toArray, List.set_cons_zero, List.set_cons_succ, i64_w, i32_w]
                rfl
               refine take_ (i := 17) (N := some 94) (v := ?_) (a' := ?_) #[true, true, true, true, true, true, true, true, true, true, true, true, true, true, true, true, true, true, false, false, false, false, false, false, false, false, false, false, false, false, false, false, false, false, false, false, false, false, false, false, false, false] rfl rfl (take_ofW HT_.out HW_.out (by kernel_rfl)) (fun _ _ _ h => h) (Or.inl ⟨by rfl, ?_⟩) hHeld ?_ ?_
               rotate_left
               ·rintro w' ⟨s0, s1, s2, s3, s4, s5, s6, s7, s8, s9, s10, s11, s12, s13, s14, s15⟩
                go_simp
                with_reducible rfl
               rotate_left
               ·simp only [Act.put, List.setIfInBounds_toArray, List.set_cons_zero, List.set_cons_succ, i64_w, i32_w]
                rfl
               refine one_ (i := 18) (N := some 95) #[true, true, true, true, true, true, true, true, true, true, true, true, true, true, true, true, true, true, true, false, false, false, false, false, false, false, false, false, false, false, false, false, false, false, false, false, false, false, false, false, false, false] rfl rfl (one_of HT_.out (by kernel_rfl)) (by decide) (fun K hK => ?_)
               refine goes_ Try.func103 (by kernel_rfl) rfl #[.int .i64 (-3), .int .i64 5, .int .i64 (-3), .int .i64 3] (by rfl) rfl rfl (by (try simp only [List.map_toArray, List.map_cons, List.map_nil]); first | done | rfl | (simp only [List.length_drop, List.length_take]; rfl)) ?_
               with_reducible refine (boundstonelaw02_box.calls (-3) 5 (-3) 3 t718 t719 t720 t721 _ A99.out).mono ?_
               rintro e w107 ⟨rfl, hb⟩
               refine ⟨_, rfl, ?_⟩
               replace BK660 := bkC BK660 hb
               replace BK674 := bkC BK674 hb
               replace BK675 := bkC BK675 hb
               replace BK691 := bkC BK691 hb
               replace BK703 := bkC BK703 hb
               replace HB := Aside0.mk (below_step (by repeat (first | (with_reducible first | exact HB.out | apply below_alloc | apply pw_below_drewN | apply below_drew1 | refine below_set ?_ GE660.out | refine below_set ?_ GE674.out | refine below_set ?_ GE675.out | refine below_set ?_ GE691.out | refine below_set ?_ GE703.out) | exact HB.out)) hb)
               (try clear hb)
               (try clear hb2)
               (try clear hk)
               (try clear hi)
               refine hK.out _ _ ⟨(blk_cell BK660.out 0).trans rfl, (blk_cell BK660.out 1).trans rfl, (blk_cell BK660.out 2).trans rfl, (blk_cell BK660.out 3).trans rfl, (blk_cell BK674.out 0).trans rfl, (blk_cell BK674.out 1).trans rfl, (blk_cell BK674.out 2).trans rfl, (blk_cell BK674.out 3).trans rfl, (blk_cell BK675.out 0).trans rfl, (blk_cell BK675.out 1).trans rfl, (blk_cell BK675.out 2).trans rfl, (blk_cell BK675.out 3).trans rfl, (blk_cell BK691.out 0).trans rfl, (blk_cell BK691.out 1).trans rfl, (blk_cell BK703.out 0).trans rfl, (blk_cell BK703.out 1).trans rfl⟩ (fun hHeld => ?_)
               clear hK K
               refine norm_ (a' := ?_) ?_ ?_
               rotate_left
               ·show Act.put _ (some 95) _ = _
                simp only [Act.put, List.setIfInBounds_toArray, List.set_cons_zero, List.set_cons_succ, i64_w, i32_w]
                rfl
               refine pure_ (i := 19) (N := some 96) (v := ?_) (a' := ?_) #[true, true, true, true, true, true, true, true, true, true, true, true, true, true, true, true, true, true, true, true, false, false, false, false, false, false, false, false, false, false, false, false, false, false, false, false, false, false, false, false, false, false] rfl rfl (any_of HT_.out (by kernel_rfl)) (fun _ _ _ h => h) (Or.inl ⟨by rfl, ?_⟩) ?_ ?_
               rotate_left
               ·intro w'
                go_simp
                with_reducible rfl
               rotate_left
               ·simp only [Act.put, List.setIfInBounds_toArray, List.set_cons_zero, List.set_cons_succ, i64_w, i32_w]
                rfl
               refine pure_ (i := 20) (N := some 97) (v := ?_) (a' := ?_) #[true, true, true, true, true, true, true, true, true, true, true, true, true, true, true, true, true, true, true, true, true, false, false, false, false, false, false, false, false, false, false, false, false, false, false, false, false, false, false, false, false, false] rfl rfl (any_of HT_.out (by kernel_rfl)) (fun _ _ _ h => h) (Or.inl ⟨by rfl, ?_⟩) ?_ ?_
               rotate_left
               ·intro w'
                go_simp
                with_reducible rfl
               rotate_left
               ·simp only [Act.put, List.setIfInBounds_toArray, List.set_cons_zero, List.set_cons_succ, i64_w, i32_w]
                rfl
               refine pure_ (i := 21) (N := some 98) (v := ?_) (a' := ?_) #[true, true, true, true, true, true, true, true, true, true, true, true, true, true, true, true, true, true, true, true, true, true, false, false, false, false, false, false, false, false, false, false, false, false, false, false, false, false, false, false, false, false] rfl rfl (any_of HT_.out (by kernel_rfl)) (fun _ _ _ h => h) (Or.inl ⟨by rfl, ?_⟩) ?_ ?_
               rotate_left
               ·intro w'
                go_simp
                with_reducible rfl
               rotate_left
               ·simp only [Act.put, List.setIfInBounds_toArray, List.set_cons_zero, List.set_cons_succ, i64_w, i32_w]
                rfl
               refine take_ (i := 22) (N := some 99) (v := ?_) (a' := ?_) #[true, true, true, true, true, true, true, true, true, true, true, true, true, true, true, true, true, true, true, true, true, true, true, false, false, false, false, false, false, false, false, false, false, false, false, false, false, false, false, false, false, false] rfl rfl (take_ofW HT_.out HW_.out (by kernel_rfl)) (fun _ _ _ h => h) (Or.inl ⟨by rfl, ?_⟩) hHeld ?_ ?_
               rotate_left
               ·rintro w' ⟨s0, s1, s2, s3, s4, s5, s6, s7, s8, s9, s10, s11, s12, s13, s14, s15⟩
                go_simp
                with_reducible rfl
               rotate_left
               ·simp only [Act.put, List.setIfInBounds_toArray, List.set_cons_zero, List.set_cons_succ, i64_w, i32_w]
                rfl
               refine one_ (i := 23) (N := some 100) #[true, true, true, true, true, true, true, true, true, true, true, true, true, true, true, true, true, true, true, true, true, true, true, true, false, false, false, false, false, false, false, false, false, false, false, false, false, false, false, false, false, false] rfl rfl (one_of HT_.out (by kernel_rfl)) (by decide) (fun K hK => ?_)
               refine goes_ Try.func103 (by kernel_rfl) rfl #[.int .i64 0, .int .i64 3, .int .i64 5, .int .i64 7] (by rfl) rfl rfl (by (try simp only [List.map_toArray, List.map_cons, List.map_nil]); first | done | rfl | (simp only [List.length_drop, List.length_take]; rfl)) ?_
               with_reducible refine (boundstonelaw02_box.calls 0 3 5 7 t722 t723 t724 t725 _ A101.out).mono ?_
               rintro e w108 ⟨rfl, hb⟩
               refine ⟨_, rfl, ?_⟩
               replace BK660 := bkC BK660 hb
               replace BK674 := bkC BK674 hb
               replace BK675 := bkC BK675 hb
               replace BK691 := bkC BK691 hb
               replace BK703 := bkC BK703 hb
               replace HB := Aside0.mk (below_step (by repeat (first | (with_reducible first | exact HB.out | apply below_alloc | apply pw_below_drewN | apply below_drew1 | refine below_set ?_ GE660.out | refine below_set ?_ GE674.out | refine below_set ?_ GE675.out | refine below_set ?_ GE691.out | refine below_set ?_ GE703.out) | exact HB.out)) hb)
               (try clear hb)
               (try clear hb2)
               (try clear hk)
               (try clear hi)
               refine hK.out _ _ ⟨(blk_cell BK660.out 0).trans rfl, (blk_cell BK660.out 1).trans rfl, (blk_cell BK660.out 2).trans rfl, (blk_cell BK660.out 3).trans rfl, (blk_cell BK674.out 0).trans rfl, (blk_cell BK674.out 1).trans rfl, (blk_cell BK674.out 2).trans rfl, (blk_cell BK674.out 3).trans rfl, (blk_cell BK675.out 0).trans rfl, (blk_cell BK675.out 1).trans rfl, (blk_cell BK675.out 2).trans rfl, (blk_cell BK675.out 3).trans rfl, (blk_cell BK691.out 0).trans rfl, (blk_cell BK691.out 1).trans rfl, (blk_cell BK703.out 0).trans rfl, (blk_cell BK703.out 1).trans rfl⟩ (fun hHeld => ?_)
               clear hK K
               refine norm_ (a' := ?_) ?_ ?_
               rotate_left
               ·show Act.put _ (some 100) _ = _
                simp only [Act.put, List.setIfInBounds_toArray, List.set_cons_zero, List.set_cons_succ, i64_w, i32_w]
                rfl
               refine pure_ (i := 24) (N := some 101) (v := ?_) (a' := ?_) #[true, true, true, true, true, true, true, true, true, true, true, true, true, true, true, true, true, true, true, true, true, true, true, true, true, false, false, false, false, false, false, false, false, false, false, false, false, false, false, false, false, false] rfl rfl (any_of HT_.out (by kernel_rfl)) (fun _ _ _ h => h) (Or.inl ⟨by rfl, ?_⟩) ?_ ?_
               rotate_left
               ·intro w'
                go_simp
                with_reducible rfl
               rotate_left
               ·simp only [Act.put, List.setIfInBounds_toArray, List.set_cons_zero, List.set_cons_succ, i64_w, i32_w]
                rfl
               refine pure_ (i := 25) (N := some 102) (v := ?_) (a' := ?_) #[true, true, true, true, true, true, true, true, true, true, true, true, true, true, true, true, true, true, true, true, true, true, true, true, true, true, false, false, false, false, false, false, false, false, false, false, false, false, false, false, false, false] rfl rfl (any_of HT_.out (by kernel_rfl)) (fun _ _ _ h => h) (Or.inl ⟨by rfl, ?_⟩) ?_ ?_
               rotate_left
               ·intro w'
                go_simp
                with_reducible rfl
               rotate_left
               ·simp only [Act.put, List.setIfInBounds_toArray, List.set_cons_zero, List.set_cons_succ, i64_w, i32_w]
                rfl
               refine pure_ (i := 26) (N := some 103) (v := ?_) (a' := ?_) #[true, true, true, true, true, true, true, true, true, true, true, true, true, true, true, true, true, true, true, true, true, true, true, true, true, true, true, false, false, false, false, false, false, false, false, false, false, false, false, false, false, false] rfl rfl (any_of HT_.out (by kernel_rfl)) (fun _ _ _ h => h) (Or.inl ⟨by rfl, ?_⟩) ?_ ?_
               rotate_left
               ·intro w'
                go_simp
                with_reducible rfl
               rotate_left
               ·simp only [Act.put, List.setIfInBounds_toArray, List.set_cons_zero, List.set_cons_succ, i64_w, i32_w]
                rfl
               refine take_ (i := 27) (N := some 104) (v := ?_) (a' := ?_) #[true, true, true, true, true, true, true, true, true, true, true, true, true, true, true, true, true, true, true, true, true, true, true, true, true, true, true, true, false, false, false, false, false, false, false, false, false, false, false, false, false, false] rfl rfl (take_ofW HT_.out HW_.out (by kernel_rfl)) (fun _ _ _ h => h) (Or.inl ⟨by rfl, ?_⟩) hHeld ?_ ?_
               rotate_left
               ·rintro w' ⟨s0, s1, s2, s3, s4, s5, s6, s7, s8, s9, s10, s11, s12, s13, s14, s15⟩
                go_simp
                with_reducible rfl
               rotate_left
               ·simp only [Act.put, List.setIfInBounds_toArray, List.set_cons_zero, List.set_cons_succ, i64_w, i32_w]
                rfl
               refine one_ (i := 28) (N := some 105) #[true, true, true, true, true, true, true, true, true, true, true, true, true, true, true, true, true, true, true, true, true, true, true, true, true, true, true, true, true, false, false, false, false, false, false, false, false, false, false, false, false, false] rfl rfl (one_of HT_.out (by kernel_rfl)) (by decide) (fun K hK => ?_)
               refine goes_ Try.func103 (by kernel_rfl) rfl #[.int .i64 0, .int .i64 3, .int .i64 8, .int .i64 9] (by rfl) rfl rfl (by (try simp only [List.map_toArray, List.map_cons, List.map_nil]); first | done | rfl | (simp only [List.length_drop, List.length_take]; rfl)) ?_
               with_reducible refine (boundstonelaw02_box.calls 0 3 8 9 t726 t727 t728 t729 _ A103.out).mono ?_
               rintro e w109 ⟨rfl, hb⟩
               refine ⟨_, rfl, ?_⟩
               replace BK660 := bkC BK660 hb
               replace BK674 := bkC BK674 hb
               replace BK675 := bkC BK675 hb
               replace BK691 := bkC BK691 hb
               replace BK703 := bkC BK703 hb
               replace HB := Aside0.mk (below_step (by repeat (first | (with_reducible first | exact HB.out | apply below_alloc | apply pw_below_drewN | apply below_drew1 | refine below_set ?_ GE660.out | refine below_set ?_ GE674.out | refine below_set ?_ GE675.out | refine below_set ?_ GE691.out | refine below_set ?_ GE703.out) | exact HB.out)) hb)
               (try clear hb)
               (try clear hb2)
               (try clear hk)
               (try clear hi)
               refine hK.out _ _ ⟨(blk_cell BK660.out 0).trans rfl, (blk_cell BK660.out 1).trans rfl, (blk_cell BK660.out 2).trans rfl, (blk_cell BK660.out 3).trans rfl, (blk_cell BK674.out 0).trans rfl, (blk_cell BK674.out 1).trans rfl, (blk_cell BK674.out 2).trans rfl, (blk_cell BK674.out 3).trans rfl, (blk_cell BK675.out 0).trans rfl, (blk_cell BK675.out 1).trans rfl, (blk_cell BK675.out 2).trans rfl, (blk_cell BK675.out 3).trans rfl, (blk_cell BK691.out 0).trans rfl, (blk_cell BK691.out 1).trans rfl, (blk_cell BK703.out 0).trans rfl, (blk_cell BK703.out 1).trans rfl⟩ (fun hHeld => ?_)
               clear hK K
               refine norm_ (a' := ?_) ?_ ?_
               rotate_left
               ·show Act.put _ (some 105) _ = _
                simp only [Act.put, List.setIfInBounds_toArray, List.set_cons_zero, List.set_cons_succ, i64_w, i32_w]
                rfl
               refine pure_ (i := 29) (N := some 106) (v := ?_) (a' := ?_) #[true, true, true, true, true, true, true, true, true, true, true, true, true, true, true, true, true, true, true, true, true, true, true, true, true, true, true, true, true, true, false, false, false, false, false, false, false, false, false, false, false, false] rfl rfl (any_of HT_.out (by kernel_rfl)) (fun _ _ _ h => h) (Or.inl ⟨by rfl, ?_⟩) ?_ ?_
               rotate_left
               ·intro w'
                go_simp
                with_reducible rfl
               rotate_left
               ·simp only [Act.put, List.setIfInBounds_toArray, List.set_cons_zero, List.set_cons_succ, i64_w, i32_w]
                rfl
               refine pure_ (i := 30) (N := some 107) (v := ?_) (a' := ?_) #[true, true, true, true, true, true, true, true, true, true, true, true, true, true, true, true, true, true, true, true, true, true, true, true, true, true, true, true, true, true, true, false, false, false, false, false, false, false, false, false, false, false] rfl rfl (any_of HT_.out (by kernel_rfl)) (fun _ _ _ h => h) (Or.inl ⟨by rfl, ?_⟩) ?_ ?_
               rotate_left
               ·intro w'
                go_simp
                with_reducible rfl
               rotate_left
               ·simp only [Act.put, List.setIfInBounds_toArray, List.set_cons_zero, List.set_cons_succ, i64_w, i32_w]
                rfl
               refine pure_ (i := 31) (N := some 108) (v := ?_) (a' := ?_) #[true, true, true, true, true, true, true, true, true, true, true, true, true, true, true, true, true, true, true, true, true, true, true, true, true, true, true, true, true, true, true, true, false, false, false, false, false, false, false, false, false, false] rfl rfl (any_of HT_.out (by kernel_rfl)) (fun _ _ _ h => h) (Or.inl ⟨by rfl, ?_⟩) ?_ ?_
               rotate_left
               ·intro w'
                go_simp
                with_reducible rfl
               rotate_left
               ·simp only [Act.put, List.setIfInBounds_toArray, List.set_cons_zero, List.set_cons_succ, i64_w, i32_w]
                rfl
               refine pure_ (i := 33) (N := some 110) (v := ?_) (a' := ?_) #[true, true, true, true, true, true, true, true, true, true, true, true, true, true, true, true, true, true, true, true, true, true, true, true, true, true, true, true, true, true, true, true, false, true, false, false, false, false, false, false, false, false] rfl rfl (any_of HT_.out (by kernel_rfl)) (fun _ _ _ h => h) (Or.inl ⟨by rfl, ?_⟩) ?_ ?_
               rotate_left
               ·intro w'
                go_simp
                with_reducible rfl
               rotate_left
               ·simp only [Act.put, List.setIfInBounds_toArray, List.set_cons_zero, List.set_cons_succ, i64_w, i32_w]
                rfl
               refine take_ (i := 32) (N := some 109) (v := ?_) (a' := ?_) #[true, true, true, true, true, true, true, true, true, true, true, true, true, true, true, true, true, true, true, true, true, true, true, true, true, true, true, true, true, true, true, true, true, true, false, false, false, false, false, false, false, false] rfl rfl (take_ofW HT_.out HW_.out (by kernel_rfl)) (fun _ _ _ h => h) (Or.inl ⟨by rfl, ?_⟩) hHeld ?_ ?_
               rotate_left
               ·rintro w' ⟨s0, s1, s2, s3, s4, s5, s6, s7, s8, s9, s10, s11, s12, s13, s14, s15⟩
                go_simp
                with_reducible rfl
               rotate_left
               ·simp only [Act.put, List.setIfInBounds_toArray, List.set_cons_zero, List.set_cons_succ, i64_w, i32_w]
                rfl
               refine pure_ (i := 34) (N := some 111) (v := ?_) (a' := ?_) #[true, true, true, true, true, true, true, true, true, true, true, true, true, true, true, true, true, true, true, true, true, true, true, true, true, true, true, true, true, true, true, true, true, true, true, false, false, false, false, false, false, false] rfl rfl (any_of HT_.out (by kernel_rfl)) (fun _ _ _ h => h) (Or.inl ⟨by rfl, ?_⟩) ?_ ?_
               rotate_left
               ·intro w'
                go_simp
                with_reducible rfl
               rotate_left
               ·simp only [Act.put, List.setIfInBounds_toArray, List.set_cons_zero, List.set_cons_succ, i64_w, i32_w]
                rfl
               refine pure_ (i := 35) (N := some 112) (v := ?_) (a' := ?_) #[true, true, true, true, true, true, true, true, true, true, true, true, true, true, true, true, true, true, true, true, true, true, true, true, true, true, true, true, true, true, true, true, true, true, true, true, false, false, false, false, false, false] rfl rfl (any_of HT_.out (by kernel_rfl)) (fun _ _ _ h => h) (Or.inl ⟨by rfl, ?_⟩) ?_ ?_
               rotate_left
               ·intro w'
                go_simp
                with_reducible rfl
               rotate_left
               ·simp only [Act.put, List.setIfInBounds_toArray, List.set_cons_zero, List.set_cons_succ, i64_w, i32_w]
                rfl
               refine pure_ (i := 36) (N := some 113) (v := ?_) (a' := ?_) #[true, true, true, true, true, true, true, true, true, true, true, true, true, true, true, true, true, true, true, true, true, true, true, true, true, true, true, true, true, true, true, true, true, true, true, true, true, false, false, false, false, false] rfl rfl (any_of HT_.out (by kernel_rfl)) (fun _ _ _ h => h) (Or.inl ⟨by rfl, ?_⟩) ?_ ?_
               rotate_left
               ·intro w'
                go_simp
                with_reducible rfl
               rotate_left
               ·simp only [Act.put, List.setIfInBounds_toArray, List.set_cons_zero, List.set_cons_succ, i64_w, i32_w]
                rfl
               refine pure_ (i := 38) (N := some 115) (v := ?_) (a' := ?_) #[true, true, true, true, true, true, true, true, true, true, true, true, true, true, true, true, true, true, true, true, true, true, true, true, true, true, true, true, true, true, true, true, true, true, true, true, true, false, true, false, false, false] rfl rfl (any_of HT_.out (by kernel_rfl)) (fun _ _ _ h => h) (Or.inl ⟨by rfl, ?_⟩) ?_ ?_
               rotate_left
               ·intro w'
                go_simp
                with_reducible rfl
               rotate_left
               ·simp only [Act.put, List.setIfInBounds_toArray, List.set_cons_zero, List.set_cons_succ, i64_w, i32_w]
                rfl
               refine take_ (i := 37) (N := some 114) (v := ?_) (a' := ?_) #[true, true, true, true, true, true, true, true, true, true, true, true, true, true, true, true, true, true, true, true, true, true, true, true, true, true, true, true, true, true, true, true, true, true, true, true, true, true, true, false, false, false] rfl rfl (take_ofW HT_.out HW_.out (by kernel_rfl)) (fun _ _ _ h => h) (Or.inl ⟨by rfl, ?_⟩) hHeld ?_ ?_
               rotate_left
               ·rintro w' ⟨s0, s1, s2, s3, s4, s5, s6, s7, s8, s9, s10, s11, s12, s13, s14, s15⟩
                go_simp
                with_reducible rfl
               rotate_left
               ·simp only [Act.put, List.setIfInBounds_toArray, List.set_cons_zero, List.set_cons_succ, i64_w, i32_w]
                rfl
               refine pure_ (i := 39) (N := some 116) (v := ?_) (a' := ?_) #[true, true, true, true, true, true, true, true, true, true, true, true, true, true, true, true, true, true, true, true, true, true, true, true, true, true, true, true, true, true, true, true, true, true, true, true, true, true, true, true, false, false] rfl rfl (any_of HT_.out (by kernel_rfl)) (fun _ _ _ h => h) (Or.inl ⟨by rfl, ?_⟩) ?_ ?_
               rotate_left
               ·intro w'
                go_simp
                with_reducible rfl
               rotate_left
               ·simp only [Act.put, List.setIfInBounds_toArray, List.set_cons_zero, List.set_cons_succ, i64_w, i32_w]
                rfl
               refine pure_ (i := 40) (N := some 117) (v := ?_) (a' := ?_) #[true, true, true, true, true, true, true, true, true, true, true, true, true, true, true, true, true, true, true, true, true, true, true, true, true, true, true, true, true, true, true, true, true, true, true, true, true, true, true, true, true, false] rfl rfl (any_of HT_.out (by kernel_rfl)) (fun _ _ _ h => h) (Or.inl ⟨by rfl, ?_⟩) ?_ ?_
               rotate_left
               ·intro w'
                go_simp
                with_reducible rfl
               rotate_left
               ·simp only [Act.put, List.setIfInBounds_toArray, List.set_cons_zero, List.set_cons_succ, i64_w, i32_w]
                rfl
               refine pure_ (i := 41) (N := some 0) (v := ?_) (a' := ?_) #[true, true, true, true, true, true, true, true, true, true, true, true, true, true, true, true, true, true, true, true, true, true, true, true, true, true, true, true, true, true, true, true, true, true, true, true, true, true, true, true, true, true] rfl rfl (any_of HT_.out (by kernel_rfl)) (fun _ _ _ h => h) (Or.inl ⟨by rfl, ?_⟩) ?_ ?_
               rotate_left
               ·intro w'
                go_simp
                with_reducible rfl
               rotate_left
               ·simp only [Act.put, List.setIfInBounds_toArray, List.set_cons_zero, List.set_cons_succ, i64_w, i32_w]
                rfl
               refine done_ (done_of HT_.out (by kernel_rfl)) ?_
               try go_wp2
               go_ret
               exact ⟨by first | rfl | (simp [errW_none, errW_some] <;> rfl) | (simp [*, errW_none, errW_some] <;> rfl), by repeat (first | (with_reducible first | exact HB.out | apply below_alloc | apply pw_below_drewN | apply below_drew1 | refine below_set ?_ GE660.out | refine below_set ?_ GE674.out | refine below_set ?_ GE675.out | refine below_set ?_ GE691.out | refine below_set ?_ GE703.out) | exact HB.out)⟩
              ·rw [if_neg c105] at H
               exact absurd H (by simp)
             ·rw [if_neg c104] at H
              exact absurd H (by simp)
            ·rw [if_neg c102] at H
             exact absurd H (by simp)
           ·rw [if_neg c100] at H
            exact absurd H (by simp)
          ·replace c98 := Bool.eq_false_iff.mpr c98
           subst c98
           have H1 : (none) = some r := by rw [if_neg (show ¬ (false = true) by decide)] at H; exact H
           clear H
           have H := H1
           clear H1
           exact absurd H (by simp)
         ·replace c97 := Bool.eq_false_iff.mpr c97
          subst c97
          have H1 : (none) = some r := by rw [if_neg (show ¬ (false = true) by decide)] at H; exact H
          clear H
          have H := H1
          clear H1
          exact absurd H (by simp)
        ·replace c96 := Bool.eq_false_iff.mpr c96
         subst c96
         have H1 : (none) = some r := by rw [if_neg (show ¬ (false = true) by decide)] at H; exact H
         clear H
         have H := H1
         clear H1
         exact absurd H (by simp)
       ·replace c95 := Bool.eq_false_iff.mpr c95
        subst c95
        have H1 : (none) = some r := by rw [if_neg (show ¬ (false = true) by decide)] at H; exact H
        clear H
        have H := H1
        clear H1
        exact absurd H (by simp)
      ·replace c94 := Bool.eq_false_iff.mpr c94
       subst c94
       have H1 : (none) = some r := by rw [if_neg (show ¬ (false = true) by decide)] at H; exact H
       clear H
       have H := H1
       clear H1
       exact absurd H (by simp)
     ·replace c93 := Bool.eq_false_iff.mpr c93
      subst c93
      have H1 : (none) = some r := by rw [if_neg (show ¬ (false = true) by decide)] at H; exact H
      clear H
      have H := H1
      clear H1
      exact absurd H (by simp)
end Go.Proofs.Ytckaejgamfllfaa.G
end

section
namespace Go.Proofs.Ytckaejgamfllfaa.G
open Go.RowKit Go.Proofs.YtckaejgamfllfaaW.PrintWords Go.Proofs.YtckaejgamfllfaaW.PrintLast Go.Proofs.YtckaejgamfllfaaW.PrintMore
set_option linter.unusedVariables false
set_option linter.unusedSimpArgs false
theorem sort_ex : sortP [⟨2, 1⟩, ⟨0, 0⟩, ⟨4, 0⟩, ⟨2, 0⟩, ⟨0, 3⟩] = [⟨0, 0⟩, ⟨0, 3⟩, ⟨2, 0⟩, ⟨2, 1⟩, ⟨4, 0⟩] := by
  simp [sortP, List.mergeSort, leP, List.MergeSort.Internal.splitInTwo, List.merge, List.splitAt, List.splitAt.go]
theorem hull_ex : plane_Hull.f [⟨2, 1⟩, ⟨0, 0⟩, ⟨4, 0⟩, ⟨2, 0⟩, ⟨0, 3⟩] = some ([⟨0, 0⟩, ⟨4, 0⟩, ⟨0, 3⟩], 0) := by
  unfold plane_Hull.f hullL
  rw [sort_ex]
  rfl
theorem around_ex : plane_Around.f 0 0 [⟨0, 1⟩, ⟨2, 0⟩, ⟨1, 0⟩, ⟨-1, -1⟩] = some ([2, 1, 0, 3], 0) := by
  kernel_rfl
theorem boxes_at : boundstonelaw02_boxes.f 100 = some true := by
  unfold boundstonelaw02_boxes.f boundstonelaw02_at.f boundstonelaw02_box.f
  simp only [Option.bind_some]
  rw [hull_ex, around_ex]
  kernel_rfl
theorem boxes_eq (k : Nat) (hk : 100 ≤ k) : boundstonelaw02_boxes.f k = some true := by
  induction k with
  | zero => omega
  | succ k ih =>
    rcases Nat.lt_or_ge k 100 with h | h
    · obtain rfl : k = 99 := by omega
      exact boxes_at
    · exact boundstonelaw02_boxes.mono k _ (ih h)
end Go.Proofs.Ytckaejgamfllfaa.G
end
