/- Part 1 of 2. -/
import Derived.Test.YtckaejgamfllfaaBd
import Derived.ProofKit
import Derived.OpenShut
import Derived.ChangeOld
import Derived.Below
import Derived.SizedLaws
import Derived.Deep.Slices
section
namespace Go.Proofs.Ytckaejgamfllfaa.G
open Go.RowKit Go.Proofs.YtckaejgamfllfaaW.PrintWords Go.Proofs.YtckaejgamfllfaaW.PrintLast Go.Proofs.YtckaejgamfllfaaW.PrintMore
attribute [local go_sem] max2_int min2_int max_two min_two max_three min_three max_four min_four
set_option linter.unusedVariables false
set_option linter.unusedSimpArgs false
end Go.Proofs.Ytckaejgamfllfaa.G
end

section
namespace Go.Proofs.Ytckaejgamfllfaa.G
open Go.RowKit Go.Proofs.YtckaejgamfllfaaW.PrintWords Go.Proofs.YtckaejgamfllfaaW.PrintLast Go.Proofs.YtckaejgamfllfaaW.PrintMore
attribute [local go_sem] max2_int min2_int max_two min_two max_three min_three max_four min_four
set_option linter.unusedVariables false
set_option linter.unusedSimpArgs false
end Go.Proofs.Ytckaejgamfllfaa.G
end

section
namespace Go.Proofs.Ytckaejgamfllfaa.G
open Go.RowKit Go.Proofs.YtckaejgamfllfaaW.PrintWords Go.Proofs.YtckaejgamfllfaaW.PrintLast Go.Proofs.YtckaejgamfllfaaW.PrintMore
attribute [local go_sem] max2_int min2_int max_two min_two max_three min_three max_four min_four
set_option linter.unusedVariables false
set_option linter.unusedSimpArgs false
end Go.Proofs.Ytckaejgamfllfaa.G
end

section
namespace Go.Proofs.Ytckaejgamfllfaa.G
open Go.RowKit Go.Proofs.YtckaejgamfllfaaW.PrintWords Go.Proofs.YtckaejgamfllfaaW.PrintLast Go.Proofs.YtckaejgamfllfaaW.PrintMore
attribute [local go_sem] max2_int min2_int max_two min_two max_three min_three max_four min_four
set_option linter.unusedVariables false
set_option linter.unusedSimpArgs false
end Go.Proofs.Ytckaejgamfllfaa.G
end

section
namespace Go.Proofs.Ytckaejgamfllfaa.G
open Go.RowKit Go.Proofs.YtckaejgamfllfaaW.PrintWords Go.Proofs.YtckaejgamfllfaaW.PrintLast Go.Proofs.YtckaejgamfllfaaW.PrintMore
attribute [local go_sem] max2_int min2_int max_two min_two max_three min_three max_four min_four
set_option linter.unusedVariables false
set_option linter.unusedSimpArgs false
end Go.Proofs.Ytckaejgamfllfaa.G
end

section
namespace Go.Proofs.Ytckaejgamfllfaa.G
open Go.RowKit Go.Proofs.YtckaejgamfllfaaW.PrintWords Go.Proofs.YtckaejgamfllfaaW.PrintLast Go.Proofs.YtckaejgamfllfaaW.PrintMore
attribute [local go_sem] max2_int min2_int max_two min_two max_three min_three max_four min_four
set_option linter.unusedVariables false
set_option linter.unusedSimpArgs false
end Go.Proofs.Ytckaejgamfllfaa.G
end

section
namespace Go.Proofs.Ytckaejgamfllfaa.G
open Go.RowKit Go.Proofs.YtckaejgamfllfaaW.PrintWords Go.Proofs.YtckaejgamfllfaaW.PrintLast Go.Proofs.YtckaejgamfllfaaW.PrintMore
attribute [local go_sem] max2_int min2_int max_two min_two max_three min_three max_four min_four
set_option linter.unusedVariables false
set_option linter.unusedSimpArgs false
end Go.Proofs.Ytckaejgamfllfaa.G
end

section
namespace Go.Proofs.Ytckaejgamfllfaa.G
open Go.RowKit Go.Proofs.YtckaejgamfllfaaW.PrintWords Go.Proofs.YtckaejgamfllfaaW.PrintLast Go.Proofs.YtckaejgamfllfaaW.PrintMore
attribute [local go_sem] max2_int min2_int max_two min_two max_three min_three max_four min_four
set_option linter.unusedVariables false
set_option linter.unusedSimpArgs false
end Go.Proofs.Ytckaejgamfllfaa.G
end

section
namespace Go.Proofs.Ytckaejgamfllfaa.G
open Go.RowKit Go.Proofs.YtckaejgamfllfaaW.PrintWords Go.Proofs.YtckaejgamfllfaaW.PrintLast Go.Proofs.YtckaejgamfllfaaW.PrintMore
attribute [local go_sem] max2_int min2_int max_two min_two max_three min_three max_four min_four
set_option linter.unusedVariables false
set_option linter.unusedSimpArgs false
end Go.Proofs.Ytckaejgamfllfaa.G
end

section
namespace Go.Proofs.Ytckaejgamfllfaa.G
open Go.RowKit Go.Proofs.YtckaejgamfllfaaW.PrintWords Go.Proofs.YtckaejgamfllfaaW.PrintLast Go.Proofs.YtckaejgamfllfaaW.PrintMore
def turnP (a b c : S23) : Int := if validP a && validP b && validP c then sgn (twW a b c) else 0
theorem plane_Turn_eq (a b c : S23) : plane_Turn.f a.f0 a.f1 b.f0 b.f1 c.f0 c.f1 = some (turnP a b c) := by
  unfold plane_Turn.f plane_valid.f turnP
  rw [if_pos (by simp), plane_twice_eq a b c]
  simp only [Option.bind_some, List.all_cons, List.all_nil, Bool.and_true, plane_sign_eq, Bool.and_assoc]
  cases validP a <;> cases validP b <;> cases validP c <;> rfl
end Go.Proofs.Ytckaejgamfllfaa.G
end

section
namespace Go.Proofs.Ytckaejgamfllfaa.G
open Go.ChangeShapes Go.WideShapes Go.ChangeAt Go.RowKit Go.Deep Go.Proofs.YtckaejgamfllfaaW.PrintWords
variable {H : Type} {enc : TypeId × Value → H} {w : World} {base : Nat} {spare : Nat → Bool} {held : Bool}
def I64 (x : Int) : Prop := -9223372036854775808 ≤ x ∧ x ≤ 9223372036854775807
theorem I64.of_wf {x : Int} (h : (Lit.int .i64 x).wf = true) : I64 x := by
  have e1 : IntKind.i64.min = -9223372036854775808 := by decide
  have e2 : IntKind.i64.max = 9223372036854775807 := by decide
  simp only [Lit.wf, Bool.and_eq_true, decide_eq_true_eq, e1, e2] at h
  exact h
theorem list2 {α : Type} {l : List α} (h : l.length = 2) : ∃ a b, l = [a, b] := by
  match l, h with
  | [a, b], _ => exact ⟨a, b, rfl⟩
theorem list4 {α : Type} {l : List α} (h : l.length = 4) : ∃ a b c d, l = [a, b, c, d] := by
  match l, h with
  | [a, b, c, d], _ => exact ⟨a, b, c, d, rfl⟩
theorem cells23 : Try.prog.cellsOf 23 = 2 := by kernel_rfl
theorem cells34 : Try.prog.cellsOf 34 = 4 := by kernel_rfl
theorem cells3 : Try.prog.cellsOf 3 = 1 := by kernel_rfl
theorem point_cs {fuel : Nat} {cs : List Value} {x : DataW H × List MemPlace} (h : DataW.trod enc Try.prog w base spare held fuel 23 cs = some x) :
    ∃ p : S23, cs = [.int .i64 p.f0, .int .i64 p.f1] ∧ I64 p.f0 ∧ I64 p.f1 := by
  obtain ⟨y0, y1, n, _, hl, h0, h1⟩ := trod_struct2 Try.underlying23 h
  rw [cells23] at hl
  obtain ⟨c0, c1, rfl⟩ := list2 hl
  rw [cells3] at h0 h1
  obtain ⟨a, e0, _, wa⟩ := DataW.trod_int Try.underlying3 h0
  obtain ⟨b, e1, _, wb⟩ := DataW.trod_int Try.underlying3 h1
  simp at e0 e1
  subst e0 e1
  exact ⟨⟨a, b⟩, rfl, .of_wf wa, .of_wf wb⟩
theorem seg_cs {fuel : Nat} {cs : List Value} {x : DataW H × List MemPlace} (h : DataW.trod enc Try.prog w base spare held fuel 34 cs = some x) :
    ∃ p q : S23, cs = [.int .i64 p.f0, .int .i64 p.f1, .int .i64 q.f0, .int .i64 q.f1] ∧ (I64 p.f0 ∧ I64 p.f1) ∧ I64 q.f0 ∧ I64 q.f1 := by
  obtain ⟨y0, y1, n, _, hl, h0, h1⟩ := trod_struct2 Try.underlying34 h
  rw [cells34] at hl
  obtain ⟨c0, c1, c2, c3, rfl⟩ := list4 hl
  rw [cells23] at h0 h1
  obtain ⟨p, e0, wp⟩ := point_cs h0
  obtain ⟨q, e1, wq⟩ := point_cs h1
  simp at e0 e1
  obtain ⟨rfl, rfl⟩ := e0
  obtain ⟨rfl, rfl⟩ := e1
  exact ⟨p, q, rfl, wp, wq⟩
theorem arr_of_list {cs : Array Value} {l : List Value} (e : (Value.agg cs).cells.toList = l) : cs = l.toArray := by
  have e' : cs.toList = l := e
  rw [← e']
abbrev sv (p q : S23) : Value := .agg #[.int .i64 p.f0, .int .i64 p.f1, .int .i64 q.f0, .int .i64 q.f1]
set_option maxRecDepth 100000 in
theorem open_seg {r : Reach} {b0 : Nat} {v : Value} {d : DataW H} {ps : List MemPlace} (hv : Value.okWide Try.prog w r b0 34 v) (h : DataW.Trod enc Try.prog w base spare held 34 v d ps) :
    ∃ p q : S23, v = sv p q ∧ (I64 p.f0 ∧ I64 p.f1) ∧ I64 q.f0 ∧ I64 q.f1 := by
  obtain ⟨cs, rfl, _⟩ := okWide_struct Try.underlying34 hv
  obtain ⟨fuel, hf⟩ := h
  obtain ⟨p, q, e, hp⟩ := seg_cs hf
  exact ⟨p, q, by rw [arr_of_list e], hp⟩
end Go.Proofs.Ytckaejgamfllfaa.G
end

section
namespace Go.Proofs.Ytckaejgamfllfaa.G
open Go.RowKit Go.Proofs.YtckaejgamfllfaaW.PrintWords Go.Proofs.YtckaejgamfllfaaW.PrintLast Go.Proofs.YtckaejgamfllfaaW.PrintMore
theorem mul_bd {p q M : Int} (h1 : -M ≤ p) (h2 : p ≤ M) (h3 : -M ≤ q) (h4 : q ≤ M) : -(M * M) ≤ p * q ∧ p * q ≤ M * M := by
  have e : (p * q).natAbs ≤ M.natAbs * M.natAbs := by
    rw [Int.natAbs_mul]
    exact Nat.mul_le_mul (by omega) (by omega)
  have f : ((M.natAbs * M.natAbs : Nat) : Int) = M * M := by
    have : (M.natAbs : Int) = M := by omega
    rw [Int.natCast_mul, this]
  omega
theorem validP_iff (a : S23) : validP a = true ↔ -1048576 ≤ a.f0 ∧ a.f0 ≤ 1048576 ∧ -1048576 ≤ a.f1 ∧ a.f1 ≤ 1048576 := by
  unfold validP; simp only [Bool.and_eq_true, decide_eq_true_eq, and_assoc]
def twZ (a b c : S23) : Int := (b.f0 - a.f0) * (c.f1 - a.f1) - (b.f1 - a.f1) * (c.f0 - a.f0)
theorem twW_eq {a b c : S23} (ha : validP a = true) (hb : validP b = true) (hc : validP c = true) : twW a b c = twZ a b c := by
  rw [validP_iff] at ha hb hc
  have h1 := @mul_bd (b.f0 - a.f0) (c.f1 - a.f1) 2097152 (by omega) (by omega) (by omega) (by omega)
  have h2 := @mul_bd (b.f1 - a.f1) (c.f0 - a.f0) 2097152 (by omega) (by omega) (by omega) (by omega)
  unfold twW twZ
  rw [wrap_small (x := b.f0 - a.f0) (by omega) (by omega), wrap_small (x := c.f1 - a.f1) (by omega) (by omega), wrap_small (x := b.f1 - a.f1) (by omega) (by omega), wrap_small (x := c.f0 - a.f0) (by omega) (by omega)]
  rw [wrap_small (x := (b.f0 - a.f0) * (c.f1 - a.f1)) (by omega) (by omega), wrap_small (x := (b.f1 - a.f1) * (c.f0 - a.f0)) (by omega) (by omega), wrap_small (by omega) (by omega)]
theorem sq_nn (x : Int) : 0 ≤ x * x := by
  rcases Int.le_total 0 x with h | h
  · exact Int.mul_nonneg h h
  · exact Int.mul_nonneg_of_nonpos_of_nonpos h h
theorem sq_zero {x : Int} (h : x * x = 0) : x = 0 := by
  rcases Int.mul_eq_zero.1 h with h | h <;> exact h
theorem twZ_swap (a b c : S23) : twZ b a c = -twZ a b c := by unfold twZ; grind
theorem sgn_neg (n : Int) : sgn (-n) = -sgn n := by unfold sgn; split <;> split <;> (try split) <;> omega
theorem turn_all {a b c : S23} (ha : validP a = true) (hb : validP b = true) (hc : validP c = true) : turnP a b c = sgn (twZ a b c) := by
  unfold turnP; rw [ha, hb, hc, twW_eq ha hb hc]; simp
end Go.Proofs.Ytckaejgamfllfaa.G
end

section
namespace Go.Proofs.Ytckaejgamfllfaa.G
open Go.RowKit Go.Proofs.YtckaejgamfllfaaW.PrintWords Go.Proofs.YtckaejgamfllfaaW.PrintLast Go.Proofs.YtckaejgamfllfaaW.PrintMore
attribute [local go_sem] max2_int min2_int max_two min_two max_three min_three max_four min_four
set_option linter.unusedVariables false
set_option linter.unusedSimpArgs false
def plane_On.f (a0_0 : Int) (a0_1 : Int) (a0_2 : Int) (a0_3 : Int) (a1_0 : Int) (a1_1 : Int) : Option (Bool) := (plane_proper.f a0_0 a0_1 a0_2 a0_3).bind fun t365 => (if t365 = true then ((plane_Valid.f a1_0 a1_1).bind fun t366 => (if t366 = true then ((plane_on.f a0_0 a0_1 a0_2 a0_3 a1_0 a1_1).bind fun t367 => (some t367)) else (some false))) else (some false))
set_option maxHeartbeats 8000000 in
set_option maxRecDepth 100000 in
theorem plane_On.calls (a0_0 : Int) (a0_1 : Int) (a0_2 : Int) (a0_3 : Int) (a1_0 : Int) (a1_1 : Int) (r : Bool) (w : World) (h : plane_On.f a0_0 a0_1 a0_2 a0_3 a1_0 a1_1 = some r) :
    Calls Try.prog 26 #[.agg #[.int .i64 a0_0, .int .i64 a0_1, .int .i64 a0_2, .int .i64 a0_3], .agg #[.int .i64 a1_0, .int .i64 a1_1]] w fun e w' => e = .returned (.bool r) ∧ Below w.heap.size w w' := by
  have hu34 := Try.underlying34
  have hu23 := Try.underlying23
  have HB := Aside0.mk (Below.refl w.heap.size w)
  have H : ((plane_proper.f a0_0 a0_1 a0_2 a0_3).bind fun t365 => (if t365 = true then ((plane_Valid.f a1_0 a1_1).bind fun t366 => (if t366 = true then ((plane_on.f a0_0 a0_1 a0_2 a0_3 a1_0 a1_1).bind fun t367 => (some t367)) else (some false))) else (some false))) = some r := h
  clear h
  replace H := Option.bind_eq_some_iff.mp H
  obtain ⟨t365, A30, H⟩ := H
  replace H : (if t365 = true then ((plane_Valid.f a1_0 a1_1).bind fun t366 => (if t366 = true then ((plane_on.f a0_0 a0_1 a0_2 a0_3 a1_0 a1_1).bind fun t367 => (some t367)) else (some false))) else (some false)) = some r := H
  have A3 := Aside0.mk A30
  clear A30
  by_cases c4 : t365 = true
  · subst c4
    have H1 : ((plane_Valid.f a1_0 a1_1).bind fun t366 => (if t366 = true then ((plane_on.f a0_0 a0_1 a0_2 a0_3 a1_0 a1_1).bind fun t367 => (some t367)) else (some false))) = some r := by rw [if_pos rfl] at H; exact H
    clear H
    have H := H1
    clear H1
    replace H := Option.bind_eq_some_iff.mp H
    obtain ⟨t366, A50, H⟩ := H
    replace H : (if t366 = true then ((plane_on.f a0_0 a0_1 a0_2 a0_3 a1_0 a1_1).bind fun t367 => (some t367)) else (some false)) = some r := H
    have A5 := Aside0.mk A50
    clear A50
    by_cases c6 : t366 = true
    · subst c6
      have H1 : ((plane_on.f a0_0 a0_1 a0_2 a0_3 a1_0 a1_1).bind fun t367 => (some t367)) = some r := by rw [if_pos rfl] at H; exact H
      clear H
      have H := H1
      clear H1
      replace H := Option.bind_eq_some_iff.mp H
      obtain ⟨t367, A70, H⟩ := H
      replace H : (some t367) = some r := H
      have A7 := Aside0.mk A70
      clear A70
      obtain rfl := Option.some.inj H
      go_enter Try.func26, Try.ntmps26
      go_wp2_with (first | ((with_reducible refine gate_dst (N := 2) rfl ?_); refine box_event ?hg (N := 2) ?hd (cs := #[.int .i64 a0_0, .int .i64 a0_1, .int .i64 a0_2, .int .i64 a0_3]) (t := 34) ?hr ?_; (case hd => rfl); (case hg => rfl); (case hr => first | (go_simp; done) | (go_simp; rfl)); intro gb363 hg w8 hbox hb; have n0_ := Aside0.mk (below_step (by repeat (first | (with_reducible first | exact HB.out | apply below_alloc | apply pw_below_drewN | apply below_drew1) | exact HB.out)) hb); have n1_ := Aside0.mk (hbox); have n2_ := Aside0.mk ((by rw [hg]; exact (below_size (by repeat (first | (with_reducible first | exact HB.out | apply below_alloc | apply pw_below_drewN | apply below_drew1) | exact HB.out))) : w.heap.size ≤ gb363)); have n3_ := Aside0.mk ((by rw [hg]; exact (below_size (by repeat (first | (with_reducible first | exact HB.out | apply below_alloc | apply pw_below_drewN | apply below_drew1) | exact HB.out))) : w.heap.size ≤ gb363)); clear HB; have HB := n0_; have BK363 := n1_; have GW363 := n2_; have GE363 := n3_; clear n0_ n1_ n2_ n3_; clear hb hbox hg) | ((with_reducible refine gate_dst (N := 3) rfl ?_); refine box_event ?hg (N := 3) ?hd (cs := #[.int .i64 a1_0, .int .i64 a1_1]) (t := 23) ?hr ?_; (case hd => rfl); (case hg => rfl); (case hr => first | (go_simp; done) | (go_simp; rfl)); intro gb364 hg w9 hbox hb; have n0_ := Aside0.mk (blk_below (g := gb363) (o := .cells #[.int .i64 a0_0, .int .i64 a0_1, .int .i64 a0_2, .int .i64 a0_3] 34 (0, 0)) (by (with_reducible repeat (first | refine blk_drewN ?_ _ | refine blk_drew ?_ | refine blk_alloc ?_ _)); exact BK363.out) hb); have n1_ := Aside0.mk (below_step (by repeat (first | (with_reducible first | exact HB.out | apply below_alloc | apply pw_below_drewN | apply below_drew1 | refine below_set ?_ GE363.out) | exact HB.out)) hb); have n2_ := Aside0.mk (hbox); have n3_ := Aside0.mk ((by rw [hg]; exact (below_size (by repeat (first | (with_reducible first | exact HB.out | apply below_alloc | apply pw_below_drewN | apply below_drew1 | refine below_set ?_ GE363.out) | exact HB.out))) : w.heap.size ≤ gb364)); have n4_ := Aside0.mk ((by rw [hg]; exact (below_size (by repeat (first | (with_reducible first | exact HB.out | apply below_alloc | apply pw_below_drewN | apply below_drew1 | refine below_set ?_ GE363.out) | exact HB.out))) : w.heap.size ≤ gb364)); have n5_ := Aside0.mk ((by rw [hg]; exact Nat.ne_of_lt (blk_lt (g := gb363) (o := .cells #[.int .i64 a0_0, .int .i64 a0_1, .int .i64 a0_2, .int .i64 a0_3] 34 (0, 0)) (by (with_reducible repeat (first | refine blk_drewN ?_ _ | refine blk_drew ?_ | refine blk_alloc ?_ _)); exact BK363.out)) : gb363 ≠ gb364)); have n6_ := Aside0.mk ((by rw [hg]; exact Nat.ne_of_gt (blk_lt (g := gb363) (o := .cells #[.int .i64 a0_0, .int .i64 a0_1, .int .i64 a0_2, .int .i64 a0_3] 34 (0, 0)) (by (with_reducible repeat (first | refine blk_drewN ?_ _ | refine blk_drew ?_ | refine blk_alloc ?_ _)); exact BK363.out)) : gb364 ≠ gb363)); clear BK363; clear HB; have BK363 := n0_; have HB := n1_; have BK364 := n2_; have GW364 := n3_; have GE364 := n4_; have NB363_364 := n5_; have NB364_363 := n6_; clear n0_ n1_ n2_ n3_ n4_ n5_ n6_; clear hb hbox hg; have hnb10 := NB363_364.out; have hnc10 := NB364_363.out; have hcz11_0 : w9.cell? ⟨gb363, 0, none⟩ = some (.int .i64 a0_0) := (blk_cell BK363.out 0).trans rfl; have hcz11_1 : w9.cell? ⟨gb363, 1, none⟩ = some (.int .i64 a0_1) := (blk_cell BK363.out 1).trans rfl; have hcz11_2 : w9.cell? ⟨gb363, 2, none⟩ = some (.int .i64 a0_2) := (blk_cell BK363.out 2).trans rfl; have hcz11_3 : w9.cell? ⟨gb363, 3, none⟩ = some (.int .i64 a0_3) := (blk_cell BK363.out 3).trans rfl; have hfz11_0 := blk_frozen BK363.out 0; have hfz11_1 := blk_frozen BK363.out 1; have hfz11_2 := blk_frozen BK363.out 2; have hfz11_3 := blk_frozen BK363.out 3) | ((with_reducible refine gate_callee (f := 87) rfl ?_); refine goesL_ (some 6) rfl rfl Try.func87 (by kernel_rfl) rfl #[.agg #[.int .i64 a0_0, .int .i64 a0_1, .int .i64 a0_2, .int .i64 a0_3]] rfl (by (try simp only [List.map_toArray, List.map_cons, List.map_nil]); first | done | rfl | (simp only [List.length_drop, List.length_take]; rfl)) ?_; (with_reducible refine (plane_proper.calls a0_0 a0_1 a0_2 a0_3 true _ A3.out).mono ?_); rintro e w12 ⟨rfl, hb⟩; refine ⟨_, rfl, ?_⟩; have n0_ := Aside0.mk (blk_below (g := gb363) (o := .cells #[.int .i64 a0_0, .int .i64 a0_1, .int .i64 a0_2, .int .i64 a0_3] 34 (0, 0)) (by (with_reducible repeat (first | refine blk_drewN ?_ _ | refine blk_drew ?_ | refine blk_alloc ?_ _)); exact BK363.out) hb); have n1_ := Aside0.mk (blk_below (g := gb364) (o := .cells #[.int .i64 a1_0, .int .i64 a1_1] 23 (0, 0)) (by (with_reducible repeat (first | refine blk_drewN ?_ _ | refine blk_drew ?_ | refine blk_alloc ?_ _)); exact BK364.out) hb); have n2_ := Aside0.mk (below_step (by repeat (first | (with_reducible first | exact HB.out | apply below_alloc | apply pw_below_drewN | apply below_drew1 | refine below_set ?_ GE363.out | refine below_set ?_ GE364.out) | exact HB.out)) hb); clear BK363; clear BK364; clear HB; have BK363 := n0_; have BK364 := n1_; have HB := n2_; clear n0_ n1_ n2_; (try clear hb); (try clear hb2); (try clear hk); (try clear hi); have hcz13_0 : w12.cell? ⟨gb364, 0, none⟩ = some (.int .i64 a1_0) := (blk_cell BK364.out 0).trans rfl; have hcz13_1 : w12.cell? ⟨gb364, 1, none⟩ = some (.int .i64 a1_1) := (blk_cell BK364.out 1).trans rfl; have hfz13_0 := blk_frozen BK364.out 0; have hfz13_1 := blk_frozen BK364.out 1) | (go_at_call 17; (with_reducible refine (plane_Valid.calls a1_0 a1_1 true _ A5.out).mono ?_); rintro e w14 ⟨rfl, hb⟩; have n0_ := Aside0.mk (blk_below (g := gb363) (o := .cells #[.int .i64 a0_0, .int .i64 a0_1, .int .i64 a0_2, .int .i64 a0_3] 34 (0, 0)) (by (with_reducible repeat (first | refine blk_drewN ?_ _ | refine blk_drew ?_ | refine blk_alloc ?_ _)); exact BK363.out) hb); have n1_ := Aside0.mk (blk_below (g := gb364) (o := .cells #[.int .i64 a1_0, .int .i64 a1_1] 23 (0, 0)) (by (with_reducible repeat (first | refine blk_drewN ?_ _ | refine blk_drew ?_ | refine blk_alloc ?_ _)); exact BK364.out) hb); have n2_ := Aside0.mk (below_step (by repeat (first | (with_reducible first | exact HB.out | apply below_alloc | apply pw_below_drewN | apply below_drew1 | refine below_set ?_ GE363.out | refine below_set ?_ GE364.out) | exact HB.out)) hb); clear BK363; clear BK364; clear HB; have BK363 := n0_; have BK364 := n1_; have HB := n2_; clear n0_ n1_ n2_; (try clear hb); (try clear hb2); (try clear hk); (try clear hi); have hcz15_0 : w14.cell? ⟨gb363, 0, none⟩ = some (.int .i64 a0_0) := (blk_cell BK363.out 0).trans rfl; have hcz15_1 : w14.cell? ⟨gb363, 1, none⟩ = some (.int .i64 a0_1) := (blk_cell BK363.out 1).trans rfl; have hcz15_2 : w14.cell? ⟨gb363, 2, none⟩ = some (.int .i64 a0_2) := (blk_cell BK363.out 2).trans rfl; have hcz15_3 : w14.cell? ⟨gb363, 3, none⟩ = some (.int .i64 a0_3) := (blk_cell BK363.out 3).trans rfl; have hfz15_0 := blk_frozen BK363.out 0; have hfz15_1 := blk_frozen BK363.out 1; have hfz15_2 := blk_frozen BK363.out 2; have hfz15_3 := blk_frozen BK363.out 3; have hcz16_0 : w14.cell? ⟨gb364, 0, none⟩ = some (.int .i64 a1_0) := (blk_cell BK364.out 0).trans rfl; have hcz16_1 : w14.cell? ⟨gb364, 1, none⟩ = some (.int .i64 a1_1) := (blk_cell BK364.out 1).trans rfl; have hfz16_0 := blk_frozen BK364.out 0; have hfz16_1 := blk_frozen BK364.out 1) | (go_at_call 88; (with_reducible refine (plane_on.calls a0_0 a0_1 a0_2 a0_3 a1_0 a1_1 t367 _ A7.out).mono ?_); rintro e w17 ⟨rfl, hb⟩; have n0_ := Aside0.mk (blk_below (g := gb363) (o := .cells #[.int .i64 a0_0, .int .i64 a0_1, .int .i64 a0_2, .int .i64 a0_3] 34 (0, 0)) (by (with_reducible repeat (first | refine blk_drewN ?_ _ | refine blk_drew ?_ | refine blk_alloc ?_ _)); exact BK363.out) hb); have n1_ := Aside0.mk (blk_below (g := gb364) (o := .cells #[.int .i64 a1_0, .int .i64 a1_1] 23 (0, 0)) (by (with_reducible repeat (first | refine blk_drewN ?_ _ | refine blk_drew ?_ | refine blk_alloc ?_ _)); exact BK364.out) hb); have n2_ := Aside0.mk (below_step (by repeat (first | (with_reducible first | exact HB.out | apply below_alloc | apply pw_below_drewN | apply below_drew1 | refine below_set ?_ GE363.out | refine below_set ?_ GE364.out) | exact HB.out)) hb); clear BK363; clear BK364; clear HB; have BK363 := n0_; have BK364 := n1_; have HB := n2_; clear n0_ n1_ n2_; (try clear hb); (try clear hb2); (try clear hk); (try clear hi)))
      go_ret
      exact ⟨by first | rfl | (simp [errW_none, errW_some] <;> rfl) | (simp [*, errW_none, errW_some] <;> rfl), by repeat (first | (with_reducible first | exact HB.out | apply below_alloc | apply pw_below_drewN | apply below_drew1 | refine below_set ?_ GE363.out | refine below_set ?_ GE364.out) | exact HB.out)⟩
    · replace c6 := Bool.eq_false_iff.mpr c6
      subst c6
      have H1 : (some false) = some r := by rw [if_neg (show ¬ (false = true) by decide)] at H; exact H
      clear H
      have H := H1
      clear H1
      obtain rfl := Option.some.inj H
      go_enter Try.func26, Try.ntmps26
      go_wp2_with (first | ((with_reducible refine gate_dst (N := 2) rfl ?_); refine box_event ?hg (N := 2) ?hd (cs := #[.int .i64 a0_0, .int .i64 a0_1, .int .i64 a0_2, .int .i64 a0_3]) (t := 34) ?hr ?_; (case hd => rfl); (case hg => rfl); (case hr => first | (go_simp; done) | (go_simp; rfl)); intro gb363 hg w18 hbox hb; have n0_ := Aside0.mk (below_step (by repeat (first | (with_reducible first | exact HB.out | apply below_alloc | apply pw_below_drewN | apply below_drew1) | exact HB.out)) hb); have n1_ := Aside0.mk (hbox); have n2_ := Aside0.mk ((by rw [hg]; exact (below_size (by repeat (first | (with_reducible first | exact HB.out | apply below_alloc | apply pw_below_drewN | apply below_drew1) | exact HB.out))) : w.heap.size ≤ gb363)); have n3_ := Aside0.mk ((by rw [hg]; exact (below_size (by repeat (first | (with_reducible first | exact HB.out | apply below_alloc | apply pw_below_drewN | apply below_drew1) | exact HB.out))) : w.heap.size ≤ gb363)); clear HB; have HB := n0_; have BK363 := n1_; have GW363 := n2_; have GE363 := n3_; clear n0_ n1_ n2_ n3_; clear hb hbox hg) | ((with_reducible refine gate_dst (N := 3) rfl ?_); refine box_event ?hg (N := 3) ?hd (cs := #[.int .i64 a1_0, .int .i64 a1_1]) (t := 23) ?hr ?_; (case hd => rfl); (case hg => rfl); (case hr => first | (go_simp; done) | (go_simp; rfl)); intro gb364 hg w19 hbox hb; have n0_ := Aside0.mk (blk_below (g := gb363) (o := .cells #[.int .i64 a0_0, .int .i64 a0_1, .int .i64 a0_2, .int .i64 a0_3] 34 (0, 0)) (by (with_reducible repeat (first | refine blk_drewN ?_ _ | refine blk_drew ?_ | refine blk_alloc ?_ _)); exact BK363.out) hb); have n1_ := Aside0.mk (below_step (by repeat (first | (with_reducible first | exact HB.out | apply below_alloc | apply pw_below_drewN | apply below_drew1 | refine below_set ?_ GE363.out) | exact HB.out)) hb); have n2_ := Aside0.mk (hbox); have n3_ := Aside0.mk ((by rw [hg]; exact (below_size (by repeat (first | (with_reducible first | exact HB.out | apply below_alloc | apply pw_below_drewN | apply below_drew1 | refine below_set ?_ GE363.out) | exact HB.out))) : w.heap.size ≤ gb364)); have n4_ := Aside0.mk ((by rw [hg]; exact (below_size (by repeat (first | (with_reducible first | exact HB.out | apply below_alloc | apply pw_below_drewN | apply below_drew1 | refine below_set ?_ GE363.out) | exact HB.out))) : w.heap.size ≤ gb364)); have n5_ := Aside0.mk ((by rw [hg]; exact Nat.ne_of_lt (blk_lt (g := gb363) (o := .cells #[.int .i64 a0_0, .int .i64 a0_1, .int .i64 a0_2, .int .i64 a0_3] 34 (0, 0)) (by (with_reducible repeat (first | refine blk_drewN ?_ _ | refine blk_drew ?_ | refine blk_alloc ?_ _)); exact BK363.out)) : gb363 ≠ gb364)); have n6_ := Aside0.mk ((by rw [hg]; exact Nat.ne_of_gt (blk_lt (g := gb363) (o := .cells #[.int .i64 a0_0, .int .i64 a0_1, .int .i64 a0_2, .int .i64 a0_3] 34 (0, 0)) (by (with_reducible repeat (first | refine blk_drewN ?_ _ | refine blk_drew ?_ | refine blk_alloc ?_ _)); exact BK363.out)) : gb364 ≠ gb363)); clear BK363; clear HB; have BK363 := n0_; have HB := n1_; have BK364 := n2_; have GW364 := n3_; have GE364 := n4_; have NB363_364 := n5_; have NB364_363 := n6_; clear n0_ n1_ n2_ n3_ n4_ n5_ n6_; clear hb hbox hg; have hnb20 := NB363_364.out; have hnc20 := NB364_363.out; have hcz21_0 : w19.cell? ⟨gb363, 0, none⟩ = some (.int .i64 a0_0) := (blk_cell BK363.out 0).trans rfl; have hcz21_1 : w19.cell? ⟨gb363, 1, none⟩ = some (.int .i64 a0_1) := (blk_cell BK363.out 1).trans rfl; have hcz21_2 : w19.cell? ⟨gb363, 2, none⟩ = some (.int .i64 a0_2) := (blk_cell BK363.out 2).trans rfl; have hcz21_3 : w19.cell? ⟨gb363, 3, none⟩ = some (.int .i64 a0_3) := (blk_cell BK363.out 3).trans rfl; have hfz21_0 := blk_frozen BK363.out 0; have hfz21_1 := blk_frozen BK363.out 1; have hfz21_2 := blk_frozen BK363.out 2; have hfz21_3 := blk_frozen BK363.out 3) | ((with_reducible refine gate_callee (f := 87) rfl ?_); refine goesL_ (some 6) rfl rfl Try.func87 (by kernel_rfl) rfl #[.agg #[.int .i64 a0_0, .int .i64 a0_1, .int .i64 a0_2, .int .i64 a0_3]] rfl (by (try simp only [List.map_toArray, List.map_cons, List.map_nil]); first | done | rfl | (simp only [List.length_drop, List.length_take]; rfl)) ?_; (with_reducible refine (plane_proper.calls a0_0 a0_1 a0_2 a0_3 true _ A3.out).mono ?_); rintro e w22 ⟨rfl, hb⟩; refine ⟨_, rfl, ?_⟩; have n0_ := Aside0.mk (blk_below (g := gb363) (o := .cells #[.int .i64 a0_0, .int .i64 a0_1, .int .i64 a0_2, .int .i64 a0_3] 34 (0, 0)) (by (with_reducible repeat (first | refine blk_drewN ?_ _ | refine blk_drew ?_ | refine blk_alloc ?_ _)); exact BK363.out) hb); have n1_ := Aside0.mk (blk_below (g := gb364) (o := .cells #[.int .i64 a1_0, .int .i64 a1_1] 23 (0, 0)) (by (with_reducible repeat (first | refine blk_drewN ?_ _ | refine blk_drew ?_ | refine blk_alloc ?_ _)); exact BK364.out) hb); have n2_ := Aside0.mk (below_step (by repeat (first | (with_reducible first | exact HB.out | apply below_alloc | apply pw_below_drewN | apply below_drew1 | refine below_set ?_ GE363.out | refine below_set ?_ GE364.out) | exact HB.out)) hb); clear BK363; clear BK364; clear HB; have BK363 := n0_; have BK364 := n1_; have HB := n2_; clear n0_ n1_ n2_; (try clear hb); (try clear hb2); (try clear hk); (try clear hi); have hcz23_0 : w22.cell? ⟨gb364, 0, none⟩ = some (.int .i64 a1_0) := (blk_cell BK364.out 0).trans rfl; have hcz23_1 : w22.cell? ⟨gb364, 1, none⟩ = some (.int .i64 a1_1) := (blk_cell BK364.out 1).trans rfl; have hfz23_0 := blk_frozen BK364.out 0; have hfz23_1 := blk_frozen BK364.out 1) | (go_at_call 17; (with_reducible refine (plane_Valid.calls a1_0 a1_1 false _ A5.out).mono ?_); rintro e w24 ⟨rfl, hb⟩; have n0_ := Aside0.mk (blk_below (g := gb363) (o := .cells #[.int .i64 a0_0, .int .i64 a0_1, .int .i64 a0_2, .int .i64 a0_3] 34 (0, 0)) (by (with_reducible repeat (first | refine blk_drewN ?_ _ | refine blk_drew ?_ | refine blk_alloc ?_ _)); exact BK363.out) hb); have n1_ := Aside0.mk (blk_below (g := gb364) (o := .cells #[.int .i64 a1_0, .int .i64 a1_1] 23 (0, 0)) (by (with_reducible repeat (first | refine blk_drewN ?_ _ | refine blk_drew ?_ | refine blk_alloc ?_ _)); exact BK364.out) hb); have n2_ := Aside0.mk (below_step (by repeat (first | (with_reducible first | exact HB.out | apply below_alloc | apply pw_below_drewN | apply below_drew1 | refine below_set ?_ GE363.out | refine below_set ?_ GE364.out) | exact HB.out)) hb); clear BK363; clear BK364; clear HB; have BK363 := n0_; have BK364 := n1_; have HB := n2_; clear n0_ n1_ n2_; (try clear hb); (try clear hb2); (try clear hk); (try clear hi)))
      go_ret
      exact ⟨by first | rfl | (simp [errW_none, errW_some] <;> rfl) | (simp [*, errW_none, errW_some] <;> rfl), by repeat (first | (with_reducible first | exact HB.out | apply below_alloc | apply pw_below_drewN | apply below_drew1 | refine below_set ?_ GE363.out | refine below_set ?_ GE364.out) | exact HB.out)⟩
  · replace c4 := Bool.eq_false_iff.mpr c4
    subst c4
    have H1 : (some false) = some r := by rw [if_neg (show ¬ (false = true) by decide)] at H; exact H
    clear H
    have H := H1
    clear H1
    obtain rfl := Option.some.inj H
    go_enter Try.func26, Try.ntmps26
    go_wp2_with (first | ((with_reducible refine gate_dst (N := 2) rfl ?_); refine box_event ?hg (N := 2) ?hd (cs := #[.int .i64 a0_0, .int .i64 a0_1, .int .i64 a0_2, .int .i64 a0_3]) (t := 34) ?hr ?_; (case hd => rfl); (case hg => rfl); (case hr => first | (go_simp; done) | (go_simp; rfl)); intro gb363 hg w25 hbox hb; have n0_ := Aside0.mk (below_step (by repeat (first | (with_reducible first | exact HB.out | apply below_alloc | apply pw_below_drewN | apply below_drew1) | exact HB.out)) hb); have n1_ := Aside0.mk (hbox); have n2_ := Aside0.mk ((by rw [hg]; exact (below_size (by repeat (first | (with_reducible first | exact HB.out | apply below_alloc | apply pw_below_drewN | apply below_drew1) | exact HB.out))) : w.heap.size ≤ gb363)); have n3_ := Aside0.mk ((by rw [hg]; exact (below_size (by repeat (first | (with_reducible first | exact HB.out | apply below_alloc | apply pw_below_drewN | apply below_drew1) | exact HB.out))) : w.heap.size ≤ gb363)); clear HB; have HB := n0_; have BK363 := n1_; have GW363 := n2_; have GE363 := n3_; clear n0_ n1_ n2_ n3_; clear hb hbox hg) | ((with_reducible refine gate_dst (N := 3) rfl ?_); refine box_event ?hg (N := 3) ?hd (cs := #[.int .i64 a1_0, .int .i64 a1_1]) (t := 23) ?hr ?_; (case hd => rfl); (case hg => rfl); (case hr => first | (go_simp; done) | (go_simp; rfl)); intro gb364 hg w26 hbox hb; have n0_ := Aside0.mk (blk_below (g := gb363) (o := .cells #[.int .i64 a0_0, .int .i64 a0_1, .int .i64 a0_2, .int .i64 a0_3] 34 (0, 0)) (by (with_reducible repeat (first | refine blk_drewN ?_ _ | refine blk_drew ?_ | refine blk_alloc ?_ _)); exact BK363.out) hb); have n1_ := Aside0.mk (below_step (by repeat (first | (with_reducible first | exact HB.out | apply below_alloc | apply pw_below_drewN | apply below_drew1 | refine below_set ?_ GE363.out) | exact HB.out)) hb); have n2_ := Aside0.mk (hbox); have n3_ := Aside0.mk ((by rw [hg]; exact (below_size (by repeat (first | (with_reducible first | exact HB.out | apply below_alloc | apply pw_below_drewN | apply below_drew1 | refine below_set ?_ GE363.out) | exact HB.out))) : w.heap.size ≤ gb364)); have n4_ := Aside0.mk ((by rw [hg]; exact (below_size (by repeat (first | (with_reducible first | exact HB.out | apply below_alloc | apply pw_below_drewN | apply below_drew1 | refine below_set ?_ GE363.out) | exact HB.out))) : w.heap.size ≤ gb364)); have n5_ := Aside0.mk ((by rw [hg]; exact Nat.ne_of_lt (blk_lt (g := gb363) (o := .cells #[.int .i64 a0_0, .int .i64 a0_1, .int .i64 a0_2, .int .i64 a0_3] 34 (0, 0)) (by (with_reducible repeat (first | refine blk_drewN ?_ _ | refine blk_drew ?_ | refine blk_alloc ?_ _)); exact BK363.out)) : gb363 ≠ gb364)); have n6_ := Aside0.mk ((by rw [hg]; exact Nat.ne_of_gt (blk_lt (g := gb363) (o := .cells #[.int .i64 a0_0, .int .i64 a0_1, .int .i64 a0_2, .int .i64 a0_3] 34 (0, 0)) (by (with_reducible repeat (first | refine blk_drewN ?_ _ | refine blk_drew ?_ | refine blk_alloc ?_ _)); exact BK363.out)) : gb364 ≠ gb363)); clear BK363; clear HB; have BK363 := n0_; have HB := n1_; have BK364 := n2_; have GW364 := n3_; have GE364 := n4_; have NB363_364 := n5_; have NB364_363 := n6_; clear n0_ n1_ n2_ n3_ n4_ n5_ n6_; clear hb hbox hg; have hnb27 := NB363_364.out; have hnc27 := NB364_363.out; have hcz28_0 : w26.cell? ⟨gb363, 0, none⟩ = some (.int .i64 a0_0) := (blk_cell BK363.out 0).trans rfl; have hcz28_1 : w26.cell? ⟨gb363, 1, none⟩ = some (.int .i64 a0_1) := (blk_cell BK363.out 1).trans rfl; have hcz28_2 : w26.cell? ⟨gb363, 2, none⟩ = some (.int .i64 a0_2) := (blk_cell BK363.out 2).trans rfl; have hcz28_3 : w26.cell? ⟨gb363, 3, none⟩ = some (.int .i64 a0_3) := (blk_cell BK363.out 3).trans rfl; have hfz28_0 := blk_frozen BK363.out 0; have hfz28_1 := blk_frozen BK363.out 1; have hfz28_2 := blk_frozen BK363.out 2; have hfz28_3 := blk_frozen BK363.out 3) | ((with_reducible refine gate_callee (f := 87) rfl ?_); refine goesL_ (some 6) rfl rfl Try.func87 (by kernel_rfl) rfl #[.agg #[.int .i64 a0_0, .int .i64 a0_1, .int .i64 a0_2, .int .i64 a0_3]] rfl (by (try simp only [List.map_toArray, List.map_cons, List.map_nil]); first | done | rfl | (simp only [List.length_drop, List.length_take]; rfl)) ?_; (with_reducible refine (plane_proper.calls a0_0 a0_1 a0_2 a0_3 false _ A3.out).mono ?_); rintro e w29 ⟨rfl, hb⟩; refine ⟨_, rfl, ?_⟩; have n0_ := Aside0.mk (blk_below (g := gb363) (o := .cells #[.int .i64 a0_0, .int .i64 a0_1, .int .i64 a0_2, .int .i64 a0_3] 34 (0, 0)) (by (with_reducible repeat (first | refine blk_drewN ?_ _ | refine blk_drew ?_ | refine blk_alloc ?_ _)); exact BK363.out) hb); have n1_ := Aside0.mk (blk_below (g := gb364) (o := .cells #[.int .i64 a1_0, .int .i64 a1_1] 23 (0, 0)) (by (with_reducible repeat (first | refine blk_drewN ?_ _ | refine blk_drew ?_ | refine blk_alloc ?_ _)); exact BK364.out) hb); have n2_ := Aside0.mk (below_step (by repeat (first | (with_reducible first | exact HB.out | apply below_alloc | apply pw_below_drewN | apply below_drew1 | refine below_set ?_ GE363.out | refine below_set ?_ GE364.out) | exact HB.out)) hb); clear BK363; clear BK364; clear HB; have BK363 := n0_; have BK364 := n1_; have HB := n2_; clear n0_ n1_ n2_; (try clear hb); (try clear hb2); (try clear hk); (try clear hi)))
    go_ret
    exact ⟨by first | rfl | (simp [errW_none, errW_some] <;> rfl) | (simp [*, errW_none, errW_some] <;> rfl), by repeat (first | (with_reducible first | exact HB.out | apply below_alloc | apply pw_below_drewN | apply below_drew1 | refine below_set ?_ GE363.out | refine below_set ?_ GE364.out) | exact HB.out)⟩
end Go.Proofs.Ytckaejgamfllfaa.G
end

section
namespace Go.Proofs.Ytckaejgamfllfaa.G
open Go.RowKit Go.Proofs.YtckaejgamfllfaaW.PrintWords Go.Proofs.YtckaejgamfllfaaW.PrintLast Go.Proofs.YtckaejgamfllfaaW.PrintMore
attribute [local go_sem] max2_int min2_int max_two min_two max_three min_three max_four min_four
set_option linter.unusedVariables false
set_option linter.unusedSimpArgs false
attribute [local go_sem high] eqA23
end Go.Proofs.Ytckaejgamfllfaa.G
end

section
namespace Go.Proofs.Ytckaejgamfllfaa.G
open Go.RowKit Go.Proofs.YtckaejgamfllfaaW.PrintWords Go.Proofs.YtckaejgamfllfaaW.PrintLast Go.Proofs.YtckaejgamfllfaaW.PrintMore
attribute [local go_sem] max2_int min2_int max_two min_two max_three min_three max_four min_four
set_option linter.unusedVariables false
set_option linter.unusedSimpArgs false
end Go.Proofs.Ytckaejgamfllfaa.G
end

section
namespace Go.Proofs.Ytckaejgamfllfaa.G
open Go.RowKit Go.Proofs.YtckaejgamfllfaaW.PrintWords Go.Proofs.YtckaejgamfllfaaW.PrintLast Go.Proofs.YtckaejgamfllfaaW.PrintMore
attribute [local go_sem] max2_int min2_int max_two min_two max_three min_three max_four min_four
set_option linter.unusedVariables false
set_option linter.unusedSimpArgs false
end Go.Proofs.Ytckaejgamfllfaa.G
end

section
namespace Go.Proofs.Ytckaejgamfllfaa.G
open Go.RowKit Go.Proofs.YtckaejgamfllfaaW.PrintWords Go.Proofs.YtckaejgamfllfaaW.PrintLast Go.Proofs.YtckaejgamfllfaaW.PrintMore
attribute [local go_sem] max2_int min2_int max_two min_two max_three min_three max_four min_four
set_option linter.unusedVariables false
set_option linter.unusedSimpArgs false
end Go.Proofs.Ytckaejgamfllfaa.G
end

section
namespace Go.Proofs.Ytckaejgamfllfaa.G
open Go.RowKit Go.Proofs.YtckaejgamfllfaaW.PrintWords Go.Proofs.YtckaejgamfllfaaW.PrintLast Go.Proofs.YtckaejgamfllfaaW.PrintMore
attribute [local go_sem] max2_int min2_int max_two min_two max_three min_three max_four min_four
set_option linter.unusedVariables false
set_option linter.unusedSimpArgs false
attribute [local go_sem high] eqA23
end Go.Proofs.Ytckaejgamfllfaa.G
end

section
namespace Go.Proofs.Ytckaejgamfllfaa.G
set_option linter.unusedSimpArgs false
open Go.RowKit Go.Proofs.YtckaejgamfllfaaW.PrintWords Go.Proofs.YtckaejgamfllfaaW.PrintLast Go.Proofs.YtckaejgamfllfaaW.PrintMore
theorem cross0 {wx wy ux uy vx vy : Int} (hw : wx ≠ 0 ∨ wy ≠ 0) (hu : ux * wy = uy * wx) (hv : vx * wy = vy * wx) : ux * vy = uy * vx := by
  rcases hw with h | h
  · have : wx * (ux * vy - uy * vx) = 0 := by grind
    rcases Int.mul_eq_zero.1 this with h' | h'
    · exact absurd h' h
    · omega
  · have : wy * (ux * vy - uy * vx) = 0 := by grind
    rcases Int.mul_eq_zero.1 this with h' | h'
    · exact absurd h' h
    · omega
theorem ne_iff (P Q : S23) : P ≠ Q ↔ Q.f0 - P.f0 ≠ 0 ∨ Q.f1 - P.f1 ≠ 0 := by
  cases P; cases Q
  simp only [ne_eq, S23.mk.injEq]
  omega
theorem two_points {a b c d P Q : S23} (hPQ : P ≠ Q) (hcd : c ≠ d) (h1 : twZ a b P = 0) (h2 : twZ a b Q = 0) (h3 : twZ c d P = 0) (h4 : twZ c d Q = 0) :
    twZ a b c = 0 ∧ twZ a b d = 0 := by
  rw [ne_iff] at hPQ hcd
  unfold twZ at *
  have uv : (b.f0 - a.f0) * (d.f1 - c.f1) = (b.f1 - a.f1) * (d.f0 - c.f0) := cross0 hPQ (by grind) (by grind)
  have uz : (b.f0 - a.f0) * (c.f1 - P.f1) = (b.f1 - a.f1) * (c.f0 - P.f0) := cross0 hcd uv (by grind)
  constructor <;> grind
theorem mn_l (a b : Int) : mn a b ≤ a := by unfold mn; split <;> omega
theorem mn_r (a b : Int) : mn a b ≤ b := by unfold mn; split <;> omega
theorem mx_l (a b : Int) : a ≤ mx a b := by unfold mx; split <;> omega
theorem mx_r (a b : Int) : b ≤ mx a b := by unfold mx; split <;> omega
theorem onP_self1 (a b : S23) : onP a b a = true := by
  unfold onP btwP
  have : twW a b a = 0 := by
    unfold twW
    rw [Int.sub_self, Int.sub_self, wrap_small (x := 0) (by decide) (by decide), Int.mul_zero, Int.mul_zero, wrap_small (x := 0) (by decide) (by decide), Int.sub_self, wrap_small (by decide) (by decide)]
  rw [this]
  simp only [Bool.and_eq_true, decide_eq_true_eq]
  simp [mn_l, mn_r, mx_l, mx_r]
theorem onP_self2 (a b : S23) : onP a b b = true := by
  unfold onP btwP
  have : twW a b b = 0 := by
    unfold twW
    rw [Int.mul_comm, Int.sub_self, wrap_small (x := 0) (by decide) (by decide)]
  rw [this]
  simp only [Bool.and_eq_true, decide_eq_true_eq]
  simp [mn_l, mn_r, mx_l, mx_r]
def endsP (a b c d : S23) : List S23 := [a, b].filter (onP c d) ++ [c, d].filter (onP a b)
def signsP (a b c d : S23) : Int := if sgn (twW a b c) * sgn (twW a b d) < 0 ∧ sgn (twW c d a) * sgn (twW c d b) < 0 then 2 else 0
def restP (a b c d : S23) : List S23 → Int
  | [] => signsP a b c d
  | e :: r => if r.any (fun p => !eqP p e) then 3 else 1
def refMeetP (a b c d : S23) : Int := if propP a b && propP c d then restP a b c d (endsP a b c d) else 0
theorem common_one (a b c d e : S23) : ∀ (l : List S23), (commonP a b c d [e] l).length = 1 ∧ (l.filter (fun p => onP a b p && onP c d p)).any (fun p => !eqP p e) = false ∨
    2 ≤ (commonP a b c d [e] l).length ∧ (l.filter (fun p => onP a b p && onP c d p)).any (fun p => !eqP p e) = true
  | [] => by simp [commonP]
  | p :: ps => by
    unfold commonP
    have ih := common_one a b c d e ps
    cases hB : onP a b p && onP c d p with
    | false => simp only [hB, Bool.false_and, Bool.false_eq_true, if_false, List.filter_cons]; exact ih
    | true =>
      simp only [Bool.true_and, List.any_cons, List.any_nil, Bool.or_false, List.filter_cons, hB, if_true]
      cases hq : eqP p e with
      | true => simp only [Bool.not_true, Bool.false_eq_true, if_false, Bool.false_or]; exact ih
      | false =>
        right
        have := (commonP_length a b c d ps ([e] ++ [p])).1
        simp at this ⊢
        exact this
theorem along_filter (a b c d : S23) : ∀ (l : List S23), l.length ≤ 4 → rd [0, 1, 3, 3, 3] ((commonP a b c d [] l).length : Int) =
    match l.filter (fun p => onP a b p && onP c d p) with
    | [] => 0
    | e :: r => if r.any (fun p => !eqP p e) then 3 else 1
  | [], _ => by simp [commonP]; rfl
  | p :: ps, h => by
    unfold commonP
    cases hB : onP a b p && onP c d p with
    | false =>
      simp only [hB, Bool.false_and, Bool.false_eq_true, if_false, List.filter_cons]
      exact along_filter a b c d ps (by simp at h; omega)
    | true =>
      simp only [Bool.true_and, List.any_nil, Bool.not_false, if_true, List.filter_cons, hB, List.nil_append]
      have hl := (commonP_length a b c d ps [p]).2
      rcases common_one a b c d p ps with ⟨h1, h2⟩ | ⟨h1, h2⟩
      · rw [h1, h2]; rfl
      · rw [h2]
        simp at h hl
        generalize (commonP a b c d [p] ps).length = n at *
        have : n = 2 ∨ n = 3 ∨ n = 4 := by omega
        rcases this with rfl | rfl | rfl <;> rfl
theorem ends_eq (a b c d : S23) : [a, b, c, d].filter (fun p => onP a b p && onP c d p) = endsP a b c d := by
  unfold endsP
  simp only [List.filter_cons, List.filter_nil, onP_self1, onP_self2, Bool.true_and, Bool.and_true]
  cases onP c d a <;> cases onP c d b <;> cases onP a b c <;> cases onP a b d <;> rfl
theorem ends_both {a b c d p : S23} (h : p ∈ endsP a b c d) : p ∈ [a, b, c, d] ∧ onP a b p = true ∧ onP c d p = true := by
  rw [← ends_eq] at h
  obtain ⟨h1, h2⟩ := List.mem_filter.1 h
  simpa [h1] using h2
theorem onP_tw {a b p : S23} (ha : validP a = true) (hb : validP b = true) (hp : validP p = true) (h : onP a b p = true) : twZ a b p = 0 := by
  unfold onP at h
  rw [twW_eq ha hb hp] at h
  simp only [Bool.and_eq_true, decide_eq_true_eq] at h
  exact h.1
theorem propP_iff (a b : S23) : propP a b = true ↔ validP a = true ∧ validP b = true ∧ a ≠ b := by
  unfold propP
  simp only [Bool.and_eq_true, Bool.not_eq_true', eqP_false, and_assoc]
theorem refMeet_eq (a b c d : S23) : refMeetP a b c d = meetP a b c d := by
  unfold refMeetP meetP
  by_cases hp : (propP a b && propP c d) = true
  · rw [if_pos hp, if_pos hp]
    simp only [Bool.and_eq_true, propP_iff] at hp
    obtain ⟨⟨ha, hb, hab⟩, hc, hd, hcd⟩ := hp
    by_cases hz : sgn (twW a b c) = 0 ∧ sgn (twW a b d) = 0
    · rw [if_pos hz]
      unfold alongP
      rw [along_filter a b c d _ (by simp), ends_eq]
      cases endsP a b c d with
      | nil => simp only [restP]; unfold signsP; rw [hz.1]; simp
      | cons e r => rfl
    · rw [if_neg hz]
      have vm : ∀ p, p ∈ [a, b, c, d] → validP p = true := by
        intro p hp
        simp at hp
        rcases hp with rfl | rfl | rfl | rfl <;> assumption
      have hE : ∀ p q, p ∈ endsP a b c d → q ∈ endsP a b c d → eqP q p = true := by
        intro p q h1 h2
        obtain ⟨m1, o1, o2⟩ := ends_both h1
        obtain ⟨m2, o3, o4⟩ := ends_both h2
        by_cases hne : q = p
        · rw [eqP_iff]; exact hne
        · exfalso
          have := two_points (fun h => hne h.symm) hcd (onP_tw ha hb (vm _ m1) o1) (onP_tw ha hb (vm _ m2) o3) (onP_tw hc hd (vm _ m1) o2) (onP_tw hc hd (vm _ m2) o4)
          apply hz
          rw [twW_eq ha hb hc, twW_eq ha hb hd, this.1, this.2]
          exact ⟨rfl, rfl⟩
      have hany : (onP a b c || onP a b d || onP c d a || onP c d b) = !(endsP a b c d).isEmpty := by
        unfold endsP
        simp only [List.filter_cons, List.filter_nil]
        cases onP c d a <;> cases onP c d b <;> cases onP a b c <;> cases onP a b d <;> rfl
      rw [hany]
      have hcross : sgn (twW a b c) * sgn (twW a b d) < 0 ∧ sgn (twW c d a) * sgn (twW c d b) < 0 → endsP a b c d = [] := by
        rintro ⟨x1, x2⟩
        have k : ∀ p, p ∈ endsP a b c d → False := by
          intro p hp
          obtain ⟨m, o1, o2⟩ := ends_both hp
          have t1 := onP_tw ha hb (vm _ m) o1
          have t2 := onP_tw hc hd (vm _ m) o2
          rw [twW_eq ha hb hc, twW_eq ha hb hd] at x1
          rw [twW_eq hc hd ha, twW_eq hc hd hb] at x2
          simp at m
          rcases m with rfl | rfl | rfl | rfl
          · rw [t2] at x2; simp [sgn] at x2
          · rw [t2] at x2; simp [sgn] at x2
          · rw [t1] at x1; simp [sgn] at x1
          · rw [t1] at x1; simp [sgn] at x1
        exact List.eq_nil_iff_forall_not_mem.2 k
      cases hl : endsP a b c d with
      | nil => simp only [restP, signsP, List.isEmpty_nil, Bool.not_true, Bool.false_eq_true, if_false]
      | cons e r =>
        have : ¬ (sgn (twW a b c) * sgn (twW a b d) < 0 ∧ sgn (twW c d a) * sgn (twW c d b) < 0) := fun h => by rw [hcross h] at hl; cases hl
        rw [if_neg this]
        simp only [restP, List.isEmpty_cons, Bool.not_false, if_true]
        rw [if_neg]
        intro hx
        obtain ⟨p, hp, hpe⟩ := List.any_eq_true.1 hx
        rw [hE e p (by rw [hl]; simp) (by rw [hl]; simp [hp])] at hpe
        simp at hpe
  · rw [if_neg hp, if_neg hp]
def OnP (a b p : S23) : Bool := propP a b && validP p && onP a b p
theorem plane_On_eq (a b p : S23) : plane_On.f a.f0 a.f1 b.f0 b.f1 p.f0 p.f1 = some (OnP a b p) := by
  unfold plane_On.f OnP
  rw [plane_proper_eq a b, plane_Valid_eq, plane_on_eq a b p]
  simp only [Option.bind_some]
  cases propP a b <;> cases hv : validP ⟨p.f0, p.f1⟩ <;> simp only [show (⟨p.f0, p.f1⟩ : S23) = p from rfl] at hv <;> simp [hv]
end Go.Proofs.Ytckaejgamfllfaa.G
end

section
namespace Go.Proofs.Ytckaejgamfllfaa.G
open Go.RowKit Go.Proofs.YtckaejgamfllfaaW.PrintWords Go.Proofs.YtckaejgamfllfaaW.PrintLast Go.Proofs.YtckaejgamfllfaaW.PrintMore
attribute [local go_sem] max2_int min2_int max_two min_two max_three min_three max_four min_four
set_option linter.unusedVariables false
set_option linter.unusedSimpArgs false
mutual
def boundstonelaw02_PlaneSegmentsFair.j0 : Nat → Int → Bool → Int → Int → Int → Int → Int → Int → Int → Int → Option (Bool)
  | 0, _, _, _, _, _, _, _, _, _, _ => none
  | k + 1, x5, x28, x430000, x430001, x430002, x430003, x431000, x431001, x431002, x431003 => if x28 = true then (none) else (if x5 = 0 then (boundstonelaw02_PlaneSegmentsFair.j1 k x5 false x430000 x430001 x430002 x430003 x431000 x431001 x431002 x431003) else ((plane_Turn.f x430000 x430001 x430002 x430003 x431000 x431001).bind fun t435 => ((plane_Turn.f x430000 x430001 x430002 x430003 x431002 x431003).bind fun t436 => (if (wrap64 (t435 * t436)) > 0 then (none) else ((plane_Turn.f x431000 x431001 x431002 x431003 x430000 x430001).bind fun t437 => ((plane_Turn.f x431000 x431001 x431002 x431003 x430002 x430003).bind fun t438 => (boundstonelaw02_PlaneSegmentsFair.j1 k x5 (decide ((wrap64 (t437 * t438)) > 0)) x430000 x430001 x430002 x430003 x431000 x431001 x431002 x431003)))))))
def boundstonelaw02_PlaneSegmentsFair.j1 : Nat → Int → Bool → Int → Int → Int → Int → Int → Int → Int → Int → Option (Bool)
  | 0, _, _, _, _, _, _, _, _, _, _ => none
  | k + 1, x5, x66, x430000, x430001, x430002, x430003, x431000, x431001, x431002, x431003 => if x66 = true then (none) else ((plane_On.f x430000 x430001 x430002 x430003 x430000 x430001).bind fun t439 => (if t439 = true then ((plane_On.f x431000 x431001 x431002 x431003 x431000 x431001).bind fun t440 => (boundstonelaw02_PlaneSegmentsFair.j2 k x5 t440 x430000 x430001 x430002 x430003 x431000 x431001 x431002 x431003)) else (boundstonelaw02_PlaneSegmentsFair.j2 k x5 false x430000 x430001 x430002 x430003 x431000 x431001 x431002 x431003)))
def boundstonelaw02_PlaneSegmentsFair.j2 : Nat → Int → Bool → Int → Int → Int → Int → Int → Int → Int → Int → Option (Bool)
  | 0, _, _, _, _, _, _, _, _, _, _ => none
  | k + 1, x5, x7, x430000, x430001, x430002, x430003, x431000, x431001, x431002, x431003 => (plane_On.f x430000 x430001 x430002 x430003 x431000 x431001).bind fun t441 => (if t441 = true then (boundstonelaw02_PlaneSegmentsFair.j3 k x5 x7 true) else ((plane_On.f x430000 x430001 x430002 x430003 x431002 x431003).bind fun t442 => (if t442 = true then (boundstonelaw02_PlaneSegmentsFair.j3 k x5 x7 true) else ((plane_On.f x431000 x431001 x431002 x431003 x430000 x430001).bind fun t443 => (if t443 = true then (boundstonelaw02_PlaneSegmentsFair.j3 k x5 x7 true) else ((plane_On.f x431000 x431001 x431002 x431003 x430002 x430003).bind fun t444 => (boundstonelaw02_PlaneSegmentsFair.j3 k x5 x7 t444)))))))
def boundstonelaw02_PlaneSegmentsFair.j3 : Nat → Int → Bool → Bool → Option (Bool)
  | 0, _, _, _ => none
  | k + 1, x5, x7, x8 => if x7 = true then (if x5 = 1 then (boundstonelaw02_PlaneSegmentsFair.j4 k x5 x7 (x8 != true)) else (boundstonelaw02_PlaneSegmentsFair.j4 k x5 x7 (x8 != (x5 == 3)))) else (boundstonelaw02_PlaneSegmentsFair.j4 k x5 x7 false)
def boundstonelaw02_PlaneSegmentsFair.j4 : Nat → Int → Bool → Bool → Option (Bool)
  | 0, _, _, _ => none
  | k + 1, x5, x7, x109 => if x109 = true then (none) else ((boundstonelaw02_sanity.f k).bind fun t445 => (if t445 = true then (if x7 = true then (some true) else (some (x5 == 0))) else (none)))
end
def boundstonelaw02_PlaneSegmentsFair.f (k : Nat) (a0_0 : Int) (a0_1 : Int) (a0_2 : Int) (a0_3 : Int) (a1_0 : Int) (a1_1 : Int) (a1_2 : Int) (a1_3 : Int) : Option (Bool) := (plane_Meeting.f k a0_0 a0_1 a0_2 a0_3 a1_0 a1_1 a1_2 a1_3).bind fun t431 => ((plane_Meeting.f k a1_0 a1_1 a1_2 a1_3 a0_0 a0_1 a0_2 a0_3).bind fun t433 => (if t431 = t433 then ((plane_Meeting.f k a0_2 a0_3 a0_0 a0_1 a1_0 a1_1 a1_2 a1_3).bind fun t434 => (boundstonelaw02_PlaneSegmentsFair.j0 k t431 (t431 != t434) a0_0 a0_1 a0_2 a0_3 a1_0 a1_1 a1_2 a1_3)) else (none)))
def boundstonelaw02_PlaneSegmentsFair.T5 : Bool × List (List Nat × List Nat) := (true, [([], []), ([0], [0]), ([1], [1]), ([2], [2]), ([3, 2], [2, 3]), ([2], [2]), ([5, 2], [2, 5]), ([2], [2]), ([7, 2], [2, 7]), ([4, 6, 8, 2, 2], [2, 4, 6, 8]), ([2], [2]), ([10, 2], [2, 10]), ([2], [2]), ([12, 2], [2, 12]), ([2], [2]), ([14, 2], [2, 14]), ([11, 13, 15, 9, 2], [2, 11, 13, 15]), ([9, 16, 2], [2, 9, 16]), ([17, 2], [2, 17]), ([18, 16, 2], [2, 18]), ([19], [19]), ([20, 19], [19, 20]), ([19], [19]), ([22, 19], [19, 22]), ([19], [19]), ([24, 19], [19, 24]), ([21, 23, 25, 19, 19], [19, 21, 23, 25]), ([19], [19]), ([27, 19], [19, 27]), ([19], [19]), ([29, 19], [19, 29]), ([19], [19]), ([31, 19], [19, 31]), ([28, 30, 32, 26, 19], [19, 28, 30, 32]), ([26, 33, 19], [19, 26, 33]), ([34, 19], [19, 34]), ([19, 35, 2], [2, 19, 35]), ([2, 36], [2, 36])])
def boundstonelaw02_PlaneSegmentsFair.B5 : List Nat := [0, 1, 3, 7, 15, 7, 39, 7, 135, 511, 7, 1031, 7, 4103, 7, 16391, 65535, 131071, 262143, 524287, 1048575, 2097151, 1048575, 5242879, 1048575, 17825791, 67108863, 1048575, 135266303, 1048575, 537919487, 1048575, 2148532223, 8589934591, 17179869183, 34359738367, 68719476735, 137438953471]
theorem boundstonelaw02_PlaneSegmentsFair.tab5 : rtab .any (opsOf Try.f6 5) = boundstonelaw02_PlaneSegmentsFair.T5 := by kernel_rfl
theorem boundstonelaw02_PlaneSegmentsFair.bits5 : waitsOk boundstonelaw02_PlaneSegmentsFair.T5.2 boundstonelaw02_PlaneSegmentsFair.B5 = true := by kernel_rfl
set_option maxHeartbeats 8000000 in
set_option maxRecDepth 100000 in
theorem boundstonelaw02_PlaneSegmentsFair.calls (k : Nat) (a0_0 : Int) (a0_1 : Int) (a0_2 : Int) (a0_3 : Int) (a1_0 : Int) (a1_1 : Int) (a1_2 : Int) (a1_3 : Int) (r : Bool) (w : World) (h : boundstonelaw02_PlaneSegmentsFair.f k a0_0 a0_1 a0_2 a0_3 a1_0 a1_1 a1_2 a1_3 = some r) :
    Calls Try.prog 6 #[.agg #[.int .i64 a0_0, .int .i64 a0_1, .int .i64 a0_2, .int .i64 a0_3], .agg #[.int .i64 a1_0, .int .i64 a1_1, .int .i64 a1_2, .int .i64 a1_3]] w fun e w' => e = .returned (.bool r) ∧ Below w.heap.size w w' := by
  have hu34 := Try.underlying34
  have hu23 := Try.underlying23
  have HB := Aside0.mk (Below.refl w.heap.size w)
  have H : ((plane_Meeting.f k a0_0 a0_1 a0_2 a0_3 a1_0 a1_1 a1_2 a1_3).bind fun t431 => ((plane_Meeting.f k a1_0 a1_1 a1_2 a1_3 a0_0 a0_1 a0_2 a0_3).bind fun t433 => (if t431 = t433 then ((plane_Meeting.f k a0_2 a0_3 a0_0 a0_1 a1_0 a1_1 a1_2 a1_3).bind fun t434 => (boundstonelaw02_PlaneSegmentsFair.j0 k t431 (t431 != t434) a0_0 a0_1 a0_2 a0_3 a1_0 a1_1 a1_2 a1_3)) else (none)))) = some r := h
  clear h
  replace H := Option.bind_eq_some_iff.mp H
  obtain ⟨t431, A30, H⟩ := H
  replace H : ((plane_Meeting.f k a1_0 a1_1 a1_2 a1_3 a0_0 a0_1 a0_2 a0_3).bind fun t433 => (if t431 = t433 then ((plane_Meeting.f k a0_2 a0_3 a0_0 a0_1 a1_0 a1_1 a1_2 a1_3).bind fun t434 => (boundstonelaw02_PlaneSegmentsFair.j0 k t431 (t431 != t434) a0_0 a0_1 a0_2 a0_3 a1_0 a1_1 a1_2 a1_3)) else (none))) = some r := H
  have A3 := Aside0.mk A30
  clear A30
  have HC4 := Aside0.mk H
  clear H
  go_enter Try.func6, Try.ntmps6
  go_upto_region 3 with (first | ((with_reducible refine gate_dst (N := 2) rfl ?_); refine box_event ?hg (N := 2) ?hd (cs := #[.int .i64 a0_0, .int .i64 a0_1, .int .i64 a0_2, .int .i64 a0_3]) (t := 34) ?hr ?_; (case hd => rfl); (case hg => rfl); (case hr => first | (go_simp; done) | (go_simp; rfl)); intro gb429 hg w5 hbox hb; have n0_ := Aside0.mk (below_step (by repeat (first | (with_reducible first | exact HB.out | apply below_alloc | apply pw_below_drewN | apply below_drew1) | exact HB.out)) hb); have n1_ := Aside0.mk (hbox); have n2_ := Aside0.mk ((by rw [hg]; exact (below_size (by repeat (first | (with_reducible first | exact HB.out | apply below_alloc | apply pw_below_drewN | apply below_drew1) | exact HB.out))) : w.heap.size ≤ gb429)); have n3_ := Aside0.mk ((by rw [hg]; exact (below_size (by repeat (first | (with_reducible first | exact HB.out | apply below_alloc | apply pw_below_drewN | apply below_drew1) | exact HB.out))) : w.heap.size ≤ gb429)); clear HB; have HB := n0_; have BK429 := n1_; have GW429 := n2_; have GE429 := n3_; clear n0_ n1_ n2_ n3_; clear hb hbox hg) | ((with_reducible refine gate_dst (N := 3) rfl ?_); refine box_event ?hg (N := 3) ?hd (cs := #[.int .i64 a1_0, .int .i64 a1_1, .int .i64 a1_2, .int .i64 a1_3]) (t := 34) ?hr ?_; (case hd => rfl); (case hg => rfl); (case hr => first | (go_simp; done) | (go_simp; rfl)); intro gb430 hg w6 hbox hb; have n0_ := Aside0.mk (blk_below (g := gb429) (o := .cells #[.int .i64 a0_0, .int .i64 a0_1, .int .i64 a0_2, .int .i64 a0_3] 34 (0, 0)) (by (with_reducible repeat (first | refine blk_drewN ?_ _ | refine blk_drew ?_ | refine blk_alloc ?_ _)); exact BK429.out) hb); have n1_ := Aside0.mk (below_step (by repeat (first | (with_reducible first | exact HB.out | apply below_alloc | apply pw_below_drewN | apply below_drew1 | refine below_set ?_ GE429.out) | exact HB.out)) hb); have n2_ := Aside0.mk (hbox); have n3_ := Aside0.mk ((by rw [hg]; exact (below_size (by repeat (first | (with_reducible first | exact HB.out | apply below_alloc | apply pw_below_drewN | apply below_drew1 | refine below_set ?_ GE429.out) | exact HB.out))) : w.heap.size ≤ gb430)); have n4_ := Aside0.mk ((by rw [hg]; exact (below_size (by repeat (first | (with_reducible first | exact HB.out | apply below_alloc | apply pw_below_drewN | apply below_drew1 | refine below_set ?_ GE429.out) | exact HB.out))) : w.heap.size ≤ gb430)); have n5_ := Aside0.mk ((by rw [hg]; exact Nat.ne_of_lt (blk_lt (g := gb429) (o := .cells #[.int .i64 a0_0, .int .i64 a0_1, .int .i64 a0_2, .int .i64 a0_3] 34 (0, 0)) (by (with_reducible repeat (first | refine blk_drewN ?_ _ | refine blk_drew ?_ | refine blk_alloc ?_ _)); exact BK429.out)) : gb429 ≠ gb430)); have n6_ := Aside0.mk ((by rw [hg]; exact Nat.ne_of_gt (blk_lt (g := gb429) (o := .cells #[.int .i64 a0_0, .int .i64 a0_1, .int .i64 a0_2, .int .i64 a0_3] 34 (0, 0)) (by (with_reducible repeat (first | refine blk_drewN ?_ _ | refine blk_drew ?_ | refine blk_alloc ?_ _)); exact BK429.out)) : gb430 ≠ gb429)); clear BK429; clear HB; have BK429 := n0_; have HB := n1_; have BK430 := n2_; have GW430 := n3_; have GE430 := n4_; have NB429_430 := n5_; have NB430_429 := n6_; clear n0_ n1_ n2_ n3_ n4_ n5_ n6_; clear hb hbox hg; have hnb7 := NB429_430.out; have hnc7 := NB430_429.out; have hcz8_0 : w6.cell? ⟨gb429, 0, none⟩ = some (.int .i64 a0_0) := (blk_cell BK429.out 0).trans rfl; have hcz8_1 : w6.cell? ⟨gb429, 1, none⟩ = some (.int .i64 a0_1) := (blk_cell BK429.out 1).trans rfl; have hcz8_2 : w6.cell? ⟨gb429, 2, none⟩ = some (.int .i64 a0_2) := (blk_cell BK429.out 2).trans rfl; have hcz8_3 : w6.cell? ⟨gb429, 3, none⟩ = some (.int .i64 a0_3) := (blk_cell BK429.out 3).trans rfl; have hfz8_0 := blk_frozen BK429.out 0; have hfz8_1 := blk_frozen BK429.out 1; have hfz8_2 := blk_frozen BK429.out 2; have hfz8_3 := blk_frozen BK429.out 3; have hcz9_0 : w6.cell? ⟨gb430, 0, none⟩ = some (.int .i64 a1_0) := (blk_cell BK430.out 0).trans rfl; have hcz9_1 : w6.cell? ⟨gb430, 1, none⟩ = some (.int .i64 a1_1) := (blk_cell BK430.out 1).trans rfl; have hcz9_2 : w6.cell? ⟨gb430, 2, none⟩ = some (.int .i64 a1_2) := (blk_cell BK430.out 2).trans rfl; have hcz9_3 : w6.cell? ⟨gb430, 3, none⟩ = some (.int .i64 a1_3) := (blk_cell BK430.out 3).trans rfl; have hfz9_0 := blk_frozen BK430.out 0; have hfz9_1 := blk_frozen BK430.out 1; have hfz9_2 := blk_frozen BK430.out 2; have hfz9_3 := blk_frozen BK430.out 3) | ((with_reducible refine gate_callee (f := 28) rfl ?_); refine goesL_ (some 11) rfl rfl Try.func28 (by kernel_rfl) rfl #[.agg #[.int .i64 a0_0, .int .i64 a0_1, .int .i64 a0_2, .int .i64 a0_3], .agg #[.int .i64 a1_0, .int .i64 a1_1, .int .i64 a1_2, .int .i64 a1_3]] rfl (by (try simp only [List.map_toArray, List.map_cons, List.map_nil]); first | done | rfl | (simp only [List.length_drop, List.length_take]; rfl)) ?_; (with_reducible refine (plane_Meeting.calls k a0_0 a0_1 a0_2 a0_3 a1_0 a1_1 a1_2 a1_3 t431 _ A3.out).mono ?_); rintro e w10 ⟨rfl, hb⟩; refine ⟨_, rfl, ?_⟩; have n0_ := Aside0.mk (blk_below (g := gb429) (o := .cells #[.int .i64 a0_0, .int .i64 a0_1, .int .i64 a0_2, .int .i64 a0_3] 34 (0, 0)) (by (with_reducible repeat (first | refine blk_drewN ?_ _ | refine blk_drew ?_ | refine blk_alloc ?_ _)); exact BK429.out) hb); have n1_ := Aside0.mk (blk_below (g := gb430) (o := .cells #[.int .i64 a1_0, .int .i64 a1_1, .int .i64 a1_2, .int .i64 a1_3] 34 (0, 0)) (by (with_reducible repeat (first | refine blk_drewN ?_ _ | refine blk_drew ?_ | refine blk_alloc ?_ _)); exact BK430.out) hb); have n2_ := Aside0.mk (below_step (by repeat (first | (with_reducible first | exact HB.out | apply below_alloc | apply pw_below_drewN | apply below_drew1 | refine below_set ?_ GE429.out | refine below_set ?_ GE430.out) | exact HB.out)) hb); clear BK429; clear BK430; clear HB; have BK429 := n0_; have BK430 := n1_; have HB := n2_; clear n0_ n1_ n2_; (try clear hb); (try clear hb2); (try clear hk); (try clear hi); have hcz11_0 : w10.cell? ⟨gb429, 0, none⟩ = some (.int .i64 a0_0) := (blk_cell BK429.out 0).trans rfl; have hcz11_1 : w10.cell? ⟨gb429, 1, none⟩ = some (.int .i64 a0_1) := (blk_cell BK429.out 1).trans rfl; have hcz11_2 : w10.cell? ⟨gb429, 2, none⟩ = some (.int .i64 a0_2) := (blk_cell BK429.out 2).trans rfl; have hcz11_3 : w10.cell? ⟨gb429, 3, none⟩ = some (.int .i64 a0_3) := (blk_cell BK429.out 3).trans rfl; have hfz11_0 := blk_frozen BK429.out 0; have hfz11_1 := blk_frozen BK429.out 1; have hfz11_2 := blk_frozen BK429.out 2; have hfz11_3 := blk_frozen BK429.out 3) | ((with_reducible refine gate_dst (N := 6) rfl ?_); refine box_event ?hg (N := 6) ?hd (cs := #[.int .i64 0, .int .i64 0, .int .i64 0, .int .i64 0]) (t := 34) ?hr ?_; (case hd => rfl); (case hg => rfl); (case hr => first | (go_simp; done) | (go_simp; rfl)); intro gb432 hg w12 hbox hb; have n0_ := Aside0.mk (blk_below (g := gb429) (o := .cells #[.int .i64 a0_0, .int .i64 a0_1, .int .i64 a0_2, .int .i64 a0_3] 34 (0, 0)) (by (with_reducible repeat (first | refine blk_drewN ?_ _ | refine blk_drew ?_ | refine blk_alloc ?_ _)); exact BK429.out) hb); have n1_ := Aside0.mk (blk_below (g := gb430) (o := .cells #[.int .i64 a1_0, .int .i64 a1_1, .int .i64 a1_2, .int .i64 a1_3] 34 (0, 0)) (by (with_reducible repeat (first | refine blk_drewN ?_ _ | refine blk_drew ?_ | refine blk_alloc ?_ _)); exact BK430.out) hb); have n2_ := Aside0.mk (below_step (by repeat (first | (with_reducible first | exact HB.out | apply below_alloc | apply pw_below_drewN | apply below_drew1 | refine below_set ?_ GE429.out | refine below_set ?_ GE430.out) | exact HB.out)) hb); have n3_ := Aside0.mk (hbox); have n4_ := Aside0.mk ((by rw [hg]; exact (below_size (by repeat (first | (with_reducible first | exact HB.out | apply below_alloc | apply pw_below_drewN | apply below_drew1 | refine below_set ?_ GE429.out | refine below_set ?_ GE430.out) | exact HB.out))) : w.heap.size ≤ gb432)); have n5_ := Aside0.mk ((by rw [hg]; exact (below_size (by repeat (first | (with_reducible first | exact HB.out | apply below_alloc | apply pw_below_drewN | apply below_drew1 | refine below_set ?_ GE429.out | refine below_set ?_ GE430.out) | exact HB.out))) : w.heap.size ≤ gb432)); have n6_ := Aside0.mk ((by rw [hg]; exact Nat.ne_of_lt (blk_lt (g := gb429) (o := .cells #[.int .i64 a0_0, .int .i64 a0_1, .int .i64 a0_2, .int .i64 a0_3] 34 (0, 0)) (by (with_reducible repeat (first | refine blk_drewN ?_ _ | refine blk_drew ?_ | refine blk_alloc ?_ _)); exact BK429.out)) : gb429 ≠ gb432)); have n7_ := Aside0.mk ((by rw [hg]; exact Nat.ne_of_gt (blk_lt (g := gb429) (o := .cells #[.int .i64 a0_0, .int .i64 a0_1, .int .i64 a0_2, .int .i64 a0_3] 34 (0, 0)) (by (with_reducible repeat (first | refine blk_drewN ?_ _ | refine blk_drew ?_ | refine blk_alloc ?_ _)); exact BK429.out)) : gb432 ≠ gb429)); have n8_ := Aside0.mk ((by rw [hg]; exact Nat.ne_of_lt (blk_lt (g := gb430) (o := .cells #[.int .i64 a1_0, .int .i64 a1_1, .int .i64 a1_2, .int .i64 a1_3] 34 (0, 0)) (by (with_reducible repeat (first | refine blk_drewN ?_ _ | refine blk_drew ?_ | refine blk_alloc ?_ _)); exact BK430.out)) : gb430 ≠ gb432)); have n9_ := Aside0.mk ((by rw [hg]; exact Nat.ne_of_gt (blk_lt (g := gb430) (o := .cells #[.int .i64 a1_0, .int .i64 a1_1, .int .i64 a1_2, .int .i64 a1_3] 34 (0, 0)) (by (with_reducible repeat (first | refine blk_drewN ?_ _ | refine blk_drew ?_ | refine blk_alloc ?_ _)); exact BK430.out)) : gb432 ≠ gb430)); clear BK429; clear BK430; clear HB; have BK429 := n0_; have BK430 := n1_; have HB := n2_; have BK432 := n3_; have GW432 := n4_; have GE432 := n5_; have NB429_432 := n6_; have NB432_429 := n7_; have NB430_432 := n8_; have NB432_430 := n9_; clear n0_ n1_ n2_ n3_ n4_ n5_ n6_ n7_ n8_ n9_; clear hb hbox hg; have hnb13 := NB432_429.out; have hnc13 := NB429_432.out; have hnb14 := NB432_430.out; have hnc14 := NB430_432.out; have hcz15_0 : w12.cell? ⟨gb432, 0, none⟩ = some (.int .i64 0) := (blk_cell BK432.out 0).trans rfl; have hcz15_1 : w12.cell? ⟨gb432, 1, none⟩ = some (.int .i64 0) := (blk_cell BK432.out 1).trans rfl; have hcz15_2 : w12.cell? ⟨gb432, 2, none⟩ = some (.int .i64 0) := (blk_cell BK432.out 2).trans rfl; have hcz15_3 : w12.cell? ⟨gb432, 3, none⟩ = some (.int .i64 0) := (blk_cell BK432.out 3).trans rfl; have hfz15_0 := blk_frozen BK432.out 0; have hfz15_1 := blk_frozen BK432.out 1; have hfz15_2 := blk_frozen BK432.out 2; have hfz15_3 := blk_frozen BK432.out 3))
  (try simp only [Act.put, List.setIfInBounds_toArray, List.set_cons_zero, List.set_cons_succ])
  go_cut [28] (fun v28 wc => ∃ (kq : Nat) (x28_3 : Bool), v28 = .bool x28_3 ∧ Aside0 (boundstonelaw02_PlaneSegmentsFair.j0 kq t431 x28_3 a0_0 a0_1 a0_2 a0_3 a1_0 a1_1 a1_2 a1_3 = some r) ∧ Aside0 (kq ≤ k) ∧ Aside0 (wc.heap[gb429]? = some (.cells #[.int .i64 a0_0, .int .i64 a0_1, .int .i64 a0_2, .int .i64 a0_3] 34 (0, 0))) ∧ Aside0 (wc.heap[gb430]? = some (.cells #[.int .i64 a1_0, .int .i64 a1_1, .int .i64 a1_2, .int .i64 a1_3] 34 (0, 0))) ∧ Aside0 (wc.heap[gb432]? = some (.cells #[.int .i64 a0_2, .int .i64 a0_3, .int .i64 a0_0, .int .i64 a0_1] 34 (0, 0))) ∧ Aside0 (Below w.heap.size w wc))
  case first =>
    have H := HC4.out
    clear HC4
    replace H := Option.bind_eq_some_iff.mp H
    obtain ⟨t433, A160, H⟩ := H
    replace H : (if t431 = t433 then ((plane_Meeting.f k a0_2 a0_3 a0_0 a0_1 a1_0 a1_1 a1_2 a1_3).bind fun t434 => (boundstonelaw02_PlaneSegmentsFair.j0 k t431 (t431 != t434) a0_0 a0_1 a0_2 a0_3 a1_0 a1_1 a1_2 a1_3)) else (none)) = some r := H
    have A16 := Aside0.mk A160
    clear A160
    by_cases c17 : t431 = t433
    · rw [if_pos c17] at H
      have c17b0 : (t431 == t433) = true := beq_iff_eq.mpr c17
      have c17b1 : (t431 != t433) = false := bne_eq_false_iff_eq.mpr c17
      clear c17
      (first | rw [c17b0] | (simp only [i64_w, i32_w]; rw [c17b0]) | skip)
      replace H := Option.bind_eq_some_iff.mp H
      obtain ⟨t434, A180, H⟩ := H
      replace H : (boundstonelaw02_PlaneSegmentsFair.j0 k t431 (t431 != t434) a0_0 a0_1 a0_2 a0_3 a1_0 a1_1 a1_2 a1_3) = some r := H
      have A18 := Aside0.mk A180
      clear A180
      have H' := Aside0.mk H
      clear H
      have hnb19 := NB430_429.out
      have hnc19 := NB429_430.out
      have hnb20 := NB430_432.out
      have hnc20 := NB432_430.out
      have hcz21_0 : w12.cell? ⟨gb430, 0, none⟩ = some (.int .i64 a1_0) := (blk_cell BK430.out 0).trans rfl
      have hcz21_1 : w12.cell? ⟨gb430, 1, none⟩ = some (.int .i64 a1_1) := (blk_cell BK430.out 1).trans rfl
      have hcz21_2 : w12.cell? ⟨gb430, 2, none⟩ = some (.int .i64 a1_2) := (blk_cell BK430.out 2).trans rfl
      have hcz21_3 : w12.cell? ⟨gb430, 3, none⟩ = some (.int .i64 a1_3) := (blk_cell BK430.out 3).trans rfl
      have hfz21_0 := blk_frozen BK430.out 0
      have hfz21_1 := blk_frozen BK430.out 1
      have hfz21_2 := blk_frozen BK430.out 2
      have hfz21_3 := blk_frozen BK430.out 3
      have hnb22 := NB429_432.out
      have hnc22 := NB432_429.out
      have hcz23_0 : w12.cell? ⟨gb429, 0, none⟩ = some (.int .i64 a0_0) := (blk_cell BK429.out 0).trans rfl
      have hcz23_1 : w12.cell? ⟨gb429, 1, none⟩ = some (.int .i64 a0_1) := (blk_cell BK429.out 1).trans rfl
      have hcz23_2 : w12.cell? ⟨gb429, 2, none⟩ = some (.int .i64 a0_2) := (blk_cell BK429.out 2).trans rfl
      have hcz23_3 : w12.cell? ⟨gb429, 3, none⟩ = some (.int .i64 a0_3) := (blk_cell BK429.out 3).trans rfl
      have hfz23_0 := blk_frozen BK429.out 0
      have hfz23_1 := blk_frozen BK429.out 1
      have hfz23_2 := blk_frozen BK429.out 2
      have hfz23_3 := blk_frozen BK429.out 3
      go_wp2_with (first | ((with_reducible refine gate_callee (f := 28) rfl ?_); refine goesL_ (some 20) rfl rfl Try.func28 (by kernel_rfl) rfl #[.agg #[.int .i64 a1_0, .int .i64 a1_1, .int .i64 a1_2, .int .i64 a1_3], .agg #[.int .i64 a0_0, .int .i64 a0_1, .int .i64 a0_2, .int .i64 a0_3]] rfl (by (try simp only [List.map_toArray, List.map_cons, List.map_nil]); first | done | rfl | (simp only [List.length_drop, List.length_take]; rfl)) ?_; (with_reducible refine (plane_Meeting.calls k a1_0 a1_1 a1_2 a1_3 a0_0 a0_1 a0_2 a0_3 t433 _ A16.out).mono ?_); rintro e w24 ⟨rfl, hb⟩; refine ⟨_, rfl, ?_⟩; have n0_ := Aside0.mk (blk_below (g := gb429) (o := .cells #[.int .i64 a0_0, .int .i64 a0_1, .int .i64 a0_2, .int .i64 a0_3] 34 (0, 0)) (by (with_reducible repeat (first | refine blk_drewN ?_ _ | refine blk_drew ?_ | refine blk_alloc ?_ _)); refine blk_far ?_ NB429_432.out _; (with_reducible repeat (first | refine blk_drewN ?_ _ | refine blk_drew ?_ | refine blk_alloc ?_ _)); refine blk_far ?_ NB429_432.out _; (with_reducible repeat (first | refine blk_drewN ?_ _ | refine blk_drew ?_ | refine blk_alloc ?_ _)); refine blk_far ?_ NB429_432.out _; (with_reducible repeat (first | refine blk_drewN ?_ _ | refine blk_drew ?_ | refine blk_alloc ?_ _)); refine blk_far ?_ NB429_432.out _; (with_reducible repeat (first | refine blk_drewN ?_ _ | refine blk_drew ?_ | refine blk_alloc ?_ _)); exact BK429.out) hb); have n1_ := Aside0.mk (blk_below (g := gb430) (o := .cells #[.int .i64 a1_0, .int .i64 a1_1, .int .i64 a1_2, .int .i64 a1_3] 34 (0, 0)) (by (with_reducible repeat (first | refine blk_drewN ?_ _ | refine blk_drew ?_ | refine blk_alloc ?_ _)); refine blk_far ?_ NB430_432.out _; (with_reducible repeat (first | refine blk_drewN ?_ _ | refine blk_drew ?_ | refine blk_alloc ?_ _)); refine blk_far ?_ NB430_432.out _; (with_reducible repeat (first | refine blk_drewN ?_ _ | refine blk_drew ?_ | refine blk_alloc ?_ _)); refine blk_far ?_ NB430_432.out _; (with_reducible repeat (first | refine blk_drewN ?_ _ | refine blk_drew ?_ | refine blk_alloc ?_ _)); refine blk_far ?_ NB430_432.out _; (with_reducible repeat (first | refine blk_drewN ?_ _ | refine blk_drew ?_ | refine blk_alloc ?_ _)); exact BK430.out) hb); have n2_ := Aside0.mk (blk_below (g := gb432) (o := .cells #[.int .i64 a0_2, .int .i64 a0_3, .int .i64 a0_0, .int .i64 a0_1] 34 (0, 0)) (by (with_reducible repeat (first | refine blk_drewN ?_ _ | refine blk_drew ?_ | refine blk_alloc ?_ _)); refine blk_put (cs := #[.int .i64 a0_2, .int .i64 a0_3, .int .i64 a0_0, .int .i64 0]) ?_ 3 _ rfl; (with_reducible repeat (first | refine blk_drewN ?_ _ | refine blk_drew ?_ | refine blk_alloc ?_ _)); refine blk_put (cs := #[.int .i64 a0_2, .int .i64 a0_3, .int .i64 0, .int .i64 0]) ?_ 2 _ rfl; (with_reducible repeat (first | refine blk_drewN ?_ _ | refine blk_drew ?_ | refine blk_alloc ?_ _)); refine blk_put (cs := #[.int .i64 a0_2, .int .i64 0, .int .i64 0, .int .i64 0]) ?_ 1 _ rfl; (with_reducible repeat (first | refine blk_drewN ?_ _ | refine blk_drew ?_ | refine blk_alloc ?_ _)); refine blk_put (cs := #[.int .i64 0, .int .i64 0, .int .i64 0, .int .i64 0]) ?_ 0 _ rfl; (with_reducible repeat (first | refine blk_drewN ?_ _ | refine blk_drew ?_ | refine blk_alloc ?_ _)); exact BK432.out) hb); have n3_ := Aside0.mk (below_step (by repeat (first | (with_reducible first | exact HB.out | apply below_alloc | apply pw_below_drewN | apply below_drew1 | refine below_set ?_ GE429.out | refine below_set ?_ GE430.out | refine below_set ?_ GE432.out) | exact HB.out)) hb); clear BK429; clear BK430; clear BK432; clear HB; have BK429 := n0_; have BK430 := n1_; have BK432 := n2_; have HB := n3_; clear n0_ n1_ n2_ n3_; (try clear hb); (try clear hb2); (try clear hk); (try clear hi); have hcz25_0 : w24.cell? ⟨gb432, 0, none⟩ = some (.int .i64 a0_2) := (blk_cell BK432.out 0).trans rfl; have hcz25_1 : w24.cell? ⟨gb432, 1, none⟩ = some (.int .i64 a0_3) := (blk_cell BK432.out 1).trans rfl; have hcz25_2 : w24.cell? ⟨gb432, 2, none⟩ = some (.int .i64 a0_0) := (blk_cell BK432.out 2).trans rfl; have hcz25_3 : w24.cell? ⟨gb432, 3, none⟩ = some (.int .i64 a0_1) := (blk_cell BK432.out 3).trans rfl; have hfz25_0 := blk_frozen BK432.out 0; have hfz25_1 := blk_frozen BK432.out 1; have hfz25_2 := blk_frozen BK432.out 2; have hfz25_3 := blk_frozen BK432.out 3; have hcz26_0 : w24.cell? ⟨gb430, 0, none⟩ = some (.int .i64 a1_0) := (blk_cell BK430.out 0).trans rfl; have hcz26_1 : w24.cell? ⟨gb430, 1, none⟩ = some (.int .i64 a1_1) := (blk_cell BK430.out 1).trans rfl; have hcz26_2 : w24.cell? ⟨gb430, 2, none⟩ = some (.int .i64 a1_2) := (blk_cell BK430.out 2).trans rfl; have hcz26_3 : w24.cell? ⟨gb430, 3, none⟩ = some (.int .i64 a1_3) := (blk_cell BK430.out 3).trans rfl; have hfz26_0 := blk_frozen BK430.out 0; have hfz26_1 := blk_frozen BK430.out 1; have hfz26_2 := blk_frozen BK430.out 2; have hfz26_3 := blk_frozen BK430.out 3) | (go_at_call 28; (with_reducible refine (plane_Meeting.calls k a0_2 a0_3 a0_0 a0_1 a1_0 a1_1 a1_2 a1_3 t434 _ A18.out).mono ?_); rintro e w27 ⟨rfl, hb⟩; have n0_ := Aside0.mk (blk_below (g := gb429) (o := .cells #[.int .i64 a0_0, .int .i64 a0_1, .int .i64 a0_2, .int .i64 a0_3] 34 (0, 0)) (by (with_reducible repeat (first | refine blk_drewN ?_ _ | refine blk_drew ?_ | refine blk_alloc ?_ _)); exact BK429.out) hb); have n1_ := Aside0.mk (blk_below (g := gb430) (o := .cells #[.int .i64 a1_0, .int .i64 a1_1, .int .i64 a1_2, .int .i64 a1_3] 34 (0, 0)) (by (with_reducible repeat (first | refine blk_drewN ?_ _ | refine blk_drew ?_ | refine blk_alloc ?_ _)); exact BK430.out) hb); have n2_ := Aside0.mk (blk_below (g := gb432) (o := .cells #[.int .i64 a0_2, .int .i64 a0_3, .int .i64 a0_0, .int .i64 a0_1] 34 (0, 0)) (by (with_reducible repeat (first | refine blk_drewN ?_ _ | refine blk_drew ?_ | refine blk_alloc ?_ _)); exact BK432.out) hb); have n3_ := Aside0.mk (below_step (by repeat (first | (with_reducible first | exact HB.out | apply below_alloc | apply pw_below_drewN | apply below_drew1 | refine below_set ?_ GE429.out | refine below_set ?_ GE430.out | refine below_set ?_ GE432.out) | exact HB.out)) hb); clear BK429; clear BK430; clear BK432; clear HB; have BK429 := n0_; have BK430 := n1_; have BK432 := n2_; have HB := n3_; clear n0_ n1_ n2_ n3_; (try clear hb); (try clear hb2); (try clear hk); (try clear hi)))
      go_meet
      case rel => exact ⟨_, ((t431 != t434)), (by first | rfl | (simp; done) | (simp [*]; done)), H', ⟨by first | omega | exact Nat.le_refl _⟩, ⟨by (with_reducible repeat (first | refine blk_drewN ?_ _ | refine blk_drew ?_ | refine blk_alloc ?_ _)); exact BK429.out⟩, ⟨by (with_reducible repeat (first | refine blk_drewN ?_ _ | refine blk_drew ?_ | refine blk_alloc ?_ _)); exact BK430.out⟩, ⟨by (with_reducible repeat (first | refine blk_drewN ?_ _ | refine blk_drew ?_ | refine blk_alloc ?_ _)); exact BK432.out⟩, ⟨by repeat (first | (with_reducible first | exact HB.out | apply below_alloc | apply pw_below_drewN | apply below_drew1 | refine below_set ?_ GE429.out | refine below_set ?_ GE430.out | refine below_set ?_ GE432.out) | exact HB.out)⟩⟩
    · rw [if_neg c17] at H
      exact absurd H (by simp)
  case rest =>
    clear HC4
    try clear c1
    try clear c2
    try clear p2
    try clear c6
    try clear c7
    try clear c13
    try clear c14
    try clear c17
    try clear c17b0
    try clear c17b1
    try clear c19
    try clear c20
    try clear c22
    try clear hcz11_0
    try clear hcz11_1
    try clear hcz11_2
    try clear hcz11_3
    try clear hcz15_0
    try clear hcz15_1
    try clear hcz15_2
    try clear hcz15_3
    try clear hcz21_0
    try clear hcz21_1
    try clear hcz21_2
    try clear hcz21_3
    try clear hcz23_0
    try clear hcz23_1
    try clear hcz23_2
    try clear hcz23_3
    try clear hcz25_0
    try clear hcz25_1
    try clear hcz25_2
    try clear hcz25_3
    try clear hcz26_0
    try clear hcz26_1
    try clear hcz26_2
    try clear hcz26_3
    try clear hcz8_0
    try clear hcz8_1
    try clear hcz8_2
    try clear hcz8_3
    try clear hcz9_0
    try clear hcz9_1
    try clear hcz9_2
    try clear hcz9_3
    try clear hfz11_0
    try clear hfz11_1
    try clear hfz11_2
    try clear hfz11_3
    try clear hfz15_0
    try clear hfz15_1
    try clear hfz15_2
    try clear hfz15_3
    try clear hfz21_0
    try clear hfz21_1
    try clear hfz21_2
    try clear hfz21_3
    try clear hfz23_0
    try clear hfz23_1
    try clear hfz23_2
    try clear hfz23_3
    try clear hfz25_0
    try clear hfz25_1
    try clear hfz25_2
    try clear hfz25_3
    try clear hfz26_0
    try clear hfz26_1
    try clear hfz26_2
    try clear hfz26_3
    try clear hfz8_0
    try clear hfz8_1
    try clear hfz8_2
    try clear hfz8_3
    try clear hfz9_0
    try clear hfz9_1
    try clear hfz9_2
    try clear hfz9_3
    obtain ⟨kq, x28_3, rfl, HA, HJ3, BK429, BK430, BK432, HB⟩ := hcut
    cases kq with
    | zero => exact absurd HA.out (by simp [boundstonelaw02_PlaneSegmentsFair.j0])
    | succ kj3 =>
      have H := HA.out
      clear HA
      simp only [boundstonelaw02_PlaneSegmentsFair.j0] at H
      by_cases c28 : x28_3 = true
      · subst c28
        have H1 : (none) = some r := by rw [if_pos rfl] at H; exact H
        clear H
        have H := H1
        clear H1
        exact absurd H (by simp)
      · replace c28 := Bool.eq_false_iff.mpr c28
        subst c28
        have H1 : (if t431 = 0 then (boundstonelaw02_PlaneSegmentsFair.j1 kj3 t431 false a0_0 a0_1 a0_2 a0_3 a1_0 a1_1 a1_2 a1_3) else ((plane_Turn.f a0_0 a0_1 a0_2 a0_3 a1_0 a1_1).bind fun t435 => ((plane_Turn.f a0_0 a0_1 a0_2 a0_3 a1_2 a1_3).bind fun t436 => (if (wrap64 (t435 * t436)) > 0 then (none) else ((plane_Turn.f a1_0 a1_1 a1_2 a1_3 a0_0 a0_1).bind fun t437 => ((plane_Turn.f a1_0 a1_1 a1_2 a1_3 a0_2 a0_3).bind fun t438 => (boundstonelaw02_PlaneSegmentsFair.j1 kj3 t431 (decide ((wrap64 (t437 * t438)) > 0)) a0_0 a0_1 a0_2 a0_3 a1_0 a1_1 a1_2 a1_3))))))) = some r := by rw [if_neg (show ¬ (false = true) by decide)] at H; exact H
        clear H
        have H := H1
        clear H1
        have HC29 := Aside0.mk H
        clear H
        go_upto_region 5 with (fail)
        go_cut [66] (fun v66 wc => ∃ (kq : Nat) (x66_28 : Bool), v66 = .bool x66_28 ∧ Aside0 (boundstonelaw02_PlaneSegmentsFair.j1 kq t431 x66_28 a0_0 a0_1 a0_2 a0_3 a1_0 a1_1 a1_2 a1_3 = some r) ∧ Aside0 (kq ≤ kj3) ∧ Aside0 (wc.heap[gb429]? = some (.cells #[.int .i64 a0_0, .int .i64 a0_1, .int .i64 a0_2, .int .i64 a0_3] 34 (0, 0))) ∧ Aside0 (wc.heap[gb430]? = some (.cells #[.int .i64 a1_0, .int .i64 a1_1, .int .i64 a1_2, .int .i64 a1_3] 34 (0, 0))) ∧ Aside0 (wc.heap[gb432]? = some (.cells #[.int .i64 a0_2, .int .i64 a0_3, .int .i64 a0_0, .int .i64 a0_1] 34 (0, 0))) ∧ Aside0 (Below w.heap.size w wc))
        case first =>
          have H := HC29.out
          clear HC29
          by_cases c30 : t431 = 0
          · rw [if_pos c30] at H
            have c30b0 : (t431 == 0) = true := beq_iff_eq.mpr c30
            have c30b1 : (t431 != 0) = false := bne_eq_false_iff_eq.mpr c30
            clear c30
            (first | rw [c30b0] | (simp only [i64_w, i32_w]; rw [c30b0]) | skip)
            have H' := Aside0.mk H
            clear H
            try go_wp2
            have n0_ := Aside0.mk (blk_drew BK429.out)
            have n1_ := Aside0.mk (blk_drew BK430.out)
            have n2_ := Aside0.mk (blk_drew BK432.out)
            have n3_ := Aside0.mk (below_drew1 HB.out)
            clear BK429
            clear BK430
            clear BK432
            clear HB
            have BK429 := n0_
            have BK430 := n1_
            have BK432 := n2_
            have HB := n3_
            clear n0_ n1_ n2_ n3_
            refine start_ (n := 38) (S := fun w' => True) (ds := []) #[false, false, false, false, false, false, false, false, false, false, false, false, false, false, false, false, false, false, false, false, false, false, false, false, false, false, false, false, false, false, false, false, false, false, false, false, false, false] (by kernel_rfl) rfl rfl trivial (fun hHeld => ?_); refine with_tabW boundstonelaw02_PlaneSegmentsFair.tab5 boundstonelaw02_PlaneSegmentsFair.bits5 (fun HT_ HW_ => ?_)
            generalize wc.drew = w31 at BK429 BK430 BK432 HB hHeld ⊢
            refine pure_ (i := 0) (N := some 29) (v := ?_) (a' := ?_) #[true, false, false, false, false, false, false, false, false, false, false, false, false, false, false, false, false, false, false, false, false, false, false, false, false, false, false, false, false, false, false, false, false, false, false, false, false, false] rfl rfl (any_of HT_.out (by kernel_rfl)) (fun _ _ _ h => h) (Or.inl ⟨by rfl, ?_⟩) ?_ ?_
            rotate_left
            · intro w'
              go_simp
              with_reducible rfl
            rotate_left
            · simp only [Act.put, List.setIfInBounds_toArray, List.set_cons_zero, List.set_cons_succ, i64_w, i32_w]
              rfl
            refine pure_ (i := 1) (N := some 30) (v := ?_) (a' := ?_) #[true, true, false, false, false, false, false, false, false, false, false, false, false, false, false, false, false, false, false, false, false, false, false, false, false, false, false, false, false, false, false, false, false, false, false, false, false, false] rfl rfl (any_of HT_.out (by kernel_rfl)) (fun _ _ _ h => h) (Or.inl ⟨by rfl, ?_⟩) ?_ ?_
            rotate_left
            · intro w'
              go_simp
              with_reducible rfl
            rotate_left
            · simp only [Act.put, List.setIfInBounds_toArray, List.set_cons_zero, List.set_cons_succ, i64_w, i32_w]
              rfl
            refine pure_ (i := 2) (N := some 31) (v := ?_) (a' := ?_) #[true, true, true, false, false, false, false, false, false, false, false, false, false, false, false, false, false, false, false, false, false, false, false, false, false, false, false, false, false, false, false, false, false, false, false, false, false, false] rfl rfl (any_of HT_.out (by kernel_rfl)) (fun _ _ _ h => h) (Or.inl ⟨by rfl, ?_⟩) ?_ ?_
            rotate_left
            · intro w'
              go_simp
              with_reducible rfl
            rotate_left
            · simp only [Act.put, List.setIfInBounds_toArray, List.set_cons_zero, List.set_cons_succ, i64_w, i32_w]
              rfl
            refine pure_ (i := 3) (N := some 32) (v := undef) (a' := ?_) #[true, true, true, true, false, false, false, false, false, false, false, false, false, false, false, false, false, false, false, false, false, false, false, false, false, false, false, false, false, false, false, false, false, false, false, false, false, false] rfl rfl (any_of HT_.out (by kernel_rfl)) (fun _ _ _ h => h) (Or.inr ⟨by rfl, rfl⟩) ?_ ?_
            rotate_left
            · simp only [Act.put, List.setIfInBounds_toArray, List.set_cons_zero, List.set_cons_succ, i64_w, i32_w]
              rfl
            refine pure_ (i := 4) (N := some 33) (v := undef) (a' := ?_) #[true, true, true, true, true, false, false, false, false, false, false, false, false, false, false, false, false, false, false, false, false, false, false, false, false, false, false, false, false, false, false, false, false, false, false, false, false, false] rfl rfl (any_of HT_.out (by kernel_rfl)) (fun _ _ _ h => h) (Or.inr ⟨by rfl, rfl⟩) ?_ ?_
            rotate_left
            · simp only [Act.put, List.setIfInBounds_toArray, List.set_cons_zero, List.set_cons_succ, i64_w, i32_w]
              rfl
            refine pure_ (i := 5) (N := some 34) (v := undef) (a' := ?_) #[true, true, true, true, true, true, false, false, false, false, false, false, false, false, false, false, false, false, false, false, false, false, false, false, false, false, false, false, false, false, false, false, false, false, false, false, false, false] rfl rfl (any_of HT_.out (by kernel_rfl)) (fun _ _ _ h => h) (Or.inr ⟨by rfl, rfl⟩) ?_ ?_
            rotate_left
            · simp only [Act.put, List.setIfInBounds_toArray, List.set_cons_zero, List.set_cons_succ, i64_w, i32_w]
              rfl
            refine pure_ (i := 6) (N := some 35) (v := undef) (a' := ?_) #[true, true, true, true, true, true, true, false, false, false, false, false, false, false, false, false, false, false, false, false, false, false, false, false, false, false, false, false, false, false, false, false, false, false, false, false, false, false] rfl rfl (any_of HT_.out (by kernel_rfl)) (fun _ _ _ h => h) (Or.inr ⟨by rfl, rfl⟩) ?_ ?_
            rotate_left
            · simp only [Act.put, List.setIfInBounds_toArray, List.set_cons_zero, List.set_cons_succ, i64_w, i32_w]
              rfl
            refine pure_ (i := 7) (N := some 36) (v := undef) (a' := ?_) #[true, true, true, true, true, true, true, true, false, false, false, false, false, false, false, false, false, false, false, false, false, false, false, false, false, false, false, false, false, false, false, false, false, false, false, false, false, false] rfl rfl (any_of HT_.out (by kernel_rfl)) (fun _ _ _ h => h) (Or.inr ⟨by rfl, rfl⟩) ?_ ?_
            rotate_left
            · simp only [Act.put, List.setIfInBounds_toArray, List.set_cons_zero, List.set_cons_succ, i64_w, i32_w]
              rfl
            refine pure_ (i := 8) (N := some 37) (v := undef) (a' := ?_) #[true, true, true, true, true, true, true, true, true, false, false, false, false, false, false, false, false, false, false, false, false, false, false, false, false, false, false, false, false, false, false, false, false, false, false, false, false, false] rfl rfl (any_of HT_.out (by kernel_rfl)) (fun _ _ _ h => h) (Or.inr ⟨by rfl, rfl⟩) ?_ ?_
            rotate_left
            · simp only [Act.put, List.setIfInBounds_toArray, List.set_cons_zero, List.set_cons_succ, i64_w, i32_w]
              rfl
            refine pure_ (i := 9) (N := some 38) (v := undef) (a' := ?_) #[true, true, true, true, true, true, true, true, true, true, false, false, false, false, false, false, false, false, false, false, false, false, false, false, false, false, false, false, false, false, false, false, false, false, false, false, false, false] rfl rfl (any_of HT_.out (by kernel_rfl)) (fun _ _ _ h => h) (Or.inr ⟨by rfl, rfl⟩) ?_ ?_
            rotate_left
            · simp only [Act.put, List.setIfInBounds_toArray, List.set_cons_zero, List.set_cons_succ, i64_w, i32_w]
              rfl
            refine pure_ (i := 10) (N := some 39) (v := undef) (a' := ?_) #[true, true, true, true, true, true, true, true, true, true, true, false, false, false, false, false, false, false, false, false, false, false, false, false, false, false, false, false, false, false, false, false, false, false, false, false, false, false] rfl rfl (any_of HT_.out (by kernel_rfl)) (fun _ _ _ h => h) (Or.inr ⟨by rfl, rfl⟩) ?_ ?_
            rotate_left
            · simp only [Act.put, List.setIfInBounds_toArray, List.set_cons_zero, List.set_cons_succ, i64_w, i32_w]
              rfl
            refine pure_ (i := 11) (N := some 40) (v := undef) (a' := ?_) #[true, true, true, true, true, true, true, true, true, true, true, true, false, false, false, false, false, false, false, false, false, false, false, false, false, false, false, false, false, false, false, false, false, false, false, false, false, false] rfl rfl (any_of HT_.out (by kernel_rfl)) (fun _ _ _ h => h) (Or.inr ⟨by rfl, rfl⟩) ?_ ?_
            rotate_left
            · simp only [Act.put, List.setIfInBounds_toArray, List.set_cons_zero, List.set_cons_succ, i64_w, i32_w]
              rfl
            refine pure_ (i := 12) (N := some 41) (v := undef) (a' := ?_) #[true, true, true, true, true, true, true, true, true, true, true, true, true, false, false, false, false, false, false, false, false, false, false, false, false, false, false, false, false, false, false, false, false, false, false, false, false, false] rfl rfl (any_of HT_.out (by kernel_rfl)) (fun _ _ _ h => h) (Or.inr ⟨by rfl, rfl⟩) ?_ ?_
            rotate_left
            · simp only [Act.put, List.setIfInBounds_toArray, List.set_cons_zero, List.set_cons_succ, i64_w, i32_w]
              rfl
            refine pure_ (i := 13) (N := some 42) (v := undef) (a' := ?_) #[true, true, true, true, true, true, true, true, true, true, true, true, true, true, false, false, false, false, false, false, false, false, false, false, false, false, false, false, false, false, false, false, false, false, false, false, false, false] rfl rfl (any_of HT_.out (by kernel_rfl)) (fun _ _ _ h => h) (Or.inr ⟨by rfl, rfl⟩) ?_ ?_
            rotate_left
            · simp only [Act.put, List.setIfInBounds_toArray, List.set_cons_zero, List.set_cons_succ, i64_w, i32_w]
              rfl
            refine pure_ (i := 14) (N := some 43) (v := undef) (a' := ?_) #[true, true, true, true, true, true, true, true, true, true, true, true, true, true, true, false, false, false, false, false, false, false, false, false, false, false, false, false, false, false, false, false, false, false, false, false, false, false] rfl rfl (any_of HT_.out (by kernel_rfl)) (fun _ _ _ h => h) (Or.inr ⟨by rfl, rfl⟩) ?_ ?_
            rotate_left
            · simp only [Act.put, List.setIfInBounds_toArray, List.set_cons_zero, List.set_cons_succ, i64_w, i32_w]
              rfl
            refine pure_ (i := 15) (N := some 44) (v := undef) (a' := ?_) #[true, true, true, true, true, true, true, true, true, true, true, true, true, true, true, true, false, false, false, false, false, false, false, false, false, false, false, false, false, false, false, false, false, false, false, false, false, false] rfl rfl (any_of HT_.out (by kernel_rfl)) (fun _ _ _ h => h) (Or.inr ⟨by rfl, rfl⟩) ?_ ?_
            rotate_left
            · simp only [Act.put, List.setIfInBounds_toArray, List.set_cons_zero, List.set_cons_succ, i64_w, i32_w]
              rfl
            refine pure_ (i := 16) (N := some 45) (v := undef) (a' := ?_) #[true, true, true, true, true, true, true, true, true, true, true, true, true, true, true, true, true, false, false, false, false, false, false, false, false, false, false, false, false, false, false, false, false, false, false, false, false, false] rfl rfl (any_of HT_.out (by kernel_rfl)) (fun _ _ _ h => h) (Or.inr ⟨by rfl, rfl⟩) ?_ ?_
            rotate_left
            · simp only [Act.put, List.setIfInBounds_toArray, List.set_cons_zero, List.set_cons_succ, i64_w, i32_w]
              rfl
            refine pure_ (i := 17) (N := some 46) (v := undef) (a' := ?_) #[true, true, true, true, true, true, true, true, true, true, true, true, true, true, true, true, true, true, false, false, false, false, false, false, false, false, false, false, false, false, false, false, false, false, false, false, false, false] rfl rfl (any_of HT_.out (by kernel_rfl)) (fun _ _ _ h => h) (Or.inr ⟨by rfl, rfl⟩) ?_ ?_
            rotate_left
            · simp only [Act.put, List.setIfInBounds_toArray, List.set_cons_zero, List.set_cons_succ, i64_w, i32_w]
              rfl
            refine pure_ (i := 18) (N := some 47) (v := undef) (a' := ?_) #[true, true, true, true, true, true, true, true, true, true, true, true, true, true, true, true, true, true, true, false, false, false, false, false, false, false, false, false, false, false, false, false, false, false, false, false, false, false] rfl rfl (any_of HT_.out (by kernel_rfl)) (fun _ _ _ h => h) (Or.inr ⟨by rfl, rfl⟩) ?_ ?_
            rotate_left
            · simp only [Act.put, List.setIfInBounds_toArray, List.set_cons_zero, List.set_cons_succ, i64_w, i32_w]
              rfl
            refine pure_ (i := 19) (N := some 48) (v := undef) (a' := ?_) #[true, true, true, true, true, true, true, true, true, true, true, true, true, true, true, true, true, true, true, true, false, false, false, false, false, false, false, false, false, false, false, false, false, false, false, false, false, false] rfl rfl (any_of HT_.out (by kernel_rfl)) (fun _ _ _ h => h) (Or.inr ⟨by rfl, rfl⟩) ?_ ?_
            rotate_left
            · simp only [Act.put, List.setIfInBounds_toArray, List.set_cons_zero, List.set_cons_succ, i64_w, i32_w]
              rfl
            refine pure_ (i := 20) (N := some 49) (v := undef) (a' := ?_) #[true, true, true, true, true, true, true, true, true, true, true, true, true, true, true, true, true, true, true, true, true, false, false, false, false, false, false, false, false, false, false, false, false, false, false, false, false, false] rfl rfl (any_of HT_.out (by kernel_rfl)) (fun _ _ _ h => h) (Or.inr ⟨by rfl, rfl⟩) ?_ ?_
            rotate_left
            · simp only [Act.put, List.setIfInBounds_toArray, List.set_cons_zero, List.set_cons_succ, i64_w, i32_w]
              rfl
            refine pure_ (i := 21) (N := some 50) (v := undef) (a' := ?_) #[true, true, true, true, true, true, true, true, true, true, true, true, true, true, true, true, true, true, true, true, true, true, false, false, false, false, false, false, false, false, false, false, false, false, false, false, false, false] rfl rfl (any_of HT_.out (by kernel_rfl)) (fun _ _ _ h => h) (Or.inr ⟨by rfl, rfl⟩) ?_ ?_
            rotate_left
            · simp only [Act.put, List.setIfInBounds_toArray, List.set_cons_zero, List.set_cons_succ, i64_w, i32_w]
              rfl
            refine pure_ (i := 22) (N := some 51) (v := undef) (a' := ?_) #[true, true, true, true, true, true, true, true, true, true, true, true, true, true, true, true, true, true, true, true, true, true, true, false, false, false, false, false, false, false, false, false, false, false, false, false, false, false] rfl rfl (any_of HT_.out (by kernel_rfl)) (fun _ _ _ h => h) (Or.inr ⟨by rfl, rfl⟩) ?_ ?_
            rotate_left
            · simp only [Act.put, List.setIfInBounds_toArray, List.set_cons_zero, List.set_cons_succ, i64_w, i32_w]
              rfl
            refine pure_ (i := 23) (N := some 52) (v := undef) (a' := ?_) #[true, true, true, true, true, true, true, true, true, true, true, true, true, true, true, true, true, true, true, true, true, true, true, true, false, false, false, false, false, false, false, false, false, false, false, false, false, false] rfl rfl (any_of HT_.out (by kernel_rfl)) (fun _ _ _ h => h) (Or.inr ⟨by rfl, rfl⟩) ?_ ?_
            rotate_left
            · simp only [Act.put, List.setIfInBounds_toArray, List.set_cons_zero, List.set_cons_succ, i64_w, i32_w]
              rfl
            refine pure_ (i := 24) (N := some 53) (v := undef) (a' := ?_) #[true, true, true, true, true, true, true, true, true, true, true, true, true, true, true, true, true, true, true, true, true, true, true, true, true, false, false, false, false, false, false, false, false, false, false, false, false, false] rfl rfl (any_of HT_.out (by kernel_rfl)) (fun _ _ _ h => h) (Or.inr ⟨by rfl, rfl⟩) ?_ ?_
            rotate_left
            · simp only [Act.put, List.setIfInBounds_toArray, List.set_cons_zero, List.set_cons_succ, i64_w, i32_w]
              rfl
            refine pure_ (i := 25) (N := some 54) (v := undef) (a' := ?_) #[true, true, true, true, true, true, true, true, true, true, true, true, true, true, true, true, true, true, true, true, true, true, true, true, true, true, false, false, false, false, false, false, false, false, false, false, false, false] rfl rfl (any_of HT_.out (by kernel_rfl)) (fun _ _ _ h => h) (Or.inr ⟨by rfl, rfl⟩) ?_ ?_
            rotate_left
            · simp only [Act.put, List.setIfInBounds_toArray, List.set_cons_zero, List.set_cons_succ, i64_w, i32_w]
              rfl
            refine pure_ (i := 26) (N := some 55) (v := undef) (a' := ?_) #[true, true, true, true, true, true, true, true, true, true, true, true, true, true, true, true, true, true, true, true, true, true, true, true, true, true, true, false, false, false, false, false, false, false, false, false, false, false] rfl rfl (any_of HT_.out (by kernel_rfl)) (fun _ _ _ h => h) (Or.inr ⟨by rfl, rfl⟩) ?_ ?_
            rotate_left
            · simp only [Act.put, List.setIfInBounds_toArray, List.set_cons_zero, List.set_cons_succ, i64_w, i32_w]
              rfl
            refine pure_ (i := 27) (N := some 56) (v := undef) (a' := ?_) #[true, true, true, true, true, true, true, true, true, true, true, true, true, true, true, true, true, true, true, true, true, true, true, true, true, true, true, true, false, false, false, false, false, false, false, false, false, false] rfl rfl (any_of HT_.out (by kernel_rfl)) (fun _ _ _ h => h) (Or.inr ⟨by rfl, rfl⟩) ?_ ?_
            rotate_left
            · simp only [Act.put, List.setIfInBounds_toArray, List.set_cons_zero, List.set_cons_succ, i64_w, i32_w]
              rfl
            refine pure_ (i := 28) (N := some 57) (v := undef) (a' := ?_) #[true, true, true, true, true, true, true, true, true, true, true, true, true, true, true, true, true, true, true, true, true, true, true, true, true, true, true, true, true, false, false, false, false, false, false, false, false, false] rfl rfl (any_of HT_.out (by kernel_rfl)) (fun _ _ _ h => h) (Or.inr ⟨by rfl, rfl⟩) ?_ ?_
            rotate_left
            · simp only [Act.put, List.setIfInBounds_toArray, List.set_cons_zero, List.set_cons_succ, i64_w, i32_w]
              rfl
            refine pure_ (i := 29) (N := some 58) (v := undef) (a' := ?_) #[true, true, true, true, true, true, true, true, true, true, true, true, true, true, true, true, true, true, true, true, true, true, true, true, true, true, true, true, true, true, false, false, false, false, false, false, false, false] rfl rfl (any_of HT_.out (by kernel_rfl)) (fun _ _ _ h => h) (Or.inr ⟨by rfl, rfl⟩) ?_ ?_
            rotate_left
            · simp only [Act.put, List.setIfInBounds_toArray, List.set_cons_zero, List.set_cons_succ, i64_w, i32_w]
              rfl
            refine pure_ (i := 30) (N := some 59) (v := undef) (a' := ?_) #[true, true, true, true, true, true, true, true, true, true, true, true, true, true, true, true, true, true, true, true, true, true, true, true, true, true, true, true, true, true, true, false, false, false, false, false, false, false] rfl rfl (any_of HT_.out (by kernel_rfl)) (fun _ _ _ h => h) (Or.inr ⟨by rfl, rfl⟩) ?_ ?_
            rotate_left
            · simp only [Act.put, List.setIfInBounds_toArray, List.set_cons_zero, List.set_cons_succ, i64_w, i32_w]
              rfl
            refine pure_ (i := 31) (N := some 60) (v := undef) (a' := ?_) #[true, true, true, true, true, true, true, true, true, true, true, true, true, true, true, true, true, true, true, true, true, true, true, true, true, true, true, true, true, true, true, true, false, false, false, false, false, false] rfl rfl (any_of HT_.out (by kernel_rfl)) (fun _ _ _ h => h) (Or.inr ⟨by rfl, rfl⟩) ?_ ?_
            rotate_left
            · simp only [Act.put, List.setIfInBounds_toArray, List.set_cons_zero, List.set_cons_succ, i64_w, i32_w]
              rfl
            refine pure_ (i := 32) (N := some 61) (v := undef) (a' := ?_) #[true, true, true, true, true, true, true, true, true, true, true, true, true, true, true, true, true, true, true, true, true, true, true, true, true, true, true, true, true, true, true, true, true, false, false, false, false, false] rfl rfl (any_of HT_.out (by kernel_rfl)) (fun _ _ _ h => h) (Or.inr ⟨by rfl, rfl⟩) ?_ ?_
            rotate_left
            · simp only [Act.put, List.setIfInBounds_toArray, List.set_cons_zero, List.set_cons_succ, i64_w, i32_w]
              rfl
            refine pure_ (i := 33) (N := some 62) (v := undef) (a' := ?_) #[true, true, true, true, true, true, true, true, true, true, true, true, true, true, true, true, true, true, true, true, true, true, true, true, true, true, true, true, true, true, true, true, true, true, false, false, false, false] rfl rfl (any_of HT_.out (by kernel_rfl)) (fun _ _ _ h => h) (Or.inr ⟨by rfl, rfl⟩) ?_ ?_
            rotate_left
            · simp only [Act.put, List.setIfInBounds_toArray, List.set_cons_zero, List.set_cons_succ, i64_w, i32_w]
              rfl
            refine pure_ (i := 34) (N := some 63) (v := undef) (a' := ?_) #[true, true, true, true, true, true, true, true, true, true, true, true, true, true, true, true, true, true, true, true, true, true, true, true, true, true, true, true, true, true, true, true, true, true, true, false, false, false] rfl rfl (any_of HT_.out (by kernel_rfl)) (fun _ _ _ h => h) (Or.inr ⟨by rfl, rfl⟩) ?_ ?_
            rotate_left
            · simp only [Act.put, List.setIfInBounds_toArray, List.set_cons_zero, List.set_cons_succ, i64_w, i32_w]
              rfl
            refine pure_ (i := 35) (N := some 64) (v := undef) (a' := ?_) #[true, true, true, true, true, true, true, true, true, true, true, true, true, true, true, true, true, true, true, true, true, true, true, true, true, true, true, true, true, true, true, true, true, true, true, true, false, false] rfl rfl (any_of HT_.out (by kernel_rfl)) (fun _ _ _ h => h) (Or.inr ⟨by rfl, rfl⟩) ?_ ?_
            rotate_left
            · simp only [Act.put, List.setIfInBounds_toArray, List.set_cons_zero, List.set_cons_succ, i64_w, i32_w]
              rfl
            refine pure_ (i := 36) (N := some 65) (v := undef) (a' := ?_) #[true, true, true, true, true, true, true, true, true, true, true, true, true, true, true, true, true, true, true, true, true, true, true, true, true, true, true, true, true, true, true, true, true, true, true, true, true, false] rfl rfl (any_of HT_.out (by kernel_rfl)) (fun _ _ _ h => h) (Or.inr ⟨by rfl, rfl⟩) ?_ ?_
            rotate_left
            · simp only [Act.put, List.setIfInBounds_toArray, List.set_cons_zero, List.set_cons_succ, i64_w, i32_w]
              rfl
            refine pure_ (i := 37) (N := some 66) (v := ?_) (a' := ?_) #[true, true, true, true, true, true, true, true, true, true, true, true, true, true, true, true, true, true, true, true, true, true, true, true, true, true, true, true, true, true, true, true, true, true, true, true, true, true] rfl rfl (any_of HT_.out (by kernel_rfl)) (fun _ _ _ h => h) (Or.inl ⟨by rfl, ?_⟩) ?_ ?_
            rotate_left
            · intro w'
              go_simp
              with_reducible rfl
            rotate_left
            · simp only [Act.put, List.setIfInBounds_toArray, List.set_cons_zero, List.set_cons_succ, i64_w, i32_w]
              rfl
            refine done_ (done_of HT_.out (by kernel_rfl)) ?_
            try go_wp2
            go_meet
            case rel => exact ⟨_, (false), (by first | rfl | (simp; done) | (simp [*]; done)), H', ⟨by have := HJ3.out; first | omega | exact Nat.le_refl _⟩, ⟨by (with_reducible repeat (first | refine blk_drewN ?_ _ | refine blk_drew ?_ | refine blk_alloc ?_ _)); exact BK429.out⟩, ⟨by (with_reducible repeat (first | refine blk_drewN ?_ _ | refine blk_drew ?_ | refine blk_alloc ?_ _)); exact BK430.out⟩, ⟨by (with_reducible repeat (first | refine blk_drewN ?_ _ | refine blk_drew ?_ | refine blk_alloc ?_ _)); exact BK432.out⟩, ⟨by repeat (first | (with_reducible first | exact HB.out | apply below_alloc | apply pw_below_drewN | apply below_drew1 | refine below_set ?_ GE429.out | refine below_set ?_ GE430.out | refine below_set ?_ GE432.out) | exact HB.out)⟩⟩
          · rw [if_neg c30] at H
            have c30b0 : (t431 == 0) = false := beq_eq_false_iff_ne.mpr c30
            have c30b1 : (t431 != 0) = true := bne_iff_ne.mpr c30
            (first | rw [c30b0] | (simp only [i64_w, i32_w]; rw [c30b0]) | skip)
            replace H := Option.bind_eq_some_iff.mp H
            obtain ⟨t435, A320, H⟩ := H
            try dsimp only at H
            have A32 := Aside0.mk A320
            clear A320
            replace H := Option.bind_eq_some_iff.mp H
            obtain ⟨t436, A330, H⟩ := H
            replace H : (if (wrap64 (t435 * t436)) > 0 then (none) else ((plane_Turn.f a1_0 a1_1 a1_2 a1_3 a0_0 a0_1).bind fun t437 => ((plane_Turn.f a1_0 a1_1 a1_2 a1_3 a0_2 a0_3).bind fun t438 => (boundstonelaw02_PlaneSegmentsFair.j1 kj3 t431 (decide ((wrap64 (t437 * t438)) > 0)) a0_0 a0_1 a0_2 a0_3 a1_0 a1_1 a1_2 a1_3)))) = some r := H
            have A33 := Aside0.mk A330
            clear A330
            by_cases c34 : (wrap64 (t435 * t436)) > 0
            · rw [if_pos c34] at H
              exact absurd H (by simp)
            · rw [if_neg c34] at H
              have c34b0 : decide (0 < (wrap64 (t435 * t436))) = false := decide_eq_false c34
              clear c34
              replace H := Option.bind_eq_some_iff.mp H
              obtain ⟨t437, A350, H⟩ := H
              replace H : ((plane_Turn.f a1_0 a1_1 a1_2 a1_3 a0_2 a0_3).bind fun t438 => (boundstonelaw02_PlaneSegmentsFair.j1 kj3 t431 (decide ((wrap64 (t437 * t438)) > 0)) a0_0 a0_1 a0_2 a0_3 a1_0 a1_1 a1_2 a1_3)) = some r := H
              have A35 := Aside0.mk A350
              clear A350
              replace H := Option.bind_eq_some_iff.mp H
              obtain ⟨t438, A360, H⟩ := H
              replace H : (boundstonelaw02_PlaneSegmentsFair.j1 kj3 t431 (decide ((wrap64 (t437 * t438)) > 0)) a0_0 a0_1 a0_2 a0_3 a1_0 a1_1 a1_2 a1_3) = some r := H
              have A36 := Aside0.mk A360
              clear A360
              have H' := Aside0.mk H
              clear H
              try go_wp2
              have n0_ := Aside0.mk (blk_drew BK429.out)
              have n1_ := Aside0.mk (blk_drew BK430.out)
              have n2_ := Aside0.mk (blk_drew BK432.out)
              have n3_ := Aside0.mk (below_drew1 HB.out)
              clear BK429
              clear BK430
              clear BK432
              clear HB
              have BK429 := n0_
              have BK430 := n1_
              have BK432 := n2_
              have HB := n3_
              clear n0_ n1_ n2_ n3_
              refine start_ (n := 38) (S := fun w' => w'.cell? ⟨gb429, 0, none⟩ = some (.int .i64 a0_0) ∧ w'.cell? ⟨gb429, 1, none⟩ = some (.int .i64 a0_1) ∧ w'.cell? ⟨gb429, 2, none⟩ = some (.int .i64 a0_2) ∧ w'.cell? ⟨gb429, 3, none⟩ = some (.int .i64 a0_3) ∧ w'.cell? ⟨gb430, 0, none⟩ = some (.int .i64 a1_0) ∧ w'.cell? ⟨gb430, 1, none⟩ = some (.int .i64 a1_1) ∧ w'.cell? ⟨gb430, 2, none⟩ = some (.int .i64 a1_2) ∧ w'.cell? ⟨gb430, 3, none⟩ = some (.int .i64 a1_3)) (ds := []) #[false, false, false, false, false, false, false, false, false, false, false, false, false, false, false, false, false, false, false, false, false, false, false, false, false, false, false, false, false, false, false, false, false, false, false, false, false, false] (by kernel_rfl) rfl rfl ⟨(blk_cell BK429.out 0).trans rfl, (blk_cell BK429.out 1).trans rfl, (blk_cell BK429.out 2).trans rfl, (blk_cell BK429.out 3).trans rfl, (blk_cell BK430.out 0).trans rfl, (blk_cell BK430.out 1).trans rfl, (blk_cell BK430.out 2).trans rfl, (blk_cell BK430.out 3).trans rfl⟩ (fun hHeld => ?_); refine with_tabW boundstonelaw02_PlaneSegmentsFair.tab5 boundstonelaw02_PlaneSegmentsFair.bits5 (fun HT_ HW_ => ?_)
              generalize wc.drew = w37 at BK429 BK430 BK432 HB hHeld ⊢
              refine pure_ (i := 0) (N := some 29) (v := ?_) (a' := ?_) #[true, false, false, false, false, false, false, false, false, false, false, false, false, false, false, false, false, false, false, false, false, false, false, false, false, false, false, false, false, false, false, false, false, false, false, false, false, false] rfl rfl (any_of HT_.out (by kernel_rfl)) (fun _ _ _ h => h) (Or.inl ⟨by rfl, ?_⟩) ?_ ?_
              rotate_left
              · intro w'
                go_simp
                with_reducible rfl
              rotate_left
              · simp only [Act.put, List.setIfInBounds_toArray, List.set_cons_zero, List.set_cons_succ, i64_w, i32_w]
                rfl
              refine pure_ (i := 1) (N := some 30) (v := ?_) (a' := ?_) #[true, true, false, false, false, false, false, false, false, false, false, false, false, false, false, false, false, false, false, false, false, false, false, false, false, false, false, false, false, false, false, false, false, false, false, false, false, false] rfl rfl (any_of HT_.out (by kernel_rfl)) (fun _ _ _ h => h) (Or.inl ⟨by rfl, ?_⟩) ?_ ?_
              rotate_left
              · intro w'
                go_simp
                with_reducible rfl
              rotate_left
              · simp only [Act.put, List.setIfInBounds_toArray, List.set_cons_zero, List.set_cons_succ, i64_w, i32_w]
                rfl
              refine pure_ (i := 2) (N := some 31) (v := ?_) (a' := ?_) #[true, true, true, false, false, false, false, false, false, false, false, false, false, false, false, false, false, false, false, false, false, false, false, false, false, false, false, false, false, false, false, false, false, false, false, false, false, false] rfl rfl (any_of HT_.out (by kernel_rfl)) (fun _ _ _ h => h) (Or.inl ⟨by rfl, ?_⟩) ?_ ?_
              rotate_left
              · intro w'
                go_simp
                with_reducible rfl
              rotate_left
              · simp only [Act.put, List.setIfInBounds_toArray, List.set_cons_zero, List.set_cons_succ, i64_w, i32_w]
                rfl
              refine pure_ (i := 3) (N := some 32) (v := ?_) (a' := ?_) #[true, true, true, true, false, false, false, false, false, false, false, false, false, false, false, false, false, false, false, false, false, false, false, false, false, false, false, false, false, false, false, false, false, false, false, false, false, false] rfl rfl (any_of HT_.out (by kernel_rfl)) (fun _ _ _ h => h) (Or.inl ⟨by rfl, ?_⟩) ?_ ?_
              rotate_left
              · intro w'
                go_simp
                with_reducible rfl
              rotate_left
              · simp only [Act.put, List.setIfInBounds_toArray, List.set_cons_zero, List.set_cons_succ, i64_w, i32_w]
                rfl
              refine pure_ (i := 5) (N := some 34) (v := ?_) (a' := ?_) #[true, true, true, true, false, true, false, false, false, false, false, false, false, false, false, false, false, false, false, false, false, false, false, false, false, false, false, false, false, false, false, false, false, false, false, false, false, false] rfl rfl (any_of HT_.out (by kernel_rfl)) (fun _ _ _ h => h) (Or.inl ⟨by rfl, ?_⟩) ?_ ?_
              rotate_left
              · intro w'
                go_simp
                with_reducible rfl
              rotate_left
              · simp only [Act.put, List.setIfInBounds_toArray, List.set_cons_zero, List.set_cons_succ, i64_w, i32_w]
                rfl
              refine pure_ (i := 7) (N := some 36) (v := ?_) (a' := ?_) #[true, true, true, true, false, true, false, true, false, false, false, false, false, false, false, false, false, false, false, false, false, false, false, false, false, false, false, false, false, false, false, false, false, false, false, false, false, false] rfl rfl (any_of HT_.out (by kernel_rfl)) (fun _ _ _ h => h) (Or.inl ⟨by rfl, ?_⟩) ?_ ?_
              rotate_left
              · intro w'
                go_simp
                with_reducible rfl
              rotate_left
              · simp only [Act.put, List.setIfInBounds_toArray, List.set_cons_zero, List.set_cons_succ, i64_w, i32_w]
                rfl
              refine pure_ (i := 10) (N := some 39) (v := ?_) (a' := ?_) #[true, true, true, true, false, true, false, true, false, false, true, false, false, false, false, false, false, false, false, false, false, false, false, false, false, false, false, false, false, false, false, false, false, false, false, false, false, false] rfl rfl (any_of HT_.out (by kernel_rfl)) (fun _ _ _ h => h) (Or.inl ⟨by rfl, ?_⟩) ?_ ?_
              rotate_left
              · intro w'
                go_simp
                with_reducible rfl
              rotate_left
              · simp only [Act.put, List.setIfInBounds_toArray, List.set_cons_zero, List.set_cons_succ, i64_w, i32_w]
                rfl
              refine pure_ (i := 12) (N := some 41) (v := ?_) (a' := ?_) #[true, true, true, true, false, true, false, true, false, false, true, false, true, false, false, false, false, false, false, false, false, false, false, false, false, false, false, false, false, false, false, false, false, false, false, false, false, false] rfl rfl (any_of HT_.out (by kernel_rfl)) (fun _ _ _ h => h) (Or.inl ⟨by rfl, ?_⟩) ?_ ?_
              rotate_left
              · intro w'
                go_simp
                with_reducible rfl
              rotate_left
              · simp only [Act.put, List.setIfInBounds_toArray, List.set_cons_zero, List.set_cons_succ, i64_w, i32_w]
                rfl
              refine pure_ (i := 14) (N := some 43) (v := ?_) (a' := ?_) #[true, true, true, true, false, true, false, true, false, false, true, false, true, false, true, false, false, false, false, false, false, false, false, false, false, false, false, false, false, false, false, false, false, false, false, false, false, false] rfl rfl (any_of HT_.out (by kernel_rfl)) (fun _ _ _ h => h) (Or.inl ⟨by rfl, ?_⟩) ?_ ?_
              rotate_left
              · intro w'
                go_simp
                with_reducible rfl
              rotate_left
              · simp only [Act.put, List.setIfInBounds_toArray, List.set_cons_zero, List.set_cons_succ, i64_w, i32_w]
                rfl
              refine take_ (i := 4) (N := some 33) (v := ?_) (a' := ?_) #[true, true, true, true, true, true, false, true, false, false, true, false, true, false, true, false, false, false, false, false, false, false, false, false, false, false, false, false, false, false, false, false, false, false, false, false, false, false] rfl rfl (take_ofW HT_.out HW_.out (by kernel_rfl)) (fun _ _ _ h => h) (Or.inl ⟨by rfl, ?_⟩) hHeld ?_ ?_
              rotate_left
              · rintro w' ⟨s0, s1, s2, s3, s4, s5, s6, s7⟩
                go_simp
                with_reducible rfl
              rotate_left
              · simp only [Act.put, List.setIfInBounds_toArray, List.set_cons_zero, List.set_cons_succ, i64_w, i32_w]
                rfl
              refine take_ (i := 6) (N := some 35) (v := ?_) (a' := ?_) #[true, true, true, true, true, true, true, true, false, false, true, false, true, false, true, false, false, false, false, false, false, false, false, false, false, false, false, false, false, false, false, false, false, false, false, false, false, false] rfl rfl (take_ofW HT_.out HW_.out (by kernel_rfl)) (fun _ _ _ h => h) (Or.inl ⟨by rfl, ?_⟩) hHeld ?_ ?_
              rotate_left
              · rintro w' ⟨s0, s1, s2, s3, s4, s5, s6, s7⟩
                go_simp
                with_reducible rfl
              rotate_left
              · simp only [Act.put, List.setIfInBounds_toArray, List.set_cons_zero, List.set_cons_succ, i64_w, i32_w]
                rfl
              refine take_ (i := 8) (N := some 37) (v := ?_) (a' := ?_) #[true, true, true, true, true, true, true, true, true, false, true, false, true, false, true, false, false, false, false, false, false, false, false, false, false, false, false, false, false, false, false, false, false, false, false, false, false, false] rfl rfl (take_ofW HT_.out HW_.out (by kernel_rfl)) (fun _ _ _ h => h) (Or.inl ⟨by rfl, ?_⟩) hHeld ?_ ?_
              rotate_left
              · rintro w' ⟨s0, s1, s2, s3, s4, s5, s6, s7⟩
                go_simp
                with_reducible rfl
              rotate_left
              · simp only [Act.put, List.setIfInBounds_toArray, List.set_cons_zero, List.set_cons_succ, i64_w, i32_w]
                rfl
              refine take_ (i := 11) (N := some 40) (v := ?_) (a' := ?_) #[true, true, true, true, true, true, true, true, true, false, true, true, true, false, true, false, false, false, false, false, false, false, false, false, false, false, false, false, false, false, false, false, false, false, false, false, false, false] rfl rfl (take_ofW HT_.out HW_.out (by kernel_rfl)) (fun _ _ _ h => h) (Or.inl ⟨by rfl, ?_⟩) hHeld ?_ ?_
              rotate_left
              · rintro w' ⟨s0, s1, s2, s3, s4, s5, s6, s7⟩
                go_simp
                with_reducible rfl
              rotate_left
              · simp only [Act.put, List.setIfInBounds_toArray, List.set_cons_zero, List.set_cons_succ, i64_w, i32_w]
                rfl
              refine take_ (i := 13) (N := some 42) (v := ?_) (a' := ?_) #[true, true, true, true, true, true, true, true, true, false, true, true, true, true, true, false, false, false, false, false, false, false, false, false, false, false, false, false, false, false, false, false, false, false, false, false, false, false] rfl rfl (take_ofW HT_.out HW_.out (by kernel_rfl)) (fun _ _ _ h => h) (Or.inl ⟨by rfl, ?_⟩) hHeld ?_ ?_
              rotate_left
              · rintro w' ⟨s0, s1, s2, s3, s4, s5, s6, s7⟩
                go_simp
                with_reducible rfl
              rotate_left
              · simp only [Act.put, List.setIfInBounds_toArray, List.set_cons_zero, List.set_cons_succ, i64_w, i32_w]
                rfl
              refine take_ (i := 15) (N := some 44) (v := ?_) (a' := ?_) #[true, true, true, true, true, true, true, true, true, false, true, true, true, true, true, true, false, false, false, false, false, false, false, false, false, false, false, false, false, false, false, false, false, false, false, false, false, false] rfl rfl (take_ofW HT_.out HW_.out (by kernel_rfl)) (fun _ _ _ h => h) (Or.inl ⟨by rfl, ?_⟩) hHeld ?_ ?_
              rotate_left
              · rintro w' ⟨s0, s1, s2, s3, s4, s5, s6, s7⟩
                go_simp
                with_reducible rfl
              rotate_left
              · simp only [Act.put, List.setIfInBounds_toArray, List.set_cons_zero, List.set_cons_succ, i64_w, i32_w]
                rfl
              refine one_ (i := 9) (N := some 38) #[true, true, true, true, true, true, true, true, true, true, true, true, true, true, true, true, false, false, false, false, false, false, false, false, false, false, false, false, false, false, false, false, false, false, false, false, false, false] rfl rfl (one_of HT_.out (by kernel_rfl)) (by decide) (fun K hK => ?_)
              refine goes_ Try.func19 (by kernel_rfl) rfl #[.agg #[.int .i64 a0_0, .int .i64 a0_1], .agg #[.int .i64 a0_2, .int .i64 a0_3], .agg #[.int .i64 a1_0, .int .i64 a1_1]] (by rfl) rfl rfl (by (try simp only [List.map_toArray, List.map_cons, List.map_nil]); first | done | rfl | (simp only [List.length_drop, List.length_take]; rfl)) ?_
              with_reducible refine (plane_Turn.calls a0_0 a0_1 a0_2 a0_3 a1_0 a1_1 t435 _ A32.out).mono ?_
              rintro e w38 ⟨rfl, hb⟩
              refine ⟨_, rfl, ?_⟩
              have n0_ := Aside0.mk (blk_below (g := gb429) (o := .cells #[.int .i64 a0_0, .int .i64 a0_1, .int .i64 a0_2, .int .i64 a0_3] 34 (0, 0)) (by (with_reducible repeat (first | refine blk_drewN ?_ _ | refine blk_drew ?_ | refine blk_alloc ?_ _)); exact BK429.out) hb)
              have n1_ := Aside0.mk (blk_below (g := gb430) (o := .cells #[.int .i64 a1_0, .int .i64 a1_1, .int .i64 a1_2, .int .i64 a1_3] 34 (0, 0)) (by (with_reducible repeat (first | refine blk_drewN ?_ _ | refine blk_drew ?_ | refine blk_alloc ?_ _)); exact BK430.out) hb)
              have n2_ := Aside0.mk (blk_below (g := gb432) (o := .cells #[.int .i64 a0_2, .int .i64 a0_3, .int .i64 a0_0, .int .i64 a0_1] 34 (0, 0)) (by (with_reducible repeat (first | refine blk_drewN ?_ _ | refine blk_drew ?_ | refine blk_alloc ?_ _)); exact BK432.out) hb)
              have n3_ := Aside0.mk (below_step (by repeat (first | (with_reducible first | exact HB.out | apply below_alloc | apply pw_below_drewN | apply below_drew1 | refine below_set ?_ GE429.out | refine below_set ?_ GE430.out | refine below_set ?_ GE432.out) | exact HB.out)) hb)
              clear BK429
              clear BK430
              clear BK432
              clear HB
              have BK429 := n0_
              have BK430 := n1_
              have BK432 := n2_
              have HB := n3_
              clear n0_ n1_ n2_ n3_
              (try clear hb)
              (try clear hb2)
              (try clear hk)
              (try clear hi)
              refine hK.out _ _ ⟨(blk_cell BK429.out 0).trans rfl, (blk_cell BK429.out 1).trans rfl, (blk_cell BK429.out 2).trans rfl, (blk_cell BK429.out 3).trans rfl, (blk_cell BK430.out 0).trans rfl, (blk_cell BK430.out 1).trans rfl, (blk_cell BK430.out 2).trans rfl, (blk_cell BK430.out 3).trans rfl⟩ (fun hHeld => ?_)
              clear hK K
              refine norm_ (a' := ?_) ?_ ?_
              rotate_left
              · show Act.put _ (some 38) _ = _
                simp only [Act.put, List.setIfInBounds_toArray, List.set_cons_zero, List.set_cons_succ, i64_w, i32_w]
                rfl
              refine one_ (i := 16) (N := some 45) #[true, true, true, true, true, true, true, true, true, true, true, true, true, true, true, true, true, false, false, false, false, false, false, false, false, false, false, false, false, false, false, false, false, false, false, false, false, false] rfl rfl (one_of HT_.out (by kernel_rfl)) (by decide) (fun K hK => ?_)
              refine goes_ Try.func19 (by kernel_rfl) rfl #[.agg #[.int .i64 a0_0, .int .i64 a0_1], .agg #[.int .i64 a0_2, .int .i64 a0_3], .agg #[.int .i64 a1_2, .int .i64 a1_3]] (by rfl) rfl rfl (by (try simp only [List.map_toArray, List.map_cons, List.map_nil]); first | done | rfl | (simp only [List.length_drop, List.length_take]; rfl)) ?_
              with_reducible refine (plane_Turn.calls a0_0 a0_1 a0_2 a0_3 a1_2 a1_3 t436 _ A33.out).mono ?_
              rintro e w39 ⟨rfl, hb⟩
              refine ⟨_, rfl, ?_⟩
              have n0_ := Aside0.mk (blk_below (g := gb429) (o := .cells #[.int .i64 a0_0, .int .i64 a0_1, .int .i64 a0_2, .int .i64 a0_3] 34 (0, 0)) (by (with_reducible repeat (first | refine blk_drewN ?_ _ | refine blk_drew ?_ | refine blk_alloc ?_ _)); exact BK429.out) hb)
              have n1_ := Aside0.mk (blk_below (g := gb430) (o := .cells #[.int .i64 a1_0, .int .i64 a1_1, .int .i64 a1_2, .int .i64 a1_3] 34 (0, 0)) (by (with_reducible repeat (first | refine blk_drewN ?_ _ | refine blk_drew ?_ | refine blk_alloc ?_ _)); exact BK430.out) hb)
              have n2_ := Aside0.mk (blk_below (g := gb432) (o := .cells #[.int .i64 a0_2, .int .i64 a0_3, .int .i64 a0_0, .int .i64 a0_1] 34 (0, 0)) (by (with_reducible repeat (first | refine blk_drewN ?_ _ | refine blk_drew ?_ | refine blk_alloc ?_ _)); exact BK432.out) hb)
              have n3_ := Aside0.mk (below_step (by repeat (first | (with_reducible first | exact HB.out | apply below_alloc | apply pw_below_drewN | apply below_drew1 | refine below_set ?_ GE429.out | refine below_set ?_ GE430.out | refine below_set ?_ GE432.out) | exact HB.out)) hb)
              clear BK429
              clear BK430
              clear BK432
              clear HB
              have BK429 := n0_
              have BK430 := n1_
              have BK432 := n2_
              have HB := n3_
              clear n0_ n1_ n2_ n3_
              (try clear hb)
              (try clear hb2)
              (try clear hk)
              (try clear hi)
              refine hK.out _ _ ⟨(blk_cell BK429.out 0).trans rfl, (blk_cell BK429.out 1).trans rfl, (blk_cell BK429.out 2).trans rfl, (blk_cell BK429.out 3).trans rfl, (blk_cell BK430.out 0).trans rfl, (blk_cell BK430.out 1).trans rfl, (blk_cell BK430.out 2).trans rfl, (blk_cell BK430.out 3).trans rfl⟩ (fun hHeld => ?_)
              clear hK K
              refine norm_ (a' := ?_) ?_ ?_
              rotate_left
              · show Act.put _ (some 45) _ = _
                simp only [Act.put, List.setIfInBounds_toArray, List.set_cons_zero, List.set_cons_succ, i64_w, i32_w]
                rfl
              refine pure_ (i := 17) (N := some 46) (v := ?_) (a' := ?_) #[true, true, true, true, true, true, true, true, true, true, true, true, true, true, true, true, true, true, false, false, false, false, false, false, false, false, false, false, false, false, false, false, false, false, false, false, false, false] rfl rfl (any_of HT_.out (by kernel_rfl)) (fun _ _ _ h => h) (Or.inl ⟨by rfl, ?_⟩) ?_ ?_
              rotate_left
              · intro w'
                go_simp
                with_reducible rfl
              rotate_left
              · simp only [Act.put, List.setIfInBounds_toArray, List.set_cons_zero, List.set_cons_succ, i64_w, i32_w]
                rfl
              refine pure_ (i := 18) (N := some 47) (v := ?_) (a' := ?_) #[true, true, true, true, true, true, true, true, true, true, true, true, true, true, true, true, true, true, true, false, false, false, false, false, false, false, false, false, false, false, false, false, false, false, false, false, false, false] rfl rfl (any_of HT_.out (by kernel_rfl)) (fun _ _ _ h => h) (Or.inl ⟨by rfl, ?_⟩) ?_ ?_
              rotate_left
              · intro w'
                go_simp
                with_reducible rfl
              rotate_left
              · simp only [Act.put, List.setIfInBounds_toArray, List.set_cons_zero, List.set_cons_succ, i64_w, i32_w]
                rfl
              refine pure_ (i := 19) (N := some 48) (v := ?_) (a' := ?_) #[true, true, true, true, true, true, true, true, true, true, true, true, true, true, true, true, true, true, true, true, false, false, false, false, false, false, false, false, false, false, false, false, false, false, false, false, false, false] rfl rfl (any_of HT_.out (by kernel_rfl)) (fun _ _ _ h => h) (Or.inl ⟨by rfl, ?_⟩) ?_ ?_
              rotate_left
              · intro w'
                go_simp
                with_reducible rfl
              rotate_left
              · simp only [Act.put, List.setIfInBounds_toArray, List.set_cons_zero, List.set_cons_succ, i64_w, i32_w]
                rfl
              refine pure_ (i := 20) (N := some 49) (v := ?_) (a' := ?_) #[true, true, true, true, true, true, true, true, true, true, true, true, true, true, true, true, true, true, true, true, true, false, false, false, false, false, false, false, false, false, false, false, false, false, false, false, false, false] rfl rfl (any_of HT_.out (by kernel_rfl)) (fun _ _ _ h => h) (Or.inl ⟨by rfl, ?_⟩) ?_ ?_
              rotate_left
              · intro w'
                go_simp
                with_reducible rfl
              rotate_left
              · simp only [Act.put, List.setIfInBounds_toArray, List.set_cons_zero, List.set_cons_succ, i64_w, i32_w]
                rfl
              refine pure_ (i := 22) (N := some 51) (v := ?_) (a' := ?_) #[true, true, true, true, true, true, true, true, true, true, true, true, true, true, true, true, true, true, true, true, true, false, true, false, false, false, false, false, false, false, false, false, false, false, false, false, false, false] rfl rfl (any_of HT_.out (by kernel_rfl)) (fun _ _ _ h => h) (Or.inl ⟨by rfl, ?_⟩) ?_ ?_
              rotate_left
              · intro w'
                go_simp
                with_reducible rfl
              rotate_left
              · simp only [Act.put, List.setIfInBounds_toArray, List.set_cons_zero, List.set_cons_succ, i64_w, i32_w]
                rfl
              refine pure_ (i := 24) (N := some 53) (v := ?_) (a' := ?_) #[true, true, true, true, true, true, true, true, true, true, true, true, true, true, true, true, true, true, true, true, true, false, true, false, true, false, false, false, false, false, false, false, false, false, false, false, false, false] rfl rfl (any_of HT_.out (by kernel_rfl)) (fun _ _ _ h => h) (Or.inl ⟨by rfl, ?_⟩) ?_ ?_
              rotate_left
              · intro w'
                go_simp
                with_reducible rfl
              rotate_left
              · simp only [Act.put, List.setIfInBounds_toArray, List.set_cons_zero, List.set_cons_succ, i64_w, i32_w]
                rfl
              refine pure_ (i := 27) (N := some 56) (v := ?_) (a' := ?_) #[true, true, true, true, true, true, true, true, true, true, true, true, true, true, true, true, true, true, true, true, true, false, true, false, true, false, false, true, false, false, false, false, false, false, false, false, false, false] rfl rfl (any_of HT_.out (by kernel_rfl)) (fun _ _ _ h => h) (Or.inl ⟨by rfl, ?_⟩) ?_ ?_
              rotate_left
              · intro w'
                go_simp
                with_reducible rfl
              rotate_left
              · simp only [Act.put, List.setIfInBounds_toArray, List.set_cons_zero, List.set_cons_succ, i64_w, i32_w]
                rfl
              refine pure_ (i := 29) (N := some 58) (v := ?_) (a' := ?_) #[true, true, true, true, true, true, true, true, true, true, true, true, true, true, true, true, true, true, true, true, true, false, true, false, true, false, false, true, false, true, false, false, false, false, false, false, false, false] rfl rfl (any_of HT_.out (by kernel_rfl)) (fun _ _ _ h => h) (Or.inl ⟨by rfl, ?_⟩) ?_ ?_
              rotate_left
              · intro w'
                go_simp
                with_reducible rfl
              rotate_left
              · simp only [Act.put, List.setIfInBounds_toArray, List.set_cons_zero, List.set_cons_succ, i64_w, i32_w]
                rfl
              refine pure_ (i := 31) (N := some 60) (v := ?_) (a' := ?_) #[true, true, true, true, true, true, true, true, true, true, true, true, true, true, true, true, true, true, true, true, true, false, true, false, true, false, false, true, false, true, false, true, false, false, false, false, false, false] rfl rfl (any_of HT_.out (by kernel_rfl)) (fun _ _ _ h => h) (Or.inl ⟨by rfl, ?_⟩) ?_ ?_
              rotate_left
              · intro w'
                go_simp
                with_reducible rfl
              rotate_left
              · simp only [Act.put, List.setIfInBounds_toArray, List.set_cons_zero, List.set_cons_succ, i64_w, i32_w]
                rfl
              refine take_ (i := 21) (N := some 50) (v := ?_) (a' := ?_) #[true, true, true, true, true, true, true, true, true, true, true, true, true, true, true, true, true, true, true, true, true, true, true, false, true, false, false, true, false, true, false, true, false, false, false, false, false, false] rfl rfl (take_ofW HT_.out HW_.out (by kernel_rfl)) (fun _ _ _ h => h) (Or.inl ⟨by rfl, ?_⟩) hHeld ?_ ?_
              rotate_left
              · rintro w' ⟨s0, s1, s2, s3, s4, s5, s6, s7⟩
                go_simp
                with_reducible rfl
              rotate_left
              · simp only [Act.put, List.setIfInBounds_toArray, List.set_cons_zero, List.set_cons_succ, i64_w, i32_w]
                rfl
              refine take_ (i := 23) (N := some 52) (v := ?_) (a' := ?_) #[true, true, true, true, true, true, true, true, true, true, true, true, true, true, true, true, true, true, true, true, true, true, true, true, true, false, false, true, false, true, false, true, false, false, false, false, false, false] rfl rfl (take_ofW HT_.out HW_.out (by kernel_rfl)) (fun _ _ _ h => h) (Or.inl ⟨by rfl, ?_⟩) hHeld ?_ ?_
              rotate_left
              · rintro w' ⟨s0, s1, s2, s3, s4, s5, s6, s7⟩
                go_simp
                with_reducible rfl
              rotate_left
              · simp only [Act.put, List.setIfInBounds_toArray, List.set_cons_zero, List.set_cons_succ, i64_w, i32_w]
                rfl
              refine take_ (i := 25) (N := some 54) (v := ?_) (a' := ?_) #[true, true, true, true, true, true, true, true, true, true, true, true, true, true, true, true, true, true, true, true, true, true, true, true, true, true, false, true, false, true, false, true, false, false, false, false, false, false] rfl rfl (take_ofW HT_.out HW_.out (by kernel_rfl)) (fun _ _ _ h => h) (Or.inl ⟨by rfl, ?_⟩) hHeld ?_ ?_
              rotate_left
              · rintro w' ⟨s0, s1, s2, s3, s4, s5, s6, s7⟩
                go_simp
                with_reducible rfl
              rotate_left
              · simp only [Act.put, List.setIfInBounds_toArray, List.set_cons_zero, List.set_cons_succ, i64_w, i32_w]
                rfl
              refine take_ (i := 28) (N := some 57) (v := ?_) (a' := ?_) #[true, true, true, true, true, true, true, true, true, true, true, true, true, true, true, true, true, true, true, true, true, true, true, true, true, true, false, true, true, true, false, true, false, false, false, false, false, false] rfl rfl (take_ofW HT_.out HW_.out (by kernel_rfl)) (fun _ _ _ h => h) (Or.inl ⟨by rfl, ?_⟩) hHeld ?_ ?_
              rotate_left
              · rintro w' ⟨s0, s1, s2, s3, s4, s5, s6, s7⟩
                go_simp
                with_reducible rfl
              rotate_left
              · simp only [Act.put, List.setIfInBounds_toArray, List.set_cons_zero, List.set_cons_succ, i64_w, i32_w]
                rfl
              refine take_ (i := 30) (N := some 59) (v := ?_) (a' := ?_) #[true, true, true, true, true, true, true, true, true, true, true, true, true, true, true, true, true, true, true, true, true, true, true, true, true, true, false, true, true, true, true, true, false, false, false, false, false, false] rfl rfl (take_ofW HT_.out HW_.out (by kernel_rfl)) (fun _ _ _ h => h) (Or.inl ⟨by rfl, ?_⟩) hHeld ?_ ?_
              rotate_left
              · rintro w' ⟨s0, s1, s2, s3, s4, s5, s6, s7⟩
                go_simp
                with_reducible rfl
              rotate_left
              · simp only [Act.put, List.setIfInBounds_toArray, List.set_cons_zero, List.set_cons_succ, i64_w, i32_w]
                rfl
              refine take_ (i := 32) (N := some 61) (v := ?_) (a' := ?_) #[true, true, true, true, true, true, true, true, true, true, true, true, true, true, true, true, true, true, true, true, true, true, true, true, true, true, false, true, true, true, true, true, true, false, false, false, false, false] rfl rfl (take_ofW HT_.out HW_.out (by kernel_rfl)) (fun _ _ _ h => h) (Or.inl ⟨by rfl, ?_⟩) hHeld ?_ ?_
              rotate_left
              · rintro w' ⟨s0, s1, s2, s3, s4, s5, s6, s7⟩
                go_simp
                with_reducible rfl
              rotate_left
              · simp only [Act.put, List.setIfInBounds_toArray, List.set_cons_zero, List.set_cons_succ, i64_w, i32_w]
                rfl
              refine one_ (i := 26) (N := some 55) #[true, true, true, true, true, true, true, true, true, true, true, true, true, true, true, true, true, true, true, true, true, true, true, true, true, true, true, true, true, true, true, true, true, false, false, false, false, false] rfl rfl (one_of HT_.out (by kernel_rfl)) (by decide) (fun K hK => ?_)
              refine goes_ Try.func19 (by kernel_rfl) rfl #[.agg #[.int .i64 a1_0, .int .i64 a1_1], .agg #[.int .i64 a1_2, .int .i64 a1_3], .agg #[.int .i64 a0_0, .int .i64 a0_1]] (by rfl) rfl rfl (by (try simp only [List.map_toArray, List.map_cons, List.map_nil]); first | done | rfl | (simp only [List.length_drop, List.length_take]; rfl)) ?_
              with_reducible refine (plane_Turn.calls a1_0 a1_1 a1_2 a1_3 a0_0 a0_1 t437 _ A35.out).mono ?_
              rintro e w40 ⟨rfl, hb⟩
              refine ⟨_, rfl, ?_⟩
              have n0_ := Aside0.mk (blk_below (g := gb429) (o := .cells #[.int .i64 a0_0, .int .i64 a0_1, .int .i64 a0_2, .int .i64 a0_3] 34 (0, 0)) (by (with_reducible repeat (first | refine blk_drewN ?_ _ | refine blk_drew ?_ | refine blk_alloc ?_ _)); exact BK429.out) hb)
              have n1_ := Aside0.mk (blk_below (g := gb430) (o := .cells #[.int .i64 a1_0, .int .i64 a1_1, .int .i64 a1_2, .int .i64 a1_3] 34 (0, 0)) (by (with_reducible repeat (first | refine blk_drewN ?_ _ | refine blk_drew ?_ | refine blk_alloc ?_ _)); exact BK430.out) hb)
              have n2_ := Aside0.mk (blk_below (g := gb432) (o := .cells #[.int .i64 a0_2, .int .i64 a0_3, .int .i64 a0_0, .int .i64 a0_1] 34 (0, 0)) (by (with_reducible repeat (first | refine blk_drewN ?_ _ | refine blk_drew ?_ | refine blk_alloc ?_ _)); exact BK432.out) hb)
              have n3_ := Aside0.mk (below_step (by repeat (first | (with_reducible first | exact HB.out | apply below_alloc | apply pw_below_drewN | apply below_drew1 | refine below_set ?_ GE429.out | refine below_set ?_ GE430.out | refine below_set ?_ GE432.out) | exact HB.out)) hb)
              clear BK429
              clear BK430
              clear BK432
              clear HB
              have BK429 := n0_
              have BK430 := n1_
              have BK432 := n2_
              have HB := n3_
              clear n0_ n1_ n2_ n3_
              (try clear hb)
              (try clear hb2)
              (try clear hk)
              (try clear hi)
              refine hK.out _ _ ⟨(blk_cell BK429.out 0).trans rfl, (blk_cell BK429.out 1).trans rfl, (blk_cell BK429.out 2).trans rfl, (blk_cell BK429.out 3).trans rfl, (blk_cell BK430.out 0).trans rfl, (blk_cell BK430.out 1).trans rfl, (blk_cell BK430.out 2).trans rfl, (blk_cell BK430.out 3).trans rfl⟩ (fun hHeld => ?_)
              clear hK K
              refine norm_ (a' := ?_) ?_ ?_
              rotate_left
              · show Act.put _ (some 55) _ = _
                simp only [Act.put, List.setIfInBounds_toArray, List.set_cons_zero, List.set_cons_succ, i64_w, i32_w]
                rfl
              refine one_ (i := 33) (N := some 62) #[true, true, true, true, true, true, true, true, true, true, true, true, true, true, true, true, true, true, true, true, true, true, true, true, true, true, true, true, true, true, true, true, true, true, false, false, false, false] rfl rfl (one_of HT_.out (by kernel_rfl)) (by decide) (fun K hK => ?_)
              refine goes_ Try.func19 (by kernel_rfl) rfl #[.agg #[.int .i64 a1_0, .int .i64 a1_1], .agg #[.int .i64 a1_2, .int .i64 a1_3], .agg #[.int .i64 a0_2, .int .i64 a0_3]] (by rfl) rfl rfl (by (try simp only [List.map_toArray, List.map_cons, List.map_nil]); first | done | rfl | (simp only [List.length_drop, List.length_take]; rfl)) ?_
              with_reducible refine (plane_Turn.calls a1_0 a1_1 a1_2 a1_3 a0_2 a0_3 t438 _ A36.out).mono ?_
              rintro e w41 ⟨rfl, hb⟩
              refine ⟨_, rfl, ?_⟩
              have n0_ := Aside0.mk (blk_below (g := gb429) (o := .cells #[.int .i64 a0_0, .int .i64 a0_1, .int .i64 a0_2, .int .i64 a0_3] 34 (0, 0)) (by (with_reducible repeat (first | refine blk_drewN ?_ _ | refine blk_drew ?_ | refine blk_alloc ?_ _)); exact BK429.out) hb)
              have n1_ := Aside0.mk (blk_below (g := gb430) (o := .cells #[.int .i64 a1_0, .int .i64 a1_1, .int .i64 a1_2, .int .i64 a1_3] 34 (0, 0)) (by (with_reducible repeat (first | refine blk_drewN ?_ _ | refine blk_drew ?_ | refine blk_alloc ?_ _)); exact BK430.out) hb)
              have n2_ := Aside0.mk (blk_below (g := gb432) (o := .cells #[.int .i64 a0_2, .int .i64 a0_3, .int .i64 a0_0, .int .i64 a0_1] 34 (0, 0)) (by (with_reducible repeat (first | refine blk_drewN ?_ _ | refine blk_drew ?_ | refine blk_alloc ?_ _)); exact BK432.out) hb)
              have n3_ := Aside0.mk (below_step (by repeat (first | (with_reducible first | exact HB.out | apply below_alloc | apply pw_below_drewN | apply below_drew1 | refine below_set ?_ GE429.out | refine below_set ?_ GE430.out | refine below_set ?_ GE432.out) | exact HB.out)) hb)
              clear BK429
              clear BK430
              clear BK432
              clear HB
              have BK429 := n0_
              have BK430 := n1_
              have BK432 := n2_
              have HB := n3_
              clear n0_ n1_ n2_ n3_
              (try clear hb)
              (try clear hb2)
              (try clear hk)
              (try clear hi)
              refine hK.out _ _ ⟨(blk_cell BK429.out 0).trans rfl, (blk_cell BK429.out 1).trans rfl, (blk_cell BK429.out 2).trans rfl, (blk_cell BK429.out 3).trans rfl, (blk_cell BK430.out 0).trans rfl, (blk_cell BK430.out 1).trans rfl, (blk_cell BK430.out 2).trans rfl, (blk_cell BK430.out 3).trans rfl⟩ (fun hHeld => ?_)
              clear hK K
              refine norm_ (a' := ?_) ?_ ?_
              rotate_left
              · show Act.put _ (some 62) _ = _
                simp only [Act.put, List.setIfInBounds_toArray, List.set_cons_zero, List.set_cons_succ, i64_w, i32_w]
                rfl
              refine pure_ (i := 34) (N := some 63) (v := ?_) (a' := ?_) #[true, true, true, true, true, true, true, true, true, true, true, true, true, true, true, true, true, true, true, true, true, true, true, true, true, true, true, true, true, true, true, true, true, true, true, false, false, false] rfl rfl (any_of HT_.out (by kernel_rfl)) (fun _ _ _ h => h) (Or.inl ⟨by rfl, ?_⟩) ?_ ?_
              rotate_left
              · intro w'
                go_simp
                with_reducible rfl
              rotate_left
              · simp only [Act.put, List.setIfInBounds_toArray, List.set_cons_zero, List.set_cons_succ, i64_w, i32_w]
                rfl
              refine pure_ (i := 35) (N := some 64) (v := ?_) (a' := ?_) #[true, true, true, true, true, true, true, true, true, true, true, true, true, true, true, true, true, true, true, true, true, true, true, true, true, true, true, true, true, true, true, true, true, true, true, true, false, false] rfl rfl (any_of HT_.out (by kernel_rfl)) (fun _ _ _ h => h) (Or.inl ⟨by rfl, ?_⟩) ?_ ?_
              rotate_left
              · intro w'
                go_simp
                with_reducible rfl
              rotate_left
              · simp only [Act.put, List.setIfInBounds_toArray, List.set_cons_zero, List.set_cons_succ, i64_w, i32_w]
                rfl
              refine pure_ (i := 36) (N := some 65) (v := ?_) (a' := ?_) #[true, true, true, true, true, true, true, true, true, true, true, true, true, true, true, true, true, true, true, true, true, true, true, true, true, true, true, true, true, true, true, true, true, true, true, true, true, false] rfl rfl (any_of HT_.out (by kernel_rfl)) (fun _ _ _ h => h) (Or.inl ⟨by rfl, ?_⟩) ?_ ?_
              rotate_left
              · intro w'
                go_simp
                with_reducible rfl
              rotate_left
              · simp only [Act.put, List.setIfInBounds_toArray, List.set_cons_zero, List.set_cons_succ, i64_w, i32_w]
                rfl
              refine pure_ (i := 37) (N := some 66) (v := ?_) (a' := ?_) #[true, true, true, true, true, true, true, true, true, true, true, true, true, true, true, true, true, true, true, true, true, true, true, true, true, true, true, true, true, true, true, true, true, true, true, true, true, true] rfl rfl (any_of HT_.out (by kernel_rfl)) (fun _ _ _ h => h) (Or.inl ⟨by rfl, ?_⟩) ?_ ?_
              rotate_left
              · intro w'
                go_simp
                with_reducible rfl
              rotate_left
              · simp only [Act.put, List.setIfInBounds_toArray, List.set_cons_zero, List.set_cons_succ, i64_w, i32_w]
                rfl
              refine done_ (done_of HT_.out (by kernel_rfl)) ?_
              try go_wp2
              go_meet
              case rel => exact ⟨_, (decide ((wrap64 (t437 * t438)) > 0)), (by first | rfl | (simp; done) | (simp [*]; done)), H', ⟨by have := HJ3.out; first | omega | exact Nat.le_refl _⟩, ⟨by (with_reducible repeat (first | refine blk_drewN ?_ _ | refine blk_drew ?_ | refine blk_alloc ?_ _)); exact BK429.out⟩, ⟨by (with_reducible repeat (first | refine blk_drewN ?_ _ | refine blk_drew ?_ | refine blk_alloc ?_ _)); exact BK430.out⟩, ⟨by (with_reducible repeat (first | refine blk_drewN ?_ _ | refine blk_drew ?_ | refine blk_alloc ?_ _)); exact BK432.out⟩, ⟨by repeat (first | (with_reducible first | exact HB.out | apply below_alloc | apply pw_below_drewN | apply below_drew1 | refine below_set ?_ GE429.out | refine below_set ?_ GE430.out | refine below_set ?_ GE432.out) | exact HB.out)⟩⟩
        case rest =>
          clear HC29
          try clear c1
          try clear p2
          try clear c3
          try clear p6
          try clear c19
          try clear c30
          try clear c30b0
          try clear c30b1
          try clear c34
          try clear c34b0
          obtain ⟨kq, x66_28, rfl, HA, HJ28, BK429, BK430, BK432, HB⟩ := hcut
          cases kq with
          | zero => exact absurd HA.out (by simp [boundstonelaw02_PlaneSegmentsFair.j1])
          | succ kj28 =>
            have H := HA.out
            clear HA
            simp only [boundstonelaw02_PlaneSegmentsFair.j1] at H
            by_cases c42 : x66_28 = true
            · subst c42
              have H1 : (none) = some r := by rw [if_pos rfl] at H; exact H
              clear H
              have H := H1
              clear H1
              exact absurd H (by simp)
            · replace c42 := Bool.eq_false_iff.mpr c42
              subst c42
              have H1 : ((plane_On.f a0_0 a0_1 a0_2 a0_3 a0_0 a0_1).bind fun t439 => (if t439 = true then ((plane_On.f a1_0 a1_1 a1_2 a1_3 a1_0 a1_1).bind fun t440 => (boundstonelaw02_PlaneSegmentsFair.j2 kj28 t431 t440 a0_0 a0_1 a0_2 a0_3 a1_0 a1_1 a1_2 a1_3)) else (boundstonelaw02_PlaneSegmentsFair.j2 kj28 t431 false a0_0 a0_1 a0_2 a0_3 a1_0 a1_1 a1_2 a1_3))) = some r := by rw [if_neg (show ¬ (false = true) by decide)] at H; exact H
              clear H
              have H := H1
              clear H1
              have HC43 := Aside0.mk H
              clear H
              go_upto_region 7 with (fail)
              go_cut [7] (fun v7 wc => ∃ (kq : Nat) (x7_42 : Bool), v7 = .bool x7_42 ∧ Aside0 (boundstonelaw02_PlaneSegmentsFair.j2 kq t431 x7_42 a0_0 a0_1 a0_2 a0_3 a1_0 a1_1 a1_2 a1_3 = some r) ∧ Aside0 (kq ≤ kj28) ∧ Aside0 (wc.heap[gb429]? = some (.cells #[.int .i64 a0_0, .int .i64 a0_1, .int .i64 a0_2, .int .i64 a0_3] 34 (0, 0))) ∧ Aside0 (wc.heap[gb430]? = some (.cells #[.int .i64 a1_0, .int .i64 a1_1, .int .i64 a1_2, .int .i64 a1_3] 34 (0, 0))) ∧ Aside0 (wc.heap[gb432]? = some (.cells #[.int .i64 a0_2, .int .i64 a0_3, .int .i64 a0_0, .int .i64 a0_1] 34 (0, 0))) ∧ Aside0 (Below w.heap.size w wc))
              case first =>
                have H := HC43.out
                clear HC43
                replace H := Option.bind_eq_some_iff.mp H
                obtain ⟨t439, A440, H⟩ := H
                replace H : (if t439 = true then ((plane_On.f a1_0 a1_1 a1_2 a1_3 a1_0 a1_1).bind fun t440 => (boundstonelaw02_PlaneSegmentsFair.j2 kj28 t431 t440 a0_0 a0_1 a0_2 a0_3 a1_0 a1_1 a1_2 a1_3)) else (boundstonelaw02_PlaneSegmentsFair.j2 kj28 t431 false a0_0 a0_1 a0_2 a0_3 a1_0 a1_1 a1_2 a1_3)) = some r := H
                have A44 := Aside0.mk A440
                clear A440
                by_cases c45 : t439 = true
                · subst c45
                  have H1 : ((plane_On.f a1_0 a1_1 a1_2 a1_3 a1_0 a1_1).bind fun t440 => (boundstonelaw02_PlaneSegmentsFair.j2 kj28 t431 t440 a0_0 a0_1 a0_2 a0_3 a1_0 a1_1 a1_2 a1_3)) = some r := by rw [if_pos rfl] at H; exact H
                  clear H
                  have H := H1
                  clear H1
                  replace H := Option.bind_eq_some_iff.mp H
                  obtain ⟨t440, A460, H⟩ := H
                  replace H : (boundstonelaw02_PlaneSegmentsFair.j2 kj28 t431 t440 a0_0 a0_1 a0_2 a0_3 a1_0 a1_1 a1_2 a1_3) = some r := H
                  have A46 := Aside0.mk A460
                  clear A460
                  have H' := Aside0.mk H
                  clear H
                  have hnb47 := NB429_430.out
                  have hnc47 := NB430_429.out
                  have hnb48 := NB429_432.out
                  have hnc48 := NB432_429.out
                  have hcz49_0 : wc.cell? ⟨gb429, 0, none⟩ = some (.int .i64 a0_0) := (blk_cell BK429.out 0).trans rfl
                  have hcz49_1 : wc.cell? ⟨gb429, 1, none⟩ = some (.int .i64 a0_1) := (blk_cell BK429.out 1).trans rfl
                  have hcz49_2 : wc.cell? ⟨gb429, 2, none⟩ = some (.int .i64 a0_2) := (blk_cell BK429.out 2).trans rfl
                  have hcz49_3 : wc.cell? ⟨gb429, 3, none⟩ = some (.int .i64 a0_3) := (blk_cell BK429.out 3).trans rfl
                  have hfz49_0 := blk_frozen BK429.out 0
                  have hfz49_1 := blk_frozen BK429.out 1
                  have hfz49_2 := blk_frozen BK429.out 2
                  have hfz49_3 := blk_frozen BK429.out 3
                  go_wp2_with (first | ((with_reducible refine gate_callee (f := 26) rfl ?_); refine goesL_ (some 70) rfl rfl Try.func26 (by kernel_rfl) rfl #[.agg #[.int .i64 a0_0, .int .i64 a0_1, .int .i64 a0_2, .int .i64 a0_3], .agg #[.int .i64 a0_0, .int .i64 a0_1]] rfl (by (try simp only [List.map_toArray, List.map_cons, List.map_nil]); first | done | rfl | (simp only [List.length_drop, List.length_take]; rfl)) ?_; (with_reducible refine (plane_On.calls a0_0 a0_1 a0_2 a0_3 a0_0 a0_1 true _ A44.out).mono ?_); rintro e w50 ⟨rfl, hb⟩; refine ⟨_, rfl, ?_⟩; have n0_ := Aside0.mk (blk_below (g := gb429) (o := .cells #[.int .i64 a0_0, .int .i64 a0_1, .int .i64 a0_2, .int .i64 a0_3] 34 (0, 0)) (by (with_reducible repeat (first | refine blk_drewN ?_ _ | refine blk_drew ?_ | refine blk_alloc ?_ _)); exact BK429.out) hb); have n1_ := Aside0.mk (blk_below (g := gb430) (o := .cells #[.int .i64 a1_0, .int .i64 a1_1, .int .i64 a1_2, .int .i64 a1_3] 34 (0, 0)) (by (with_reducible repeat (first | refine blk_drewN ?_ _ | refine blk_drew ?_ | refine blk_alloc ?_ _)); exact BK430.out) hb); have n2_ := Aside0.mk (blk_below (g := gb432) (o := .cells #[.int .i64 a0_2, .int .i64 a0_3, .int .i64 a0_0, .int .i64 a0_1] 34 (0, 0)) (by (with_reducible repeat (first | refine blk_drewN ?_ _ | refine blk_drew ?_ | refine blk_alloc ?_ _)); exact BK432.out) hb); have n3_ := Aside0.mk (below_step (by repeat (first | (with_reducible first | exact HB.out | apply below_alloc | apply pw_below_drewN | apply below_drew1 | refine below_set ?_ GE429.out | refine below_set ?_ GE430.out | refine below_set ?_ GE432.out) | exact HB.out)) hb); clear BK429; clear BK430; clear BK432; clear HB; have BK429 := n0_; have BK430 := n1_; have BK432 := n2_; have HB := n3_; clear n0_ n1_ n2_ n3_; (try clear hb); (try clear hb2); (try clear hk); (try clear hi); have hnb51 := NB430_432.out; have hnc51 := NB432_430.out; have hcz52_0 : w50.cell? ⟨gb430, 0, none⟩ = some (.int .i64 a1_0) := (blk_cell BK430.out 0).trans rfl; have hcz52_1 : w50.cell? ⟨gb430, 1, none⟩ = some (.int .i64 a1_1) := (blk_cell BK430.out 1).trans rfl; have hcz52_2 : w50.cell? ⟨gb430, 2, none⟩ = some (.int .i64 a1_2) := (blk_cell BK430.out 2).trans rfl; have hcz52_3 : w50.cell? ⟨gb430, 3, none⟩ = some (.int .i64 a1_3) := (blk_cell BK430.out 3).trans rfl; have hfz52_0 := blk_frozen BK430.out 0; have hfz52_1 := blk_frozen BK430.out 1; have hfz52_2 := blk_frozen BK430.out 2; have hfz52_3 := blk_frozen BK430.out 3) | (go_at_call 26; (with_reducible refine (plane_On.calls a1_0 a1_1 a1_2 a1_3 a1_0 a1_1 t440 _ A46.out).mono ?_); rintro e w53 ⟨rfl, hb⟩; have n0_ := Aside0.mk (blk_below (g := gb429) (o := .cells #[.int .i64 a0_0, .int .i64 a0_1, .int .i64 a0_2, .int .i64 a0_3] 34 (0, 0)) (by (with_reducible repeat (first | refine blk_drewN ?_ _ | refine blk_drew ?_ | refine blk_alloc ?_ _)); exact BK429.out) hb); have n1_ := Aside0.mk (blk_below (g := gb430) (o := .cells #[.int .i64 a1_0, .int .i64 a1_1, .int .i64 a1_2, .int .i64 a1_3] 34 (0, 0)) (by (with_reducible repeat (first | refine blk_drewN ?_ _ | refine blk_drew ?_ | refine blk_alloc ?_ _)); exact BK430.out) hb); have n2_ := Aside0.mk (blk_below (g := gb432) (o := .cells #[.int .i64 a0_2, .int .i64 a0_3, .int .i64 a0_0, .int .i64 a0_1] 34 (0, 0)) (by (with_reducible repeat (first | refine blk_drewN ?_ _ | refine blk_drew ?_ | refine blk_alloc ?_ _)); exact BK432.out) hb); have n3_ := Aside0.mk (below_step (by repeat (first | (with_reducible first | exact HB.out | apply below_alloc | apply pw_below_drewN | apply below_drew1 | refine below_set ?_ GE429.out | refine below_set ?_ GE430.out | refine below_set ?_ GE432.out) | exact HB.out)) hb); clear BK429; clear BK430; clear BK432; clear HB; have BK429 := n0_; have BK430 := n1_; have BK432 := n2_; have HB := n3_; clear n0_ n1_ n2_ n3_; (try clear hb); (try clear hb2); (try clear hk); (try clear hi)))
                  go_meet
                  case rel => exact ⟨_, (t440), (by first | rfl | (simp; done) | (simp [*]; done)), H', ⟨by have := HJ3.out; have := HJ28.out; first | omega | exact Nat.le_refl _⟩, ⟨by (with_reducible repeat (first | refine blk_drewN ?_ _ | refine blk_drew ?_ | refine blk_alloc ?_ _)); exact BK429.out⟩, ⟨by (with_reducible repeat (first | refine blk_drewN ?_ _ | refine blk_drew ?_ | refine blk_alloc ?_ _)); exact BK430.out⟩, ⟨by (with_reducible repeat (first | refine blk_drewN ?_ _ | refine blk_drew ?_ | refine blk_alloc ?_ _)); exact BK432.out⟩, ⟨by repeat (first | (with_reducible first | exact HB.out | apply below_alloc | apply pw_below_drewN | apply below_drew1 | refine below_set ?_ GE429.out | refine below_set ?_ GE430.out | refine below_set ?_ GE432.out) | exact HB.out)⟩⟩
                · replace c45 := Bool.eq_false_iff.mpr c45
                  subst c45
                  have H1 : (boundstonelaw02_PlaneSegmentsFair.j2 kj28 t431 false a0_0 a0_1 a0_2 a0_3 a1_0 a1_1 a1_2 a1_3) = some r := by rw [if_neg (show ¬ (false = true) by decide)] at H; exact H
                  clear H
                  have H := H1
                  clear H1
                  have H' := Aside0.mk H
                  clear H
                  have hnb54 := NB429_430.out
                  have hnc54 := NB430_429.out
                  have hnb55 := NB429_432.out
                  have hnc55 := NB432_429.out
                  have hcz56_0 : wc.cell? ⟨gb429, 0, none⟩ = some (.int .i64 a0_0) := (blk_cell BK429.out 0).trans rfl
                  have hcz56_1 : wc.cell? ⟨gb429, 1, none⟩ = some (.int .i64 a0_1) := (blk_cell BK429.out 1).trans rfl
                  have hcz56_2 : wc.cell? ⟨gb429, 2, none⟩ = some (.int .i64 a0_2) := (blk_cell BK429.out 2).trans rfl
                  have hcz56_3 : wc.cell? ⟨gb429, 3, none⟩ = some (.int .i64 a0_3) := (blk_cell BK429.out 3).trans rfl
                  have hfz56_0 := blk_frozen BK429.out 0
                  have hfz56_1 := blk_frozen BK429.out 1
                  have hfz56_2 := blk_frozen BK429.out 2
                  have hfz56_3 := blk_frozen BK429.out 3
                  go_wp2_with (first | ((with_reducible refine gate_callee (f := 26) rfl ?_); refine goesL_ (some 70) rfl rfl Try.func26 (by kernel_rfl) rfl #[.agg #[.int .i64 a0_0, .int .i64 a0_1, .int .i64 a0_2, .int .i64 a0_3], .agg #[.int .i64 a0_0, .int .i64 a0_1]] rfl (by (try simp only [List.map_toArray, List.map_cons, List.map_nil]); first | done | rfl | (simp only [List.length_drop, List.length_take]; rfl)) ?_; (with_reducible refine (plane_On.calls a0_0 a0_1 a0_2 a0_3 a0_0 a0_1 false _ A44.out).mono ?_); rintro e w57 ⟨rfl, hb⟩; refine ⟨_, rfl, ?_⟩; have n0_ := Aside0.mk (blk_below (g := gb429) (o := .cells #[.int .i64 a0_0, .int .i64 a0_1, .int .i64 a0_2, .int .i64 a0_3] 34 (0, 0)) (by (with_reducible repeat (first | refine blk_drewN ?_ _ | refine blk_drew ?_ | refine blk_alloc ?_ _)); exact BK429.out) hb); have n1_ := Aside0.mk (blk_below (g := gb430) (o := .cells #[.int .i64 a1_0, .int .i64 a1_1, .int .i64 a1_2, .int .i64 a1_3] 34 (0, 0)) (by (with_reducible repeat (first | refine blk_drewN ?_ _ | refine blk_drew ?_ | refine blk_alloc ?_ _)); exact BK430.out) hb); have n2_ := Aside0.mk (blk_below (g := gb432) (o := .cells #[.int .i64 a0_2, .int .i64 a0_3, .int .i64 a0_0, .int .i64 a0_1] 34 (0, 0)) (by (with_reducible repeat (first | refine blk_drewN ?_ _ | refine blk_drew ?_ | refine blk_alloc ?_ _)); exact BK432.out) hb); have n3_ := Aside0.mk (below_step (by repeat (first | (with_reducible first | exact HB.out | apply below_alloc | apply pw_below_drewN | apply below_drew1 | refine below_set ?_ GE429.out | refine below_set ?_ GE430.out | refine below_set ?_ GE432.out) | exact HB.out)) hb); clear BK429; clear BK430; clear BK432; clear HB; have BK429 := n0_; have BK430 := n1_; have BK432 := n2_; have HB := n3_; clear n0_ n1_ n2_ n3_; (try clear hb); (try clear hb2); (try clear hk); (try clear hi)))
                  go_meet
                  case rel => exact ⟨_, (false), (by first | rfl | (simp; done) | (simp [*]; done)), H', ⟨by have := HJ3.out; have := HJ28.out; first | omega | exact Nat.le_refl _⟩, ⟨by (with_reducible repeat (first | refine blk_drewN ?_ _ | refine blk_drew ?_ | refine blk_alloc ?_ _)); exact BK429.out⟩, ⟨by (with_reducible repeat (first | refine blk_drewN ?_ _ | refine blk_drew ?_ | refine blk_alloc ?_ _)); exact BK430.out⟩, ⟨by (with_reducible repeat (first | refine blk_drewN ?_ _ | refine blk_drew ?_ | refine blk_alloc ?_ _)); exact BK432.out⟩, ⟨by repeat (first | (with_reducible first | exact HB.out | apply below_alloc | apply pw_below_drewN | apply below_drew1 | refine below_set ?_ GE429.out | refine below_set ?_ GE430.out | refine below_set ?_ GE432.out) | exact HB.out)⟩⟩
              case rest =>
                clear HC43
                try clear c1
                try clear c2
                try clear p2
                try clear c3
                try clear c4
                try clear c5
                try clear p6
                try clear c19
                try clear c26
                try clear c30
                try clear c30b0
                try clear c30b1
                try clear c34
                try clear c34b0
                try clear c42
                try clear c45
                try clear c47
                try clear c48
                try clear c51
                try clear c54
                try clear c55
                try clear hcz49_0
                try clear hcz49_1
                try clear hcz49_2
                try clear hcz49_3
                try clear hcz52_0
                try clear hcz52_1
                try clear hcz52_2
                try clear hcz52_3
                try clear hcz56_0
                try clear hcz56_1
                try clear hcz56_2
                try clear hcz56_3
                try clear hfz49_0
                try clear hfz49_1
                try clear hfz49_2
                try clear hfz49_3
                try clear hfz52_0
                try clear hfz52_1
                try clear hfz52_2
                try clear hfz52_3
                try clear hfz56_0
                try clear hfz56_1
                try clear hfz56_2
                try clear hfz56_3
                try clear p2
                try clear p6
                obtain ⟨kq, x7_42, rfl, HA, HJ42, BK429, BK430, BK432, HB⟩ := hcut
                cases kq with
                | zero => exact absurd HA.out (by simp [boundstonelaw02_PlaneSegmentsFair.j2])
                | succ kj42 =>
                  have H := HA.out
                  clear HA
                  simp only [boundstonelaw02_PlaneSegmentsFair.j2] at H
                  have HC58 := Aside0.mk H
                  clear H
                  go_upto_region 8 with (fail)
                  go_cut [8] (fun v8 wc => ∃ (kq : Nat) (x8_57 : Bool), v8 = .bool x8_57 ∧ Aside0 (boundstonelaw02_PlaneSegmentsFair.j3 kq t431 x7_42 x8_57 = some r) ∧ Aside0 (kq ≤ kj42) ∧ Aside0 (wc.heap[gb429]? = some (.cells #[.int .i64 a0_0, .int .i64 a0_1, .int .i64 a0_2, .int .i64 a0_3] 34 (0, 0))) ∧ Aside0 (wc.heap[gb430]? = some (.cells #[.int .i64 a1_0, .int .i64 a1_1, .int .i64 a1_2, .int .i64 a1_3] 34 (0, 0))) ∧ Aside0 (wc.heap[gb432]? = some (.cells #[.int .i64 a0_2, .int .i64 a0_3, .int .i64 a0_0, .int .i64 a0_1] 34 (0, 0))) ∧ Aside0 (Below w.heap.size w wc))
                  case first =>
                    have H := HC58.out
                    clear HC58
                    replace H := Option.bind_eq_some_iff.mp H
                    obtain ⟨t441, A590, H⟩ := H
                    try dsimp only at H
                    have A59 := Aside0.mk A590
                    clear A590
                    by_cases c60 : t441 = true
                    · subst c60
                      have H1 : (boundstonelaw02_PlaneSegmentsFair.j3 kj42 t431 x7_42 true) = some r := by rw [if_pos rfl] at H; exact H
                      clear H
                      have H := H1
                      clear H1
                      have H' := Aside0.mk H
                      clear H
                      have hnb61 := NB429_430.out
                      have hnc61 := NB430_429.out
                      have hnb62 := NB429_432.out
                      have hnc62 := NB432_429.out
                      have hcz63_0 : wc.cell? ⟨gb429, 0, none⟩ = some (.int .i64 a0_0) := (blk_cell BK429.out 0).trans rfl
                      have hcz63_1 : wc.cell? ⟨gb429, 1, none⟩ = some (.int .i64 a0_1) := (blk_cell BK429.out 1).trans rfl
                      have hcz63_2 : wc.cell? ⟨gb429, 2, none⟩ = some (.int .i64 a0_2) := (blk_cell BK429.out 2).trans rfl
                      have hcz63_3 : wc.cell? ⟨gb429, 3, none⟩ = some (.int .i64 a0_3) := (blk_cell BK429.out 3).trans rfl
                      have hfz63_0 := blk_frozen BK429.out 0
                      have hfz63_1 := blk_frozen BK429.out 1
                      have hfz63_2 := blk_frozen BK429.out 2
                      have hfz63_3 := blk_frozen BK429.out 3
                      have hnb64 := NB430_432.out
                      have hnc64 := NB432_430.out
                      have hcz65_0 : wc.cell? ⟨gb430, 0, none⟩ = some (.int .i64 a1_0) := (blk_cell BK430.out 0).trans rfl
                      have hcz65_1 : wc.cell? ⟨gb430, 1, none⟩ = some (.int .i64 a1_1) := (blk_cell BK430.out 1).trans rfl
                      have hcz65_2 : wc.cell? ⟨gb430, 2, none⟩ = some (.int .i64 a1_2) := (blk_cell BK430.out 2).trans rfl
                      have hcz65_3 : wc.cell? ⟨gb430, 3, none⟩ = some (.int .i64 a1_3) := (blk_cell BK430.out 3).trans rfl
                      have hfz65_0 := blk_frozen BK430.out 0
                      have hfz65_1 := blk_frozen BK430.out 1
                      have hfz65_2 := blk_frozen BK430.out 2
                      have hfz65_3 := blk_frozen BK430.out 3
                      go_wp2_with (first | ((with_reducible refine gate_callee (f := 26) rfl ?_); refine goesL_ (some 80) rfl rfl Try.func26 (by kernel_rfl) rfl #[.agg #[.int .i64 a0_0, .int .i64 a0_1, .int .i64 a0_2, .int .i64 a0_3], .agg #[.int .i64 a1_0, .int .i64 a1_1]] rfl (by (try simp only [List.map_toArray, List.map_cons, List.map_nil]); first | done | rfl | (simp only [List.length_drop, List.length_take]; rfl)) ?_; (with_reducible refine (plane_On.calls a0_0 a0_1 a0_2 a0_3 a1_0 a1_1 true _ A59.out).mono ?_); rintro e w66 ⟨rfl, hb⟩; refine ⟨_, rfl, ?_⟩; have n0_ := Aside0.mk (blk_below (g := gb429) (o := .cells #[.int .i64 a0_0, .int .i64 a0_1, .int .i64 a0_2, .int .i64 a0_3] 34 (0, 0)) (by (with_reducible repeat (first | refine blk_drewN ?_ _ | refine blk_drew ?_ | refine blk_alloc ?_ _)); exact BK429.out) hb); have n1_ := Aside0.mk (blk_below (g := gb430) (o := .cells #[.int .i64 a1_0, .int .i64 a1_1, .int .i64 a1_2, .int .i64 a1_3] 34 (0, 0)) (by (with_reducible repeat (first | refine blk_drewN ?_ _ | refine blk_drew ?_ | refine blk_alloc ?_ _)); exact BK430.out) hb); have n2_ := Aside0.mk (blk_below (g := gb432) (o := .cells #[.int .i64 a0_2, .int .i64 a0_3, .int .i64 a0_0, .int .i64 a0_1] 34 (0, 0)) (by (with_reducible repeat (first | refine blk_drewN ?_ _ | refine blk_drew ?_ | refine blk_alloc ?_ _)); exact BK432.out) hb); have n3_ := Aside0.mk (below_step (by repeat (first | (with_reducible first | exact HB.out | apply below_alloc | apply pw_below_drewN | apply below_drew1 | refine below_set ?_ GE429.out | refine below_set ?_ GE430.out | refine below_set ?_ GE432.out) | exact HB.out)) hb); clear BK429; clear BK430; clear BK432; clear HB; have BK429 := n0_; have BK430 := n1_; have BK432 := n2_; have HB := n3_; clear n0_ n1_ n2_ n3_; (try clear hb); (try clear hb2); (try clear hk); (try clear hi)))
                      go_meet
                      case rel => exact ⟨_, (true), (by first | rfl | (simp; done) | (simp [*]; done)), H', ⟨by have := HJ3.out; have := HJ28.out; have := HJ42.out; first | omega | exact Nat.le_refl _⟩, ⟨by (with_reducible repeat (first | refine blk_drewN ?_ _ | refine blk_drew ?_ | refine blk_alloc ?_ _)); exact BK429.out⟩, ⟨by (with_reducible repeat (first | refine blk_drewN ?_ _ | refine blk_drew ?_ | refine blk_alloc ?_ _)); exact BK430.out⟩, ⟨by (with_reducible repeat (first | refine blk_drewN ?_ _ | refine blk_drew ?_ | refine blk_alloc ?_ _)); exact BK432.out⟩, ⟨by repeat (first | (with_reducible first | exact HB.out | apply below_alloc | apply pw_below_drewN | apply below_drew1 | refine below_set ?_ GE429.out | refine below_set ?_ GE430.out | refine below_set ?_ GE432.out) | exact HB.out)⟩⟩
                    · replace c60 := Bool.eq_false_iff.mpr c60
                      subst c60
                      have H1 : ((plane_On.f a0_0 a0_1 a0_2 a0_3 a1_2 a1_3).bind fun t442 => (if t442 = true then (boundstonelaw02_PlaneSegmentsFair.j3 kj42 t431 x7_42 true) else ((plane_On.f a1_0 a1_1 a1_2 a1_3 a0_0 a0_1).bind fun t443 => (if t443 = true then (boundstonelaw02_PlaneSegmentsFair.j3 kj42 t431 x7_42 true) else ((plane_On.f a1_0 a1_1 a1_2 a1_3 a0_2 a0_3).bind fun t444 => (boundstonelaw02_PlaneSegmentsFair.j3 kj42 t431 x7_42 t444)))))) = some r := by rw [if_neg (show ¬ (false = true) by decide)] at H; exact H
                      clear H
                      have H := H1
                      clear H1
                      replace H := Option.bind_eq_some_iff.mp H
                      obtain ⟨t442, A670, H⟩ := H
                      try dsimp only at H
                      have A67 := Aside0.mk A670
                      clear A670
                      by_cases c68 : t442 = true
                      · subst c68
                        have H1 : (boundstonelaw02_PlaneSegmentsFair.j3 kj42 t431 x7_42 true) = some r := by rw [if_pos rfl] at H; exact H
                        clear H
                        have H := H1
                        clear H1
                        have H' := Aside0.mk H
                        clear H
                        have hnb69 := NB429_430.out
                        have hnc69 := NB430_429.out
                        have hnb70 := NB429_432.out
                        have hnc70 := NB432_429.out
                        have hcz71_0 : wc.cell? ⟨gb429, 0, none⟩ = some (.int .i64 a0_0) := (blk_cell BK429.out 0).trans rfl
                        have hcz71_1 : wc.cell? ⟨gb429, 1, none⟩ = some (.int .i64 a0_1) := (blk_cell BK429.out 1).trans rfl
                        have hcz71_2 : wc.cell? ⟨gb429, 2, none⟩ = some (.int .i64 a0_2) := (blk_cell BK429.out 2).trans rfl
                        have hcz71_3 : wc.cell? ⟨gb429, 3, none⟩ = some (.int .i64 a0_3) := (blk_cell BK429.out 3).trans rfl
                        have hfz71_0 := blk_frozen BK429.out 0
                        have hfz71_1 := blk_frozen BK429.out 1
                        have hfz71_2 := blk_frozen BK429.out 2
                        have hfz71_3 := blk_frozen BK429.out 3
                        have hnb72 := NB430_432.out
                        have hnc72 := NB432_430.out
                        have hcz73_0 : wc.cell? ⟨gb430, 0, none⟩ = some (.int .i64 a1_0) := (blk_cell BK430.out 0).trans rfl
                        have hcz73_1 : wc.cell? ⟨gb430, 1, none⟩ = some (.int .i64 a1_1) := (blk_cell BK430.out 1).trans rfl
                        have hcz73_2 : wc.cell? ⟨gb430, 2, none⟩ = some (.int .i64 a1_2) := (blk_cell BK430.out 2).trans rfl
                        have hcz73_3 : wc.cell? ⟨gb430, 3, none⟩ = some (.int .i64 a1_3) := (blk_cell BK430.out 3).trans rfl
                        have hfz73_0 := blk_frozen BK430.out 0
                        have hfz73_1 := blk_frozen BK430.out 1
                        have hfz73_2 := blk_frozen BK430.out 2
                        have hfz73_3 := blk_frozen BK430.out 3
                        go_wp2_with (first | ((with_reducible refine gate_callee (f := 26) rfl ?_); refine goesL_ (some 80) rfl rfl Try.func26 (by kernel_rfl) rfl #[.agg #[.int .i64 a0_0, .int .i64 a0_1, .int .i64 a0_2, .int .i64 a0_3], .agg #[.int .i64 a1_0, .int .i64 a1_1]] rfl (by (try simp only [List.map_toArray, List.map_cons, List.map_nil]); first | done | rfl | (simp only [List.length_drop, List.length_take]; rfl)) ?_; (with_reducible refine (plane_On.calls a0_0 a0_1 a0_2 a0_3 a1_0 a1_1 false _ A59.out).mono ?_); rintro e w74 ⟨rfl, hb⟩; refine ⟨_, rfl, ?_⟩; have n0_ := Aside0.mk (blk_below (g := gb429) (o := .cells #[.int .i64 a0_0, .int .i64 a0_1, .int .i64 a0_2, .int .i64 a0_3] 34 (0, 0)) (by (with_reducible repeat (first | refine blk_drewN ?_ _ | refine blk_drew ?_ | refine blk_alloc ?_ _)); exact BK429.out) hb); have n1_ := Aside0.mk (blk_below (g := gb430) (o := .cells #[.int .i64 a1_0, .int .i64 a1_1, .int .i64 a1_2, .int .i64 a1_3] 34 (0, 0)) (by (with_reducible repeat (first | refine blk_drewN ?_ _ | refine blk_drew ?_ | refine blk_alloc ?_ _)); exact BK430.out) hb); have n2_ := Aside0.mk (blk_below (g := gb432) (o := .cells #[.int .i64 a0_2, .int .i64 a0_3, .int .i64 a0_0, .int .i64 a0_1] 34 (0, 0)) (by (with_reducible repeat (first | refine blk_drewN ?_ _ | refine blk_drew ?_ | refine blk_alloc ?_ _)); exact BK432.out) hb); have n3_ := Aside0.mk (below_step (by repeat (first | (with_reducible first | exact HB.out | apply below_alloc | apply pw_below_drewN | apply below_drew1 | refine below_set ?_ GE429.out | refine below_set ?_ GE430.out | refine below_set ?_ GE432.out) | exact HB.out)) hb); clear BK429; clear BK430; clear BK432; clear HB; have BK429 := n0_; have BK430 := n1_; have BK432 := n2_; have HB := n3_; clear n0_ n1_ n2_ n3_; (try clear hb); (try clear hb2); (try clear hk); (try clear hi); have hcz75_0 : w74.cell? ⟨gb429, 0, none⟩ = some (.int .i64 a0_0) := (blk_cell BK429.out 0).trans rfl; have hcz75_1 : w74.cell? ⟨gb429, 1, none⟩ = some (.int .i64 a0_1) := (blk_cell BK429.out 1).trans rfl; have hcz75_2 : w74.cell? ⟨gb429, 2, none⟩ = some (.int .i64 a0_2) := (blk_cell BK429.out 2).trans rfl; have hcz75_3 : w74.cell? ⟨gb429, 3, none⟩ = some (.int .i64 a0_3) := (blk_cell BK429.out 3).trans rfl; have hfz75_0 := blk_frozen BK429.out 0; have hfz75_1 := blk_frozen BK429.out 1; have hfz75_2 := blk_frozen BK429.out 2; have hfz75_3 := blk_frozen BK429.out 3; have hcz76_0 : w74.cell? ⟨gb430, 0, none⟩ = some (.int .i64 a1_0) := (blk_cell BK430.out 0).trans rfl; have hcz76_1 : w74.cell? ⟨gb430, 1, none⟩ = some (.int .i64 a1_1) := (blk_cell BK430.out 1).trans rfl; have hcz76_2 : w74.cell? ⟨gb430, 2, none⟩ = some (.int .i64 a1_2) := (blk_cell BK430.out 2).trans rfl; have hcz76_3 : w74.cell? ⟨gb430, 3, none⟩ = some (.int .i64 a1_3) := (blk_cell BK430.out 3).trans rfl; have hfz76_0 := blk_frozen BK430.out 0; have hfz76_1 := blk_frozen BK430.out 1; have hfz76_2 := blk_frozen BK430.out 2; have hfz76_3 := blk_frozen BK430.out 3) | (go_at_call 26; (with_reducible refine (plane_On.calls a0_0 a0_1 a0_2 a0_3 a1_2 a1_3 true _ A67.out).mono ?_); rintro e w77 ⟨rfl, hb⟩; have n0_ := Aside0.mk (blk_below (g := gb429) (o := .cells #[.int .i64 a0_0, .int .i64 a0_1, .int .i64 a0_2, .int .i64 a0_3] 34 (0, 0)) (by (with_reducible repeat (first | refine blk_drewN ?_ _ | refine blk_drew ?_ | refine blk_alloc ?_ _)); exact BK429.out) hb); have n1_ := Aside0.mk (blk_below (g := gb430) (o := .cells #[.int .i64 a1_0, .int .i64 a1_1, .int .i64 a1_2, .int .i64 a1_3] 34 (0, 0)) (by (with_reducible repeat (first | refine blk_drewN ?_ _ | refine blk_drew ?_ | refine blk_alloc ?_ _)); exact BK430.out) hb); have n2_ := Aside0.mk (blk_below (g := gb432) (o := .cells #[.int .i64 a0_2, .int .i64 a0_3, .int .i64 a0_0, .int .i64 a0_1] 34 (0, 0)) (by (with_reducible repeat (first | refine blk_drewN ?_ _ | refine blk_drew ?_ | refine blk_alloc ?_ _)); exact BK432.out) hb); have n3_ := Aside0.mk (below_step (by repeat (first | (with_reducible first | exact HB.out | apply below_alloc | apply pw_below_drewN | apply below_drew1 | refine below_set ?_ GE429.out | refine below_set ?_ GE430.out | refine below_set ?_ GE432.out) | exact HB.out)) hb); clear BK429; clear BK430; clear BK432; clear HB; have BK429 := n0_; have BK430 := n1_; have BK432 := n2_; have HB := n3_; clear n0_ n1_ n2_ n3_; (try clear hb); (try clear hb2); (try clear hk); (try clear hi)))
                        go_meet
                        case rel => exact ⟨_, (true), (by first | rfl | (simp; done) | (simp [*]; done)), H', ⟨by have := HJ3.out; have := HJ28.out; have := HJ42.out; first | omega | exact Nat.le_refl _⟩, ⟨by (with_reducible repeat (first | refine blk_drewN ?_ _ | refine blk_drew ?_ | refine blk_alloc ?_ _)); exact BK429.out⟩, ⟨by (with_reducible repeat (first | refine blk_drewN ?_ _ | refine blk_drew ?_ | refine blk_alloc ?_ _)); exact BK430.out⟩, ⟨by (with_reducible repeat (first | refine blk_drewN ?_ _ | refine blk_drew ?_ | refine blk_alloc ?_ _)); exact BK432.out⟩, ⟨by repeat (first | (with_reducible first | exact HB.out | apply below_alloc | apply pw_below_drewN | apply below_drew1 | refine below_set ?_ GE429.out | refine below_set ?_ GE430.out | refine below_set ?_ GE432.out) | exact HB.out)⟩⟩
                      · replace c68 := Bool.eq_false_iff.mpr c68
                        subst c68
                        have H1 : ((plane_On.f a1_0 a1_1 a1_2 a1_3 a0_0 a0_1).bind fun t443 => (if t443 = true then (boundstonelaw02_PlaneSegmentsFair.j3 kj42 t431 x7_42 true) else ((plane_On.f a1_0 a1_1 a1_2 a1_3 a0_2 a0_3).bind fun t444 => (boundstonelaw02_PlaneSegmentsFair.j3 kj42 t431 x7_42 t444)))) = some r := by rw [if_neg (show ¬ (false = true) by decide)] at H; exact H
                        clear H
                        have H := H1
                        clear H1
                        replace H := Option.bind_eq_some_iff.mp H
                        obtain ⟨t443, A780, H⟩ := H
                        replace H : (if t443 = true then (boundstonelaw02_PlaneSegmentsFair.j3 kj42 t431 x7_42 true) else ((plane_On.f a1_0 a1_1 a1_2 a1_3 a0_2 a0_3).bind fun t444 => (boundstonelaw02_PlaneSegmentsFair.j3 kj42 t431 x7_42 t444))) = some r := H
                        have A78 := Aside0.mk A780
                        clear A780
                        by_cases c79 : t443 = true
                        · subst c79
                          have H1 : (boundstonelaw02_PlaneSegmentsFair.j3 kj42 t431 x7_42 true) = some r := by rw [if_pos rfl] at H; exact H
                          clear H
                          have H := H1
                          clear H1
                          have H' := Aside0.mk H
                          clear H
                          have hnb80 := NB429_430.out
                          have hnc80 := NB430_429.out
                          have hnb81 := NB429_432.out
                          have hnc81 := NB432_429.out
                          have hcz82_0 : wc.cell? ⟨gb429, 0, none⟩ = some (.int .i64 a0_0) := (blk_cell BK429.out 0).trans rfl
                          have hcz82_1 : wc.cell? ⟨gb429, 1, none⟩ = some (.int .i64 a0_1) := (blk_cell BK429.out 1).trans rfl
                          have hcz82_2 : wc.cell? ⟨gb429, 2, none⟩ = some (.int .i64 a0_2) := (blk_cell BK429.out 2).trans rfl
                          have hcz82_3 : wc.cell? ⟨gb429, 3, none⟩ = some (.int .i64 a0_3) := (blk_cell BK429.out 3).trans rfl
                          have hfz82_0 := blk_frozen BK429.out 0
                          have hfz82_1 := blk_frozen BK429.out 1
                          have hfz82_2 := blk_frozen BK429.out 2
                          have hfz82_3 := blk_frozen BK429.out 3
                          have hnb83 := NB430_432.out
                          have hnc83 := NB432_430.out
                          have hcz84_0 : wc.cell? ⟨gb430, 0, none⟩ = some (.int .i64 a1_0) := (blk_cell BK430.out 0).trans rfl
                          have hcz84_1 : wc.cell? ⟨gb430, 1, none⟩ = some (.int .i64 a1_1) := (blk_cell BK430.out 1).trans rfl
                          have hcz84_2 : wc.cell? ⟨gb430, 2, none⟩ = some (.int .i64 a1_2) := (blk_cell BK430.out 2).trans rfl
                          have hcz84_3 : wc.cell? ⟨gb430, 3, none⟩ = some (.int .i64 a1_3) := (blk_cell BK430.out 3).trans rfl
                          have hfz84_0 := blk_frozen BK430.out 0
                          have hfz84_1 := blk_frozen BK430.out 1
                          have hfz84_2 := blk_frozen BK430.out 2
                          have hfz84_3 := blk_frozen BK430.out 3
                          go_wp2_with (first | ((with_reducible refine gate_callee (f := 26) rfl ?_); refine goesL_ (some 80) rfl rfl Try.func26 (by kernel_rfl) rfl #[.agg #[.int .i64 a0_0, .int .i64 a0_1, .int .i64 a0_2, .int .i64 a0_3], .agg #[.int .i64 a1_0, .int .i64 a1_1]] rfl (by (try simp only [List.map_toArray, List.map_cons, List.map_nil]); first | done | rfl | (simp only [List.length_drop, List.length_take]; rfl)) ?_; (with_reducible refine (plane_On.calls a0_0 a0_1 a0_2 a0_3 a1_0 a1_1 false _ A59.out).mono ?_); rintro e w85 ⟨rfl, hb⟩; refine ⟨_, rfl, ?_⟩; have n0_ := Aside0.mk (blk_below (g := gb429) (o := .cells #[.int .i64 a0_0, .int .i64 a0_1, .int .i64 a0_2, .int .i64 a0_3] 34 (0, 0)) (by (with_reducible repeat (first | refine blk_drewN ?_ _ | refine blk_drew ?_ | refine blk_alloc ?_ _)); exact BK429.out) hb); have n1_ := Aside0.mk (blk_below (g := gb430) (o := .cells #[.int .i64 a1_0, .int .i64 a1_1, .int .i64 a1_2, .int .i64 a1_3] 34 (0, 0)) (by (with_reducible repeat (first | refine blk_drewN ?_ _ | refine blk_drew ?_ | refine blk_alloc ?_ _)); exact BK430.out) hb); have n2_ := Aside0.mk (blk_below (g := gb432) (o := .cells #[.int .i64 a0_2, .int .i64 a0_3, .int .i64 a0_0, .int .i64 a0_1] 34 (0, 0)) (by (with_reducible repeat (first | refine blk_drewN ?_ _ | refine blk_drew ?_ | refine blk_alloc ?_ _)); exact BK432.out) hb); have n3_ := Aside0.mk (below_step (by repeat (first | (with_reducible first | exact HB.out | apply below_alloc | apply pw_below_drewN | apply below_drew1 | refine below_set ?_ GE429.out | refine below_set ?_ GE430.out | refine below_set ?_ GE432.out) | exact HB.out)) hb); clear BK429; clear BK430; clear BK432; clear HB; have BK429 := n0_; have BK430 := n1_; have BK432 := n2_; have HB := n3_; clear n0_ n1_ n2_ n3_; (try clear hb); (try clear hb2); (try clear hk); (try clear hi); have hcz86_0 : w85.cell? ⟨gb429, 0, none⟩ = some (.int .i64 a0_0) := (blk_cell BK429.out 0).trans rfl; have hcz86_1 : w85.cell? ⟨gb429, 1, none⟩ = some (.int .i64 a0_1) := (blk_cell BK429.out 1).trans rfl; have hcz86_2 : w85.cell? ⟨gb429, 2, none⟩ = some (.int .i64 a0_2) := (blk_cell BK429.out 2).trans rfl; have hcz86_3 : w85.cell? ⟨gb429, 3, none⟩ = some (.int .i64 a0_3) := (blk_cell BK429.out 3).trans rfl; have hfz86_0 := blk_frozen BK429.out 0; have hfz86_1 := blk_frozen BK429.out 1; have hfz86_2 := blk_frozen BK429.out 2; have hfz86_3 := blk_frozen BK429.out 3; have hcz87_0 : w85.cell? ⟨gb430, 0, none⟩ = some (.int .i64 a1_0) := (blk_cell BK430.out 0).trans rfl; have hcz87_1 : w85.cell? ⟨gb430, 1, none⟩ = some (.int .i64 a1_1) := (blk_cell BK430.out 1).trans rfl; have hcz87_2 : w85.cell? ⟨gb430, 2, none⟩ = some (.int .i64 a1_2) := (blk_cell BK430.out 2).trans rfl; have hcz87_3 : w85.cell? ⟨gb430, 3, none⟩ = some (.int .i64 a1_3) := (blk_cell BK430.out 3).trans rfl; have hfz87_0 := blk_frozen BK430.out 0; have hfz87_1 := blk_frozen BK430.out 1; have hfz87_2 := blk_frozen BK430.out 2; have hfz87_3 := blk_frozen BK430.out 3) | (go_at_call 26; (with_reducible refine (plane_On.calls a0_0 a0_1 a0_2 a0_3 a1_2 a1_3 false _ A67.out).mono ?_); rintro e w88 ⟨rfl, hb⟩; have n0_ := Aside0.mk (blk_below (g := gb429) (o := .cells #[.int .i64 a0_0, .int .i64 a0_1, .int .i64 a0_2, .int .i64 a0_3] 34 (0, 0)) (by (with_reducible repeat (first | refine blk_drewN ?_ _ | refine blk_drew ?_ | refine blk_alloc ?_ _)); exact BK429.out) hb); have n1_ := Aside0.mk (blk_below (g := gb430) (o := .cells #[.int .i64 a1_0, .int .i64 a1_1, .int .i64 a1_2, .int .i64 a1_3] 34 (0, 0)) (by (with_reducible repeat (first | refine blk_drewN ?_ _ | refine blk_drew ?_ | refine blk_alloc ?_ _)); exact BK430.out) hb); have n2_ := Aside0.mk (blk_below (g := gb432) (o := .cells #[.int .i64 a0_2, .int .i64 a0_3, .int .i64 a0_0, .int .i64 a0_1] 34 (0, 0)) (by (with_reducible repeat (first | refine blk_drewN ?_ _ | refine blk_drew ?_ | refine blk_alloc ?_ _)); exact BK432.out) hb); have n3_ := Aside0.mk (below_step (by repeat (first | (with_reducible first | exact HB.out | apply below_alloc | apply pw_below_drewN | apply below_drew1 | refine below_set ?_ GE429.out | refine below_set ?_ GE430.out | refine below_set ?_ GE432.out) | exact HB.out)) hb); clear BK429; clear BK430; clear BK432; clear HB; have BK429 := n0_; have BK430 := n1_; have BK432 := n2_; have HB := n3_; clear n0_ n1_ n2_ n3_; (try clear hb); (try clear hb2); (try clear hk); (try clear hi); have hcz89_0 : w88.cell? ⟨gb430, 0, none⟩ = some (.int .i64 a1_0) := (blk_cell BK430.out 0).trans rfl; have hcz89_1 : w88.cell? ⟨gb430, 1, none⟩ = some (.int .i64 a1_1) := (blk_cell BK430.out 1).trans rfl; have hcz89_2 : w88.cell? ⟨gb430, 2, none⟩ = some (.int .i64 a1_2) := (blk_cell BK430.out 2).trans rfl; have hcz89_3 : w88.cell? ⟨gb430, 3, none⟩ = some (.int .i64 a1_3) := (blk_cell BK430.out 3).trans rfl; have hfz89_0 := blk_frozen BK430.out 0; have hfz89_1 := blk_frozen BK430.out 1; have hfz89_2 := blk_frozen BK430.out 2; have hfz89_3 := blk_frozen BK430.out 3; have hcz90_0 : w88.cell? ⟨gb429, 0, none⟩ = some (.int .i64 a0_0) := (blk_cell BK429.out 0).trans rfl; have hcz90_1 : w88.cell? ⟨gb429, 1, none⟩ = some (.int .i64 a0_1) := (blk_cell BK429.out 1).trans rfl; have hcz90_2 : w88.cell? ⟨gb429, 2, none⟩ = some (.int .i64 a0_2) := (blk_cell BK429.out 2).trans rfl; have hcz90_3 : w88.cell? ⟨gb429, 3, none⟩ = some (.int .i64 a0_3) := (blk_cell BK429.out 3).trans rfl; have hfz90_0 := blk_frozen BK429.out 0; have hfz90_1 := blk_frozen BK429.out 1; have hfz90_2 := blk_frozen BK429.out 2; have hfz90_3 := blk_frozen BK429.out 3) | (go_at_call 26; (with_reducible refine (plane_On.calls a1_0 a1_1 a1_2 a1_3 a0_0 a0_1 true _ A78.out).mono ?_); rintro e w91 ⟨rfl, hb⟩; have n0_ := Aside0.mk (blk_below (g := gb429) (o := .cells #[.int .i64 a0_0, .int .i64 a0_1, .int .i64 a0_2, .int .i64 a0_3] 34 (0, 0)) (by (with_reducible repeat (first | refine blk_drewN ?_ _ | refine blk_drew ?_ | refine blk_alloc ?_ _)); exact BK429.out) hb); have n1_ := Aside0.mk (blk_below (g := gb430) (o := .cells #[.int .i64 a1_0, .int .i64 a1_1, .int .i64 a1_2, .int .i64 a1_3] 34 (0, 0)) (by (with_reducible repeat (first | refine blk_drewN ?_ _ | refine blk_drew ?_ | refine blk_alloc ?_ _)); exact BK430.out) hb); have n2_ := Aside0.mk (blk_below (g := gb432) (o := .cells #[.int .i64 a0_2, .int .i64 a0_3, .int .i64 a0_0, .int .i64 a0_1] 34 (0, 0)) (by (with_reducible repeat (first | refine blk_drewN ?_ _ | refine blk_drew ?_ | refine blk_alloc ?_ _)); exact BK432.out) hb); have n3_ := Aside0.mk (below_step (by repeat (first | (with_reducible first | exact HB.out | apply below_alloc | apply pw_below_drewN | apply below_drew1 | refine below_set ?_ GE429.out | refine below_set ?_ GE430.out | refine below_set ?_ GE432.out) | exact HB.out)) hb); clear BK429; clear BK430; clear BK432; clear HB; have BK429 := n0_; have BK430 := n1_; have BK432 := n2_; have HB := n3_; clear n0_ n1_ n2_ n3_; (try clear hb); (try clear hb2); (try clear hk); (try clear hi)))
                          go_meet
                          case rel => exact ⟨_, (true), (by first | rfl | (simp; done) | (simp [*]; done)), H', ⟨by have := HJ3.out; have := HJ28.out; have := HJ42.out; first | omega | exact Nat.le_refl _⟩, ⟨by (with_reducible repeat (first | refine blk_drewN ?_ _ | refine blk_drew ?_ | refine blk_alloc ?_ _)); exact BK429.out⟩, ⟨by (with_reducible repeat (first | refine blk_drewN ?_ _ | refine blk_drew ?_ | refine blk_alloc ?_ _)); exact BK430.out⟩, ⟨by (with_reducible repeat (first | refine blk_drewN ?_ _ | refine blk_drew ?_ | refine blk_alloc ?_ _)); exact BK432.out⟩, ⟨by repeat (first | (with_reducible first | exact HB.out | apply below_alloc | apply pw_below_drewN | apply below_drew1 | refine below_set ?_ GE429.out | refine below_set ?_ GE430.out | refine below_set ?_ GE432.out) | exact HB.out)⟩⟩
                        · replace c79 := Bool.eq_false_iff.mpr c79
                          subst c79
                          have H1 : ((plane_On.f a1_0 a1_1 a1_2 a1_3 a0_2 a0_3).bind fun t444 => (boundstonelaw02_PlaneSegmentsFair.j3 kj42 t431 x7_42 t444)) = some r := by rw [if_neg (show ¬ (false = true) by decide)] at H; exact H
                          clear H
                          have H := H1
                          clear H1
                          replace H := Option.bind_eq_some_iff.mp H
                          obtain ⟨t444, A920, H⟩ := H
                          replace H : (boundstonelaw02_PlaneSegmentsFair.j3 kj42 t431 x7_42 t444) = some r := H
                          have A92 := Aside0.mk A920
                          clear A920
                          have H' := Aside0.mk H
                          clear H
                          have hnb93 := NB429_430.out
                          have hnc93 := NB430_429.out
                          have hnb94 := NB429_432.out
                          have hnc94 := NB432_429.out
                          have hcz95_0 : wc.cell? ⟨gb429, 0, none⟩ = some (.int .i64 a0_0) := (blk_cell BK429.out 0).trans rfl
                          have hcz95_1 : wc.cell? ⟨gb429, 1, none⟩ = some (.int .i64 a0_1) := (blk_cell BK429.out 1).trans rfl
                          have hcz95_2 : wc.cell? ⟨gb429, 2, none⟩ = some (.int .i64 a0_2) := (blk_cell BK429.out 2).trans rfl
                          have hcz95_3 : wc.cell? ⟨gb429, 3, none⟩ = some (.int .i64 a0_3) := (blk_cell BK429.out 3).trans rfl
                          have hfz95_0 := blk_frozen BK429.out 0
                          have hfz95_1 := blk_frozen BK429.out 1
                          have hfz95_2 := blk_frozen BK429.out 2
                          have hfz95_3 := blk_frozen BK429.out 3
                          have hnb96 := NB430_432.out
                          have hnc96 := NB432_430.out
                          have hcz97_0 : wc.cell? ⟨gb430, 0, none⟩ = some (.int .i64 a1_0) := (blk_cell BK430.out 0).trans rfl
                          have hcz97_1 : wc.cell? ⟨gb430, 1, none⟩ = some (.int .i64 a1_1) := (blk_cell BK430.out 1).trans rfl
                          have hcz97_2 : wc.cell? ⟨gb430, 2, none⟩ = some (.int .i64 a1_2) := (blk_cell BK430.out 2).trans rfl
                          have hcz97_3 : wc.cell? ⟨gb430, 3, none⟩ = some (.int .i64 a1_3) := (blk_cell BK430.out 3).trans rfl
                          have hfz97_0 := blk_frozen BK430.out 0
                          have hfz97_1 := blk_frozen BK430.out 1
                          have hfz97_2 := blk_frozen BK430.out 2
                          have hfz97_3 := blk_frozen BK430.out 3
                          go_wp2_with (first | ((with_reducible refine gate_callee (f := 26) rfl ?_); refine goesL_ (some 80) rfl rfl Try.func26 (by kernel_rfl) rfl #[.agg #[.int .i64 a0_0, .int .i64 a0_1, .int .i64 a0_2, .int .i64 a0_3], .agg #[.int .i64 a1_0, .int .i64 a1_1]] rfl (by (try simp only [List.map_toArray, List.map_cons, List.map_nil]); first | done | rfl | (simp only [List.length_drop, List.length_take]; rfl)) ?_; (with_reducible refine (plane_On.calls a0_0 a0_1 a0_2 a0_3 a1_0 a1_1 false _ A59.out).mono ?_); rintro e w98 ⟨rfl, hb⟩; refine ⟨_, rfl, ?_⟩; have n0_ := Aside0.mk (blk_below (g := gb429) (o := .cells #[.int .i64 a0_0, .int .i64 a0_1, .int .i64 a0_2, .int .i64 a0_3] 34 (0, 0)) (by (with_reducible repeat (first | refine blk_drewN ?_ _ | refine blk_drew ?_ | refine blk_alloc ?_ _)); exact BK429.out) hb); have n1_ := Aside0.mk (blk_below (g := gb430) (o := .cells #[.int .i64 a1_0, .int .i64 a1_1, .int .i64 a1_2, .int .i64 a1_3] 34 (0, 0)) (by (with_reducible repeat (first | refine blk_drewN ?_ _ | refine blk_drew ?_ | refine blk_alloc ?_ _)); exact BK430.out) hb); have n2_ := Aside0.mk (blk_below (g := gb432) (o := .cells #[.int .i64 a0_2, .int .i64 a0_3, .int .i64 a0_0, .int .i64 a0_1] 34 (0, 0)) (by (with_reducible repeat (first | refine blk_drewN ?_ _ | refine blk_drew ?_ | refine blk_alloc ?_ _)); exact BK432.out) hb); have n3_ := Aside0.mk (below_step (by repeat (first | (with_reducible first | exact HB.out | apply below_alloc | apply pw_below_drewN | apply below_drew1 | refine below_set ?_ GE429.out | refine below_set ?_ GE430.out | refine below_set ?_ GE432.out) | exact HB.out)) hb); clear BK429; clear BK430; clear BK432; clear HB; have BK429 := n0_; have BK430 := n1_; have BK432 := n2_; have HB := n3_; clear n0_ n1_ n2_ n3_; (try clear hb); (try clear hb2); (try clear hk); (try clear hi); have hcz99_0 : w98.cell? ⟨gb429, 0, none⟩ = some (.int .i64 a0_0) := (blk_cell BK429.out 0).trans rfl; have hcz99_1 : w98.cell? ⟨gb429, 1, none⟩ = some (.int .i64 a0_1) := (blk_cell BK429.out 1).trans rfl; have hcz99_2 : w98.cell? ⟨gb429, 2, none⟩ = some (.int .i64 a0_2) := (blk_cell BK429.out 2).trans rfl; have hcz99_3 : w98.cell? ⟨gb429, 3, none⟩ = some (.int .i64 a0_3) := (blk_cell BK429.out 3).trans rfl; have hfz99_0 := blk_frozen BK429.out 0; have hfz99_1 := blk_frozen BK429.out 1; have hfz99_2 := blk_frozen BK429.out 2; have hfz99_3 := blk_frozen BK429.out 3; have hcz100_0 : w98.cell? ⟨gb430, 0, none⟩ = some (.int .i64 a1_0) := (blk_cell BK430.out 0).trans rfl; have hcz100_1 : w98.cell? ⟨gb430, 1, none⟩ = some (.int .i64 a1_1) := (blk_cell BK430.out 1).trans rfl; have hcz100_2 : w98.cell? ⟨gb430, 2, none⟩ = some (.int .i64 a1_2) := (blk_cell BK430.out 2).trans rfl; have hcz100_3 : w98.cell? ⟨gb430, 3, none⟩ = some (.int .i64 a1_3) := (blk_cell BK430.out 3).trans rfl; have hfz100_0 := blk_frozen BK430.out 0; have hfz100_1 := blk_frozen BK430.out 1; have hfz100_2 := blk_frozen BK430.out 2; have hfz100_3 := blk_frozen BK430.out 3) | (go_at_call 26; (with_reducible refine (plane_On.calls a0_0 a0_1 a0_2 a0_3 a1_2 a1_3 false _ A67.out).mono ?_); rintro e w101 ⟨rfl, hb⟩; have n0_ := Aside0.mk (blk_below (g := gb429) (o := .cells #[.int .i64 a0_0, .int .i64 a0_1, .int .i64 a0_2, .int .i64 a0_3] 34 (0, 0)) (by (with_reducible repeat (first | refine blk_drewN ?_ _ | refine blk_drew ?_ | refine blk_alloc ?_ _)); exact BK429.out) hb); have n1_ := Aside0.mk (blk_below (g := gb430) (o := .cells #[.int .i64 a1_0, .int .i64 a1_1, .int .i64 a1_2, .int .i64 a1_3] 34 (0, 0)) (by (with_reducible repeat (first | refine blk_drewN ?_ _ | refine blk_drew ?_ | refine blk_alloc ?_ _)); exact BK430.out) hb); have n2_ := Aside0.mk (blk_below (g := gb432) (o := .cells #[.int .i64 a0_2, .int .i64 a0_3, .int .i64 a0_0, .int .i64 a0_1] 34 (0, 0)) (by (with_reducible repeat (first | refine blk_drewN ?_ _ | refine blk_drew ?_ | refine blk_alloc ?_ _)); exact BK432.out) hb); have n3_ := Aside0.mk (below_step (by repeat (first | (with_reducible first | exact HB.out | apply below_alloc | apply pw_below_drewN | apply below_drew1 | refine below_set ?_ GE429.out | refine below_set ?_ GE430.out | refine below_set ?_ GE432.out) | exact HB.out)) hb); clear BK429; clear BK430; clear BK432; clear HB; have BK429 := n0_; have BK430 := n1_; have BK432 := n2_; have HB := n3_; clear n0_ n1_ n2_ n3_; (try clear hb); (try clear hb2); (try clear hk); (try clear hi); have hcz102_0 : w101.cell? ⟨gb430, 0, none⟩ = some (.int .i64 a1_0) := (blk_cell BK430.out 0).trans rfl; have hcz102_1 : w101.cell? ⟨gb430, 1, none⟩ = some (.int .i64 a1_1) := (blk_cell BK430.out 1).trans rfl; have hcz102_2 : w101.cell? ⟨gb430, 2, none⟩ = some (.int .i64 a1_2) := (blk_cell BK430.out 2).trans rfl; have hcz102_3 : w101.cell? ⟨gb430, 3, none⟩ = some (.int .i64 a1_3) := (blk_cell BK430.out 3).trans rfl; have hfz102_0 := blk_frozen BK430.out 0; have hfz102_1 := blk_frozen BK430.out 1; have hfz102_2 := blk_frozen BK430.out 2; have hfz102_3 := blk_frozen BK430.out 3; have hcz103_0 : w101.cell? ⟨gb429, 0, none⟩ = some (.int .i64 a0_0) := (blk_cell BK429.out 0).trans rfl; have hcz103_1 : w101.cell? ⟨gb429, 1, none⟩ = some (.int .i64 a0_1) := (blk_cell BK429.out 1).trans rfl; have hcz103_2 : w101.cell? ⟨gb429, 2, none⟩ = some (.int .i64 a0_2) := (blk_cell BK429.out 2).trans rfl; have hcz103_3 : w101.cell? ⟨gb429, 3, none⟩ = some (.int .i64 a0_3) := (blk_cell BK429.out 3).trans rfl; have hfz103_0 := blk_frozen BK429.out 0; have hfz103_1 := blk_frozen BK429.out 1; have hfz103_2 := blk_frozen BK429.out 2; have hfz103_3 := blk_frozen BK429.out 3) | (go_at_call 26; (with_reducible refine (plane_On.calls a1_0 a1_1 a1_2 a1_3 a0_0 a0_1 false _ A78.out).mono ?_); rintro e w104 ⟨rfl, hb⟩; have n0_ := Aside0.mk (blk_below (g := gb429) (o := .cells #[.int .i64 a0_0, .int .i64 a0_1, .int .i64 a0_2, .int .i64 a0_3] 34 (0, 0)) (by (with_reducible repeat (first | refine blk_drewN ?_ _ | refine blk_drew ?_ | refine blk_alloc ?_ _)); exact BK429.out) hb); have n1_ := Aside0.mk (blk_below (g := gb430) (o := .cells #[.int .i64 a1_0, .int .i64 a1_1, .int .i64 a1_2, .int .i64 a1_3] 34 (0, 0)) (by (with_reducible repeat (first | refine blk_drewN ?_ _ | refine blk_drew ?_ | refine blk_alloc ?_ _)); exact BK430.out) hb); have n2_ := Aside0.mk (blk_below (g := gb432) (o := .cells #[.int .i64 a0_2, .int .i64 a0_3, .int .i64 a0_0, .int .i64 a0_1] 34 (0, 0)) (by (with_reducible repeat (first | refine blk_drewN ?_ _ | refine blk_drew ?_ | refine blk_alloc ?_ _)); exact BK432.out) hb); have n3_ := Aside0.mk (below_step (by repeat (first | (with_reducible first | exact HB.out | apply below_alloc | apply pw_below_drewN | apply below_drew1 | refine below_set ?_ GE429.out | refine below_set ?_ GE430.out | refine below_set ?_ GE432.out) | exact HB.out)) hb); clear BK429; clear BK430; clear BK432; clear HB; have BK429 := n0_; have BK430 := n1_; have BK432 := n2_; have HB := n3_; clear n0_ n1_ n2_ n3_; (try clear hb); (try clear hb2); (try clear hk); (try clear hi); have hcz105_0 : w104.cell? ⟨gb430, 0, none⟩ = some (.int .i64 a1_0) := (blk_cell BK430.out 0).trans rfl; have hcz105_1 : w104.cell? ⟨gb430, 1, none⟩ = some (.int .i64 a1_1) := (blk_cell BK430.out 1).trans rfl; have hcz105_2 : w104.cell? ⟨gb430, 2, none⟩ = some (.int .i64 a1_2) := (blk_cell BK430.out 2).trans rfl; have hcz105_3 : w104.cell? ⟨gb430, 3, none⟩ = some (.int .i64 a1_3) := (blk_cell BK430.out 3).trans rfl; have hfz105_0 := blk_frozen BK430.out 0; have hfz105_1 := blk_frozen BK430.out 1; have hfz105_2 := blk_frozen BK430.out 2; have hfz105_3 := blk_frozen BK430.out 3; have hcz106_0 : w104.cell? ⟨gb429, 0, none⟩ = some (.int .i64 a0_0) := (blk_cell BK429.out 0).trans rfl; have hcz106_1 : w104.cell? ⟨gb429, 1, none⟩ = some (.int .i64 a0_1) := (blk_cell BK429.out 1).trans rfl; have hcz106_2 : w104.cell? ⟨gb429, 2, none⟩ = some (.int .i64 a0_2) := (blk_cell BK429.out 2).trans rfl; have hcz106_3 : w104.cell? ⟨gb429, 3, none⟩ = some (.int .i64 a0_3) := (blk_cell BK429.out 3).trans rfl; have hfz106_0 := blk_frozen BK429.out 0; have hfz106_1 := blk_frozen BK429.out 1; have hfz106_2 := blk_frozen BK429.out 2; have hfz106_3 := blk_frozen BK429.out 3) | (go_at_call 26; (with_reducible refine (plane_On.calls a1_0 a1_1 a1_2 a1_3 a0_2 a0_3 t444 _ A92.out).mono ?_); rintro e w107 ⟨rfl, hb⟩; have n0_ := Aside0.mk (blk_below (g := gb429) (o := .cells #[.int .i64 a0_0, .int .i64 a0_1, .int .i64 a0_2, .int .i64 a0_3] 34 (0, 0)) (by (with_reducible repeat (first | refine blk_drewN ?_ _ | refine blk_drew ?_ | refine blk_alloc ?_ _)); exact BK429.out) hb); have n1_ := Aside0.mk (blk_below (g := gb430) (o := .cells #[.int .i64 a1_0, .int .i64 a1_1, .int .i64 a1_2, .int .i64 a1_3] 34 (0, 0)) (by (with_reducible repeat (first | refine blk_drewN ?_ _ | refine blk_drew ?_ | refine blk_alloc ?_ _)); exact BK430.out) hb); have n2_ := Aside0.mk (blk_below (g := gb432) (o := .cells #[.int .i64 a0_2, .int .i64 a0_3, .int .i64 a0_0, .int .i64 a0_1] 34 (0, 0)) (by (with_reducible repeat (first | refine blk_drewN ?_ _ | refine blk_drew ?_ | refine blk_alloc ?_ _)); exact BK432.out) hb); have n3_ := Aside0.mk (below_step (by repeat (first | (with_reducible first | exact HB.out | apply below_alloc | apply pw_below_drewN | apply below_drew1 | refine below_set ?_ GE429.out | refine below_set ?_ GE430.out | refine below_set ?_ GE432.out) | exact HB.out)) hb); clear BK429; clear BK430; clear BK432; clear HB; have BK429 := n0_; have BK430 := n1_; have BK432 := n2_; have HB := n3_; clear n0_ n1_ n2_ n3_; (try clear hb); (try clear hb2); (try clear hk); (try clear hi)))
                          go_meet
                          case rel => exact ⟨_, (t444), (by first | rfl | (simp; done) | (simp [*]; done)), H', ⟨by have := HJ3.out; have := HJ28.out; have := HJ42.out; first | omega | exact Nat.le_refl _⟩, ⟨by (with_reducible repeat (first | refine blk_drewN ?_ _ | refine blk_drew ?_ | refine blk_alloc ?_ _)); exact BK429.out⟩, ⟨by (with_reducible repeat (first | refine blk_drewN ?_ _ | refine blk_drew ?_ | refine blk_alloc ?_ _)); exact BK430.out⟩, ⟨by (with_reducible repeat (first | refine blk_drewN ?_ _ | refine blk_drew ?_ | refine blk_alloc ?_ _)); exact BK432.out⟩, ⟨by repeat (first | (with_reducible first | exact HB.out | apply below_alloc | apply pw_below_drewN | apply below_drew1 | refine below_set ?_ GE429.out | refine below_set ?_ GE430.out | refine below_set ?_ GE432.out) | exact HB.out)⟩⟩
                  case rest =>
                    clear HC58
                    try clear c1
                    try clear c2
                    try clear p2
                    try clear c3
                    try clear c4
                    try clear c5
                    try clear c6
                    try clear p6
                    try clear c7
                    try clear c8
                    try clear c9
                    try clear c19
                    try clear c26
                    try clear c30
                    try clear c30b0
                    try clear c30b1
                    try clear c34
                    try clear c34b0
                    try clear c42
                    try clear c45
                    try clear c47
                    try clear c48
                    try clear c51
                    try clear c54
                    try clear c55
                    try clear c60
                    try clear c61
                    try clear c62
                    try clear c64
                    try clear p64
                    try clear c68
                    try clear c69
                    try clear c70
                    try clear c72
                    try clear c79
                    try clear c80
                    try clear c81
                    try clear c83
                    try clear c93
                    try clear c94
                    try clear c96
                    try clear hcz100_0
                    try clear hcz100_1
                    try clear hcz100_2
                    try clear hcz100_3
                    try clear hcz102_0
                    try clear hcz102_1
                    try clear hcz102_2
                    try clear hcz102_3
                    try clear hcz103_0
                    try clear hcz103_1
                    try clear hcz103_2
                    try clear hcz103_3
                    try clear hcz105_0
                    try clear hcz105_1
                    try clear hcz105_2
                    try clear hcz105_3
                    try clear hcz106_0
                    try clear hcz106_1
                    try clear hcz106_2
                    try clear hcz106_3
                    try clear hcz49_0
                    try clear hcz49_1
                    try clear hcz49_2
                    try clear hcz49_3
                    try clear hcz52_0
                    try clear hcz52_1
                    try clear hcz52_2
                    try clear hcz52_3
                    try clear hcz56_0
                    try clear hcz56_1
                    try clear hcz56_2
                    try clear hcz56_3
                    try clear hcz63_0
                    try clear hcz63_1
                    try clear hcz63_2
                    try clear hcz63_3
                    try clear hcz65_0
                    try clear hcz65_1
                    try clear hcz65_2
                    try clear hcz65_3
                    try clear hcz71_0
                    try clear hcz71_1
                    try clear hcz71_2
                    try clear hcz71_3
                    try clear hcz73_0
                    try clear hcz73_1
                    try clear hcz73_2
                    try clear hcz73_3
                    try clear hcz75_0
                    try clear hcz75_1
                    try clear hcz75_2
                    try clear hcz75_3
                    try clear hcz76_0
                    try clear hcz76_1
                    try clear hcz76_2
                    try clear hcz76_3
                    try clear hcz82_0
                    try clear hcz82_1
                    try clear hcz82_2
                    try clear hcz82_3
                    try clear hcz84_0
                    try clear hcz84_1
                    try clear hcz84_2
                    try clear hcz84_3
                    try clear hcz86_0
                    try clear hcz86_1
                    try clear hcz86_2
                    try clear hcz86_3
                    try clear hcz87_0
                    try clear hcz87_1
                    try clear hcz87_2
                    try clear hcz87_3
                    try clear hcz89_0
                    try clear hcz89_1
                    try clear hcz89_2
                    try clear hcz89_3
                    try clear hcz90_0
                    try clear hcz90_1
                    try clear hcz90_2
                    try clear hcz90_3
                    try clear hcz95_0
                    try clear hcz95_1
                    try clear hcz95_2
                    try clear hcz95_3
                    try clear hcz97_0
                    try clear hcz97_1
                    try clear hcz97_2
                    try clear hcz97_3
                    try clear hcz99_0
                    try clear hcz99_1
                    try clear hcz99_2
                    try clear hcz99_3
                    try clear hfz100_0
                    try clear hfz100_1
                    try clear hfz100_2
                    try clear hfz100_3
                    try clear hfz102_0
                    try clear hfz102_1
                    try clear hfz102_2
                    try clear hfz102_3
                    try clear hfz103_0
                    try clear hfz103_1
                    try clear hfz103_2
                    try clear hfz103_3
                    try clear hfz105_0
                    try clear hfz105_1
                    try clear hfz105_2
                    try clear hfz105_3
                    try clear hfz106_0
                    try clear hfz106_1
                    try clear hfz106_2
                    try clear hfz106_3
                    try clear hfz49_0
                    try clear hfz49_1
                    try clear hfz49_2
                    try clear hfz49_3
                    try clear hfz52_0
                    try clear hfz52_1
                    try clear hfz52_2
                    try clear hfz52_3
                    try clear hfz56_0
                    try clear hfz56_1
                    try clear hfz56_2
                    try clear hfz56_3
                    try clear hfz63_0
                    try clear hfz63_1
                    try clear hfz63_2
                    try clear hfz63_3
                    try clear hfz65_0
                    try clear hfz65_1
                    try clear hfz65_2
                    try clear hfz65_3
                    try clear hfz71_0
                    try clear hfz71_1
                    try clear hfz71_2
                    try clear hfz71_3
                    try clear hfz73_0
                    try clear hfz73_1
                    try clear hfz73_2
                    try clear hfz73_3
                    try clear hfz75_0
                    try clear hfz75_1
                    try clear hfz75_2
                    try clear hfz75_3
                    try clear hfz76_0
                    try clear hfz76_1
                    try clear hfz76_2
                    try clear hfz76_3
                    try clear hfz82_0
                    try clear hfz82_1
                    try clear hfz82_2
                    try clear hfz82_3
                    try clear hfz84_0
                    try clear hfz84_1
                    try clear hfz84_2
                    try clear hfz84_3
                    try clear hfz86_0
                    try clear hfz86_1
                    try clear hfz86_2
                    try clear hfz86_3
                    try clear hfz87_0
                    try clear hfz87_1
                    try clear hfz87_2
                    try clear hfz87_3
                    try clear hfz89_0
                    try clear hfz89_1
                    try clear hfz89_2
                    try clear hfz89_3
                    try clear hfz90_0
                    try clear hfz90_1
                    try clear hfz90_2
                    try clear hfz90_3
                    try clear hfz95_0
                    try clear hfz95_1
                    try clear hfz95_2
                    try clear hfz95_3
                    try clear hfz97_0
                    try clear hfz97_1
                    try clear hfz97_2
                    try clear hfz97_3
                    try clear hfz99_0
                    try clear hfz99_1
                    try clear hfz99_2
                    try clear hfz99_3
                    try clear p2
                    try clear p6
                    obtain ⟨kq, x8_57, rfl, HA, HJ57, BK429, BK430, BK432, HB⟩ := hcut
                    cases kq with
                    | zero => exact absurd HA.out (by simp [boundstonelaw02_PlaneSegmentsFair.j3])
                    | succ kj57 =>
                      have H := HA.out
                      clear HA
                      simp only [boundstonelaw02_PlaneSegmentsFair.j3] at H
                      have HC108 := Aside0.mk H
                      clear H
                      go_upto_region 9 with (fail)
                      go_cut [109] (fun v109 wc => ∃ (kq : Nat) (x109_107 : Bool), v109 = .bool x109_107 ∧ Aside0 (boundstonelaw02_PlaneSegmentsFair.j4 kq t431 x7_42 x109_107 = some r) ∧ Aside0 (kq ≤ kj57) ∧ Aside0 (wc.heap[gb429]? = some (.cells #[.int .i64 a0_0, .int .i64 a0_1, .int .i64 a0_2, .int .i64 a0_3] 34 (0, 0))) ∧ Aside0 (wc.heap[gb430]? = some (.cells #[.int .i64 a1_0, .int .i64 a1_1, .int .i64 a1_2, .int .i64 a1_3] 34 (0, 0))) ∧ Aside0 (wc.heap[gb432]? = some (.cells #[.int .i64 a0_2, .int .i64 a0_3, .int .i64 a0_0, .int .i64 a0_1] 34 (0, 0))) ∧ Aside0 (Below w.heap.size w wc))
                      case first =>
                        have H := HC108.out
                        clear HC108
                        by_cases c109 : x7_42 = true
                        · subst c109
                          have H1 : (if t431 = 1 then (boundstonelaw02_PlaneSegmentsFair.j4 kj57 t431 true (x8_57 != true)) else (boundstonelaw02_PlaneSegmentsFair.j4 kj57 t431 true (x8_57 != (t431 == 3)))) = some r := by rw [if_pos rfl] at H; exact H
                          clear H
                          have H := H1
                          clear H1
                          by_cases c110 : t431 = 1
                          · rw [if_pos c110] at H
                            have c110b0 : (t431 == 1) = true := beq_iff_eq.mpr c110
                            have c110b1 : (t431 != 1) = false := bne_eq_false_iff_eq.mpr c110
                            clear c110
                            (first | rw [c110b0] | (simp only [i64_w, i32_w]; rw [c110b0]) | skip)
                            have H' := Aside0.mk H
                            clear H
                            go_wp2
                            go_meet
                            case rel => exact ⟨_, ((x8_57 != true)), (by first | rfl | (simp; done) | (simp [*]; done)), H', ⟨by have := HJ3.out; have := HJ28.out; have := HJ42.out; have := HJ57.out; first | omega | exact Nat.le_refl _⟩, ⟨by (with_reducible repeat (first | refine blk_drewN ?_ _ | refine blk_drew ?_ | refine blk_alloc ?_ _)); exact BK429.out⟩, ⟨by (with_reducible repeat (first | refine blk_drewN ?_ _ | refine blk_drew ?_ | refine blk_alloc ?_ _)); exact BK430.out⟩, ⟨by (with_reducible repeat (first | refine blk_drewN ?_ _ | refine blk_drew ?_ | refine blk_alloc ?_ _)); exact BK432.out⟩, ⟨by repeat (first | (with_reducible first | exact HB.out | apply below_alloc | apply pw_below_drewN | apply below_drew1 | refine below_set ?_ GE429.out | refine below_set ?_ GE430.out | refine below_set ?_ GE432.out) | exact HB.out)⟩⟩
                          · rw [if_neg c110] at H
                            have c110b0 : (t431 == 1) = false := beq_eq_false_iff_ne.mpr c110
                            have c110b1 : (t431 != 1) = true := bne_iff_ne.mpr c110
                            (first | rw [c110b0] | (simp only [i64_w, i32_w]; rw [c110b0]) | skip)
                            have H' := Aside0.mk H
                            clear H
                            go_wp2
                            go_meet
                            case rel => exact ⟨_, ((x8_57 != (t431 == 3))), (by first | rfl | (simp; done) | (simp [*]; done)), H', ⟨by have := HJ3.out; have := HJ28.out; have := HJ42.out; have := HJ57.out; first | omega | exact Nat.le_refl _⟩, ⟨by (with_reducible repeat (first | refine blk_drewN ?_ _ | refine blk_drew ?_ | refine blk_alloc ?_ _)); exact BK429.out⟩, ⟨by (with_reducible repeat (first | refine blk_drewN ?_ _ | refine blk_drew ?_ | refine blk_alloc ?_ _)); exact BK430.out⟩, ⟨by (with_reducible repeat (first | refine blk_drewN ?_ _ | refine blk_drew ?_ | refine blk_alloc ?_ _)); exact BK432.out⟩, ⟨by repeat (first | (with_reducible first | exact HB.out | apply below_alloc | apply pw_below_drewN | apply below_drew1 | refine below_set ?_ GE429.out | refine below_set ?_ GE430.out | refine below_set ?_ GE432.out) | exact HB.out)⟩⟩
                        · replace c109 := Bool.eq_false_iff.mpr c109
                          subst c109
                          have H1 : (boundstonelaw02_PlaneSegmentsFair.j4 kj57 t431 false false) = some r := by rw [if_neg (show ¬ (false = true) by decide)] at H; exact H
                          clear H
                          have H := H1
                          clear H1
                          have H' := Aside0.mk H
                          clear H
                          go_wp2
                          go_meet
                          case rel => exact ⟨_, (false), (by first | rfl | (simp; done) | (simp [*]; done)), H', ⟨by have := HJ3.out; have := HJ28.out; have := HJ42.out; have := HJ57.out; first | omega | exact Nat.le_refl _⟩, ⟨by (with_reducible repeat (first | refine blk_drewN ?_ _ | refine blk_drew ?_ | refine blk_alloc ?_ _)); exact BK429.out⟩, ⟨by (with_reducible repeat (first | refine blk_drewN ?_ _ | refine blk_drew ?_ | refine blk_alloc ?_ _)); exact BK430.out⟩, ⟨by (with_reducible repeat (first | refine blk_drewN ?_ _ | refine blk_drew ?_ | refine blk_alloc ?_ _)); exact BK432.out⟩, ⟨by repeat (first | (with_reducible first | exact HB.out | apply below_alloc | apply pw_below_drewN | apply below_drew1 | refine below_set ?_ GE429.out | refine below_set ?_ GE430.out | refine below_set ?_ GE432.out) | exact HB.out)⟩⟩
                      case rest =>
                        clear HC108
                        try clear c1
                        try clear c2
                        try clear p2
                        try clear c3
                        try clear c4
                        try clear c5
                        try clear c6
                        try clear p6
                        try clear c7
                        try clear c8
                        try clear c9
                        try clear c10
                        try clear c11
                        try clear c19
                        try clear c26
                        try clear c30
                        try clear c30b0
                        try clear c30b1
                        try clear c34
                        try clear c34b0
                        try clear c42
                        try clear c45
                        try clear c47
                        try clear c48
                        try clear c51
                        try clear c54
                        try clear c55
                        try clear c60
                        try clear c61
                        try clear c62
                        try clear c64
                        try clear p64
                        try clear c68
                        try clear c69
                        try clear c70
                        try clear c72
                        try clear c79
                        try clear c80
                        try clear c81
                        try clear c83
                        try clear c93
                        try clear c94
                        try clear c96
                        try clear c109
                        try clear c110
                        try clear c110b0
                        try clear c110b1
                        try clear hcz100_0
                        try clear hcz100_1
                        try clear hcz100_2
                        try clear hcz100_3
                        try clear hcz102_0
                        try clear hcz102_1
                        try clear hcz102_2
                        try clear hcz102_3
                        try clear hcz103_0
                        try clear hcz103_1
                        try clear hcz103_2
                        try clear hcz103_3
                        try clear hcz105_0
                        try clear hcz105_1
                        try clear hcz105_2
                        try clear hcz105_3
                        try clear hcz106_0
                        try clear hcz106_1
                        try clear hcz106_2
                        try clear hcz106_3
                        try clear hcz49_0
                        try clear hcz49_1
                        try clear hcz49_2
                        try clear hcz49_3
                        try clear hcz52_0
                        try clear hcz52_1
                        try clear hcz52_2
                        try clear hcz52_3
                        try clear hcz56_0
                        try clear hcz56_1
                        try clear hcz56_2
                        try clear hcz56_3
                        try clear hcz63_0
                        try clear hcz63_1
                        try clear hcz63_2
                        try clear hcz63_3
                        try clear hcz65_0
                        try clear hcz65_1
                        try clear hcz65_2
                        try clear hcz65_3
                        try clear hcz71_0
                        try clear hcz71_1
                        try clear hcz71_2
                        try clear hcz71_3
                        try clear hcz73_0
                        try clear hcz73_1
                        try clear hcz73_2
                        try clear hcz73_3
                        try clear hcz75_0
                        try clear hcz75_1
                        try clear hcz75_2
                        try clear hcz75_3
                        try clear hcz76_0
                        try clear hcz76_1
                        try clear hcz76_2
                        try clear hcz76_3
                        try clear hcz82_0
                        try clear hcz82_1
                        try clear hcz82_2
                        try clear hcz82_3
                        try clear hcz84_0
                        try clear hcz84_1
                        try clear hcz84_2
                        try clear hcz84_3
                        try clear hcz86_0
                        try clear hcz86_1
                        try clear hcz86_2
                        try clear hcz86_3
                        try clear hcz87_0
                        try clear hcz87_1
                        try clear hcz87_2
                        try clear hcz87_3
                        try clear hcz89_0
                        try clear hcz89_1
                        try clear hcz89_2
                        try clear hcz89_3
                        try clear hcz90_0
                        try clear hcz90_1
                        try clear hcz90_2
                        try clear hcz90_3
                        try clear hcz95_0
                        try clear hcz95_1
                        try clear hcz95_2
                        try clear hcz95_3
                        try clear hcz97_0
                        try clear hcz97_1
                        try clear hcz97_2
                        try clear hcz97_3
                        try clear hcz99_0
                        try clear hcz99_1
                        try clear hcz99_2
                        try clear hcz99_3
                        try clear hfz100_0
                        try clear hfz100_1
                        try clear hfz100_2
                        try clear hfz100_3
                        try clear hfz102_0
                        try clear hfz102_1
                        try clear hfz102_2
                        try clear hfz102_3
                        try clear hfz103_0
                        try clear hfz103_1
                        try clear hfz103_2
                        try clear hfz103_3
                        try clear hfz105_0
                        try clear hfz105_1
                        try clear hfz105_2
                        try clear hfz105_3
                        try clear hfz106_0
                        try clear hfz106_1
                        try clear hfz106_2
                        try clear hfz106_3
                        try clear hfz49_0
                        try clear hfz49_1
                        try clear hfz49_2
                        try clear hfz49_3
                        try clear hfz52_0
                        try clear hfz52_1
                        try clear hfz52_2
                        try clear hfz52_3
                        try clear hfz56_0
                        try clear hfz56_1
                        try clear hfz56_2
                        try clear hfz56_3
                        try clear hfz63_0
                        try clear hfz63_1
                        try clear hfz63_2
                        try clear hfz63_3
                        try clear hfz65_0
                        try clear hfz65_1
                        try clear hfz65_2
                        try clear hfz65_3
                        try clear hfz71_0
                        try clear hfz71_1
                        try clear hfz71_2
                        try clear hfz71_3
                        try clear hfz73_0
                        try clear hfz73_1
                        try clear hfz73_2
                        try clear hfz73_3
                        try clear hfz75_0
                        try clear hfz75_1
                        try clear hfz75_2
                        try clear hfz75_3
                        try clear hfz76_0
                        try clear hfz76_1
                        try clear hfz76_2
                        try clear hfz76_3
                        try clear hfz82_0
                        try clear hfz82_1
                        try clear hfz82_2
                        try clear hfz82_3
                        try clear hfz84_0
                        try clear hfz84_1
                        try clear hfz84_2
                        try clear hfz84_3
                        try clear hfz86_0
                        try clear hfz86_1
                        try clear hfz86_2
                        try clear hfz86_3
                        try clear hfz87_0
                        try clear hfz87_1
                        try clear hfz87_2
                        try clear hfz87_3
                        try clear hfz89_0
                        try clear hfz89_1
                        try clear hfz89_2
                        try clear hfz89_3
                        try clear hfz90_0
                        try clear hfz90_1
                        try clear hfz90_2
                        try clear hfz90_3
                        try clear hfz95_0
                        try clear hfz95_1
                        try clear hfz95_2
                        try clear hfz95_3
                        try clear hfz97_0
                        try clear hfz97_1
                        try clear hfz97_2
                        try clear hfz97_3
                        try clear hfz99_0
                        try clear hfz99_1
                        try clear hfz99_2
                        try clear hfz99_3
                        try clear p2
                        try clear p6
                        try clear p64
                        obtain ⟨kq, x109_107, rfl, HA, HJ107, BK429, BK430, BK432, HB⟩ := hcut
                        cases kq with
                        | zero => exact absurd HA.out (by simp [boundstonelaw02_PlaneSegmentsFair.j4])
                        | succ kj107 =>
                          have H := HA.out
                          clear HA
                          simp only [boundstonelaw02_PlaneSegmentsFair.j4] at H
                          by_cases c111 : x109_107 = true
                          · subst c111
                            have H1 : (none) = some r := by rw [if_pos rfl] at H; exact H
                            clear H
                            have H := H1
                            clear H1
                            exact absurd H (by simp)
                          · replace c111 := Bool.eq_false_iff.mpr c111
                            subst c111
                            have H1 : ((boundstonelaw02_sanity.f kj107).bind fun t445 => (if t445 = true then (if x7_42 = true then (some true) else (some (t431 == 0))) else (none))) = some r := by rw [if_neg (show ¬ (false = true) by decide)] at H; exact H
                            clear H
                            have H := H1
                            clear H1
                            replace H := Option.bind_eq_some_iff.mp H
                            obtain ⟨t445, A1120, H⟩ := H
                            replace H : (if t445 = true then (if x7_42 = true then (some true) else (some (t431 == 0))) else (none)) = some r := H
                            have A112 := Aside0.mk A1120
                            clear A1120
                            by_cases c113 : t445 = true
                            · subst c113
                              have H1 : (if x7_42 = true then (some true) else (some (t431 == 0))) = some r := by rw [if_pos rfl] at H; exact H
                              clear H
                              have H := H1
                              clear H1
                              by_cases c114 : x7_42 = true
                              · subst c114
                                have H1 : (some true) = some r := by rw [if_pos rfl] at H; exact H
                                clear H
                                have H := H1
                                clear H1
                                obtain rfl := Option.some.inj H
                                go_wp2_with (first | ((with_reducible refine gate_callee (f := 16) rfl ?_); refine goesL_ (some 110) rfl rfl Try.func16 (by kernel_rfl) rfl #[] rfl (by (try simp only [List.map_toArray, List.map_cons, List.map_nil]); first | done | rfl | (simp only [List.length_drop, List.length_take]; rfl)) ?_; (with_reducible refine (boundstonelaw02_sanity.calls kj107  true _ A112.out).mono ?_); rintro e w115 ⟨rfl, hb⟩; refine ⟨_, rfl, ?_⟩; have n0_ := Aside0.mk (blk_below (g := gb429) (o := .cells #[.int .i64 a0_0, .int .i64 a0_1, .int .i64 a0_2, .int .i64 a0_3] 34 (0, 0)) (by (with_reducible repeat (first | refine blk_drewN ?_ _ | refine blk_drew ?_ | refine blk_alloc ?_ _)); exact BK429.out) hb); have n1_ := Aside0.mk (blk_below (g := gb430) (o := .cells #[.int .i64 a1_0, .int .i64 a1_1, .int .i64 a1_2, .int .i64 a1_3] 34 (0, 0)) (by (with_reducible repeat (first | refine blk_drewN ?_ _ | refine blk_drew ?_ | refine blk_alloc ?_ _)); exact BK430.out) hb); have n2_ := Aside0.mk (blk_below (g := gb432) (o := .cells #[.int .i64 a0_2, .int .i64 a0_3, .int .i64 a0_0, .int .i64 a0_1] 34 (0, 0)) (by (with_reducible repeat (first | refine blk_drewN ?_ _ | refine blk_drew ?_ | refine blk_alloc ?_ _)); exact BK432.out) hb); have n3_ := Aside0.mk (below_step (by repeat (first | (with_reducible first | exact HB.out | apply below_alloc | apply pw_below_drewN | apply below_drew1 | refine below_set ?_ GE429.out | refine below_set ?_ GE430.out | refine below_set ?_ GE432.out) | exact HB.out)) hb); clear BK429; clear BK430; clear BK432; clear HB; have BK429 := n0_; have BK430 := n1_; have BK432 := n2_; have HB := n3_; clear n0_ n1_ n2_ n3_; (try clear hb); (try clear hb2); (try clear hk); (try clear hi)))
                                go_ret
                                exact ⟨by first | rfl | (simp [errW_none, errW_some] <;> rfl) | (simp [*, errW_none, errW_some] <;> rfl), by repeat (first | (with_reducible first | exact HB.out | apply below_alloc | apply pw_below_drewN | apply below_drew1 | refine below_set ?_ GE429.out | refine below_set ?_ GE430.out | refine below_set ?_ GE432.out) | exact HB.out)⟩
                              · replace c114 := Bool.eq_false_iff.mpr c114
                                subst c114
                                have H1 : (some (t431 == 0)) = some r := by rw [if_neg (show ¬ (false = true) by decide)] at H; exact H
                                clear H
                                have H := H1
                                clear H1
                                obtain rfl := Option.some.inj H
                                go_wp2_with (first | ((with_reducible refine gate_callee (f := 16) rfl ?_); refine goesL_ (some 110) rfl rfl Try.func16 (by kernel_rfl) rfl #[] rfl (by (try simp only [List.map_toArray, List.map_cons, List.map_nil]); first | done | rfl | (simp only [List.length_drop, List.length_take]; rfl)) ?_; (with_reducible refine (boundstonelaw02_sanity.calls kj107  true _ A112.out).mono ?_); rintro e w116 ⟨rfl, hb⟩; refine ⟨_, rfl, ?_⟩; have n0_ := Aside0.mk (blk_below (g := gb429) (o := .cells #[.int .i64 a0_0, .int .i64 a0_1, .int .i64 a0_2, .int .i64 a0_3] 34 (0, 0)) (by (with_reducible repeat (first | refine blk_drewN ?_ _ | refine blk_drew ?_ | refine blk_alloc ?_ _)); exact BK429.out) hb); have n1_ := Aside0.mk (blk_below (g := gb430) (o := .cells #[.int .i64 a1_0, .int .i64 a1_1, .int .i64 a1_2, .int .i64 a1_3] 34 (0, 0)) (by (with_reducible repeat (first | refine blk_drewN ?_ _ | refine blk_drew ?_ | refine blk_alloc ?_ _)); exact BK430.out) hb); have n2_ := Aside0.mk (blk_below (g := gb432) (o := .cells #[.int .i64 a0_2, .int .i64 a0_3, .int .i64 a0_0, .int .i64 a0_1] 34 (0, 0)) (by (with_reducible repeat (first | refine blk_drewN ?_ _ | refine blk_drew ?_ | refine blk_alloc ?_ _)); exact BK432.out) hb); have n3_ := Aside0.mk (below_step (by repeat (first | (with_reducible first | exact HB.out | apply below_alloc | apply pw_below_drewN | apply below_drew1 | refine below_set ?_ GE429.out | refine below_set ?_ GE430.out | refine below_set ?_ GE432.out) | exact HB.out)) hb); clear BK429; clear BK430; clear BK432; clear HB; have BK429 := n0_; have BK430 := n1_; have BK432 := n2_; have HB := n3_; clear n0_ n1_ n2_ n3_; (try clear hb); (try clear hb2); (try clear hk); (try clear hi)))
                                go_ret
                                exact ⟨by first | rfl | (simp [errW_none, errW_some] <;> rfl) | (simp [*, errW_none, errW_some] <;> rfl), by repeat (first | (with_reducible first | exact HB.out | apply below_alloc | apply pw_below_drewN | apply below_drew1 | refine below_set ?_ GE429.out | refine below_set ?_ GE430.out | refine below_set ?_ GE432.out) | exact HB.out)⟩
                            · replace c113 := Bool.eq_false_iff.mpr c113
                              subst c113
                              have H1 : (none) = some r := by rw [if_neg (show ¬ (false = true) by decide)] at H; exact H
                              clear H
                              have H := H1
                              clear H1
                              exact absurd H (by simp)
end Go.Proofs.Ytckaejgamfllfaa.G
end

section
namespace Go.Proofs.Ytckaejgamfllfaa.G
set_option linter.unusedSimpArgs false
open Go.RowKit Go.Proofs.YtckaejgamfllfaaW.PrintWords Go.Proofs.YtckaejgamfllfaaW.PrintLast Go.Proofs.YtckaejgamfllfaaW.PrintMore
theorem rest_eq (a b c d : S23) (E : List S23) : restP a b c d E = if E.isEmpty then signsP a b c d else if E.any (fun p => E.any (fun q => !eqP p q)) then 3 else 1 := by
  cases E with
  | nil => rfl
  | cons e r =>
    simp only [restP, List.isEmpty_cons, Bool.false_eq_true, if_false]
    congr 1
    rw [eq_iff_iff]
    constructor
    · intro h
      obtain ⟨p, hp, hq⟩ := List.any_eq_true.1 h
      exact List.any_eq_true.2 ⟨p, by simp [hp], List.any_eq_true.2 ⟨e, by simp, hq⟩⟩
    · intro h
      obtain ⟨p, hp, hq⟩ := List.any_eq_true.1 h
      obtain ⟨q, hq1, hq2⟩ := List.any_eq_true.1 hq
      apply Classical.byContradiction
      intro hn
      have all : ∀ x ∈ e :: r, x = e := by
        intro x hx
        rcases List.mem_cons.1 hx with h | h
        · exact h
        · apply Classical.byContradiction
          intro hne
          exact hn (List.any_eq_true.2 ⟨x, h, by rw [(eqP_false x e).2 hne]; rfl⟩)
      rw [all p hp, all q hq1, (eqP_iff e e).2 rfl] at hq2
      cases hq2
theorem any2_perm {E F : List S23} (h : E.Perm F) (f : S23 → S23 → Bool) : E.any (fun p => E.any (f p)) = F.any (fun p => F.any (f p)) := by
  rw [Bool.eq_iff_iff]
  simp only [List.any_eq_true]
  constructor
  · rintro ⟨p, hp, q, hq, e⟩; exact ⟨p, h.mem_iff.1 hp, q, h.mem_iff.1 hq, e⟩
  · rintro ⟨p, hp, q, hq, e⟩; exact ⟨p, h.mem_iff.2 hp, q, h.mem_iff.2 hq, e⟩
theorem rest_perm (a b c d a' b' c' d' : S23) {E F : List S23} (h : E.Perm F) (hs : signsP a b c d = signsP a' b' c' d') : restP a b c d E = restP a' b' c' d' F := by
  rw [rest_eq, rest_eq, any2_perm h, hs]
  have : E.isEmpty = F.isEmpty := by
    rw [Bool.eq_iff_iff, List.isEmpty_iff, List.isEmpty_iff]
    constructor
    · rintro rfl; exact List.nil_perm.1 h
    · rintro rfl; exact List.perm_nil.1 h
  rw [this]
theorem meet_sym (a b c d : S23) : meetP c d a b = meetP a b c d := by
  rw [← refMeet_eq, ← refMeet_eq]
  unfold refMeetP
  rw [Bool.and_comm]
  congr 1
  exact rest_perm _ _ _ _ _ _ _ _ (List.perm_append_comm) (by unfold signsP; simp only [and_comm])
theorem onP_swap {a b p : S23} (ha : validP a = true) (hb : validP b = true) (hp : validP p = true) : onP b a p = onP a b p := by
  unfold onP btwP
  rw [twW_eq ha hb hp, twW_eq hb ha hp, twZ_swap]
  have e1 : ∀ x y : Int, mn x y = mn y x := by intro x y; unfold mn; split <;> split <;> omega
  have e2 : ∀ x y : Int, mx x y = mx y x := by intro x y; unfold mx; split <;> split <;> omega
  rw [e1 b.f0, e1 b.f1, e2 b.f0, e2 b.f1]
  have : decide (-twZ a b p = 0) = decide (twZ a b p = 0) := by
    rw [decide_eq_decide]; omega
  rw [this]
theorem propP_swap (a b : S23) : propP b a = propP a b := by
  rw [Bool.eq_iff_iff, propP_iff, propP_iff]
  constructor <;> (rintro ⟨h1, h2, h3⟩; exact ⟨h2, h1, fun h => h3 h.symm⟩)
theorem meet_back (a b c d : S23) : meetP b a c d = meetP a b c d := by
  rw [← refMeet_eq, ← refMeet_eq]
  unfold refMeetP
  rw [propP_swap a b]
  by_cases hp : (propP a b && propP c d) = true
  · rw [if_pos hp, if_pos hp]
    simp only [Bool.and_eq_true, propP_iff] at hp
    obtain ⟨⟨ha, hb, hab⟩, hc, hd, hcd⟩ := hp
    apply rest_perm
    · unfold endsP
      refine List.Perm.append ((List.Perm.swap _ _ _).filter _) ?_
      simp only [List.filter_cons, List.filter_nil]
      rw [onP_swap ha hb hc, onP_swap ha hb hd]
    · unfold signsP
      rw [twW_eq hb ha hc, twW_eq hb ha hd, twW_eq ha hb hc, twW_eq ha hb hd, twZ_swap a b c, twZ_swap a b d, sgn_neg, sgn_neg, Int.neg_mul_neg, Int.mul_comm (sgn (twW c d b))]
  · rw [if_neg hp, if_neg hp]
theorem semidef {A B m x y : Int} (hA : 0 ≤ A) (hB : 0 ≤ B) (hm : m * m = A * B) : 0 ≤ A * (x * x) + 2 * m * (x * y) + B * (y * y) := by
  rcases Int.lt_or_eq_of_le hA with h | h
  · have e : A * (A * (x * x) + 2 * m * (x * y) + B * (y * y)) = (A * x + m * y) * (A * x + m * y) := by grind
    have := sq_nn (A * x + m * y)
    rw [← e] at this
    exact Int.nonneg_of_mul_nonneg_right this h
  · subst h
    have : m = 0 := sq_zero (by omega)
    subst this
    have := Int.mul_nonneg hB (sq_nn y)
    omega
theorem between_sides {a b c d p : S23} (h0 : twZ c d p = 0) (hb : btwP c d p = true) (hp : twZ a b p = 0) : twZ a b c * twZ a b d ≤ 0 := by
  have ux : 0 ≤ (p.f0 - c.f0) * (d.f0 - p.f0) ∧ 0 ≤ (p.f1 - c.f1) * (d.f1 - p.f1) := by
    unfold btwP mn mx at hb
    simp only [Bool.and_eq_true, decide_eq_true_eq] at hb
    obtain ⟨⟨h1, h2⟩, h3, h4⟩ := hb
    constructor
    · split at h1 <;> split at h2
      · omega
      · exact Int.mul_nonneg_of_nonpos_of_nonpos (by omega) (by omega)
      · exact Int.mul_nonneg (by omega) (by omega)
      · have : p.f0 = c.f0 := by omega
        rw [this, Int.sub_self, Int.zero_mul]; exact Int.le_refl _
    · split at h3 <;> split at h4
      · omega
      · exact Int.mul_nonneg_of_nonpos_of_nonpos (by omega) (by omega)
      · exact Int.mul_nonneg (by omega) (by omega)
      · have : p.f1 = c.f1 := by omega
        rw [this, Int.sub_self, Int.zero_mul]; exact Int.le_refl _
  unfold twZ at *
  have par : (p.f0 - c.f0) * (d.f1 - p.f1) = (p.f1 - c.f1) * (d.f0 - p.f0) := by grind
  have key := @semidef ((p.f1 - c.f1) * (d.f1 - p.f1)) ((p.f0 - c.f0) * (d.f0 - p.f0)) (-((p.f0 - c.f0) * (d.f1 - p.f1))) (b.f0 - a.f0) (b.f1 - a.f1) ux.2 ux.1 (by grind)
  have e : ((b.f0 - a.f0) * (c.f1 - a.f1) - (b.f1 - a.f1) * (c.f0 - a.f0)) * ((b.f0 - a.f0) * (d.f1 - a.f1) - (b.f1 - a.f1) * (d.f0 - a.f0)) =
     -((p.f1 - c.f1) * (d.f1 - p.f1) * ((b.f0 - a.f0) * (b.f0 - a.f0)) + 2 * -((p.f0 - c.f0) * (d.f1 - p.f1)) * ((b.f0 - a.f0) * (b.f1 - a.f1)) + (p.f0 - c.f0) * (d.f0 - p.f0) * ((b.f1 - a.f1) * (b.f1 - a.f1))) := by grind
  omega
theorem sgn_mul_pos (m n : Int) : 0 < sgn m * sgn n ↔ 0 < m * n := by
  unfold sgn
  rcases Int.lt_trichotomy m 0 with h | h | h
  · rw [if_pos h]
    rcases Int.lt_trichotomy n 0 with h' | h' | h'
    · rw [if_pos h']; have := Int.mul_pos_of_neg_of_neg h h'; omega
    · subst h'; simp
    · rw [if_neg (by omega), if_pos h']; have := Int.mul_neg_of_neg_of_pos h h'; omega
  · subst h; simp
  · rw [if_neg (by omega), if_pos h]
    rcases Int.lt_trichotomy n 0 with h' | h' | h'
    · rw [if_pos h']; have := Int.mul_neg_of_pos_of_neg h h'; omega
    · subst h'; simp
    · rw [if_neg (by omega), if_pos h']; have := Int.mul_pos h h'; omega
theorem onP_btw {a b p : S23} (h : onP a b p = true) : btwP a b p = true := by
  unfold onP at h
  simp only [Bool.and_eq_true] at h
  exact h.2
theorem meet_prop {a b c d : S23} (h : meetP a b c d ≠ 0) : propP a b = true ∧ propP c d = true := by
  unfold meetP at h
  split at h
  · rename_i h'; simpa using h'
  · simp at h
theorem meet_sides {a b c d : S23} (h : meetP a b c d ≠ 0) : ¬ 0 < turnP a b c * turnP a b d := by
  obtain ⟨h1, h2⟩ := meet_prop h
  rw [← refMeet_eq] at h
  unfold refMeetP at h
  rw [h1, h2] at h
  rw [propP_iff] at h1 h2
  obtain ⟨ha, hb, hab⟩ := h1
  obtain ⟨hc, hd, hcd⟩ := h2
  rw [turn_all ha hb hc, turn_all ha hb hd, sgn_mul_pos]
  intro hpos
  have vm : ∀ p, p ∈ [a, b, c, d] → validP p = true := by
    intro p hp
    simp at hp
    rcases hp with rfl | rfl | rfl | rfl <;> assumption
  have hE : endsP a b c d = [] := by
    apply List.eq_nil_iff_forall_not_mem.2
    intro p hp
    obtain ⟨m, o1, o2⟩ := ends_both hp
    have := between_sides (a := a) (b := b) (onP_tw hc hd (vm _ m) o2) (onP_btw o2) (onP_tw ha hb (vm _ m) o1)
    omega
  rw [hE] at h
  simp only [Bool.and_self, if_true, restP, signsP] at h
  split at h
  · rename_i hx
    rw [twW_eq ha hb hc, twW_eq ha hb hd] at hx
    have := (sgn_mul_pos (twZ a b c) (twZ a b d)).2 hpos
    omega
  · simp at h
theorem wrap_turns (a b c d e f : S23) : wrap64 (turnP a b c * turnP d e f) = turnP a b c * turnP d e f := by
  have r : ∀ a b c, turnP a b c = -1 ∨ turnP a b c = 0 ∨ turnP a b c = 1 := by
    intro a b c; unfold turnP; split
    · exact sgn_range _
    · simp
  rcases r a b c with h | h | h <;> rcases r d e f with h' | h' | h' <;> rw [h, h'] <;> exact wrap_small (by decide) (by decide)
theorem signs_range (a b c d : S23) : signsP a b c d = 0 ∨ signsP a b c d = 2 := by unfold signsP; split <;> simp
theorem rest_ends {a b c d : S23} (h1 : propP a b = true) (h2 : propP c d = true) :
    (onP a b c || (onP a b d || (onP c d a || onP c d b))) = (meetP a b c d == 1 || meetP a b c d == 3) := by
  rw [← refMeet_eq]
  unfold refMeetP
  rw [h1, h2]
  simp only [Bool.and_self, if_true]
  have hany : (onP a b c || (onP a b d || (onP c d a || onP c d b))) = !(endsP a b c d).isEmpty := by
    unfold endsP
    simp only [List.filter_cons, List.filter_nil]
    cases onP c d a <;> cases onP c d b <;> cases onP a b c <;> cases onP a b d <;> rfl
  rw [hany]
  cases endsP a b c d with
  | nil => simp only [restP]; rcases signs_range a b c d with h | h <;> rw [h] <;> rfl
  | cons e r =>
    simp only [restP]
    split <;> rfl
end Go.Proofs.Ytckaejgamfllfaa.G
end

section
namespace Go.Proofs.Ytckaejgamfllfaa.G
set_option linter.unusedSimpArgs false
open Go.RowKit Go.Proofs.YtckaejgamfllfaaW.PrintWords Go.Proofs.YtckaejgamfllfaaW.PrintLast Go.Proofs.YtckaejgamfllfaaW.PrintMore
theorem sf_j4 (k : Nat) (hk : 100 ≤ k) (m : Int) (q : Bool) (h : q = true ∨ m = 0) : boundstonelaw02_PlaneSegmentsFair.j4 (k + 1) m q false = some true := by
  simp only [boundstonelaw02_PlaneSegmentsFair.j4]
  rw [sanity_mono hk]
  rcases h with rfl | rfl
  · simp
  · cases q <;> simp
theorem sf_j3 (k : Nat) (hk : 100 ≤ k) (m : Int) (q e : Bool) (h : q = true ∨ m = 0) (he : q = true → e = (m == 1 || m == 3)) : boundstonelaw02_PlaneSegmentsFair.j3 (k + 2) m q e = some true := by
  simp only [boundstonelaw02_PlaneSegmentsFair.j3]
  cases q with
  | false => simp; exact sf_j4 k hk m false h
  | true =>
    rw [if_pos rfl]
    have he := he rfl
    split
    · rename_i h1
      subst h1
      rw [he]
      exact sf_j4 k hk _ true (.inl rfl)
    · rename_i h1
      have h1' : (m == 1) = false := by simpa using h1
      rw [he, h1']
      simp
      exact sf_j4 k hk m true h
theorem On_first (a b : S23) : OnP a b a = propP a b := by
  unfold OnP
  rw [onP_self1]
  cases h : propP a b
  · simp
  · rw [propP_iff] at h; simp [h.1]
theorem law4 (a b c d : S23) : boundstonelaw02_PlaneSegmentsFair.f 200 a.f0 a.f1 b.f0 b.f1 c.f0 c.f1 d.f0 d.f1 = some true := by
  unfold boundstonelaw02_PlaneSegmentsFair.f
  rw [meet_eq a b c d _ (by omega), meet_eq c d a b _ (by omega), meet_eq b a c d _ (by omega), meet_sym a b c d, meet_back a b c d]
  simp only [Option.bind_some, if_true]
  have J1 : boundstonelaw02_PlaneSegmentsFair.j1 199 (meetP a b c d) false a.f0 a.f1 b.f0 b.f1 c.f0 c.f1 d.f0 d.f1 = some true := by
    simp only [boundstonelaw02_PlaneSegmentsFair.j1]
    rw [plane_On_eq a b a, plane_On_eq c d c, On_first, On_first]
    have J2 : ∀ q : Bool, q = (propP a b && propP c d) → boundstonelaw02_PlaneSegmentsFair.j2 198 (meetP a b c d) q a.f0 a.f1 b.f0 b.f1 c.f0 c.f1 d.f0 d.f1 = some true := by
      intro q hq
      have J3 : ∀ e : Bool, e = (OnP a b c || (OnP a b d || (OnP c d a || OnP c d b))) → boundstonelaw02_PlaneSegmentsFair.j3 197 (meetP a b c d) q e = some true := by
        intro e he
        refine sf_j3 195 (by omega) _ q e ?_ ?_
        · cases hq' : q with
          | true => left; rfl
          | false =>
            right
            apply Classical.byContradiction
            intro hm
            obtain ⟨h1, h2⟩ := meet_prop hm
            rw [h1, h2] at hq
            rw [hq] at hq'
            cases hq'
        · intro hq'
          rw [hq'] at hq
          have hq := hq.symm
          simp only [Bool.and_eq_true] at hq
          obtain ⟨h1, h2⟩ := hq
          rw [he, ← rest_ends h1 h2]
          have v1 := (propP_iff a b).1 h1
          have v2 := (propP_iff c d).1 h2
          unfold OnP
          rw [h1, h2, v1.1, v1.2.1, v2.1, v2.2.1]
          simp
      simp only [boundstonelaw02_PlaneSegmentsFair.j2]
      rw [plane_On_eq a b c, plane_On_eq a b d, plane_On_eq c d a, plane_On_eq c d b]
      simp only [Option.bind_some]
      cases h1 : OnP a b c with
      | true => rw [if_pos rfl]; exact J3 true (by rw [h1]; rfl)
      | false =>
        rw [if_neg (by simp)]
        cases h2 : OnP a b d with
        | true => rw [if_pos rfl]; exact J3 true (by rw [h1, h2]; rfl)
        | false =>
          rw [if_neg (by simp)]
          cases h3 : OnP c d a with
          | true => rw [if_pos rfl]; exact J3 true (by rw [h1, h2, h3]; rfl)
          | false => rw [if_neg (by simp)]; exact J3 _ (by rw [h1, h2, h3]; simp)
    simp only [Option.bind_some, Bool.false_eq_true, if_false]
    cases h1 : propP a b with
    | true => rw [if_pos rfl]; exact J2 _ (by rw [h1]; simp)
    | false => rw [if_neg (by simp)]; exact J2 false (by rw [h1]; rfl)
  simp only [boundstonelaw02_PlaneSegmentsFair.j0]
  rw [plane_Turn_eq a b c, plane_Turn_eq a b d, plane_Turn_eq c d a, plane_Turn_eq c d b]
  simp only [Option.bind_some, wrap_turns, bne_self_eq_false, Bool.false_eq_true, if_false]
  by_cases hm : meetP a b c d = 0
  · rw [if_pos hm]; exact J1
  · rw [if_neg hm, if_neg (meet_sides hm)]
    have : ¬ 0 < turnP c d a * turnP c d b := meet_sides (by rw [meet_sym]; exact hm)
    have e : decide (turnP c d a * turnP c d b > 0) = false := by simpa using this
    rw [e]
    exact J1
end Go.Proofs.Ytckaejgamfllfaa.G
end
