/- Part 3 of 6. -/
import Derived.Test.YtckaejgamfllfaaDb
import Derived.Laws.Externs
import Derived.ProofKit
import Derived.OpenShut
import Derived.ChangeOld
import Derived.Below
import Derived.SizedLaws
import Derived.Deep.Slices
import Derived.Shelf.Abstract
section
namespace Go.Proofs.Ytckaejgamfllfaa.G
open Go.RowKit Go.Proofs.YtckaejgamfllfaaW.PrintWords Go.Proofs.YtckaejgamfllfaaW.PrintLast Go.Proofs.YtckaejgamfllfaaW.PrintMore
attribute [local go_sem] max2_int min2_int max_two min_two max_three min_three max_four min_four
set_option linter.unusedVariables false
set_option linter.unusedSimpArgs false
def api_Point_109.l0 : Nat → List (S23) → Int → Int → Option ((List (S23)))
  | 0, _, _, _ => none
  | k + 1, x0, x2, x3 => if x2 < x3 then (if 0 ≤ x3 then (if x3 < (x0.length : Int) then (if 0 ≤ x2 then (if x2 < (x0.length : Int) then (api_Point_109.l0 k ((x0.set (x2 : Int).toNat (⟨(rd_T23 x0 x3).f0, (rd_T23 x0 x3).f1⟩ : S23)).set (x3 : Int).toNat (⟨(rd_T23 x0 x2).f0, (rd_T23 x0 x2).f1⟩ : S23)) (wrap64 (x2 + 1)) (wrap64 (x3 - 1))) else (none)) else (none)) else (none)) else (none)) else (some x0)
def api_Point_109.f (k : Nat) (l0 : List (S23)) : Option ((List (S23))) := api_Point_109.l0 k l0 0 (wrap64 ((l0.length : Int) - 1))
def api_Point_109.T3 : Bool × List (List Nat × List Nat) := (true, [([], []), ([], []), ([], []), ([], []), ([], []), ([], []), ([4, 5], [4, 5]), ([6], [6]), ([], []), ([], []), ([8, 9], [8, 9]), ([10], [10]), ([0, 1, 0, 1, 4, 5, 6, 7, 11], [0, 1]), ([12, 7, 0, 1, 4, 5, 6, 7, 11], [7, 12]), ([2, 3, 0, 1, 2, 3, 4, 5, 6, 7, 8, 9, 10, 11, 12, 13], [2, 3]), ([14, 11, 13, 0, 1, 2, 3, 4, 5, 6, 7, 8, 9, 10, 11, 12, 13], [11, 14])])
def api_Point_109.B3 : List Nat := [0, 0, 0, 0, 0, 0, 48, 112, 0, 0, 768, 1792, 4083, 8179, 16383, 32767]
theorem api_Point_109.tab3 : rtab .any (opsOf Try.f109 3) = api_Point_109.T3 := by kernel_rfl
theorem api_Point_109.bits3 : waitsOk api_Point_109.T3.2 api_Point_109.B3 = true := by kernel_rfl
set_option maxHeartbeats 8000000 in
set_option maxRecDepth 100000 in
theorem api_Point_109.calls (k : Nat) (P0_ : Nat → Prop) (u9000_ : Value) (l0 : List (S23)) (r : List (S23)) (w0 w : World) (hB : Below w0.heap.size w0 w) (ho0 : Kd.R k23 23 w w0.heap.size P0_ u9000_ l0) (h : api_Point_109.f k l0 = some r) :
    Calls Try.prog 109 #[u9000_] w fun e w' => e = .returned (.tuple #[]) ∧ Kd.R k23 23 w' w0.heap.size (fun k_ => (P0_ k_ ∨ w.heap.size ≤ k_)) u9000_ r ∧ Below w0.heap.size w0 w' ∧ Kept w w' (fun k_ => P0_ k_) := by
  have hu23 := Try.underlying23
  have HO0 := Aside0.mk (show Kd.R k23 23 w w0.heap.size (fun k_ => (P0_ k_ ∨ w.heap.size ≤ k_)) u9000_ l0 from Kd.R_mono ho0 (fun k_ hk => (.inl hk)))
  have HK := Aside0.mk (Kept.refl w (fun k_ => P0_ k_))
  have HW0 := Aside0.mk hB.size
  have HB := Aside0.mk hB
  clear hB
  have H : (api_Point_109.l0 k l0 0 (wrap64 ((l0.length : Int) - 1))) = some r := h
  clear h
  have H' := Aside0.mk H
  clear H
  obtain ⟨Ao2, co2, eo2⟩ := Kd.R_slice HO0.out
  subst eo2
  go_enter Try.func109, Try.ntmps109
  go_wp2
  go_loopg [2, 3] k (fun kq v2 v3 w' => ∃ (x0_1 : List (S23)) (x2_1 : Int) (x3_1 : Int), v2 = .int .i64 x2_1 ∧ v3 = .int .i64 x3_1 ∧ Aside0 (api_Point_109.l0 kq x0_1 x2_1 x3_1 = some r) ∧ Aside0 (kq ≤ k) ∧ Aside0 (Kd.R k23 23 w' w0.heap.size (fun k_ => (P0_ k_ ∨ w.heap.size ≤ k_)) (.slice Ao2 l0.length co2) x0_1) ∧ Aside0 (Kept w w' (fun k_ => P0_ k_)) ∧ Aside0 (Below w0.heap.size w0 w'))
  case atStart => exact ⟨(l0), (0), (wrap64 ((l0.length : Int) - 1)), (by first | rfl | (simp; done) | (simp [*]; done)), (by first | rfl | (simp; done) | (simp [*]; done)), H', ⟨Nat.le_refl _⟩, ⟨by (with_reducible repeat (first | apply Kd.R_alloc | apply Kd.R_drewN | apply Kd.R_drew)); exact HO0.out⟩, ⟨by repeat (first | (with_reducible first | exact HK.out | apply Kept.alloc | apply Kept.drewN | apply Kept.drew) | exact HK.out)⟩, ⟨by repeat (first | (with_reducible first | exact HB.out | apply below_alloc | apply pw_below_drewN | apply below_drew1) | exact HB.out)⟩⟩
  case round =>
    clear H'
    try clear c1
    try clear p2
    obtain ⟨x0_1, x2_1, x3_1, rfl, rfl, HA, HK1, HO_0, HK, HB⟩ := hrel
    have hl0_1 := (Kd.R_reads' HO_0.out).1
    rw [hl0_1] at HO_0
    (try simp only [hl0_1])
    cases gk with
    | zero => exact absurd HA.out (by simp [api_Point_109.l0])
    | succ k1 =>
      have H := HA.out
      clear HA
      simp only [api_Point_109.l0] at H
      by_cases c3 : x2_1 < x3_1
      · rw [if_pos c3] at H
        have c3b0 : decide (x2_1 < x3_1) = true := decide_eq_true c3
        clear c3
        by_cases c4 : 0 ≤ x3_1
        · rw [if_pos c4] at H
          have c4b0 : decide (0 ≤ x3_1) = true := decide_eq_true c4
          clear c4
          by_cases c5 : x3_1 < (x0_1.length : Int)
          · rw [if_pos c5] at H
            have c5b0 : decide (x3_1 < (x0_1.length : Int)) = true := decide_eq_true c5
            clear c5
            by_cases c6 : 0 ≤ x2_1
            · rw [if_pos c6] at H
              have c6b0 : decide (0 ≤ x2_1) = true := decide_eq_true c6
              clear c6
              by_cases c7 : x2_1 < (x0_1.length : Int)
              · rw [if_pos c7] at H
                have c7b0 : decide (x2_1 < (x0_1.length : Int)) = true := decide_eq_true c7
                clear c7
                obtain ⟨y601, hy601⟩ : ∃ y_ : List (S23), y_ = (x0_1.set (x2_1 : Int).toNat (⟨(rd_T23 x0_1 x3_1).f0, (rd_T23 x0_1 x3_1).f1⟩ : S23)) := ⟨_, rfl⟩
                replace H : (api_Point_109.l0 k1 (y601.set (x3_1 : Int).toNat (⟨(rd_T23 x0_1 x2_1).f0, (rd_T23 x0_1 x2_1).f1⟩ : S23)) (wrap64 (x2_1 + 1)) (wrap64 (x3_1 - 1))) = some r := by first | (rw [hy601]; with_reducible exact H) | (have H2_ := (Option.bind_some _ _).symm.trans H; rw [hy601]; with_reducible exact H2_) | (have H2_ := (Option.bind_some _ _).symm.trans H; with_reducible exact H2_) | with_reducible exact H | (rw [hy601]; exact H) | exact H
                have Ny601 := Aside0.mk hy601
                clear hy601
                obtain ⟨y602, hy602⟩ : ∃ y_ : List (S23), y_ = (y601.set (x3_1 : Int).toNat (⟨(rd_T23 x0_1 x2_1).f0, (rd_T23 x0_1 x2_1).f1⟩ : S23)) := ⟨_, rfl⟩
                replace H : (api_Point_109.l0 k1 y602 (wrap64 (x2_1 + 1)) (wrap64 (x3_1 - 1))) = some r := by first | (rw [hy602]; with_reducible exact H) | (have H2_ := (Option.bind_some _ _).symm.trans H; rw [hy602]; with_reducible exact H2_) | (have H2_ := (Option.bind_some _ _).symm.trans H; with_reducible exact H2_) | with_reducible exact H | (rw [hy602]; exact H) | exact H
                have Ny602 := Aside0.mk hy602
                clear hy602
                have H' := Aside0.mk H
                clear H
                try go_wp2
                have n0_ := Aside0.mk (Kd.R_drew HO_0.out)
                have n1_ := Aside0.mk (Kept.drew HK.out)
                have n2_ := Aside0.mk (below_drew1 HB.out)
                clear HO_0
                clear HK
                clear HB
                have HO_0 := n0_
                have HK := n1_
                have HB := n2_
                clear n0_ n1_ n2_
                have p599 : 0 ≤ (x3_1 : Int) := of_decide_eq_true (by first | (with_reducible assumption) | assumption)
                have q599 : x3_1 < (x0_1.length : Int) := of_decide_eq_true (by first | (with_reducible assumption) | assumption)
                obtain ⟨ad599, e599, hx599_0, hx599_1⟩ := at_T23 (Kd.R_reads' HO_0.out).2.2 x3_1 p599 q599
                cases e599
                replace p599 := eq_true p599
                replace q599 := eq_true q599
                have p600 : 0 ≤ (x2_1 : Int) := of_decide_eq_true (by first | (with_reducible assumption) | assumption)
                have q600 : x2_1 < (x0_1.length : Int) := of_decide_eq_true (by first | (with_reducible assumption) | assumption)
                obtain ⟨ad600, e600, hx600_0, hx600_1⟩ := at_T23 (Kd.R_reads' HO_0.out).2.2 x2_1 p600 q600
                obtain rfl : ad599 = ad600 := (by injection e600)
                replace p600 := eq_true p600
                replace q600 := eq_true q600
                have p8 : 0 ≤ (x2_1 : Int) := of_decide_eq_true (by first | (with_reducible assumption) | assumption)
                have q8 : (x2_1 : Int) < ((x0_1.length : Int) : Int) := of_decide_eq_true (by first | (with_reducible assumption) | assumption)
                obtain ⟨go8, co8, eo8, gb8, gl8, cl8, HG8⟩ := Kd.R_form HO_0.out (by omega)
                (first | cases eo8 | (injection eo8 with ea_ en_ ec_; (first | subst ea_ | (injection ea_ with ea_; subst ea_)); subst ec_; clear en_))
                have GB8 := Aside0.mk gb8
                have GG8 := Aside0.mk HG8
                clear gb8 gl8 HG8
                have HMgo8 := Aside0.mk (show (P0_ go8 ∨ w.heap.size ≤ go8) from (HO_0.out.1 _ rfl))
                (first | simp only [add_plain] at hx599_0 | skip)
                (first | simp only [add_plain] at hx599_1 | skip)
                (first | simp only [add_plain] at hx600_0 | skip)
                (first | simp only [add_plain] at hx600_1 | skip)
                obtain ⟨ce8, hcl8, hM8, hcc8, hfr8⟩ := Kd.R_elem HO_0.out z23 (x2_1 : Int) p8 q8
                obtain rfl := k23_openM hM8
                have hx8_0 : World.cell? _ ⟨go8, (x2_1 : Int).toNat * 2, none⟩ = some (.int .i64 ((rd_T23 x0_1 x2_1).f0)) := hcc8 0 _ rfl
                have hx8_1 : World.cell? _ ⟨go8, (x2_1 : Int).toNat * 2 + 1, none⟩ = some (.int .i64 ((rd_T23 x0_1 x2_1).f1)) := hcc8 1 _ rfl
                have hf8_0 : World.frozen? _ ⟨go8, (x2_1 : Int).toNat * 2, none⟩ = false := hfr8 0
                have hf8_1 : World.frozen? _ ⟨go8, (x2_1 : Int).toNat * 2 + 1, none⟩ = false := hfr8 1
                clear hcl8 hcc8 hfr8 hM8
                replace p8 := eq_true p8
                replace q8 := eq_true q8
                obtain ⟨ce11, hcl11, hM11, hcc11, hfr11⟩ := Kd.R_elem HO_0.out z23 (x2_1 : Int) (of_decide_eq_true (by first | (with_reducible assumption) | assumption)) (by have h_ : (x2_1 : Int) < ((x0_1.length : Int) : Int) := of_decide_eq_true (by first | (with_reducible assumption) | assumption); first | exact h_ | (have e_ := (Kd.R_reads' HO_0.out).1; omega) | simpa using h_)
                obtain rfl := k23_openM hM11
                have HP11 := (Kd.R_seg HO_0.out (x2_1 : Int) (of_decide_eq_true (by first | (with_reducible assumption) | assumption)) (by have h_ : (x2_1 : Int) < ((x0_1.length : Int) : Int) := of_decide_eq_true (by first | (with_reducible assumption) | assumption); first | exact h_ | (have e_ := (Kd.R_reads' HO_0.out).1; omega) | simpa using h_) (seg := [.int .i64 ((rd_T23 x0_1 x3_1).f0), .int .i64 ((rd_T23 x0_1 x3_1).f1)]) (j := 0) hcl11 hcc11 (show 2 ≤ 2 from by decide) (x' := (⟨(rd_T23 x0_1 x3_1).f0, (rd_T23 x0_1 x3_1).f1⟩ : S23)) (k23_mkM _ _ _ (⟨(rd_T23 x0_1 x3_1).f0, (rd_T23 x0_1 x3_1).f1⟩ : S23) ) (fun _ hk => hk)).1
                rw [← Ny601.out] at HP11
                have HQ11 := Aside0.mk HP11
                clear hcl11 hcc11 hfr11 hM11 HP11
                have p9 : 0 ≤ (x3_1 : Int) := of_decide_eq_true (by first | (with_reducible assumption) | assumption)
                have q9 : (x3_1 : Int) < ((x0_1.length : Int) : Int) := of_decide_eq_true (by first | (with_reducible assumption) | assumption)
                obtain ⟨ce9, hcl9, hM9, hcc9, hfr9⟩ := Kd.R_elem HQ11.out z23 (x3_1 : Int) p9 q9
                obtain rfl := k23_openM hM9
                have hx9_0 : World.cell? _ ⟨go8, (x3_1 : Int).toNat * 2, none⟩ = some (.int .i64 ((rd_T23 y601 x3_1).f0)) := hcc9 0 _ rfl
                have hx9_1 : World.cell? _ ⟨go8, (x3_1 : Int).toNat * 2 + 1, none⟩ = some (.int .i64 ((rd_T23 y601 x3_1).f1)) := hcc9 1 _ rfl
                have hf9_0 : World.frozen? _ ⟨go8, (x3_1 : Int).toNat * 2, none⟩ = false := hfr9 0
                have hf9_1 : World.frozen? _ ⟨go8, (x3_1 : Int).toNat * 2 + 1, none⟩ = false := hfr9 1
                clear hcl9 hcc9 hfr9 hM9
                replace p9 := eq_true p9
                replace q9 := eq_true q9
                have hlt9 : x2_1 < x3_1 := of_decide_eq_true c3b0
                have hp9 : 0 ≤ x2_1 := of_decide_eq_true c6b0
                have hne9 : ¬ (x2_1.toNat = x3_1.toNat) := by omega
                clear hlt9 hp9
                have hz9 : k23.sz = 2 := rfl
                simp only [World.setCells, Nat.add_zero, hz9] at hx9_0 hx9_1 hf9_0 hf9_1
                clear hz9
                have hy9_0 : (wr.drew.setCell ⟨go8, x2_1.toNat * 2, none⟩ (.int .i64 (rd_T23 x0_1 x3_1).f0)).cell? ⟨go8, x3_1.toNat * 2, none⟩ = some (.int .i64 (rd_T23 x0_1 x3_1).f0) := (World.cell?_setCell_other _ _ _ _ (by intro e; simp only [Addr.mk.injEq] at e; omega)).trans hx599_0
                have hy9_1 : (((wr.drew.setCell ⟨go8, x2_1.toNat * 2, none⟩ (.int .i64 (rd_T23 x0_1 x3_1).f0)).setCell ⟨go8, x2_1.toNat * 2 + 1, none⟩ (.int .i64 (rd_T23 x0_1 x3_1).f1)).setCell ⟨go8, x3_1.toNat * 2, none⟩ (.int .i64 (rd_T23 x0_1 x2_1).f0)).cell? ⟨go8, x3_1.toNat * 2 + 1, none⟩ = some (.int .i64 (rd_T23 x0_1 x3_1).f1) := (World.cell?_setCell_other _ _ _ _ (by intro e; simp only [Addr.mk.injEq] at e; omega)).trans ((World.cell?_setCell_other _ _ _ _ (by intro e; simp only [Addr.mk.injEq] at e; omega)).trans ((World.cell?_setCell_other _ _ _ _ (by intro e; simp only [Addr.mk.injEq] at e; omega)).trans hx599_1))
                have hy9_2 : ((wr.drew.setCell ⟨go8, x2_1.toNat * 2, none⟩ (.int .i64 (rd_T23 x0_1 x3_1).f0)).setCell ⟨go8, x2_1.toNat * 2 + 1, none⟩ (.int .i64 (rd_T23 x0_1 x3_1).f1)).cell? ⟨go8, x3_1.toNat * 2 + 1, none⟩ = some (.int .i64 (rd_T23 x0_1 x3_1).f1) := (World.cell?_setCell_other _ _ _ _ (by intro e; simp only [Addr.mk.injEq] at e; omega)).trans ((World.cell?_setCell_other _ _ _ _ (by intro e; simp only [Addr.mk.injEq] at e; omega)).trans hx599_1)
                have hy9_3 : (wr.drew.setCell ⟨go8, x2_1.toNat * 2 + 1, none⟩ (.int .i64 (rd_T23 x0_1 x3_1).f1)).cell? ⟨go8, x3_1.toNat * 2 + 1, none⟩ = some (.int .i64 (rd_T23 x0_1 x3_1).f1) := (World.cell?_setCell_other _ _ _ _ (by intro e; simp only [Addr.mk.injEq] at e; omega)).trans hx599_1
                have hf9_2 : wr.drew.frozen? ⟨go8, x3_1.toNat * 2, none⟩ = false := by simpa using hf9_0
                have hf9_3 : wr.drew.frozen? ⟨go8, x3_1.toNat * 2 + 1, none⟩ = false := by simpa using hf9_1
                obtain ⟨ce12, hcl12, hM12, hcc12, hfr12⟩ := Kd.R_elem HQ11.out z23 (x3_1 : Int) (of_decide_eq_true (by first | (with_reducible assumption) | assumption)) (by have h_ : (x3_1 : Int) < ((x0_1.length : Int) : Int) := of_decide_eq_true (by first | (with_reducible assumption) | assumption); first | exact h_ | (have e_ := (Kd.R_reads' HO_0.out).1; omega) | simpa using h_)
                obtain rfl := k23_openM hM12
                have HP12 := (Kd.R_seg HQ11.out (x3_1 : Int) (of_decide_eq_true (by first | (with_reducible assumption) | assumption)) (by have h_ : (x3_1 : Int) < ((x0_1.length : Int) : Int) := of_decide_eq_true (by first | (with_reducible assumption) | assumption); first | exact h_ | (have e_ := (Kd.R_reads' HO_0.out).1; omega) | simpa using h_) (seg := [.int .i64 ((rd_T23 x0_1 x2_1).f0), .int .i64 ((rd_T23 x0_1 x2_1).f1)]) (j := 0) hcl12 hcc12 (show 2 ≤ 2 from by decide) (x' := (⟨(rd_T23 x0_1 x2_1).f0, (rd_T23 x0_1 x2_1).f1⟩ : S23)) (k23_mkM _ _ _ (⟨(rd_T23 x0_1 x2_1).f0, (rd_T23 x0_1 x2_1).f1⟩ : S23) ) (fun _ hk => hk)).1
                rw [← Ny602.out] at HP12
                have HQ12 := Aside0.mk HP12
                clear hcl12 hcc12 hfr12 hM12 HP12
                refine start_ (n := 16) (S := fun w' => w'.cell? ⟨go8, ((x3_1).toNat * 2), none⟩ = some (.int .i64 ((rd_T23 x0_1 x3_1).f0)) ∧ w'.cell? ⟨go8, ((x3_1).toNat * 2) + 1, none⟩ = some (.int .i64 ((rd_T23 x0_1 x3_1).f1)) ∧ w'.cell? ⟨go8, ((x2_1).toNat * 2), none⟩ = some (.int .i64 ((rd_T23 x0_1 x2_1).f0)) ∧ w'.cell? ⟨go8, ((x2_1).toNat * 2) + 1, none⟩ = some (.int .i64 ((rd_T23 x0_1 x2_1).f1))) (ds := [13, 15]) #[false, false, false, false, false, false, false, false, false, false, false, false, false, false, false, false] (by kernel_rfl) rfl rfl ⟨hx599_0, hx599_1, hx600_0, hx600_1⟩ (fun hHeld => ?_); refine with_tabW api_Point_109.tab3 api_Point_109.bits3 (fun HT_ HW_ => ?_)
                generalize wr.drew = w10 at hy9_0 hy9_1 hy9_2 hy9_3 hf9_2 hf9_3 HO_0 HK HB GG8 HQ11 HQ12 hf8_0 hf8_1 hf9_0 hf9_1 hx599_0 hx599_1 hx600_0 hx600_1 hx8_0 hx8_1 hx9_0 hx9_1 hHeld ⊢
                refine pure_ (i := 0) (N := some 14) (v := ?_) (a' := ?_) #[true, false, false, false, false, false, false, false, false, false, false, false, false, false, false, false] rfl rfl (any_of HT_.out (by kernel_rfl)) (fun _ _ _ h => h) (Or.inl ⟨by rfl, ?_⟩) ?_ ?_
                rotate_left
                · intro w'
                  go_simp
                  with_reducible rfl
                rotate_left
                · simp only [Act.put, List.setIfInBounds_toArray, List.set_cons_zero, List.set_cons_succ, i64_w, i32_w]
                  rfl
                refine pure_ (i := 1) (N := some 15) (v := ?_) (a' := ?_) #[true, true, false, false, false, false, false, false, false, false, false, false, false, false, false, false] rfl rfl (any_of HT_.out (by kernel_rfl)) (fun _ _ _ h => h) (Or.inl ⟨by rfl, ?_⟩) ?_ ?_
                rotate_left
                · intro w'
                  go_simp
                  with_reducible rfl
                rotate_left
                · simp only [Act.put, List.setIfInBounds_toArray, List.set_cons_zero, List.set_cons_succ, i64_w, i32_w]
                  rfl
                refine pure_ (i := 2) (N := some 16) (v := ?_) (a' := ?_) #[true, true, true, false, false, false, false, false, false, false, false, false, false, false, false, false] rfl rfl (any_of HT_.out (by kernel_rfl)) (fun _ _ _ h => h) (Or.inl ⟨by rfl, ?_⟩) ?_ ?_
                rotate_left
                · intro w'
                  go_simp
                  with_reducible rfl
                rotate_left
                · simp only [Act.put, List.setIfInBounds_toArray, List.set_cons_zero, List.set_cons_succ, i64_w, i32_w]
                  rfl
                refine pure_ (i := 3) (N := some 17) (v := ?_) (a' := ?_) #[true, true, true, true, false, false, false, false, false, false, false, false, false, false, false, false] rfl rfl (any_of HT_.out (by kernel_rfl)) (fun _ _ _ h => h) (Or.inl ⟨by rfl, ?_⟩) ?_ ?_
                rotate_left
                · intro w'
                  go_simp
                  with_reducible rfl
                rotate_left
                · simp only [Act.put, List.setIfInBounds_toArray, List.set_cons_zero, List.set_cons_succ, i64_w, i32_w]
                  rfl
                refine pure_ (i := 4) (N := some 18) (v := ?_) (a' := ?_) #[true, true, true, true, true, false, false, false, false, false, false, false, false, false, false, false] rfl rfl (any_of HT_.out (by kernel_rfl)) (fun _ _ _ h => h) (Or.inl ⟨by rfl, ?_⟩) ?_ ?_
                rotate_left
                · intro w'
                  go_simp
                  with_reducible rfl
                rotate_left
                · simp only [Act.put, List.setIfInBounds_toArray, List.set_cons_zero, List.set_cons_succ, i64_w, i32_w]
                  rfl
                refine pure_ (i := 5) (N := some 19) (v := ?_) (a' := ?_) #[true, true, true, true, true, true, false, false, false, false, false, false, false, false, false, false] rfl rfl (any_of HT_.out (by kernel_rfl)) (fun _ _ _ h => h) (Or.inl ⟨by rfl, ?_⟩) ?_ ?_
                rotate_left
                · intro w'
                  go_simp
                  with_reducible rfl
                rotate_left
                · simp only [Act.put, List.setIfInBounds_toArray, List.set_cons_zero, List.set_cons_succ, i64_w, i32_w]
                  rfl
                refine pure_ (i := 6) (N := some 20) (v := ?_) (a' := ?_) #[true, true, true, true, true, true, true, false, false, false, false, false, false, false, false, false] rfl rfl (any_of HT_.out (by kernel_rfl)) (fun _ _ _ h => h) (Or.inl ⟨by rfl, ?_⟩) ?_ ?_
                rotate_left
                · intro w'
                  go_simp
                  with_reducible rfl
                rotate_left
                · simp only [Act.put, List.setIfInBounds_toArray, List.set_cons_zero, List.set_cons_succ, i64_w, i32_w]
                  rfl
                refine pure_ (i := 8) (N := some 22) (v := ?_) (a' := ?_) #[true, true, true, true, true, true, true, false, true, false, false, false, false, false, false, false] rfl rfl (any_of HT_.out (by kernel_rfl)) (fun _ _ _ h => h) (Or.inl ⟨by rfl, ?_⟩) ?_ ?_
                rotate_left
                · intro w'
                  go_simp
                  with_reducible rfl
                rotate_left
                · simp only [Act.put, List.setIfInBounds_toArray, List.set_cons_zero, List.set_cons_succ, i64_w, i32_w]
                  rfl
                refine pure_ (i := 9) (N := some 23) (v := ?_) (a' := ?_) #[true, true, true, true, true, true, true, false, true, true, false, false, false, false, false, false] rfl rfl (any_of HT_.out (by kernel_rfl)) (fun _ _ _ h => h) (Or.inl ⟨by rfl, ?_⟩) ?_ ?_
                rotate_left
                · intro w'
                  go_simp
                  with_reducible rfl
                rotate_left
                · simp only [Act.put, List.setIfInBounds_toArray, List.set_cons_zero, List.set_cons_succ, i64_w, i32_w]
                  rfl
                refine pure_ (i := 10) (N := some 24) (v := ?_) (a' := ?_) #[true, true, true, true, true, true, true, false, true, true, true, false, false, false, false, false] rfl rfl (any_of HT_.out (by kernel_rfl)) (fun _ _ _ h => h) (Or.inl ⟨by rfl, ?_⟩) ?_ ?_
                rotate_left
                · intro w'
                  go_simp
                  with_reducible rfl
                rotate_left
                · simp only [Act.put, List.setIfInBounds_toArray, List.set_cons_zero, List.set_cons_succ, i64_w, i32_w]
                  rfl
                refine take_ (i := 7) (N := some 21) (v := ?_) (a' := ?_) #[true, true, true, true, true, true, true, true, true, true, true, false, false, false, false, false] rfl rfl (take_ofW HT_.out HW_.out (by kernel_rfl)) (fun _ _ _ h => h) (Or.inl ⟨by rfl, ?_⟩) hHeld ?_ ?_
                rotate_left
                · rintro w' ⟨s0, s1, s2, s3⟩
                  go_simp
                  with_reducible rfl
                rotate_left
                · simp only [Act.put, List.setIfInBounds_toArray, List.set_cons_zero, List.set_cons_succ, i64_w, i32_w]
                  rfl
                refine take_ (i := 11) (N := some 25) (v := ?_) (a' := ?_) #[true, true, true, true, true, true, true, true, true, true, true, true, false, false, false, false] rfl rfl (take_ofW HT_.out HW_.out (by kernel_rfl)) (fun _ _ _ h => h) (Or.inl ⟨by rfl, ?_⟩) hHeld ?_ ?_
                rotate_left
                · rintro w' ⟨s0, s1, s2, s3⟩
                  go_simp
                  with_reducible rfl
                rotate_left
                · simp only [Act.put, List.setIfInBounds_toArray, List.set_cons_zero, List.set_cons_succ, i64_w, i32_w]
                  rfl
                refine pure_ (i := 12) (N := some 26) (v := ?_) (a' := ?_) #[true, true, true, true, true, true, true, true, true, true, true, true, true, false, false, false] rfl rfl (any_of HT_.out (by kernel_rfl)) (fun _ _ _ h => h) (Or.inl ⟨by rfl, ?_⟩) ?_ ?_
                rotate_left
                · intro w'
                  go_simp
                  with_reducible rfl
                rotate_left
                · simp only [Act.put, List.setIfInBounds_toArray, List.set_cons_zero, List.set_cons_succ, i64_w, i32_w]
                  rfl
                refine last_ (i := 13) (N := none) #[true, true, true, true, true, true, true, true, true, true, true, true, true, true, false, false] rfl rfl (one_of HT_.out (by kernel_rfl)) (by decide) (fun K hK => ?_)
                refine skip_ (w1 := ?_) (by rfl) rfl ?_ ?_
                rotate_left
                · go_simp
                  rfl
                refine hK.out _ _ ?_
                clear hK K
                refine pure_ (i := 14) (N := some 27) (v := ?_) (a' := ?_) #[true, true, true, true, true, true, true, true, true, true, true, true, true, true, true, false] rfl rfl (any_of HT_.out (by kernel_rfl)) (fun _ _ _ h => h) (Or.inl ⟨by rfl, ?_⟩) ?_ ?_
                rotate_left
                · intro w'
                  go_simp
                  with_reducible rfl
                rotate_left
                · simp only [Act.put, List.setIfInBounds_toArray, List.set_cons_zero, List.set_cons_succ, i64_w, i32_w]
                  rfl
                refine last_ (i := 15) (N := none) #[true, true, true, true, true, true, true, true, true, true, true, true, true, true, true, true] rfl rfl (one_of HT_.out (by kernel_rfl)) (by decide) (fun K hK => ?_)
                refine skip_ (w1 := ?_) (by rfl) rfl ?_ ?_
                rotate_left
                · go_simp
                  rfl
                refine hK.out _ _ ?_
                clear hK K
                refine done_ (done_of HT_.out (by kernel_rfl)) ?_
                try go_wp2
                (try simp only [← hl0_1])
                go_roundg k1
                case measure => have := HK1.out; omega
                case rel => exact ⟨(y602), (wrap64 (x2_1 + 1)), (wrap64 (x3_1 - 1)), (by first | rfl | (simp; done) | (simp [*]; done)), (by first | rfl | (simp; done) | (simp [*]; done)), H', ⟨by have := HK1.out; omega⟩, ⟨by (try simp only [hl0_1]); (with_reducible repeat (first | apply Kd.R_alloc | apply Kd.R_drewN | apply Kd.R_drew)); exact HQ12.out⟩, ⟨by repeat (first | (with_reducible first | exact HK.out | apply Kept.alloc | apply Kept.drewN | apply Kept.drew | refine Kept.setCell ?_ HMgo8.out _ | refine Kept.setCell ?_ HMgo8.out _ | refine Kept.setCell ?_ HMgo8.out _ | refine Kept.setCell ?_ HMgo8.out _) | exact HK.out)⟩, ⟨by repeat (first | (with_reducible first | exact HB.out | apply below_alloc | apply pw_below_drewN | apply below_drew1 | refine below_set ?_ GB8.out | refine below_set ?_ GB8.out | refine below_set ?_ GB8.out | refine below_set ?_ GB8.out) | exact HB.out)⟩⟩
              · rw [if_neg c7] at H
                exact absurd H (by simp)
            · rw [if_neg c6] at H
              exact absurd H (by simp)
          · rw [if_neg c5] at H
            exact absurd H (by simp)
        · rw [if_neg c4] at H
          exact absurd H (by simp)
      · rw [if_neg c3] at H
        have c3b0 : decide (x2_1 < x3_1) = false := decide_eq_false c3
        clear c3
        obtain rfl := Option.some.inj H
        go_wp2
        first | go_end0 | ((try simp only [Exit.inBlock, Exit.then]); refine bodyPost_ret (results_none rfl _ _ _) rfl ?_)
        exact ⟨by first | rfl | (simp [errW_none, errW_some] <;> rfl) | (simp [*, errW_none, errW_some] <;> rfl), (by first | exact (by (with_reducible repeat (first | apply Kd.R_alloc | apply Kd.R_drewN | apply Kd.R_drew)); exact HO_0.out) | (simp only [hl0_1]; exact (by (with_reducible repeat (first | apply Kd.R_alloc | apply Kd.R_drewN | apply Kd.R_drew)); exact HO_0.out))), by repeat (first | (with_reducible first | exact HB.out | apply below_alloc | apply pw_below_drewN | apply below_drew1) | exact HB.out), by repeat (first | (with_reducible first | exact HK.out | apply Kept.alloc | apply Kept.drewN | apply Kept.drew) | exact HK.out)⟩
end Go.Proofs.Ytckaejgamfllfaa.G
end

section
namespace Go.Proofs.Ytckaejgamfllfaa.G
open Go.RowKit Go.Proofs.YtckaejgamfllfaaW.PrintWords Go.Proofs.YtckaejgamfllfaaW.PrintLast Go.Proofs.YtckaejgamfllfaaW.PrintMore
attribute [local go_sem] max2_int min2_int max_two min_two max_three min_three max_four min_four
set_option linter.unusedVariables false
set_option linter.unusedSimpArgs false
def plane_twice.f (a0_0 : Int) (a0_1 : Int) (a1_0 : Int) (a1_1 : Int) (a2_0 : Int) (a2_1 : Int) : Option (Int) := some (wrap64 ((wrap64 ((wrap64 (a1_0 - a0_0)) * (wrap64 (a2_1 - a0_1)))) - (wrap64 ((wrap64 (a1_1 - a0_1)) * (wrap64 (a2_0 - a0_0))))))
set_option maxHeartbeats 8000000 in
set_option maxRecDepth 100000 in
theorem plane_twice.calls (a0_0 : Int) (a0_1 : Int) (a1_0 : Int) (a1_1 : Int) (a2_0 : Int) (a2_1 : Int) (r : Int) (w : World) (h : plane_twice.f a0_0 a0_1 a1_0 a1_1 a2_0 a2_1 = some r) :
  Calls Try.prog 80 #[.agg #[.int .i64 a0_0, .int .i64 a0_1], .agg #[.int .i64 a1_0, .int .i64 a1_1], .agg #[.int .i64 a2_0, .int .i64 a2_1]] w fun e w' => e = .returned (.int .i64 r) ∧ Below w.heap.size w w' := by
 have hu23 := Try.underlying23
 have HB := Aside0.mk (Below.refl w.heap.size w)
 have H : (some (wrap64 ((wrap64 ((wrap64 (a1_0 - a0_0)) * (wrap64 (a2_1 - a0_1)))) - (wrap64 ((wrap64 (a1_1 - a0_1)) * (wrap64 (a2_0 - a0_0))))))) = some r := h
 clear h
 obtain rfl := Option.some.inj H
 go_enter Try.func80, Try.ntmps80
 go_wp2_with (first | ((with_reducible refine gate_dst (N := 3) rfl ?_); refine box_event ?hg (N := 3) ?hd (cs := #[.int .i64 a0_0, .int .i64 a0_1]) (t := 23) ?hr ?_; (case hd => rfl); (case hg => rfl); (case hr => first | (go_simp; done) | (go_simp; rfl)); intro gb104 hg w4 hbox hb; have BK104 := Aside0.mk (hbox); have GW104 := geBA HB hg; have GE104 := geBA HB hg; replace HB := Aside0.mk (below_step (hk HB) hb); clear hb hbox hg) | ((with_reducible refine gate_dst (N := 4) rfl ?_); refine box_event ?hg (N := 4) ?hd (cs := #[.int .i64 a1_0, .int .i64 a1_1]) (t := 23) ?hr ?_; (case hd => rfl); (case hg => rfl); (case hr => first | (go_simp; done) | (go_simp; rfl)); intro gb105 hg w5 hbox hb; have BK105 := Aside0.mk (hbox); have GW105 := Aside0.mk ((by rw [hg]; exact (below_size (by repeat (first | (with_reducible first | exact HB.out | apply below_alloc | apply pw_below_drewN | apply below_drew1 | refine below_set ?_ GE104.out) | exact HB.out))) : w.heap.size ≤ gb105)); have GE105 := Aside0.mk ((by rw [hg]; exact (below_size (by repeat (first | (with_reducible first | exact HB.out | apply below_alloc | apply pw_below_drewN | apply below_drew1 | refine below_set ?_ GE104.out) | exact HB.out))) : w.heap.size ≤ gb105)); have NB104_105 := neLA BK104 hg; have NB105_104 := neGA BK104 hg; replace BK104 := bkC BK104 hb; replace HB := Aside0.mk (below_step (by repeat (first | (with_reducible first | exact HB.out | apply below_alloc | apply pw_below_drewN | apply below_drew1 | refine below_set ?_ GE104.out) | exact HB.out)) hb); clear hb hbox hg) | ((with_reducible refine gate_dst (N := 5) rfl ?_); refine box_event ?hg (N := 5) ?hd (cs := #[.int .i64 a2_0, .int .i64 a2_1]) (t := 23) ?hr ?_; (case hd => rfl); (case hg => rfl); (case hr => first | (go_simp; done) | (go_simp; rfl)); intro gb106 hg w6 hbox hb; have BK106 := Aside0.mk (hbox); have GW106 := Aside0.mk ((by rw [hg]; exact (below_size (by repeat (first | (with_reducible first | exact HB.out | apply below_alloc | apply pw_below_drewN | apply below_drew1 | refine below_set ?_ GE104.out | refine below_set ?_ GE105.out) | exact HB.out))) : w.heap.size ≤ gb106)); have GE106 := Aside0.mk ((by rw [hg]; exact (below_size (by repeat (first | (with_reducible first | exact HB.out | apply below_alloc | apply pw_below_drewN | apply below_drew1 | refine below_set ?_ GE104.out | refine below_set ?_ GE105.out) | exact HB.out))) : w.heap.size ≤ gb106)); have NB104_106 := neLA BK104 hg; have NB106_104 := neGA BK104 hg; have NB105_106 := neLA BK105 hg; have NB106_105 := neGA BK105 hg; replace BK104 := bkC BK104 hb; replace BK105 := bkC BK105 hb; replace HB := Aside0.mk (below_step (by repeat (first | (with_reducible first | exact HB.out | apply below_alloc | apply pw_below_drewN | apply below_drew1 | refine below_set ?_ GE104.out | refine below_set ?_ GE105.out) | exact HB.out)) hb); clear hb hbox hg; have hnb7 := NB105_104.out; have hnc7 := NB104_105.out; have hnb8 := NB105_106.out; have hnc8 := NB106_105.out; have hcz9_0 : w6.cell? ⟨gb105, 0, none⟩ = some (.int .i64 a1_0) := (blk_cell BK105.out 0).trans rfl; have hcz9_1 : w6.cell? ⟨gb105, 1, none⟩ = some (.int .i64 a1_1) := (blk_cell BK105.out 1).trans rfl; have hfz9_0 := blk_frozen BK105.out 0; have hfz9_1 := blk_frozen BK105.out 1; have hnb10 := NB104_106.out; have hnc10 := NB106_104.out; have hcz11_0 : w6.cell? ⟨gb104, 0, none⟩ = some (.int .i64 a0_0) := (blk_cell BK104.out 0).trans rfl; have hcz11_1 : w6.cell? ⟨gb104, 1, none⟩ = some (.int .i64 a0_1) := (blk_cell BK104.out 1).trans rfl; have hfz11_0 := blk_frozen BK104.out 0; have hfz11_1 := blk_frozen BK104.out 1; have hcz12_0 : w6.cell? ⟨gb106, 0, none⟩ = some (.int .i64 a2_0) := (blk_cell BK106.out 0).trans rfl; have hcz12_1 : w6.cell? ⟨gb106, 1, none⟩ = some (.int .i64 a2_1) := (blk_cell BK106.out 1).trans rfl; have hfz12_0 := blk_frozen BK106.out 0; have hfz12_1 := blk_frozen BK106.out 1))
 go_ret
 exact ⟨by first | rfl | (simp [errW_none, errW_some] <;> rfl) | (simp [*, errW_none, errW_some] <;> rfl), by repeat (first | (with_reducible first | exact HB.out | apply below_alloc | apply pw_below_drewN | apply below_drew1 | refine below_set ?_ GE104.out | refine below_set ?_ GE105.out | refine below_set ?_ GE106.out) | exact HB.out)⟩
end Go.Proofs.Ytckaejgamfllfaa.G
end

section
namespace Go.Proofs.Ytckaejgamfllfaa.G
open Go.RowKit Go.Proofs.YtckaejgamfllfaaW.PrintWords Go.Proofs.YtckaejgamfllfaaW.PrintLast Go.Proofs.YtckaejgamfllfaaW.PrintMore
attribute [local go_sem] max2_int min2_int max_two min_two max_three min_three max_four min_four
set_option linter.unusedVariables false
set_option linter.unusedSimpArgs false
mutual
def plane_chain.l0 : Nat → List (S23) → List (S23) → Int → Int → Option ((List (S23)))
 | 0, _, _, _, _ => none
 | k + 1, x3, x6, x7, x8 => if x8 < x7 then (if 0 ≤ x8 then (if x8 < (x6.length : Int) then (plane_chain.l1 k x3 x6 x7 x8 ((rd_T23 x6 x8).f0) ((rd_T23 x6 x8).f1)) else (none)) else (none)) else (if 0 ≤ (wrap64 ((x3.length : Int) - 1)) then (if (wrap64 ((x3.length : Int) - 1)) ≤ (x3.length : Int) then (some (x3.take ((wrap64 ((x3.length : Int) - 1)) : Int).toNat)) else (none)) else (none))
def plane_chain.l1 : Nat → List (S23) → List (S23) → Int → Int → Int → Int → Option ((List (S23)))
 | 0, _, _, _, _, _, _ => none
 | k + 1, x3, x6, x7, x8, x576000, x576001 => if (x3.length : Int) > 1 then (if 0 ≤ (wrap64 ((x3.length : Int) - 2)) then (if (wrap64 ((x3.length : Int) - 2)) < (x3.length : Int) then (if 0 ≤ (wrap64 ((x3.length : Int) - 1)) then (if (wrap64 ((x3.length : Int) - 1)) < (x3.length : Int) then ((plane_twice.f ((rd_T23 x3 (wrap64 ((x3.length : Int) - 2))).f0) ((rd_T23 x3 (wrap64 ((x3.length : Int) - 2))).f1) ((rd_T23 x3 (wrap64 ((x3.length : Int) - 1))).f0) ((rd_T23 x3 (wrap64 ((x3.length : Int) - 1))).f1) x576000 x576001).bind fun t578 => (plane_chain.j2 k x3 x6 x7 x8 (decide (t578 ≤ 0)) x576000 x576001)) else (none)) else (none)) else (none)) else (none)) else (plane_chain.j2 k x3 x6 x7 x8 false x576000 x576001)
def plane_chain.j2 : Nat → List (S23) → List (S23) → Int → Int → Bool → Int → Int → Option ((List (S23)))
 | 0, _, _, _, _, _, _, _ => none
 | k + 1, x3, x6, x7, x8, x31, x576000, x576001 => if x31 = true then (if 0 ≤ (wrap64 ((x3.length : Int) - 1)) then (if (wrap64 ((x3.length : Int) - 1)) ≤ (x3.length : Int) then (plane_chain.l1 k (x3.take ((wrap64 ((x3.length : Int) - 1)) : Int).toNat) x6 x7 x8 x576000 x576001) else (none)) else (none)) else (if x3.length < 8796093022208 then (plane_chain.l0 k (x3 ++ [(⟨x576000, x576001⟩ : S23)]) x6 x7 (wrap64 (x8 + 1))) else (none))
end
def plane_chain.f (k : Nat) (l0 : List (S23)) : Option ((List (S23))) := plane_chain.l0 k ([] : List (S23)) l0 (l0.length : Int) 0
def plane_chain.T5 : Bool × List (List Nat × List Nat) := (true, [([], []), ([0], [0]), ([1], [1]), ([2], [2]), ([3], [3]), ([3], [3]), ([5, 3], [3, 5]), ([6, 3], [3, 6]), ([4, 7, 3], [3, 4, 7]), ([8, 3], [3, 8]), ([3], [3]), ([3], [3]), ([11, 3], [3, 11]), ([12, 3], [3, 12]), ([10, 13, 3], [3, 10, 13]), ([14, 3], [3, 14]), ([3], [3]), ([9, 15, 16, 3, 3], [3, 9, 15, 16]), ([17, 3], [3, 17]), ([3, 18], [3, 18])])
def plane_chain.B5 : List Nat := [0, 1, 3, 7, 15, 15, 47, 111, 255, 511, 15, 15, 2063, 6159, 15375, 31759, 15, 131071, 262143, 524287]
theorem plane_chain.tab5 : rtab .any (opsOf Try.f108 5) = plane_chain.T5 := by kernel_rfl
theorem plane_chain.bits5 : waitsOk plane_chain.T5.2 plane_chain.B5 = true := by kernel_rfl
set_option maxHeartbeats 8000000 in
set_option maxRecDepth 100000 in
theorem plane_chain.calls (k : Nat) (A0 : Option Addr) (c0 : Nat) (l0 : List (S23)) (r : List (S23)) (w : World) (hr0 : Kd.C k23 w A0 l0.length l0) (hc0 : l0.length ≤ c0) (h : plane_chain.f k l0 = some r) :
  Calls Try.prog 108 #[.slice A0 l0.length c0] w fun e w' => ∃ v0_ : Value, e = .returned (v0_) ∧ Kd.R k23 23 w' w.heap.size (fun _ => True) v0_ r ∧ Below w.heap.size w w' := by
 have hu23 := Try.underlying23
 have HR0 := Aside0.mk hr0
 have HC0 := Aside0.mk hc0
 clear hr0 hc0
 have HB := Aside0.mk (Below.refl w.heap.size w)
 have H : (plane_chain.l0 k ([] : List (S23)) l0 (l0.length : Int) 0) = some r := h
 clear h
 have H' := Aside0.mk H
 clear H
 go_enter Try.func108, Try.ntmps108
 go_wp2
 go_loopg [3, 8] k (fun kq v3 v8 w' => ∃ (x3_1 : List (S23)) (x8_1 : Int), v8 = .int .i64 x8_1 ∧ Aside0 (plane_chain.l0 kq x3_1 l0 (l0.length : Int) x8_1 = some r) ∧ Aside0 (kq ≤ k) ∧ Aside0 (Kd.R k23 23 w' w.heap.size (fun _ => True) v3 x3_1) ∧ Aside0 (Below w.heap.size w w'))
 case atStart => exact ⟨(([] : List (S23))), (0), (by first | rfl | (simp; done) | (simp [*]; done)), H', ⟨Nat.le_refl _⟩, ⟨by first | exact Kd.R_nil _ _ _ _ _ | exact Kd.N_nil _ _ _ _ _ | exact Kd.V_nil _ _ _ _ _ | exact Kd.Q_nil _ _ _ _ _ | exact Kd.S_nil _ _ _ _ _⟩, ⟨hk HB⟩⟩
 case round =>
  clear H'
  try clear c1
  obtain ⟨x3_1, x8_1, rfl, HA, HK1, HO_3, HB⟩ := hrel
  cases gk with
  | zero => exact absurd HA.out (by simp [plane_chain.l0])
  | succ k1 =>
   have H := HA.out
   clear HA
   simp only [plane_chain.l0] at H
   by_cases c2 : x8_1 < (l0.length : Int)
   ·rw [if_pos c2] at H
    have c2b0 : decide (x8_1 < (l0.length : Int)) = true := decide_eq_true c2
    clear c2
    by_cases c3 : 0 ≤ x8_1
    ·rw [if_pos c3] at H
     have c3b0 : decide (0 ≤ x8_1) = true := decide_eq_true c3
     clear c3
     by_cases c4 : x8_1 < (l0.length : Int)
     ·rw [if_pos c4] at H
      have c4b0 : decide (x8_1 < (l0.length : Int)) = true := decide_eq_true c4
      clear c4
      have H' := Aside0.mk H
      clear H
      have p574 : 0 ≤ (x8_1 : Int) := of_decide_eq_true (by first | (with_reducible assumption) | assumption)
      have q574 : x8_1 < (l0.length : Int) := of_decide_eq_true (by first | (with_reducible assumption) | assumption)
      obtain ⟨ad574, e574, hx574_0, hx574_1⟩ := at_T23 HR0.out x8_1 p574 q574
      cases e574
      replace hx574_0 := (HB.out.cell (World.block_lt_of_cell? w _ hx574_0)).trans hx574_0
      replace hx574_1 := (HB.out.cell (World.block_lt_of_cell? w _ hx574_1)).trans hx574_1
      replace p574 := eq_true p574
      replace q574 := eq_true q574
      go_wp2_with (first | ((with_reducible refine gate_dst (N := 5) rfl ?_); (try (refine gate_guard (by rfl) ?_; dsimp only)); refine box_event ?hg (N := 5) ?hd (cs := #[.int .i64 0, .int .i64 0]) (t := 23) ?hr ?_; (case hd => rfl); (case hg => rfl); (case hr => first | (go_simp; done) | (go_simp; rfl)); intro gb575 hg w5 hbox hb; have BK575 := Aside0.mk (hbox); have GW575 := geBA HB hg; have GE575 := geBA HB hg; replace HO_3 := Aside0.mk (Kd.R_below (Kd.R_elderB (rk HO_3) gb575 (Nat.le_of_eq hg.symm)) hb); replace HB := Aside0.mk (below_step (hk HB) hb); clear hb hbox hg; have hcz6_0 : w5.cell? ⟨gb575, 0, none⟩ = some (.int .i64 0) := (blk_cell BK575.out 0).trans rfl; have hcz6_1 : w5.cell? ⟨gb575, 1, none⟩ = some (.int .i64 0) := (blk_cell BK575.out 1).trans rfl; have hfz6_0 := blk_frozen BK575.out 0; have hfz6_1 := blk_frozen BK575.out 1))
      go_loopg [3] k1 (fun kq v3 w' => ∃ (x3_2 : List (S23)), Aside0 (plane_chain.l1 kq x3_2 l0 (l0.length : Int) x8_1 ((rd_T23 l0 x8_1).f0) ((rd_T23 l0 x8_1).f1) = some r) ∧ Aside0 (kq ≤ k1) ∧ Aside0 (Kd.R k23 23 w' w.heap.size (fun k_ => k_ ≠ gb575) v3 x3_2) ∧ Aside0 (w'.heap[gb575]? = some (.cells #[.int .i64 ((rd_T23 l0 x8_1).f0), .int .i64 ((rd_T23 l0 x8_1).f1)] 23 (0, 0))) ∧ Aside0 (Below w.heap.size w w'))
      case atStart => exact ⟨(x3_1), H', ⟨Nat.le_refl _⟩, ⟨by (with_reducible repeat (first | apply Kd.R_alloc | apply Kd.R_drewN | apply Kd.R_drew)); exact Kd.R_mono (Kd.R_far (p := ⟨gb575, 1, none⟩) (Kd.R_far (p := ⟨gb575, 0, none⟩) (Kd.R_mono HO_3.out (fun k_ hk => (⟨hk, hk.2⟩ : _ ∧ k_ ≠ gb575))) (fun _ hk => hk.2) (.int .i64 ((rd_T23 l0 x8_1).f0))) (fun _ hk => hk.2) (.int .i64 ((rd_T23 l0 x8_1).f1))) (fun _ hk => hk.1.2)⟩, ⟨by (with_reducible repeat (first | refine blk_drewN ?_ _ | refine blk_drew ?_ | refine blk_alloc ?_ _)); refine blk_put (cs := #[.int .i64 ((rd_T23 l0 x8_1).f0), .int .i64 0]) ?_ 1 _ rfl; (with_reducible repeat (first | refine blk_drewN ?_ _ | refine blk_drew ?_ | refine blk_alloc ?_ _)); refine blk_put (cs := #[.int .i64 0, .int .i64 0]) ?_ 0 _ rfl; (with_reducible repeat (first | refine blk_drewN ?_ _ | refine blk_drew ?_ | refine blk_alloc ?_ _)); exact BK575.out⟩, ⟨by repeat (first | (with_reducible first | exact HB.out | apply below_alloc | apply pw_below_drewN | apply below_drew1 | refine below_set ?_ GE575.out) | exact HB.out)⟩⟩
      case round =>
       clear H'
       try clear c1
       try clear c2
       try clear c2b0
       try clear p2
       try clear c3
       try clear c3b0
       try clear c4
       try clear c4b0
       try clear p5
       try clear q5
       try clear hx5
       try clear hcz6_0
       try clear hcz6_1
       try clear hfz6_0
       try clear hfz6_1
       try clear hx574_0
       try clear hx574_1
       try clear p574
       try clear q574
       obtain ⟨x3_2, HA, HK2, HO_3, BK575, HB⟩ := hrel
       cases gk with
       | zero => exact absurd HA.out (by simp [plane_chain.l1])
       | succ k2 =>
        have H := HA.out
        clear HA
        simp only [plane_chain.l1] at H
        have HC7 := Aside0.mk H
        clear H
        go_upto_region 5 with (fail)
        go_cut [31] (fun v31 wc => ∃ (kq : Nat) (x31_6 : Bool), v31 = .bool x31_6 ∧ Aside0 (plane_chain.j2 kq x3_2 l0 (l0.length : Int) x8_1 x31_6 ((rd_T23 l0 x8_1).f0) ((rd_T23 l0 x8_1).f1) = some r) ∧ Aside0 (kq ≤ k2) ∧ Aside0 (Kd.R k23 23 wc w.heap.size (fun k_ => k_ ≠ gb575) u3 x3_2) ∧ Aside0 (wc.heap[gb575]? = some (.cells #[.int .i64 ((rd_T23 l0 x8_1).f0), .int .i64 ((rd_T23 l0 x8_1).f1)] 23 (0, 0))) ∧ Aside0 (Below w.heap.size w wc))
        case first =>
         have H := HC7.out
         clear HC7
         by_cases c8 : (x3_2.length : Int) > 1
         ·rw [if_pos c8] at H
          have c8b0 : decide (1 < (x3_2.length : Int)) = true := decide_eq_true c8
          have c8b1 : decide (1 < x3_2.length) = true := decide_eq_true (by omega)
          clear c8
          (first | rw [c8b0] | (simp only [i64_w, i32_w]; rw [c8b0]) | skip)
          obtain ⟨ji9, hji9⟩ : ∃ j_ : Int, (wrap64 ((x3_2.length : Int) - 2)) = j_ := ⟨_, rfl⟩
          replace H : (if 0 ≤ (ji9) then (if (ji9) < (x3_2.length : Int) then (if 0 ≤ (wrap64 ((x3_2.length : Int) - 1)) then (if (wrap64 ((x3_2.length : Int) - 1)) < (x3_2.length : Int) then ((plane_twice.f ((rd_T23 x3_2 (ji9)).f0) ((rd_T23 x3_2 (ji9)).f1) ((rd_T23 x3_2 (wrap64 ((x3_2.length : Int) - 1))).f0) ((rd_T23 x3_2 (wrap64 ((x3_2.length : Int) - 1))).f1) ((rd_T23 l0 x8_1).f0) ((rd_T23 l0 x8_1).f1)).bind fun t578 => (plane_chain.j2 k2 x3_2 l0 (l0.length : Int) x8_1 (decide (t578 ≤ 0)) ((rd_T23 l0 x8_1).f0) ((rd_T23 l0 x8_1).f1))) else (none)) else (none)) else (none)) else (none)) = some r := by first | (rw [hji9] at H; exact H) | (simp only [hji9] at H ⊢; exact H)
          have hji9w : (IntKind.i64.wrap ((x3_2.length : Int) - 2)) = ji9 := (i64_w _).trans hji9
          by_cases c10 : 0 ≤ (ji9)
          ·rw [if_pos c10] at H
           have c10b0 : decide (0 ≤ (ji9)) = true := decide_eq_true c10
           clear c10
           by_cases c11 : (ji9) < (x3_2.length : Int)
           ·rw [if_pos c11] at H
            have c11b0 : decide ((ji9) < (x3_2.length : Int)) = true := decide_eq_true c11
            clear c11
            obtain ⟨ji12, hji12⟩ : ∃ j_ : Int, (wrap64 ((x3_2.length : Int) - 1)) = j_ := ⟨_, rfl⟩
            replace H : (if 0 ≤ (ji12) then (if (ji12) < (x3_2.length : Int) then ((plane_twice.f ((rd_T23 x3_2 (ji9)).f0) ((rd_T23 x3_2 (ji9)).f1) ((rd_T23 x3_2 (ji12)).f0) ((rd_T23 x3_2 (ji12)).f1) ((rd_T23 l0 x8_1).f0) ((rd_T23 l0 x8_1).f1)).bind fun t578 => (plane_chain.j2 k2 x3_2 l0 (l0.length : Int) x8_1 (decide (t578 ≤ 0)) ((rd_T23 l0 x8_1).f0) ((rd_T23 l0 x8_1).f1))) else (none)) else (none)) = some r := by first | (rw [hji12] at H; exact H) | (simp only [hji12] at H ⊢; exact H)
            have hji12w : (IntKind.i64.wrap ((x3_2.length : Int) - 1)) = ji12 := (i64_w _).trans hji12
            by_cases c13 : 0 ≤ (ji12)
            ·rw [if_pos c13] at H
             have c13b0 : decide (0 ≤ (ji12)) = true := decide_eq_true c13
             clear c13
             by_cases c14 : (ji12) < (x3_2.length : Int)
             ·rw [if_pos c14] at H
              have c14b0 : decide ((ji12) < (x3_2.length : Int)) = true := decide_eq_true c14
              clear c14
              replace H := Option.bind_eq_some_iff.mp H
              obtain ⟨t578, A150, H⟩ := H
              replace H : (plane_chain.j2 k2 x3_2 l0 (l0.length : Int) x8_1 (decide (t578 ≤ 0)) ((rd_T23 l0 x8_1).f0) ((rd_T23 l0 x8_1).f1)) = some r := H
              have A15 := Aside0.mk A150
              clear A150
              have H' := Aside0.mk H
              clear H
              try go_wp2
              replace HO_3 := Aside0.mk (Kd.R_drew HO_3.out)
              replace BK575 := Aside0.mk (blk_drew BK575.out)
              replace HB := Aside0.mk (below_drew1 HB.out)
              obtain ⟨Ao17, co17, eo17⟩ := Kd.R_slice HO_3.out
              (first | subst eo17 | (injection eo17 with f1_ f2_ f3_; have f4_ := f1_.symm; have f5_ := f3_.symm; clear f1_ f2_ f3_; subst f4_; subst f5_))
              have p576 : 0 ≤ ((ji9) : Int) := of_decide_eq_true (by first | (with_reducible assumption) | assumption)
              have q576 : (ji9) < (x3_2.length : Int) := of_decide_eq_true (by first | (with_reducible assumption) | assumption)
              obtain ⟨ad576, e576, hx576_0, hx576_1⟩ := at_T23 (Kd.R_reads' HO_3.out).2.2 (ji9) p576 q576
              cases e576
              replace p576 := eq_true p576
              replace q576 := eq_true q576
              have p577 : 0 ≤ ((ji12) : Int) := of_decide_eq_true (by first | (with_reducible assumption) | assumption)
              have q577 : (ji12) < (x3_2.length : Int) := of_decide_eq_true (by first | (with_reducible assumption) | assumption)
              obtain ⟨ad577, e577, hx577_0, hx577_1⟩ := at_T23 (Kd.R_reads' HO_3.out).2.2 (ji12) p577 q577
              obtain rfl : ad576 = ad577 := (by injection e577)
              replace p577 := eq_true p577
              replace q577 := eq_true q577
              refine start_ (n := 20) (S := fun w' => w'.cell? ⟨gb575, 0, none⟩ = some (.int .i64 ((rd_T23 l0 x8_1).f0)) ∧ w'.cell? ⟨gb575, 1, none⟩ = some (.int .i64 ((rd_T23 l0 x8_1).f1)) ∧ w'.cell? (ad576.add (((ji9)).toNat * 2)) = some (.int .i64 ((rd_T23 x3_2 (ji9)).f0)) ∧ w'.cell? ⟨(ad576.add (((ji9)).toNat * 2)).block, (ad576.add (((ji9)).toNat * 2)).off + 1, none⟩ = some (.int .i64 ((rd_T23 x3_2 (ji9)).f1)) ∧ w'.cell? (ad576.add (((ji12)).toNat * 2)) = some (.int .i64 ((rd_T23 x3_2 (ji12)).f0)) ∧ w'.cell? ⟨(ad576.add (((ji12)).toNat * 2)).block, (ad576.add (((ji12)).toNat * 2)).off + 1, none⟩ = some (.int .i64 ((rd_T23 x3_2 (ji12)).f1))) (ds := []) #[false, false, false, false, false, false, false, false, false, false, false, false, false, false, false, false, false, false, false, false] (by kernel_rfl) rfl rfl ⟨(blk_cell BK575.out 0).trans rfl, (blk_cell BK575.out 1).trans rfl, hx576_0, hx576_1, hx577_0, hx577_1⟩ (fun hHeld => ?_); refine with_tabW plane_chain.tab5 plane_chain.bits5 (fun HT_ HW_ => ?_)
              generalize wr.drew = w16 at HO_3 BK575 HB hx576_0 hx576_1 hx577_0 hx577_1 hHeld ⊢
              refine pure_ (i := 0) (N := some 12) (v := ?_) (a' := ?_) #[true, false, false, false, false, false, false, false, false, false, false, false, false, false, false, false, false, false, false, false] rfl rfl (any_of HT_.out (by kernel_rfl)) (fun _ _ _ h => h) (Or.inl ⟨by rfl, ?_⟩) ?_ ?_
              rotate_left
              ·intro w'
               go_simp
               with_reducible rfl
              rotate_left
              ·simp only [Act.put, List.setIfInBounds_toArray, List.set_cons_zero, List.set_cons_succ, i64_w, i32_w]
               rfl
              refine pure_ (i := 1) (N := some 13) (v := ?_) (a' := ?_) #[true, true, false, false, false, false, false, false, false, false, false, false, false, false, false, false, false, false, false, false] rfl rfl (any_of HT_.out (by kernel_rfl)) (fun _ _ _ h => h) (Or.inl ⟨by rfl, ?_⟩) ?_ ?_
              rotate_left
              ·intro w'
               go_simp
               with_reducible rfl
              rotate_left
              ·simp only [Act.put, List.setIfInBounds_toArray, List.set_cons_zero, List.set_cons_succ, i64_w, i32_w]
               rfl
              refine pure_ (i := 2) (N := some 14) (v := ?_) (a' := ?_) #[true, true, true, false, false, false, false, false, false, false, false, false, false, false, false, false, false, false, false, false] rfl rfl (any_of HT_.out (by kernel_rfl)) (fun _ _ _ h => h) (Or.inl ⟨by rfl, ?_⟩) ?_ ?_
              rotate_left
              ·intro w'
               go_simp
               with_reducible rfl
              rotate_left
              ·simp only [Act.put, List.setIfInBounds_toArray, List.set_cons_zero, List.set_cons_succ, i64_w, i32_w]
               rfl
              refine pure_ (i := 3) (N := some 15) (v := ?_) (a' := ?_) #[true, true, true, true, false, false, false, false, false, false, false, false, false, false, false, false, false, false, false, false] rfl rfl (any_of HT_.out (by kernel_rfl)) (fun _ _ _ h => h) (Or.inl ⟨by rfl, ?_⟩) ?_ ?_
              rotate_left
              ·intro w'
               go_simp
               with_reducible rfl
              rotate_left
              ·simp only [Act.put, List.setIfInBounds_toArray, List.set_cons_zero, List.set_cons_succ, i64_w, i32_w]
               rfl
              refine pure_ (i := 4) (N := some 16) (v := ?_) (a' := ?_) #[true, true, true, true, true, false, false, false, false, false, false, false, false, false, false, false, false, false, false, false] rfl rfl (any_of HT_.out (by kernel_rfl)) (fun _ _ _ h => h) (Or.inl ⟨by rfl, ?_⟩) ?_ ?_
              rotate_left
              ·intro w'
               go_simp
               with_reducible rfl
              rotate_left
              ·simp only [Act.put, List.setIfInBounds_toArray, List.set_cons_zero, List.set_cons_succ, i64_w, i32_w]
               rfl
              refine pure_ (i := 5) (N := some 17) (v := ?_) (a' := ?_) #[true, true, true, true, true, true, false, false, false, false, false, false, false, false, false, false, false, false, false, false] rfl rfl (any_of HT_.out (by kernel_rfl)) (fun _ _ _ h => h) (Or.inl ⟨by rfl, ?_⟩) ?_ ?_
              rotate_left
              ·intro w'
               go_simp
               with_reducible rfl
              rotate_left
              ·simp only [Act.put, List.setIfInBounds_toArray, List.set_cons_zero, List.set_cons_succ, i64_w, i32_w]
               rfl
              refine pure_ (i := 6) (N := some 18) (v := ?_) (a' := ?_) #[true, true, true, true, true, true, true, false, false, false, false, false, false, false, false, false, false, false, false, false] rfl rfl (any_of HT_.out (by kernel_rfl)) (fun _ _ _ h => h) (Or.inl ⟨by rfl, ?_⟩) ?_ ?_
              rotate_left
              ·intro w'
               go_simp
               with_reducible rfl
              rotate_left
              ·simp only [Act.put, List.setIfInBounds_toArray, List.set_cons_zero, List.set_cons_succ, i64_w, i32_w]
               rfl
              refine pure_ (i := 7) (N := some 19) (v := ?_) (a' := ?_) #[true, true, true, true, true, true, true, true, false, false, false, false, false, false, false, false, false, false, false, false] rfl rfl (any_of HT_.out (by kernel_rfl)) (fun _ _ _ h => h) (Or.inl ⟨by rfl, ?_⟩) ?_ ?_
              rotate_left
              ·intro w'
               go_simp
               with_reducible rfl
              rotate_left
              ·simp only [Act.put, List.setIfInBounds_toArray, List.set_cons_zero, List.set_cons_succ, i64_w, i32_w]
               rfl
              refine pure_ (i := 8) (N := some 20) (v := ?_) (a' := ?_) #[true, true, true, true, true, true, true, true, true, false, false, false, false, false, false, false, false, false, false, false] rfl rfl (any_of HT_.out (by kernel_rfl)) (fun _ _ _ h => h) (Or.inl ⟨by rfl, ?_⟩) ?_ ?_
              rotate_left
              ·intro w'
               go_simp
               with_reducible rfl
              rotate_left
              ·simp only [Act.put, List.setIfInBounds_toArray, List.set_cons_zero, List.set_cons_succ, i64_w, i32_w]
               rfl
              refine pure_ (i := 10) (N := some 22) (v := ?_) (a' := ?_) #[true, true, true, true, true, true, true, true, true, false, true, false, false, false, false, false, false, false, false, false] rfl rfl (any_of HT_.out (by kernel_rfl)) (fun _ _ _ h => h) (Or.inl ⟨by rfl, ?_⟩) ?_ ?_
              rotate_left
              ·intro w'
               go_simp
               with_reducible rfl
              rotate_left
              ·simp only [Act.put, List.setIfInBounds_toArray, List.set_cons_zero, List.set_cons_succ, i64_w, i32_w]
               rfl
              refine pure_ (i := 11) (N := some 23) (v := ?_) (a' := ?_) #[true, true, true, true, true, true, true, true, true, false, true, true, false, false, false, false, false, false, false, false] rfl rfl (any_of HT_.out (by kernel_rfl)) (fun _ _ _ h => h) (Or.inl ⟨by rfl, ?_⟩) ?_ ?_
              rotate_left
              ·intro w'
               go_simp
               with_reducible rfl
              rotate_left
              ·simp only [Act.put, List.setIfInBounds_toArray, List.set_cons_zero, List.set_cons_succ, i64_w, i32_w]
               rfl
              refine pure_ (i := 12) (N := some 24) (v := ?_) (a' := ?_) #[true, true, true, true, true, true, true, true, true, false, true, true, true, false, false, false, false, false, false, false] rfl rfl (any_of HT_.out (by kernel_rfl)) (fun _ _ _ h => h) (Or.inl ⟨by rfl, ?_⟩) ?_ ?_
              rotate_left
              ·intro w'
               go_simp
               with_reducible rfl
              rotate_left
              ·simp only [Act.put, List.setIfInBounds_toArray, List.set_cons_zero, List.set_cons_succ, i64_w, i32_w]
               rfl
              refine pure_ (i := 13) (N := some 25) (v := ?_) (a' := ?_) #[true, true, true, true, true, true, true, true, true, false, true, true, true, true, false, false, false, false, false, false] rfl rfl (any_of HT_.out (by kernel_rfl)) (fun _ _ _ h => h) (Or.inl ⟨by rfl, ?_⟩) ?_ ?_
              rotate_left
              ·intro w'
               go_simp
               with_reducible rfl
              rotate_left
              ·simp only [Act.put, List.setIfInBounds_toArray, List.set_cons_zero, List.set_cons_succ, i64_w, i32_w]
               rfl
              refine pure_ (i := 14) (N := some 26) (v := ?_) (a' := ?_) #[true, true, true, true, true, true, true, true, true, false, true, true, true, true, true, false, false, false, false, false] rfl rfl (any_of HT_.out (by kernel_rfl)) (fun _ _ _ h => h) (Or.inl ⟨by rfl, ?_⟩) ?_ ?_
              rotate_left
              ·intro w'
               go_simp
               with_reducible rfl
              rotate_left
              ·simp only [Act.put, List.setIfInBounds_toArray, List.set_cons_zero, List.set_cons_succ, i64_w, i32_w]
               rfl
              refine take_ (i := 9) (N := some 21) (v := ?_) (a' := ?_) #[true, true, true, true, true, true, true, true, true, true, true, true, true, true, true, false, false, false, false, false] rfl rfl (take_ofW HT_.out HW_.out (by kernel_rfl)) (fun _ _ _ h => h) (Or.inl ⟨by rfl, ?_⟩) hHeld ?_ ?_
              rotate_left
              ·rintro w' ⟨s0, s1, s2, s3, s4, s5⟩
               go_simp
               with_reducible rfl
              rotate_left
              ·simp only [Act.put, List.setIfInBounds_toArray, List.set_cons_zero, List.set_cons_succ, i64_w, i32_w]
               rfl
              refine take_ (i := 15) (N := some 27) (v := ?_) (a' := ?_) #[true, true, true, true, true, true, true, true, true, true, true, true, true, true, true, true, false, false, false, false] rfl rfl (take_ofW HT_.out HW_.out (by kernel_rfl)) (fun _ _ _ h => h) (Or.inl ⟨by rfl, ?_⟩) hHeld ?_ ?_
              rotate_left
              ·rintro w' ⟨s0, s1, s2, s3, s4, s5⟩
               go_simp
               with_reducible rfl
              rotate_left
              ·simp only [Act.put, List.setIfInBounds_toArray, List.set_cons_zero, List.set_cons_succ, i64_w, i32_w]
               rfl
              refine take_ (i := 16) (N := some 28) (v := ?_) (a' := ?_) #[true, true, true, true, true, true, true, true, true, true, true, true, true, true, true, true, true, false, false, false] rfl rfl (take_ofW HT_.out HW_.out (by kernel_rfl)) (fun _ _ _ h => h) (Or.inl ⟨by rfl, ?_⟩) hHeld ?_ ?_
              rotate_left
              ·rintro w' ⟨s0, s1, s2, s3, s4, s5⟩
               go_simp
               with_reducible rfl
              rotate_left
              ·simp only [Act.put, List.setIfInBounds_toArray, List.set_cons_zero, List.set_cons_succ, i64_w, i32_w]
               rfl
              refine one_ (i := 17) (N := some 29) #[true, true, true, true, true, true, true, true, true, true, true, true, true, true, true, true, true, true, false, false] rfl rfl (one_of HT_.out (by kernel_rfl)) (by decide) (fun K hK => ?_)
              refine goes_ Try.func80 (by kernel_rfl) rfl #[.agg #[.int .i64 ((rd_T23 x3_2 (ji9)).f0), .int .i64 ((rd_T23 x3_2 (ji9)).f1)], .agg #[.int .i64 ((rd_T23 x3_2 (ji12)).f0), .int .i64 ((rd_T23 x3_2 (ji12)).f1)], .agg #[.int .i64 ((rd_T23 l0 x8_1).f0), .int .i64 ((rd_T23 l0 x8_1).f1)]] (by rfl) rfl rfl (by (try simp only [List.map_toArray, List.map_cons, List.map_nil]); first | done | (simp only [hji12, hji9]; rfl) | rfl | (simp only [List.length_drop, List.length_take]; rfl)) ?_
              with_reducible refine (plane_twice.calls ((rd_T23 x3_2 (ji9)).f0) ((rd_T23 x3_2 (ji9)).f1) ((rd_T23 x3_2 (ji12)).f0) ((rd_T23 x3_2 (ji12)).f1) ((rd_T23 l0 x8_1).f0) ((rd_T23 l0 x8_1).f1) t578 _ A15.out).mono ?_
              rintro e w18 ⟨rfl, hb⟩
              have HS2_ := (hb.cell (World.block_lt_of_cell? _ _ (hHeld.2.2.1))).trans (hHeld.2.2.1)
              have HS3_ := (hb.cell (World.block_lt_of_cell? _ _ (hHeld.2.2.2.1))).trans (hHeld.2.2.2.1)
              have HS4_ := (hb.cell (World.block_lt_of_cell? _ _ (hHeld.2.2.2.2.1))).trans (hHeld.2.2.2.2.1)
              have HS5_ := (hb.cell (World.block_lt_of_cell? _ _ (hHeld.2.2.2.2.2))).trans (hHeld.2.2.2.2.2)
              refine ⟨_, rfl, ?_⟩
              replace HO_3 := Aside0.mk (Kd.R_below (rk HO_3) hb)
              replace BK575 := bkC BK575 hb
              replace HB := Aside0.mk (below_step (by repeat (first | (with_reducible first | exact HB.out | apply below_alloc | apply pw_below_drewN | apply below_drew1 | refine below_set ?_ GE575.out) | exact HB.out)) hb)
              (try clear hb)
              (try clear hb2)
              (try clear hk)
              (try clear hi)
              refine hK.out _ _ ⟨(blk_cell BK575.out 0).trans rfl, (blk_cell BK575.out 1).trans rfl, HS2_, HS3_, HS4_, HS5_⟩ (fun hHeld => ?_)
              clear hK K
              refine norm_ (a' := ?_) ?_ ?_
              rotate_left
              ·show Act.put _ (some 29) _ = _
               simp only [Act.put, List.setIfInBounds_toArray, List.set_cons_zero, List.set_cons_succ, i64_w, i32_w]
               rfl
              refine pure_ (i := 18) (N := some 30) (v := ?_) (a' := ?_) #[true, true, true, true, true, true, true, true, true, true, true, true, true, true, true, true, true, true, true, false] rfl rfl (any_of HT_.out (by kernel_rfl)) (fun _ _ _ h => h) (Or.inl ⟨by rfl, ?_⟩) ?_ ?_
              rotate_left
              ·intro w'
               go_simp
               with_reducible rfl
              rotate_left
              ·simp only [Act.put, List.setIfInBounds_toArray, List.set_cons_zero, List.set_cons_succ, i64_w, i32_w]
               rfl
              refine pure_ (i := 19) (N := some 31) (v := ?_) (a' := ?_) #[true, true, true, true, true, true, true, true, true, true, true, true, true, true, true, true, true, true, true, true] rfl rfl (any_of HT_.out (by kernel_rfl)) (fun _ _ _ h => h) (Or.inl ⟨by rfl, ?_⟩) ?_ ?_
              rotate_left
              ·intro w'
               go_simp
               with_reducible rfl
              rotate_left
              ·simp only [Act.put, List.setIfInBounds_toArray, List.set_cons_zero, List.set_cons_succ, i64_w, i32_w]
               rfl
              refine done_ (done_of HT_.out (by kernel_rfl)) ?_
              try go_wp2
              go_meet
              case rel => exact ⟨_, (decide (t578 ≤ 0)), (by first | rfl | (simp; done) | (simp [*]; done)), H', ⟨by have := HK1.out; have := HK2.out; first | omega | exact Nat.le_refl _⟩, ⟨rk HO_3⟩, ⟨bk BK575⟩, ⟨by repeat (first | (with_reducible first | exact HB.out | apply below_alloc | apply pw_below_drewN | apply below_drew1 | refine below_set ?_ GE575.out) | exact HB.out)⟩⟩
             ·rw [if_neg c14] at H
              exact absurd H (by simp)
            ·rw [if_neg c13] at H
             exact absurd H (by simp)
           ·rw [if_neg c11] at H
            exact absurd H (by simp)
          ·rw [if_neg c10] at H
           exact absurd H (by simp)
         ·rw [if_neg c8] at H
          have c8b0 : decide (1 < (x3_2.length : Int)) = false := decide_eq_false c8
          have c8b1 : decide (1 < x3_2.length) = false := decide_eq_false (by omega)
          clear c8
          (first | rw [c8b0] | (simp only [i64_w, i32_w]; rw [c8b0]) | skip)
          have H' := Aside0.mk H
          clear H
          try go_wp2
          replace HO_3 := Aside0.mk (Kd.R_drew HO_3.out)
          replace BK575 := Aside0.mk (blk_drew BK575.out)
          replace HB := Aside0.mk (below_drew1 HB.out)
          obtain ⟨Ao20, co20, eo20⟩ := Kd.R_slice HO_3.out
          (first | subst eo20 | (injection eo20 with f1_ f2_ f3_; have f4_ := f1_.symm; have f5_ := f3_.symm; clear f1_ f2_ f3_; subst f4_; subst f5_))
          refine start_ (n := 20) (S := fun w' => True) (ds := []) #[false, false, false, false, false, false, false, false, false, false, false, false, false, false, false, false, false, false, false, false] (by kernel_rfl) rfl rfl trivial (fun hHeld => ?_); refine with_tabW plane_chain.tab5 plane_chain.bits5 (fun HT_ HW_ => ?_)
          generalize wr.drew = w19 at HO_3 BK575 HB hHeld ⊢
          refine pure_ (i := 0) (N := some 12) (v := ?_) (a' := ?_) #[true, false, false, false, false, false, false, false, false, false, false, false, false, false, false, false, false, false, false, false] rfl rfl (any_of HT_.out (by kernel_rfl)) (fun _ _ _ h => h) (Or.inl ⟨by rfl, ?_⟩) ?_ ?_
          rotate_left
          ·intro w'
           go_simp
           with_reducible rfl
          rotate_left
          ·simp only [Act.put, List.setIfInBounds_toArray, List.set_cons_zero, List.set_cons_succ, i64_w, i32_w]
           rfl
          refine pure_ (i := 1) (N := some 13) (v := ?_) (a' := ?_) #[true, true, false, false, false, false, false, false, false, false, false, false, false, false, false, false, false, false, false, false] rfl rfl (any_of HT_.out (by kernel_rfl)) (fun _ _ _ h => h) (Or.inl ⟨by rfl, ?_⟩) ?_ ?_
          rotate_left
          ·intro w'
           go_simp
           with_reducible rfl
          rotate_left
          ·simp only [Act.put, List.setIfInBounds_toArray, List.set_cons_zero, List.set_cons_succ, i64_w, i32_w]
           rfl
          refine pure_ (i := 2) (N := some 14) (v := ?_) (a' := ?_) #[true, true, true, false, false, false, false, false, false, false, false, false, false, false, false, false, false, false, false, false] rfl rfl (any_of HT_.out (by kernel_rfl)) (fun _ _ _ h => h) (Or.inl ⟨by rfl, ?_⟩) ?_ ?_
          rotate_left
          ·intro w'
           go_simp
           with_reducible rfl
          rotate_left
          ·simp only [Act.put, List.setIfInBounds_toArray, List.set_cons_zero, List.set_cons_succ, i64_w, i32_w]
           rfl
          refine pure_ (i := 3) (N := some 15) (v := ?_) (a' := ?_) #[true, true, true, true, false, false, false, false, false, false, false, false, false, false, false, false, false, false, false, false] rfl rfl (any_of HT_.out (by kernel_rfl)) (fun _ _ _ h => h) (Or.inl ⟨by rfl, ?_⟩) ?_ ?_
          rotate_left
          ·intro w'
           go_simp
           with_reducible rfl
          rotate_left
          ·simp only [Act.put, List.setIfInBounds_toArray, List.set_cons_zero, List.set_cons_succ, i64_w, i32_w]
           rfl
          refine pure_ (i := 4) (N := some 16) (v := undef) (a' := ?_) #[true, true, true, true, true, false, false, false, false, false, false, false, false, false, false, false, false, false, false, false] rfl rfl (any_of HT_.out (by kernel_rfl)) (fun _ _ _ h => h) (Or.inr ⟨by rfl, rfl⟩) ?_ ?_
          rotate_left
          ·simp only [Act.put, List.setIfInBounds_toArray, List.set_cons_zero, List.set_cons_succ, i64_w, i32_w]
           rfl
          refine pure_ (i := 5) (N := some 17) (v := undef) (a' := ?_) #[true, true, true, true, true, true, false, false, false, false, false, false, false, false, false, false, false, false, false, false] rfl rfl (any_of HT_.out (by kernel_rfl)) (fun _ _ _ h => h) (Or.inr ⟨by rfl, rfl⟩) ?_ ?_
          rotate_left
          ·simp only [Act.put, List.setIfInBounds_toArray, List.set_cons_zero, List.set_cons_succ, i64_w, i32_w]
           rfl
          refine pure_ (i := 6) (N := some 18) (v := undef) (a' := ?_) #[true, true, true, true, true, true, true, false, false, false, false, false, false, false, false, false, false, false, false, false] rfl rfl (any_of HT_.out (by kernel_rfl)) (fun _ _ _ h => h) (Or.inr ⟨by rfl, rfl⟩) ?_ ?_
          rotate_left
          ·simp only [Act.put, List.setIfInBounds_toArray, List.set_cons_zero, List.set_cons_succ, i64_w, i32_w]
           rfl
          refine pure_ (i := 7) (N := some 19) (v := undef) (a' := ?_) #[true, true, true, true, true, true, true, true, false, false, false, false, false, false, false, false, false, false, false, false] rfl rfl (any_of HT_.out (by kernel_rfl)) (fun _ _ _ h => h) (Or.inr ⟨by rfl, rfl⟩) ?_ ?_
          rotate_left
          ·simp only [Act.put, List.setIfInBounds_toArray, List.set_cons_zero, List.set_cons_succ, i64_w, i32_w]
           rfl
          refine pure_ (i := 8) (N := some 20) (v := undef) (a' := ?_) #[true, true, true, true, true, true, true, true, true, false, false, false, false, false, false, false, false, false, false, false] rfl rfl (any_of HT_.out (by kernel_rfl)) (fun _ _ _ h => h) (Or.inr ⟨by rfl, rfl⟩) ?_ ?_
          rotate_left
          ·simp only [Act.put, List.setIfInBounds_toArray, List.set_cons_zero, List.set_cons_succ, i64_w, i32_w]
           rfl
          refine pure_ (i := 9) (N := some 21) (v := undef) (a' := ?_) #[true, true, true, true, true, true, true, true, true, true, false, false, false, false, false, false, false, false, false, false] rfl rfl (any_of HT_.out (by kernel_rfl)) (fun _ _ _ h => h) (Or.inr ⟨by rfl, rfl⟩) ?_ ?_
          rotate_left
          ·simp only [Act.put, List.setIfInBounds_toArray, List.set_cons_zero, List.set_cons_succ, i64_w, i32_w]
           rfl
          refine pure_ (i := 10) (N := some 22) (v := undef) (a' := ?_) #[true, true, true, true, true, true, true, true, true, true, true, false, false, false, false, false, false, false, false, false] rfl rfl (any_of HT_.out (by kernel_rfl)) (fun _ _ _ h => h) (Or.inr ⟨by rfl, rfl⟩) ?_ ?_
          rotate_left
          ·simp only [Act.put, List.setIfInBounds_toArray, List.set_cons_zero, List.set_cons_succ, i64_w, i32_w]
           rfl
          refine pure_ (i := 11) (N := some 23) (v := undef) (a' := ?_) #[true, true, true, true, true, true, true, true, true, true, true, true, false, false, false, false, false, false, false, false] rfl rfl (any_of HT_.out (by kernel_rfl)) (fun _ _ _ h => h) (Or.inr ⟨by rfl, rfl⟩) ?_ ?_
          rotate_left
          ·simp only [Act.put, List.setIfInBounds_toArray, List.set_cons_zero, List.set_cons_succ, i64_w, i32_w]
           rfl
          refine pure_ (i := 12) (N := some 24) (v := undef) (a' := ?_) #[true, true, true, true, true, true, true, true, true, true, true, true, true, false, false, false, false, false, false, false] rfl rfl (any_of HT_.out (by kernel_rfl)) (fun _ _ _ h => h) (Or.inr ⟨by rfl, rfl⟩) ?_ ?_
          rotate_left
          ·simp only [Act.put, List.setIfInBounds_toArray, List.set_cons_zero, List.set_cons_succ, i64_w, i32_w]
           rfl
          refine pure_ (i := 13) (N := some 25) (v := undef) (a' := ?_) #[true, true, true, true, true, true, true, true, true, true, true, true, true, true, false, false, false, false, false, false] rfl rfl (any_of HT_.out (by kernel_rfl)) (fun _ _ _ h => h) (Or.inr ⟨by rfl, rfl⟩) ?_ ?_
          rotate_left
          ·simp only [Act.put, List.setIfInBounds_toArray, List.set_cons_zero, List.set_cons_succ, i64_w, i32_w]
           rfl
          refine pure_ (i := 14) (N := some 26) (v := undef) (a' := ?_) #[true, true, true, true, true, true, true, true, true, true, true, true, true, true, true, false, false, false, false, false] rfl rfl (any_of HT_.out (by kernel_rfl)) (fun _ _ _ h => h) (Or.inr ⟨by rfl, rfl⟩) ?_ ?_
          rotate_left
          ·simp only [Act.put, List.setIfInBounds_toArray, List.set_cons_zero, List.set_cons_succ, i64_w, i32_w]
           rfl
          refine pure_ (i := 15) (N := some 27) (v := undef) (a' := ?_) #[true, true, true, true, true, true, true, true, true, true, true, true, true, true, true, true, false, false, false, false] rfl rfl (any_of HT_.out (by kernel_rfl)) (fun _ _ _ h => h) (Or.inr ⟨by rfl, rfl⟩) ?_ ?_
          rotate_left
          ·simp only [Act.put, List.setIfInBounds_toArray, List.set_cons_zero, List.set_cons_succ, i64_w, i32_w]
           rfl
          refine pure_ (i := 16) (N := some 28) (v := undef) (a' := ?_) #[true, true, true, true, true, true, true, true, true, true, true, true, true, true, true, true, true, false, false, false] rfl rfl (any_of HT_.out (by kernel_rfl)) (fun _ _ _ h => h) (Or.inr ⟨by rfl, rfl⟩) ?_ ?_
          rotate_left
          ·simp only [Act.put, List.setIfInBounds_toArray, List.set_cons_zero, List.set_cons_succ, i64_w, i32_w]
           rfl
          refine pure_ (i := 17) (N := some 29) (v := undef) (a' := ?_) #[true, true, true, true, true, true, true, true, true, true, true, true, true, true, true, true, true, true, false, false] rfl rfl (any_of HT_.out (by kernel_rfl)) (fun _ _ _ h => h) (Or.inr ⟨by rfl, rfl⟩) ?_ ?_
          rotate_left
          ·simp only [Act.put, List.setIfInBounds_toArray, List.set_cons_zero, List.set_cons_succ, i64_w, i32_w]
           rfl
          refine pure_ (i := 18) (N := some 30) (v := undef) (a' := ?_) #[true, true, true, true, true, true, true, true, true, true, true, true, true, true, true, true, true, true, true, false] rfl rfl (any_of HT_.out (by kernel_rfl)) (fun _ _ _ h => h) (Or.inr ⟨by rfl, rfl⟩) ?_ ?_
          rotate_left
          ·simp only [Act.put, List.setIfInBounds_toArray, List.set_cons_zero, List.set_cons_succ, i64_w, i32_w]
           rfl
          refine pure_ (i := 19) (N := some 31) (v := ?_) (a' := ?_) #[true, true, true, true, true, true, true, true, true, true, true, true, true, true, true, true, true, true, true, true] rfl rfl (any_of HT_.out (by kernel_rfl)) (fun _ _ _ h => h) (Or.inl ⟨by rfl, ?_⟩) ?_ ?_
          rotate_left
          ·intro w'
           go_simp
           with_reducible rfl
          rotate_left
          ·simp only [Act.put, List.setIfInBounds_toArray, List.set_cons_zero, List.set_cons_succ, i64_w, i32_w]
           rfl
          refine done_ (done_of HT_.out (by kernel_rfl)) ?_
          try go_wp2
          go_meet
          case rel => exact ⟨_, (false), (by first | rfl | (simp; done) | (simp [*]; done)), H', ⟨by have := HK1.out; have := HK2.out; first | omega | exact Nat.le_refl _⟩, ⟨rk HO_3⟩, ⟨bk BK575⟩, ⟨by repeat (first | (with_reducible first | exact HB.out | apply below_alloc | apply pw_below_drewN | apply below_drew1 | refine below_set ?_ GE575.out) | exact HB.out)⟩⟩
        case rest =>
         clear HC7
         try clear c1
         try clear c2
         try clear c2b0
         try clear p2
         try clear c3
         try clear c3b0
         try clear c4
         try clear c4b0
         try clear p5
         try clear q5
         try clear hx5
         try clear p6
         try clear c8
         try clear c8b0
         try clear c8b1
         try clear c10
         try clear c10b0
         try clear c11
         try clear c11b0
         try clear c13
         try clear c13b0
         try clear c14
         try clear c14b0
         try clear hcz6_0
         try clear hcz6_1
         try clear hfz6_0
         try clear hfz6_1
         try clear hx574_0
         try clear hx574_1
         try clear hx576_0
         try clear hx576_1
         try clear hx577_0
         try clear hx577_1
         try clear p2
         try clear p5
         try clear p574
         try clear p576
         try clear p577
         try clear q5
         try clear q574
         try clear q576
         try clear q577
         obtain ⟨kq, x31_6, rfl, HA, HJ6, HO_3, BK575, HB⟩ := hcut
         cases kq with
         | zero => exact absurd HA.out (by simp [plane_chain.j2])
         | succ kj6 =>
          have H := HA.out
          clear HA
          simp only [plane_chain.j2] at H
          by_cases c21 : x31_6 = true
          ·subst c21
           have H1 : (if 0 ≤ (wrap64 ((x3_2.length : Int) - 1)) then (if (wrap64 ((x3_2.length : Int) - 1)) ≤ (x3_2.length : Int) then (plane_chain.l1 kj6 (x3_2.take ((wrap64 ((x3_2.length : Int) - 1)) : Int).toNat) l0 (l0.length : Int) x8_1 ((rd_T23 l0 x8_1).f0) ((rd_T23 l0 x8_1).f1)) else (none)) else (none)) = some r := by rw [if_pos rfl] at H; exact H
           clear H
           have H := H1
           clear H1
           obtain ⟨ji22, hji22⟩ : ∃ j_ : Int, (wrap64 ((x3_2.length : Int) - 1)) = j_ := ⟨_, rfl⟩
           replace H : (if 0 ≤ (ji22) then (if (ji22) ≤ (x3_2.length : Int) then (plane_chain.l1 kj6 (x3_2.take ((ji22) : Int).toNat) l0 (l0.length : Int) x8_1 ((rd_T23 l0 x8_1).f0) ((rd_T23 l0 x8_1).f1)) else (none)) else (none)) = some r := by first | (rw [hji22] at H; exact H) | (simp only [hji22] at H ⊢; exact H)
           have hji22w : (IntKind.i64.wrap ((x3_2.length : Int) - 1)) = ji22 := (i64_w _).trans hji22
           by_cases c23 : 0 ≤ (ji22)
           ·rw [if_pos c23] at H
            have c23b0 := eq_true c23
            have c23b1 : decide (0 ≤ (ji22)) = true := decide_eq_true c23
            clear c23
            by_cases c24 : (ji22) ≤ (x3_2.length : Int)
            ·rw [if_pos c24] at H
             have c24b0 := eq_true c24
             have c24b1 : decide ((ji22) ≤ (x3_2.length : Int)) = true := decide_eq_true c24
             clear c24
             obtain ⟨y579, hy579⟩ : ∃ y_ : List (S23), y_ = (x3_2.take ((ji22) : Int).toNat) := ⟨_, rfl⟩
             replace H : (plane_chain.l1 kj6 y579 l0 (l0.length : Int) x8_1 ((rd_T23 l0 x8_1).f0) ((rd_T23 l0 x8_1).f1)) = some r := by first | (rw [hy579]; with_reducible exact H) | (have H2_ := (Option.bind_some _ _).symm.trans H; rw [hy579]; with_reducible exact H2_) | (have H2_ := (Option.bind_some _ _).symm.trans H; with_reducible exact H2_) | with_reducible exact H | (rw [hy579]; exact H) | exact H
             have Ny579 := Aside0.mk hy579
             clear hy579
             have H' := Aside0.mk H
             clear H
             obtain ⟨Ao25, co25, eo25⟩ := Kd.R_slice HO_3.out
             subst eo25
             have q26 : ((ji22) : Int) ≤ ((x3_2.length : Int) : Int) := of_decide_eq_true (by first | (with_reducible assumption) | assumption)
             obtain ⟨i026, hi026, _, hsz26, _⟩ := info_parts info23
             have hcut26 := cut_to (P := Try.prog) 39 23 .i64 Try.underlying39 hi026 Ao25 x3_2.length co25 (ji22) (of_decide_eq_true (by first | (with_reducible assumption) | assumption)) q26 (Kd.R_reads' HO_3.out).2.1
             have hr26 := Kd.R_take (m := ((ji22) : Int).toNat) HO_3.out (by omega)
             have hy26 : y579.length = ((ji22) : Int).toNat := (by rw [Ny579.out, List.length_take]; omega)
             rw [← Ny579.out] at hr26
             rw [← hy26] at hr26 hcut26
             clear hy26 hi026 hsz26 HO_3
             have HO581 := Aside0.mk hr26
             clear hr26
             replace q26 := eq_true q26
             go_wp2
             go_roundg kj6
             case measure => have := HK1.out; have := HK2.out; have := HJ6.out; omega
             case rel => exact ⟨(y579), H', ⟨by have := HK1.out; have := HK2.out; have := HJ6.out; omega⟩, ⟨rk HO581⟩, ⟨bk BK575⟩, ⟨by repeat (first | (with_reducible first | exact HB.out | apply below_alloc | apply pw_below_drewN | apply below_drew1 | refine below_set ?_ GE575.out) | exact HB.out)⟩⟩
            ·rw [if_neg c24] at H
             exact absurd H (by simp)
           ·rw [if_neg c23] at H
            exact absurd H (by simp)
          ·replace c21 := Bool.eq_false_iff.mpr c21
           subst c21
           have H1 : (if x3_2.length < 8796093022208 then (plane_chain.l0 kj6 (x3_2 ++ [(⟨((rd_T23 l0 x8_1).f0), ((rd_T23 l0 x8_1).f1)⟩ : S23)]) l0 (l0.length : Int) (wrap64 (x8_1 + 1))) else (none)) = some r := by rw [if_neg (show ¬ (false = true) by decide)] at H; exact H
           clear H
           have H := H1
           clear H1
           by_cases c27 : x3_2.length < 8796093022208
           ·rw [if_pos c27] at H
            have LMc27 := Aside0.mk c27
            clear c27
            obtain ⟨y582, hy582⟩ : ∃ y_ : List (S23), y_ = (x3_2 ++ [(⟨((rd_T23 l0 x8_1).f0), ((rd_T23 l0 x8_1).f1)⟩ : S23)]) := ⟨_, rfl⟩
            replace H : (plane_chain.l0 kj6 y582 l0 (l0.length : Int) (wrap64 (x8_1 + 1))) = some r := by first | (rw [hy582]; with_reducible exact H) | (have H2_ := (Option.bind_some _ _).symm.trans H; rw [hy582]; with_reducible exact H2_) | (have H2_ := (Option.bind_some _ _).symm.trans H; with_reducible exact H2_) | with_reducible exact H | (rw [hy582]; exact H) | exact H
            have Ny582 := Aside0.mk hy582
            clear hy582
            have H' := Aside0.mk H
            clear H
            have hcz28_0 : wc.cell? ⟨gb575, 0, none⟩ = some (.int .i64 ((rd_T23 l0 x8_1).f0)) := (blk_cell BK575.out 0).trans rfl
            have hcz28_1 : wc.cell? ⟨gb575, 1, none⟩ = some (.int .i64 ((rd_T23 l0 x8_1).f1)) := (blk_cell BK575.out 1).trans rfl
            have hfz28_0 := blk_frozen BK575.out 0
            have hfz28_1 := blk_frozen BK575.out 1
            go_wp2_with (first | ((with_reducible refine gate_builtin (b := .append) (xs := #[.tmp 37, .tmp 39]) rfl ?_); (try (refine gate_guard (by rfl) ?_; dsimp only)); at_builtin; refine Kd.R_append k23 (w0 := w) w.heap.size rfl (.tmp 37) (.tmp 39) 39 23 (.agg #[(.int .i64 0), (.int .i64 0)]) 16 rfl Try.underlying39 info23 rfl (by decide) (by omega) u3 x3_2 (⟨((rd_T23 l0 x8_1).f0), ((rd_T23 l0 x8_1).f1)⟩ : S23) [.int .i64 ((rd_T23 l0 x8_1).f0), .int .i64 ((rd_T23 l0 x8_1).f1)] (fun k_ => k_ ≠ gb575) (fun _ => False) rfl rfl ?aP (fun _ hk => hk.elim) ?aF ?aO ?aB ?aS ?aL ?_; (case aP => exact k23_mkM _ _ _ (⟨((rd_T23 l0 x8_1).f0), ((rd_T23 l0 x8_1).f1)⟩ : S23)); (case aB => exact (by repeat (first | (with_reducible first | exact HB.out | apply below_alloc | apply pw_below_drewN | apply below_drew1 | refine below_set ?_ GE575.out) | exact HB.out))); (case aF => exact (fun k_ hk => Kd.freshB (g := gb575) (o := .cells #[.int .i64 ((rd_T23 l0 x8_1).f0), .int .i64 ((rd_T23 l0 x8_1).f1)] 23 (0, 0)) (bk BK575) k_ hk)); (case aO => exact (rk HO_3)); (case aS => exact (below_size (by repeat (first | (with_reducible first | exact HB.out | apply below_alloc | apply pw_below_drewN | apply below_drew1 | refine below_set ?_ GE575.out) | exact HB.out)))); (case aL => have := LMc27.out; omega); intro v583 w29 ho hb hg hat; rw [← Ny582.out] at ho; have n0_ := Aside0.mk (blk_grown (g := gb575) (o := .cells #[.int .i64 ((rd_T23 l0 x8_1).f0), .int .i64 ((rd_T23 l0 x8_1).f1)] 23 (0, 0)) (bk BK575) hg (Kd.R_away HO_3.out (fun _ hk => hk))); have n1_ := Aside0.mk (hb); have n2_ := Aside0.mk (ho); clear BK575; clear HB; clear HO_3; have BK575 := n0_; have HB := n1_; have HO584 := n2_; clear n0_ n1_ n2_; clear ho hb hg hat))
            go_roundg kj6
            case measure => have := HK1.out; have := HK2.out; have := HJ6.out; omega
            case rel => exact ⟨(y582), (wrap64 (x8_1 + 1)), (by first | rfl | (simp; done) | (simp [*]; done)), H', ⟨by have := HK1.out; have := HK2.out; have := HJ6.out; omega⟩, ⟨by (with_reducible repeat (first | apply Kd.R_alloc | apply Kd.R_drewN | apply Kd.R_drew)); exact Kd.R_mono HO584.out (fun _ hk => trivial)⟩, ⟨by repeat (first | (with_reducible first | exact HB.out | apply below_alloc | apply pw_below_drewN | apply below_drew1 | refine below_set ?_ GE575.out) | exact HB.out)⟩⟩
           ·rw [if_neg c27] at H
            exact absurd H (by simp)
     ·rw [if_neg c4] at H
      exact absurd H (by simp)
    ·rw [if_neg c3] at H
     exact absurd H (by simp)
   ·rw [if_neg c2] at H
    have c2b0 : decide (x8_1 < (l0.length : Int)) = false := decide_eq_false c2
    clear c2
    obtain ⟨ji30, hji30⟩ : ∃ j_ : Int, (wrap64 ((x3_1.length : Int) - 1)) = j_ := ⟨_, rfl⟩
    replace H : (if 0 ≤ (ji30) then (if (ji30) ≤ (x3_1.length : Int) then (some (x3_1.take ((ji30) : Int).toNat)) else (none)) else (none)) = some r := by first | (rw [hji30] at H; exact H) | (simp only [hji30] at H ⊢; exact H)
    have hji30w : (IntKind.i64.wrap ((x3_1.length : Int) - 1)) = ji30 := (i64_w _).trans hji30
    by_cases c31 : 0 ≤ (ji30)
    ·rw [if_pos c31] at H
     have c31b0 := eq_true c31
     have c31b1 : decide (0 ≤ (ji30)) = true := decide_eq_true c31
     clear c31
     by_cases c32 : (ji30) ≤ (x3_1.length : Int)
     ·rw [if_pos c32] at H
      have c32b0 := eq_true c32
      have c32b1 : decide ((ji30) ≤ (x3_1.length : Int)) = true := decide_eq_true c32
      clear c32
      obtain ⟨y571, hy571⟩ : ∃ y_ : List (S23), y_ = (x3_1.take ((ji30) : Int).toNat) := ⟨_, rfl⟩
      replace H : (some y571) = some r := by first | (rw [hy571]; with_reducible exact H) | (have H2_ := (Option.bind_some _ _).symm.trans H; rw [hy571]; with_reducible exact H2_) | (have H2_ := (Option.bind_some _ _).symm.trans H; with_reducible exact H2_) | with_reducible exact H | (rw [hy571]; exact H) | exact H
      have Ny571 := Aside0.mk hy571
      clear hy571
      obtain rfl := Option.some.inj H
      obtain ⟨Ao33, co33, eo33⟩ := Kd.R_slice HO_3.out
      subst eo33
      have q34 : ((ji30) : Int) ≤ ((x3_1.length : Int) : Int) := of_decide_eq_true (by first | (with_reducible assumption) | assumption)
      obtain ⟨i034, hi034, _, hsz34, _⟩ := info_parts info23
      have hcut34 := cut_to (P := Try.prog) 39 23 .i64 Try.underlying39 hi034 Ao33 x3_1.length co33 (ji30) (of_decide_eq_true (by first | (with_reducible assumption) | assumption)) q34 (Kd.R_reads' HO_3.out).2.1
      have hr34 := Kd.R_take (m := ((ji30) : Int).toNat) HO_3.out (by omega)
      have hy34 : y571.length = ((ji30) : Int).toNat := (by rw [Ny571.out, List.length_take]; omega)
      rw [← Ny571.out] at hr34
      rw [← hy34] at hr34 hcut34
      clear hy34 hi034 hsz34 HO_3
      have HO573 := Aside0.mk hr34
      clear hr34
      replace q34 := eq_true q34
      go_wp2
      go_ret
      exact ⟨_, by first | rfl | (simp [errW_none, errW_some] <;> rfl) | (simp only [← hji30]; first | rfl | (simp [errW_none, errW_some] <;> rfl)) | (simp [*, errW_none, errW_some] <;> rfl), by (with_reducible repeat (first | apply Kd.R_alloc | apply Kd.R_drewN | apply Kd.R_drew)); exact HO573.out, by repeat (first | (with_reducible first | exact HB.out | apply below_alloc | apply pw_below_drewN | apply below_drew1) | exact HB.out)⟩
     ·rw [if_neg c32] at H
      exact absurd H (by simp)
    ·rw [if_neg c31] at H
     exact absurd H (by simp)
end Go.Proofs.Ytckaejgamfllfaa.G
end

section
namespace Go.Proofs.Ytckaejgamfllfaa.G
open Go.RowKit Go.Proofs.YtckaejgamfllfaaW.PrintWords Go.Proofs.YtckaejgamfllfaaW.PrintLast Go.Proofs.YtckaejgamfllfaaW.PrintMore
attribute [local go_sem] max2_int min2_int max_two min_two max_three min_three max_four min_four
set_option linter.unusedVariables false
set_option linter.unusedSimpArgs false
end Go.Proofs.Ytckaejgamfllfaa.G
end

section
namespace Go.Proofs.Ytckaejgamfllfaa.G
open Go.RowKit Go.Proofs.YtckaejgamfllfaaW.PrintWords Go.Proofs.YtckaejgamfllfaaW.PrintLast Go.Proofs.YtckaejgamfllfaaW.PrintMore
attribute [local go_sem] max2_int min2_int max_two min_two max_three min_three max_four min_four
set_option linter.unusedVariables false
set_option linter.unusedSimpArgs false
end Go.Proofs.Ytckaejgamfllfaa.G
end

section
namespace Go.Proofs.Ytckaejgamfllfaa.G
open Go.RowKit Go.Proofs.YtckaejgamfllfaaW.PrintWords Go.Proofs.YtckaejgamfllfaaW.PrintLast Go.Proofs.YtckaejgamfllfaaW.PrintMore
attribute [local go_sem] max2_int min2_int max_two min_two max_three min_three max_four min_four
set_option linter.unusedVariables false
set_option linter.unusedSimpArgs false
end Go.Proofs.Ytckaejgamfllfaa.G
end

section
namespace Go.Proofs.Ytckaejgamfllfaa.G
open Go.RowKit Go.Proofs.YtckaejgamfllfaaW.PrintWords Go.Proofs.YtckaejgamfllfaaW.PrintLast Go.Proofs.YtckaejgamfllfaaW.PrintMore
attribute [local go_sem] max2_int min2_int max_two min_two max_three min_three max_four min_four
set_option linter.unusedVariables false
set_option linter.unusedSimpArgs false
end Go.Proofs.Ytckaejgamfllfaa.G
end

section
namespace Go.Proofs.Ytckaejgamfllfaa.G
open Go.RowKit Go.Proofs.YtckaejgamfllfaaW.PrintWords Go.Proofs.YtckaejgamfllfaaW.PrintLast Go.Proofs.YtckaejgamfllfaaW.PrintMore
attribute [local go_sem] max2_int min2_int max_two min_two max_three min_three max_four min_four
set_option linter.unusedVariables false
set_option linter.unusedSimpArgs false
def boundstoneref02_within.f (a0 : Int) (a1 : Int) (a2 : Int) : Option (Bool) := if a0 ≥ a1 then (some (decide (a0 ≤ a2))) else (some false)
set_option maxHeartbeats 8000000 in
set_option maxRecDepth 100000 in
theorem boundstoneref02_within.calls (a0 : Int) (a1 : Int) (a2 : Int) (r : Bool) (w : World) (h : boundstoneref02_within.f a0 a1 a2 = some r) :
  Calls Try.prog 77 #[.int .i64 a0, .int .i64 a1, .int .i64 a2] w fun e w' => e = .returned (.bool r) ∧ Drawn0 w w' := by
 have H : (if a0 ≥ a1 then (some (decide (a0 ≤ a2))) else (some false)) = some r := h
 clear h
 by_cases c4 : a0 ≥ a1
 ·rw [if_pos c4] at H
  have c4b0 : decide (a1 ≤ a0) = true := decide_eq_true c4
  clear c4
  obtain rfl := Option.some.inj H
  go_enter Try.func77, Try.ntmps77
  go_wp2
  go_ret
  exact ⟨by first | rfl | (simp; done) | (simp [*]; done), by repeat (first | exact Drawn0.refl _ | apply Drawn0.step)⟩
 ·rw [if_neg c4] at H
  have c4b0 : decide (a1 ≤ a0) = false := decide_eq_false c4
  clear c4
  obtain rfl := Option.some.inj H
  go_enter Try.func77, Try.ntmps77
  go_wp2
  go_ret
  exact ⟨by first | rfl | (simp; done) | (simp [*]; done), by repeat (first | exact Drawn0.refl _ | apply Drawn0.step)⟩
end Go.Proofs.Ytckaejgamfllfaa.G
end

section
namespace Go.Proofs.Ytckaejgamfllfaa.G
open Go.RowKit Go.Proofs.YtckaejgamfllfaaW.PrintWords Go.Proofs.YtckaejgamfllfaaW.PrintLast Go.Proofs.YtckaejgamfllfaaW.PrintMore
attribute [local go_sem] max2_int min2_int max_two min_two max_three min_three max_four min_four
set_option linter.unusedVariables false
set_option linter.unusedSimpArgs false
def boundstoneref02_Valid.f (a0_0 : Int) (a0_1 : Int) : Option (Bool) := (boundstoneref02_within.f a0_0 (-1048576) 1048576).bind fun t292 => ((boundstoneref02_within.f a0_1 (-1048576) 1048576).bind fun t293 => (if t292 = true then (some t293) else (some false)))
set_option maxHeartbeats 8000000 in
set_option maxRecDepth 100000 in
theorem boundstoneref02_Valid.calls (a0_0 : Int) (a0_1 : Int) (r : Bool) (w : World) (h : boundstoneref02_Valid.f a0_0 a0_1 = some r) :
  Calls Try.prog 18 #[.agg #[.int .i64 a0_0, .int .i64 a0_1]] w fun e w' => e = .returned (.bool r) ∧ Below w.heap.size w w' := by
 have hu23 := Try.underlying23
 have HB := Aside0.mk (Below.refl w.heap.size w)
 have H : ((boundstoneref02_within.f a0_0 (-1048576) 1048576).bind fun t292 => ((boundstoneref02_within.f a0_1 (-1048576) 1048576).bind fun t293 => (if t292 = true then (some t293) else (some false)))) = some r := h
 clear h
 replace H := Option.bind_eq_some_iff.mp H
 obtain ⟨t292, A20, H⟩ := H
 replace H : ((boundstoneref02_within.f a0_1 (-1048576) 1048576).bind fun t293 => (if t292 = true then (some t293) else (some false))) = some r := H
 have A2 := Aside0.mk A20
 clear A20
 replace H := Option.bind_eq_some_iff.mp H
 obtain ⟨t293, A30, H⟩ := H
 replace H : (if t292 = true then (some t293) else (some false)) = some r := H
 have A3 := Aside0.mk A30
 clear A30
 by_cases c4 : t292 = true
 ·subst c4
  have H1 : (some t293) = some r := by rw [if_pos rfl] at H; exact H
  clear H
  have H := H1
  clear H1
  obtain rfl := Option.some.inj H
  go_enter Try.func18, Try.ntmps18
  go_wp2_with (first | ((with_reducible refine gate_dst (N := 1) rfl ?_); refine box_event ?hg (N := 1) ?hd (cs := #[.int .i64 a0_0, .int .i64 a0_1]) (t := 23) ?hr ?_; (case hd => rfl); (case hg => rfl); (case hr => first | (go_simp; done) | (go_simp; rfl)); intro gb291 hg w5 hbox hb; have BK291 := Aside0.mk (hbox); have GW291 := geBA HB hg; have GE291 := geBA HB hg; replace HB := Aside0.mk (below_step (hk HB) hb); clear hb hbox hg; have hcz6_0 : w5.cell? ⟨gb291, 0, none⟩ = some (.int .i64 a0_0) := (blk_cell BK291.out 0).trans rfl; have hcz6_1 : w5.cell? ⟨gb291, 1, none⟩ = some (.int .i64 a0_1) := (blk_cell BK291.out 1).trans rfl; have hfz6_0 := blk_frozen BK291.out 0; have hfz6_1 := blk_frozen BK291.out 1) | ((with_reducible refine gate_callee (f := 77) rfl ?_); refine goesL_ (some 7) rfl rfl Try.func77 (by kernel_rfl) rfl #[.int .i64 a0_0, .int .i64 (-1048576), .int .i64 1048576] rfl (by (try simp only [List.map_toArray, List.map_cons, List.map_nil]); first | done | rfl | (simp only [List.length_drop, List.length_take]; rfl)) ?_; (with_reducible refine (boundstoneref02_within.calls a0_0 (-1048576) 1048576 true _ A2.out).mono ?_); rintro e w' ⟨rfl, ⟨nd, rfl⟩⟩; refine ⟨_, rfl, ?_⟩) | ((with_reducible refine gate_callee (f := 77) rfl ?_); refine goesL_ (some 10) rfl rfl Try.func77 (by kernel_rfl) rfl #[.int .i64 a0_1, .int .i64 (-1048576), .int .i64 1048576] rfl (by (try simp only [List.map_toArray, List.map_cons, List.map_nil]); first | done | rfl | (simp only [List.length_drop, List.length_take]; rfl)) ?_; (with_reducible refine (boundstoneref02_within.calls a0_1 (-1048576) 1048576 t293 _ A3.out).mono ?_); rintro e w' ⟨rfl, ⟨nd, rfl⟩⟩; refine ⟨_, rfl, ?_⟩))
  go_ret
  exact ⟨by first | rfl | (simp [errW_none, errW_some] <;> rfl) | (simp [*, errW_none, errW_some] <;> rfl), by repeat (first | (with_reducible first | exact HB.out | apply below_alloc | apply pw_below_drewN | apply below_drew1 | refine below_set ?_ GE291.out) | exact HB.out)⟩
 ·replace c4 := Bool.eq_false_iff.mpr c4
  subst c4
  have H1 : (some false) = some r := by rw [if_neg (show ¬ (false = true) by decide)] at H; exact H
  clear H
  have H := H1
  clear H1
  obtain rfl := Option.some.inj H
  go_enter Try.func18, Try.ntmps18
  go_wp2_with (first | ((with_reducible refine gate_dst (N := 1) rfl ?_); refine box_event ?hg (N := 1) ?hd (cs := #[.int .i64 a0_0, .int .i64 a0_1]) (t := 23) ?hr ?_; (case hd => rfl); (case hg => rfl); (case hr => first | (go_simp; done) | (go_simp; rfl)); intro gb291 hg w7 hbox hb; have BK291 := Aside0.mk (hbox); have GW291 := geBA HB hg; have GE291 := geBA HB hg; replace HB := Aside0.mk (below_step (hk HB) hb); clear hb hbox hg; have hcz8_0 : w7.cell? ⟨gb291, 0, none⟩ = some (.int .i64 a0_0) := (blk_cell BK291.out 0).trans rfl; have hcz8_1 : w7.cell? ⟨gb291, 1, none⟩ = some (.int .i64 a0_1) := (blk_cell BK291.out 1).trans rfl; have hfz8_0 := blk_frozen BK291.out 0; have hfz8_1 := blk_frozen BK291.out 1) | ((with_reducible refine gate_callee (f := 77) rfl ?_); refine goesL_ (some 7) rfl rfl Try.func77 (by kernel_rfl) rfl #[.int .i64 a0_0, .int .i64 (-1048576), .int .i64 1048576] rfl (by (try simp only [List.map_toArray, List.map_cons, List.map_nil]); first | done | rfl | (simp only [List.length_drop, List.length_take]; rfl)) ?_; (with_reducible refine (boundstoneref02_within.calls a0_0 (-1048576) 1048576 false _ A2.out).mono ?_); rintro e w' ⟨rfl, ⟨nd, rfl⟩⟩; refine ⟨_, rfl, ?_⟩) | ((with_reducible refine gate_callee (f := 77) rfl ?_); refine goesL_ (some 10) rfl rfl Try.func77 (by kernel_rfl) rfl #[.int .i64 a0_1, .int .i64 (-1048576), .int .i64 1048576] rfl (by (try simp only [List.map_toArray, List.map_cons, List.map_nil]); first | done | rfl | (simp only [List.length_drop, List.length_take]; rfl)) ?_; (with_reducible refine (boundstoneref02_within.calls a0_1 (-1048576) 1048576 t293 _ A3.out).mono ?_); rintro e w' ⟨rfl, ⟨nd, rfl⟩⟩; refine ⟨_, rfl, ?_⟩))
  go_ret
  exact ⟨by first | rfl | (simp [errW_none, errW_some] <;> rfl) | (simp [*, errW_none, errW_some] <;> rfl), by repeat (first | (with_reducible first | exact HB.out | apply below_alloc | apply pw_below_drewN | apply below_drew1 | refine below_set ?_ GE291.out) | exact HB.out)⟩
end Go.Proofs.Ytckaejgamfllfaa.G
end

section
namespace Go.Proofs.Ytckaejgamfllfaa.G
open Go.RowKit Go.Proofs.YtckaejgamfllfaaW.PrintWords Go.Proofs.YtckaejgamfllfaaW.PrintLast Go.Proofs.YtckaejgamfllfaaW.PrintMore
attribute [local go_sem] max2_int min2_int max_two min_two max_three min_three max_four min_four
set_option linter.unusedVariables false
set_option linter.unusedSimpArgs false
end Go.Proofs.Ytckaejgamfllfaa.G
end

section
namespace Go.Proofs.Ytckaejgamfllfaa.G
open Go.RowKit Go.Proofs.YtckaejgamfllfaaW.PrintWords Go.Proofs.YtckaejgamfllfaaW.PrintLast Go.Proofs.YtckaejgamfllfaaW.PrintMore
attribute [local go_sem] max2_int min2_int max_two min_two max_three min_three max_four min_four
set_option linter.unusedVariables false
set_option linter.unusedSimpArgs false
end Go.Proofs.Ytckaejgamfllfaa.G
end

section
namespace Go.Proofs.Ytckaejgamfllfaa.G
open Go.RowKit Go.Proofs.YtckaejgamfllfaaW.PrintWords Go.Proofs.YtckaejgamfllfaaW.PrintLast Go.Proofs.YtckaejgamfllfaaW.PrintMore
attribute [local go_sem] max2_int min2_int max_two min_two max_three min_three max_four min_four
set_option linter.unusedVariables false
set_option linter.unusedSimpArgs false
def boundstoneref02_twice.f (a0_0 : Int) (a0_1 : Int) (a1_0 : Int) (a1_1 : Int) (a2_0 : Int) (a2_1 : Int) : Option (Int) := some (wrap64 ((wrap64 ((wrap64 (a1_0 - a0_0)) * (wrap64 (a2_1 - a0_1)))) - (wrap64 ((wrap64 (a1_1 - a0_1)) * (wrap64 (a2_0 - a0_0))))))
set_option maxHeartbeats 8000000 in
set_option maxRecDepth 100000 in
theorem boundstoneref02_twice.calls (a0_0 : Int) (a0_1 : Int) (a1_0 : Int) (a1_1 : Int) (a2_0 : Int) (a2_1 : Int) (r : Int) (w : World) (h : boundstoneref02_twice.f a0_0 a0_1 a1_0 a1_1 a2_0 a2_1 = some r) :
  Calls Try.prog 83 #[.agg #[.int .i64 a0_0, .int .i64 a0_1], .agg #[.int .i64 a1_0, .int .i64 a1_1], .agg #[.int .i64 a2_0, .int .i64 a2_1]] w fun e w' => e = .returned (.int .i64 r) ∧ Below w.heap.size w w' := by
 have hu23 := Try.underlying23
 have HB := Aside0.mk (Below.refl w.heap.size w)
 have H : (some (wrap64 ((wrap64 ((wrap64 (a1_0 - a0_0)) * (wrap64 (a2_1 - a0_1)))) - (wrap64 ((wrap64 (a1_1 - a0_1)) * (wrap64 (a2_0 - a0_0))))))) = some r := h
 clear h
 obtain rfl := Option.some.inj H
 go_enter Try.func83, Try.ntmps83
 go_wp2_with (first | ((with_reducible refine gate_dst (N := 3) rfl ?_); refine box_event ?hg (N := 3) ?hd (cs := #[.int .i64 a0_0, .int .i64 a0_1]) (t := 23) ?hr ?_; (case hd => rfl); (case hg => rfl); (case hr => first | (go_simp; done) | (go_simp; rfl)); intro gb296 hg w4 hbox hb; have BK296 := Aside0.mk (hbox); have GW296 := geBA HB hg; have GE296 := geBA HB hg; replace HB := Aside0.mk (below_step (hk HB) hb); clear hb hbox hg) | ((with_reducible refine gate_dst (N := 4) rfl ?_); refine box_event ?hg (N := 4) ?hd (cs := #[.int .i64 a1_0, .int .i64 a1_1]) (t := 23) ?hr ?_; (case hd => rfl); (case hg => rfl); (case hr => first | (go_simp; done) | (go_simp; rfl)); intro gb297 hg w5 hbox hb; have BK297 := Aside0.mk (hbox); have GW297 := Aside0.mk ((by rw [hg]; exact (below_size (by repeat (first | (with_reducible first | exact HB.out | apply below_alloc | apply pw_below_drewN | apply below_drew1 | refine below_set ?_ GE296.out) | exact HB.out))) : w.heap.size ≤ gb297)); have GE297 := Aside0.mk ((by rw [hg]; exact (below_size (by repeat (first | (with_reducible first | exact HB.out | apply below_alloc | apply pw_below_drewN | apply below_drew1 | refine below_set ?_ GE296.out) | exact HB.out))) : w.heap.size ≤ gb297)); have NB296_297 := neLA BK296 hg; have NB297_296 := neGA BK296 hg; replace BK296 := bkC BK296 hb; replace HB := Aside0.mk (below_step (by repeat (first | (with_reducible first | exact HB.out | apply below_alloc | apply pw_below_drewN | apply below_drew1 | refine below_set ?_ GE296.out) | exact HB.out)) hb); clear hb hbox hg) | ((with_reducible refine gate_dst (N := 5) rfl ?_); refine box_event ?hg (N := 5) ?hd (cs := #[.int .i64 a2_0, .int .i64 a2_1]) (t := 23) ?hr ?_; (case hd => rfl); (case hg => rfl); (case hr => first | (go_simp; done) | (go_simp; rfl)); intro gb298 hg w6 hbox hb; have BK298 := Aside0.mk (hbox); have GW298 := Aside0.mk ((by rw [hg]; exact (below_size (by repeat (first | (with_reducible first | exact HB.out | apply below_alloc | apply pw_below_drewN | apply below_drew1 | refine below_set ?_ GE296.out | refine below_set ?_ GE297.out) | exact HB.out))) : w.heap.size ≤ gb298)); have GE298 := Aside0.mk ((by rw [hg]; exact (below_size (by repeat (first | (with_reducible first | exact HB.out | apply below_alloc | apply pw_below_drewN | apply below_drew1 | refine below_set ?_ GE296.out | refine below_set ?_ GE297.out) | exact HB.out))) : w.heap.size ≤ gb298)); have NB296_298 := neLA BK296 hg; have NB298_296 := neGA BK296 hg; have NB297_298 := neLA BK297 hg; have NB298_297 := neGA BK297 hg; replace BK296 := bkC BK296 hb; replace BK297 := bkC BK297 hb; replace HB := Aside0.mk (below_step (by repeat (first | (with_reducible first | exact HB.out | apply below_alloc | apply pw_below_drewN | apply below_drew1 | refine below_set ?_ GE296.out | refine below_set ?_ GE297.out) | exact HB.out)) hb); clear hb hbox hg; have hnb7 := NB297_296.out; have hnc7 := NB296_297.out; have hnb8 := NB297_298.out; have hnc8 := NB298_297.out; have hcz9_0 : w6.cell? ⟨gb297, 0, none⟩ = some (.int .i64 a1_0) := (blk_cell BK297.out 0).trans rfl; have hcz9_1 : w6.cell? ⟨gb297, 1, none⟩ = some (.int .i64 a1_1) := (blk_cell BK297.out 1).trans rfl; have hfz9_0 := blk_frozen BK297.out 0; have hfz9_1 := blk_frozen BK297.out 1; have hnb10 := NB296_298.out; have hnc10 := NB298_296.out; have hcz11_0 : w6.cell? ⟨gb296, 0, none⟩ = some (.int .i64 a0_0) := (blk_cell BK296.out 0).trans rfl; have hcz11_1 : w6.cell? ⟨gb296, 1, none⟩ = some (.int .i64 a0_1) := (blk_cell BK296.out 1).trans rfl; have hfz11_0 := blk_frozen BK296.out 0; have hfz11_1 := blk_frozen BK296.out 1; have hcz12_0 : w6.cell? ⟨gb298, 0, none⟩ = some (.int .i64 a2_0) := (blk_cell BK298.out 0).trans rfl; have hcz12_1 : w6.cell? ⟨gb298, 1, none⟩ = some (.int .i64 a2_1) := (blk_cell BK298.out 1).trans rfl; have hfz12_0 := blk_frozen BK298.out 0; have hfz12_1 := blk_frozen BK298.out 1))
 go_ret
 exact ⟨by first | rfl | (simp [errW_none, errW_some] <;> rfl) | (simp [*, errW_none, errW_some] <;> rfl), by repeat (first | (with_reducible first | exact HB.out | apply below_alloc | apply pw_below_drewN | apply below_drew1 | refine below_set ?_ GE296.out | refine below_set ?_ GE297.out | refine below_set ?_ GE298.out) | exact HB.out)⟩
end Go.Proofs.Ytckaejgamfllfaa.G
end

section
namespace Go.Proofs.Ytckaejgamfllfaa.G
open Go.RowKit Go.Proofs.YtckaejgamfllfaaW.PrintWords Go.Proofs.YtckaejgamfllfaaW.PrintLast Go.Proofs.YtckaejgamfllfaaW.PrintMore
attribute [local go_sem] max2_int min2_int max_two min_two max_three min_three max_four min_four
set_option linter.unusedVariables false
set_option linter.unusedSimpArgs false
end Go.Proofs.Ytckaejgamfllfaa.G
end

section
namespace Go.Proofs.Ytckaejgamfllfaa.G
open Go.RowKit Go.Proofs.YtckaejgamfllfaaW.PrintWords Go.Proofs.YtckaejgamfllfaaW.PrintLast Go.Proofs.YtckaejgamfllfaaW.PrintMore
attribute [local go_sem] max2_int min2_int max_two min_two max_three min_three max_four min_four
set_option linter.unusedVariables false
set_option linter.unusedSimpArgs false
end Go.Proofs.Ytckaejgamfllfaa.G
end

section
namespace Go.Proofs.Ytckaejgamfllfaa.G
open Go.RowKit Go.Proofs.YtckaejgamfllfaaW.PrintWords Go.Proofs.YtckaejgamfllfaaW.PrintLast Go.Proofs.YtckaejgamfllfaaW.PrintMore
attribute [local go_sem] max2_int min2_int max_two min_two max_three min_three max_four min_four
set_option linter.unusedVariables false
set_option linter.unusedSimpArgs false
end Go.Proofs.Ytckaejgamfllfaa.G
end

section
namespace Go.Proofs.Ytckaejgamfllfaa.G
open Go.RowKit Go.Proofs.YtckaejgamfllfaaW.PrintWords Go.Proofs.YtckaejgamfllfaaW.PrintLast Go.Proofs.YtckaejgamfllfaaW.PrintMore
attribute [local go_sem] max2_int min2_int max_two min_two max_three min_three max_four min_four
set_option linter.unusedVariables false
set_option linter.unusedSimpArgs false
end Go.Proofs.Ytckaejgamfllfaa.G
end

section
namespace Go.Proofs.Ytckaejgamfllfaa.G
open Go.RowKit Go.Proofs.YtckaejgamfllfaaW.PrintWords Go.Proofs.YtckaejgamfllfaaW.PrintLast Go.Proofs.YtckaejgamfllfaaW.PrintMore
attribute [local go_sem] max2_int min2_int max_two min_two
set_option linter.unusedVariables false
set_option linter.unusedSimpArgs false
end Go.Proofs.Ytckaejgamfllfaa.G
end

section
namespace Go.Proofs.Ytckaejgamfllfaa.G
open Go.RowKit Go.Proofs.YtckaejgamfllfaaW.PrintWords Go.Proofs.YtckaejgamfllfaaW.PrintLast Go.Proofs.YtckaejgamfllfaaW.PrintMore
attribute [local go_sem] max2_int min2_int max_two min_two max_three min_three max_four min_four
set_option linter.unusedVariables false
set_option linter.unusedSimpArgs false
attribute [local go_sem high] eqA23
end Go.Proofs.Ytckaejgamfllfaa.G
end

section
namespace Go.Proofs.Ytckaejgamfllfaa.G
open Go.RowKit Go.Proofs.YtckaejgamfllfaaW.PrintWords Go.Proofs.YtckaejgamfllfaaW.PrintLast Go.Proofs.YtckaejgamfllfaaW.PrintMore
attribute [local go_sem] max2_int min2_int max_two min_two max_three min_three max_four min_four
set_option linter.unusedVariables false
set_option linter.unusedSimpArgs false
end Go.Proofs.Ytckaejgamfllfaa.G
end

section
namespace Go.Proofs.Ytckaejgamfllfaa.G
open Go.RowKit Go.Proofs.YtckaejgamfllfaaW.PrintWords Go.Proofs.YtckaejgamfllfaaW.PrintLast Go.Proofs.YtckaejgamfllfaaW.PrintMore
attribute [local go_sem] max2_int min2_int max_two min_two max_three min_three max_four min_four
set_option linter.unusedVariables false
set_option linter.unusedSimpArgs false
end Go.Proofs.Ytckaejgamfllfaa.G
end

section
namespace Go.Proofs.Ytckaejgamfllfaa.G
open Go.RowKit Go.Proofs.YtckaejgamfllfaaW.PrintWords Go.Proofs.YtckaejgamfllfaaW.PrintLast Go.Proofs.YtckaejgamfllfaaW.PrintMore
attribute [local go_sem] max2_int min2_int max_two min_two max_three min_three max_four min_four
set_option linter.unusedVariables false
set_option linter.unusedSimpArgs false
attribute [local go_sem high] eqA23
def api_Point_134.l0 : Nat → List (S23) → Int → Int → Int → Int → Option (Int)
 | 0, _, _, _, _, _ => none
 | k + 1, x0, x7, x8, x141000, x141001 => if x8 < x7 then (if 0 ≤ x8 then (if x8 < (x0.length : Int) then (if (x141000 == ((rd_T23 x0 x8).f0) && (x141001 == ((rd_T23 x0 x8).f1))) = true then (some x8) else (api_Point_134.l0 k x0 x7 (wrap64 (x8 + 1)) x141000 x141001)) else (none)) else (none)) else (some (-1))
def api_Point_134.f (k : Nat) (l0 : List (S23)) (a1_0 : Int) (a1_1 : Int) : Option (Int) := api_Point_134.l0 k l0 (l0.length : Int) 0 a1_0 a1_1
set_option maxHeartbeats 8000000 in
set_option maxRecDepth 100000 in
theorem api_Point_134.calls (k : Nat) (A0 : Option Addr) (c0 : Nat) (l0 : List (S23)) (a1_0 : Int) (a1_1 : Int) (r : Int) (w : World) (hr0 : Kd.C k23 w A0 l0.length l0) (hc0 : l0.length ≤ c0) (h : api_Point_134.f k l0 a1_0 a1_1 = some r) :
  Calls Try.prog 134 #[.slice A0 l0.length c0, .agg #[.int .i64 a1_0, .int .i64 a1_1]] w fun e w' => e = .returned (.int .i64 r) ∧ Below w.heap.size w w' := by
 have hu23 := Try.underlying23
 have HR0 := Aside0.mk hr0
 have HC0 := Aside0.mk hc0
 clear hr0 hc0
 have HB := Aside0.mk (Below.refl w.heap.size w)
 have H : (api_Point_134.l0 k l0 (l0.length : Int) 0 a1_0 a1_1) = some r := h
 clear h
 have H' := Aside0.mk H
 clear H
 go_enter Try.func134, Try.ntmps134
 go_wp2_with (first | ((with_reducible refine gate_dst (N := 3) rfl ?_); refine box_event ?hg (N := 3) ?hd (cs := #[.int .i64 a1_0, .int .i64 a1_1]) (t := 23) ?hr ?_; (case hd => rfl); (case hg => rfl); (case hr => first | (go_simp; done) | (go_simp; rfl)); intro gb140 hg w3 hbox hb; have BK140 := Aside0.mk (hbox); have GW140 := geBA HB hg; have GE140 := geBA HB hg; replace HB := Aside0.mk (below_step (hk HB) hb); clear hb hbox hg))
 repeat (go_quiet (first | ((with_reducible refine gate_dst (N := 3) rfl ?_); refine box_event ?hg (N := 3) ?hd (cs := #[.int .i64 a1_0, .int .i64 a1_1]) (t := 23) ?hr ?_; (case hd => rfl); (case hg => rfl); (case hr => first | (go_simp; done) | (go_simp; rfl)); intro gb140 hg w3 hbox hb; have BK140 := Aside0.mk (hbox); have GW140 := geBA HB hg; have GE140 := geBA HB hg; replace HB := Aside0.mk (below_step (hk HB) hb); clear hb hbox hg)); try go_wp2_with (first | ((with_reducible refine gate_dst (N := 3) rfl ?_); refine box_event ?hg (N := 3) ?hd (cs := #[.int .i64 a1_0, .int .i64 a1_1]) (t := 23) ?hr ?_; (case hd => rfl); (case hg => rfl); (case hr => first | (go_simp; done) | (go_simp; rfl)); intro gb140 hg w3 hbox hb; have BK140 := Aside0.mk (hbox); have GW140 := geBA HB hg; have GE140 := geBA HB hg; replace HB := Aside0.mk (below_step (hk HB) hb); clear hb hbox hg)))
 go_loopg [8] k (fun kq v8 w' => ∃ (x8_1 : Int), v8 = .int .i64 x8_1 ∧ Aside0 (api_Point_134.l0 kq l0 (l0.length : Int) x8_1 a1_0 a1_1 = some r) ∧ Aside0 (kq ≤ k) ∧ Aside0 (w'.heap[gb140]? = some (.cells #[.int .i64 a1_0, .int .i64 a1_1] 23 (0, 0))) ∧ Aside0 (Below w.heap.size w w'))
 case atStart => exact ⟨(0), (by first | rfl | (simp; done) | (simp [*]; done)), H', ⟨Nat.le_refl _⟩, ⟨bk BK140⟩, ⟨by repeat (first | (with_reducible first | exact HB.out | apply below_alloc | apply pw_below_drewN | apply below_drew1 | refine below_set ?_ GE140.out) | exact HB.out)⟩⟩
 case round =>
  clear H'
  try clear c1
  try clear p2
  obtain ⟨x8_1, rfl, HA, HK1, BK140, HB⟩ := hrel
  cases gk with
  | zero => exact absurd HA.out (by simp [api_Point_134.l0])
  | succ k1 =>
   have H := HA.out
   clear HA
   simp only [api_Point_134.l0] at H
   by_cases c4 : x8_1 < (l0.length : Int)
   ·rw [if_pos c4] at H
    have c4b0 : decide (x8_1 < (l0.length : Int)) = true := decide_eq_true c4
    clear c4
    by_cases c5 : 0 ≤ x8_1
    ·rw [if_pos c5] at H
     have c5b0 : decide (0 ≤ x8_1) = true := decide_eq_true c5
     clear c5
     by_cases c6 : x8_1 < (l0.length : Int)
     ·rw [if_pos c6] at H
      have c6b0 : decide (x8_1 < (l0.length : Int)) = true := decide_eq_true c6
      clear c6
      by_cases c7 : (a1_0 == ((rd_T23 l0 x8_1).f0) && (a1_1 == ((rd_T23 l0 x8_1).f1))) = true
      ·rw [if_pos c7] at H
       have c7b0 : (a1_0 == ((rd_T23 l0 x8_1).f0) && (a1_1 == ((rd_T23 l0 x8_1).f1))) = true := c7
       (try (have c7b1 : decide (a1_0 = ((rd_T23 l0 x8_1).f0) && (a1_1 == ((rd_T23 l0 x8_1).f1))) = true := by simpa using c7))
       (try (have c7b2 : (a1_0 == ((rd_T23 l0 x8_1).f0) && (a1_1 == ((rd_T23 l0 x8_1).f1))) = true := by simpa using c7))
       clear c7
       obtain rfl := Option.some.inj H
       have hcz8_0 : wr.cell? ⟨gb140, 0, none⟩ = some (.int .i64 a1_0) := (blk_cell BK140.out 0).trans rfl
       have hcz8_1 : wr.cell? ⟨gb140, 1, none⟩ = some (.int .i64 a1_1) := (blk_cell BK140.out 1).trans rfl
       have hfz8_0 := blk_frozen BK140.out 0
       have hfz8_1 := blk_frozen BK140.out 1
       have p141 : 0 ≤ (x8_1 : Int) := of_decide_eq_true (by first | (with_reducible assumption) | assumption)
       have q141 : x8_1 < (l0.length : Int) := of_decide_eq_true (by first | (with_reducible assumption) | assumption)
       obtain ⟨ad141, e141, hx141_0, hx141_1⟩ := at_T23 HR0.out x8_1 p141 q141
       cases e141
       replace hx141_0 := (HB.out.cell (World.block_lt_of_cell? w _ hx141_0)).trans hx141_0
       replace hx141_1 := (HB.out.cell (World.block_lt_of_cell? w _ hx141_1)).trans hx141_1
       replace p141 := eq_true p141
       replace q141 := eq_true q141
       go_wp2
       repeat (go_quiet (fail); try go_wp2)
       go_ret
       exact ⟨by first | rfl | (simp [errW_none, errW_some] <;> rfl) | (simp [*, errW_none, errW_some] <;> rfl), by repeat (first | (with_reducible first | exact HB.out | apply below_alloc | apply pw_below_drewN | apply below_drew1 | refine below_set ?_ GE140.out) | exact HB.out)⟩
      ·rw [if_neg c7] at H
       have c7b0 : (a1_0 == ((rd_T23 l0 x8_1).f0) && (a1_1 == ((rd_T23 l0 x8_1).f1))) = false := by simpa using c7
       (try (have c7b1 : decide (a1_0 = ((rd_T23 l0 x8_1).f0) && (a1_1 == ((rd_T23 l0 x8_1).f1))) = false := by simpa using c7))
       (try (have c7b2 : (a1_0 == ((rd_T23 l0 x8_1).f0) && (a1_1 == ((rd_T23 l0 x8_1).f1))) = false := by simpa using c7))
       (try (have c7b3 : ¬ (a1_0 = ((rd_T23 l0 x8_1).f0) && (a1_1 == ((rd_T23 l0 x8_1).f1))) := by simpa using c7))
       clear c7
       have H' := Aside0.mk H
       clear H
       have hcz9_0 : wr.cell? ⟨gb140, 0, none⟩ = some (.int .i64 a1_0) := (blk_cell BK140.out 0).trans rfl
       have hcz9_1 : wr.cell? ⟨gb140, 1, none⟩ = some (.int .i64 a1_1) := (blk_cell BK140.out 1).trans rfl
       have hfz9_0 := blk_frozen BK140.out 0
       have hfz9_1 := blk_frozen BK140.out 1
       have p141 : 0 ≤ (x8_1 : Int) := of_decide_eq_true (by first | (with_reducible assumption) | assumption)
       have q141 : x8_1 < (l0.length : Int) := of_decide_eq_true (by first | (with_reducible assumption) | assumption)
       obtain ⟨ad141, e141, hx141_0, hx141_1⟩ := at_T23 HR0.out x8_1 p141 q141
       cases e141
       replace hx141_0 := (HB.out.cell (World.block_lt_of_cell? w _ hx141_0)).trans hx141_0
       replace hx141_1 := (HB.out.cell (World.block_lt_of_cell? w _ hx141_1)).trans hx141_1
       replace p141 := eq_true p141
       replace q141 := eq_true q141
       go_wp2
       repeat (go_quiet (fail); try go_wp2)
       go_roundg k1
       case measure => have := HK1.out; omega
       case rel => exact ⟨(wrap64 (x8_1 + 1)), (by first | rfl | (simp; done) | (simp [*]; done)), H', ⟨by have := HK1.out; omega⟩, ⟨bk BK140⟩, ⟨by repeat (first | (with_reducible first | exact HB.out | apply below_alloc | apply pw_below_drewN | apply below_drew1 | refine below_set ?_ GE140.out) | exact HB.out)⟩⟩
     ·rw [if_neg c6] at H
      exact absurd H (by simp)
    ·rw [if_neg c5] at H
     exact absurd H (by simp)
   ·rw [if_neg c4] at H
    have c4b0 : decide (x8_1 < (l0.length : Int)) = false := decide_eq_false c4
    clear c4
    obtain rfl := Option.some.inj H
    go_wp2
    repeat (go_quiet (fail); try go_wp2)
    go_ret
    exact ⟨by first | rfl | (simp [errW_none, errW_some] <;> rfl) | (simp [*, errW_none, errW_some] <;> rfl), by repeat (first | (with_reducible first | exact HB.out | apply below_alloc | apply pw_below_drewN | apply below_drew1 | refine below_set ?_ GE140.out) | exact HB.out)⟩
end Go.Proofs.Ytckaejgamfllfaa.G
end

section
namespace Go.Proofs.Ytckaejgamfllfaa.G
open Go.RowKit Go.Proofs.YtckaejgamfllfaaW.PrintWords Go.Proofs.YtckaejgamfllfaaW.PrintLast Go.Proofs.YtckaejgamfllfaaW.PrintMore
attribute [local go_sem] max2_int min2_int max_two min_two max_three min_three max_four min_four
set_option linter.unusedVariables false
set_option linter.unusedSimpArgs false
def api_Point_110.f (k : Nat) (l0 : List (S23)) (a1_0 : Int) (a1_1 : Int) : Option (Bool) := (api_Point_134.f k l0 a1_0 a1_1).bind fun t143 => (some (decide (t143 ≥ 0)))
set_option maxHeartbeats 8000000 in
set_option maxRecDepth 100000 in
theorem api_Point_110.calls (k : Nat) (A0 : Option Addr) (c0 : Nat) (l0 : List (S23)) (a1_0 : Int) (a1_1 : Int) (r : Bool) (w : World) (hr0 : Kd.C k23 w A0 l0.length l0) (hc0 : l0.length ≤ c0) (h : api_Point_110.f k l0 a1_0 a1_1 = some r) :
  Calls Try.prog 110 #[.slice A0 l0.length c0, .agg #[.int .i64 a1_0, .int .i64 a1_1]] w fun e w' => e = .returned (.bool r) ∧ Below w.heap.size w w' := by
 have hu23 := Try.underlying23
 have HR0 := Aside0.mk hr0
 have HC0 := Aside0.mk hc0
 clear hr0 hc0
 have HB := Aside0.mk (Below.refl w.heap.size w)
 have H : ((api_Point_134.f k l0 a1_0 a1_1).bind fun t143 => (some (decide (t143 ≥ 0)))) = some r := h
 clear h
 replace H := Option.bind_eq_some_iff.mp H
 obtain ⟨t143, A30, H⟩ := H
 replace H : (some (decide (t143 ≥ 0))) = some r := H
 have A3 := Aside0.mk A30
 clear A30
 obtain rfl := Option.some.inj H
 go_enter Try.func110, Try.ntmps110
 go_wp2_with (first | ((with_reducible refine gate_dst (N := 3) rfl ?_); refine box_event ?hg (N := 3) ?hd (cs := #[.int .i64 a1_0, .int .i64 a1_1]) (t := 23) ?hr ?_; (case hd => rfl); (case hg => rfl); (case hr => first | (go_simp; done) | (go_simp; rfl)); intro gb142 hg w4 hbox hb; have BK142 := Aside0.mk (hbox); have GW142 := geBA HB hg; have GE142 := geBA HB hg; replace HB := Aside0.mk (below_step (hk HB) hb); clear hb hbox hg; have hcz5_0 : w4.cell? ⟨gb142, 0, none⟩ = some (.int .i64 a1_0) := (blk_cell BK142.out 0).trans rfl; have hcz5_1 : w4.cell? ⟨gb142, 1, none⟩ = some (.int .i64 a1_1) := (blk_cell BK142.out 1).trans rfl; have hfz5_0 := blk_frozen BK142.out 0; have hfz5_1 := blk_frozen BK142.out 1) | ((with_reducible refine gate_callee (f := 134) rfl ?_); refine goesL_ (some 7) rfl rfl Try.func134 (by kernel_rfl) rfl #[.slice A0 l0.length c0, .agg #[.int .i64 a1_0, .int .i64 a1_1]] rfl (by (try simp only [List.map_toArray, List.map_cons, List.map_nil]); first | done | rfl | (simp only [List.length_drop, List.length_take]; rfl)) ?_; (with_reducible refine (api_Point_134.calls k _ _ l0 a1_0 a1_1 t143 _ ?side1 ?side2 A3.out).mono ?_); (case side1 => repeat (first | exact (Kd.C_below HR0.out HB.out) | (with_reducible refine Kd.C_alloc ?_ _) | (with_reducible refine Kd.C_drewN ?_ _) | (with_reducible refine Kd.C_drew ?_))); (case side2 => exact HC0.out); rintro e w6 ⟨rfl, hb⟩; refine ⟨_, rfl, ?_⟩; replace BK142 := bkC BK142 hb; replace HB := Aside0.mk (below_step (by repeat (first | (with_reducible first | exact HB.out | apply below_alloc | apply pw_below_drewN | apply below_drew1 | refine below_set ?_ GE142.out) | exact HB.out)) hb); (try clear hb); (try clear hb2); (try clear hk); (try clear hi)))
 go_ret
 exact ⟨by first | rfl | (simp [errW_none, errW_some] <;> rfl) | (simp [*, errW_none, errW_some] <;> rfl), by repeat (first | (with_reducible first | exact HB.out | apply below_alloc | apply pw_below_drewN | apply below_drew1 | refine below_set ?_ GE142.out) | exact HB.out)⟩
end Go.Proofs.Ytckaejgamfllfaa.G
end

section
namespace Go.Proofs.Ytckaejgamfllfaa.G
open Go.RowKit Go.Proofs.YtckaejgamfllfaaW.PrintWords Go.Proofs.YtckaejgamfllfaaW.PrintLast Go.Proofs.YtckaejgamfllfaaW.PrintMore
attribute [local go_sem] max2_int min2_int max_two min_two max_three min_three max_four min_four
set_option linter.unusedVariables false
set_option linter.unusedSimpArgs false
end Go.Proofs.Ytckaejgamfllfaa.G
end

section
namespace Go.Proofs.Ytckaejgamfllfaa.G
open Go.RowKit Go.Proofs.YtckaejgamfllfaaW.PrintWords Go.Proofs.YtckaejgamfllfaaW.PrintLast Go.Proofs.YtckaejgamfllfaaW.PrintMore
attribute [local go_sem] max2_int min2_int max_two min_two max_three min_three max_four min_four
set_option linter.unusedVariables false
set_option linter.unusedSimpArgs false
def plane_Meeting.T3 : Bool × List (List Nat × List Nat) := (true, [([], []), ([0], [0]), ([], []), ([2], [2]), ([], []), ([4], [4]), ([1, 3, 5], [1, 3, 5]), ([6, 6], [6]), ([], []), ([8], [8]), ([], []), ([10], [10]), ([], []), ([12], [12]), ([9, 11, 13, 7], [9, 11, 13]), ([14, 14], [14]), ([7, 15, 0, 1, 2, 3, 4, 5, 6, 7], [7]), ([15, 16, 0, 1, 2, 3, 4, 5, 6, 7, 8, 9, 10, 11, 12, 13, 14, 15, 16], [15])])
def plane_Meeting.B3 : List Nat := [0, 1, 0, 4, 0, 16, 63, 127, 0, 256, 0, 1024, 0, 4096, 16383, 32767, 65535, 131071]
theorem plane_Meeting.tab3 : rtab .any (opsOf Try.f28 3) = plane_Meeting.T3 := by kernel_rfl
theorem plane_Meeting.bits3 : waitsOk plane_Meeting.T3.2 plane_Meeting.B3 = true := by kernel_rfl
end Go.Proofs.Ytckaejgamfllfaa.G
end

section
namespace Go.Proofs.Ytckaejgamfllfaa.G
open Go.RowKit Go.Proofs.YtckaejgamfllfaaW.PrintWords Go.Proofs.YtckaejgamfllfaaW.PrintLast Go.Proofs.YtckaejgamfllfaaW.PrintMore
def twW (a b c : S23) : Int := wrap64 ((wrap64 ((wrap64 (b.f0 - a.f0)) * (wrap64 (c.f1 - a.f1)))) - (wrap64 ((wrap64 (b.f1 - a.f1)) * (wrap64 (c.f0 - a.f0)))))
end Go.Proofs.Ytckaejgamfllfaa.G
end

section
namespace Go.Proofs.Ytckaejgamfllfaa.G
open Go.RowKit Go.Proofs.YtckaejgamfllfaaW.PrintWords Go.Proofs.YtckaejgamfllfaaW.PrintLast Go.Proofs.YtckaejgamfllfaaW.PrintMore
def eqP (a b : S23) : Bool := a.f0 == b.f0 && (a.f1 == b.f1)
theorem wrap_small {x : Int} (h0 : -9223372036854775808 ≤ x) (h1 : x ≤ 9223372036854775807) : wrap64 x = x := by unfold wrap64; omega
theorem rd_at (pre rest : List S23) (x : S23) : rd_T23 (pre ++ x :: rest) (pre.length : Int) = x := by
  unfold rd_T23; simp
theorem index_eq (p : S23) (l : List S23) (hl : l.length ≤ 1000) : ∀ (rest pre : List S23) (k : Nat), l = pre ++ rest → rest.length < k →
    ∃ j, api_Point_134.l0 k l (l.length : Int) (pre.length : Int) p.f0 p.f1 = some j ∧ decide (j ≥ 0) = rest.any (eqP p) := by
  intro rest
  induction rest with
  | nil =>
    intro pre k h hk
    obtain ⟨k, rfl⟩ : ∃ m, k = m + 1 := ⟨k - 1, by simp at hk; omega⟩
    refine ⟨-1, ?_, by simp⟩
    simp only [api_Point_134.l0]
    rw [if_neg (by rw [h]; simp)]
  | cons x rest ih =>
    intro pre k h hk
    obtain ⟨k, rfl⟩ : ∃ m, k = m + 1 := ⟨k - 1, by simp at hk; omega⟩
    have hlt : (pre.length : Int) < (l.length : Int) := by rw [h]; simp; omega
    have hx : rd_T23 l (pre.length : Int) = x := by rw [h]; exact rd_at _ _ _
    simp only [api_Point_134.l0]
    rw [if_pos hlt, if_pos (by omega), if_pos hlt, hx, show (p.f0 == x.f0 && (p.f1 == x.f1)) = eqP p x from rfl]
    by_cases e : eqP p x = true
    · rw [if_pos e]
      exact ⟨_, rfl, by simp [e]⟩
    · rw [if_neg e]
      obtain ⟨j, h1, h2⟩ := ih (pre ++ [x]) k (by simp [h]) (by simp at hk; omega)
      refine ⟨j, ?_, by rw [h2]; simp [e]⟩
      rw [wrap_small (by omega) (by omega)]
      simpa using h1
theorem contains_eq (p : S23) (l : List S23) (hl : l.length ≤ 1000) (k : Nat) (hk : l.length < k) : api_Point_110.f k l p.f0 p.f1 = some (l.any (eqP p)) := by
  obtain ⟨j, h1, h2⟩ := index_eq p l hl l [] k rfl hk
  unfold api_Point_110.f api_Point_134.f
  rw [show (0 : Int) = (([] : List S23).length : Int) from rfl, h1]
  simpa using h2
end Go.Proofs.Ytckaejgamfllfaa.G
end

section
namespace Go.Proofs.Ytckaejgamfllfaa.G
open Go.RowKit Go.Proofs.YtckaejgamfllfaaW.PrintWords Go.Proofs.YtckaejgamfllfaaW.PrintLast Go.Proofs.YtckaejgamfllfaaW.PrintMore
def dsW (a b : S23) : Int := wrap64 ((wrap64 ((wrap64 (a.f0 - b.f0)) * (wrap64 (a.f0 - b.f0)))) + (wrap64 ((wrap64 (a.f1 - b.f1)) * (wrap64 (a.f1 - b.f1)))))
theorem ref_Valid_eq (a b : Int) : boundstoneref02_Valid.f a b = some (validP ⟨a, b⟩) := by
  unfold boundstoneref02_Valid.f boundstoneref02_within.f validP
  by_cases h1 : -1048576 ≤ a <;> by_cases h2 : a ≤ 1048576 <;> by_cases h3 : -1048576 ≤ b <;> by_cases h4 : b ≤ 1048576 <;> simp [h1, h2, h3, h4]
end Go.Proofs.Ytckaejgamfllfaa.G
end

section
namespace Go.Proofs.Ytckaejgamfllfaa.G
open Go.ChangeShapes Go.WideShapes Go.ChangeAt Go.RowKit Go.Deep Go.Proofs.YtckaejgamfllfaaW.PrintWords
variable {H : Type} {enc : TypeId × Value → H} {w : World} {base : Nat} {spare : Nat → Bool} {held : Bool}
def I64 (x : Int) : Prop := -9223372036854775808 ≤ x ∧ x ≤ 9223372036854775807
theorem I64.of_wf {x : Int} (h : (Lit.int .i64 x).wf = true) : I64 x := by
  have e1 : IntKind.i64.min = -9223372036854775808 := by decide
  have e2 : IntKind.i64.max = 9223372036854775807 := by decide
  simp only [Lit.wf, Bool.and_eq_true, decide_eq_true_eq, e1, e2] at h
  exact h
theorem list2 {α : Type} {l : List α} (h : l.length = 2) : ∃ a b, l = [a, b] := by
  match l, h with
  | [a, b], _ => exact ⟨a, b, rfl⟩
theorem list4 {α : Type} {l : List α} (h : l.length = 4) : ∃ a b c d, l = [a, b, c, d] := by
  match l, h with
  | [a, b, c, d], _ => exact ⟨a, b, c, d, rfl⟩
theorem cells3 : Try.prog.cellsOf 3 = 1 := by kernel_rfl
theorem arr_of_list {cs : Array Value} {l : List Value} (e : (Value.agg cs).cells.toList = l) : cs = l.toArray := by
  have e' : cs.toList = l := e
  rw [← e']
end Go.Proofs.Ytckaejgamfllfaa.G
end

section
namespace Go.Proofs.Ytckaejgamfllfaa.G
open Go.RowKit Go.Proofs.YtckaejgamfllfaaW.PrintWords Go.Proofs.YtckaejgamfllfaaW.PrintLast Go.Proofs.YtckaejgamfllfaaW.PrintMore
theorem mul_bd {p q M : Int} (h1 : -M ≤ p) (h2 : p ≤ M) (h3 : -M ≤ q) (h4 : q ≤ M) : -(M * M) ≤ p * q ∧ p * q ≤ M * M := by
  have e : (p * q).natAbs ≤ M.natAbs * M.natAbs := by
    rw [Int.natAbs_mul]
    exact Nat.mul_le_mul (by omega) (by omega)
  have f : ((M.natAbs * M.natAbs : Nat) : Int) = M * M := by
    have : (M.natAbs : Int) = M := by omega
    rw [Int.natCast_mul, this]
  omega
theorem validP_iff (a : S23) : validP a = true ↔ -1048576 ≤ a.f0 ∧ a.f0 ≤ 1048576 ∧ -1048576 ≤ a.f1 ∧ a.f1 ≤ 1048576 := by
  unfold validP; simp only [Bool.and_eq_true, decide_eq_true_eq, and_assoc]
def twZ (a b c : S23) : Int := (b.f0 - a.f0) * (c.f1 - a.f1) - (b.f1 - a.f1) * (c.f0 - a.f0)
def dsZ (a b : S23) : Int := (a.f0 - b.f0) * (a.f0 - b.f0) + (a.f1 - b.f1) * (a.f1 - b.f1)
theorem twW_eq {a b c : S23} (ha : validP a = true) (hb : validP b = true) (hc : validP c = true) : twW a b c = twZ a b c := by
  rw [validP_iff] at ha hb hc
  have h1 := @mul_bd (b.f0 - a.f0) (c.f1 - a.f1) 2097152 (by omega) (by omega) (by omega) (by omega)
  have h2 := @mul_bd (b.f1 - a.f1) (c.f0 - a.f0) 2097152 (by omega) (by omega) (by omega) (by omega)
  unfold twW twZ
  rw [wrap_small (x := b.f0 - a.f0) (by omega) (by omega), wrap_small (x := c.f1 - a.f1) (by omega) (by omega), wrap_small (x := b.f1 - a.f1) (by omega) (by omega), wrap_small (x := c.f0 - a.f0) (by omega) (by omega)]
  rw [wrap_small (x := (b.f0 - a.f0) * (c.f1 - a.f1)) (by omega) (by omega), wrap_small (x := (b.f1 - a.f1) * (c.f0 - a.f0)) (by omega) (by omega), wrap_small (by omega) (by omega)]
theorem sq_nn (x : Int) : 0 ≤ x * x := by
  rcases Int.le_total 0 x with h | h
  · exact Int.mul_nonneg h h
  · exact Int.mul_nonneg_of_nonpos_of_nonpos h h
theorem dsZ_bd {a b : S23} (ha : validP a = true) (hb : validP b = true) : 0 ≤ dsZ a b ∧ dsZ a b ≤ 8796093022208 := by
  rw [validP_iff] at ha hb
  have h1 := @mul_bd (a.f0 - b.f0) (a.f0 - b.f0) 2097152 (by omega) (by omega) (by omega) (by omega)
  have h2 := @mul_bd (a.f1 - b.f1) (a.f1 - b.f1) 2097152 (by omega) (by omega) (by omega) (by omega)
  have h3 := sq_nn (a.f0 - b.f0)
  have h4 := sq_nn (a.f1 - b.f1)
  unfold dsZ
  omega
theorem dsW_eq {a b : S23} (ha : validP a = true) (hb : validP b = true) : dsW a b = dsZ a b := by
  rw [validP_iff] at ha hb
  have h1 := @mul_bd (a.f0 - b.f0) (a.f0 - b.f0) 2097152 (by omega) (by omega) (by omega) (by omega)
  have h2 := @mul_bd (a.f1 - b.f1) (a.f1 - b.f1) 2097152 (by omega) (by omega) (by omega) (by omega)
  unfold dsW dsZ
  rw [wrap_small (x := a.f0 - b.f0) (by omega) (by omega), wrap_small (x := a.f1 - b.f1) (by omega) (by omega)]
  rw [wrap_small (x := (a.f0 - b.f0) * (a.f0 - b.f0)) (by omega) (by omega), wrap_small (x := (a.f1 - b.f1) * (a.f1 - b.f1)) (by omega) (by omega), wrap_small (by omega) (by omega)]
end Go.Proofs.Ytckaejgamfllfaa.G
end

section
namespace Go.Proofs.Ytckaejgamfllfaa.G
open Go.RowKit Go.Proofs.YtckaejgamfllfaaW.PrintWords Go.Proofs.YtckaejgamfllfaaW.PrintLast Go.Proofs.YtckaejgamfllfaaW.PrintMore
set_option linter.unusedVariables false
set_option linter.unusedSimpArgs false
def popS (p : S23) : List S23 → List S23
  | b :: a :: t => if twZ a b p ≤ 0 then popS p (a :: t) else b :: a :: t
  | l => l
def pushS (st : List S23) (p : S23) : List S23 := p :: popS p st
def chainS (l : List S23) : List S23 := l.foldl pushS []
def chainL (l : List S23) : List S23 := (chainS l).tail.reverse
theorem popS_mem {p x : S23} : ∀ {st : List S23}, x ∈ popS p st → x ∈ st
  | [], h => h
  | [a], h => h
  | b :: a :: t, h => by
    simp only [popS] at h
    split at h
    · exact List.mem_cons_of_mem _ (popS_mem h)
    · exact h
theorem popS_len {p : S23} : ∀ (st : List S23), (popS p st).length ≤ st.length
  | [] => Nat.le_refl _
  | [a] => Nat.le_refl _
  | b :: a :: t => by
    simp only [popS]
    split
    · exact Nat.le_trans (popS_len _) (by simp)
    · exact Nat.le_refl _
theorem rd_elem (l : List S23) (i : Nat) (h : i < l.length) : rd_T23 l (i : Int) = l[i] := by
  simp [rd_T23, h]
theorem wrap_sub (n c : Nat) (h : c ≤ n) (h2 : n ≤ 100000) : wrap64 ((n : Int) - (c : Int)) = ((n - c : Nat) : Int) := by rw [← i64_w, IntKind.wrap_i64]; omega
theorem wrap_add1 (n : Nat) (h2 : n ≤ 100000) : wrap64 ((n : Int) + 1) = ((n + 1 : Nat) : Int) := by rw [← i64_w, IntKind.wrap_i64]; omega
theorem chain_l1 (xs : List S23) (n i : Int) (p : S23) (hp : validP p = true) (r : List S23) :
    ∀ st : List S23, (∀ x ∈ st, validP x = true) → st.length ≤ 1000 →
    (∃ K, ∀ k, K ≤ k → plane_chain.l0 k (p :: popS p st).reverse xs n (wrap64 (i + 1)) = some r) →
    ∃ K, ∀ k, K ≤ k → plane_chain.l1 k st.reverse xs n i p.f0 p.f1 = some r
  | [], hv, hl, ⟨K, hK⟩ => ⟨K + 2, fun k hk => by
      obtain ⟨k, rfl⟩ : ∃ m, k = m + 2 := ⟨k - 2, by omega⟩
      simp only [plane_chain.l1, plane_chain.j2]
      rw [if_neg (by simp), if_neg (by simp), if_pos (by simp)]
      exact hK k (by omega)⟩
  | [a], hv, hl, ⟨K, hK⟩ => ⟨K + 2, fun k hk => by
      obtain ⟨k, rfl⟩ : ∃ m, k = m + 2 := ⟨k - 2, by omega⟩
      simp only [plane_chain.l1, plane_chain.j2]
      rw [if_neg (by simp), if_neg (by simp), if_pos (by simp)]
      exact hK k (by omega)⟩
  | b :: a :: t, hv, hl, hr => by
      have va := hv a (by simp)
      have vb := hv b (by simp)
      have hlen : (b :: a :: t).reverse.length = t.length + 2 := by simp
      have r2 : rd_T23 (b :: a :: t).reverse ((t.length : Nat) : Int) = a := by
        rw [rd_elem _ _ (by rw [hlen]; omega)]; simp
      have r1 : rd_T23 (b :: a :: t).reverse ((t.length + 1 : Nat) : Int) = b := by
        rw [rd_elem _ _ (by rw [hlen]; omega)]; simp
      have htl : t.length ≤ 1000 := by simp at hl; omega
      have w2 : wrap64 (((t.length + 2 : Nat) : Int) - 2) = ((t.length : Nat) : Int) := wrap_sub (t.length + 2) 2 (by omega) (by omega)
      have w1 : wrap64 (((t.length + 2 : Nat) : Int) - 1) = ((t.length + 1 : Nat) : Int) := wrap_sub (t.length + 2) 1 (by omega) (by omega)
      have tw : plane_twice.f a.f0 a.f1 b.f0 b.f1 p.f0 p.f1 = some (twZ a b p) := by rw [← twW_eq va vb hp]; rfl
      have step : ∀ k, plane_chain.l1 (k + 1) (b :: a :: t).reverse xs n i p.f0 p.f1 = plane_chain.j2 k (b :: a :: t).reverse xs n i (decide (twZ a b p ≤ 0)) p.f0 p.f1 := by
        intro k
        simp only [plane_chain.l1]
        rw [hlen, w2, w1, r2, r1, tw]
        rw [if_pos (by omega), if_pos (by omega), if_pos (by omega), if_pos (by omega), if_pos (by omega)]
        rfl
      by_cases c : twZ a b p ≤ 0
      · have hpop : popS p (b :: a :: t) = popS p (a :: t) := by simp only [popS]; rw [if_pos c]
        rw [hpop] at hr
        obtain ⟨K, hK⟩ := chain_l1 xs n i p hp r (a :: t) (fun x hx => hv x (List.mem_cons_of_mem _ hx)) (by simp at hl ⊢; omega) hr
        refine ⟨K + 2, fun k hk => ?_⟩
        obtain ⟨k, rfl⟩ : ∃ m, k = m + 2 := ⟨k - 2, by omega⟩
        rw [step, decide_eq_true c]
        simp only [plane_chain.j2]
        rw [hlen, w1, if_pos trivial, if_pos (by omega), if_pos (by omega)]
        have : (b :: a :: t).reverse.take ((t.length + 1 : Nat) : Int).toNat = (a :: t).reverse := by
          have h1 : (b :: a :: t).reverse = (a :: t).reverse ++ [b] := by simp
          rw [h1, Int.toNat_natCast, List.take_left' (by simp)]
        rw [this]
        exact hK k (by omega)
      · have hpop : popS p (b :: a :: t) = b :: a :: t := by simp only [popS]; rw [if_neg c]
        rw [hpop] at hr
        obtain ⟨K, hK⟩ := hr
        refine ⟨K + 2, fun k hk => ?_⟩
        obtain ⟨k, rfl⟩ : ∃ m, k = m + 2 := ⟨k - 2, by omega⟩
        rw [step, decide_eq_false c]
        simp only [plane_chain.j2]
        rw [if_neg (by simp), if_pos (by rw [hlen]; omega)]
        have := hK k (by omega)
        simpa using this
theorem chain_l0 (xs : List S23) (hv : ∀ x ∈ xs, validP x = true) (hl : xs.length ≤ 900) :
    ∀ (m i : Nat) (st : List S23), xs.length - i = m → i ≤ xs.length → (∀ x ∈ st, validP x = true) → st.length ≤ i → (i = xs.length → st ≠ []) →
    ∃ K, ∀ k, K ≤ k → plane_chain.l0 k st.reverse xs (xs.length : Int) (i : Int) = some ((xs.drop i).foldl pushS st).tail.reverse := by
  intro m
  induction m with
  | zero =>
    intro i st hm hi hst hsl hne
    refine ⟨1, fun k hk => ?_⟩
    obtain ⟨k, rfl⟩ : ∃ m, k = m + 1 := ⟨k - 1, by omega⟩
    have he : i = xs.length := by omega
    subst he
    cases st with
    | nil => exact absurd rfl (hne rfl)
    | cons a t =>
      simp only [plane_chain.l0]
      have hlen : (a :: t).reverse.length = t.length + 1 := by simp
      have w1 : wrap64 (((t.length + 1 : Nat) : Int) - 1) = ((t.length : Nat) : Int) := wrap_sub (t.length + 1) 1 (by omega) (by simp at hsl; omega)
      rw [hlen, w1, if_neg (by omega), if_pos (by omega), if_pos (by omega)]
      simp
  | succ m ih =>
    intro i st hm hi hst hsl hne
    have hlt : i < xs.length := by omega
    have hp : validP xs[i] = true := hv _ (List.getElem_mem hlt)
    have hw := wrap_add1 i (by omega)
    obtain ⟨K, hK⟩ := ih (i + 1) (pushS st xs[i]) (by omega) (by omega) (by
      intro x hx
      rcases List.mem_cons.1 hx with e | e
      · rw [e]; exact hp
      · exact hst _ (popS_mem e)) (by simp only [pushS, List.length_cons]; have := popS_len (p := xs[i]) st; omega) (fun _ => by simp [pushS])
    obtain ⟨K2, hK2⟩ := chain_l1 xs (xs.length : Int) (i : Int) xs[i] hp _ st hst (by omega) ⟨K, fun k hk => by rw [hw]; exact hK k hk⟩
    refine ⟨K2 + 1, fun k hk => ?_⟩
    obtain ⟨k, rfl⟩ : ∃ m, k = m + 1 := ⟨k - 1, by omega⟩
    simp only [plane_chain.l0]
    rw [if_pos (by omega), if_pos (by omega), if_pos (by omega), rd_elem xs i hlt, hK2 k (by omega), List.drop_eq_getElem_cons hlt, List.foldl_cons]
theorem chain_eq (xs : List S23) (hv : xs.all validP = true) (hl : xs.length ≤ 900) (h0 : xs ≠ []) : ∃ k, plane_chain.f k xs = some (chainL xs) := by
  obtain ⟨K, hK⟩ := chain_l0 xs (fun x hx => List.all_eq_true.1 hv x hx) hl xs.length 0 [] rfl (Nat.zero_le _) (by simp) (by simp) (fun h => by
    exact absurd (List.eq_nil_of_length_eq_zero h.symm) h0)
  refine ⟨K, ?_⟩
  have := hK K (Nat.le_refl _)
  simpa [plane_chain.f, chainL, chainS] using this
end Go.Proofs.Ytckaejgamfllfaa.G
end

section
namespace Go.Proofs.Ytckaejgamfllfaa.G
open Go.RowKit Go.Proofs.YtckaejgamfllfaaW.PrintWords Go.Proofs.YtckaejgamfllfaaW.PrintLast Go.Proofs.YtckaejgamfllfaaW.PrintMore
set_option linter.unusedVariables false
set_option linter.unusedSimpArgs false
theorem rev_l0 (xs : List S23) (hl : xs.length ≤ 900) : ∀ (m i : Nat) (ys : List S23), xs.length - i = m → i ≤ xs.length → 0 < xs.length →
    ys.length = xs.length → (∀ t, t < xs.length → ys.getD t z23 = if t < i ∨ xs.length ≤ t + i then xs.getD (xs.length - 1 - t) z23 else xs.getD t z23) →
    ∃ K, api_Point_109.l0 K ys (i : Int) ((xs.length : Int) - 1 - i) = some xs.reverse := by
  intro m
  induction m with
  | zero =>
    intro i ys hm hi h0 hlen hys
    refine ⟨1, ?_⟩
    simp only [api_Point_109.l0]
    rw [if_neg (by omega)]
    congr 1
    apply List.ext_getElem (by simp [hlen])
    intro t h1 h2
    have ht : t < xs.length := by omega
    have := hys t ht
    rw [if_pos (by omega), List.getD_eq_getElem?_getD, List.getElem?_eq_getElem h1, List.getD_eq_getElem?_getD, List.getElem?_eq_getElem (by omega)] at this
    simpa using this
  | succ m ih =>
    intro i ys hm hi h0 hlen hys
    by_cases hc : (i : Int) < (xs.length : Int) - 1 - i
    · obtain ⟨j, hj⟩ : ∃ j : Nat, (xs.length : Int) - 1 - i = (j : Int) := ⟨xs.length - 1 - i, by omega⟩
      have hij : i < j := by omega
      have hjl : j < ys.length := by omega
      have hw1 := wrap_add1 i (by omega)
      have hw2 : wrap64 ((j : Int) - 1) = ((j - 1 : Nat) : Int) := wrap_sub j 1 (by omega) (by omega)
      obtain ⟨K, hK⟩ := ih (i + 1) ((ys.set i (ys.getD j z23)).set j (ys.getD i z23)) (by omega) (by omega) h0 (by simp [hlen]) (by
        intro t ht
        have hti := hys i (by omega)
        have htj := hys j (by omega)
        rw [if_neg (by omega)] at hti htj
        by_cases e2 : t = j
        · subst e2
          rw [List.getD_eq_getElem?_getD, List.getElem?_set_self (by simp; omega), if_pos (by omega)]
          simp only [Option.getD_some]
          rw [hti]
          congr 1; omega
        · rw [List.getD_eq_getElem?_getD, List.getElem?_set_ne (fun e => e2 e.symm)]
          by_cases e1 : t = i
          · subst e1
            rw [List.getElem?_set_self (by omega), if_pos (by omega)]
            simp only [Option.getD_some]
            rw [htj]
            congr 1; omega
          · rw [List.getElem?_set_ne (fun e => e1 e.symm), ← List.getD_eq_getElem?_getD, hys t ht]
            by_cases c1 : t < i ∨ xs.length ≤ t + i
            · rw [if_pos c1, if_pos (by omega)]
            · rw [if_neg c1, if_neg (by omega)])
      refine ⟨K + 1, ?_⟩
      rw [hj]
      simp only [api_Point_109.l0]
      rw [if_pos (by omega), if_pos (by omega), if_pos (by omega), if_pos (by omega), if_pos (by omega), hw1, hw2]
      have e1 : rd_T23 ys (j : Int) = ys.getD j z23 := by unfold rd_T23; simp [z23]
      have e2 : rd_T23 ys (i : Int) = ys.getD i z23 := by unfold rd_T23; simp [z23]
      rw [e1, e2, Int.toNat_natCast, Int.toNat_natCast]
      have e3 : (xs.length : Int) - 1 - ((i + 1 : Nat) : Int) = ((j - 1 : Nat) : Int) := by omega
      rw [e3] at hK
      exact hK
    · refine ⟨1, ?_⟩
      simp only [api_Point_109.l0]
      rw [if_neg hc]
      congr 1
      apply List.ext_getElem (by simp [hlen])
      intro t h1 h2
      have ht : t < xs.length := by omega
      have := hys t ht
      by_cases c1 : t < i ∨ xs.length ≤ t + i
      · rw [if_pos c1, List.getD_eq_getElem?_getD, List.getElem?_eq_getElem h1, List.getD_eq_getElem?_getD, List.getElem?_eq_getElem (by omega)] at this
        simpa using this
      · rw [if_neg c1, List.getD_eq_getElem?_getD, List.getElem?_eq_getElem h1, List.getD_eq_getElem?_getD, List.getElem?_eq_getElem (by omega)] at this
        rw [List.getElem_reverse]
        have e : xs.length - 1 - t = t := by omega
        simpa [e] using this
theorem rev_eq (xs : List S23) (hl : xs.length ≤ 900) (h0 : 0 < xs.length) : ∃ k, api_Point_109.f k xs = some xs.reverse := by
  obtain ⟨K, hK⟩ := rev_l0 xs hl xs.length 0 xs rfl (Nat.zero_le _) h0 rfl (fun t ht => by rw [if_neg (by omega)])
  refine ⟨K, ?_⟩
  unfold api_Point_109.f
  have hw := wrap_sub xs.length 1 (by omega) (by omega)
  have e : (xs.length : Int) - 1 - ((0 : Nat) : Int) = ((xs.length - 1 : Nat) : Int) := by omega
  rw [e] at hK
  have hw' : wrap64 ((xs.length : Int) - 1) = ((xs.length - 1 : Nat) : Int) := hw
  rw [hw']
  exact hK
end Go.Proofs.Ytckaejgamfllfaa.G
end

section
namespace Go.Proofs.Ytckaejgamfllfaa.G
open Go.RowKit Go.Proofs.YtckaejgamfllfaaW.PrintWords Go.Proofs.YtckaejgamfllfaaW.PrintLast Go.Proofs.YtckaejgamfllfaaW.PrintMore
set_option linter.unusedVariables false
set_option linter.unusedSimpArgs false
def hullL (l : List S23) : List S23 :=
  if (compactL (sortP l)).length = 1 then compactL (sortP l) else chainL (compactL (sortP l)) ++ chainL (compactL (sortP l)).reverse
def plane_Hull.f (l0 : List S23) : Option (List S23 × Int) :=
  if l0.length < 1 ∨ 200 < l0.length then some ([], 2) else
  if l0.all validP = true then some (hullL l0, 0) else some ([], 1)
theorem stepC_sub {acc : List S23} {y x : S23} (h : x ∈ stepC acc y) : x ∈ acc ∨ x = y := by
  unfold stepC at h
  split at h
  · split at h
    · exact .inl h
    · rcases List.mem_append.1 h with h | h
      · exact .inl h
      · exact .inr (by simpa using h)
  · exact .inr (by simpa using h)
theorem foldl_stepC_sub {x : S23} : ∀ (l acc : List S23), x ∈ l.foldl stepC acc → x ∈ acc ∨ x ∈ l
  | [], acc, h => .inl h
  | y :: t, acc, h => by
    rcases foldl_stepC_sub t _ h with h | h
    · rcases stepC_sub h with h | h
      · exact .inl h
      · exact .inr (by rw [h]; exact List.mem_cons_self)
    · exact .inr (List.mem_cons_of_mem _ h)
theorem compactL_sub {x : S23} {l : List S23} (h : x ∈ compactL l) : x ∈ l := (foldl_stepC_sub l [] h).elim (fun h => by cases h) id
theorem stepC_len (acc : List S23) (y : S23) : (stepC acc y).length ≤ acc.length + 1 ∧ 0 < (stepC acc y).length := by
  unfold stepC
  split
  · rename_i x hx
    have : 0 < acc.length := by cases acc with | nil => simp at hx | cons a t => simp
    split
    · omega
    · simp
  · simp
theorem foldl_stepC_len : ∀ (l acc : List S23), (l.foldl stepC acc).length ≤ acc.length + l.length ∧ (0 < acc.length + l.length → 0 < (l.foldl stepC acc).length)
  | [], acc => by simp
  | y :: t, acc => by
    have h1 := stepC_len acc y
    have h2 := foldl_stepC_len t (stepC acc y)
    simp only [List.foldl_cons, List.length_cons]
    exact ⟨by omega, fun _ => h2.2 (by omega)⟩
theorem compactL_len (l : List S23) : (compactL l).length ≤ l.length ∧ (0 < l.length → 0 < (compactL l).length) := by
  have := foldl_stepC_len l []
  simpa [compactL] using this
theorem sortP_len (l : List S23) : (sortP l).length = l.length := List.length_mergeSort _
theorem compact_valid {l : List S23} (h : l.all validP = true) : (compactL (sortP l)).all validP = true := by
  rw [List.all_eq_true] at h ⊢
  intro x hx
  exact h x ((List.mergeSort_perm l leP).mem_iff.1 (compactL_sub hx))
theorem foldl_push_len : ∀ (l st : List S23), (l.foldl pushS st).length ≤ st.length + l.length ∧ (st ≠ [] → l ≠ [] → 2 ≤ (l.foldl pushS st).length) ∧ (2 ≤ st.length → 2 ≤ (l.foldl pushS st).length)
  | [], st => by simp
  | y :: t, st => by
    have h1 := foldl_push_len t (pushS st y)
    have h2 := popS_len (p := y) st
    have h3 : st ≠ [] → 1 ≤ (popS y st).length := by
      intro h
      have : ∀ st : List S23, st ≠ [] → 1 ≤ (popS y st).length := by
        intro st
        induction st with
        | nil => intro h; exact absurd rfl h
        | cons b t ih =>
          intro _
          cases t with
          | nil => simp [popS]
          | cons a t =>
            simp only [popS]
            split
            · exact ih (by simp)
            · simp
      exact this st h
    have h4 : (pushS st y).length = (popS y st).length + 1 := by simp [pushS]
    simp only [List.foldl_cons, List.length_cons]
    refine ⟨by omega, fun hs _ => h1.2.2 (by have := h3 hs; omega), fun hs => h1.2.2 (by have := h3 (by intro e; rw [e] at hs; simp at hs); omega)⟩
theorem chainL_len (l : List S23) : (chainL l).length ≤ l.length := by
  have := (foldl_push_len l []).1
  simp only [chainL, chainS, List.length_reverse, List.length_tail]
  simp at this; omega
theorem chainL_pos {l : List S23} (h : 2 ≤ l.length) : 0 < (chainL l).length := by
  obtain ⟨a, t, rfl⟩ : ∃ a t, l = a :: t := by cases l with | nil => simp at h | cons a t => exact ⟨a, t, rfl⟩
  have ht : t ≠ [] := by intro e; rw [e] at h; simp at h
  have := (foldl_push_len t (pushS [] a)).2.1 (by simp [pushS]) ht
  simp only [chainL, chainS, List.length_reverse, List.length_tail, List.foldl_cons]
  omega
theorem compact_calls2 (g c base n : Nat) (xs s : List S23) (w : World) (hn : xs.length = n) (hs : s = compactL xs) (HO : Kd.R k23 23 w base (fun _ => True) (.slice (some ⟨g, 0, none⟩) n c) xs) (hl : n ≤ 1000) (hp : 0 < n) :
    Calls Try.prog 107 #[.slice (some ⟨g, 0, none⟩) n c] w fun e w' => e = .returned (.slice (some ⟨g, 0, none⟩) s.length c) ∧ Kd.R k23 23 w' base (fun _ => True) (.slice (some ⟨g, 0, none⟩) s.length c) s ∧ w.grownBy w' (some g) := by
  subst hn; subst hs
  exact compact_calls g c base xs w HO hl hp
theorem chain_calls2 (k : Nat) (A0 : Option Addr) (c0 n : Nat) (l0 : List S23) (r : List S23) (w : World) (hn : l0.length = n) (hr0 : Kd.C k23 w A0 l0.length l0) (hc0 : l0.length ≤ c0) (h : plane_chain.f k l0 = some r) :
    Calls Try.prog 108 #[.slice A0 n c0] w fun e w' => ∃ v0_ : Value, e = .returned (v0_) ∧ Kd.R k23 23 w' w.heap.size (fun _ => True) v0_ r ∧ Below w.heap.size w w' := by
  subst hn
  exact plane_chain.calls k A0 c0 l0 r w hr0 hc0 h
set_option maxHeartbeats 8000000 in
set_option maxRecDepth 100000 in
theorem plane_Hull.calls (A0 : Option Addr) (c0 : Nat) (l0 : List S23) (r1 : List S23) (r2 : Int) (w : World) (hr0 : Kd.C k23 w A0 l0.length l0) (hc0 : l0.length ≤ c0) (h : plane_Hull.f l0 = some (r1, r2)) :
    Calls Try.prog 43 #[.slice A0 l0.length c0] w fun e w' => ∃ v0_, e = .returned (.tuple #[v0_, .int .i64 r2]) ∧ Kd.R k23 23 w' w.heap.size (fun _ => True) v0_ r1 ∧ Below w.heap.size w w' := by
  have hu39 := Try.underlying39
  have hu23 := Try.underlying23
  have HR := Aside0.mk hr0
  have HC := Aside0.mk hc0
  have HH := Aside0.mk h
  clear hr0 hc0 h
  have HB := Aside0.mk (Below.refl w.heap.size w)
  go_enter Try.func43, Try.ntmps43
  by_cases h1 : l0.length < 1 ∨ 200 < l0.length
  · have hh := HH.out
    unfold plane_Hull.f at hh
    rw [if_pos h1] at hh
    simp only [Option.some.injEq, Prod.mk.injEq] at hh
    obtain ⟨rfl, rfl⟩ := hh
    have hW := Aside0.mk (show plane_within.f (l0.length : Int) 1 200 = some false by
      unfold plane_within.f
      by_cases a : (1 : Int) ≤ (l0.length : Int)
      · rw [if_pos a, decide_eq_false (by omega)]
      · rw [if_neg a])
    go_wp2_with (go_at_call 76; (with_reducible refine (plane_within.calls _ _ _ _ _ hW.out).mono ?_); rintro e w1 ⟨rfl, hd⟩; have HB2 := Aside0.mk (below_step HB.out hd.below); clear hd HB)
    go_ret2
    exact ⟨_, rfl, Kd.R_nil _ _ _ _ _, HB2.out⟩
  · have hW := Aside0.mk (show plane_within.f (l0.length : Int) 1 200 = some true by
      unfold plane_within.f
      rw [if_pos (by omega), decide_eq_true (by omega)])
    have HL := Aside0.mk (show 1 ≤ l0.length ∧ l0.length ≤ 200 by omega)
    have hh := HH.out
    unfold plane_Hull.f at hh
    rw [if_neg h1] at hh
    have HH2 := Aside0.mk hh
    clear hh HH h1
    obtain ⟨b, hb⟩ : ∃ b, b = l0.all validP := ⟨_, rfl⟩
    have HV := Aside0.mk (show plane_valid.f l0 = some b by unfold plane_valid.f; rw [if_pos (by have := HL.out; omega), hb])
    have HBV := Aside0.mk hb
    clear hb
    cases b with
    | false =>
      have hh := HH2.out
      rw [← HBV.out, if_neg (by simp)] at hh
      simp only [Option.some.injEq, Prod.mk.injEq] at hh
      obtain ⟨rfl, rfl⟩ := hh
      go_wp2_with (first
        | (go_at_call 76; (with_reducible refine (plane_within.calls _ _ _ _ _ hW.out).mono ?_); rintro e w1 ⟨rfl, hd⟩; have HB2 := Aside0.mk (below_step HB.out hd.below); clear hd HB)
        | (go_at_call 78; (with_reducible refine (plane_valid.calls A0 c0 l0 _ _ (Kd.C_below HR.out HB2.out) HC.out HV.out).mono ?_); rintro e w2 ⟨rfl, hd⟩; have HB3 := Aside0.mk (below_step HB2.out hd); clear hd HB2))
      go_ret2
      exact ⟨_, rfl, Kd.R_nil _ _ _ _ _, HB3.out⟩
    | true =>
      have hh := HH2.out
      rw [← HBV.out, if_pos rfl] at hh
      simp only [Option.some.injEq, Prod.mk.injEq] at hh
      obtain ⟨rfl, rfl⟩ := hh
      obtain ⟨s, hs⟩ : ∃ s, s = compactL (sortP l0) := ⟨_, rfl⟩
      have HS := Aside0.mk hs
      have SL := Aside0.mk (show 0 < s.length ∧ s.length ≤ 200 by
        have h1 := compactL_len (sortP l0); have h2 := sortP_len l0; have := HL.out; rw [hs]; exact ⟨h1.2 (by omega), by omega⟩)
      have SV := Aside0.mk (show s.all validP = true by rw [hs]; exact compact_valid HBV.out.symm)
      clear hs
      go_upto_region 8 with (first
        | (go_at_call 76; (with_reducible refine (plane_within.calls _ _ _ _ _ hW.out).mono ?_); rintro e w1 ⟨rfl, hd⟩; have HB2 := Aside0.mk (below_step HB.out hd.below); clear hd HB)
        | (go_at_call 78; (with_reducible refine (plane_valid.calls A0 c0 l0 _ _ (Kd.C_below HR.out HB2.out) HC.out HV.out).mono ?_); rintro e w2 ⟨rfl, hd⟩; have HB3 := Aside0.mk (below_step HB2.out hd); clear hd HB2)
        | (go_at_call 104; (with_reducible refine (clone_calls A0 c0 l0 _ (Kd.C_below HR.out HB3.out) (by have := HL.out; omega) (by have := HL.out; omega)).mono ?_); rintro e w3 ⟨v, rfl, ho, hd⟩; have HB4 := Aside0.mk (below_step HB3.out hd); have HO := Aside0.mk (Kd.R_lower ho HB3.out.size); (obtain ⟨g, cap, rfl, hg1, hg2, _⟩ := Kd.R_form HO.out (by have := HL.out; omega)); have HG := Aside0.mk (And.intro hg1 hg2); clear ho hd HB3 hg1 hg2)
        | (go_at_call 105; (with_reducible refine (sort_calls g cap w.heap.size l0 _ HBV.out.symm HO.out (by have := HL.out; omega)).mono ?_); rintro e w4 ⟨rfl, ho, hd⟩; have HB5 := Aside0.mk (pw_below_grown HB4.out _ HB4.out.size hd (fun k hk => by injection hk with hk; rw [← hk]; exact HG.out.1)); have HO2 := Aside0.mk ho; clear ho hd HB4 HO)
        | (go_at_call 107; (with_reducible refine (compact_calls2 g cap w.heap.size l0.length (sortP l0) s _ (sortP_len l0) HS.out HO2.out (by have := HL.out; omega) (by have := HL.out; omega)).mono ?_); rintro e w5 ⟨rfl, ho, hd⟩; have HB6 := Aside0.mk (pw_below_grown HB5.out _ HB5.out.size hd (fun k hk => by injection hk with hk; rw [← hk]; exact HG.out.1)); have HO3 := Aside0.mk ho; clear ho hd HB5 HO2))
      by_cases h1 : s.length = 1
      · have hd : ((s.length : Int) == 1) = true := by simp [h1]
        go_wp2
        go_ret2
        refine ⟨_, rfl, ?_, HB6.out⟩
        have he : hullL l0 = s := by unfold hullL; rw [← HS.out, if_pos h1]
        rw [he]
        exact HO3.out
      · have hd : ((s.length : Int) == 1) = false := by simp; omega
        have S2 := Aside0.mk (show 2 ≤ s.length by have := SL.out; omega)
        obtain ⟨k1, hk1⟩ := chain_eq s SV.out (by have := SL.out; omega) (by intro e; have := SL.out; rw [e] at this; simp at this)
        obtain ⟨k2, hk2⟩ := chain_eq s.reverse (by rw [List.all_reverse]; exact SV.out) (by have := SL.out; simp; omega) (by intro e; have := SL.out; have h := congrArg List.length e; simp at h; rw [h] at this; simp at this)
        obtain ⟨k3, hk3⟩ := rev_eq s (by have := SL.out; omega) SL.out.1
        have K1 := Aside0.mk hk1; have K2 := Aside0.mk hk2; have K3 := Aside0.mk hk3
        clear hk1 hk2 hk3
        go_wp2_with (first
          | (go_at_call 108; (with_reducible refine (plane_chain.calls k1 (some ⟨g, 0, none⟩) cap s _ _ (Kd.R_reads' HO3.out).2.2 (Kd.R_reads' HO3.out).2.1 K1.out).mono ?_); rintro e w6 ⟨v6, rfl, ho, hd6⟩; have HB7 := Aside0.mk (below_step HB6.out hd6); (obtain ⟨A6, c6, rfl, hc6, hC6⟩ := Kd.R_reads ho); have HC6 := Aside0.mk (And.intro hc6 hC6); have HO4 := Aside0.mk (Kd.R_below HO3.out hd6); clear ho hd6 hc6 hC6 HB6 HO3 K1)
          | (go_at_call 104; (with_reducible refine (clone_calls A6 c6 (chainL s) _ HC6.out.2 (by have := chainL_len s; have := SL.out; omega) (chainL_pos S2.out)).mono ?_); rintro e w7 ⟨v7, rfl, ho, hd7⟩; have HB8 := Aside0.mk (below_step HB7.out hd7); have HLow := Aside0.mk (show Kd.R k23 23 w7 w.heap.size (fun k => k ≠ g) v7 (chainL s) from Kd.R_mono (Kd.R_lower (Kd.R_bound ho) HB7.out.size) (fun k hk => by have h1 := hk.2.1; have h2 : g < _ := Kd.R_lt HO4.out g rfl; omega)); have HO5 := Aside0.mk (Kd.R_below HO4.out hd7); clear ho hd7 HB7 HO4 HC6)
          | (go_at_call 109; (with_reducible refine (api_Point_109.calls k3 (fun x => x = g) (.slice (some ⟨g, 0, none⟩) s.length cap) s _ w _ HB8.out (Kd.R_mono (Kd.R_tight2 rfl HO5.out) (fun k hk => by have := hk.1; simp [Value.ownBlock] at this; exact this)) K3.out).mono ?_); rintro e w8 ⟨rfl, ho, hd8, hk8⟩; have HB9 := Aside0.mk hd8; have HO6 := Aside0.mk (Kd.R_mono ho (fun _ _ => trivial : ∀ k, _ → True)); have HLow2 := Aside0.mk (Kd.R_kept HLow.out hk8 (fun k hk => hk)); clear ho hd8 hk8 HB8 HO5 HLow K3)
          | (go_at_call 108; (with_reducible refine (chain_calls2 k2 (some ⟨g, 0, none⟩) cap s.length s.reverse _ _ List.length_reverse (Kd.R_reads' HO6.out).2.2 (by rw [List.length_reverse]; exact (Kd.R_reads' HO6.out).2.1) K2.out).mono ?_); rintro e w9 ⟨v9, rfl, ho, hd9⟩; have HB10 := Aside0.mk (below_step HB9.out hd9); (obtain ⟨A9, c9, rfl, hc9, hC9⟩ := Kd.R_reads ho); have HC9 := Aside0.mk hC9; have HLow3 := Aside0.mk (Kd.R_mono (Kd.R_below HLow2.out hd9) (fun _ _ => trivial : ∀ k, _ → True)); clear ho hd9 hc9 hC9 HB9 HO6 HLow2)
          | ((with_reducible refine gate_builtin (b := .append) (xs := #[.tmp 30, .tmp 32]) rfl ?_); at_builtin; refine Kd.R_append_rows k23 (Rr := k23.K w9) (w0 := w) w.heap.size rfl (.tmp 30) (.tmp 32) 39 23 (.agg #[.int .i64 0, .int .i64 0]) 16 rfl Try.underlying39 info23 rfl (by decide) (by omega) v7 (chainL s) (chainL s.reverse) _ _ _ (fun _ => True) (fun _ => False) rfl rfl ?aO ?aR ?aK (fun _ h => h.elim) (fun _ _ => trivial) ?aB ?aS ?aL ?_; (case aO => exact HLow3.out); (case aR => exact HC9.out); (case aK => intro x cs h; rw [k23_open h]; exact k23_mkM _ _ _ _); (case aB => exact HB10.out); (case aS => exact HB10.out.size); (case aL => have h1 := chainL_len s; have h2 := chainL_len s.reverse; have := SL.out; simp at h2; omega); intro v10 w10 ho hb hg_ hat_; have HOut := Aside0.mk ho; have HB11 := Aside0.mk hb; clear ho hb hg_ hat_))
        go_ret2
        refine ⟨_, rfl, ?_, HB11.out⟩
        have he : hullL l0 = chainL s ++ chainL s.reverse := by unfold hullL; rw [← HS.out, if_neg h1]
        rw [he]
        exact HOut.out
end Go.Proofs.Ytckaejgamfllfaa.G
end

section
namespace Go.Proofs.Ytckaejgamfllfaa.G
open Go.RowKit Go.Proofs.YtckaejgamfllfaaW.PrintWords Go.Proofs.YtckaejgamfllfaaW.PrintLast Go.Proofs.YtckaejgamfllfaaW.PrintMore
set_option linter.unusedVariables false
set_option linter.unusedSimpArgs false
theorem mul_np {a b : Int} (h : a ≤ 0) (k : 0 ≤ b) : a * b ≤ 0 := Int.mul_nonpos_of_nonpos_of_nonneg h k
theorem np_of_mul {a b : Int} (h : a * b ≤ 0) (k : 0 < b) : a ≤ 0 := by
  rcases Int.lt_or_le 0 a with q | q
  · have := Int.mul_pos q k; omega
  · exact q
theorem cr_upper {ax ay bx b_y cx cy : Int} (ha : 0 < ay ∨ (ay = 0 ∧ 0 < ax)) (hb : 0 < b_y ∨ (b_y = 0 ∧ 0 < bx)) (hc : 0 < cy ∨ (cy = 0 ∧ 0 < cx))
    (h1 : ax * b_y - ay * bx ≤ 0) (h2 : bx * cy - b_y * cx ≤ 0) :
    ax * cy - ay * cx ≤ 0 ∧ (ax * cy - ay * cx = 0 → ax * b_y - ay * bx = 0 ∧ bx * cy - b_y * cx = 0) := by
  have id : (ax * cy - ay * cx) * b_y = (ax * b_y - ay * bx) * cy + (bx * cy - b_y * cx) * ay := by grind
  rcases hb with hb | ⟨rfl, hb⟩
  · have m1 := mul_np h1 (show (0 : Int) ≤ cy by omega)
    have m2 := mul_np h2 (show (0 : Int) ≤ ay by omega)
    refine ⟨np_of_mul (b := b_y) (by omega) hb, fun h0 => ?_⟩
    rw [h0, Int.zero_mul] at id
    have z1 : (ax * b_y - ay * bx) * cy = 0 := by omega
    have z2 : (bx * cy - b_y * cx) * ay = 0 := by omega
    rcases hc with hc | ⟨rfl, hc⟩
    · have e1 : ax * b_y - ay * bx = 0 := by
        rcases Int.mul_eq_zero.1 z1 with q | q
        · exact q
        · omega
      refine ⟨e1, ?_⟩
      rcases Int.mul_eq_zero.1 z2 with q | q
      · exact q
      · subst q
        rcases ha with ha | ⟨_, ha⟩
        · omega
        · have := Int.mul_pos ha hb; omega
    · have p := Int.mul_pos hb hc
      rcases Int.mul_eq_zero.1 z2 with q | q
      · omega
      · subst q
        rcases ha with ha | ⟨_, ha⟩
        · omega
        · have := Int.mul_pos ha hb; omega
  · rcases hc with hc | ⟨rfl, hc⟩
    · have := Int.mul_pos hb hc; omega
    · rcases ha with ha | ⟨rfl, ha⟩
      · have p1 := Int.mul_pos ha hb
        have p2 := Int.mul_pos ha hc
        exact ⟨by omega, fun h0 => by omega⟩
      · simp
def ltV (ax ay bx b_y : Int) : Prop :=
  halfP ax ay < halfP bx b_y ∨ (halfP ax ay = halfP bx b_y ∧ (0 < ax * b_y - ay * bx ∨ (ax * b_y - ay * bx = 0 ∧ ax * ax + ay * ay < bx * bx + b_y * b_y)))
theorem half_zero {x y : Int} : halfP x y = 0 ↔ (0 < y ∨ (y = 0 ∧ 0 < x)) := by
  unfold halfP; (repeat' split) <;> omega
theorem half_one {x y : Int} (h : ¬ (x = 0 ∧ y = 0)) : halfP x y = 1 ↔ (0 < -y ∨ (-y = 0 ∧ 0 < -x)) := by
  unfold halfP; (repeat' split) <;> omega
theorem half_01 (x y : Int) : halfP x y = 0 ∨ halfP x y = 1 := by
  unfold halfP; (repeat' split) <;> omega
theorem ltV_asym {ax ay bx b_y : Int} (h : ltV ax ay bx b_y) : ¬ ltV bx b_y ax ay := by
  unfold ltV at *
  have e : bx * ay - b_y * ax = -(ax * b_y - ay * bx) := by grind
  rw [e]
  generalize ax * b_y - ay * bx = c at *
  generalize ax * ax + ay * ay = d1 at *
  generalize bx * bx + b_y * b_y = d2 at *
  omega
theorem cr_same {ax ay bx b_y cx cy : Int} (na : ¬ (ax = 0 ∧ ay = 0)) (nb : ¬ (bx = 0 ∧ b_y = 0)) (nc : ¬ (cx = 0 ∧ cy = 0))
    (hh : halfP ax ay = halfP bx b_y) (hk : halfP bx b_y = halfP cx cy) (h1 : ax * b_y - ay * bx ≤ 0) (h2 : bx * cy - b_y * cx ≤ 0) :
    ax * cy - ay * cx ≤ 0 ∧ (ax * cy - ay * cx = 0 → ax * b_y - ay * bx = 0 ∧ bx * cy - b_y * cx = 0) := by
  rcases half_01 ax ay with h | h
  · exact cr_upper (half_zero.1 h) (half_zero.1 (by omega)) (half_zero.1 (by omega)) h1 h2
  · have := @cr_upper (-ax) (-ay) (-bx) (-b_y) (-cx) (-cy) ((half_one na).1 h) ((half_one nb).1 (by omega)) ((half_one nc).1 (by omega)) (by simpa only [Int.neg_mul_neg] using h1) (by simpa only [Int.neg_mul_neg] using h2)
    simpa only [Int.neg_mul_neg] using this
theorem ltV_ntrans {ax ay bx b_y cx cy : Int} (na : ¬ (ax = 0 ∧ ay = 0)) (nb : ¬ (bx = 0 ∧ b_y = 0)) (nc : ¬ (cx = 0 ∧ cy = 0))
    (h1 : ¬ ltV ax ay bx b_y) (h2 : ¬ ltV bx b_y cx cy) : ¬ ltV ax ay cx cy := by
  unfold ltV at *
  by_cases hh : halfP ax ay = halfP bx b_y ∧ halfP bx b_y = halfP cx cy
  · have := cr_same na nb nc hh.1 hh.2 (by omega) (by omega)
    generalize ax * b_y - ay * bx = c1 at *
    generalize bx * cy - b_y * cx = c2 at *
    generalize ax * cy - ay * cx = c3 at *
    generalize ax * ax + ay * ay = d1 at *
    generalize bx * bx + b_y * b_y = d2 at *
    generalize cx * cx + cy * cy = d3 at *
    omega
  · omega
theorem sgnP_neg (n : Int) : sgnP n < 0 ↔ n < 0 := by unfold sgnP; (repeat' split) <;> omega
theorem sgnP_range (n : Int) : sgnP n = -1 ∨ sgnP n = 0 ∨ sgnP n = 1 := by unfold sgnP; (repeat' split) <;> omega
theorem sgnP_pos (n : Int) : wrap64 (-sgnP n) < 0 ↔ 0 < n := by
  rw [wrap_small (by rcases sgnP_range n with h | h | h <;> omega) (by rcases sgnP_range n with h | h | h <;> omega)]
  unfold sgnP; (repeat' split) <;> omega
theorem dsP_eq {a b : S23} (ha : validP a = true) (hb : validP b = true) : dsP a b = dsZ a b := dsW_eq ha hb
theorem cfA_iff {o p q : S23} (ho : validP o = true) (hp : validP p = true) (hq : validP q = true) :
    cfA o p q < 0 ↔ ltV (p.f0 - o.f0) (p.f1 - o.f1) (q.f0 - o.f0) (q.f1 - o.f1) := by
  have dp := dsZ_bd hp ho
  have dq := dsZ_bd hq ho
  unfold cfA
  rw [dsP_eq hp ho, dsP_eq hq ho]
  rw [validP_iff] at ho hp hq
  have h1 := @mul_bd (p.f0 - o.f0) (q.f1 - o.f1) 2097152 (by omega) (by omega) (by omega) (by omega)
  have h2 := @mul_bd (p.f1 - o.f1) (q.f0 - o.f0) 2097152 (by omega) (by omega) (by omega) (by omega)
  rw [wrap_small (x := p.f0 - o.f0) (by omega) (by omega), wrap_small (x := p.f1 - o.f1) (by omega) (by omega), wrap_small (x := q.f0 - o.f0) (by omega) (by omega), wrap_small (x := q.f1 - o.f1) (by omega) (by omega)]
  rw [wrap_small (x := (p.f0 - o.f0) * (q.f1 - o.f1)) (by omega) (by omega), wrap_small (x := (p.f1 - o.f1) * (q.f0 - o.f0)) (by omega) (by omega), wrap_small (x := (p.f0 - o.f0) * (q.f1 - o.f1) - (p.f1 - o.f1) * (q.f0 - o.f0)) (by omega) (by omega)]
  rw [wrap_small (x := dsZ p o - dsZ q o) (by omega) (by omega)]
  have e1 : dsZ p o = (p.f0 - o.f0) * (p.f0 - o.f0) + (p.f1 - o.f1) * (p.f1 - o.f1) := rfl
  have e2 : dsZ q o = (q.f0 - o.f0) * (q.f0 - o.f0) + (q.f1 - o.f1) * (q.f1 - o.f1) := rfl
  unfold ltV
  rw [← e1, ← e2]
  generalize (p.f0 - o.f0) * (q.f1 - o.f1) - (p.f1 - o.f1) * (q.f0 - o.f0) = c at *
  have ra := half_01 (p.f0 - o.f0) (p.f1 - o.f1)
  have rb := half_01 (q.f0 - o.f0) (q.f1 - o.f1)
  generalize halfP (p.f0 - o.f0) (p.f1 - o.f1) = u at *
  generalize halfP (q.f0 - o.f0) (q.f1 - o.f1) = v at *
  split
  · split
    · rw [sgnP_neg]; omega
    · rw [sgnP_pos]; omega
  · rw [wrap_small (by omega) (by omega)]; omega
theorem around_swo {o : S23} {n : Nat} {l : Fin n → S23} (ho : validP o = true) (hl : ∀ i, validP (l i) = true) (hn : ∀ i, l i ≠ o) :
    Go.Sort.SWO (Go.Proofs.ltOf (fun i k => cfA o (l i) (l k))) := by
  have nz : ∀ i, ¬ ((l i).f0 - o.f0 = 0 ∧ (l i).f1 - o.f1 = 0) := by
    intro i h
    refine hn i ?_
    have h1 : (l i).f0 = o.f0 := by omega
    have h2 : (l i).f1 = o.f1 := by omega
    cases hx : l i; cases o
    rw [hx] at h1 h2
    simp only at h1 h2
    rw [h1, h2]
  have T : ∀ i k, Go.Proofs.ltOf (fun i k => cfA o (l i) (l k)) i k = true ↔ ltV ((l i).f0 - o.f0) ((l i).f1 - o.f1) ((l k).f0 - o.f0) ((l k).f1 - o.f1) := by
    intro i k
    unfold Go.Proofs.ltOf
    rw [decide_eq_true_eq]
    exact cfA_iff ho (hl i) (hl k)
  have F : ∀ i k, Go.Proofs.ltOf (fun i k => cfA o (l i) (l k)) i k = false ↔ ¬ ltV ((l i).f0 - o.f0) ((l i).f1 - o.f1) ((l k).f0 - o.f0) ((l k).f1 - o.f1) := by
    intro i k
    rw [← T, Bool.not_eq_true]
  refine ⟨fun x => ?_, fun x y z h k => ?_, fun x y z h k => ?_⟩
  · rw [F]; exact fun h => ltV_asym h h
  · rw [T] at *
    refine Classical.byContradiction fun c => ?_
    exact ltV_ntrans (nz x) (nz z) (nz y) c (ltV_asym k) h
  · rw [F] at *
    exact ltV_ntrans (nz x) (nz y) (nz z) h k
end Go.Proofs.Ytckaejgamfllfaa.G
end

section
namespace Go.Proofs.Ytckaejgamfllfaa.Stab
open Go.Sort
set_option linter.unusedVariables false
set_option linter.unusedSimpArgs false
set_option linter.unusedSectionVars false
section
variable {α : Type} (lt : α → α → Bool)
def insL (x : α) : List α → List α
  | [] => [x]
  | y :: t => if lt x y then x :: y :: t else y :: insL x t
def isort (l : List α) : List α := l.foldl (fun acc x => insL lt x acc) []
theorem insL_map {β : Type} (f : β → α) (x : β) : ∀ l : List β, (insL (fun a b => lt (f a) (f b)) x l).map f = insL lt (f x) (l.map f) := by
  intro l
  induction l with
  | nil => rfl
  | cons y t ih => simp only [insL, List.map_cons]; split <;> simp [ih]
theorem isort_map {β : Type} (f : β → α) (l : List β) : (isort (fun a b => lt (f a) (f b)) l).map f = isort lt (l.map f) := by
  unfold isort
  have : ∀ (l : List β) (acc : List β), (l.foldl (fun acc x => insL (fun a b => lt (f a) (f b)) x acc) acc).map f = (l.map f).foldl (fun acc x => insL lt x acc) (acc.map f) := by
    intro l
    induction l with
    | nil => intro acc; rfl
    | cons y t ih => intro acc; simp only [List.foldl_cons, List.map_cons]; rw [ih, insL_map]
  exact this l []
variable {lt} (O : SWO lt)
include O
theorem insL_srt (x : α) : ∀ {l : List α}, Srt lt l → Srt lt (insL lt x l) := by
  intro l
  induction l with
  | nil => intro _; exact List.pairwise_singleton _ _
  | cons y t ih =>
    intro h
    obtain ⟨h1, h2⟩ := List.pairwise_cons.1 h
    simp only [insL]
    split
    · rename_i hl
      refine List.pairwise_cons.2 ⟨fun z hz => ?_, h⟩
      rcases List.mem_cons.1 hz with rfl | hz
      · exact asym O hl
      · exact O.ntrans _ _ _ (h1 z hz) (asym O hl)
    · rename_i hl
      refine List.pairwise_cons.2 ⟨fun z hz => ?_, ih h2⟩
      have : ∀ {l : List α} {z}, z ∈ insL lt x l → z = x ∨ z ∈ l := by
        intro l
        induction l with
        | nil => intro z hz; simpa [insL] using hz
        | cons a b ihb =>
          intro z hz
          simp only [insL] at hz
          split at hz
          · rcases List.mem_cons.1 hz with h | h
            · exact .inl h
            · exact .inr h
          · rcases List.mem_cons.1 hz with h | h
            · exact .inr (by rw [h]; exact List.mem_cons_self)
            · rcases ihb h with h | h
              · exact .inl h
              · exact .inr (List.mem_cons_of_mem _ h)
      rcases this hz with rfl | hz
      · simpa using hl
      · exact h1 z hz
theorem insL_se (x : α) : ∀ {l : List α}, Srt lt l → SE lt (l ++ [x]) (insL lt x l) := by
  intro l
  induction l with
  | nil => intro _; exact SE.refl _
  | cons y t ih =>
    intro h
    obtain ⟨h1, h2⟩ := List.pairwise_cons.1 h
    simp only [insL]
    split
    · rename_i hl
      have : SE lt ((y :: t) ++ [x]) ([x] ++ (y :: t)) := SE.swap O (fun a ha z hz => by
        rw [List.mem_singleton] at ha; subst ha
        rcases List.mem_cons.1 hz with rfl | hz
        · exact hl
        · rcases split O z hl with q | q
          · exact q
          · rw [h1 z hz] at q; cases q)
      exact this
    · exact (SE.refl [y]).append (ih h2)
theorem isort_ok (l : List α) : Srt lt (isort lt l) ∧ SE lt l (isort lt l) := by
  unfold isort
  have : ∀ (l pre acc : List α), Srt lt acc → SE lt pre acc → Srt lt (l.foldl (fun acc x => insL lt x acc) acc) ∧ SE lt (pre ++ l) (l.foldl (fun acc x => insL lt x acc) acc) := by
    intro l
    induction l with
    | nil => intro pre acc h1 h2; exact ⟨h1, by simpa using h2⟩
    | cons y t ih =>
      intro pre acc h1 h2
      have := ih (pre ++ [y]) (insL lt y acc) (insL_srt O y h1) ((h2.append (SE.refl [y])).trans (insL_se O y h1))
      simpa using this
  have := this l [] [] List.Pairwise.nil (SE.refl _)
  simpa using this
end
section
variable {α : Type} [Inhabited α] {lt : α → α → Bool} (O : SWO lt)
include O
theorem stable_eq {d e : Array α} {n : Nat} (hd : d.size = n) (he : e.size = n) (h1 : SI lt e 0 n) (h2 : SE lt (seg d 0 n) (seg e 0 n)) : e.toList = isort lt d.toList := by
  subst hd
  rw [seg_all] at h2
  have h3 := srt_of h1
  rw [← he, seg_all] at h3
  rw [← he, seg_all] at h2
  obtain ⟨i1, i2⟩ := isort_ok O d.toList
  exact uniq O h3 i1 (h2.symm.trans i2)
end
end Go.Proofs.Ytckaejgamfllfaa.Stab
end

section
namespace Go.Proofs.Ytckaejgamfllfaa.G
open Go.RowKit Go.Proofs.YtckaejgamfllfaaW.PrintWords Go.Proofs.YtckaejgamfllfaaW.PrintLast Go.Proofs.YtckaejgamfllfaaW.PrintMore
set_option linter.unusedVariables false
set_option linter.unusedSimpArgs false
set_option maxHeartbeats 4000000 in
set_option maxRecDepth 100000 in
theorem ins_nil (A : Option Addr) (cap : Nat) (f : Value) (W : World) : Calls Try.prog 149 #[.slice A 0 cap, .int .i64 0, .int .i64 0, f] W fun e w' => e = .returned (.tuple #[]) ∧ w' = W := by
  go_enter Try.func149, Try.ntmps149
  go_wp2
  go_loopw [8] (fun v8 wr => v8 = .int .i64 1 ∧ wr = W) (fun _ _ => 0)
  case atStart => exact ⟨rfl, rfl⟩
  case round =>
    obtain ⟨rfl, rfl⟩ := hrel
    go_wp2
    go_end0
    exact ⟨rfl, rfl⟩
set_option maxHeartbeats 4000000 in
set_option maxRecDepth 100000 in
theorem stab_nil (A : Option Addr) (cap : Nat) (f : Value) (W : World) : Calls Try.prog 135 #[.slice A 0 cap, .int .i64 0, f] W fun e w' => e = .returned (.tuple #[]) ∧ w' = W := by
  go_enter Try.func135, Try.ntmps135
  go_wp2
  go_loopw [7, 8] (fun v7 v8 wr => v7 = .int .i64 0 ∧ v8 = .int .i64 20 ∧ wr = W) (fun _ _ _ => 0)
  case atStart => exact ⟨rfl, rfl, rfl⟩
  case round =>
    obtain ⟨rfl, rfl, rfl⟩ := hrel
    go_wp2_with (go_at_call 149; (with_reducible refine (ins_nil A cap _ _).mono ?_); rintro e w6 ⟨rfl, rfl⟩)
    go_loopw [6] (fun v6 wr => v6 = .int .i64 20 ∧ wr = w6) (fun _ _ => 0)
    case atStart => exact ⟨rfl, rfl⟩
    case round =>
      obtain ⟨rfl, rfl⟩ := hrel
      go_wp2
      go_end0
      exact ⟨rfl, rfl⟩
set_option maxHeartbeats 4000000 in
set_option maxRecDepth 100000 in
theorem sort_nil (A : Option Addr) (cap : Nat) (f : Value) (W : World) : Calls Try.prog 111 #[.slice A 0 cap, f] W fun e w' => e = .returned (.tuple #[]) ∧ w' = W := by
  go_enter Try.func111, Try.ntmps111
  go_wp2_with (go_at_call 135; (with_reducible refine (stab_nil A cap _ _).mono ?_); rintro e w6 ⟨rfl, rfl⟩)
  go_end0
  exact ⟨rfl, rfl⟩
set_option maxRecDepth 100000 in
theorem around_sort (o : S23) (l : List S23) (A : Option Addr) (c go gl base : Nat) (W : World) (u : Value) (ho : validP o = true) (hv : ∀ i : Fin l.length, validP (rd_T23 l (i.val : Int)) = true) (hn : ∀ i : Fin l.length, rd_T23 l (i.val : Int) ≠ o)
    (hl : l.length ≤ 200) (hC : Kd.C k23 W A l.length l) (hgo : Blk W go #[.int .i64 o.f0, .int .i64 o.f1] 23) (hgl : Blk W gl #[.slice A l.length c] 39)
    (hrow : 0 < l.length → ∀ ad, A = some ad → some ad.block ≠ u.ownBlock)
    (HO : Kd.R (Kd.int .i64) 3 W base (fun _ => True) u ((List.range l.length).map Int.ofNat)) :
    Calls Try.prog 111 #[u, .func (.func 112) #[] #[.pointer (some ⟨gl, 0, none⟩), .pointer (some ⟨go, 0, none⟩)]] W fun e w' =>
      e = .returned (.tuple #[]) ∧ Kd.R (Kd.int .i64) 3 w' base (fun _ => True) u (Stab.isort (fun i k => decide (cfA o (rd_T23 l i) (rd_T23 l k) < 0)) ((List.range l.length).map Int.ofNat)) ∧ W.grownBy w' u.ownBlock := by
  have own := Kd.own_of_R HO
  rcases Nat.eq_zero_or_pos l.length with h0 | hpos
  · obtain ⟨A0, cap, hu⟩ : ∃ A0 cap, u = .slice A0 0 cap := by
      obtain ⟨hl1, h⟩ := own
      rcases h with ⟨h, hx⟩ | ⟨g', cap', cur, he, _⟩
      · exact ⟨none, 0, h⟩
      · refine ⟨some ⟨g', 0, none⟩, cap', ?_⟩
        rw [he]; simp [h0]
    subst hu
    refine (sort_nil A0 cap _ W).mono ?_
    rintro e w' ⟨rfl, rfl⟩
    have hnil : l = [] := List.eq_nil_of_length_eq_zero h0
    subst hnil
    exact ⟨rfl, HO, rfl, rfl, rfl, Nat.le_refl _, fun _ _ _ => rfl⟩
  · haveI : Inhabited (Fin l.length) := ⟨⟨0, hpos⟩⟩
    obtain ⟨g, cap, hu⟩ : ∃ g cap, u = .slice (some ⟨g, 0, none⟩) l.length cap := by
      obtain ⟨hl1, h⟩ := own
      rcases h with ⟨h, hx⟩ | ⟨g', cap', cur, he, _⟩
      · rw [List.length_map, List.length_range] at hx; omega
      · refine ⟨g', cap', ?_⟩
        rw [he]
        simp
    subst hu
    have enc_eq : encs (Value.int .i64) ((List.range l.length).map Int.ofNat) = (List.finRange l.length).map (fun i => Value.int .i64 ((i.val : Nat) : Int)) := by
      unfold encs
      apply List.ext_getElem <;> simp
    have hlen : ((List.range l.length).map Int.ofNat).length = l.length := by simp
    rw [enc_eq, hlen] at own
    obtain ⟨hH, hb1, hb2⟩ := Stab.own_holds (enc := fun i : Fin l.length => Value.int .i64 ((i.val : Nat) : Int)) own
    have O := around_swo (o := o) (n := l.length) (l := fun i => rd_T23 l (i.val : Int)) ho hv hn
    have hcmp : CmpLays1 Try.prog 112 #[.pointer (some ⟨gl, 0, none⟩), .pointer (some ⟨go, 0, none⟩)] (fun i : Fin l.length => Value.int .i64 ((i.val : Nat) : Int)) (fun i k => cfA o (rd_T23 l (i.val : Int)) (rd_T23 l (k.val : Int))) g 0 (List.finRange l.length).toArray.size W := by
      intro m os dk hdk x y
      have hx := at_T23 hC (x.val : Int) (by omega) (by omega)
      have hy := at_T23 hC (y.val : Int) (by omega) (by omega)
      obtain ⟨ad, e1, p0, p1⟩ := hx
      obtain ⟨ad2, e2, q0, q1⟩ := hy
      obtain rfl : ad = ad2 := by rw [e1] at e2; injection e2
      subst e1
      simp only [Int.toNat_natCast] at p0 p1 q0 q1
      have oth : ∀ a v, W.cell? a = some v → a.block ≠ g → (sortWorld (fun i : Fin l.length => Value.int .i64 ((i.val : Nat) : Int)) W g 0 m dk os).cell? a = some v := by
        intro a v hv hne
        have hb := (Stab.grownBy_own (enc := fun i : Fin l.length => Value.int .i64 ((i.val : Nat) : Int)) (w := W) (g := g) (n := m) (os := os) dk).block a.block (World.block_lt_of_cell? W _ hv) (fun e => hne (by injection e))
        rw [← hv]
        unfold World.cell?
        rw [show (sortWorld (fun i : Fin l.length => Value.int .i64 ((i.val : Nat) : Int)) W g 0 m dk os).heap[a.block]? = W.heap[a.block]? from hb]
      refine (around_cmp l.length c ad gl go x.val y.val o (rd_T23 l (x.val : Int)) (rd_T23 l (y.val : Int)) x.isLt y.isLt _ ⟨oth _ _ (hgl.cell 0) ?_, oth _ _ (hgo.cell 0) ?_, oth _ _ (hgo.cell 1) ?_, oth _ _ p0 ?_, oth _ _ p1 ?_, oth _ _ q0 ?_, oth _ _ q1 ?_⟩).mono ?_
      case refine_8 => rintro e w' ⟨rfl, hg⟩; exact ⟨rfl, hg⟩
      · exact fun e => Kd.R_ne HO hgl (by decide) (congrArg some e)
      · exact fun e => Kd.R_ne HO hgo (by decide) (congrArg some e)
      · exact fun e => Kd.R_ne HO hgo (by decide) (congrArg some e)
      all_goals exact fun e => hrow hpos _ rfl (congrArg some (show ad.block = g by rw [← e]; simp only [Addr.add] <;> (try split) <;> rfl))
    refine (Stab.sortStableA _ _ O 112 _ g 0 cap (List.finRange l.length).toArray W l.length (List.finRange l.length).toArray W ⟨fun _ => rfl, hH, hb1⟩ (fun _ _ => rfl) hcmp (by simp) (by simp) (SW.start hH) (by omega)).mono ?_
    rintro e w' ⟨rfl, e', hs, h1, h2, h3⟩
    obtain ⟨k1, k2⟩ := Stab.own_sorted (by simp [hs]) own h3
    have hse := Stab.stable_eq O (by simp) hs h1 h2
    refine ⟨rfl, ?_, k2⟩
    have hm : ∀ ys : List (Fin l.length), (Stab.isort (ltOf (fun i k : Fin l.length => cfA o (rd_T23 l (i.val : Int)) (rd_T23 l (k.val : Int)))) ys).map (fun i => ((i.val : Nat) : Int)) = Stab.isort (fun i k => decide (cfA o (rd_T23 l i) (rd_T23 l k) < 0)) (ys.map (fun i => ((i.val : Nat) : Int))) :=
      fun ys => Stab.isort_map (fun i k => decide (cfA o (rd_T23 l i) (rd_T23 l k) < 0)) (fun i : Fin l.length => ((i.val : Nat) : Int)) ys
    have hr : (List.range l.length).map Int.ofNat = (List.finRange l.length).map (fun i => ((i.val : Nat) : Int)) := by
      apply List.ext_getElem <;> simp
    have hlist := hm (List.finRange l.length)
    rw [show (List.finRange l.length).toArray.toList = List.finRange l.length by simp] at hse
    rw [← hse] at hlist
    rw [hr, ← hlist]
    refine Kd.R_of_own ?_ (fun _ _ => trivial)
    rw [show (e'.toList.map (fun i => ((i.val : Nat) : Int))).length = l.length by simp [hs]]
    have : encs (Value.int .i64) (e'.toList.map (fun i => ((i.val : Nat) : Int))) = e'.toList.map (fun i : Fin l.length => Value.int .i64 ((i.val : Nat) : Int)) := by unfold encs; rw [List.map_map]; rfl
    rw [this]
    exact k1
end Go.Proofs.Ytckaejgamfllfaa.G
end

section
namespace Go.Proofs.Ytckaejgamfllfaa.G
open Go.RowKit Go.Proofs.YtckaejgamfllfaaW.PrintWords Go.Proofs.YtckaejgamfllfaaW.PrintLast Go.Proofs.YtckaejgamfllfaaW.PrintMore
set_option linter.unusedVariables false
set_option linter.unusedSimpArgs false
def aroundLt (o : S23) (l : List S23) (i k : Int) : Bool := decide (cfA o (rd_T23 l i) (rd_T23 l k) < 0)
def aroundS (o : S23) (l : List S23) : List Int := Stab.isort (aroundLt o l) ((List.range l.length).map Int.ofNat)
def plane_Around.f (a0_0 a0_1 : Int) (l1 : List S23) : Option (List Int × Int) :=
  if 200 < l1.length then some ([], 2) else
  if (l1.all validP && validP ⟨a0_0, a0_1⟩ && !(l1.any (eqP ⟨a0_0, a0_1⟩))) = true then some (aroundS ⟨a0_0, a0_1⟩ l1, 0) else some ([], 1)
set_option maxHeartbeats 40000000 in
set_option maxRecDepth 100000 in
theorem plane_Around.calls (a0_0 a0_1 : Int) (A1 : Option Addr) (c1 : Nat) (l1 : List S23) (r1 : List Int) (r2 : Int) (w : World) (hr1 : Kd.C k23 w A1 l1.length l1) (hc1 : l1.length ≤ c1) (h : plane_Around.f a0_0 a0_1 l1 = some (r1, r2)) :
    Calls Try.prog 45 #[.agg #[.int .i64 a0_0, .int .i64 a0_1], .slice A1 l1.length c1] w fun e w' => ∃ v0_, e = .returned (.tuple #[v0_, .int .i64 r2]) ∧ Kd.R (Kd.int .i64) 3 w' w.heap.size (fun _ => True) v0_ r1 ∧ Below w.heap.size w w' := by
  have hu23 := Try.underlying23
  have hu39 := Try.underlying39
  have HR := Aside0.mk hr1
  have HC := Aside0.mk hc1
  have HH := Aside0.mk h
  clear hr1 hc1 h
  obtain ⟨W0, hW0⟩ : ∃ W0, W0 = (w.alloc (.cells #[.int .i64 a0_0, .int .i64 a0_1] 23)).alloc (.cells #[.slice A1 l1.length c1] 39) := ⟨_, rfl⟩
  obtain ⟨go, hgo⟩ : ∃ g, g = w.heap.size := ⟨_, rfl⟩
  obtain ⟨gl, hgl⟩ : ∃ g, g = w.heap.size + 1 := ⟨_, rfl⟩
  have hs0 : W0.heap.size = w.heap.size + 2 := by rw [hW0]; simp
  have B0 : Blk W0 go #[.int .i64 a0_0, .int .i64 a0_1] 23 := by rw [hW0, hgo]; exact (Blk.new w 23 _).alloc _
  have B1 : Blk W0 gl #[.slice A1 l1.length c1] 39 := by rw [hW0, hgl]; have := Blk.new (w.alloc (.cells #[.int .i64 a0_0, .int .i64 a0_1] 23)) 39 #[.slice A1 l1.length c1]; rw [World.size_alloc] at this; exact this
  have hB : Below w.heap.size w W0 := by rw [hW0]; exact ((Below.refl _ w).alloc (Nat.le_refl _) _).alloc (by simp) _
  have HW := Aside0.mk hW0
  have K := Aside0.mk (show ∀ W, Below W0.heap.size W0 W → Blk W go #[.int .i64 a0_0, .int .i64 a0_1] 23 ∧ Blk W gl #[.slice A1 l1.length c1] 39 ∧ Below w.heap.size w W ∧ w.heap.size + 2 ≤ W.heap.size from
    fun W hb => ⟨B0.below hb, B1.below hb, below_then hB (by omega) hb, by have := hb.size; omega⟩)
  have GO := Aside0.mk hgo; have GL := Aside0.mk hgl
  have NE := Aside0.mk (show go ≠ gl by omega)
  clear B0 B1 hB hs0 hW0 hgo hgl
  have HX := Aside0.mk (Below.refl W0.heap.size W0)
  go_enter Try.func45, Try.ntmps45
  go_upto_region 1 with fail
  rw [← HW.out, ← GL.out, ← GO.out]
  have oc0 : W0.cell? ⟨go, 0, none⟩ = some (.int .i64 a0_0) := ((K.out W0 HX.out)).1.cell 0
  have oc1 : W0.cell? ⟨go, 1, none⟩ = some (.int .i64 a0_1) := ((K.out W0 HX.out)).1.cell 1
  have lc0 : W0.cell? ⟨gl, 0, none⟩ = some (.slice A1 l1.length c1) := ((K.out W0 HX.out)).2.1.cell 0
  (try simp only [Act.put, List.setIfInBounds_toArray, List.set_cons_zero, List.set_cons_succ])
  by_cases h200 : 200 < l1.length
  · have hh := HH.out
    unfold plane_Around.f at hh
    rw [if_pos h200] at hh
    simp only [Option.some.injEq, Prod.mk.injEq] at hh
    obtain ⟨rfl, rfl⟩ := hh
    have hd : decide ((200 : Int) < (l1.length : Int)) = true := decide_eq_true (by omega)
    go_wp2
    go_ret2
    exact ⟨_, rfl, Kd.R_nil _ _ _ _ _, (K.out _ HX.out).2.2.1⟩
  · have hd : decide ((200 : Int) < (l1.length : Int)) = false := decide_eq_false (by omega)
    have HL := Aside0.mk (show l1.length ≤ 200 by omega)
    have hh := HH.out
    unfold plane_Around.f at hh
    rw [if_neg h200] at hh
    clear HH h200
    have HH := Aside0.mk hh
    clear hh
    obtain ⟨x, hx⟩ : ∃ x, l1.all validP = x := ⟨_, rfl⟩
    obtain ⟨y, hy⟩ : ∃ x, validP ⟨a0_0, a0_1⟩ = x := ⟨_, rfl⟩
    obtain ⟨z, hz⟩ : ∃ x, l1.any (eqP ⟨a0_0, a0_1⟩) = x := ⟨_, rfl⟩
    have VL := Aside0.mk (show plane_valid.f l1 = some x by unfold plane_valid.f; rw [if_pos (by have := HL.out; omega), hx])
    have VO := Aside0.mk (show plane_Valid.f a0_0 a0_1 = some y by rw [plane_Valid_eq, hy])
    have VC := Aside0.mk (show api_Point_110.f (l1.length + 1) l1 a0_0 a0_1 = some z by
      have := contains_eq ⟨a0_0, a0_1⟩ l1 (by have := HL.out; omega) (l1.length + 1) (by omega)
      rw [← hz]; exact this)
    have HV := Aside0.mk (And.intro hx (And.intro hy hz))
    clear hx hy hz
    go_upto_region 3 with fail
    (try simp only [Act.put, List.setIfInBounds_toArray, List.set_cons_zero, List.set_cons_succ])
    go_cut [12] (fun v12 wd => v12 = .bool (!(x && y && !z)) ∧ Aside0 (Blk wd go #[.int .i64 a0_0, .int .i64 a0_1] 23 ∧ Blk wd gl #[.slice A1 l1.length c1] 39 ∧ Below w.heap.size w wd ∧ w.heap.size + 2 ≤ wd.heap.size))
    case first =>
      cases x with
      | false =>
        go_wp2_with (first | (go_at_call 78; (with_reducible refine (plane_valid.calls A1 c1 l1 _ _ (Kd.C_below HR.out (K.out _ HX.out).2.2.1) HC.out VL.out).mono ?_); rintro e wp ⟨rfl, hb⟩; have HX2 := Aside0.mk (below_then HX.out HX.out.size hb); clear hb HX; have HX := HX2; clear HX2; have oc0 : wp.cell? ⟨go, 0, none⟩ = some (.int .i64 a0_0) := ((K.out wp HX.out)).1.cell 0; have oc1 : wp.cell? ⟨go, 1, none⟩ = some (.int .i64 a0_1) := ((K.out wp HX.out)).1.cell 1; have lc0 : wp.cell? ⟨gl, 0, none⟩ = some (.slice A1 l1.length c1) := ((K.out wp HX.out)).2.1.cell 0) | (go_at_call 17; (with_reducible refine (plane_Valid.calls a0_0 a0_1 _ _ VO.out).mono ?_); rintro e wq ⟨rfl, hb⟩; have HX2 := Aside0.mk (below_then HX.out HX.out.size hb); clear hb HX; have HX := HX2; clear HX2; have oc0 : wq.cell? ⟨go, 0, none⟩ = some (.int .i64 a0_0) := ((K.out wq HX.out)).1.cell 0; have oc1 : wq.cell? ⟨go, 1, none⟩ = some (.int .i64 a0_1) := ((K.out wq HX.out)).1.cell 1; have lc0 : wq.cell? ⟨gl, 0, none⟩ = some (.slice A1 l1.length c1) := ((K.out wq HX.out)).2.1.cell 0) | (go_at_call 110; (with_reducible refine (api_Point_110.calls (l1.length + 1) A1 c1 l1 a0_0 a0_1 _ _ (Kd.C_below HR.out (K.out _ HX.out).2.2.1) HC.out VC.out).mono ?_); rintro e wr ⟨rfl, hb⟩; have HX2 := Aside0.mk (below_then HX.out HX.out.size hb); clear hb HX; have HX := HX2; clear HX2; have oc0 : wr.cell? ⟨go, 0, none⟩ = some (.int .i64 a0_0) := ((K.out wr HX.out)).1.cell 0; have oc1 : wr.cell? ⟨go, 1, none⟩ = some (.int .i64 a0_1) := ((K.out wr HX.out)).1.cell 1; have lc0 : wr.cell? ⟨gl, 0, none⟩ = some (.slice A1 l1.length c1) := ((K.out wr HX.out)).2.1.cell 0))
        go_meet
        case rel => exact ⟨rfl, ⟨K.out _ HX.out⟩⟩
      | true =>
        cases y with
        | false =>
          go_wp2_with (first | (go_at_call 78; (with_reducible refine (plane_valid.calls A1 c1 l1 _ _ (Kd.C_below HR.out (K.out _ HX.out).2.2.1) HC.out VL.out).mono ?_); rintro e wp ⟨rfl, hb⟩; have HX2 := Aside0.mk (below_then HX.out HX.out.size hb); clear hb HX; have HX := HX2; clear HX2; have oc0 : wp.cell? ⟨go, 0, none⟩ = some (.int .i64 a0_0) := ((K.out wp HX.out)).1.cell 0; have oc1 : wp.cell? ⟨go, 1, none⟩ = some (.int .i64 a0_1) := ((K.out wp HX.out)).1.cell 1; have lc0 : wp.cell? ⟨gl, 0, none⟩ = some (.slice A1 l1.length c1) := ((K.out wp HX.out)).2.1.cell 0) | (go_at_call 17; (with_reducible refine (plane_Valid.calls a0_0 a0_1 _ _ VO.out).mono ?_); rintro e wq ⟨rfl, hb⟩; have HX2 := Aside0.mk (below_then HX.out HX.out.size hb); clear hb HX; have HX := HX2; clear HX2; have oc0 : wq.cell? ⟨go, 0, none⟩ = some (.int .i64 a0_0) := ((K.out wq HX.out)).1.cell 0; have oc1 : wq.cell? ⟨go, 1, none⟩ = some (.int .i64 a0_1) := ((K.out wq HX.out)).1.cell 1; have lc0 : wq.cell? ⟨gl, 0, none⟩ = some (.slice A1 l1.length c1) := ((K.out wq HX.out)).2.1.cell 0) | (go_at_call 110; (with_reducible refine (api_Point_110.calls (l1.length + 1) A1 c1 l1 a0_0 a0_1 _ _ (Kd.C_below HR.out (K.out _ HX.out).2.2.1) HC.out VC.out).mono ?_); rintro e wr ⟨rfl, hb⟩; have HX2 := Aside0.mk (below_then HX.out HX.out.size hb); clear hb HX; have HX := HX2; clear HX2; have oc0 : wr.cell? ⟨go, 0, none⟩ = some (.int .i64 a0_0) := ((K.out wr HX.out)).1.cell 0; have oc1 : wr.cell? ⟨go, 1, none⟩ = some (.int .i64 a0_1) := ((K.out wr HX.out)).1.cell 1; have lc0 : wr.cell? ⟨gl, 0, none⟩ = some (.slice A1 l1.length c1) := ((K.out wr HX.out)).2.1.cell 0))
          go_meet
          case rel => exact ⟨rfl, ⟨K.out _ HX.out⟩⟩
        | true =>
          cases z with
          | false =>
            go_wp2_with (first | (go_at_call 78; (with_reducible refine (plane_valid.calls A1 c1 l1 _ _ (Kd.C_below HR.out (K.out _ HX.out).2.2.1) HC.out VL.out).mono ?_); rintro e wp ⟨rfl, hb⟩; have HX2 := Aside0.mk (below_then HX.out HX.out.size hb); clear hb HX; have HX := HX2; clear HX2; have oc0 : wp.cell? ⟨go, 0, none⟩ = some (.int .i64 a0_0) := ((K.out wp HX.out)).1.cell 0; have oc1 : wp.cell? ⟨go, 1, none⟩ = some (.int .i64 a0_1) := ((K.out wp HX.out)).1.cell 1; have lc0 : wp.cell? ⟨gl, 0, none⟩ = some (.slice A1 l1.length c1) := ((K.out wp HX.out)).2.1.cell 0) | (go_at_call 17; (with_reducible refine (plane_Valid.calls a0_0 a0_1 _ _ VO.out).mono ?_); rintro e wq ⟨rfl, hb⟩; have HX2 := Aside0.mk (below_then HX.out HX.out.size hb); clear hb HX; have HX := HX2; clear HX2; have oc0 : wq.cell? ⟨go, 0, none⟩ = some (.int .i64 a0_0) := ((K.out wq HX.out)).1.cell 0; have oc1 : wq.cell? ⟨go, 1, none⟩ = some (.int .i64 a0_1) := ((K.out wq HX.out)).1.cell 1; have lc0 : wq.cell? ⟨gl, 0, none⟩ = some (.slice A1 l1.length c1) := ((K.out wq HX.out)).2.1.cell 0) | (go_at_call 110; (with_reducible refine (api_Point_110.calls (l1.length + 1) A1 c1 l1 a0_0 a0_1 _ _ (Kd.C_below HR.out (K.out _ HX.out).2.2.1) HC.out VC.out).mono ?_); rintro e wr ⟨rfl, hb⟩; have HX2 := Aside0.mk (below_then HX.out HX.out.size hb); clear hb HX; have HX := HX2; clear HX2; have oc0 : wr.cell? ⟨go, 0, none⟩ = some (.int .i64 a0_0) := ((K.out wr HX.out)).1.cell 0; have oc1 : wr.cell? ⟨go, 1, none⟩ = some (.int .i64 a0_1) := ((K.out wr HX.out)).1.cell 1; have lc0 : wr.cell? ⟨gl, 0, none⟩ = some (.slice A1 l1.length c1) := ((K.out wr HX.out)).2.1.cell 0))
            go_meet
            case rel => exact ⟨rfl, ⟨K.out _ HX.out⟩⟩
          | true =>
            go_wp2_with (first | (go_at_call 78; (with_reducible refine (plane_valid.calls A1 c1 l1 _ _ (Kd.C_below HR.out (K.out _ HX.out).2.2.1) HC.out VL.out).mono ?_); rintro e wp ⟨rfl, hb⟩; have HX2 := Aside0.mk (below_then HX.out HX.out.size hb); clear hb HX; have HX := HX2; clear HX2; have oc0 : wp.cell? ⟨go, 0, none⟩ = some (.int .i64 a0_0) := ((K.out wp HX.out)).1.cell 0; have oc1 : wp.cell? ⟨go, 1, none⟩ = some (.int .i64 a0_1) := ((K.out wp HX.out)).1.cell 1; have lc0 : wp.cell? ⟨gl, 0, none⟩ = some (.slice A1 l1.length c1) := ((K.out wp HX.out)).2.1.cell 0) | (go_at_call 17; (with_reducible refine (plane_Valid.calls a0_0 a0_1 _ _ VO.out).mono ?_); rintro e wq ⟨rfl, hb⟩; have HX2 := Aside0.mk (below_then HX.out HX.out.size hb); clear hb HX; have HX := HX2; clear HX2; have oc0 : wq.cell? ⟨go, 0, none⟩ = some (.int .i64 a0_0) := ((K.out wq HX.out)).1.cell 0; have oc1 : wq.cell? ⟨go, 1, none⟩ = some (.int .i64 a0_1) := ((K.out wq HX.out)).1.cell 1; have lc0 : wq.cell? ⟨gl, 0, none⟩ = some (.slice A1 l1.length c1) := ((K.out wq HX.out)).2.1.cell 0) | (go_at_call 110; (with_reducible refine (api_Point_110.calls (l1.length + 1) A1 c1 l1 a0_0 a0_1 _ _ (Kd.C_below HR.out (K.out _ HX.out).2.2.1) HC.out VC.out).mono ?_); rintro e wr ⟨rfl, hb⟩; have HX2 := Aside0.mk (below_then HX.out HX.out.size hb); clear hb HX; have HX := HX2; clear HX2; have oc0 : wr.cell? ⟨go, 0, none⟩ = some (.int .i64 a0_0) := ((K.out wr HX.out)).1.cell 0; have oc1 : wr.cell? ⟨go, 1, none⟩ = some (.int .i64 a0_1) := ((K.out wr HX.out)).1.cell 1; have lc0 : wr.cell? ⟨gl, 0, none⟩ = some (.slice A1 l1.length c1) := ((K.out wr HX.out)).2.1.cell 0))
            go_meet
            case rel => exact ⟨rfl, ⟨K.out _ HX.out⟩⟩
    case rest =>
      obtain ⟨rfl, KK⟩ := hcut
      clear K HX oc0 oc1 lc0 VL VO VC
      by_cases hall : (x && y && !z) = true
      · rw [hall]
        have hh := HH.out
        rw [HV.out.1, HV.out.2.1, HV.out.2.2, if_pos hall] at hh
        simp only [Option.some.injEq, Prod.mk.injEq] at hh
        obtain ⟨hr1, rfl⟩ := hh
        have HR1 := Aside0.mk hr1
        clear hr1
        have hl : l1.length < 9223372036854775807 := by have := HL.out; omega
        have lc0 : wc.cell? ⟨gl, 0, none⟩ = some (.slice A1 l1.length c1) := KK.out.2.1.cell 0
        go_wp2
        go_loopw [28, 6] (fun v28 v6 wr => ∃ i : Nat, i ≤ l1.length ∧ v28 = .int .i64 i ∧ Aside0 (Kd.R (Kd.int .i64) 3 wr w.heap.size (fun _ => True) v6 ((List.range i).map Int.ofNat)) ∧ Aside0 (Blk wr go #[.int .i64 a0_0, .int .i64 a0_1] 23 ∧ Blk wr gl #[.slice A1 l1.length c1] 39 ∧ Below w.heap.size w wr ∧ w.heap.size + 2 ≤ wr.heap.size)) (fun v28 _ _ => l1.length - (intOf v28).toNat)
        case atStart => exact ⟨0, by omega, rfl, ⟨Kd.R_nil _ _ _ _ _⟩, KK⟩
        case round =>
          clear KK lc0
          obtain ⟨i, hi, rfl, HO, KR⟩ := hrel
          by_cases hlt : i < l1.length
          · obtain ⟨xs, hxs⟩ : ∃ xs, xs = (List.range i).map Int.ofNat := ⟨_, rfl⟩
            rw [← hxs] at HO
            have HXS := Aside0.mk hxs
            have HLX := Aside0.mk (show xs.length ≤ 200 by rw [hxs]; have := HL.out; simp; omega)
            clear hxs
            go_wp2_with (first | ((with_reducible refine gate_builtin (b := .append) (xs := #[.tmp 31, .tmp 33]) rfl ?_); at_builtin; refine Kd.R_append (Kd.int .i64) (w0 := w) w.heap.size rfl (.tmp 31) (.tmp 33) 62 3 (.int .i64 0) 8 rfl Try.underlying62 info3 rfl (by decide) (by omega) u6 xs (i : Int) [.int .i64 (i : Int)] (fun _ => True) (fun _ => False) rfl rfl ?aP (fun _ hk => hk.elim) ?aF ?aO ?aB ?aS ?aL ?_; (case aP => exact rfl); (case aB => exact (by repeat (first | (with_reducible first | exact KR.out.2.2.1 | apply below_alloc | apply pw_below_drewN | apply below_drew1)))); (case aF => exact (fun _ _ => trivial)); (case aO => exact (by (with_reducible repeat (first | apply Kd.R_alloc | apply Kd.R_drewN | apply Kd.R_drew)); exact HO.out)); (case aS => exact (below_size (by repeat (first | (with_reducible first | exact KR.out.2.2.1 | apply below_alloc | apply pw_below_drewN | apply below_drew1))))); (case aL => have := HLX.out; omega); intro v34 w16 ho hb hg hat; have KN := Aside0.mk (And.intro (blk_grown (g := go) (o := .cells #[.int .i64 a0_0, .int .i64 a0_1] 23 (0, 0)) (by (with_reducible repeat (first | refine blk_drewN ?_ _ | refine blk_drew ?_ | refine blk_alloc ?_ _)); exact KR.out.1) hg (Kd.R_ne HO.out KR.out.1 (by decide))) (And.intro (blk_grown (g := gl) (o := .cells #[.slice A1 l1.length c1] 39 (0, 0)) (by (with_reducible repeat (first | refine blk_drewN ?_ _ | refine blk_drew ?_ | refine blk_alloc ?_ _)); exact KR.out.2.1) hg (Kd.R_ne HO.out KR.out.2.1 (by decide))) (And.intro hb ho))); clear ho hb hg hat))
            go_roundw
            case rel => refine ⟨_, _, _, _, _, _, _, _, _, _, ?_, rfl⟩; exact ⟨i + 1, by omega, by go_num, ⟨by rw [List.range_succ, List.map_append]; rw [HXS.out] at KN; exact KN.out.2.2.2⟩, ⟨KN.out.1, KN.out.2.1, KN.out.2.2.1, by have := Blk.lt (show Blk w16 gl #[.slice A1 l1.length c1] 39 from KN.out.2.1); have := GL.out; omega⟩⟩
            case measure => simp [intOf]; omega
          · obtain rfl : i = l1.length := by omega
            have hmem : ∀ j : Fin l1.length, rd_T23 l1 (j.val : Int) ∈ l1 := fun j => rd_T23_mem (by omega) (by omega)
            have hxyz : x = true ∧ y = true ∧ z = false := by simpa [and_assoc] using hall
            have SV := Aside0.mk (show ∀ j : Fin l1.length, validP (rd_T23 l1 (j.val : Int)) = true from fun j => List.all_eq_true.1 (HV.out.1.trans hxyz.1) _ (hmem j))
            have SO := Aside0.mk (show validP ⟨a0_0, a0_1⟩ = true from HV.out.2.1.trans hxyz.2.1)
            have SN := Aside0.mk (show ∀ j : Fin l1.length, rd_T23 l1 (j.val : Int) ≠ ⟨a0_0, a0_1⟩ from fun j e => by
              have := List.any_eq_false.1 (HV.out.2.2.trans hxyz.2.2) _ (hmem j)
              rw [e] at this
              exact this (by simp [eqP]))
            have SR := Aside0.mk (show 0 < l1.length → ∀ ad, A1 = some ad → some ad.block ≠ u6.ownBlock from fun hp ad e he => by
              obtain ⟨ad2, e2, p0, _⟩ := at_T23 HR.out 0 (by omega) (by omega)
              rw [e] at e2
              injection e2 with e2
              subst e2
              have h1 := World.block_lt_of_cell? w _ p0
              have h2 := (Kd.own_of_R HO.out).lt _ he.symm
              have h3 : (ad.add ((0 : Int).toNat * 2)).block = ad.block := by unfold Addr.add; split <;> rfl
              omega)
            clear hmem hxyz hall
            go_wp2_with (go_at_call 111; (with_reducible refine (around_sort ⟨a0_0, a0_1⟩ l1 A1 c1 go gl w.heap.size _ u6 SO.out SV.out SN.out HL.out (Kd.C_below HR.out (by repeat (with_reducible first | exact KR.out.2.2.1 | apply below_alloc | apply pw_below_drewN | apply below_drew1))) (by (with_reducible repeat (first | refine blk_drewN ?_ _ | refine blk_drew ?_ | refine blk_alloc ?_ _)); exact KR.out.1) (by (with_reducible repeat (first | refine blk_drewN ?_ _ | refine blk_drew ?_ | refine blk_alloc ?_ _)); exact KR.out.2.1) SR.out (by (with_reducible repeat (first | apply Kd.R_alloc | apply Kd.R_drewN | apply Kd.R_drew)); exact HO.out)).mono ?_); rintro e wz ⟨rfl, hb1, hb2⟩; have HZ := Aside0.mk hb1; have HG := Aside0.mk (pw_below_grown (B := w.heap.size) (w := w) (by repeat (with_reducible first | exact KR.out.2.2.1 | apply below_alloc | apply pw_below_drewN | apply below_drew1)) _ (by have := KR.out.2.2.2; simp; omega) hb2 (fun k hk => ((Kd.own_of_R HO.out).lt k hk).1)); clear hb1 hb2)
            go_ret2
            refine ⟨_, rfl, ?_, HG.out⟩
            rw [← HR1.out]
            exact HZ.out
      · have hf : (x && y && !z) = false := by simpa using hall
        rw [hf]
        have hh := HH.out
        rw [HV.out.1, HV.out.2.1, HV.out.2.2, if_neg hall] at hh
        simp only [Option.some.injEq, Prod.mk.injEq] at hh
        obtain ⟨rfl, rfl⟩ := hh
        go_wp2
        go_ret2
        exact ⟨_, rfl, Kd.R_nil _ _ _ _ _, KK.out.2.2.1⟩
end Go.Proofs.Ytckaejgamfllfaa.G
end

section
namespace Go.Proofs.Ytckaejgamfllfaa.G
open Go.RowKit Go.Proofs.YtckaejgamfllfaaW.PrintWords Go.Proofs.YtckaejgamfllfaaW.PrintLast Go.Proofs.YtckaejgamfllfaaW.PrintMore
attribute [local go_sem] max2_int min2_int max_two min_two max_three min_three max_four min_four
set_option linter.unusedVariables false
set_option linter.unusedSimpArgs false
def plane_span.f (a0_0 : Int) (a0_1 : Int) : Option (Bool) := (plane_within.f a0_0 (-1048576) 1048576).bind fun t550 => (if t550 = true then ((plane_within.f a0_1 a0_0 1048576).bind fun t551 => (some t551)) else (some false))
set_option maxHeartbeats 8000000 in
set_option maxRecDepth 100000 in
theorem plane_span.calls (a0_0 : Int) (a0_1 : Int) (r : Bool) (w : World) (h : plane_span.f a0_0 a0_1 = some r) :
  Calls Try.prog 123 #[.agg #[.int .i64 a0_0, .int .i64 a0_1]] w fun e w' => e = .returned (.bool r) ∧ Below w.heap.size w w' := by
 have hu50 := Try.underlying50
 have HB := Aside0.mk (Below.refl w.heap.size w)
 have H : ((plane_within.f a0_0 (-1048576) 1048576).bind fun t550 => (if t550 = true then ((plane_within.f a0_1 a0_0 1048576).bind fun t551 => (some t551)) else (some false))) = some r := h
 clear h
 replace H := Option.bind_eq_some_iff.mp H
 obtain ⟨t550, A20, H⟩ := H
 replace H : (if t550 = true then ((plane_within.f a0_1 a0_0 1048576).bind fun t551 => (some t551)) else (some false)) = some r := H
 have A2 := Aside0.mk A20
 clear A20
 by_cases c3 : t550 = true
 ·subst c3
  have H1 : ((plane_within.f a0_1 a0_0 1048576).bind fun t551 => (some t551)) = some r := by rw [if_pos rfl] at H; exact H
  clear H
  have H := H1
  clear H1
  replace H := Option.bind_eq_some_iff.mp H
  obtain ⟨t551, A40, H⟩ := H
  replace H : (some t551) = some r := H
  have A4 := Aside0.mk A40
  clear A40
  obtain rfl := Option.some.inj H
  go_enter Try.func123, Try.ntmps123
  go_wp2_with (first | ((with_reducible refine gate_dst (N := 1) rfl ?_); refine box_event ?hg (N := 1) ?hd (cs := #[.int .i64 a0_0, .int .i64 a0_1]) (t := 50) ?hr ?_; (case hd => rfl); (case hg => rfl); (case hr => first | (go_simp; done) | (go_simp; rfl)); intro gb549 hg w5 hbox hb; have BK549 := Aside0.mk (hbox); have GW549 := geBA HB hg; have GE549 := geBA HB hg; replace HB := Aside0.mk (below_step (hk HB) hb); clear hb hbox hg; have hcz6_0 : w5.cell? ⟨gb549, 0, none⟩ = some (.int .i64 a0_0) := (blk_cell BK549.out 0).trans rfl; have hcz6_1 : w5.cell? ⟨gb549, 1, none⟩ = some (.int .i64 a0_1) := (blk_cell BK549.out 1).trans rfl; have hfz6_0 := blk_frozen BK549.out 0; have hfz6_1 := blk_frozen BK549.out 1) | ((with_reducible refine gate_callee (f := 76) rfl ?_); refine goesL_ (some 5) rfl rfl Try.func76 (by kernel_rfl) rfl #[.int .i64 a0_0, .int .i64 (-1048576), .int .i64 1048576] rfl (by (try simp only [List.map_toArray, List.map_cons, List.map_nil]); first | done | rfl | (simp only [List.length_drop, List.length_take]; rfl)) ?_; (with_reducible refine (plane_within.calls a0_0 (-1048576) 1048576 true _ A2.out).mono ?_); rintro e w' ⟨rfl, ⟨nd, rfl⟩⟩; refine ⟨_, rfl, ?_⟩) | (go_at_call 76; (with_reducible refine (plane_within.calls a0_1 a0_0 1048576 t551 _ A4.out).mono ?_); rintro e w' ⟨rfl, ⟨nd, rfl⟩⟩))
  go_ret
  exact ⟨by first | rfl | (simp [errW_none, errW_some] <;> rfl) | (simp [*, errW_none, errW_some] <;> rfl), by repeat (first | (with_reducible first | exact HB.out | apply below_alloc | apply pw_below_drewN | apply below_drew1 | refine below_set ?_ GE549.out) | exact HB.out)⟩
 ·replace c3 := Bool.eq_false_iff.mpr c3
  subst c3
  have H1 : (some false) = some r := by rw [if_neg (show ¬ (false = true) by decide)] at H; exact H
  clear H
  have H := H1
  clear H1
  obtain rfl := Option.some.inj H
  go_enter Try.func123, Try.ntmps123
  go_wp2_with (first | ((with_reducible refine gate_dst (N := 1) rfl ?_); refine box_event ?hg (N := 1) ?hd (cs := #[.int .i64 a0_0, .int .i64 a0_1]) (t := 50) ?hr ?_; (case hd => rfl); (case hg => rfl); (case hr => first | (go_simp; done) | (go_simp; rfl)); intro gb549 hg w7 hbox hb; have BK549 := Aside0.mk (hbox); have GW549 := geBA HB hg; have GE549 := geBA HB hg; replace HB := Aside0.mk (below_step (hk HB) hb); clear hb hbox hg; have hcz8_0 : w7.cell? ⟨gb549, 0, none⟩ = some (.int .i64 a0_0) := (blk_cell BK549.out 0).trans rfl; have hcz8_1 : w7.cell? ⟨gb549, 1, none⟩ = some (.int .i64 a0_1) := (blk_cell BK549.out 1).trans rfl; have hfz8_0 := blk_frozen BK549.out 0; have hfz8_1 := blk_frozen BK549.out 1) | ((with_reducible refine gate_callee (f := 76) rfl ?_); refine goesL_ (some 5) rfl rfl Try.func76 (by kernel_rfl) rfl #[.int .i64 a0_0, .int .i64 (-1048576), .int .i64 1048576] rfl (by (try simp only [List.map_toArray, List.map_cons, List.map_nil]); first | done | rfl | (simp only [List.length_drop, List.length_take]; rfl)) ?_; (with_reducible refine (plane_within.calls a0_0 (-1048576) 1048576 false _ A2.out).mono ?_); rintro e w' ⟨rfl, ⟨nd, rfl⟩⟩; refine ⟨_, rfl, ?_⟩))
  go_ret
  exact ⟨by first | rfl | (simp [errW_none, errW_some] <;> rfl) | (simp [*, errW_none, errW_some] <;> rfl), by repeat (first | (with_reducible first | exact HB.out | apply below_alloc | apply pw_below_drewN | apply below_drew1 | refine below_set ?_ GE549.out) | exact HB.out)⟩
end Go.Proofs.Ytckaejgamfllfaa.G
end

section
namespace Go.Proofs.Ytckaejgamfllfaa.G
open Go.RowKit Go.Proofs.YtckaejgamfllfaaW.PrintWords Go.Proofs.YtckaejgamfllfaaW.PrintLast Go.Proofs.YtckaejgamfllfaaW.PrintMore
attribute [local go_sem] max2_int min2_int max_two min_two max_three min_three max_four min_four
set_option linter.unusedVariables false
set_option linter.unusedSimpArgs false
def plane_Proper.f (a0_0 : Int) (a0_1 : Int) (a0_2 : Int) (a0_3 : Int) : Option (Bool) := (plane_span.f a0_0 a0_1).bind fun t553 => (if t553 = true then ((plane_span.f a0_2 a0_3).bind fun t554 => (some t554)) else (some false))
set_option maxHeartbeats 8000000 in
set_option maxRecDepth 100000 in
theorem plane_Proper.calls (a0_0 : Int) (a0_1 : Int) (a0_2 : Int) (a0_3 : Int) (r : Bool) (w : World) (h : plane_Proper.f a0_0 a0_1 a0_2 a0_3 = some r) :
  Calls Try.prog 64 #[.agg #[.int .i64 a0_0, .int .i64 a0_1, .int .i64 a0_2, .int .i64 a0_3]] w fun e w' => e = .returned (.bool r) ∧ Below w.heap.size w w' := by
 have hu52 := Try.underlying52
 have hu50 := Try.underlying50
 have HB := Aside0.mk (Below.refl w.heap.size w)
 have H : ((plane_span.f a0_0 a0_1).bind fun t553 => (if t553 = true then ((plane_span.f a0_2 a0_3).bind fun t554 => (some t554)) else (some false))) = some r := h
 clear h
 replace H := Option.bind_eq_some_iff.mp H
 obtain ⟨t553, A20, H⟩ := H
 replace H : (if t553 = true then ((plane_span.f a0_2 a0_3).bind fun t554 => (some t554)) else (some false)) = some r := H
 have A2 := Aside0.mk A20
 clear A20
 by_cases c3 : t553 = true
 ·subst c3
  have H1 : ((plane_span.f a0_2 a0_3).bind fun t554 => (some t554)) = some r := by rw [if_pos rfl] at H; exact H
  clear H
  have H := H1
  clear H1
  replace H := Option.bind_eq_some_iff.mp H
  obtain ⟨t554, A40, H⟩ := H
  replace H : (some t554) = some r := H
  have A4 := Aside0.mk A40
  clear A40
  obtain rfl := Option.some.inj H
  go_enter Try.func64, Try.ntmps64
  go_wp2_with (first | ((with_reducible refine gate_dst (N := 1) rfl ?_); refine box_event ?hg (N := 1) ?hd (cs := #[.int .i64 a0_0, .int .i64 a0_1, .int .i64 a0_2, .int .i64 a0_3]) (t := 52) ?hr ?_; (case hd => rfl); (case hg => rfl); (case hr => first | (go_simp; done) | (go_simp; rfl)); intro gb552 hg w5 hbox hb; have BK552 := Aside0.mk (hbox); have GW552 := geBA HB hg; have GE552 := geBA HB hg; replace HB := Aside0.mk (below_step (hk HB) hb); clear hb hbox hg; have hcz6_0 : w5.cell? ⟨gb552, 0, none⟩ = some (.int .i64 a0_0) := (blk_cell BK552.out 0).trans rfl; have hcz6_1 : w5.cell? ⟨gb552, 1, none⟩ = some (.int .i64 a0_1) := (blk_cell BK552.out 1).trans rfl; have hcz6_2 : w5.cell? ⟨gb552, 2, none⟩ = some (.int .i64 a0_2) := (blk_cell BK552.out 2).trans rfl; have hcz6_3 : w5.cell? ⟨gb552, 3, none⟩ = some (.int .i64 a0_3) := (blk_cell BK552.out 3).trans rfl; have hfz6_0 := blk_frozen BK552.out 0; have hfz6_1 := blk_frozen BK552.out 1; have hfz6_2 := blk_frozen BK552.out 2; have hfz6_3 := blk_frozen BK552.out 3) | ((with_reducible refine gate_callee (f := 123) rfl ?_); refine goesL_ (some 5) rfl rfl Try.func123 (by kernel_rfl) rfl #[.agg #[.int .i64 a0_0, .int .i64 a0_1]] rfl (by (try simp only [List.map_toArray, List.map_cons, List.map_nil]); first | done | rfl | (simp only [List.length_drop, List.length_take]; rfl)) ?_; (with_reducible refine (plane_span.calls a0_0 a0_1 true _ A2.out).mono ?_); rintro e w7 ⟨rfl, hb⟩; refine ⟨_, rfl, ?_⟩; replace BK552 := bkC BK552 hb; replace HB := Aside0.mk (below_step (by repeat (first | (with_reducible first | exact HB.out | apply below_alloc | apply pw_below_drewN | apply below_drew1 | refine below_set ?_ GE552.out) | exact HB.out)) hb); (try clear hb); (try clear hb2); (try clear hk); (try clear hi); have hcz8_0 : w7.cell? ⟨gb552, 0, none⟩ = some (.int .i64 a0_0) := (blk_cell BK552.out 0).trans rfl; have hcz8_1 : w7.cell? ⟨gb552, 1, none⟩ = some (.int .i64 a0_1) := (blk_cell BK552.out 1).trans rfl; have hcz8_2 : w7.cell? ⟨gb552, 2, none⟩ = some (.int .i64 a0_2) := (blk_cell BK552.out 2).trans rfl; have hcz8_3 : w7.cell? ⟨gb552, 3, none⟩ = some (.int .i64 a0_3) := (blk_cell BK552.out 3).trans rfl; have hfz8_0 := blk_frozen BK552.out 0; have hfz8_1 := blk_frozen BK552.out 1; have hfz8_2 := blk_frozen BK552.out 2; have hfz8_3 := blk_frozen BK552.out 3) | (go_at_call 123; (with_reducible refine (plane_span.calls a0_2 a0_3 t554 _ A4.out).mono ?_); rintro e w9 ⟨rfl, hb⟩; replace BK552 := bkC BK552 hb; replace HB := Aside0.mk (below_step (by repeat (first | (with_reducible first | exact HB.out | apply below_alloc | apply pw_below_drewN | apply below_drew1 | refine below_set ?_ GE552.out) | exact HB.out)) hb); (try clear hb); (try clear hb2); (try clear hk); (try clear hi)))
  go_ret
  exact ⟨by first | rfl | (simp [errW_none, errW_some] <;> rfl) | (simp [*, errW_none, errW_some] <;> rfl), by repeat (first | (with_reducible first | exact HB.out | apply below_alloc | apply pw_below_drewN | apply below_drew1 | refine below_set ?_ GE552.out) | exact HB.out)⟩
 ·replace c3 := Bool.eq_false_iff.mpr c3
  subst c3
  have H1 : (some false) = some r := by rw [if_neg (show ¬ (false = true) by decide)] at H; exact H
  clear H
  have H := H1
  clear H1
  obtain rfl := Option.some.inj H
  go_enter Try.func64, Try.ntmps64
  go_wp2_with (first | ((with_reducible refine gate_dst (N := 1) rfl ?_); refine box_event ?hg (N := 1) ?hd (cs := #[.int .i64 a0_0, .int .i64 a0_1, .int .i64 a0_2, .int .i64 a0_3]) (t := 52) ?hr ?_; (case hd => rfl); (case hg => rfl); (case hr => first | (go_simp; done) | (go_simp; rfl)); intro gb552 hg w10 hbox hb; have BK552 := Aside0.mk (hbox); have GW552 := geBA HB hg; have GE552 := geBA HB hg; replace HB := Aside0.mk (below_step (hk HB) hb); clear hb hbox hg; have hcz11_0 : w10.cell? ⟨gb552, 0, none⟩ = some (.int .i64 a0_0) := (blk_cell BK552.out 0).trans rfl; have hcz11_1 : w10.cell? ⟨gb552, 1, none⟩ = some (.int .i64 a0_1) := (blk_cell BK552.out 1).trans rfl; have hcz11_2 : w10.cell? ⟨gb552, 2, none⟩ = some (.int .i64 a0_2) := (blk_cell BK552.out 2).trans rfl; have hcz11_3 : w10.cell? ⟨gb552, 3, none⟩ = some (.int .i64 a0_3) := (blk_cell BK552.out 3).trans rfl; have hfz11_0 := blk_frozen BK552.out 0; have hfz11_1 := blk_frozen BK552.out 1; have hfz11_2 := blk_frozen BK552.out 2; have hfz11_3 := blk_frozen BK552.out 3) | ((with_reducible refine gate_callee (f := 123) rfl ?_); refine goesL_ (some 5) rfl rfl Try.func123 (by kernel_rfl) rfl #[.agg #[.int .i64 a0_0, .int .i64 a0_1]] rfl (by (try simp only [List.map_toArray, List.map_cons, List.map_nil]); first | done | rfl | (simp only [List.length_drop, List.length_take]; rfl)) ?_; (with_reducible refine (plane_span.calls a0_0 a0_1 false _ A2.out).mono ?_); rintro e w12 ⟨rfl, hb⟩; refine ⟨_, rfl, ?_⟩; replace BK552 := bkC BK552 hb; replace HB := Aside0.mk (below_step (by repeat (first | (with_reducible first | exact HB.out | apply below_alloc | apply pw_below_drewN | apply below_drew1 | refine below_set ?_ GE552.out) | exact HB.out)) hb); (try clear hb); (try clear hb2); (try clear hk); (try clear hi)))
  go_ret
  exact ⟨by first | rfl | (simp [errW_none, errW_some] <;> rfl) | (simp [*, errW_none, errW_some] <;> rfl), by repeat (first | (with_reducible first | exact HB.out | apply below_alloc | apply pw_below_drewN | apply below_drew1 | refine below_set ?_ GE552.out) | exact HB.out)⟩
end Go.Proofs.Ytckaejgamfllfaa.G
end

section
namespace Go.Proofs.Ytckaejgamfllfaa.G
open Go.RowKit Go.Proofs.YtckaejgamfllfaaW.PrintWords Go.Proofs.YtckaejgamfllfaaW.PrintLast Go.Proofs.YtckaejgamfllfaaW.PrintMore
attribute [local go_sem] max2_int min2_int max_two min_two max_three min_three max_four min_four
set_option linter.unusedVariables false
set_option linter.unusedSimpArgs false
def api_Span.f (a0 : Bool) (a1_0 : Int) (a1_1 : Int) (a2_0 : Int) (a2_1 : Int) : Option (Int × Int) := if a0 = true then (some (a1_0, a1_1)) else (some (a2_0, a2_1))
set_option maxHeartbeats 8000000 in
set_option maxRecDepth 100000 in
theorem api_Span.calls (a0 : Bool) (a1_0 : Int) (a1_1 : Int) (a2_0 : Int) (a2_1 : Int) (r1 : Int) (r2 : Int) (w : World) (h : api_Span.f a0 a1_0 a1_1 a2_0 a2_1 = some (r1, r2)) :
  Calls Try.prog 120 #[.bool a0, .agg #[.int .i64 a1_0, .int .i64 a1_1], .agg #[.int .i64 a2_0, .int .i64 a2_1]] w fun e w' => e = .returned (.agg #[.int .i64 r1, .int .i64 r2]) ∧ Below w.heap.size w w' := by
 have hu50 := Try.underlying50
 have HB := Aside0.mk (Below.refl w.heap.size w)
 have H : (if a0 = true then (some (a1_0, a1_1)) else (some (a2_0, a2_1))) = some (r1, r2) := h
 clear h
 by_cases c4 : a0 = true
 ·subst c4
  have H1 : (some (a1_0, a1_1)) = some (r1, r2) := by rw [if_pos rfl] at H; exact H
  clear H
  have H := H1
  clear H1
  simp only [Option.some.injEq, Prod.mk.injEq] at H
  obtain ⟨rfl, rfl⟩ := H
  go_enter Try.func120, Try.ntmps120
  go_wp2_with (first | ((with_reducible refine gate_dst (N := 4) rfl ?_); refine box_event ?hg (N := 4) ?hd (cs := #[.int .i64 a1_0, .int .i64 a1_1]) (t := 50) ?hr ?_; (case hd => rfl); (case hg => rfl); (case hr => first | (go_simp; done) | (go_simp; rfl)); intro gb613 hg w5 hbox hb; have BK613 := Aside0.mk (hbox); have GW613 := geBA HB hg; have GE613 := geBA HB hg; replace HB := Aside0.mk (below_step (hk HB) hb); clear hb hbox hg) | ((with_reducible refine gate_dst (N := 5) rfl ?_); refine box_event ?hg (N := 5) ?hd (cs := #[.int .i64 a2_0, .int .i64 a2_1]) (t := 50) ?hr ?_; (case hd => rfl); (case hg => rfl); (case hr => first | (go_simp; done) | (go_simp; rfl)); intro gb614 hg w6 hbox hb; have BK614 := Aside0.mk (hbox); have GW614 := Aside0.mk ((by rw [hg]; exact (below_size (by repeat (first | (with_reducible first | exact HB.out | apply below_alloc | apply pw_below_drewN | apply below_drew1 | refine below_set ?_ GE613.out) | exact HB.out))) : w.heap.size ≤ gb614)); have GE614 := Aside0.mk ((by rw [hg]; exact (below_size (by repeat (first | (with_reducible first | exact HB.out | apply below_alloc | apply pw_below_drewN | apply below_drew1 | refine below_set ?_ GE613.out) | exact HB.out))) : w.heap.size ≤ gb614)); have NB613_614 := neLA BK613 hg; have NB614_613 := neGA BK613 hg; replace BK613 := bkC BK613 hb; replace HB := Aside0.mk (below_step (by repeat (first | (with_reducible first | exact HB.out | apply below_alloc | apply pw_below_drewN | apply below_drew1 | refine below_set ?_ GE613.out) | exact HB.out)) hb); clear hb hbox hg) | ((with_reducible refine gate_dst (N := 6) rfl ?_); refine box_event ?hg (N := 6) ?hd (cs := #[.int .i64 0, .int .i64 0]) (t := 50) ?hr ?_; (case hd => rfl); (case hg => rfl); (case hr => first | (go_simp; done) | (go_simp; rfl)); intro gb615 hg w7 hbox hb; have BK615 := Aside0.mk (hbox); have GW615 := Aside0.mk ((by rw [hg]; exact (below_size (by repeat (first | (with_reducible first | exact HB.out | apply below_alloc | apply pw_below_drewN | apply below_drew1 | refine below_set ?_ GE613.out | refine below_set ?_ GE614.out) | exact HB.out))) : w.heap.size ≤ gb615)); have GE615 := Aside0.mk ((by rw [hg]; exact (below_size (by repeat (first | (with_reducible first | exact HB.out | apply below_alloc | apply pw_below_drewN | apply below_drew1 | refine below_set ?_ GE613.out | refine below_set ?_ GE614.out) | exact HB.out))) : w.heap.size ≤ gb615)); have NB613_615 := neLA BK613 hg; have NB615_613 := neGA BK613 hg; have NB614_615 := neLA BK614 hg; have NB615_614 := neGA BK614 hg; replace BK613 := bkC BK613 hb; replace BK614 := bkC BK614 hb; replace HB := Aside0.mk (below_step (by repeat (first | (with_reducible first | exact HB.out | apply below_alloc | apply pw_below_drewN | apply below_drew1 | refine below_set ?_ GE613.out | refine below_set ?_ GE614.out) | exact HB.out)) hb); clear hb hbox hg; have hnb8 := NB613_614.out; have hnc8 := NB614_613.out; have hnb9 := NB613_615.out; have hnc9 := NB615_613.out; have hcz10_0 : w7.cell? ⟨gb613, 0, none⟩ = some (.int .i64 a1_0) := (blk_cell BK613.out 0).trans rfl; have hcz10_1 : w7.cell? ⟨gb613, 1, none⟩ = some (.int .i64 a1_1) := (blk_cell BK613.out 1).trans rfl; have hfz10_0 := blk_frozen BK613.out 0; have hfz10_1 := blk_frozen BK613.out 1; have hnb11 := NB615_614.out; have hnc11 := NB614_615.out; have hcz12_0 : w7.cell? ⟨gb615, 0, none⟩ = some (.int .i64 0) := (blk_cell BK615.out 0).trans rfl; have hcz12_1 : w7.cell? ⟨gb615, 1, none⟩ = some (.int .i64 0) := (blk_cell BK615.out 1).trans rfl; have hfz12_0 := blk_frozen BK615.out 0; have hfz12_1 := blk_frozen BK615.out 1))
  refine bodyPost_ret (results_cell_row rfl _ _ gb615 50 #[.int .i64 a1_0, .int .i64 a1_1] (0, 0) _ rfl (by (with_reducible repeat (first | refine blk_drewN ?_ _ | refine blk_drew ?_ | refine blk_alloc ?_ _)); refine blk_put (cs := #[.int .i64 a1_0, .int .i64 0]) ?_ 1 _ rfl; (with_reducible repeat (first | refine blk_drewN ?_ _ | refine blk_drew ?_ | refine blk_alloc ?_ _)); refine blk_put (cs := #[.int .i64 0, .int .i64 0]) ?_ 0 _ rfl; (with_reducible repeat (first | refine blk_drewN ?_ _ | refine blk_drew ?_ | refine blk_alloc ?_ _)); exact BK615.out) Try.underlying50 rfl (by kernel_rfl)) rfl ?_
  exact ⟨by first | rfl | (simp [errW_none, errW_some] <;> rfl) | (simp [*, errW_none, errW_some] <;> rfl), by repeat (first | (with_reducible first | exact HB.out | apply below_alloc | apply pw_below_drewN | apply below_drew1 | refine below_set ?_ GE613.out | refine below_set ?_ GE614.out | refine below_set ?_ GE615.out) | exact HB.out)⟩
 ·replace c4 := Bool.eq_false_iff.mpr c4
  subst c4
  have H1 : (some (a2_0, a2_1)) = some (r1, r2) := by rw [if_neg (show ¬ (false = true) by decide)] at H; exact H
  clear H
  have H := H1
  clear H1
  simp only [Option.some.injEq, Prod.mk.injEq] at H
  obtain ⟨rfl, rfl⟩ := H
  go_enter Try.func120, Try.ntmps120
  go_wp2_with (first | ((with_reducible refine gate_dst (N := 4) rfl ?_); refine box_event ?hg (N := 4) ?hd (cs := #[.int .i64 a1_0, .int .i64 a1_1]) (t := 50) ?hr ?_; (case hd => rfl); (case hg => rfl); (case hr => first | (go_simp; done) | (go_simp; rfl)); intro gb613 hg w13 hbox hb; have BK613 := Aside0.mk (hbox); have GW613 := geBA HB hg; have GE613 := geBA HB hg; replace HB := Aside0.mk (below_step (hk HB) hb); clear hb hbox hg) | ((with_reducible refine gate_dst (N := 5) rfl ?_); refine box_event ?hg (N := 5) ?hd (cs := #[.int .i64 a2_0, .int .i64 a2_1]) (t := 50) ?hr ?_; (case hd => rfl); (case hg => rfl); (case hr => first | (go_simp; done) | (go_simp; rfl)); intro gb614 hg w14 hbox hb; have BK614 := Aside0.mk (hbox); have GW614 := Aside0.mk ((by rw [hg]; exact (below_size (by repeat (first | (with_reducible first | exact HB.out | apply below_alloc | apply pw_below_drewN | apply below_drew1 | refine below_set ?_ GE613.out) | exact HB.out))) : w.heap.size ≤ gb614)); have GE614 := Aside0.mk ((by rw [hg]; exact (below_size (by repeat (first | (with_reducible first | exact HB.out | apply below_alloc | apply pw_below_drewN | apply below_drew1 | refine below_set ?_ GE613.out) | exact HB.out))) : w.heap.size ≤ gb614)); have NB613_614 := neLA BK613 hg; have NB614_613 := neGA BK613 hg; replace BK613 := bkC BK613 hb; replace HB := Aside0.mk (below_step (by repeat (first | (with_reducible first | exact HB.out | apply below_alloc | apply pw_below_drewN | apply below_drew1 | refine below_set ?_ GE613.out) | exact HB.out)) hb); clear hb hbox hg) | ((with_reducible refine gate_dst (N := 6) rfl ?_); refine box_event ?hg (N := 6) ?hd (cs := #[.int .i64 0, .int .i64 0]) (t := 50) ?hr ?_; (case hd => rfl); (case hg => rfl); (case hr => first | (go_simp; done) | (go_simp; rfl)); intro gb615 hg w15 hbox hb; have BK615 := Aside0.mk (hbox); have GW615 := Aside0.mk ((by rw [hg]; exact (below_size (by repeat (first | (with_reducible first | exact HB.out | apply below_alloc | apply pw_below_drewN | apply below_drew1 | refine below_set ?_ GE613.out | refine below_set ?_ GE614.out) | exact HB.out))) : w.heap.size ≤ gb615)); have GE615 := Aside0.mk ((by rw [hg]; exact (below_size (by repeat (first | (with_reducible first | exact HB.out | apply below_alloc | apply pw_below_drewN | apply below_drew1 | refine below_set ?_ GE613.out | refine below_set ?_ GE614.out) | exact HB.out))) : w.heap.size ≤ gb615)); have NB613_615 := neLA BK613 hg; have NB615_613 := neGA BK613 hg; have NB614_615 := neLA BK614 hg; have NB615_614 := neGA BK614 hg; replace BK613 := bkC BK613 hb; replace BK614 := bkC BK614 hb; replace HB := Aside0.mk (below_step (by repeat (first | (with_reducible first | exact HB.out | apply below_alloc | apply pw_below_drewN | apply below_drew1 | refine below_set ?_ GE613.out | refine below_set ?_ GE614.out) | exact HB.out)) hb); clear hb hbox hg; have hnb16 := NB614_613.out; have hnc16 := NB613_614.out; have hnb17 := NB614_615.out; have hnc17 := NB615_614.out; have hcz18_0 : w15.cell? ⟨gb614, 0, none⟩ = some (.int .i64 a2_0) := (blk_cell BK614.out 0).trans rfl; have hcz18_1 : w15.cell? ⟨gb614, 1, none⟩ = some (.int .i64 a2_1) := (blk_cell BK614.out 1).trans rfl; have hfz18_0 := blk_frozen BK614.out 0; have hfz18_1 := blk_frozen BK614.out 1; have hnb19 := NB615_613.out; have hnc19 := NB613_615.out; have hcz20_0 : w15.cell? ⟨gb615, 0, none⟩ = some (.int .i64 0) := (blk_cell BK615.out 0).trans rfl; have hcz20_1 : w15.cell? ⟨gb615, 1, none⟩ = some (.int .i64 0) := (blk_cell BK615.out 1).trans rfl; have hfz20_0 := blk_frozen BK615.out 0; have hfz20_1 := blk_frozen BK615.out 1))
  refine bodyPost_ret (results_cell_row rfl _ _ gb615 50 #[.int .i64 a2_0, .int .i64 a2_1] (0, 0) _ rfl (by (with_reducible repeat (first | refine blk_drewN ?_ _ | refine blk_drew ?_ | refine blk_alloc ?_ _)); refine blk_put (cs := #[.int .i64 a2_0, .int .i64 0]) ?_ 1 _ rfl; (with_reducible repeat (first | refine blk_drewN ?_ _ | refine blk_drew ?_ | refine blk_alloc ?_ _)); refine blk_put (cs := #[.int .i64 0, .int .i64 0]) ?_ 0 _ rfl; (with_reducible repeat (first | refine blk_drewN ?_ _ | refine blk_drew ?_ | refine blk_alloc ?_ _)); exact BK615.out) Try.underlying50 rfl (by kernel_rfl)) rfl ?_
  exact ⟨by first | rfl | (simp [errW_none, errW_some] <;> rfl) | (simp [*, errW_none, errW_some] <;> rfl), by repeat (first | (with_reducible first | exact HB.out | apply below_alloc | apply pw_below_drewN | apply below_drew1 | refine below_set ?_ GE613.out | refine below_set ?_ GE614.out | refine below_set ?_ GE615.out) | exact HB.out)⟩
end Go.Proofs.Ytckaejgamfllfaa.G
end

section
namespace Go.Proofs.Ytckaejgamfllfaa.G
open Go.RowKit Go.Proofs.YtckaejgamfllfaaW.PrintWords Go.Proofs.YtckaejgamfllfaaW.PrintLast Go.Proofs.YtckaejgamfllfaaW.PrintMore
set_option linter.unusedVariables false
set_option linter.unusedSimpArgs false
set_option maxRecDepth 100000 in
theorem chosen_p.calls (b : Bool) (p q : Option Addr) (w : World) : Calls Try.prog 121 #[.bool b, .pointer p, .pointer q] w fun e w' => e = .returned (.pointer (if b = true then p else q)) ∧ w' = w := by
  cases b with
  | true => go_enter Try.func121, Try.ntmps121; go_wp2; go_ret; exact ⟨rfl, rfl⟩
  | false => go_enter Try.func121, Try.ntmps121; go_wp2; go_ret; exact ⟨rfl, rfl⟩
def midW (lo hi : Int) : Int := (wrap64 (lo + hi)) / 2
def cutB (b0 b1 b2 b3 : Int) : Int × Int × Int × Int × Int × Int × Int × Int × Bool :=
  if wrap64 (b3 - b2) ≤ wrap64 (b1 - b0) then (b0, midW b0 b1, b2, b3, wrap64 (midW b0 b1 + 1), b1, b2, b3, true)
  else (b0, b1, b2, midW b2 b3, b0, b1, wrap64 (midW b2 b3 + 1), b3, true)
def plane_Cut.f (a0_0 a0_1 a0_2 a0_3 : Int) : Option (Int × Int × Int × Int × Int × Int × Int × Int × Bool) :=
  (plane_Proper.f a0_0 a0_1 a0_2 a0_3).bind fun t => if t = true then (if a0_0 = a0_1 ∧ a0_2 = a0_3 then some (0, 0, 0, 0, 0, 0, 0, 0, false) else some (cutB a0_0 a0_1 a0_2 a0_3)) else some (0, 0, 0, 0, 0, 0, 0, 0, false)
set_option maxHeartbeats 16000000 in
set_option maxRecDepth 100000 in
theorem plane_Cut.calls (a0_0 : Int) (a0_1 : Int) (a0_2 : Int) (a0_3 : Int) (r1 r2 r3 r4 r5 r6 r7 r8 : Int) (r9 : Bool) (w : World) (h : plane_Cut.f a0_0 a0_1 a0_2 a0_3 = some (r1, r2, r3, r4, r5, r6, r7, r8, r9)) :
    Calls Try.prog 62 #[.agg #[.int .i64 a0_0, .int .i64 a0_1, .int .i64 a0_2, .int .i64 a0_3]] w fun e w' => e = .returned (.tuple #[.agg #[.int .i64 r1, .int .i64 r2, .int .i64 r3, .int .i64 r4], .agg #[.int .i64 r5, .int .i64 r6, .int .i64 r7, .int .i64 r8], .bool r9]) ∧ Below w.heap.size w w' := by
  unfold plane_Cut.f at h
  obtain ⟨t, ht, h⟩ := Option.bind_eq_some_iff.mp h
  have HP := Aside0.mk ht
  clear ht
  have hu50 := Try.underlying50
  have hu52 := Try.underlying52
  obtain ⟨W0, hW0⟩ : ∃ W0, W0 = ((w.alloc (.cells #[.int .i64 a0_0, .int .i64 a0_1, .int .i64 a0_2, .int .i64 a0_3] 52)).alloc (.cells #[.int .i64 0, .int .i64 0, .int .i64 0, .int .i64 0] 52)).alloc (.cells #[.int .i64 0, .int .i64 0, .int .i64 0, .int .i64 0] 52) := ⟨_, rfl⟩
  have hs0 : W0.heap.size = w.heap.size + 3 := by rw [hW0]; simp
  obtain ⟨g0, hg0⟩ : ∃ g, g = w.heap.size := ⟨_, rfl⟩
  obtain ⟨g1, hg1⟩ : ∃ g, g = w.heap.size + 1 := ⟨_, rfl⟩
  obtain ⟨g2, hg2⟩ : ∃ g, g = w.heap.size + 1 + 1 := ⟨_, rfl⟩
  have B0 : Blk W0 g0 #[.int .i64 a0_0, .int .i64 a0_1, .int .i64 a0_2, .int .i64 a0_3] 52 := by rw [hW0, hg0]; exact ((Blk.new w 52 _).alloc _).alloc _
  have B1 : Blk W0 g1 #[.int .i64 0, .int .i64 0, .int .i64 0, .int .i64 0] 52 := by rw [hW0, hg1]; have := Blk.new (w.alloc (.cells #[.int .i64 a0_0, .int .i64 a0_1, .int .i64 a0_2, .int .i64 a0_3] 52)) 52 #[.int .i64 0, .int .i64 0, .int .i64 0, .int .i64 0]; rw [World.size_alloc] at this; exact this.alloc _
  have B2 : Blk W0 g2 #[.int .i64 0, .int .i64 0, .int .i64 0, .int .i64 0] 52 := by rw [hW0, hg2]; have := Blk.new ((w.alloc (.cells #[.int .i64 a0_0, .int .i64 a0_1, .int .i64 a0_2, .int .i64 a0_3] 52)).alloc (.cells #[.int .i64 0, .int .i64 0, .int .i64 0, .int .i64 0] 52)) 52 #[.int .i64 0, .int .i64 0, .int .i64 0, .int .i64 0]; rw [World.size_alloc, World.size_alloc] at this; exact this
  have hB : Below w.heap.size w W0 := by rw [hW0]; exact (((Below.refl _ w).alloc (Nat.le_refl _) _).alloc (by simp) _).alloc (by simp; omega) _
  have HW := Aside0.mk hW0
  have K := Aside0.mk (show ∀ W, Below W0.heap.size W0 W → Blk W g0 #[.int .i64 a0_0, .int .i64 a0_1, .int .i64 a0_2, .int .i64 a0_3] 52 ∧ Blk W g1 #[.int .i64 0, .int .i64 0, .int .i64 0, .int .i64 0] 52 ∧ Blk W g2 #[.int .i64 0, .int .i64 0, .int .i64 0, .int .i64 0] 52 ∧ Below w.heap.size w W ∧ w.heap.size + 3 ≤ W.heap.size from
    fun W hb => ⟨B0.below hb, B1.below hb, B2.below hb, below_then hB (by omega) hb, by have := hb.size; omega⟩)
  clear B0 B1 B2 hB hs0
  clear hW0
  have n01 : g0 ≠ g1 := by omega
  have n02 : g0 ≠ g2 := by omega
  have n12 : g1 ≠ g2 := by omega
  have n10 : g1 ≠ g0 := by omega
  have n20 : g2 ≠ g0 := by omega
  have n21 : g2 ≠ g1 := by omega
  have GE1 := Aside0.mk (show w.heap.size ≤ g1 by omega)
  have GE2 := Aside0.mk (show w.heap.size ≤ g2 by omega)
  have G0 := Aside0.mk hg0
  have G1 := Aside0.mk hg1
  have G2 := Aside0.mk hg2
  clear hg0 hg1 hg2
  cases t with
  | false =>
    rw [if_neg (by decide)] at h
    simp only [Option.some.injEq, Prod.mk.injEq] at h
    obtain ⟨rfl, rfl, rfl, rfl, rfl, rfl, rfl, rfl, rfl⟩ := h
    go_enter Try.func62, Try.ntmps62
    go_upto_region 1 with fail
    rw [← HW.out, ← G2.out, ← G1.out, ← G0.out]
    have vc0 : W0.cell? ⟨g0, 0, none⟩ = some (.int .i64 a0_0) := ((K.out W0 (Below.refl _ _)).1).cell 0; have vf0 := ((K.out W0 (Below.refl _ _)).1).frozen 0; have vc1 : W0.cell? ⟨g0, 1, none⟩ = some (.int .i64 a0_1) := ((K.out W0 (Below.refl _ _)).1).cell 1; have vf1 := ((K.out W0 (Below.refl _ _)).1).frozen 1; have vc2 : W0.cell? ⟨g0, 2, none⟩ = some (.int .i64 a0_2) := ((K.out W0 (Below.refl _ _)).1).cell 2; have vf2 := ((K.out W0 (Below.refl _ _)).1).frozen 2; have vc3 : W0.cell? ⟨g0, 3, none⟩ = some (.int .i64 a0_3) := ((K.out W0 (Below.refl _ _)).1).cell 3; have vf3 := ((K.out W0 (Below.refl _ _)).1).frozen 3
    go_wp2_with (go_at_call 64; (with_reducible refine (plane_Proper.calls _ _ _ _ _ _ HP.out).mono ?_); rintro e w' ⟨rfl, hb⟩; have k := K.out w' hb; have bc0 : w'.cell? ⟨g0, 0, none⟩ = some (.int .i64 a0_0) := (k.1).cell 0; have bf0 := (k.1).frozen 0; have bc1 : w'.cell? ⟨g0, 1, none⟩ = some (.int .i64 a0_1) := (k.1).cell 1; have bf1 := (k.1).frozen 1; have bc2 : w'.cell? ⟨g0, 2, none⟩ = some (.int .i64 a0_2) := (k.1).cell 2; have bf2 := (k.1).frozen 2; have bc3 : w'.cell? ⟨g0, 3, none⟩ = some (.int .i64 a0_3) := (k.1).cell 3; have bf3 := (k.1).frozen 3; have rc0 : w'.cell? ⟨g1, 0, none⟩ = some (.int .i64 0) := (k.2.1).cell 0; have rf0 := (k.2.1).frozen 0; have rc1 : w'.cell? ⟨g1, 1, none⟩ = some (.int .i64 0) := (k.2.1).cell 1; have rf1 := (k.2.1).frozen 1; have rc2 : w'.cell? ⟨g1, 2, none⟩ = some (.int .i64 0) := (k.2.1).cell 2; have rf2 := (k.2.1).frozen 2; have rc3 : w'.cell? ⟨g1, 3, none⟩ = some (.int .i64 0) := (k.2.1).cell 3; have rf3 := (k.2.1).frozen 3; have sc0 : w'.cell? ⟨g2, 0, none⟩ = some (.int .i64 0) := (k.2.2.1).cell 0; have sf0 := (k.2.2.1).frozen 0; have sc1 : w'.cell? ⟨g2, 1, none⟩ = some (.int .i64 0) := (k.2.2.1).cell 1; have sf1 := (k.2.2.1).frozen 1; have sc2 : w'.cell? ⟨g2, 2, none⟩ = some (.int .i64 0) := (k.2.2.1).cell 2; have sf2 := (k.2.2.1).frozen 2; have sc3 : w'.cell? ⟨g2, 3, none⟩ = some (.int .i64 0) := (k.2.2.1).cell 3; have sf3 := (k.2.2.1).frozen 3; have KK := Aside0.mk k; clear hb k)
    refine bodyPost_ret (results_cct rfl _ _ g1 g2 52 52 #[.int .i64 0, .int .i64 0, .int .i64 0, .int .i64 0] #[.int .i64 0, .int .i64 0, .int .i64 0, .int .i64 0] (0, 0) (0, 0) _ _ rfl ?h1 Try.underlying52 rfl (by kernel_rfl) rfl ?h2 Try.underlying52 rfl (by kernel_rfl)) rfl ?_
    case h1 => exact (by (with_reducible repeat (refine blk_other_ ?_ (by first | exact n21 | exact n12) _)); refine blk_put (cs := #[.int .i64 0, .int .i64 0, .int .i64 0, .int .i64 0]) ?_ 3 _ rfl; refine blk_put (cs := #[.int .i64 0, .int .i64 0, .int .i64 0, .int .i64 0]) ?_ 2 _ rfl; refine blk_put (cs := #[.int .i64 0, .int .i64 0, .int .i64 0, .int .i64 0]) ?_ 1 _ rfl; refine blk_put (cs := #[.int .i64 0, .int .i64 0, .int .i64 0, .int .i64 0]) ?_ 0 _ rfl; (with_reducible repeat (refine blk_other_ ?_ (by first | exact n21 | exact n12) _)); exact KK.out.2.1)
    case h2 => exact (by (with_reducible repeat (refine blk_other_ ?_ (by first | exact n21 | exact n12) _)); refine blk_put (cs := #[.int .i64 0, .int .i64 0, .int .i64 0, .int .i64 0]) ?_ 3 _ rfl; refine blk_put (cs := #[.int .i64 0, .int .i64 0, .int .i64 0, .int .i64 0]) ?_ 2 _ rfl; refine blk_put (cs := #[.int .i64 0, .int .i64 0, .int .i64 0, .int .i64 0]) ?_ 1 _ rfl; refine blk_put (cs := #[.int .i64 0, .int .i64 0, .int .i64 0, .int .i64 0]) ?_ 0 _ rfl; (with_reducible repeat (refine blk_other_ ?_ (by first | exact n21 | exact n12) _)); exact KK.out.2.2.1)
    exact ⟨rfl, (by repeat (with_reducible first | exact KK.out.2.2.2.1 | refine below_set ?_ GE1.out | refine below_set ?_ GE2.out))⟩
  | true =>
    rw [if_pos rfl] at h
    by_cases hp : a0_0 = a0_1 ∧ a0_2 = a0_3
    · rw [if_pos hp] at h
      simp only [Option.some.injEq, Prod.mk.injEq] at h
      obtain ⟨rfl, rfl, rfl, rfl, rfl, rfl, rfl, rfl, rfl⟩ := h
      have e1 : (a0_0 == a0_1) = true := by simp [hp.1]
      have e2 : (a0_2 == a0_3) = true := by simp [hp.2]
      clear hp
      go_enter Try.func62, Try.ntmps62
      go_upto_region 1 with fail
      rw [← HW.out, ← G2.out, ← G1.out, ← G0.out]
      have vc0 : W0.cell? ⟨g0, 0, none⟩ = some (.int .i64 a0_0) := ((K.out W0 (Below.refl _ _)).1).cell 0; have vf0 := ((K.out W0 (Below.refl _ _)).1).frozen 0; have vc1 : W0.cell? ⟨g0, 1, none⟩ = some (.int .i64 a0_1) := ((K.out W0 (Below.refl _ _)).1).cell 1; have vf1 := ((K.out W0 (Below.refl _ _)).1).frozen 1; have vc2 : W0.cell? ⟨g0, 2, none⟩ = some (.int .i64 a0_2) := ((K.out W0 (Below.refl _ _)).1).cell 2; have vf2 := ((K.out W0 (Below.refl _ _)).1).frozen 2; have vc3 : W0.cell? ⟨g0, 3, none⟩ = some (.int .i64 a0_3) := ((K.out W0 (Below.refl _ _)).1).cell 3; have vf3 := ((K.out W0 (Below.refl _ _)).1).frozen 3
      go_wp2_with (go_at_call 64; (with_reducible refine (plane_Proper.calls _ _ _ _ _ _ HP.out).mono ?_); rintro e w' ⟨rfl, hb⟩; have k := K.out w' hb; have bc0 : w'.cell? ⟨g0, 0, none⟩ = some (.int .i64 a0_0) := (k.1).cell 0; have bf0 := (k.1).frozen 0; have bc1 : w'.cell? ⟨g0, 1, none⟩ = some (.int .i64 a0_1) := (k.1).cell 1; have bf1 := (k.1).frozen 1; have bc2 : w'.cell? ⟨g0, 2, none⟩ = some (.int .i64 a0_2) := (k.1).cell 2; have bf2 := (k.1).frozen 2; have bc3 : w'.cell? ⟨g0, 3, none⟩ = some (.int .i64 a0_3) := (k.1).cell 3; have bf3 := (k.1).frozen 3; have rc0 : w'.cell? ⟨g1, 0, none⟩ = some (.int .i64 0) := (k.2.1).cell 0; have rf0 := (k.2.1).frozen 0; have rc1 : w'.cell? ⟨g1, 1, none⟩ = some (.int .i64 0) := (k.2.1).cell 1; have rf1 := (k.2.1).frozen 1; have rc2 : w'.cell? ⟨g1, 2, none⟩ = some (.int .i64 0) := (k.2.1).cell 2; have rf2 := (k.2.1).frozen 2; have rc3 : w'.cell? ⟨g1, 3, none⟩ = some (.int .i64 0) := (k.2.1).cell 3; have rf3 := (k.2.1).frozen 3; have sc0 : w'.cell? ⟨g2, 0, none⟩ = some (.int .i64 0) := (k.2.2.1).cell 0; have sf0 := (k.2.2.1).frozen 0; have sc1 : w'.cell? ⟨g2, 1, none⟩ = some (.int .i64 0) := (k.2.2.1).cell 1; have sf1 := (k.2.2.1).frozen 1; have sc2 : w'.cell? ⟨g2, 2, none⟩ = some (.int .i64 0) := (k.2.2.1).cell 2; have sf2 := (k.2.2.1).frozen 2; have sc3 : w'.cell? ⟨g2, 3, none⟩ = some (.int .i64 0) := (k.2.2.1).cell 3; have sf3 := (k.2.2.1).frozen 3; have KK := Aside0.mk k; clear hb k)
      refine bodyPost_ret (results_cct rfl _ _ g1 g2 52 52 #[.int .i64 0, .int .i64 0, .int .i64 0, .int .i64 0] #[.int .i64 0, .int .i64 0, .int .i64 0, .int .i64 0] (0, 0) (0, 0) _ _ rfl ?h1 Try.underlying52 rfl (by kernel_rfl) rfl ?h2 Try.underlying52 rfl (by kernel_rfl)) rfl ?_
      case h1 => exact (by (with_reducible repeat (refine blk_other_ ?_ (by first | exact n21 | exact n12) _)); refine blk_put (cs := #[.int .i64 0, .int .i64 0, .int .i64 0, .int .i64 0]) ?_ 3 _ rfl; refine blk_put (cs := #[.int .i64 0, .int .i64 0, .int .i64 0, .int .i64 0]) ?_ 2 _ rfl; refine blk_put (cs := #[.int .i64 0, .int .i64 0, .int .i64 0, .int .i64 0]) ?_ 1 _ rfl; refine blk_put (cs := #[.int .i64 0, .int .i64 0, .int .i64 0, .int .i64 0]) ?_ 0 _ rfl; (with_reducible repeat (refine blk_other_ ?_ (by first | exact n21 | exact n12) _)); exact KK.out.2.1)
      case h2 => exact (by (with_reducible repeat (refine blk_other_ ?_ (by first | exact n21 | exact n12) _)); refine blk_put (cs := #[.int .i64 0, .int .i64 0, .int .i64 0, .int .i64 0]) ?_ 3 _ rfl; refine blk_put (cs := #[.int .i64 0, .int .i64 0, .int .i64 0, .int .i64 0]) ?_ 2 _ rfl; refine blk_put (cs := #[.int .i64 0, .int .i64 0, .int .i64 0, .int .i64 0]) ?_ 1 _ rfl; refine blk_put (cs := #[.int .i64 0, .int .i64 0, .int .i64 0, .int .i64 0]) ?_ 0 _ rfl; (with_reducible repeat (refine blk_other_ ?_ (by first | exact n21 | exact n12) _)); exact KK.out.2.2.1)
      exact ⟨rfl, (by repeat (with_reducible first | exact KK.out.2.2.2.1 | refine below_set ?_ GE1.out | refine below_set ?_ GE2.out))⟩
    · rw [if_neg hp] at h
      have HH := Aside0.mk (Option.some.inj h)
      clear h
      obtain ⟨e1, e2, he⟩ : ∃ e1 e2 : Bool, (a0_0 == a0_1) = e1 ∧ (a0_2 == a0_3) = e2 ∧ (e1 && e2) = false := by
        refine ⟨_, _, rfl, rfl, ?_⟩
        cases x1 : (a0_0 == a0_1) <;> cases x2 : (a0_2 == a0_3) <;> simp_all
      obtain ⟨x1, x2, he⟩ := he
      clear hp
      obtain ⟨wide, hw⟩ : ∃ b : Bool, decide (wrap64 (a0_3 - a0_2) ≤ wrap64 (a0_1 - a0_0)) = b := ⟨_, rfl⟩
      go_enter Try.func62, Try.ntmps62
      go_upto_region 1 with fail
      rw [← HW.out, ← G2.out, ← G1.out, ← G0.out]
      have vc0 : W0.cell? ⟨g0, 0, none⟩ = some (.int .i64 a0_0) := ((K.out W0 (Below.refl _ _)).1).cell 0; have vf0 := ((K.out W0 (Below.refl _ _)).1).frozen 0; have vc1 : W0.cell? ⟨g0, 1, none⟩ = some (.int .i64 a0_1) := ((K.out W0 (Below.refl _ _)).1).cell 1; have vf1 := ((K.out W0 (Below.refl _ _)).1).frozen 1; have vc2 : W0.cell? ⟨g0, 2, none⟩ = some (.int .i64 a0_2) := ((K.out W0 (Below.refl _ _)).1).cell 2; have vf2 := ((K.out W0 (Below.refl _ _)).1).frozen 2; have vc3 : W0.cell? ⟨g0, 3, none⟩ = some (.int .i64 a0_3) := ((K.out W0 (Below.refl _ _)).1).cell 3; have vf3 := ((K.out W0 (Below.refl _ _)).1).frozen 3
      (try simp only [Act.put, List.setIfInBounds_toArray, List.set_cons_zero, List.set_cons_succ])
      go_cut [30] (fun v30 wc => v30 = .bool false ∧ Aside0 (Blk wc g0 #[.int .i64 a0_0, .int .i64 a0_1, .int .i64 a0_2, .int .i64 a0_3] 52 ∧ Blk wc g1 #[.int .i64 0, .int .i64 0, .int .i64 0, .int .i64 0] 52 ∧ Blk wc g2 #[.int .i64 0, .int .i64 0, .int .i64 0, .int .i64 0] 52 ∧ Below w.heap.size w wc ∧ w.heap.size + 3 ≤ wc.heap.size))
      case first =>
        cases e1 with
        | true =>
          obtain rfl : e2 = false := by simpa using he
          clear he
          go_wp2_with (go_at_call 64; (with_reducible refine (plane_Proper.calls _ _ _ _ _ _ HP.out).mono ?_); rintro e w' ⟨rfl, hb⟩; have k := K.out w' hb; have bc0 : w'.cell? ⟨g0, 0, none⟩ = some (.int .i64 a0_0) := (k.1).cell 0; have bf0 := (k.1).frozen 0; have bc1 : w'.cell? ⟨g0, 1, none⟩ = some (.int .i64 a0_1) := (k.1).cell 1; have bf1 := (k.1).frozen 1; have bc2 : w'.cell? ⟨g0, 2, none⟩ = some (.int .i64 a0_2) := (k.1).cell 2; have bf2 := (k.1).frozen 2; have bc3 : w'.cell? ⟨g0, 3, none⟩ = some (.int .i64 a0_3) := (k.1).cell 3; have bf3 := (k.1).frozen 3; have rc0 : w'.cell? ⟨g1, 0, none⟩ = some (.int .i64 0) := (k.2.1).cell 0; have rf0 := (k.2.1).frozen 0; have rc1 : w'.cell? ⟨g1, 1, none⟩ = some (.int .i64 0) := (k.2.1).cell 1; have rf1 := (k.2.1).frozen 1; have rc2 : w'.cell? ⟨g1, 2, none⟩ = some (.int .i64 0) := (k.2.1).cell 2; have rf2 := (k.2.1).frozen 2; have rc3 : w'.cell? ⟨g1, 3, none⟩ = some (.int .i64 0) := (k.2.1).cell 3; have rf3 := (k.2.1).frozen 3; have sc0 : w'.cell? ⟨g2, 0, none⟩ = some (.int .i64 0) := (k.2.2.1).cell 0; have sf0 := (k.2.2.1).frozen 0; have sc1 : w'.cell? ⟨g2, 1, none⟩ = some (.int .i64 0) := (k.2.2.1).cell 1; have sf1 := (k.2.2.1).frozen 1; have sc2 : w'.cell? ⟨g2, 2, none⟩ = some (.int .i64 0) := (k.2.2.1).cell 2; have sf2 := (k.2.2.1).frozen 2; have sc3 : w'.cell? ⟨g2, 3, none⟩ = some (.int .i64 0) := (k.2.2.1).cell 3; have sf3 := (k.2.2.1).frozen 3; have KK := Aside0.mk k; clear hb k)
          go_meet
          case rel => exact ⟨rfl, KK⟩
        | false =>
          clear he
          go_wp2_with (go_at_call 64; (with_reducible refine (plane_Proper.calls _ _ _ _ _ _ HP.out).mono ?_); rintro e w' ⟨rfl, hb⟩; have k := K.out w' hb; have bc0 : w'.cell? ⟨g0, 0, none⟩ = some (.int .i64 a0_0) := (k.1).cell 0; have bf0 := (k.1).frozen 0; have bc1 : w'.cell? ⟨g0, 1, none⟩ = some (.int .i64 a0_1) := (k.1).cell 1; have bf1 := (k.1).frozen 1; have bc2 : w'.cell? ⟨g0, 2, none⟩ = some (.int .i64 a0_2) := (k.1).cell 2; have bf2 := (k.1).frozen 2; have bc3 : w'.cell? ⟨g0, 3, none⟩ = some (.int .i64 a0_3) := (k.1).cell 3; have bf3 := (k.1).frozen 3; have rc0 : w'.cell? ⟨g1, 0, none⟩ = some (.int .i64 0) := (k.2.1).cell 0; have rf0 := (k.2.1).frozen 0; have rc1 : w'.cell? ⟨g1, 1, none⟩ = some (.int .i64 0) := (k.2.1).cell 1; have rf1 := (k.2.1).frozen 1; have rc2 : w'.cell? ⟨g1, 2, none⟩ = some (.int .i64 0) := (k.2.1).cell 2; have rf2 := (k.2.1).frozen 2; have rc3 : w'.cell? ⟨g1, 3, none⟩ = some (.int .i64 0) := (k.2.1).cell 3; have rf3 := (k.2.1).frozen 3; have sc0 : w'.cell? ⟨g2, 0, none⟩ = some (.int .i64 0) := (k.2.2.1).cell 0; have sf0 := (k.2.2.1).frozen 0; have sc1 : w'.cell? ⟨g2, 1, none⟩ = some (.int .i64 0) := (k.2.2.1).cell 1; have sf1 := (k.2.2.1).frozen 1; have sc2 : w'.cell? ⟨g2, 2, none⟩ = some (.int .i64 0) := (k.2.2.1).cell 2; have sf2 := (k.2.2.1).frozen 2; have sc3 : w'.cell? ⟨g2, 3, none⟩ = some (.int .i64 0) := (k.2.2.1).cell 3; have sf3 := (k.2.2.1).frozen 3; have KK := Aside0.mk k; clear hb k)
          go_meet
          case rel => exact ⟨rfl, KK⟩
      case rest =>
        obtain ⟨rfl, KK⟩ := hcut
        clear K HW vc0 vf0 vc1 vf1 vc2 vf2 vc3 vf3
        have bc0 : wc.cell? ⟨g0, 0, none⟩ = some (.int .i64 a0_0) := (KK.out.1).cell 0
        have bf0 := (KK.out.1).frozen 0
        have bc1 : wc.cell? ⟨g0, 1, none⟩ = some (.int .i64 a0_1) := (KK.out.1).cell 1
        have bf1 := (KK.out.1).frozen 1
        have bc2 : wc.cell? ⟨g0, 2, none⟩ = some (.int .i64 a0_2) := (KK.out.1).cell 2
        have bf2 := (KK.out.1).frozen 2
        have bc3 : wc.cell? ⟨g0, 3, none⟩ = some (.int .i64 a0_3) := (KK.out.1).cell 3
        have bf3 := (KK.out.1).frozen 3
        go_upto_region 4 with fail
        (try simp only [Act.put, List.setIfInBounds_toArray, List.set_cons_zero, List.set_cons_succ])
        go_cut [6, 7] (fun v6 v7 wd => ∃ gl gh : Nat, v6 = .pointer (some ⟨gl, 0, none⟩) ∧ v7 = .pointer (some ⟨gh, 0, none⟩) ∧ Aside0 ((Blk wd g0 #[.int .i64 a0_0, .int .i64 a0_1, .int .i64 a0_2, .int .i64 a0_3] 52 ∧ Blk wd g1 #[.int .i64 0, .int .i64 0, .int .i64 0, .int .i64 0] 52 ∧ Blk wd g2 #[.int .i64 0, .int .i64 0, .int .i64 0, .int .i64 0] 52 ∧ Below w.heap.size w wd ∧ w.heap.size + 3 ≤ wd.heap.size) ∧ Blk wd gl #[.int .i64 a0_0, .int .i64 a0_1, .int .i64 a0_2, .int .i64 a0_3] 52 ∧ Blk wd gh #[.int .i64 a0_0, .int .i64 a0_1, .int .i64 a0_2, .int .i64 a0_3] 52 ∧ gl ≠ gh ∧ (g0 ≠ gl ∧ g1 ≠ gl ∧ g2 ≠ gl) ∧ (g0 ≠ gh ∧ g1 ≠ gh ∧ g2 ≠ gh) ∧ w.heap.size ≤ gl ∧ w.heap.size ≤ gh))
        case first =>
          have FA := Aside0.mk (show (Blk (((wc.alloc (.cells #[.int .i64 a0_0, .int .i64 a0_1, .int .i64 a0_2, .int .i64 a0_3] 52)).alloc (.cells #[.int .i64 a0_0, .int .i64 a0_1, .int .i64 a0_2, .int .i64 a0_3] 52)).drew) g0 #[.int .i64 a0_0, .int .i64 a0_1, .int .i64 a0_2, .int .i64 a0_3] 52 ∧ Blk (((wc.alloc (.cells #[.int .i64 a0_0, .int .i64 a0_1, .int .i64 a0_2, .int .i64 a0_3] 52)).alloc (.cells #[.int .i64 a0_0, .int .i64 a0_1, .int .i64 a0_2, .int .i64 a0_3] 52)).drew) g1 #[.int .i64 0, .int .i64 0, .int .i64 0, .int .i64 0] 52 ∧ Blk (((wc.alloc (.cells #[.int .i64 a0_0, .int .i64 a0_1, .int .i64 a0_2, .int .i64 a0_3] 52)).alloc (.cells #[.int .i64 a0_0, .int .i64 a0_1, .int .i64 a0_2, .int .i64 a0_3] 52)).drew) g2 #[.int .i64 0, .int .i64 0, .int .i64 0, .int .i64 0] 52 ∧ Below w.heap.size w ((wc.alloc (.cells #[.int .i64 a0_0, .int .i64 a0_1, .int .i64 a0_2, .int .i64 a0_3] 52)).alloc (.cells #[.int .i64 a0_0, .int .i64 a0_1, .int .i64 a0_2, .int .i64 a0_3] 52)).drew ∧ w.heap.size + 3 ≤ ((wc.alloc (.cells #[.int .i64 a0_0, .int .i64 a0_1, .int .i64 a0_2, .int .i64 a0_3] 52)).alloc (.cells #[.int .i64 a0_0, .int .i64 a0_1, .int .i64 a0_2, .int .i64 a0_3] 52)).drew.heap.size) ∧ Blk (((wc.alloc (.cells #[.int .i64 a0_0, .int .i64 a0_1, .int .i64 a0_2, .int .i64 a0_3] 52)).alloc (.cells #[.int .i64 a0_0, .int .i64 a0_1, .int .i64 a0_2, .int .i64 a0_3] 52)).drew) (wc.heap.size) #[.int .i64 a0_0, .int .i64 a0_1, .int .i64 a0_2, .int .i64 a0_3] 52 ∧ Blk (((wc.alloc (.cells #[.int .i64 a0_0, .int .i64 a0_1, .int .i64 a0_2, .int .i64 a0_3] 52)).alloc (.cells #[.int .i64 a0_0, .int .i64 a0_1, .int .i64 a0_2, .int .i64 a0_3] 52)).drew) (wc.heap.size + 1) #[.int .i64 a0_0, .int .i64 a0_1, .int .i64 a0_2, .int .i64 a0_3] 52 ∧ (g0 ≠ wc.heap.size ∧ g1 ≠ wc.heap.size ∧ g2 ≠ wc.heap.size) ∧ (g0 ≠ wc.heap.size + 1 ∧ g1 ≠ wc.heap.size + 1 ∧ g2 ≠ wc.heap.size + 1) ∧ w.heap.size ≤ wc.heap.size ∧ w.heap.size ≤ wc.heap.size + 1 by
            obtain ⟨d1, d2, d3, d4, d5⟩ := KK.out
            have l0 := d1.lt; have l1 := d2.lt; have l2 := d3.lt
            refine ⟨⟨((d1.alloc _).alloc _).drew, ((d2.alloc _).alloc _).drew, ((d3.alloc _).alloc _).drew, below_drew1 ((d4.alloc (by omega) _).alloc (by simp; omega) _), by show _ ≤ ((wc.alloc _).alloc _).heap.size; simp; omega⟩, ((Blk.new wc 52 _).alloc _).drew, ?_, by omega, by omega, by omega, by omega⟩
            have := Blk.new (wc.alloc (.cells #[.int .i64 a0_0, .int .i64 a0_1, .int .i64 a0_2, .int .i64 a0_3] 52)) 52 #[.int .i64 a0_0, .int .i64 a0_1, .int .i64 a0_2, .int .i64 a0_3]
            rw [World.size_alloc] at this
            exact this.drew)
          go_region_held3 (fun X => X.cell? ⟨g0, 0, none⟩ = some (.int .i64 a0_0) ∧ X.cell? ⟨g0, 1, none⟩ = some (.int .i64 a0_1) ∧ X.cell? ⟨g0, 2, none⟩ = some (.int .i64 a0_2) ∧ X.cell? ⟨g0, 3, none⟩ = some (.int .i64 a0_3)) (first | (go_keep; done) | (refine ⟨?_, ?_, ?_, ?_⟩ <;> (repeat (rw [World.cell?_setCell_other _ _ _ _ (by intro e; simp only [Addr.mk.injEq] at e; omega)])) <;> first | assumption | (simp [*]; done))) (fail)
          · (first | go_meet | (go_wp2; go_meet))
            case rel => exact ⟨_, _, rfl, rfl, ⟨FA.out.1, FA.out.2.1, FA.out.2.2.1, by omega, FA.out.2.2.2.1, FA.out.2.2.2.2.1, FA.out.2.2.2.2.2.1, FA.out.2.2.2.2.2.2⟩⟩
          · (first | go_meet | (go_wp2; go_meet))
            case rel => exact ⟨_, _, rfl, rfl, ⟨FA.out.1, FA.out.2.2.1, FA.out.2.1, by omega, FA.out.2.2.2.2.1, FA.out.2.2.2.1, FA.out.2.2.2.2.2.2, FA.out.2.2.2.2.2.1⟩⟩
        case rest =>
          obtain ⟨gl, gh, rfl, rfl, KD⟩ := hcut
          clear KK
          clear bc0 bf0 bc1 bf1 bc2 bf2 bc3 bf3
          obtain ⟨⟨D1, D2, D3, D4, D5⟩, D6, D7, D8, ⟨D9, D10, D11⟩, ⟨D12, D13, D14⟩, D15, D16⟩ := KD.out
          have K3 := Aside0.mk (show ∀ X, Below wc.heap.size wc X → Blk X g0 #[.int .i64 a0_0, .int .i64 a0_1, .int .i64 a0_2, .int .i64 a0_3] 52 ∧ Blk X g1 #[.int .i64 0, .int .i64 0, .int .i64 0, .int .i64 0] 52 ∧ Blk X g2 #[.int .i64 0, .int .i64 0, .int .i64 0, .int .i64 0] 52 ∧ Blk X gl #[.int .i64 a0_0, .int .i64 a0_1, .int .i64 a0_2, .int .i64 a0_3] 52 ∧ Blk X gh #[.int .i64 a0_0, .int .i64 a0_1, .int .i64 a0_2, .int .i64 a0_3] 52 ∧ Below w.heap.size w X ∧ wc.heap.size ≤ X.heap.size from
            fun X hb => ⟨D1.below hb, D2.below hb, D3.below hb, D6.below hb, D7.below hb, below_then D4 (by omega) hb, hb.size⟩)
          have GL := Aside0.mk D15
          have GH := Aside0.mk D16
          have L1 : g1 < wc.heap.size := D2.lt
          have L2 : g2 < wc.heap.size := D3.lt
          have L3 : gl < wc.heap.size := D6.lt
          have L4 : gh < wc.heap.size := D7.lt
          have bc0 : wc.cell? ⟨g0, 0, none⟩ = some (.int .i64 a0_0) := (D1).cell 0
          have bf0 := (D1).frozen 0
          have bc1 : wc.cell? ⟨g0, 1, none⟩ = some (.int .i64 a0_1) := (D1).cell 1
          have bf1 := (D1).frozen 1
          have bc2 : wc.cell? ⟨g0, 2, none⟩ = some (.int .i64 a0_2) := (D1).cell 2
          have bf2 := (D1).frozen 2
          have bc3 : wc.cell? ⟨g0, 3, none⟩ = some (.int .i64 a0_3) := (D1).cell 3
          have bf3 := (D1).frozen 3
          clear D1 D2 D3 D4 D5 D6 D7 D15 D16 KD
          have D17 : gh ≠ gl := D8.symm
          have D18 : gl ≠ g1 := D10.symm
          have D19 : gl ≠ g2 := D11.symm
          have D20 : gh ≠ g1 := D13.symm
          have D21 : gh ≠ g2 := D14.symm
          cases wide with
          | true =>
            go_upto_region 6 with (go_at_call 120; (with_reducible refine (api_Span.calls true a0_0 a0_1 a0_2 a0_3 a0_0 a0_1 _ rfl).mono ?_); rintro e w5 ⟨rfl, hb⟩; have k5 := K3.out w5 hb; have K5 := Aside0.mk k5; clear hb k5)
            obtain ⟨W6, hW6⟩ : ∃ W6, w5.alloc (.cells #[.int .i64 a0_0, .int .i64 a0_1] 50) = W6 := ⟨_, rfl⟩
            have k1 : Blk W6 g1 #[.int .i64 0, .int .i64 0, .int .i64 0, .int .i64 0] 52 := by rw [← hW6]; exact K5.out.2.1.alloc _
            have k2 : Blk W6 g2 #[.int .i64 0, .int .i64 0, .int .i64 0, .int .i64 0] 52 := by rw [← hW6]; exact K5.out.2.2.1.alloc _
            have k3 : Blk W6 gl #[.int .i64 a0_0, .int .i64 a0_1, .int .i64 a0_2, .int .i64 a0_3] 52 := by rw [← hW6]; exact K5.out.2.2.2.1.alloc _
            have k4 : Blk W6 gh #[.int .i64 a0_0, .int .i64 a0_1, .int .i64 a0_2, .int .i64 a0_3] 52 := by rw [← hW6]; exact K5.out.2.2.2.2.1.alloc _
            have k5 : Blk W6 (w5.heap.size) #[.int .i64 a0_0, .int .i64 a0_1] 50 := by rw [← hW6]; exact Blk.new w5 50 _
            have k6 : Below w.heap.size w W6 := by rw [← hW6]; exact K5.out.2.2.2.2.2.1.alloc (by have := K5.out.2.2.2.2.2.1.size; omega) _
            have k7 : wc.heap.size ≤ w5.heap.size := K5.out.2.2.2.2.2.2
            rw [hW6]
            generalize w5.heap.size = g8 at *
            clear hW6 K5 K3
            have m1 : g8 ≠ gl := by omega
            have m2 : g8 ≠ gh := by omega
            have m3 : gl ≠ g8 := by omega
            have m4 : gh ≠ g8 := by omega
            have lc0 : W6.cell? ⟨gl, 0, none⟩ = some (.int .i64 a0_0) := (k3).cell 0
            have lf0 := (k3).frozen 0
            have lc1 : W6.cell? ⟨gl, 1, none⟩ = some (.int .i64 a0_1) := (k3).cell 1
            have lf1 := (k3).frozen 1
            have lc2 : W6.cell? ⟨gl, 2, none⟩ = some (.int .i64 a0_2) := (k3).cell 2
            have lf2 := (k3).frozen 2
            have lc3 : W6.cell? ⟨gl, 3, none⟩ = some (.int .i64 a0_3) := (k3).cell 3
            have lf3 := (k3).frozen 3
            have hc0 : W6.cell? ⟨gh, 0, none⟩ = some (.int .i64 a0_0) := (k4).cell 0
            have hf0 := (k4).frozen 0
            have hc1 : W6.cell? ⟨gh, 1, none⟩ = some (.int .i64 a0_1) := (k4).cell 1
            have hf1 := (k4).frozen 1
            have hc2 : W6.cell? ⟨gh, 2, none⟩ = some (.int .i64 a0_2) := (k4).cell 2
            have hf2 := (k4).frozen 2
            have hc3 : W6.cell? ⟨gh, 3, none⟩ = some (.int .i64 a0_3) := (k4).cell 3
            have hf3 := (k4).frozen 3
            have ec0 : W6.cell? ⟨g8, 0, none⟩ = some (.int .i64 a0_0) := (k5).cell 0
            have ef0 := (k5).frozen 0
            have ec1 : W6.cell? ⟨g8, 1, none⟩ = some (.int .i64 a0_1) := (k5).cell 1
            have ef1 := (k5).frozen 1
            have KA := Aside0.mk (show Blk (((W6.setCell ⟨gl, 1, none⟩ (.int .i64 (wrap64 (a0_0 + a0_1) / 2))).setCell ⟨gh, 0, none⟩ (.int .i64 (wrap64 (wrap64 (a0_0 + a0_1) / 2 + 1))))) g1 #[.int .i64 0, .int .i64 0, .int .i64 0, .int .i64 0] 52 ∧ Blk (((W6.setCell ⟨gl, 1, none⟩ (.int .i64 (wrap64 (a0_0 + a0_1) / 2))).setCell ⟨gh, 0, none⟩ (.int .i64 (wrap64 (wrap64 (a0_0 + a0_1) / 2 + 1))))) g2 #[.int .i64 0, .int .i64 0, .int .i64 0, .int .i64 0] 52 ∧ Blk (((W6.setCell ⟨gl, 1, none⟩ (.int .i64 (wrap64 (a0_0 + a0_1) / 2))).setCell ⟨gh, 0, none⟩ (.int .i64 (wrap64 (wrap64 (a0_0 + a0_1) / 2 + 1))))) gl #[.int .i64 a0_0, .int .i64 (wrap64 (a0_0 + a0_1) / 2), .int .i64 a0_2, .int .i64 a0_3] 52 ∧ Blk (((W6.setCell ⟨gl, 1, none⟩ (.int .i64 (wrap64 (a0_0 + a0_1) / 2))).setCell ⟨gh, 0, none⟩ (.int .i64 (wrap64 (wrap64 (a0_0 + a0_1) / 2 + 1))))) gh #[.int .i64 (wrap64 (wrap64 (a0_0 + a0_1) / 2 + 1)), .int .i64 a0_1, .int .i64 a0_2, .int .i64 a0_3] 52 ∧ Below w.heap.size w ((W6.setCell ⟨gl, 1, none⟩ (.int .i64 (wrap64 (a0_0 + a0_1) / 2))).setCell ⟨gh, 0, none⟩ (.int .i64 (wrap64 (wrap64 (a0_0 + a0_1) / 2 + 1)))) from
              ⟨blk_other_ (blk_other_ k1 D18 _) D20 _, blk_other_ (blk_other_ k2 D19 _) D21 _, blk_other_ (blk_put k3 1 _ rfl) D17 _, blk_put (blk_other_ k4 D8 _) 0 _ rfl, below_set (below_set k6 GL.out) GH.out⟩)
            clear k1 k2 k3 k4 k5 k6 k7 L1 L2 L3 L4
            go_upto_region 9 with (go_at_call 121; (with_reducible refine (chosen_p.calls _ _ _ _).mono ?_); rintro e w7 ⟨rfl, rfl⟩; simp only [if_true, if_false, Bool.false_eq_true])
            generalize (World.setCell (World.setCell w7 ⟨gl, 1, none⟩ (.int .i64 (wrap64 (a0_0 + a0_1) / 2))) ⟨gh, 0, none⟩ (.int .i64 (wrap64 (wrap64 (a0_0 + a0_1) / 2 + 1)))) = W9 at KA ⊢
            clear lc0 lf0
            clear lc1 lf1
            clear lc2 lf2
            clear lc3 lf3
            clear hc0 hf0
            clear hc1 hf1
            clear hc2 hf2
            clear hc3 hf3
            have lc0 : W9.cell? ⟨gl, 0, none⟩ = some (.int .i64 a0_0) := (KA.out.2.2.1).cell 0
            have lf0 := (KA.out.2.2.1).frozen 0
            have lc1 : W9.cell? ⟨gl, 1, none⟩ = some (.int .i64 (wrap64 (a0_0 + a0_1) / 2)) := (KA.out.2.2.1).cell 1
            have lf1 := (KA.out.2.2.1).frozen 1
            have lc2 : W9.cell? ⟨gl, 2, none⟩ = some (.int .i64 a0_2) := (KA.out.2.2.1).cell 2
            have lf2 := (KA.out.2.2.1).frozen 2
            have lc3 : W9.cell? ⟨gl, 3, none⟩ = some (.int .i64 a0_3) := (KA.out.2.2.1).cell 3
            have lf3 := (KA.out.2.2.1).frozen 3
            have hc0 : W9.cell? ⟨gh, 0, none⟩ = some (.int .i64 (wrap64 (wrap64 (a0_0 + a0_1) / 2 + 1))) := (KA.out.2.2.2.1).cell 0
            have hf0 := (KA.out.2.2.2.1).frozen 0
            have hc1 : W9.cell? ⟨gh, 1, none⟩ = some (.int .i64 a0_1) := (KA.out.2.2.2.1).cell 1
            have hf1 := (KA.out.2.2.2.1).frozen 1
            have hc2 : W9.cell? ⟨gh, 2, none⟩ = some (.int .i64 a0_2) := (KA.out.2.2.2.1).cell 2
            have hf2 := (KA.out.2.2.2.1).frozen 2
            have hc3 : W9.cell? ⟨gh, 3, none⟩ = some (.int .i64 a0_3) := (KA.out.2.2.2.1).cell 3
            have hf3 := (KA.out.2.2.2.1).frozen 3
            have rc0 : W9.cell? ⟨g1, 0, none⟩ = some (.int .i64 0) := (KA.out.1).cell 0
            have rf0 := (KA.out.1).frozen 0
            have rc1 : W9.cell? ⟨g1, 1, none⟩ = some (.int .i64 0) := (KA.out.1).cell 1
            have rf1 := (KA.out.1).frozen 1
            have rc2 : W9.cell? ⟨g1, 2, none⟩ = some (.int .i64 0) := (KA.out.1).cell 2
            have rf2 := (KA.out.1).frozen 2
            have rc3 : W9.cell? ⟨g1, 3, none⟩ = some (.int .i64 0) := (KA.out.1).cell 3
            have rf3 := (KA.out.1).frozen 3
            have sc0 : W9.cell? ⟨g2, 0, none⟩ = some (.int .i64 0) := (KA.out.2.1).cell 0
            have sf0 := (KA.out.2.1).frozen 0
            have sc1 : W9.cell? ⟨g2, 1, none⟩ = some (.int .i64 0) := (KA.out.2.1).cell 1
            have sf1 := (KA.out.2.1).frozen 1
            have sc2 : W9.cell? ⟨g2, 2, none⟩ = some (.int .i64 0) := (KA.out.2.1).cell 2
            have sf2 := (KA.out.2.1).frozen 2
            have sc3 : W9.cell? ⟨g2, 3, none⟩ = some (.int .i64 0) := (KA.out.2.1).cell 3
            have sf3 := (KA.out.2.1).frozen 3
            go_region
            go_wp2
            have HC := HH.out
            unfold cutB midW at HC
            rw [if_pos (of_decide_eq_true hw)] at HC
            simp only [Prod.mk.injEq] at HC
            obtain ⟨rfl, rfl, rfl, rfl, rfl, rfl, rfl, rfl, rfl⟩ := HC
            refine bodyPost_ret (results_cct rfl _ _ g1 g2 52 52 #[.int .i64 a0_0, .int .i64 (wrap64 (a0_0 + a0_1) / 2), .int .i64 a0_2, .int .i64 a0_3] #[.int .i64 (wrap64 (wrap64 (a0_0 + a0_1) / 2 + 1)), .int .i64 a0_1, .int .i64 a0_2, .int .i64 a0_3] (0, 0) (0, 0) _ _ rfl ?h1 Try.underlying52 rfl (by kernel_rfl) rfl ?h2 Try.underlying52 rfl (by kernel_rfl)) rfl ?_
            case h1 => exact (by (with_reducible refine blk_drew ?_); (with_reducible repeat (refine blk_other_ ?_ (by first | exact n21 | exact n12) _)); refine blk_put (cs := #[.int .i64 a0_0, .int .i64 (wrap64 (a0_0 + a0_1) / 2), .int .i64 a0_2, .int .i64 0]) ?_ 3 _ rfl; refine blk_put (cs := #[.int .i64 a0_0, .int .i64 (wrap64 (a0_0 + a0_1) / 2), .int .i64 0, .int .i64 0]) ?_ 2 _ rfl; refine blk_put (cs := #[.int .i64 a0_0, .int .i64 0, .int .i64 0, .int .i64 0]) ?_ 1 _ rfl; refine blk_put (cs := #[.int .i64 0, .int .i64 0, .int .i64 0, .int .i64 0]) ?_ 0 _ rfl; (with_reducible repeat (refine blk_other_ ?_ (by first | exact n21 | exact n12) _)); exact KA.out.1)
            case h2 => exact (by (with_reducible refine blk_drew ?_); (with_reducible repeat (refine blk_other_ ?_ (by first | exact n21 | exact n12) _)); refine blk_put (cs := #[.int .i64 (wrap64 (wrap64 (a0_0 + a0_1) / 2 + 1)), .int .i64 a0_1, .int .i64 a0_2, .int .i64 0]) ?_ 3 _ rfl; refine blk_put (cs := #[.int .i64 (wrap64 (wrap64 (a0_0 + a0_1) / 2 + 1)), .int .i64 a0_1, .int .i64 0, .int .i64 0]) ?_ 2 _ rfl; refine blk_put (cs := #[.int .i64 (wrap64 (wrap64 (a0_0 + a0_1) / 2 + 1)), .int .i64 0, .int .i64 0, .int .i64 0]) ?_ 1 _ rfl; refine blk_put (cs := #[.int .i64 0, .int .i64 0, .int .i64 0, .int .i64 0]) ?_ 0 _ rfl; (with_reducible repeat (refine blk_other_ ?_ (by first | exact n21 | exact n12) _)); exact KA.out.2.1)
            exact ⟨rfl, (by repeat (with_reducible first | exact KA.out.2.2.2.2 | refine below_drew1 ?_ | refine below_set ?_ GE1.out | refine below_set ?_ GE2.out))⟩
          | false =>
            go_upto_region 6 with (go_at_call 120; (with_reducible refine (api_Span.calls false a0_0 a0_1 a0_2 a0_3 a0_2 a0_3 _ rfl).mono ?_); rintro e w5 ⟨rfl, hb⟩; have k5 := K3.out w5 hb; have K5 := Aside0.mk k5; clear hb k5)
            obtain ⟨W6, hW6⟩ : ∃ W6, w5.alloc (.cells #[.int .i64 a0_2, .int .i64 a0_3] 50) = W6 := ⟨_, rfl⟩
            have k1 : Blk W6 g1 #[.int .i64 0, .int .i64 0, .int .i64 0, .int .i64 0] 52 := by rw [← hW6]; exact K5.out.2.1.alloc _
            have k2 : Blk W6 g2 #[.int .i64 0, .int .i64 0, .int .i64 0, .int .i64 0] 52 := by rw [← hW6]; exact K5.out.2.2.1.alloc _
            have k3 : Blk W6 gl #[.int .i64 a0_0, .int .i64 a0_1, .int .i64 a0_2, .int .i64 a0_3] 52 := by rw [← hW6]; exact K5.out.2.2.2.1.alloc _
            have k4 : Blk W6 gh #[.int .i64 a0_0, .int .i64 a0_1, .int .i64 a0_2, .int .i64 a0_3] 52 := by rw [← hW6]; exact K5.out.2.2.2.2.1.alloc _
            have k5 : Blk W6 (w5.heap.size) #[.int .i64 a0_2, .int .i64 a0_3] 50 := by rw [← hW6]; exact Blk.new w5 50 _
            have k6 : Below w.heap.size w W6 := by rw [← hW6]; exact K5.out.2.2.2.2.2.1.alloc (by have := K5.out.2.2.2.2.2.1.size; omega) _
            have k7 : wc.heap.size ≤ w5.heap.size := K5.out.2.2.2.2.2.2
            rw [hW6]
            generalize w5.heap.size = g8 at *
            clear hW6 K5 K3
            have m1 : g8 ≠ gl := by omega
            have m2 : g8 ≠ gh := by omega
            have m3 : gl ≠ g8 := by omega
            have m4 : gh ≠ g8 := by omega
            have lc0 : W6.cell? ⟨gl, 0, none⟩ = some (.int .i64 a0_0) := (k3).cell 0
            have lf0 := (k3).frozen 0
            have lc1 : W6.cell? ⟨gl, 1, none⟩ = some (.int .i64 a0_1) := (k3).cell 1
            have lf1 := (k3).frozen 1
            have lc2 : W6.cell? ⟨gl, 2, none⟩ = some (.int .i64 a0_2) := (k3).cell 2
            have lf2 := (k3).frozen 2
            have lc3 : W6.cell? ⟨gl, 3, none⟩ = some (.int .i64 a0_3) := (k3).cell 3
            have lf3 := (k3).frozen 3
            have hc0 : W6.cell? ⟨gh, 0, none⟩ = some (.int .i64 a0_0) := (k4).cell 0
            have hf0 := (k4).frozen 0
            have hc1 : W6.cell? ⟨gh, 1, none⟩ = some (.int .i64 a0_1) := (k4).cell 1
            have hf1 := (k4).frozen 1
            have hc2 : W6.cell? ⟨gh, 2, none⟩ = some (.int .i64 a0_2) := (k4).cell 2
            have hf2 := (k4).frozen 2
            have hc3 : W6.cell? ⟨gh, 3, none⟩ = some (.int .i64 a0_3) := (k4).cell 3
            have hf3 := (k4).frozen 3
            have ec0 : W6.cell? ⟨g8, 0, none⟩ = some (.int .i64 a0_2) := (k5).cell 0
            have ef0 := (k5).frozen 0
            have ec1 : W6.cell? ⟨g8, 1, none⟩ = some (.int .i64 a0_3) := (k5).cell 1
            have ef1 := (k5).frozen 1
            have KA := Aside0.mk (show Blk (((W6.setCell ⟨gl, 3, none⟩ (.int .i64 (wrap64 (a0_2 + a0_3) / 2))).setCell ⟨gh, 2, none⟩ (.int .i64 (wrap64 (wrap64 (a0_2 + a0_3) / 2 + 1))))) g1 #[.int .i64 0, .int .i64 0, .int .i64 0, .int .i64 0] 52 ∧ Blk (((W6.setCell ⟨gl, 3, none⟩ (.int .i64 (wrap64 (a0_2 + a0_3) / 2))).setCell ⟨gh, 2, none⟩ (.int .i64 (wrap64 (wrap64 (a0_2 + a0_3) / 2 + 1))))) g2 #[.int .i64 0, .int .i64 0, .int .i64 0, .int .i64 0] 52 ∧ Blk (((W6.setCell ⟨gl, 3, none⟩ (.int .i64 (wrap64 (a0_2 + a0_3) / 2))).setCell ⟨gh, 2, none⟩ (.int .i64 (wrap64 (wrap64 (a0_2 + a0_3) / 2 + 1))))) gl #[.int .i64 a0_0, .int .i64 a0_1, .int .i64 a0_2, .int .i64 (wrap64 (a0_2 + a0_3) / 2)] 52 ∧ Blk (((W6.setCell ⟨gl, 3, none⟩ (.int .i64 (wrap64 (a0_2 + a0_3) / 2))).setCell ⟨gh, 2, none⟩ (.int .i64 (wrap64 (wrap64 (a0_2 + a0_3) / 2 + 1))))) gh #[.int .i64 a0_0, .int .i64 a0_1, .int .i64 (wrap64 (wrap64 (a0_2 + a0_3) / 2 + 1)), .int .i64 a0_3] 52 ∧ Below w.heap.size w ((W6.setCell ⟨gl, 3, none⟩ (.int .i64 (wrap64 (a0_2 + a0_3) / 2))).setCell ⟨gh, 2, none⟩ (.int .i64 (wrap64 (wrap64 (a0_2 + a0_3) / 2 + 1)))) from
              ⟨blk_other_ (blk_other_ k1 D18 _) D20 _, blk_other_ (blk_other_ k2 D19 _) D21 _, blk_other_ (blk_put k3 3 _ rfl) D17 _, blk_put (blk_other_ k4 D8 _) 2 _ rfl, below_set (below_set k6 GL.out) GH.out⟩)
            clear k1 k2 k3 k4 k5 k6 k7 L1 L2 L3 L4
            go_upto_region 9 with (go_at_call 121; (with_reducible refine (chosen_p.calls _ _ _ _).mono ?_); rintro e w7 ⟨rfl, rfl⟩; simp only [if_true, if_false, Bool.false_eq_true])
            generalize (World.setCell (World.setCell w7 ⟨gl, 3, none⟩ (.int .i64 (wrap64 (a0_2 + a0_3) / 2))) ⟨gh, 2, none⟩ (.int .i64 (wrap64 (wrap64 (a0_2 + a0_3) / 2 + 1)))) = W9 at KA ⊢
            clear lc0 lf0
            clear lc1 lf1
            clear lc2 lf2
            clear lc3 lf3
            clear hc0 hf0
            clear hc1 hf1
            clear hc2 hf2
            clear hc3 hf3
            have lc0 : W9.cell? ⟨gl, 0, none⟩ = some (.int .i64 a0_0) := (KA.out.2.2.1).cell 0
            have lf0 := (KA.out.2.2.1).frozen 0
            have lc1 : W9.cell? ⟨gl, 1, none⟩ = some (.int .i64 a0_1) := (KA.out.2.2.1).cell 1
            have lf1 := (KA.out.2.2.1).frozen 1
            have lc2 : W9.cell? ⟨gl, 2, none⟩ = some (.int .i64 a0_2) := (KA.out.2.2.1).cell 2
            have lf2 := (KA.out.2.2.1).frozen 2
            have lc3 : W9.cell? ⟨gl, 3, none⟩ = some (.int .i64 (wrap64 (a0_2 + a0_3) / 2)) := (KA.out.2.2.1).cell 3
            have lf3 := (KA.out.2.2.1).frozen 3
            have hc0 : W9.cell? ⟨gh, 0, none⟩ = some (.int .i64 a0_0) := (KA.out.2.2.2.1).cell 0
            have hf0 := (KA.out.2.2.2.1).frozen 0
            have hc1 : W9.cell? ⟨gh, 1, none⟩ = some (.int .i64 a0_1) := (KA.out.2.2.2.1).cell 1
            have hf1 := (KA.out.2.2.2.1).frozen 1
            have hc2 : W9.cell? ⟨gh, 2, none⟩ = some (.int .i64 (wrap64 (wrap64 (a0_2 + a0_3) / 2 + 1))) := (KA.out.2.2.2.1).cell 2
            have hf2 := (KA.out.2.2.2.1).frozen 2
            have hc3 : W9.cell? ⟨gh, 3, none⟩ = some (.int .i64 a0_3) := (KA.out.2.2.2.1).cell 3
            have hf3 := (KA.out.2.2.2.1).frozen 3
            have rc0 : W9.cell? ⟨g1, 0, none⟩ = some (.int .i64 0) := (KA.out.1).cell 0
            have rf0 := (KA.out.1).frozen 0
            have rc1 : W9.cell? ⟨g1, 1, none⟩ = some (.int .i64 0) := (KA.out.1).cell 1
            have rf1 := (KA.out.1).frozen 1
            have rc2 : W9.cell? ⟨g1, 2, none⟩ = some (.int .i64 0) := (KA.out.1).cell 2
            have rf2 := (KA.out.1).frozen 2
            have rc3 : W9.cell? ⟨g1, 3, none⟩ = some (.int .i64 0) := (KA.out.1).cell 3
            have rf3 := (KA.out.1).frozen 3
            have sc0 : W9.cell? ⟨g2, 0, none⟩ = some (.int .i64 0) := (KA.out.2.1).cell 0
            have sf0 := (KA.out.2.1).frozen 0
            have sc1 : W9.cell? ⟨g2, 1, none⟩ = some (.int .i64 0) := (KA.out.2.1).cell 1
            have sf1 := (KA.out.2.1).frozen 1
            have sc2 : W9.cell? ⟨g2, 2, none⟩ = some (.int .i64 0) := (KA.out.2.1).cell 2
            have sf2 := (KA.out.2.1).frozen 2
            have sc3 : W9.cell? ⟨g2, 3, none⟩ = some (.int .i64 0) := (KA.out.2.1).cell 3
            have sf3 := (KA.out.2.1).frozen 3
            go_region
            go_wp2
            have HC := HH.out
            unfold cutB midW at HC
            rw [if_neg (of_decide_eq_false hw)] at HC
            simp only [Prod.mk.injEq] at HC
            obtain ⟨rfl, rfl, rfl, rfl, rfl, rfl, rfl, rfl, rfl⟩ := HC
            refine bodyPost_ret (results_cct rfl _ _ g1 g2 52 52 #[.int .i64 a0_0, .int .i64 a0_1, .int .i64 a0_2, .int .i64 (wrap64 (a0_2 + a0_3) / 2)] #[.int .i64 a0_0, .int .i64 a0_1, .int .i64 (wrap64 (wrap64 (a0_2 + a0_3) / 2 + 1)), .int .i64 a0_3] (0, 0) (0, 0) _ _ rfl ?h1 Try.underlying52 rfl (by kernel_rfl) rfl ?h2 Try.underlying52 rfl (by kernel_rfl)) rfl ?_
            case h1 => exact (by (with_reducible refine blk_drew ?_); (with_reducible repeat (refine blk_other_ ?_ (by first | exact n21 | exact n12) _)); refine blk_put (cs := #[.int .i64 a0_0, .int .i64 a0_1, .int .i64 a0_2, .int .i64 0]) ?_ 3 _ rfl; refine blk_put (cs := #[.int .i64 a0_0, .int .i64 a0_1, .int .i64 0, .int .i64 0]) ?_ 2 _ rfl; refine blk_put (cs := #[.int .i64 a0_0, .int .i64 0, .int .i64 0, .int .i64 0]) ?_ 1 _ rfl; refine blk_put (cs := #[.int .i64 0, .int .i64 0, .int .i64 0, .int .i64 0]) ?_ 0 _ rfl; (with_reducible repeat (refine blk_other_ ?_ (by first | exact n21 | exact n12) _)); exact KA.out.1)
            case h2 => exact (by (with_reducible refine blk_drew ?_); (with_reducible repeat (refine blk_other_ ?_ (by first | exact n21 | exact n12) _)); refine blk_put (cs := #[.int .i64 a0_0, .int .i64 a0_1, .int .i64 (wrap64 (wrap64 (a0_2 + a0_3) / 2 + 1)), .int .i64 0]) ?_ 3 _ rfl; refine blk_put (cs := #[.int .i64 a0_0, .int .i64 a0_1, .int .i64 0, .int .i64 0]) ?_ 2 _ rfl; refine blk_put (cs := #[.int .i64 a0_0, .int .i64 0, .int .i64 0, .int .i64 0]) ?_ 1 _ rfl; refine blk_put (cs := #[.int .i64 0, .int .i64 0, .int .i64 0, .int .i64 0]) ?_ 0 _ rfl; (with_reducible repeat (refine blk_other_ ?_ (by first | exact n21 | exact n12) _)); exact KA.out.2.1)
            exact ⟨rfl, (by repeat (with_reducible first | exact KA.out.2.2.2.2 | refine below_drew1 ?_ | refine below_set ?_ GE1.out | refine below_set ?_ GE2.out))⟩
end Go.Proofs.Ytckaejgamfllfaa.G
end

section
namespace Go.Proofs.Ytckaejgamfllfaa.G
open Go.RowKit Go.Proofs.YtckaejgamfllfaaW.PrintWords Go.Proofs.YtckaejgamfllfaaW.PrintLast Go.Proofs.YtckaejgamfllfaaW.PrintMore
attribute [local go_sem] max2_int min2_int max_two min_two max_three min_three max_four min_four
set_option linter.unusedVariables false
set_option linter.unusedSimpArgs false
def plane_meet.f (a0_0 : Int) (a0_1 : Int) (a1_0 : Int) (a1_1 : Int) : Option (Int × Int) := some (mx a0_0 a1_0, mn a0_1 a1_1)
set_option maxHeartbeats 8000000 in
set_option maxRecDepth 100000 in
theorem plane_meet.calls (a0_0 : Int) (a0_1 : Int) (a1_0 : Int) (a1_1 : Int) (r1 : Int) (r2 : Int) (w : World) (h : plane_meet.f a0_0 a0_1 a1_0 a1_1 = some (r1, r2)) :
  Calls Try.prog 118 #[.agg #[.int .i64 a0_0, .int .i64 a0_1], .agg #[.int .i64 a1_0, .int .i64 a1_1]] w fun e w' => e = .returned (.agg #[.int .i64 r1, .int .i64 r2]) ∧ Below w.heap.size w w' := by
 have hu50 := Try.underlying50
 have HB := Aside0.mk (Below.refl w.heap.size w)
 have H : (some (mx a0_0 a1_0, mn a0_1 a1_1)) = some (r1, r2) := h
 clear h
 obtain ⟨ji3, hji3⟩ : ∃ j_ : Int, (mx a0_0 a1_0) = j_ := ⟨_, rfl⟩
 replace H : (some (ji3, mn a0_1 a1_1)) = some (r1, r2) := by first | (rw [hji3] at H; exact H) | (simp only [hji3] at H ⊢; exact H)
 have hji3_ : (if a0_0 < a1_0 then a1_0 else a0_0) = ji3 := hji3
 obtain ⟨ji4, hji4⟩ : ∃ j_ : Int, (mn a0_1 a1_1) = j_ := ⟨_, rfl⟩
 replace H : (some (ji3, ji4)) = some (r1, r2) := by first | (rw [hji4] at H; exact H) | (simp only [hji4] at H ⊢; exact H)
 have hji4_ : (if a1_1 < a0_1 then a1_1 else a0_1) = ji4 := hji4
 simp only [Option.some.injEq, Prod.mk.injEq] at H
 obtain ⟨rfl, rfl⟩ := H
 go_enter Try.func118, Try.ntmps118
 go_wp2_with (first | ((with_reducible refine gate_dst (N := 2) rfl ?_); refine box_event ?hg (N := 2) ?hd (cs := #[.int .i64 a0_0, .int .i64 a0_1]) (t := 50) ?hr ?_; (case hd => rfl); (case hg => rfl); (case hr => first | (go_simp; done) | (go_simp; rfl)); intro gb610 hg w5 hbox hb; have BK610 := Aside0.mk (hbox); have GW610 := geBA HB hg; have GE610 := geBA HB hg; replace HB := Aside0.mk (below_step (hk HB) hb); clear hb hbox hg) | ((with_reducible refine gate_dst (N := 3) rfl ?_); refine box_event ?hg (N := 3) ?hd (cs := #[.int .i64 a1_0, .int .i64 a1_1]) (t := 50) ?hr ?_; (case hd => rfl); (case hg => rfl); (case hr => first | (go_simp; done) | (go_simp; rfl)); intro gb611 hg w6 hbox hb; have BK611 := Aside0.mk (hbox); have GW611 := Aside0.mk ((by rw [hg]; exact (below_size (by repeat (first | (with_reducible first | exact HB.out | apply below_alloc | apply pw_below_drewN | apply below_drew1 | refine below_set ?_ GE610.out) | exact HB.out))) : w.heap.size ≤ gb611)); have GE611 := Aside0.mk ((by rw [hg]; exact (below_size (by repeat (first | (with_reducible first | exact HB.out | apply below_alloc | apply pw_below_drewN | apply below_drew1 | refine below_set ?_ GE610.out) | exact HB.out))) : w.heap.size ≤ gb611)); have NB610_611 := neLA BK610 hg; have NB611_610 := neGA BK610 hg; replace BK610 := bkC BK610 hb; replace HB := Aside0.mk (below_step (by repeat (first | (with_reducible first | exact HB.out | apply below_alloc | apply pw_below_drewN | apply below_drew1 | refine below_set ?_ GE610.out) | exact HB.out)) hb); clear hb hbox hg) | ((with_reducible refine gate_dst (N := 4) rfl ?_); refine box_event ?hg (N := 4) ?hd (cs := #[.int .i64 0, .int .i64 0]) (t := 50) ?hr ?_; (case hd => rfl); (case hg => rfl); (case hr => first | (go_simp; done) | (go_simp; rfl)); intro gb612 hg w7 hbox hb; have BK612 := Aside0.mk (hbox); have GW612 := Aside0.mk ((by rw [hg]; exact (below_size (by repeat (first | (with_reducible first | exact HB.out | apply below_alloc | apply pw_below_drewN | apply below_drew1 | refine below_set ?_ GE610.out | refine below_set ?_ GE611.out) | exact HB.out))) : w.heap.size ≤ gb612)); have GE612 := Aside0.mk ((by rw [hg]; exact (below_size (by repeat (first | (with_reducible first | exact HB.out | apply below_alloc | apply pw_below_drewN | apply below_drew1 | refine below_set ?_ GE610.out | refine below_set ?_ GE611.out) | exact HB.out))) : w.heap.size ≤ gb612)); have NB610_612 := neLA BK610 hg; have NB612_610 := neGA BK610 hg; have NB611_612 := neLA BK611 hg; have NB612_611 := neGA BK611 hg; replace BK610 := bkC BK610 hb; replace BK611 := bkC BK611 hb; replace HB := Aside0.mk (below_step (by repeat (first | (with_reducible first | exact HB.out | apply below_alloc | apply pw_below_drewN | apply below_drew1 | refine below_set ?_ GE610.out | refine below_set ?_ GE611.out) | exact HB.out)) hb); clear hb hbox hg; have hnb8 := NB610_611.out; have hnc8 := NB611_610.out; have hnb9 := NB610_612.out; have hnc9 := NB612_610.out; have hcz10_0 : w7.cell? ⟨gb610, 0, none⟩ = some (.int .i64 a0_0) := (blk_cell BK610.out 0).trans rfl; have hcz10_1 : w7.cell? ⟨gb610, 1, none⟩ = some (.int .i64 a0_1) := (blk_cell BK610.out 1).trans rfl; have hfz10_0 := blk_frozen BK610.out 0; have hfz10_1 := blk_frozen BK610.out 1; have hnb11 := NB611_612.out; have hnc11 := NB612_611.out; have hcz12_0 : w7.cell? ⟨gb611, 0, none⟩ = some (.int .i64 a1_0) := (blk_cell BK611.out 0).trans rfl; have hcz12_1 : w7.cell? ⟨gb611, 1, none⟩ = some (.int .i64 a1_1) := (blk_cell BK611.out 1).trans rfl; have hfz12_0 := blk_frozen BK611.out 0; have hfz12_1 := blk_frozen BK611.out 1; have hcz13_0 : w7.cell? ⟨gb612, 0, none⟩ = some (.int .i64 0) := (blk_cell BK612.out 0).trans rfl; have hcz13_1 : w7.cell? ⟨gb612, 1, none⟩ = some (.int .i64 0) := (blk_cell BK612.out 1).trans rfl; have hfz13_0 := blk_frozen BK612.out 0; have hfz13_1 := blk_frozen BK612.out 1))
 refine bodyPost_ret (results_cell_row rfl _ _ gb612 50 #[.int .i64 ji3, .int .i64 ji4] (0, 0) _ rfl (by (with_reducible repeat (first | refine blk_drewN ?_ _ | refine blk_drew ?_ | refine blk_alloc ?_ _)); refine blk_put (cs := #[.int .i64 ji3, .int .i64 0]) ?_ 1 _ rfl; (with_reducible repeat (first | refine blk_drewN ?_ _ | refine blk_drew ?_ | refine blk_alloc ?_ _)); refine blk_put (cs := #[.int .i64 0, .int .i64 0]) ?_ 0 _ rfl; (with_reducible repeat (first | refine blk_drewN ?_ _ | refine blk_drew ?_ | refine blk_alloc ?_ _)); exact BK612.out) Try.underlying50 rfl (by kernel_rfl)) rfl ?_
 exact ⟨by first | rfl | (simp [errW_none, errW_some] <;> rfl) | (simp only [← hji3, ← hji4]; first | rfl | (simp [errW_none, errW_some] <;> rfl)) | (simp [*, errW_none, errW_some] <;> rfl), by repeat (first | (with_reducible first | exact HB.out | apply below_alloc | apply pw_below_drewN | apply below_drew1 | refine below_set ?_ GE610.out | refine below_set ?_ GE611.out | refine below_set ?_ GE612.out) | exact HB.out)⟩
end Go.Proofs.Ytckaejgamfllfaa.G
end

section
namespace Go.Proofs.Ytckaejgamfllfaa.G
open Go.RowKit Go.Proofs.YtckaejgamfllfaaW.PrintWords Go.Proofs.YtckaejgamfllfaaW.PrintLast Go.Proofs.YtckaejgamfllfaaW.PrintMore
attribute [local go_sem] max2_int min2_int max_two min_two max_three min_three max_four min_four
set_option linter.unusedVariables false
set_option linter.unusedSimpArgs false
def growLo (lo n : Int) : Int := mx (wrap64 (lo - n)) (-1048576)
def growHi (hi n : Int) : Int := mn (wrap64 (hi + n)) 1048576
set_option maxHeartbeats 4000000 in
set_option maxRecDepth 100000 in
theorem grow_1.calls (lo hi n : Int) (B1 B2 : Nat) (w : World) (h1 : w.cell? ⟨B1, 0, none⟩ = some (.int .i64 n)) (h2 : w.cell? ⟨B2, 0, none⟩ = some (.int .i64 (-1048576))) (h3 : w.cell? ⟨B2, 1, none⟩ = some (.int .i64 1048576)) :
    Calls Try.prog 119 #[.agg #[.int .i64 lo, .int .i64 hi], .pointer (some ⟨B1, 0, none⟩), .pointer (some ⟨B2, 0, none⟩)] w fun e w' => e = .returned (.agg #[.int .i64 (growLo lo n), .int .i64 (growHi hi n)]) ∧ Below w.heap.size w w' := by
  have hu50 := Try.underlying50
  have k1 := World.block_lt_of_cell? w _ h1
  have k2 := World.block_lt_of_cell? w _ h2
  go_enter Try.func119, Try.ntmps119
  have bR := Blk.new (w.alloc (.cells #[.int .i64 lo, .int .i64 hi] 50)) 50 #[.int .i64 0, .int .i64 0]
  rw [World.size_alloc] at bR
  have hB : Below w.heap.size w ((w.alloc (.cells #[.int .i64 lo, .int .i64 hi] 50)).alloc (.cells #[.int .i64 0, .int .i64 0] 50)) := ((Below.refl _ w).alloc (Nat.le_refl _) _).alloc (by simp) _
  have HBR := Aside0.mk bR
  have HBB := Aside0.mk hB
  have HM := Aside0.mk (show plane_meet.f (wrap64 (lo - n)) (wrap64 (hi + n)) (-1048576) 1048576 = some (growLo lo n, growHi hi n) from rfl)
  clear bR hB
  go_wp2_with (go_at_call 118; (with_reducible refine (plane_meet.calls _ _ _ _ _ _ _ HM.out).mono ?_); rintro e w' ⟨rfl, hb⟩; have bS := HBR.out.below hb; have c0 : w'.cell? ⟨w.heap.size + 1, 0, none⟩ = some (.int .i64 0) := bS.cell 0; have c1 : w'.cell? ⟨w.heap.size + 1, 1, none⟩ = some (.int .i64 0) := bS.cell 1; have f0 := bS.frozen 0; have f1 := bS.frozen 1; have hB2 := Aside0.mk (below_then HBB.out (by simp; omega) hb); have HS := Aside0.mk bS; clear hb bS)
  refine bodyPost_ret (results_cell_row rfl _ _ (w.heap.size + 1) 50 #[.int .i64 (growLo lo n), .int .i64 (growHi hi n)] (0, 0) _ rfl (by refine blk_put (cs := #[.int .i64 (growLo lo n), .int .i64 0]) ?_ 1 _ rfl; refine blk_put (cs := #[.int .i64 0, .int .i64 0]) ?_ 0 _ rfl; exact HS.out) Try.underlying50 rfl (by kernel_rfl)) rfl ?_
  exact ⟨rfl, (hB2.out.setCell (p := ⟨w.heap.size + 1, 0, none⟩) (by simp) _).setCell (p := ⟨w.heap.size + 1, 1, none⟩) (by simp) _⟩
def growB (b0 b1 b2 b3 n : Int) : Int × Int × Int × Int × Bool := (growLo b0 (mn n 2097152), growHi b1 (mn n 2097152), growLo b2 (mn n 2097152), growHi b3 (mn n 2097152), true)
def plane_Grow.f (a0_0 a0_1 a0_2 a0_3 a1 : Int) : Option (Int × Int × Int × Int × Bool) :=
  (plane_Proper.f a0_0 a0_1 a0_2 a0_3).bind fun t => if t = true then (if a1 < 0 then some (0, 0, 0, 0, false) else some (growB a0_0 a0_1 a0_2 a0_3 a1)) else some (0, 0, 0, 0, false)
set_option maxHeartbeats 8000000 in
set_option maxRecDepth 100000 in
theorem plane_Grow.calls (a0_0 : Int) (a0_1 : Int) (a0_2 : Int) (a0_3 : Int) (a1 : Int) (r1 : Int) (r2 : Int) (r3 : Int) (r4 : Int) (r5 : Bool) (w : World) (h : plane_Grow.f a0_0 a0_1 a0_2 a0_3 a1 = some (r1, r2, r3, r4, r5)) :
    Calls Try.prog 60 #[.agg #[.int .i64 a0_0, .int .i64 a0_1, .int .i64 a0_2, .int .i64 a0_3], .int .i64 a1] w fun e w' => e = .returned (.tuple #[.agg #[.int .i64 r1, .int .i64 r2, .int .i64 r3, .int .i64 r4], .bool r5]) ∧ Below w.heap.size w w' := by
  unfold plane_Grow.f at h
  obtain ⟨t, ht, h⟩ := Option.bind_eq_some_iff.mp h
  have HP := Aside0.mk ht
  clear ht
  have hu50 := Try.underlying50
  have hu52 := Try.underlying52
  obtain ⟨W0, hW0⟩ : ∃ W0, W0 = ((w.alloc (.cells #[.int .i64 a0_0, .int .i64 a0_1, .int .i64 a0_2, .int .i64 a0_3] 52)).alloc (.cells #[.int .i64 a1] 3)).alloc (.cells #[.int .i64 0, .int .i64 0, .int .i64 0, .int .i64 0] 52) := ⟨_, rfl⟩
  have hs0 : W0.heap.size = w.heap.size + 3 := by rw [hW0]; simp
  have B0 : Blk W0 w.heap.size #[.int .i64 a0_0, .int .i64 a0_1, .int .i64 a0_2, .int .i64 a0_3] 52 := by rw [hW0]; exact ((Blk.new w 52 _).alloc _).alloc _
  have B1 : Blk W0 (w.heap.size + 1) #[.int .i64 a1] 3 := by rw [hW0]; have := Blk.new (w.alloc (.cells #[.int .i64 a0_0, .int .i64 a0_1, .int .i64 a0_2, .int .i64 a0_3] 52)) 3 #[.int .i64 a1]; rw [World.size_alloc] at this; exact this.alloc _
  have B2 : Blk W0 (w.heap.size + 1 + 1) #[.int .i64 0, .int .i64 0, .int .i64 0, .int .i64 0] 52 := by rw [hW0]; have := Blk.new ((w.alloc (.cells #[.int .i64 a0_0, .int .i64 a0_1, .int .i64 a0_2, .int .i64 a0_3] 52)).alloc (.cells #[.int .i64 a1] 3)) 52 #[.int .i64 0, .int .i64 0, .int .i64 0, .int .i64 0]; rw [World.size_alloc, World.size_alloc] at this; exact this
  have hB : Below w.heap.size w W0 := by rw [hW0]; exact (((Below.refl _ w).alloc (Nat.le_refl _) _).alloc (by simp) _).alloc (by simp; omega) _
  have HW := Aside0.mk hW0
  have K := Aside0.mk (show ∀ W, Below W0.heap.size W0 W → Blk W w.heap.size #[.int .i64 a0_0, .int .i64 a0_1, .int .i64 a0_2, .int .i64 a0_3] 52 ∧ Blk W (w.heap.size + 1) #[.int .i64 a1] 3 ∧ Blk W (w.heap.size + 1 + 1) #[.int .i64 0, .int .i64 0, .int .i64 0, .int .i64 0] 52 ∧ Below w.heap.size w W ∧ w.heap.size + 3 ≤ W.heap.size from
    fun W hb => ⟨B0.below hb, B1.below hb, B2.below hb, below_then hB (by omega) hb, by have := hb.size; omega⟩)
  clear B0 B1 B2 hB hs0
  clear hW0
  cases t with
  | false =>
    rw [if_neg (by decide)] at h
    simp only [Option.some.injEq, Prod.mk.injEq] at h
    obtain ⟨rfl, rfl, rfl, rfl, rfl⟩ := h
    go_enter Try.func60, Try.ntmps60
    go_wp2_with (go_at_call 64; (with_reducible refine (plane_Proper.calls _ _ _ _ _ _ HP.out).mono ?_); rw [← HW.out]; rintro e w' ⟨rfl, hb⟩; have k := K.out w' hb; have rc0 : w'.cell? ⟨w.heap.size + 1 + 1, 0, none⟩ = some (.int .i64 0) := (k.2.2.1).cell 0; have rf0 := (k.2.2.1).frozen 0; have rc1 : w'.cell? ⟨w.heap.size + 1 + 1, 1, none⟩ = some (.int .i64 0) := (k.2.2.1).cell 1; have rf1 := (k.2.2.1).frozen 1; have rc2 : w'.cell? ⟨w.heap.size + 1 + 1, 2, none⟩ = some (.int .i64 0) := (k.2.2.1).cell 2; have rf2 := (k.2.2.1).frozen 2; have rc3 : w'.cell? ⟨w.heap.size + 1 + 1, 3, none⟩ = some (.int .i64 0) := (k.2.2.1).cell 3; have rf3 := (k.2.2.1).frozen 3; have KK := Aside0.mk k; clear hb k)
    refine bodyPost_ret (results_ct rfl _ _ (w.heap.size + 1 + 1) 52 #[.int .i64 0, .int .i64 0, .int .i64 0, .int .i64 0] (0, 0) _ rfl (by refine blk_put (cs := #[.int .i64 0, .int .i64 0, .int .i64 0, .int .i64 0]) ?_ 3 _ rfl; refine blk_put (cs := #[.int .i64 0, .int .i64 0, .int .i64 0, .int .i64 0]) ?_ 2 _ rfl; refine blk_put (cs := #[.int .i64 0, .int .i64 0, .int .i64 0, .int .i64 0]) ?_ 1 _ rfl; refine blk_put (cs := #[.int .i64 0, .int .i64 0, .int .i64 0, .int .i64 0]) ?_ 0 _ rfl; exact KK.out.2.2.1) Try.underlying52 rfl (by kernel_rfl)) rfl ?_
    exact ⟨rfl, by repeat (first | exact KK.out.2.2.2.1 | refine Below.setCell (p := ⟨w.heap.size + 1 + 1, _, none⟩) ?_ (by simp; omega) _)⟩
  | true =>
    rw [if_pos rfl] at h
    by_cases hn : a1 < 0
    · rw [if_pos hn] at h
      simp only [Option.some.injEq, Prod.mk.injEq] at h
      obtain ⟨rfl, rfl, rfl, rfl, rfl⟩ := h
      go_enter Try.func60, Try.ntmps60
      go_wp2_with (go_at_call 64; (with_reducible refine (plane_Proper.calls _ _ _ _ _ _ HP.out).mono ?_); rw [← HW.out]; rintro e w' ⟨rfl, hb⟩; have k := K.out w' hb; have rc0 : w'.cell? ⟨w.heap.size + 1 + 1, 0, none⟩ = some (.int .i64 0) := (k.2.2.1).cell 0; have rf0 := (k.2.2.1).frozen 0; have rc1 : w'.cell? ⟨w.heap.size + 1 + 1, 1, none⟩ = some (.int .i64 0) := (k.2.2.1).cell 1; have rf1 := (k.2.2.1).frozen 1; have rc2 : w'.cell? ⟨w.heap.size + 1 + 1, 2, none⟩ = some (.int .i64 0) := (k.2.2.1).cell 2; have rf2 := (k.2.2.1).frozen 2; have rc3 : w'.cell? ⟨w.heap.size + 1 + 1, 3, none⟩ = some (.int .i64 0) := (k.2.2.1).cell 3; have rf3 := (k.2.2.1).frozen 3; have nc0 : w'.cell? ⟨w.heap.size + 1, 0, none⟩ = some (.int .i64 a1) := (k.2.1).cell 0; have nf0 := (k.2.1).frozen 0; have KK := Aside0.mk k; clear hb k)
      refine bodyPost_ret (results_ct rfl _ _ (w.heap.size + 1 + 1) 52 #[.int .i64 0, .int .i64 0, .int .i64 0, .int .i64 0] (0, 0) _ rfl (by refine blk_put (cs := #[.int .i64 0, .int .i64 0, .int .i64 0, .int .i64 0]) ?_ 3 _ rfl; refine blk_put (cs := #[.int .i64 0, .int .i64 0, .int .i64 0, .int .i64 0]) ?_ 2 _ rfl; refine blk_put (cs := #[.int .i64 0, .int .i64 0, .int .i64 0, .int .i64 0]) ?_ 1 _ rfl; refine blk_put (cs := #[.int .i64 0, .int .i64 0, .int .i64 0, .int .i64 0]) ?_ 0 _ rfl; exact KK.out.2.2.1) Try.underlying52 rfl (by kernel_rfl)) rfl ?_
      exact ⟨rfl, by repeat (first | exact KK.out.2.2.2.1 | refine Below.setCell (p := ⟨w.heap.size + 1 + 1, _, none⟩) ?_ (by simp; omega) _)⟩
    · rw [if_neg hn] at h
      simp only [Option.some.injEq, Prod.mk.injEq, growB] at h
      obtain ⟨rfl, rfl, rfl, rfl, rfl⟩ := h
      obtain ⟨n, hnn⟩ : ∃ n, n = mn a1 2097152 := ⟨_, rfl⟩
      have hn2 : (if (2097152 : Int) < a1 then 2097152 else a1) = n := hnn.symm
      rw [← hnn]
      clear hnn
      go_enter Try.func60, Try.ntmps60
      go_upto_region 6 with (go_at_call 64; (with_reducible refine (plane_Proper.calls _ _ _ _ _ _ HP.out).mono ?_); rw [← HW.out]; rintro e w' ⟨rfl, hb⟩; have k := K.out w' hb; have nc0 : w'.cell? ⟨w.heap.size + 1, 0, none⟩ = some (.int .i64 a1) := (k.2.1).cell 0; have nf0 := (k.2.1).frozen 0; have KK := Aside0.mk k; clear hb k)
      obtain ⟨W2, hW2⟩ : ∃ W2, (w'.setCell ⟨w.heap.size + 1, 0, none⟩ (.int .i64 n)).alloc (.cells #[.int .i64 (-1048576), .int .i64 1048576] 50) = W2 := ⟨_, rfl⟩
      have q1 : Blk W2 w.heap.size #[.int .i64 a0_0, .int .i64 a0_1, .int .i64 a0_2, .int .i64 a0_3] 52 := by rw [← hW2]; exact (KK.out.1.other (by omega) _).alloc _
      have q2 : Blk W2 (w.heap.size + 1) #[.int .i64 n] 3 := by rw [← hW2]; exact Blk.alloc (show Blk (w'.setCell ⟨w.heap.size + 1, 0, none⟩ (.int .i64 n)) (w.heap.size + 1) #[.int .i64 n] 3 from blk_put KK.out.2.1 0 _ rfl) _
      have q3 : Blk W2 (w.heap.size + 1 + 1) #[.int .i64 0, .int .i64 0, .int .i64 0, .int .i64 0] 52 := by rw [← hW2]; exact (KK.out.2.2.1.other (by omega) _).alloc _
      have q4 : Blk W2 w'.heap.size #[.int .i64 (-1048576), .int .i64 1048576] 50 := by rw [← hW2]; have := Blk.new (w'.setCell ⟨w.heap.size + 1, 0, none⟩ (.int .i64 n)) 50 #[.int .i64 (-1048576), .int .i64 1048576]; simpa using this
      have q5 : Below w.heap.size w W2 := by rw [← hW2]; exact (KK.out.2.2.2.1.setCell (p := ⟨w.heap.size + 1, 0, none⟩) (by simp) _).alloc (by simp; have := KK.out.2.2.2.2; omega) _
      have q6 : w.heap.size + 3 ≤ W2.heap.size := by rw [← hW2]; simp; have := KK.out.2.2.2.2; omega
      have K2 := Aside0.mk (show ∀ X, Below W2.heap.size W2 X → Blk X w.heap.size #[.int .i64 a0_0, .int .i64 a0_1, .int .i64 a0_2, .int .i64 a0_3] 52 ∧ Blk X (w.heap.size + 1) #[.int .i64 n] 3 ∧ Blk X (w.heap.size + 1 + 1) #[.int .i64 0, .int .i64 0, .int .i64 0, .int .i64 0] 52 ∧ Blk X w'.heap.size #[.int .i64 (-1048576), .int .i64 1048576] 50 ∧ Below w.heap.size w X from
        fun X hb => ⟨q1.below hb, q2.below hb, q3.below hb, q4.below hb, below_then q5 (by omega) hb⟩)
      have HX := Aside0.mk (show Below W2.heap.size W2 W2.drew from below_drew1 (Below.refl _ _))
      rw [hW2]
      generalize w'.heap.size = B4 at *
      clear hW2 q1 q2 q3 q4 q5 q6 nc0 nf0 KK K
      have bc0 : W2.cell? ⟨w.heap.size, 0, none⟩ = some (.int .i64 a0_0) := ((K2.out W2 (Below.refl _ _)).1).cell 0
      have bf0 := ((K2.out W2 (Below.refl _ _)).1).frozen 0
      have bc1 : W2.cell? ⟨w.heap.size, 1, none⟩ = some (.int .i64 a0_1) := ((K2.out W2 (Below.refl _ _)).1).cell 1
      have bf1 := ((K2.out W2 (Below.refl _ _)).1).frozen 1
      have bc2 : W2.cell? ⟨w.heap.size, 2, none⟩ = some (.int .i64 a0_2) := ((K2.out W2 (Below.refl _ _)).1).cell 2
      have bf2 := ((K2.out W2 (Below.refl _ _)).1).frozen 2
      have bc3 : W2.cell? ⟨w.heap.size, 3, none⟩ = some (.int .i64 a0_3) := ((K2.out W2 (Below.refl _ _)).1).cell 3
      have bf3 := ((K2.out W2 (Below.refl _ _)).1).frozen 3
      have rc0 : W2.cell? ⟨w.heap.size + 1 + 1, 0, none⟩ = some (.int .i64 0) := ((K2.out W2 (Below.refl _ _)).2.2.1).cell 0
      have rf0 := ((K2.out W2 (Below.refl _ _)).2.2.1).frozen 0
      have rc1 : W2.cell? ⟨w.heap.size + 1 + 1, 1, none⟩ = some (.int .i64 0) := ((K2.out W2 (Below.refl _ _)).2.2.1).cell 1
      have rf1 := ((K2.out W2 (Below.refl _ _)).2.2.1).frozen 1
      have rc2 : W2.cell? ⟨w.heap.size + 1 + 1, 2, none⟩ = some (.int .i64 0) := ((K2.out W2 (Below.refl _ _)).2.2.1).cell 2
      have rf2 := ((K2.out W2 (Below.refl _ _)).2.2.1).frozen 2
      have rc3 : W2.cell? ⟨w.heap.size + 1 + 1, 3, none⟩ = some (.int .i64 0) := ((K2.out W2 (Below.refl _ _)).2.2.1).cell 3
      have rf3 := ((K2.out W2 (Below.refl _ _)).2.2.1).frozen 3
      go_region_held3 (fun X => X.cell? ⟨w.heap.size, 0, none⟩ = some (.int .i64 a0_0) ∧ X.cell? ⟨w.heap.size, 1, none⟩ = some (.int .i64 a0_1) ∧ X.cell? ⟨w.heap.size, 2, none⟩ = some (.int .i64 a0_2) ∧ X.cell? ⟨w.heap.size, 3, none⟩ = some (.int .i64 a0_3)) (first | (go_keep; done) | (refine ⟨?_, ?_, ?_, ?_⟩ <;> (repeat (rw [World.cell?_setCell_other _ _ _ _ (by intro e; simp only [Addr.mk.injEq] at e; omega)])) <;> first | assumption | (simp [*]; done))) (first | (go_at_call 119; (with_reducible refine (grow_1.calls a0_0 a0_1 n (w.heap.size + 1) B4 _ ((K2.out _ HX.out).2.1.cell 0) ((K2.out _ HX.out).2.2.2.1.cell 0) ((K2.out _ HX.out).2.2.2.1.cell 1)).mono ?_); rintro e w3 ⟨rfl, hb⟩; have HX2 := Aside0.mk (below_then HX.out HX.out.size hb); clear hb HX; have HX := HX2; clear HX2; have bc0 : w3.cell? ⟨w.heap.size, 0, none⟩ = some (.int .i64 a0_0) := ((K2.out w3 HX.out).1).cell 0; have bf0 := ((K2.out w3 HX.out).1).frozen 0; have bc1 : w3.cell? ⟨w.heap.size, 1, none⟩ = some (.int .i64 a0_1) := ((K2.out w3 HX.out).1).cell 1; have bf1 := ((K2.out w3 HX.out).1).frozen 1; have bc2 : w3.cell? ⟨w.heap.size, 2, none⟩ = some (.int .i64 a0_2) := ((K2.out w3 HX.out).1).cell 2; have bf2 := ((K2.out w3 HX.out).1).frozen 2; have bc3 : w3.cell? ⟨w.heap.size, 3, none⟩ = some (.int .i64 a0_3) := ((K2.out w3 HX.out).1).cell 3; have bf3 := ((K2.out w3 HX.out).1).frozen 3; have rc0 : w3.cell? ⟨w.heap.size + 1 + 1, 0, none⟩ = some (.int .i64 0) := ((K2.out w3 HX.out).2.2.1).cell 0; have rf0 := ((K2.out w3 HX.out).2.2.1).frozen 0; have rc1 : w3.cell? ⟨w.heap.size + 1 + 1, 1, none⟩ = some (.int .i64 0) := ((K2.out w3 HX.out).2.2.1).cell 1; have rf1 := ((K2.out w3 HX.out).2.2.1).frozen 1; have rc2 : w3.cell? ⟨w.heap.size + 1 + 1, 2, none⟩ = some (.int .i64 0) := ((K2.out w3 HX.out).2.2.1).cell 2; have rf2 := ((K2.out w3 HX.out).2.2.1).frozen 2; have rc3 : w3.cell? ⟨w.heap.size + 1 + 1, 3, none⟩ = some (.int .i64 0) := ((K2.out w3 HX.out).2.2.1).cell 3; have rf3 := ((K2.out w3 HX.out).2.2.1).frozen 3) | (go_at_call 119; (with_reducible refine (grow_1.calls a0_2 a0_3 n (w.heap.size + 1) B4 _ ((K2.out _ HX.out).2.1.cell 0) ((K2.out _ HX.out).2.2.2.1.cell 0) ((K2.out _ HX.out).2.2.2.1.cell 1)).mono ?_); rintro e w3 ⟨rfl, hb⟩; have HX2 := Aside0.mk (below_then HX.out HX.out.size hb); clear hb HX; have HX := HX2; clear HX2; have bc0 : w3.cell? ⟨w.heap.size, 0, none⟩ = some (.int .i64 a0_0) := ((K2.out w3 HX.out).1).cell 0; have bf0 := ((K2.out w3 HX.out).1).frozen 0; have bc1 : w3.cell? ⟨w.heap.size, 1, none⟩ = some (.int .i64 a0_1) := ((K2.out w3 HX.out).1).cell 1; have bf1 := ((K2.out w3 HX.out).1).frozen 1; have bc2 : w3.cell? ⟨w.heap.size, 2, none⟩ = some (.int .i64 a0_2) := ((K2.out w3 HX.out).1).cell 2; have bf2 := ((K2.out w3 HX.out).1).frozen 2; have bc3 : w3.cell? ⟨w.heap.size, 3, none⟩ = some (.int .i64 a0_3) := ((K2.out w3 HX.out).1).cell 3; have bf3 := ((K2.out w3 HX.out).1).frozen 3; have rc0 : w3.cell? ⟨w.heap.size + 1 + 1, 0, none⟩ = some (.int .i64 0) := ((K2.out w3 HX.out).2.2.1).cell 0; have rf0 := ((K2.out w3 HX.out).2.2.1).frozen 0; have rc1 : w3.cell? ⟨w.heap.size + 1 + 1, 1, none⟩ = some (.int .i64 0) := ((K2.out w3 HX.out).2.2.1).cell 1; have rf1 := ((K2.out w3 HX.out).2.2.1).frozen 1; have rc2 : w3.cell? ⟨w.heap.size + 1 + 1, 2, none⟩ = some (.int .i64 0) := ((K2.out w3 HX.out).2.2.1).cell 2; have rf2 := ((K2.out w3 HX.out).2.2.1).frozen 2; have rc3 : w3.cell? ⟨w.heap.size + 1 + 1, 3, none⟩ = some (.int .i64 0) := ((K2.out w3 HX.out).2.2.1).cell 3; have rf3 := ((K2.out w3 HX.out).2.2.1).frozen 3))
      all_goals (
        go_wp2
        refine bodyPost_ret (results_ct rfl _ _ (w.heap.size + 1 + 1) 52 #[.int .i64 (growLo a0_0 n), .int .i64 (growHi a0_1 n), .int .i64 (growLo a0_2 n), .int .i64 (growHi a0_3 n)] (0, 0) _ rfl (by refine blk_put (cs := #[.int .i64 (growLo a0_0 n), .int .i64 (growHi a0_1 n), .int .i64 (growLo a0_2 n), .int .i64 0]) ?_ 3 _ rfl; refine blk_put (cs := #[.int .i64 (growLo a0_0 n), .int .i64 (growHi a0_1 n), .int .i64 0, .int .i64 0]) ?_ 2 _ rfl; refine blk_put (cs := #[.int .i64 (growLo a0_0 n), .int .i64 0, .int .i64 0, .int .i64 0]) ?_ 1 _ rfl; refine blk_put (cs := #[.int .i64 0, .int .i64 0, .int .i64 0, .int .i64 0]) ?_ 0 _ rfl; exact (K2.out _ HX.out).2.2.1) Try.underlying52 rfl (by kernel_rfl)) rfl ?_
        exact ⟨rfl, by repeat (first | exact (K2.out _ HX.out).2.2.2.2 | refine Below.setCell (p := ⟨w.heap.size + 1 + 1, _, none⟩) ?_ (by simp; omega) _)⟩)
end Go.Proofs.Ytckaejgamfllfaa.G
end
