/- Part 2 of 4. -/
import Derived.Test.YtckaejgamfllfaaBa
import Derived.Test.YtckaejgamfllfaaProg
import Derived.Below
import Derived.Deep.Draws
import Derived.Deep.AppendLies
import Derived.Maps.AppendAt
import Derived.OwnWalk
import Derived.Laws.BytesArg
import Derived.Laws.MakeOwn
import Derived.Laws.OwnMore
import Derived.Deep.OwnRows
import Derived.Tactics
import Derived.Lib.ConvBytes
import Derived.Laws.Slices
import Derived.WalkKit
import Derived.KernelRfl
import Derived.RowKit3
import Derived.Deep.LoopGhost
import Derived.Deep.QuietTactic
import Derived.BigQuiet
import Derived.WideLaws
import Derived.Deep.DeepCutAuto
import Derived.Deep.CutBlock
import Derived.Deep.RegionHeld3
import Derived.Laws.Rows
import Derived.Lib.AppendStr
import Derived.ArgAppend
import Derived.Laws.IdiomCopy
import Derived.OrdersHeld
import Derived.Laws.BitsLemmas
import Derived.RowKit
import Derived.Laws.FloatArith
import Derived.Laws.Cover2
import Derived.Laws.Externs
import Derived.Shelf.Abstract
section
namespace Go.Proofs.Ytckaejgamfllfaa.G
open Go.RowKit Go.Proofs.YtckaejgamfllfaaW.PrintWords Go.Proofs.YtckaejgamfllfaaW.PrintLast Go.Proofs.YtckaejgamfllfaaW.PrintMore
attribute [local go_sem] max2_int min2_int max_two min_two max_three min_three max_four min_four
set_option linter.unusedVariables false
set_option linter.unusedSimpArgs false
def errW : Option Int → Value
  | none => .nilIface
  | some c => .iface 0 (.int .i64 c)
theorem errW_none : errW none = .nilIface := rfl
theorem errW_some (c : Int) : errW (some c) = .iface 0 (.int .i64 c) := rfl
theorem info23 : (Try.prog.info? 23).map (fun i => (i.zero, i.size, i.bytes)) = some (some (.agg #[(.int .i64 0), (.int .i64 0)]), 2, 16) := by kernel_rfl
structure S23 where
  f0 : Int
  f1 : Int
def z23 : S23 := ⟨(0 : Int), (0 : Int)⟩
def k23 : Kd S23 := Kd.iso (Kd.pair (Kd.int .i64) (Kd.int .i64)) (fun x : S23 => (x.f0, x.f1))
theorem k23_open {w : World} {x : S23} {cs : List Value} (h : k23.K w x cs) : cs = [.int .i64 x.f0, .int .i64 x.f1] := by
  obtain ⟨_, _, rfl, rfl, rfl⟩ := h
  exact rfl
theorem k23_mk (w : World) (x : S23)  : k23.K w x [.int .i64 x.f0, .int .i64 x.f1] := ⟨[.int .i64 x.f0], [.int .i64 x.f1], rfl, rfl, rfl⟩
theorem k23_mkM (w : World) (base : Nat) (ok : Nat → Prop) (x : S23)  : k23.M w base ok x [.int .i64 x.f0, .int .i64 x.f1] := ⟨[.int .i64 x.f0], [.int .i64 x.f1], rfl, rfl, rfl⟩
def rd_T23 (xs : List S23) (i : Int) : S23 := xs.getD i.toNat z23
theorem at_T23 {w : World} {A : Option Addr} {n : Nat} {xs : List S23} (h : Kd.C k23 w A n xs) (i : Int) (h0 : 0 ≤ i) (h1 : i < n) : ∃ ad , A = some ad ∧ w.cell? (ad.add (i.toNat * 2)) = some (.int .i64 (rd_T23 xs i).f0) ∧ w.cell? ⟨(ad.add (i.toNat * 2)).block, (ad.add (i.toNat * 2)).off + 1, none⟩ = some (.int .i64 (rd_T23 xs i).f1) := by
  obtain ⟨ad, c, e, _, hK, hc0⟩ := Kd.C_get h z23 i h0 h1
  have hc : ∀ j u, c[j]? = some u → w.cell? (ad.add (i.toNat * 2 + j)) = some u := hc0
  obtain rfl := k23_open hK
  exact ⟨ad, e, hc 0 _ rfl, by rw [← add_field _ _ 1 (by omega)]; exact hc 1 _ rfl⟩
structure S50 where
  f0 : Int
  f1 : Int
structure S52 where
  f0 : S50
  f1 : S50
end Go.Proofs.Ytckaejgamfllfaa.G
end

section
namespace Go.Proofs.Ytckaejgamfllfaa.Flt
open Ieee
theorem lt_pow_log2 (n : Nat) : n < 2 ^ (n.log2 + 1) := Nat.lt_log2_self
theorem shiftLeft_lt {m a b : Nat} (h : m < 2 ^ a) : m <<< b < 2 ^ (a + b) := by
  rw [Nat.shiftLeft_eq, Nat.pow_add]
  exact Nat.mul_lt_mul_of_pos_right h (Nat.pow_pos (by omega))
theorem cut_le (way : Toward) (neg : Bool) (n drop : Nat) {a : Nat} (h : n < 2 ^ (a + drop)) : way.cut neg n drop ≤ 2 ^ a := by
  have hb : ∀ b : Bool, b.toNat ≤ 1 := fun b => by cases b <;> simp
  unfold Toward.cut
  dsimp only
  have key : n / (1 <<< min drop (n.log2 + 2)) < 2 ^ a := by
    rw [Nat.shiftLeft_eq, Nat.one_mul]
    rw [Nat.div_lt_iff_lt_mul (Nat.pow_pos (by omega)), ← Nat.pow_add]
    rcases Nat.le_total drop (n.log2 + 2) with hd | hd
    · rw [Nat.min_eq_left hd]; exact h
    · rw [Nat.min_eq_right hd]
      refine Nat.lt_of_lt_of_le (lt_pow_log2 n) (Nat.pow_le_pow_right (by omega) (by omega))
  refine Nat.le_trans (Nat.add_le_add_left (hb _) _) ?_
  omega
theorem leastPlace_eq : double.leastPlace = -1074 := by decide
theorem binade_eq : double.binade = 4503599627370496 := by decide
theorem infRung_eq : double.infRung = 9218868437227405312 := by decide +kernel
theorem signWeight_eq : double.signWeight = 9223372036854775808 := by decide +kernel
theorem nearest_le (mag : Nat) (place B : Int) (h1 : place + mag.log2 - 52 ≤ B) (h2 : -1074 ≤ B) :
    double.nearest false mag place ≤ (B + 1074).toNat * 4503599627370496 + 9007199254740992 := by
  unfold Format.nearest
  by_cases hm : mag = 0
  · rw [if_pos hm]; simp [Format.word]
  · rw [if_neg hm]
    simp only [leastPlace_eq, binade_eq, Format.word, Bool.false_eq_true, if_false]
    have hf : (double.fractionBits : Int) = 52 := by decide
    rw [hf]
    generalize hl : max (place + (mag.log2 : Int) - 52) (-1074) = last
    have hla : place + (mag.log2 : Int) - 52 ≤ last := by omega
    have hlb : last ≤ B := by omega
    have hlc : -1074 ≤ last := by omega
    have hk : Toward.even.cut false (mag <<< (place - last).toNat) (last - place).toNat ≤ 2 ^ 53 := by
      apply cut_le
      refine Nat.lt_of_lt_of_le (shiftLeft_lt (lt_pow_log2 mag)) (Nat.pow_le_pow_right (by omega) (by omega))
    have : (last - -1074).toNat ≤ (B + 1074).toNat := by omega
    have h5 : (last - -1074).toNat * 4503599627370496 ≤ (B + 1074).toNat * 4503599627370496 := Nat.mul_le_mul_right _ this
    have h6 : (2 : Nat) ^ 53 = 9007199254740992 := by decide
    omega
theorem read_small (R : Nat) (h : R < 9218868437227405312) :
    ∃ m p, double.read R = .number false m p ∧ m < 9007199254740992 ∧ p ≤ -1074 + (R / 4503599627370496 : Nat) ∧ -1074 ≤ p := by
  unfold Format.read
  simp only [signWeight_eq, binade_eq, infRung_eq, leastPlace_eq]
  have h0 : R / 9223372036854775808 = 0 := Nat.div_eq_of_lt (by omega)
  have h1 : R % 9223372036854775808 = R := Nat.mod_eq_of_lt (by omega)
  rw [h0, h1]
  simp only [Nat.zero_mod]
  by_cases hb : R < 4503599627370496
  · rw [if_pos hb]
    exact ⟨R, -1074, rfl, by omega, by omega, by omega⟩
  · rw [if_neg hb, if_pos h]
    have : R % 4503599627370496 < 4503599627370496 := Nat.mod_lt _ (by omega)
    exact ⟨4503599627370496 + R % 4503599627370496, _, rfl, by omega, by omega, by omega⟩
theorem rootFrom_sq (n : Nat) : ∀ todo root : Nat, root * root ≤ n → Datum.rootFrom n todo root * Datum.rootFrom n todo root ≤ n
  | 0, root, h => h
  | todo + 1, root, h => by
    unfold Datum.rootFrom
    dsimp only
    apply rootFrom_sq
    split <;> assumption
theorem root_small (m : Nat) (p : Int) (hm : m < 9007199254740992) (hp : p ≤ 11) :
    ∃ q P, (Datum.number false m p).root (double.fractionBits + 2) = some (.number false q P) ∧ (q = 0 ∨ (q < 2 ^ 57 ∧ P ≤ -20)) := by
  have hf : double.fractionBits + 2 = 54 := by decide
  rw [hf]
  unfold Datum.root
  by_cases h0 : m = 0
  · subst h0
    exact ⟨0, p, by simp, .inl rfl⟩
  · simp only [h0, if_false, Bool.false_eq_true]
    have hl : m.log2 < 53 := (Nat.log2_lt h0).2 (by simpa using hm)
    generalize hmo : 2 * 54 - m.log2 + ((p - ↑(2 * 54 - m.log2)) % 2).toNat = more
    have hm1 : 56 ≤ more := by omega
    have hm2 : more ≤ 109 - m.log2 := by omega
    refine ⟨_, _, rfl, .inr ⟨?_, by omega⟩⟩
    have hn : m <<< more < 2 ^ 110 := by
      refine Nat.lt_of_lt_of_le (shiftLeft_lt (lt_pow_log2 m)) (Nat.pow_le_pow_right (by omega) (by omega))
    have hs := rootFrom_sq (m <<< more) ((m <<< more).log2 / 2 + 1) 0 (by simp)
    generalize hw : Datum.rootFrom (m <<< more) ((m <<< more).log2 / 2 + 1) 0 = whole at hs
    have hw2 : whole < 2 ^ 55 := by
      rcases Nat.lt_or_ge whole (2 ^ 55) with h | h
      · exact h
      · have := Nat.mul_le_mul h h
        have e : (2 : Nat) ^ 55 * 2 ^ 55 = 2 ^ 110 := by rw [← Nat.pow_add]
        omega
    have hb : ∀ b : Bool, b.toNat ≤ 1 := fun b => by cases b <;> simp
    have := hb (whole * whole != m <<< more)
    have e1 : (2 : Nat) ^ 55 = 36028797018963968 := by decide
    have e2 : (2 : Nat) ^ 57 = 144115188075855872 := by decide
    omega
theorem toInt_small (m : Nat) (p : Int) (hm : m < 9007199254740992) (hp : p ≤ 0) :
    ∃ r : Int, (Datum.number false m p).toInt .zero = some r ∧ 0 ≤ r ∧ r ≤ 9007199254740992 := by
  unfold Datum.toInt Datum.integral
  dsimp only
  refine ⟨_, rfl, ?_, ?_⟩
  · simp [signed]
  · have : Toward.zero.cut false (m <<< p.toNat) (-p).toNat ≤ 2 ^ 53 := by
      apply cut_le
      have e0 : p.toNat = 0 := by omega
      rw [e0, Nat.shiftLeft_zero]
      refine Nat.lt_of_lt_of_le (Nat.lt_of_lt_of_le hm (by decide : 9007199254740992 ≤ 2 ^ 53)) (Nat.pow_le_pow_right (by omega) (by omega))
    have e : (2 : Nat) ^ 53 = 9007199254740992 := by decide
    simp only [signed, Bool.false_eq_true, if_false, Nat.shiftLeft_zero]
    omega
theorem guess (n : Int) (h1 : 1 ≤ n) (h2 : n ≤ 9223372036854775807) :
    ∃ r m, FloatKind.f64.format.sqrt (floatOfInt .f64 n) = some r ∧ floatToIntVal .f64 r .i64 = some m ∧ 0 ≤ m ∧ m ≤ 9007199254740992 := by
  have e1 : floatOfInt .f64 n = double.nearest false n.natAbs 0 := by
    unfold floatOfInt FloatKind.nearest FloatKind.encode FloatKind.format Format.write
    have : (decide (n < 0)) = false := decide_eq_false (by omega)
    rw [this]
  have hn0 : n.natAbs ≠ 0 := by omega
  have hlog : n.natAbs.log2 < 63 := (Nat.log2_lt hn0).2 (by
    have : (2 : Nat) ^ 63 = 9223372036854775808 := by decide
    omega)
  have hR := nearest_le n.natAbs 0 10 (by omega) (by omega)
  rw [← e1] at hR
  generalize floatOfInt .f64 n = R at hR ⊢
  have hR' : R ≤ 4890909195324358656 := by
    have : ((10 : Int) + 1074).toNat = 1084 := by decide
    rw [this] at hR; omega
  obtain ⟨m, p, hrd, hm, hp, hp2⟩ := read_small R (by omega)
  have hp3 : p ≤ 12 := by
    have : R / 4503599627370496 ≤ 1086 := by omega
    omega
  have hp4 : p ≤ 11 ∨ p = 12 := by omega
  obtain ⟨q, P, hrt, hq⟩ : ∃ q P, (Datum.number false m p).root (double.fractionBits + 2) = some (.number false q P) ∧ (q = 0 ∨ (q < 2 ^ 57 ∧ P ≤ -19)) := by
    have hf : double.fractionBits + 2 = 54 := by decide
    rcases hp4 with h | h
    · obtain ⟨q, P, a, b⟩ := root_small m p hm h
      exact ⟨q, P, a, b.imp id fun b => ⟨b.1, by omega⟩⟩
    · subst h
      rw [hf]
      unfold Datum.root
      by_cases h0 : m = 0
      · subst h0
        exact ⟨0, 12, by simp, .inl rfl⟩
      · simp only [h0, if_false, Bool.false_eq_true]
        have hl : m.log2 < 53 := (Nat.log2_lt h0).2 (by simpa using hm)
        generalize hmo : 2 * 54 - m.log2 + (((12 : Int) - ↑(2 * 54 - m.log2)) % 2).toNat = more
        have hm1 : 56 ≤ more := by omega
        have hm2 : more ≤ 109 - m.log2 := by omega
        refine ⟨_, _, rfl, .inr ⟨?_, by omega⟩⟩
        have hn : m <<< more < 2 ^ 110 := by
          refine Nat.lt_of_lt_of_le (shiftLeft_lt (lt_pow_log2 m)) (Nat.pow_le_pow_right (by omega) (by omega))
        have hs := rootFrom_sq (m <<< more) ((m <<< more).log2 / 2 + 1) 0 (by simp)
        generalize hw : Datum.rootFrom (m <<< more) ((m <<< more).log2 / 2 + 1) 0 = whole at hs
        have hw2 : whole < 2 ^ 55 := by
          rcases Nat.lt_or_ge whole (2 ^ 55) with h | h
          · exact h
          · have := Nat.mul_le_mul h h
            have e : (2 : Nat) ^ 55 * 2 ^ 55 = 2 ^ 110 := by rw [← Nat.pow_add]
            omega
        have hb : ∀ b : Bool, b.toNat ≤ 1 := fun b => by cases b <;> simp
        have := hb (whole * whole != m <<< more)
        have e1 : (2 : Nat) ^ 55 = 36028797018963968 := by decide
        have e2 : (2 : Nat) ^ 57 = 144115188075855872 := by decide
        omega
  refine ⟨double.nearest false q P, ?_⟩
  have hs : FloatKind.f64.format.sqrt R = some (double.nearest false q P) := by
    show ((double.read R).root (double.fractionBits + 2)).map double.write = _
    rw [hrd, hrt]; rfl
  have hR2 : double.nearest false q P ≤ 4773815605012725760 + 9007199254740992 := by
    rcases hq with h | ⟨h, hP⟩
    · subst h
      have : double.nearest false 0 P = 0 := by simp [Format.nearest, Format.word]
      rw [this]; omega
    · have hql : q.log2 ≤ 57 := by
        by_cases h0 : q = 0
        · subst h0; decide
        · have := (Nat.log2_lt h0).2 h; omega
      have := nearest_le q P (-14) (by omega) (by omega)
      have e : ((-14 : Int) + 1074).toNat = 1060 := by decide
      rw [e] at this; omega
  generalize double.nearest false q P = R2 at hs hR2 ⊢
  obtain ⟨m2, p2, hrd2, hm2, hp5, hp6⟩ := read_small R2 (by omega)
  have hp7 : p2 ≤ 0 := by
    have : R2 / 4503599627370496 ≤ 1063 := by omega
    omega
  obtain ⟨r, hr, hr1, hr2⟩ := toInt_small m2 p2 hm2 hp7
  refine ⟨r, hs, ?_, hr1, hr2⟩
  unfold floatToIntVal
  have : FloatKind.f64.decode R2 = .number false m2 p2 := hrd2
  rw [this, hr]
  have e1 : IntKind.i64.min = -9223372036854775808 := by decide
  have e2 : IntKind.i64.max = 9223372036854775807 := by decide
  dsimp only
  rw [if_pos (by rw [e1, e2]; omega)]
end Go.Proofs.Ytckaejgamfllfaa.Flt
end

section
namespace Go.Proofs.Ytckaejgamfllfaa.G
open Go.RowKit Go.Proofs.YtckaejgamfllfaaW.PrintWords Go.Proofs.YtckaejgamfllfaaW.PrintLast Go.Proofs.YtckaejgamfllfaaW.PrintMore
attribute [local go_sem] max2_int min2_int max_two min_two
set_option linter.unusedVariables false
set_option linter.unusedSimpArgs false
def isq : Nat → Nat
  | 0 => 0
  | n + 1 => if (isq n + 1) * (isq n + 1) ≤ n + 1 then isq n + 1 else isq n
theorem isq_spec (n : Nat) : isq n * isq n ≤ n ∧ n < (isq n + 1) * (isq n + 1) := by
  induction n with
  | zero => exact ⟨Nat.le_refl _, by decide⟩
  | succ n ih =>
    obtain ⟨h1, h2⟩ := ih
    unfold isq
    split
    · rename_i h
      refine ⟨h, ?_⟩
      have : (isq n + 1 + 1) * (isq n + 1 + 1) = (isq n + 1) * (isq n + 1) + 2 * (isq n + 1) + 1 := by
        simp only [Nat.add_mul, Nat.mul_add]; omega
      omega
    · exact ⟨by omega, by omega⟩
theorem isq_unique (n r : Nat) (h1 : r * r ≤ n) (h2 : n < (r + 1) * (r + 1)) : isq n = r := by
  obtain ⟨h3, h4⟩ := isq_spec n
  rcases Nat.lt_trichotomy (isq n) r with h | h | h
  · have := Nat.mul_le_mul (show isq n + 1 ≤ r from h) (show isq n + 1 ≤ r from h); omega
  · exact h
  · have := Nat.mul_le_mul (show r + 1 ≤ isq n from h) (show r + 1 ≤ isq n from h); omega
theorem isq_int (n r : Int) (h0 : 0 ≤ r) (h1 : r * r ≤ n) (h2 : n < (r + 1) * (r + 1)) : (isq n.toNat : Int) = r := by
  obtain ⟨k, rfl⟩ := Int.eq_ofNat_of_zero_le h0
  have hn : 0 ≤ n := Int.le_trans (Int.mul_nonneg h0 h0) h1
  obtain ⟨m, rfl⟩ := Int.eq_ofNat_of_zero_le hn
  rw [Int.toNat_natCast]
  have := isq_unique m k (by exact_mod_cast h1) (by exact_mod_cast h2)
  rw [this]
def plane_Root.f (a0 : Int) : Option Int := if a0 ≤ 9223372036854775807 then (if a0 < 1 then some 0 else some (isq a0.toNat : Int)) else none
set_option maxHeartbeats 1000000 in
set_option maxRecDepth 100000 in
theorem sqrt86 (x r : Nat) (w : World) (h : FloatKind.f64.format.sqrt x = some r) : Calls Try.prog 86 #[.float .f64 x] w fun e w' => e = .returned (.float .f64 r) ∧ w' = w := by
  have hrun : ∀ w : World, (callFunc 128 #[.float .f64 x]).run Try.prog w = .ok (.value (.float .f64 r)) w := by
    intro w
    rw [run_callFunc_extern Try.func128 (by kernel_rfl) (by kernel_rfl) (by kernel_rfl) (e := Extern.MathSqrt.sqrt) (by kernel_rfl)]
    have e : Extern.MathSqrt.sqrt #[.float .f64 x] = (match FloatKind.f64.format.sqrt x with | some r => pure (.float .f64 r) | none => do pure (.float .f64 (← choose (.nanBits .f64 x x)))) := rfl
    rw [e, h]
    rfl
  clear h
  go_enter Try.func86, Try.ntmps86
  go_wp2
  go_ret
  exact ⟨rfl, rfl⟩
theorem sq_le {r : Int} (h0 : 0 ≤ r) (h1 : r ≤ 3037000499) : 0 ≤ r * r ∧ r * r ≤ 9223372030926249001 := by
  have h2 : r * r ≤ 3037000499 * 3037000499 := Int.mul_le_mul h1 h1 h0 (by omega)
  have h3 : 0 ≤ r * r := Int.mul_nonneg h0 h0
  have e : (3037000499 : Int) * 3037000499 = 9223372030926249001 := by decide
  omega
set_option maxHeartbeats 4000000 in
set_option maxRecDepth 100000 in
theorem root_big.calls (n : Int) (w : World) (h1 : ¬ n < 1) (h2 : n ≤ 9223372036854775807) :
    Calls Try.prog 23 #[.int .i64 n] w fun e w' => e = .returned (.int .i64 (isq n.toNat)) ∧ w' = w := by
  obtain ⟨x, m, hx, hm, hm0, hm1⟩ := Flt.guess n (by omega) h2
  have hc : ∀ w : World, (convert 96 3 (.float .f64 x)).run Try.prog w = .ok (.int .i64 m) w := fun w => run_convert_float_int w 96 3 .f64 .i64 x m (by rw [Try.underlying96]; rfl) Try.underlying3 hm
  have HX := Aside0.mk hx
  have H1 := Aside0.mk h1
  have H2 := Aside0.mk h2
  clear hx hm h2
  have h1' : 1 ≤ n := by omega
  clear h1
  go_enter Try.func23, Try.ntmps23
  go_wp2_with (first | (simp only [hc]; done) | simp only [hc] | (go_at_call 86; (with_reducible refine (sqrt86 _ x _ HX.out).mono ?_); rintro e w6 ⟨rfl, rfl⟩))
  all_goals
    go_loop [3] (fun v => ∃ r : Int, v = .int .i64 r ∧ 0 ≤ r ∧ r ≤ 3037000499) (fun v => (intOf v).toNat)
    case atStart => first | exact ⟨m, rfl, by omega, by omega⟩ | exact ⟨3037000499, rfl, by omega, by omega⟩
    case round =>
      clear hm0 hm1 hc HX
      obtain ⟨r, rfl, hr0, hr1⟩ := hrel
      have hsq := sq_le hr0 hr1
      have hw : wrap64 (r * r) = r * r := IntWalk.wrap64_in _ ⟨by omega, by omega⟩
      clear hsq
      by_cases hgt : n < r * r
      · have hpos : 1 ≤ r := by
          rcases Int.lt_or_le r 1 with h | h
          · have : r = 0 := by omega
            subst this; simp at hgt; omega
          · exact h
        have hd : decide (n < r * r) = true := decide_eq_true hgt
        clear hgt
        go_wp2
        go_round
        case rel => exact ⟨r - 1, rfl, by omega, by omega⟩
        case measure => simp [intOf]; omega
      · have HG := Aside0.mk (Int.not_lt.mp hgt)
        have hd : decide (n < r * r) = false := decide_eq_false hgt
        clear hgt
        go_wp2
        clear hw hd
        obtain ⟨r1, er1⟩ : ∃ r1, r = r1 := ⟨_, rfl⟩
        subst er1
        go_loop [3] (fun v => ∃ r : Int, v = .int .i64 r ∧ 0 ≤ r ∧ r ≤ 3037000499 ∧ Aside0 (r * r ≤ n)) (fun v => (3037000499 - intOf v).toNat)
        case atStart => exact ⟨r, rfl, hr0, hr1, HG⟩
        case round =>
          clear hr0 hr1 HG
          obtain ⟨r, rfl, hr0, hr1, HG⟩ := hrel
          by_cases hlt : r < 3037000499
          · have hsq := sq_le (r := r + 1) (by omega) (by omega)
            have hw : wrap64 ((r + 1) * (r + 1)) = (r + 1) * (r + 1) := IntWalk.wrap64_in _ ⟨by omega, by omega⟩
            clear hsq
            by_cases hle : (r + 1) * (r + 1) ≤ n
            · have HL := Aside0.mk hle
              have hd : decide ((r + 1) * (r + 1) ≤ n) = true := decide_eq_true hle
              clear hle
              go_wp2
              go_round
              case rel => exact ⟨r + 1, rfl, by omega, by omega, HL⟩
              case measure => simp [intOf]; omega
            · have HL := Aside0.mk (Int.not_le.mp hle)
              have hd : decide ((r + 1) * (r + 1) ≤ n) = false := decide_eq_false hle
              clear hle
              go_wp2
              go_ret
              exact ⟨by rw [isq_int n r hr0 HG.out HL.out]; rfl, rfl⟩
          · have e : r = 3037000499 := by omega
            subst e
            go_wp2
            go_ret
            exact ⟨by rw [isq_int n 3037000499 (by omega) HG.out (by have := H2.out; omega)]; rfl, rfl⟩
set_option maxHeartbeats 1000000 in
set_option maxRecDepth 100000 in
theorem plane_Root.calls (a0 : Int) (r : Int) (w : World) (h : plane_Root.f a0 = some r) :
    Calls Try.prog 23 #[.int .i64 a0] w fun e w' => e = .returned (.int .i64 r) ∧ Below w.heap.size w w' := by
  unfold plane_Root.f at h
  by_cases h2 : a0 ≤ 9223372036854775807
  · rw [if_pos h2] at h
    by_cases h1 : a0 < 1
    · rw [if_pos h1] at h
      obtain rfl := Option.some.inj h
      clear h h2
      go_enter Try.func23, Try.ntmps23
      go_wp2
      go_ret
      exact ⟨rfl, Below.refl _ _⟩
    · rw [if_neg h1] at h
      obtain rfl := Option.some.inj h
      exact (root_big.calls a0 w h1 h2).mono fun e w' ⟨he, hw⟩ => ⟨he, hw ▸ Below.refl _ _⟩
  · rw [if_neg h2] at h
    exact absurd h (by simp)
end Go.Proofs.Ytckaejgamfllfaa.G
end

section
namespace Go.Proofs.Ytckaejgamfllfaa.G
open Go.RowKit Go.Proofs.YtckaejgamfllfaaW.PrintWords Go.Proofs.YtckaejgamfllfaaW.PrintLast Go.Proofs.YtckaejgamfllfaaW.PrintMore
attribute [local go_sem] max2_int min2_int max_two min_two max_three min_three max_four min_four
set_option linter.unusedVariables false
set_option linter.unusedSimpArgs false
def plane_within.f (a0 : Int) (a1 : Int) (a2 : Int) : Option (Bool) := if a1 ≤ a0 then (some (decide (a0 ≤ a2))) else (some false)
set_option maxHeartbeats 8000000 in
set_option maxRecDepth 100000 in
theorem plane_within.calls (a0 : Int) (a1 : Int) (a2 : Int) (r : Bool) (w : World) (h : plane_within.f a0 a1 a2 = some r) :
    Calls Try.prog 76 #[.int .i64 a0, .int .i64 a1, .int .i64 a2] w fun e w' => e = .returned (.bool r) ∧ Drawn0 w w' := by
  have H : (if a1 ≤ a0 then (some (decide (a0 ≤ a2))) else (some false)) = some r := h
  clear h
  by_cases c4 : a1 ≤ a0
  · rw [if_pos c4] at H
    have c4b0 : decide (a1 ≤ a0) = true := decide_eq_true c4
    clear c4
    obtain rfl := Option.some.inj H
    go_enter Try.func76, Try.ntmps76
    go_wp2
    go_ret
    exact ⟨by first | rfl | (simp; done) | (simp [*]; done), by repeat (first | exact Drawn0.refl _ | apply Drawn0.step)⟩
  · rw [if_neg c4] at H
    have c4b0 : decide (a1 ≤ a0) = false := decide_eq_false c4
    clear c4
    obtain rfl := Option.some.inj H
    go_enter Try.func76, Try.ntmps76
    go_wp2
    go_ret
    exact ⟨by first | rfl | (simp; done) | (simp [*]; done), by repeat (first | exact Drawn0.refl _ | apply Drawn0.step)⟩
end Go.Proofs.Ytckaejgamfllfaa.G
end

section
namespace Go.Proofs.Ytckaejgamfllfaa.G
open Go.RowKit Go.Proofs.YtckaejgamfllfaaW.PrintWords Go.Proofs.YtckaejgamfllfaaW.PrintLast Go.Proofs.YtckaejgamfllfaaW.PrintMore
attribute [local go_sem] max2_int min2_int max_two min_two max_three min_three max_four min_four
set_option linter.unusedVariables false
set_option linter.unusedSimpArgs false
def plane_Valid.f (a0_0 : Int) (a0_1 : Int) : Option (Bool) := (plane_within.f a0_0 (-1048576) 1048576).bind fun t102 => (if t102 = true then ((plane_within.f a0_1 (-1048576) 1048576).bind fun t103 => (some t103)) else (some false))
set_option maxHeartbeats 8000000 in
set_option maxRecDepth 100000 in
theorem plane_Valid.calls (a0_0 : Int) (a0_1 : Int) (r : Bool) (w : World) (h : plane_Valid.f a0_0 a0_1 = some r) :
    Calls Try.prog 17 #[.agg #[.int .i64 a0_0, .int .i64 a0_1]] w fun e w' => e = .returned (.bool r) ∧ Below w.heap.size w w' := by
  have hu23 := Try.underlying23
  have HB := Aside0.mk (Below.refl w.heap.size w)
  have H : ((plane_within.f a0_0 (-1048576) 1048576).bind fun t102 => (if t102 = true then ((plane_within.f a0_1 (-1048576) 1048576).bind fun t103 => (some t103)) else (some false))) = some r := h
  clear h
  replace H := Option.bind_eq_some_iff.mp H
  obtain ⟨t102, A20, H⟩ := H
  replace H : (if t102 = true then ((plane_within.f a0_1 (-1048576) 1048576).bind fun t103 => (some t103)) else (some false)) = some r := H
  have A2 := Aside0.mk A20
  clear A20
  by_cases c3 : t102 = true
  · subst c3
    have H1 : ((plane_within.f a0_1 (-1048576) 1048576).bind fun t103 => (some t103)) = some r := by rw [if_pos rfl] at H; exact H
    clear H
    have H := H1
    clear H1
    replace H := Option.bind_eq_some_iff.mp H
    obtain ⟨t103, A40, H⟩ := H
    replace H : (some t103) = some r := H
    have A4 := Aside0.mk A40
    clear A40
    obtain rfl := Option.some.inj H
    go_enter Try.func17, Try.ntmps17
    go_wp2_with (first | ((with_reducible refine gate_dst (N := 1) rfl ?_); refine box_event ?hg (N := 1) ?hd (cs := #[.int .i64 a0_0, .int .i64 a0_1]) (t := 23) ?hr ?_; (case hd => rfl); (case hg => rfl); (case hr => first | (go_simp; done) | (go_simp; rfl)); intro gb101 hg w5 hbox hb; have n0_ := Aside0.mk (below_step (by repeat (first | (with_reducible first | exact HB.out | apply below_alloc | apply pw_below_drewN | apply below_drew1) | exact HB.out)) hb); have n1_ := Aside0.mk (hbox); have n2_ := Aside0.mk ((by rw [hg]; exact (below_size (by repeat (first | (with_reducible first | exact HB.out | apply below_alloc | apply pw_below_drewN | apply below_drew1) | exact HB.out))) : w.heap.size ≤ gb101)); have n3_ := Aside0.mk ((by rw [hg]; exact (below_size (by repeat (first | (with_reducible first | exact HB.out | apply below_alloc | apply pw_below_drewN | apply below_drew1) | exact HB.out))) : w.heap.size ≤ gb101)); clear HB; have HB := n0_; have BK101 := n1_; have GW101 := n2_; have GE101 := n3_; clear n0_ n1_ n2_ n3_; clear hb hbox hg; have hcz6_0 : w5.cell? ⟨gb101, 0, none⟩ = some (.int .i64 a0_0) := (blk_cell BK101.out 0).trans rfl; have hcz6_1 : w5.cell? ⟨gb101, 1, none⟩ = some (.int .i64 a0_1) := (blk_cell BK101.out 1).trans rfl; have hfz6_0 := blk_frozen BK101.out 0; have hfz6_1 := blk_frozen BK101.out 1) | ((with_reducible refine gate_callee (f := 76) rfl ?_); refine goesL_ (some 5) rfl rfl Try.func76 (by kernel_rfl) rfl #[.int .i64 a0_0, .int .i64 (-1048576), .int .i64 1048576] rfl (by (try simp only [List.map_toArray, List.map_cons, List.map_nil]); first | done | rfl | (simp only [List.length_drop, List.length_take]; rfl)) ?_; (with_reducible refine (plane_within.calls a0_0 (-1048576) 1048576 true _ A2.out).mono ?_); rintro e w' ⟨rfl, ⟨nd, rfl⟩⟩; refine ⟨_, rfl, ?_⟩) | (go_at_call 76; (with_reducible refine (plane_within.calls a0_1 (-1048576) 1048576 t103 _ A4.out).mono ?_); rintro e w' ⟨rfl, ⟨nd, rfl⟩⟩))
    go_ret
    exact ⟨by first | rfl | (simp [errW_none, errW_some] <;> rfl) | (simp [*, errW_none, errW_some] <;> rfl), by repeat (first | (with_reducible first | exact HB.out | apply below_alloc | apply pw_below_drewN | apply below_drew1 | refine below_set ?_ GE101.out) | exact HB.out)⟩
  · replace c3 := Bool.eq_false_iff.mpr c3
    subst c3
    have H1 : (some false) = some r := by rw [if_neg (show ¬ (false = true) by decide)] at H; exact H
    clear H
    have H := H1
    clear H1
    obtain rfl := Option.some.inj H
    go_enter Try.func17, Try.ntmps17
    go_wp2_with (first | ((with_reducible refine gate_dst (N := 1) rfl ?_); refine box_event ?hg (N := 1) ?hd (cs := #[.int .i64 a0_0, .int .i64 a0_1]) (t := 23) ?hr ?_; (case hd => rfl); (case hg => rfl); (case hr => first | (go_simp; done) | (go_simp; rfl)); intro gb101 hg w7 hbox hb; have n0_ := Aside0.mk (below_step (by repeat (first | (with_reducible first | exact HB.out | apply below_alloc | apply pw_below_drewN | apply below_drew1) | exact HB.out)) hb); have n1_ := Aside0.mk (hbox); have n2_ := Aside0.mk ((by rw [hg]; exact (below_size (by repeat (first | (with_reducible first | exact HB.out | apply below_alloc | apply pw_below_drewN | apply below_drew1) | exact HB.out))) : w.heap.size ≤ gb101)); have n3_ := Aside0.mk ((by rw [hg]; exact (below_size (by repeat (first | (with_reducible first | exact HB.out | apply below_alloc | apply pw_below_drewN | apply below_drew1) | exact HB.out))) : w.heap.size ≤ gb101)); clear HB; have HB := n0_; have BK101 := n1_; have GW101 := n2_; have GE101 := n3_; clear n0_ n1_ n2_ n3_; clear hb hbox hg; have hcz8_0 : w7.cell? ⟨gb101, 0, none⟩ = some (.int .i64 a0_0) := (blk_cell BK101.out 0).trans rfl; have hcz8_1 : w7.cell? ⟨gb101, 1, none⟩ = some (.int .i64 a0_1) := (blk_cell BK101.out 1).trans rfl; have hfz8_0 := blk_frozen BK101.out 0; have hfz8_1 := blk_frozen BK101.out 1) | ((with_reducible refine gate_callee (f := 76) rfl ?_); refine goesL_ (some 5) rfl rfl Try.func76 (by kernel_rfl) rfl #[.int .i64 a0_0, .int .i64 (-1048576), .int .i64 1048576] rfl (by (try simp only [List.map_toArray, List.map_cons, List.map_nil]); first | done | rfl | (simp only [List.length_drop, List.length_take]; rfl)) ?_; (with_reducible refine (plane_within.calls a0_0 (-1048576) 1048576 false _ A2.out).mono ?_); rintro e w' ⟨rfl, ⟨nd, rfl⟩⟩; refine ⟨_, rfl, ?_⟩))
    go_ret
    exact ⟨by first | rfl | (simp [errW_none, errW_some] <;> rfl) | (simp [*, errW_none, errW_some] <;> rfl), by repeat (first | (with_reducible first | exact HB.out | apply below_alloc | apply pw_below_drewN | apply below_drew1 | refine below_set ?_ GE101.out) | exact HB.out)⟩
end Go.Proofs.Ytckaejgamfllfaa.G
end

section
namespace Go.Proofs.Ytckaejgamfllfaa.G
open Go.RowKit Go.Proofs.YtckaejgamfllfaaW.PrintWords Go.Proofs.YtckaejgamfllfaaW.PrintLast Go.Proofs.YtckaejgamfllfaaW.PrintMore
set_option linter.unusedVariables false
set_option linter.unusedSimpArgs false
def validP (x : S23) : Bool := decide (-1048576 ≤ x.f0) && decide (x.f0 ≤ 1048576) && decide (-1048576 ≤ x.f1) && decide (x.f1 ≤ 1048576)
theorem plane_Valid_eq (a b : Int) : plane_Valid.f a b = some (validP ⟨a, b⟩) := by
  unfold plane_Valid.f plane_within.f validP
  by_cases h1 : -1048576 ≤ a <;> by_cases h2 : a ≤ 1048576 <;> by_cases h3 : -1048576 ≤ b <;> by_cases h4 : b ≤ 1048576 <;> simp [h1, h2, h3, h4]
set_option maxHeartbeats 1000000 in
theorem plane_valid_1.calls (x y : Int) (r : Bool) (w : World) (h : validP ⟨x, y⟩ = r) :
    Calls Try.prog 127 #[.agg #[.int .i64 x, .int .i64 y]] w fun e w' => e = .returned (.bool !r) ∧ Below w.heap.size w w' := by
  have A := Aside0.mk (show plane_Valid.f x y = some r by rw [plane_Valid_eq, h])
  clear h
  have hu23 := Try.underlying23
  go_enter Try.func127, Try.ntmps127
  go_wp2_with (go_at_call 17; (with_reducible refine (plane_Valid.calls x y r _ A.out).mono ?_); rintro e w' ⟨rfl, hb⟩)
  go_ret
  exact ⟨rfl, below_then ((Below.refl _ _).alloc (Nat.le_refl _) _) (by simp) hb⟩
theorem rd_T23_mem {l : List S23} {i : Int} (h0 : 0 ≤ i) (h1 : i < l.length) : rd_T23 l i ∈ l := by
  unfold rd_T23
  have : i.toNat < l.length := by omega
  rw [List.getD_eq_getElem?_getD, List.getElem?_eq_getElem this]
  exact List.getElem_mem _
def IdxPost (l : List S23) (W : World) (e : Ending) (w' : World) : Prop :=
  ∃ j : Int, e = .returned (.int .i64 j) ∧ Below W.heap.size W w' ∧ ((0 ≤ j ∧ l.all validP = false) ∨ (j < 0 ∧ l.all validP = true))
theorem all_take_succ {l : List S23} {k : Nat} (h : k < l.length) (ha : (l.take k).all validP = true) (hv : validP (rd_T23 l k) = true) : (l.take (k + 1)).all validP = true := by
  rw [List.take_succ_eq_append_getElem h, List.all_append, ha]
  have : rd_T23 l k = l[k] := by unfold rd_T23; simp [h]
  simp [← this, hv]
set_option maxHeartbeats 4000000 in
set_option maxRecDepth 100000 in
theorem idx_valid.calls (A0 : Option Addr) (c0 : Nat) (l0 : List S23) (w : World) (hr0 : Kd.C k23 w A0 l0.length l0) (hm : l0.length ≤ 9223372036854775806) :
    Calls Try.prog 137 #[.slice A0 l0.length c0, .func (.func 127) #[] #[]] w fun e w' => IdxPost l0 w e w' := by
  have hu23 := Try.underlying23
  have HR0 := Aside0.mk hr0
  clear hr0
  have HB := Aside0.mk (Below.refl w.heap.size w)
  have hm' := hm
  go_enter Try.func137, Try.ntmps137
  go_wp2
  go_loopw [8] (fun v8 w' => ∃ k : Nat, v8 = .int .i64 k ∧ k ≤ l0.length ∧ Aside0 ((l0.take k).all validP = true) ∧ Aside0 (Below w.heap.size w w')) (fun v8 _ => l0.length - (intOf v8).toNat)
  case atStart => exact ⟨0, rfl, Nat.zero_le _, ⟨rfl⟩, HB⟩
  case round =>
    clear HB
    obtain ⟨k, rfl, hk, HA, HB⟩ := hrel
    by_cases hlt : k < l0.length
    · obtain ⟨ad, e294, hx0, hx1⟩ := at_T23 HR0.out (k : Int) (by omega) (by omega)
      cases e294
      replace hx0 := (HB.out.cell (World.block_lt_of_cell? w _ hx0)).trans hx0
      replace hx1 := (HB.out.cell (World.block_lt_of_cell? w _ hx1)).trans hx1
      simp only [Int.toNat_natCast] at hx0 hx1
      obtain ⟨r, hr⟩ : ∃ r, validP (rd_T23 l0 k) = r := ⟨_, rfl⟩
      have A := Aside0.mk hr
      clear hr
      cases r with
      | true =>
        go_wp2_with (go_at_call 127; (with_reducible refine (plane_valid_1.calls (rd_T23 l0 k).f0 (rd_T23 l0 k).f1 true _ A.out).mono ?_); rintro e w6 ⟨rfl, hb⟩; have n0_ := Aside0.mk (below_step HB.out hb); clear HB; have HB := n0_; clear n0_ hb)
        go_roundw
        case rel => exact ⟨k + 1, by go_num, by omega, ⟨all_take_succ hlt HA.out A.out⟩, HB⟩
        case measure => simp [intOf]; omega
      | false =>
        go_wp2_with (go_at_call 127; (with_reducible refine (plane_valid_1.calls (rd_T23 l0 k).f0 (rd_T23 l0 k).f1 false _ A.out).mono ?_); rintro e w6 ⟨rfl, hb⟩; have n0_ := Aside0.mk (below_step HB.out hb); clear HB; have HB := n0_; clear n0_ hb)
        go_ret
        refine ⟨k, rfl, HB.out, .inl ⟨by omega, ?_⟩⟩
        rw [List.all_eq_false]
        exact ⟨_, rd_T23_mem (i := (k : Int)) (by omega) (by omega), by simp [A.out]⟩
    · go_wp2
      go_ret
      refine ⟨-1, rfl, HB.out, .inr ⟨by omega, ?_⟩⟩
      have := HA.out
      rwa [List.take_of_length_le (by omega)] at this
def plane_valid.f (l0 : List S23) : Option Bool := if l0.length ≤ 9223372036854775806 then some (l0.all validP) else none
set_option maxHeartbeats 1000000 in
set_option maxRecDepth 100000 in
theorem contains_valid.calls (A0 : Option Addr) (c0 : Nat) (l0 : List S23) (r : Bool) (w : World) (hr0 : Kd.C k23 w A0 l0.length l0) (hm : l0.length ≤ 9223372036854775806) (h : l0.all validP = r) :
    Calls Try.prog 126 #[.slice A0 l0.length c0, .func (.func 127) #[] #[]] w fun e w' => e = .returned (.bool !r) ∧ Below w.heap.size w w' := by
  have HR0 := Aside0.mk hr0
  have HM := Aside0.mk hm
  have A := Aside0.mk h
  clear hr0 hm h
  go_enter Try.func126, Try.ntmps126
  go_wp2_with (go_at_call 137; (with_reducible refine (idx_valid.calls A0 c0 l0 _ HR0.out HM.out).mono ?_); rintro e w6 ⟨j, rfl, hb, hj⟩; have HB := Aside0.mk hb; have HJ := Aside0.mk hj; clear hb hj)
  go_ret
  have hj := HJ.out
  rw [A.out] at hj
  refine ⟨?_, HB.out⟩
  rcases hj with ⟨h1, h2⟩ | ⟨h1, h2⟩
  · subst h2; simp [h1]
  · subst h2; simp; omega
set_option maxHeartbeats 1000000 in
set_option maxRecDepth 100000 in
theorem plane_valid.calls (A0 : Option Addr) (c0 : Nat) (l0 : List (S23)) (r : Bool) (w : World) (hr0 : Kd.C k23 w A0 l0.length l0) (hc0 : l0.length ≤ c0) (h : plane_valid.f l0 = some r) :
    Calls Try.prog 78 #[.slice A0 l0.length c0] w fun e w' => e = .returned (.bool r) ∧ Below w.heap.size w w' := by
  unfold plane_valid.f at h
  by_cases hm : l0.length ≤ 9223372036854775806
  · rw [if_pos hm] at h
    have HR0 := Aside0.mk hr0
    have HM := Aside0.mk hm
    have A := Aside0.mk (Option.some.inj h)
    clear hr0 hm h hc0
    go_enter Try.func78, Try.ntmps78
    go_wp2_with (go_at_call 126; (with_reducible refine (contains_valid.calls A0 c0 l0 r _ HR0.out HM.out A.out).mono ?_); rintro e w6 ⟨rfl, hb⟩; have HB := Aside0.mk hb; clear hb)
    go_ret
    exact ⟨by simp, HB.out⟩
  · rw [if_neg hm] at h
    exact absurd h (by simp)
end Go.Proofs.Ytckaejgamfllfaa.G
end

section
namespace Go.Proofs.Ytckaejgamfllfaa.G
open Go.RowKit Go.Proofs.YtckaejgamfllfaaW.PrintWords Go.Proofs.YtckaejgamfllfaaW.PrintLast Go.Proofs.YtckaejgamfllfaaW.PrintMore
attribute [local go_sem] max2_int min2_int max_two min_two max_three min_three max_four min_four
set_option linter.unusedVariables false
set_option linter.unusedSimpArgs false
def plane_sign.f (a0 : Int) : Option (Int) := if a0 < 0 then (some (-1)) else (if a0 > 0 then (some 1) else (some 0))
set_option maxHeartbeats 8000000 in
set_option maxRecDepth 100000 in
theorem plane_sign.calls (a0 : Int) (r : Int) (w : World) (h : plane_sign.f a0 = some r) :
    Calls Try.prog 79 #[.int .i64 a0] w fun e w' => e = .returned (.int .i64 r) ∧ Drawn0 w w' := by
  have H : (if a0 < 0 then (some (-1)) else (if a0 > 0 then (some 1) else (some 0))) = some r := h
  clear h
  by_cases c2 : a0 < 0
  · rw [if_pos c2] at H
    have c2b0 : decide (a0 < 0) = true := decide_eq_true c2
    clear c2
    obtain rfl := Option.some.inj H
    go_enter Try.func79, Try.ntmps79
    go_wp2
    go_ret
    exact ⟨by first | rfl | (simp; done) | (simp [*]; done), by repeat (first | exact Drawn0.refl _ | apply Drawn0.step)⟩
  · rw [if_neg c2] at H
    have c2b0 : decide (a0 < 0) = false := decide_eq_false c2
    clear c2
    by_cases c3 : a0 > 0
    · rw [if_pos c3] at H
      have c3b0 : decide (0 < a0) = true := decide_eq_true c3
      clear c3
      obtain rfl := Option.some.inj H
      go_enter Try.func79, Try.ntmps79
      go_wp2
      go_ret
      exact ⟨by first | rfl | (simp; done) | (simp [*]; done), by repeat (first | exact Drawn0.refl _ | apply Drawn0.step)⟩
    · rw [if_neg c3] at H
      have c3b0 : decide (0 < a0) = false := decide_eq_false c3
      clear c3
      obtain rfl := Option.some.inj H
      go_enter Try.func79, Try.ntmps79
      go_wp2
      go_ret
      exact ⟨by first | rfl | (simp; done) | (simp [*]; done), by repeat (first | exact Drawn0.refl _ | apply Drawn0.step)⟩
end Go.Proofs.Ytckaejgamfllfaa.G
end

section
namespace Go.Proofs.Ytckaejgamfllfaa.G
open Go.RowKit Go.Proofs.YtckaejgamfllfaaW.PrintWords Go.Proofs.YtckaejgamfllfaaW.PrintLast Go.Proofs.YtckaejgamfllfaaW.PrintMore
attribute [local go_sem] max2_int min2_int max_two min_two max_three min_three max_four min_four
set_option linter.unusedVariables false
set_option linter.unusedSimpArgs false
def plane_twice.f (a0_0 : Int) (a0_1 : Int) (a1_0 : Int) (a1_1 : Int) (a2_0 : Int) (a2_1 : Int) : Option (Int) := some (wrap64 ((wrap64 ((wrap64 (a1_0 - a0_0)) * (wrap64 (a2_1 - a0_1)))) - (wrap64 ((wrap64 (a1_1 - a0_1)) * (wrap64 (a2_0 - a0_0))))))
set_option maxHeartbeats 8000000 in
set_option maxRecDepth 100000 in
theorem plane_twice.calls (a0_0 : Int) (a0_1 : Int) (a1_0 : Int) (a1_1 : Int) (a2_0 : Int) (a2_1 : Int) (r : Int) (w : World) (h : plane_twice.f a0_0 a0_1 a1_0 a1_1 a2_0 a2_1 = some r) :
    Calls Try.prog 80 #[.agg #[.int .i64 a0_0, .int .i64 a0_1], .agg #[.int .i64 a1_0, .int .i64 a1_1], .agg #[.int .i64 a2_0, .int .i64 a2_1]] w fun e w' => e = .returned (.int .i64 r) ∧ Below w.heap.size w w' := by
  have hu23 := Try.underlying23
  have HB := Aside0.mk (Below.refl w.heap.size w)
  have H : (some (wrap64 ((wrap64 ((wrap64 (a1_0 - a0_0)) * (wrap64 (a2_1 - a0_1)))) - (wrap64 ((wrap64 (a1_1 - a0_1)) * (wrap64 (a2_0 - a0_0))))))) = some r := h
  clear h
  obtain rfl := Option.some.inj H
  go_enter Try.func80, Try.ntmps80
  go_wp2_with (first | ((with_reducible refine gate_dst (N := 3) rfl ?_); refine box_event ?hg (N := 3) ?hd (cs := #[.int .i64 a0_0, .int .i64 a0_1]) (t := 23) ?hr ?_; (case hd => rfl); (case hg => rfl); (case hr => first | (go_simp; done) | (go_simp; rfl)); intro gb104 hg w4 hbox hb; have n0_ := Aside0.mk (below_step (by repeat (first | (with_reducible first | exact HB.out | apply below_alloc | apply pw_below_drewN | apply below_drew1) | exact HB.out)) hb); have n1_ := Aside0.mk (hbox); have n2_ := Aside0.mk ((by rw [hg]; exact (below_size (by repeat (first | (with_reducible first | exact HB.out | apply below_alloc | apply pw_below_drewN | apply below_drew1) | exact HB.out))) : w.heap.size ≤ gb104)); have n3_ := Aside0.mk ((by rw [hg]; exact (below_size (by repeat (first | (with_reducible first | exact HB.out | apply below_alloc | apply pw_below_drewN | apply below_drew1) | exact HB.out))) : w.heap.size ≤ gb104)); clear HB; have HB := n0_; have BK104 := n1_; have GW104 := n2_; have GE104 := n3_; clear n0_ n1_ n2_ n3_; clear hb hbox hg) | ((with_reducible refine gate_dst (N := 4) rfl ?_); refine box_event ?hg (N := 4) ?hd (cs := #[.int .i64 a1_0, .int .i64 a1_1]) (t := 23) ?hr ?_; (case hd => rfl); (case hg => rfl); (case hr => first | (go_simp; done) | (go_simp; rfl)); intro gb105 hg w5 hbox hb; have n0_ := Aside0.mk (blk_below (g := gb104) (o := .cells #[.int .i64 a0_0, .int .i64 a0_1] 23 (0, 0)) (by (with_reducible repeat (first | refine blk_drewN ?_ _ | refine blk_drew ?_ | refine blk_alloc ?_ _)); exact BK104.out) hb); have n1_ := Aside0.mk (below_step (by repeat (first | (with_reducible first | exact HB.out | apply below_alloc | apply pw_below_drewN | apply below_drew1 | refine below_set ?_ GE104.out) | exact HB.out)) hb); have n2_ := Aside0.mk (hbox); have n3_ := Aside0.mk ((by rw [hg]; exact (below_size (by repeat (first | (with_reducible first | exact HB.out | apply below_alloc | apply pw_below_drewN | apply below_drew1 | refine below_set ?_ GE104.out) | exact HB.out))) : w.heap.size ≤ gb105)); have n4_ := Aside0.mk ((by rw [hg]; exact (below_size (by repeat (first | (with_reducible first | exact HB.out | apply below_alloc | apply pw_below_drewN | apply below_drew1 | refine below_set ?_ GE104.out) | exact HB.out))) : w.heap.size ≤ gb105)); have n5_ := Aside0.mk ((by rw [hg]; exact Nat.ne_of_lt (blk_lt (g := gb104) (o := .cells #[.int .i64 a0_0, .int .i64 a0_1] 23 (0, 0)) (by (with_reducible repeat (first | refine blk_drewN ?_ _ | refine blk_drew ?_ | refine blk_alloc ?_ _)); exact BK104.out)) : gb104 ≠ gb105)); have n6_ := Aside0.mk ((by rw [hg]; exact Nat.ne_of_gt (blk_lt (g := gb104) (o := .cells #[.int .i64 a0_0, .int .i64 a0_1] 23 (0, 0)) (by (with_reducible repeat (first | refine blk_drewN ?_ _ | refine blk_drew ?_ | refine blk_alloc ?_ _)); exact BK104.out)) : gb105 ≠ gb104)); clear BK104; clear HB; have BK104 := n0_; have HB := n1_; have BK105 := n2_; have GW105 := n3_; have GE105 := n4_; have NB104_105 := n5_; have NB105_104 := n6_; clear n0_ n1_ n2_ n3_ n4_ n5_ n6_; clear hb hbox hg) | ((with_reducible refine gate_dst (N := 5) rfl ?_); refine box_event ?hg (N := 5) ?hd (cs := #[.int .i64 a2_0, .int .i64 a2_1]) (t := 23) ?hr ?_; (case hd => rfl); (case hg => rfl); (case hr => first | (go_simp; done) | (go_simp; rfl)); intro gb106 hg w6 hbox hb; have n0_ := Aside0.mk (blk_below (g := gb104) (o := .cells #[.int .i64 a0_0, .int .i64 a0_1] 23 (0, 0)) (by (with_reducible repeat (first | refine blk_drewN ?_ _ | refine blk_drew ?_ | refine blk_alloc ?_ _)); exact BK104.out) hb); have n1_ := Aside0.mk (blk_below (g := gb105) (o := .cells #[.int .i64 a1_0, .int .i64 a1_1] 23 (0, 0)) (by (with_reducible repeat (first | refine blk_drewN ?_ _ | refine blk_drew ?_ | refine blk_alloc ?_ _)); exact BK105.out) hb); have n2_ := Aside0.mk (below_step (by repeat (first | (with_reducible first | exact HB.out | apply below_alloc | apply pw_below_drewN | apply below_drew1 | refine below_set ?_ GE104.out | refine below_set ?_ GE105.out) | exact HB.out)) hb); have n3_ := Aside0.mk (hbox); have n4_ := Aside0.mk ((by rw [hg]; exact (below_size (by repeat (first | (with_reducible first | exact HB.out | apply below_alloc | apply pw_below_drewN | apply below_drew1 | refine below_set ?_ GE104.out | refine below_set ?_ GE105.out) | exact HB.out))) : w.heap.size ≤ gb106)); have n5_ := Aside0.mk ((by rw [hg]; exact (below_size (by repeat (first | (with_reducible first | exact HB.out | apply below_alloc | apply pw_below_drewN | apply below_drew1 | refine below_set ?_ GE104.out | refine below_set ?_ GE105.out) | exact HB.out))) : w.heap.size ≤ gb106)); have n6_ := Aside0.mk ((by rw [hg]; exact Nat.ne_of_lt (blk_lt (g := gb104) (o := .cells #[.int .i64 a0_0, .int .i64 a0_1] 23 (0, 0)) (by (with_reducible repeat (first | refine blk_drewN ?_ _ | refine blk_drew ?_ | refine blk_alloc ?_ _)); exact BK104.out)) : gb104 ≠ gb106)); have n7_ := Aside0.mk ((by rw [hg]; exact Nat.ne_of_gt (blk_lt (g := gb104) (o := .cells #[.int .i64 a0_0, .int .i64 a0_1] 23 (0, 0)) (by (with_reducible repeat (first | refine blk_drewN ?_ _ | refine blk_drew ?_ | refine blk_alloc ?_ _)); exact BK104.out)) : gb106 ≠ gb104)); have n8_ := Aside0.mk ((by rw [hg]; exact Nat.ne_of_lt (blk_lt (g := gb105) (o := .cells #[.int .i64 a1_0, .int .i64 a1_1] 23 (0, 0)) (by (with_reducible repeat (first | refine blk_drewN ?_ _ | refine blk_drew ?_ | refine blk_alloc ?_ _)); exact BK105.out)) : gb105 ≠ gb106)); have n9_ := Aside0.mk ((by rw [hg]; exact Nat.ne_of_gt (blk_lt (g := gb105) (o := .cells #[.int .i64 a1_0, .int .i64 a1_1] 23 (0, 0)) (by (with_reducible repeat (first | refine blk_drewN ?_ _ | refine blk_drew ?_ | refine blk_alloc ?_ _)); exact BK105.out)) : gb106 ≠ gb105)); clear BK104; clear BK105; clear HB; have BK104 := n0_; have BK105 := n1_; have HB := n2_; have BK106 := n3_; have GW106 := n4_; have GE106 := n5_; have NB104_106 := n6_; have NB106_104 := n7_; have NB105_106 := n8_; have NB106_105 := n9_; clear n0_ n1_ n2_ n3_ n4_ n5_ n6_ n7_ n8_ n9_; clear hb hbox hg; have hnb7 := NB105_104.out; have hnc7 := NB104_105.out; have hnb8 := NB105_106.out; have hnc8 := NB106_105.out; have hcz9_0 : w6.cell? ⟨gb105, 0, none⟩ = some (.int .i64 a1_0) := (blk_cell BK105.out 0).trans rfl; have hcz9_1 : w6.cell? ⟨gb105, 1, none⟩ = some (.int .i64 a1_1) := (blk_cell BK105.out 1).trans rfl; have hfz9_0 := blk_frozen BK105.out 0; have hfz9_1 := blk_frozen BK105.out 1; have hnb10 := NB104_106.out; have hnc10 := NB106_104.out; have hcz11_0 : w6.cell? ⟨gb104, 0, none⟩ = some (.int .i64 a0_0) := (blk_cell BK104.out 0).trans rfl; have hcz11_1 : w6.cell? ⟨gb104, 1, none⟩ = some (.int .i64 a0_1) := (blk_cell BK104.out 1).trans rfl; have hfz11_0 := blk_frozen BK104.out 0; have hfz11_1 := blk_frozen BK104.out 1; have hcz12_0 : w6.cell? ⟨gb106, 0, none⟩ = some (.int .i64 a2_0) := (blk_cell BK106.out 0).trans rfl; have hcz12_1 : w6.cell? ⟨gb106, 1, none⟩ = some (.int .i64 a2_1) := (blk_cell BK106.out 1).trans rfl; have hfz12_0 := blk_frozen BK106.out 0; have hfz12_1 := blk_frozen BK106.out 1))
  go_ret
  exact ⟨by first | rfl | (simp [errW_none, errW_some] <;> rfl) | (simp [*, errW_none, errW_some] <;> rfl), by repeat (first | (with_reducible first | exact HB.out | apply below_alloc | apply pw_below_drewN | apply below_drew1 | refine below_set ?_ GE104.out | refine below_set ?_ GE105.out | refine below_set ?_ GE106.out) | exact HB.out)⟩
end Go.Proofs.Ytckaejgamfllfaa.G
end

section
namespace Go.Proofs.Ytckaejgamfllfaa.G
open Go.RowKit Go.Proofs.YtckaejgamfllfaaW.PrintWords Go.Proofs.YtckaejgamfllfaaW.PrintLast Go.Proofs.YtckaejgamfllfaaW.PrintMore
attribute [local go_sem] max2_int min2_int max_two min_two max_three min_three max_four min_four
set_option linter.unusedVariables false
set_option linter.unusedSimpArgs false
def plane_Turn.f (a0_0 : Int) (a0_1 : Int) (a1_0 : Int) (a1_1 : Int) (a2_0 : Int) (a2_1 : Int) : Option (Int) := (plane_valid.f (([(⟨a0_0, a0_1⟩ : S23), (⟨a1_0, a1_1⟩ : S23), (⟨a2_0, a2_1⟩ : S23)] : List (S23)))).bind fun t113 => (if t113 = true then ((plane_twice.f a0_0 a0_1 a1_0 a1_1 a2_0 a2_1).bind fun t114 => ((plane_sign.f t114).bind fun t115 => (some t115))) else (some 0))
set_option maxHeartbeats 8000000 in
set_option maxRecDepth 100000 in
theorem plane_Turn.calls (a0_0 : Int) (a0_1 : Int) (a1_0 : Int) (a1_1 : Int) (a2_0 : Int) (a2_1 : Int) (r : Int) (w : World) (h : plane_Turn.f a0_0 a0_1 a1_0 a1_1 a2_0 a2_1 = some r) :
    Calls Try.prog 19 #[.agg #[.int .i64 a0_0, .int .i64 a0_1], .agg #[.int .i64 a1_0, .int .i64 a1_1], .agg #[.int .i64 a2_0, .int .i64 a2_1]] w fun e w' => e = .returned (.int .i64 r) ∧ Below w.heap.size w w' := by
  have hu23 := Try.underlying23
  have HB := Aside0.mk (Below.refl w.heap.size w)
  have H : ((plane_valid.f (([(⟨a0_0, a0_1⟩ : S23), (⟨a1_0, a1_1⟩ : S23), (⟨a2_0, a2_1⟩ : S23)] : List (S23)))).bind fun t113 => (if t113 = true then ((plane_twice.f a0_0 a0_1 a1_0 a1_1 a2_0 a2_1).bind fun t114 => ((plane_sign.f t114).bind fun t115 => (some t115))) else (some 0))) = some r := h
  clear h
  obtain ⟨y110, hy110⟩ : ∃ y_ : List (S23), y_ = (([(⟨a0_0, a0_1⟩ : S23), (⟨a1_0, a1_1⟩ : S23), (⟨a2_0, a2_1⟩ : S23)] : List (S23))) := ⟨_, rfl⟩
  replace H : ((plane_valid.f y110).bind fun t113 => (if t113 = true then ((plane_twice.f a0_0 a0_1 a1_0 a1_1 a2_0 a2_1).bind fun t114 => ((plane_sign.f t114).bind fun t115 => (some t115))) else (some 0))) = some r := by first | (rw [hy110]; with_reducible exact H) | (have H2_ := (Option.bind_some _ _).symm.trans H; rw [hy110]; with_reducible exact H2_) | (have H2_ := (Option.bind_some _ _).symm.trans H; with_reducible exact H2_) | with_reducible exact H | (rw [hy110]; exact H) | exact H
  have Ny110 := Aside0.mk hy110
  clear hy110
  replace H := Option.bind_eq_some_iff.mp H
  obtain ⟨t113, A40, H⟩ := H
  replace H : (if t113 = true then ((plane_twice.f a0_0 a0_1 a1_0 a1_1 a2_0 a2_1).bind fun t114 => ((plane_sign.f t114).bind fun t115 => (some t115))) else (some 0)) = some r := H
  have A4 := Aside0.mk A40
  clear A40
  by_cases c5 : t113 = true
  · subst c5
    have H1 : ((plane_twice.f a0_0 a0_1 a1_0 a1_1 a2_0 a2_1).bind fun t114 => ((plane_sign.f t114).bind fun t115 => (some t115))) = some r := by rw [if_pos rfl] at H; exact H
    clear H
    have H := H1
    clear H1
    replace H := Option.bind_eq_some_iff.mp H
    obtain ⟨t114, A60, H⟩ := H
    replace H : ((plane_sign.f t114).bind fun t115 => (some t115)) = some r := H
    have A6 := Aside0.mk A60
    clear A60
    replace H := Option.bind_eq_some_iff.mp H
    obtain ⟨t115, A70, H⟩ := H
    replace H : (some t115) = some r := H
    have A7 := Aside0.mk A70
    clear A70
    obtain rfl := Option.some.inj H
    go_enter Try.func19, Try.ntmps19
    go_wp2_with (first | ((with_reducible refine gate_dst (N := 3) rfl ?_); refine box_event ?hg (N := 3) ?hd (cs := #[.int .i64 a0_0, .int .i64 a0_1]) (t := 23) ?hr ?_; (case hd => rfl); (case hg => rfl); (case hr => first | (go_simp; done) | (go_simp; rfl)); intro gb107 hg w8 hbox hb; have n0_ := Aside0.mk (below_step (by repeat (first | (with_reducible first | exact HB.out | apply below_alloc | apply pw_below_drewN | apply below_drew1) | exact HB.out)) hb); have n1_ := Aside0.mk (hbox); have n2_ := Aside0.mk ((by rw [hg]; exact (below_size (by repeat (first | (with_reducible first | exact HB.out | apply below_alloc | apply pw_below_drewN | apply below_drew1) | exact HB.out))) : w.heap.size ≤ gb107)); have n3_ := Aside0.mk ((by rw [hg]; exact (below_size (by repeat (first | (with_reducible first | exact HB.out | apply below_alloc | apply pw_below_drewN | apply below_drew1) | exact HB.out))) : w.heap.size ≤ gb107)); clear HB; have HB := n0_; have BK107 := n1_; have GW107 := n2_; have GE107 := n3_; clear n0_ n1_ n2_ n3_; clear hb hbox hg) | ((with_reducible refine gate_dst (N := 4) rfl ?_); refine box_event ?hg (N := 4) ?hd (cs := #[.int .i64 a1_0, .int .i64 a1_1]) (t := 23) ?hr ?_; (case hd => rfl); (case hg => rfl); (case hr => first | (go_simp; done) | (go_simp; rfl)); intro gb108 hg w9 hbox hb; have n0_ := Aside0.mk (blk_below (g := gb107) (o := .cells #[.int .i64 a0_0, .int .i64 a0_1] 23 (0, 0)) (by (with_reducible repeat (first | refine blk_drewN ?_ _ | refine blk_drew ?_ | refine blk_alloc ?_ _)); exact BK107.out) hb); have n1_ := Aside0.mk (below_step (by repeat (first | (with_reducible first | exact HB.out | apply below_alloc | apply pw_below_drewN | apply below_drew1 | refine below_set ?_ GE107.out) | exact HB.out)) hb); have n2_ := Aside0.mk (hbox); have n3_ := Aside0.mk ((by rw [hg]; exact (below_size (by repeat (first | (with_reducible first | exact HB.out | apply below_alloc | apply pw_below_drewN | apply below_drew1 | refine below_set ?_ GE107.out) | exact HB.out))) : w.heap.size ≤ gb108)); have n4_ := Aside0.mk ((by rw [hg]; exact (below_size (by repeat (first | (with_reducible first | exact HB.out | apply below_alloc | apply pw_below_drewN | apply below_drew1 | refine below_set ?_ GE107.out) | exact HB.out))) : w.heap.size ≤ gb108)); have n5_ := Aside0.mk ((by rw [hg]; exact Nat.ne_of_lt (blk_lt (g := gb107) (o := .cells #[.int .i64 a0_0, .int .i64 a0_1] 23 (0, 0)) (by (with_reducible repeat (first | refine blk_drewN ?_ _ | refine blk_drew ?_ | refine blk_alloc ?_ _)); exact BK107.out)) : gb107 ≠ gb108)); have n6_ := Aside0.mk ((by rw [hg]; exact Nat.ne_of_gt (blk_lt (g := gb107) (o := .cells #[.int .i64 a0_0, .int .i64 a0_1] 23 (0, 0)) (by (with_reducible repeat (first | refine blk_drewN ?_ _ | refine blk_drew ?_ | refine blk_alloc ?_ _)); exact BK107.out)) : gb108 ≠ gb107)); clear BK107; clear HB; have BK107 := n0_; have HB := n1_; have BK108 := n2_; have GW108 := n3_; have GE108 := n4_; have NB107_108 := n5_; have NB108_107 := n6_; clear n0_ n1_ n2_ n3_ n4_ n5_ n6_; clear hb hbox hg) | ((with_reducible refine gate_dst (N := 5) rfl ?_); refine box_event ?hg (N := 5) ?hd (cs := #[.int .i64 a2_0, .int .i64 a2_1]) (t := 23) ?hr ?_; (case hd => rfl); (case hg => rfl); (case hr => first | (go_simp; done) | (go_simp; rfl)); intro gb109 hg w10 hbox hb; have n0_ := Aside0.mk (blk_below (g := gb107) (o := .cells #[.int .i64 a0_0, .int .i64 a0_1] 23 (0, 0)) (by (with_reducible repeat (first | refine blk_drewN ?_ _ | refine blk_drew ?_ | refine blk_alloc ?_ _)); exact BK107.out) hb); have n1_ := Aside0.mk (blk_below (g := gb108) (o := .cells #[.int .i64 a1_0, .int .i64 a1_1] 23 (0, 0)) (by (with_reducible repeat (first | refine blk_drewN ?_ _ | refine blk_drew ?_ | refine blk_alloc ?_ _)); exact BK108.out) hb); have n2_ := Aside0.mk (below_step (by repeat (first | (with_reducible first | exact HB.out | apply below_alloc | apply pw_below_drewN | apply below_drew1 | refine below_set ?_ GE107.out | refine below_set ?_ GE108.out) | exact HB.out)) hb); have n3_ := Aside0.mk (hbox); have n4_ := Aside0.mk ((by rw [hg]; exact (below_size (by repeat (first | (with_reducible first | exact HB.out | apply below_alloc | apply pw_below_drewN | apply below_drew1 | refine below_set ?_ GE107.out | refine below_set ?_ GE108.out) | exact HB.out))) : w.heap.size ≤ gb109)); have n5_ := Aside0.mk ((by rw [hg]; exact (below_size (by repeat (first | (with_reducible first | exact HB.out | apply below_alloc | apply pw_below_drewN | apply below_drew1 | refine below_set ?_ GE107.out | refine below_set ?_ GE108.out) | exact HB.out))) : w.heap.size ≤ gb109)); have n6_ := Aside0.mk ((by rw [hg]; exact Nat.ne_of_lt (blk_lt (g := gb107) (o := .cells #[.int .i64 a0_0, .int .i64 a0_1] 23 (0, 0)) (by (with_reducible repeat (first | refine blk_drewN ?_ _ | refine blk_drew ?_ | refine blk_alloc ?_ _)); exact BK107.out)) : gb107 ≠ gb109)); have n7_ := Aside0.mk ((by rw [hg]; exact Nat.ne_of_gt (blk_lt (g := gb107) (o := .cells #[.int .i64 a0_0, .int .i64 a0_1] 23 (0, 0)) (by (with_reducible repeat (first | refine blk_drewN ?_ _ | refine blk_drew ?_ | refine blk_alloc ?_ _)); exact BK107.out)) : gb109 ≠ gb107)); have n8_ := Aside0.mk ((by rw [hg]; exact Nat.ne_of_lt (blk_lt (g := gb108) (o := .cells #[.int .i64 a1_0, .int .i64 a1_1] 23 (0, 0)) (by (with_reducible repeat (first | refine blk_drewN ?_ _ | refine blk_drew ?_ | refine blk_alloc ?_ _)); exact BK108.out)) : gb108 ≠ gb109)); have n9_ := Aside0.mk ((by rw [hg]; exact Nat.ne_of_gt (blk_lt (g := gb108) (o := .cells #[.int .i64 a1_0, .int .i64 a1_1] 23 (0, 0)) (by (with_reducible repeat (first | refine blk_drewN ?_ _ | refine blk_drew ?_ | refine blk_alloc ?_ _)); exact BK108.out)) : gb109 ≠ gb108)); clear BK107; clear BK108; clear HB; have BK107 := n0_; have BK108 := n1_; have HB := n2_; have BK109 := n3_; have GW109 := n4_; have GE109 := n5_; have NB107_109 := n6_; have NB109_107 := n7_; have NB108_109 := n8_; have NB109_108 := n9_; clear n0_ n1_ n2_ n3_ n4_ n5_ n6_ n7_ n8_ n9_; clear hb hbox hg; have hnb11 := NB107_108.out; have hnc11 := NB108_107.out; have hnb12 := NB107_109.out; have hnc12 := NB109_107.out; have hcz13_0 : w10.cell? ⟨gb107, 0, none⟩ = some (.int .i64 a0_0) := (blk_cell BK107.out 0).trans rfl; have hcz13_1 : w10.cell? ⟨gb107, 1, none⟩ = some (.int .i64 a0_1) := (blk_cell BK107.out 1).trans rfl; have hfz13_0 := blk_frozen BK107.out 0; have hfz13_1 := blk_frozen BK107.out 1; have hnb14 := NB108_109.out; have hnc14 := NB109_108.out; have hcz15_0 : w10.cell? ⟨gb108, 0, none⟩ = some (.int .i64 a1_0) := (blk_cell BK108.out 0).trans rfl; have hcz15_1 : w10.cell? ⟨gb108, 1, none⟩ = some (.int .i64 a1_1) := (blk_cell BK108.out 1).trans rfl; have hfz15_0 := blk_frozen BK108.out 0; have hfz15_1 := blk_frozen BK108.out 1; have hcz16_0 : w10.cell? ⟨gb109, 0, none⟩ = some (.int .i64 a2_0) := (blk_cell BK109.out 0).trans rfl; have hcz16_1 : w10.cell? ⟨gb109, 1, none⟩ = some (.int .i64 a2_1) := (blk_cell BK109.out 1).trans rfl; have hfz16_0 := blk_frozen BK109.out 0; have hfz16_1 := blk_frozen BK109.out 1) | ((with_reducible refine gate_dst (N := 10) rfl ?_); refine Kd.R_lit k23 _ 23 ?hg (N := 10) ?hd (xs := ([(⟨a0_0, a0_1⟩ : S23), (⟨a1_0, a1_1⟩ : S23), (⟨a2_0, a2_1⟩ : S23)] : List (S23))) (inner := [.int .i64 a0_0, .int .i64 a0_1, .int .i64 a1_0, .int .i64 a1_1, .int .i64 a2_0, .int .i64 a2_1]) (ok := fun _ => True) (okp := fun _ => True) ?hr ?hp (fun _ hk => hk) trivial (Below.refl _ _) (Nat.le_refl _) (by simp) ?_; (case hd => rfl); (case hg => rfl); (case hr => first | (go_simp; done) | (go_simp; rfl)); (case hp => exact (Reps.c2 (show Kd.M k23 _ _ _ (⟨a0_0, a0_1⟩ : S23) [.int .i64 a0_0, .int .i64 a0_1] from (k23_mkM _ _ _ (⟨a0_0, a0_1⟩ : S23) )) (Reps.c2 (show Kd.M k23 _ _ _ (⟨a1_0, a1_1⟩ : S23) [.int .i64 a1_0, .int .i64 a1_1] from (k23_mkM _ _ _ (⟨a1_0, a1_1⟩ : S23) )) (Reps.c2 (show Kd.M k23 _ _ _ (⟨a2_0, a2_1⟩ : S23) [.int .i64 a2_0, .int .i64 a2_1] from (k23_mkM _ _ _ (⟨a2_0, a2_1⟩ : S23) )) (Reps.none _ _))))); intro v111 w17 ho18 hb hg_ hnew_; clear hg_ hnew_; (first | rw [← Ny110.out] at ho18 | (simp only [Int.reduceToNat] at ho18; rw [← Ny110.out] at ho18)); have n0_ := Aside0.mk (Kd.R_lower (Kd.R_newB (Kd.R_newB (Kd.R_newB ho18 (g := gb107) (o := .cells #[.int .i64 a0_0, .int .i64 a0_1] 23 (0, 0)) (by (with_reducible repeat (first | refine blk_drewN ?_ _ | refine blk_drew ?_ | refine blk_alloc ?_ _)); exact BK107.out)) (g := gb108) (o := .cells #[.int .i64 a1_0, .int .i64 a1_1] 23 (0, 0)) (by (with_reducible repeat (first | refine blk_drewN ?_ _ | refine blk_drew ?_ | refine blk_alloc ?_ _)); exact BK108.out)) (g := gb109) (o := .cells #[.int .i64 a2_0, .int .i64 a2_1] 23 (0, 0)) (by (with_reducible repeat (first | refine blk_drewN ?_ _ | refine blk_drew ?_ | refine blk_alloc ?_ _)); exact BK109.out)) (below_size (by repeat (first | (with_reducible first | exact HB.out | apply below_alloc | apply pw_below_drewN | apply below_drew1 | refine below_set ?_ GE107.out | refine below_set ?_ GE108.out | refine below_set ?_ GE109.out) | exact HB.out)))); have n1_ := Aside0.mk (blk_below (g := gb107) (o := .cells #[.int .i64 a0_0, .int .i64 a0_1] 23 (0, 0)) (by (with_reducible repeat (first | refine blk_drewN ?_ _ | refine blk_drew ?_ | refine blk_alloc ?_ _)); exact BK107.out) hb); have n2_ := Aside0.mk (blk_below (g := gb108) (o := .cells #[.int .i64 a1_0, .int .i64 a1_1] 23 (0, 0)) (by (with_reducible repeat (first | refine blk_drewN ?_ _ | refine blk_drew ?_ | refine blk_alloc ?_ _)); exact BK108.out) hb); have n3_ := Aside0.mk (blk_below (g := gb109) (o := .cells #[.int .i64 a2_0, .int .i64 a2_1] 23 (0, 0)) (by (with_reducible repeat (first | refine blk_drewN ?_ _ | refine blk_drew ?_ | refine blk_alloc ?_ _)); exact BK109.out) hb); have n4_ := Aside0.mk (below_step (by repeat (first | (with_reducible first | exact HB.out | apply below_alloc | apply pw_below_drewN | apply below_drew1 | refine below_set ?_ GE107.out | refine below_set ?_ GE108.out | refine below_set ?_ GE109.out) | exact HB.out)) hb); clear BK107; clear BK108; clear BK109; clear HB; have HO112 := n0_; have BK107 := n1_; have BK108 := n2_; have BK109 := n3_; have HB := n4_; clear n0_ n1_ n2_ n3_ n4_; clear hb ho18; obtain ⟨Ao19, co19, eo19⟩ := Kd.R_slice HO112.out; subst eo19) | ((with_reducible refine gate_callee (f := 78) rfl ?_); refine goesL_ (some 11) rfl rfl Try.func78 (by kernel_rfl) rfl #[.slice Ao19 y110.length co19] rfl (by (try simp only [List.map_toArray, List.map_cons, List.map_nil]); first | done | rfl | (simp only [List.length_drop, List.length_take]; rfl)) ?_; (with_reducible refine (plane_valid.calls _ _ y110 true _ ?side1 ?side2 A4.out).mono ?_); (case side1 => repeat (first | exact (Kd.R_reads' HO112.out).2.2 | (with_reducible refine Kd.C_alloc ?_ _) | (with_reducible refine Kd.C_drewN ?_ _) | (with_reducible refine Kd.C_drew ?_))); (case side2 => exact (Kd.R_reads' HO112.out).2.1); rintro e w20 ⟨rfl, hb⟩; refine ⟨_, rfl, ?_⟩; have n0_ := Aside0.mk (Kd.R_below (by (with_reducible repeat (first | apply Kd.R_alloc | apply Kd.R_drewN | apply Kd.R_drew)); exact HO112.out) hb); have n1_ := Aside0.mk (blk_below (g := gb107) (o := .cells #[.int .i64 a0_0, .int .i64 a0_1] 23 (0, 0)) (by (with_reducible repeat (first | refine blk_drewN ?_ _ | refine blk_drew ?_ | refine blk_alloc ?_ _)); exact BK107.out) hb); have n2_ := Aside0.mk (blk_below (g := gb108) (o := .cells #[.int .i64 a1_0, .int .i64 a1_1] 23 (0, 0)) (by (with_reducible repeat (first | refine blk_drewN ?_ _ | refine blk_drew ?_ | refine blk_alloc ?_ _)); exact BK108.out) hb); have n3_ := Aside0.mk (blk_below (g := gb109) (o := .cells #[.int .i64 a2_0, .int .i64 a2_1] 23 (0, 0)) (by (with_reducible repeat (first | refine blk_drewN ?_ _ | refine blk_drew ?_ | refine blk_alloc ?_ _)); exact BK109.out) hb); have n4_ := Aside0.mk (below_step (by repeat (first | (with_reducible first | exact HB.out | apply below_alloc | apply pw_below_drewN | apply below_drew1 | refine below_set ?_ GE107.out | refine below_set ?_ GE108.out | refine below_set ?_ GE109.out) | exact HB.out)) hb); clear HO112; clear BK107; clear BK108; clear BK109; clear HB; have HO112 := n0_; have BK107 := n1_; have BK108 := n2_; have BK109 := n3_; have HB := n4_; clear n0_ n1_ n2_ n3_ n4_; (try clear hb); (try clear hb2); (try clear hk); (try clear hi); have hcz21_0 : w20.cell? ⟨gb107, 0, none⟩ = some (.int .i64 a0_0) := (blk_cell BK107.out 0).trans rfl; have hcz21_1 : w20.cell? ⟨gb107, 1, none⟩ = some (.int .i64 a0_1) := (blk_cell BK107.out 1).trans rfl; have hfz21_0 := blk_frozen BK107.out 0; have hfz21_1 := blk_frozen BK107.out 1; have hcz22_0 : w20.cell? ⟨gb108, 0, none⟩ = some (.int .i64 a1_0) := (blk_cell BK108.out 0).trans rfl; have hcz22_1 : w20.cell? ⟨gb108, 1, none⟩ = some (.int .i64 a1_1) := (blk_cell BK108.out 1).trans rfl; have hfz22_0 := blk_frozen BK108.out 0; have hfz22_1 := blk_frozen BK108.out 1; have hcz23_0 : w20.cell? ⟨gb109, 0, none⟩ = some (.int .i64 a2_0) := (blk_cell BK109.out 0).trans rfl; have hcz23_1 : w20.cell? ⟨gb109, 1, none⟩ = some (.int .i64 a2_1) := (blk_cell BK109.out 1).trans rfl; have hfz23_0 := blk_frozen BK109.out 0; have hfz23_1 := blk_frozen BK109.out 1) | ((with_reducible refine gate_callee (f := 80) rfl ?_); refine goesL_ (some 16) rfl rfl Try.func80 (by kernel_rfl) rfl #[.agg #[.int .i64 a0_0, .int .i64 a0_1], .agg #[.int .i64 a1_0, .int .i64 a1_1], .agg #[.int .i64 a2_0, .int .i64 a2_1]] rfl (by (try simp only [List.map_toArray, List.map_cons, List.map_nil]); first | done | rfl | (simp only [List.length_drop, List.length_take]; rfl)) ?_; (with_reducible refine (plane_twice.calls a0_0 a0_1 a1_0 a1_1 a2_0 a2_1 t114 _ A6.out).mono ?_); rintro e w24 ⟨rfl, hb⟩; refine ⟨_, rfl, ?_⟩; have n0_ := Aside0.mk (Kd.R_below (by (with_reducible repeat (first | apply Kd.R_alloc | apply Kd.R_drewN | apply Kd.R_drew)); exact HO112.out) hb); have n1_ := Aside0.mk (blk_below (g := gb107) (o := .cells #[.int .i64 a0_0, .int .i64 a0_1] 23 (0, 0)) (by (with_reducible repeat (first | refine blk_drewN ?_ _ | refine blk_drew ?_ | refine blk_alloc ?_ _)); exact BK107.out) hb); have n2_ := Aside0.mk (blk_below (g := gb108) (o := .cells #[.int .i64 a1_0, .int .i64 a1_1] 23 (0, 0)) (by (with_reducible repeat (first | refine blk_drewN ?_ _ | refine blk_drew ?_ | refine blk_alloc ?_ _)); exact BK108.out) hb); have n3_ := Aside0.mk (blk_below (g := gb109) (o := .cells #[.int .i64 a2_0, .int .i64 a2_1] 23 (0, 0)) (by (with_reducible repeat (first | refine blk_drewN ?_ _ | refine blk_drew ?_ | refine blk_alloc ?_ _)); exact BK109.out) hb); have n4_ := Aside0.mk (below_step (by repeat (first | (with_reducible first | exact HB.out | apply below_alloc | apply pw_below_drewN | apply below_drew1 | refine below_set ?_ GE107.out | refine below_set ?_ GE108.out | refine below_set ?_ GE109.out) | exact HB.out)) hb); clear HO112; clear BK107; clear BK108; clear BK109; clear HB; have HO112 := n0_; have BK107 := n1_; have BK108 := n2_; have BK109 := n3_; have HB := n4_; clear n0_ n1_ n2_ n3_ n4_; (try clear hb); (try clear hb2); (try clear hk); (try clear hi)) | ((with_reducible refine gate_callee (f := 79) rfl ?_); refine goesL_ (some 17) rfl rfl Try.func79 (by kernel_rfl) rfl #[.int .i64 t114] rfl (by (try simp only [List.map_toArray, List.map_cons, List.map_nil]); first | done | rfl | (simp only [List.length_drop, List.length_take]; rfl)) ?_; (with_reducible refine (plane_sign.calls t114 t115 _ A7.out).mono ?_); rintro e w' ⟨rfl, ⟨nd, rfl⟩⟩; refine ⟨_, rfl, ?_⟩))
    go_ret
    exact ⟨by first | rfl | (simp [errW_none, errW_some] <;> rfl) | (simp [*, errW_none, errW_some] <;> rfl), by repeat (first | (with_reducible first | exact HB.out | apply below_alloc | apply pw_below_drewN | apply below_drew1 | refine below_set ?_ GE107.out | refine below_set ?_ GE108.out | refine below_set ?_ GE109.out) | exact HB.out)⟩
  · replace c5 := Bool.eq_false_iff.mpr c5
    subst c5
    have H1 : (some 0) = some r := by rw [if_neg (show ¬ (false = true) by decide)] at H; exact H
    clear H
    have H := H1
    clear H1
    obtain rfl := Option.some.inj H
    go_enter Try.func19, Try.ntmps19
    go_wp2_with (first | ((with_reducible refine gate_dst (N := 3) rfl ?_); refine box_event ?hg (N := 3) ?hd (cs := #[.int .i64 a0_0, .int .i64 a0_1]) (t := 23) ?hr ?_; (case hd => rfl); (case hg => rfl); (case hr => first | (go_simp; done) | (go_simp; rfl)); intro gb107 hg w25 hbox hb; have n0_ := Aside0.mk (below_step (by repeat (first | (with_reducible first | exact HB.out | apply below_alloc | apply pw_below_drewN | apply below_drew1) | exact HB.out)) hb); have n1_ := Aside0.mk (hbox); have n2_ := Aside0.mk ((by rw [hg]; exact (below_size (by repeat (first | (with_reducible first | exact HB.out | apply below_alloc | apply pw_below_drewN | apply below_drew1) | exact HB.out))) : w.heap.size ≤ gb107)); have n3_ := Aside0.mk ((by rw [hg]; exact (below_size (by repeat (first | (with_reducible first | exact HB.out | apply below_alloc | apply pw_below_drewN | apply below_drew1) | exact HB.out))) : w.heap.size ≤ gb107)); clear HB; have HB := n0_; have BK107 := n1_; have GW107 := n2_; have GE107 := n3_; clear n0_ n1_ n2_ n3_; clear hb hbox hg) | ((with_reducible refine gate_dst (N := 4) rfl ?_); refine box_event ?hg (N := 4) ?hd (cs := #[.int .i64 a1_0, .int .i64 a1_1]) (t := 23) ?hr ?_; (case hd => rfl); (case hg => rfl); (case hr => first | (go_simp; done) | (go_simp; rfl)); intro gb108 hg w26 hbox hb; have n0_ := Aside0.mk (blk_below (g := gb107) (o := .cells #[.int .i64 a0_0, .int .i64 a0_1] 23 (0, 0)) (by (with_reducible repeat (first | refine blk_drewN ?_ _ | refine blk_drew ?_ | refine blk_alloc ?_ _)); exact BK107.out) hb); have n1_ := Aside0.mk (below_step (by repeat (first | (with_reducible first | exact HB.out | apply below_alloc | apply pw_below_drewN | apply below_drew1 | refine below_set ?_ GE107.out) | exact HB.out)) hb); have n2_ := Aside0.mk (hbox); have n3_ := Aside0.mk ((by rw [hg]; exact (below_size (by repeat (first | (with_reducible first | exact HB.out | apply below_alloc | apply pw_below_drewN | apply below_drew1 | refine below_set ?_ GE107.out) | exact HB.out))) : w.heap.size ≤ gb108)); have n4_ := Aside0.mk ((by rw [hg]; exact (below_size (by repeat (first | (with_reducible first | exact HB.out | apply below_alloc | apply pw_below_drewN | apply below_drew1 | refine below_set ?_ GE107.out) | exact HB.out))) : w.heap.size ≤ gb108)); have n5_ := Aside0.mk ((by rw [hg]; exact Nat.ne_of_lt (blk_lt (g := gb107) (o := .cells #[.int .i64 a0_0, .int .i64 a0_1] 23 (0, 0)) (by (with_reducible repeat (first | refine blk_drewN ?_ _ | refine blk_drew ?_ | refine blk_alloc ?_ _)); exact BK107.out)) : gb107 ≠ gb108)); have n6_ := Aside0.mk ((by rw [hg]; exact Nat.ne_of_gt (blk_lt (g := gb107) (o := .cells #[.int .i64 a0_0, .int .i64 a0_1] 23 (0, 0)) (by (with_reducible repeat (first | refine blk_drewN ?_ _ | refine blk_drew ?_ | refine blk_alloc ?_ _)); exact BK107.out)) : gb108 ≠ gb107)); clear BK107; clear HB; have BK107 := n0_; have HB := n1_; have BK108 := n2_; have GW108 := n3_; have GE108 := n4_; have NB107_108 := n5_; have NB108_107 := n6_; clear n0_ n1_ n2_ n3_ n4_ n5_ n6_; clear hb hbox hg) | ((with_reducible refine gate_dst (N := 5) rfl ?_); refine box_event ?hg (N := 5) ?hd (cs := #[.int .i64 a2_0, .int .i64 a2_1]) (t := 23) ?hr ?_; (case hd => rfl); (case hg => rfl); (case hr => first | (go_simp; done) | (go_simp; rfl)); intro gb109 hg w27 hbox hb; have n0_ := Aside0.mk (blk_below (g := gb107) (o := .cells #[.int .i64 a0_0, .int .i64 a0_1] 23 (0, 0)) (by (with_reducible repeat (first | refine blk_drewN ?_ _ | refine blk_drew ?_ | refine blk_alloc ?_ _)); exact BK107.out) hb); have n1_ := Aside0.mk (blk_below (g := gb108) (o := .cells #[.int .i64 a1_0, .int .i64 a1_1] 23 (0, 0)) (by (with_reducible repeat (first | refine blk_drewN ?_ _ | refine blk_drew ?_ | refine blk_alloc ?_ _)); exact BK108.out) hb); have n2_ := Aside0.mk (below_step (by repeat (first | (with_reducible first | exact HB.out | apply below_alloc | apply pw_below_drewN | apply below_drew1 | refine below_set ?_ GE107.out | refine below_set ?_ GE108.out) | exact HB.out)) hb); have n3_ := Aside0.mk (hbox); have n4_ := Aside0.mk ((by rw [hg]; exact (below_size (by repeat (first | (with_reducible first | exact HB.out | apply below_alloc | apply pw_below_drewN | apply below_drew1 | refine below_set ?_ GE107.out | refine below_set ?_ GE108.out) | exact HB.out))) : w.heap.size ≤ gb109)); have n5_ := Aside0.mk ((by rw [hg]; exact (below_size (by repeat (first | (with_reducible first | exact HB.out | apply below_alloc | apply pw_below_drewN | apply below_drew1 | refine below_set ?_ GE107.out | refine below_set ?_ GE108.out) | exact HB.out))) : w.heap.size ≤ gb109)); have n6_ := Aside0.mk ((by rw [hg]; exact Nat.ne_of_lt (blk_lt (g := gb107) (o := .cells #[.int .i64 a0_0, .int .i64 a0_1] 23 (0, 0)) (by (with_reducible repeat (first | refine blk_drewN ?_ _ | refine blk_drew ?_ | refine blk_alloc ?_ _)); exact BK107.out)) : gb107 ≠ gb109)); have n7_ := Aside0.mk ((by rw [hg]; exact Nat.ne_of_gt (blk_lt (g := gb107) (o := .cells #[.int .i64 a0_0, .int .i64 a0_1] 23 (0, 0)) (by (with_reducible repeat (first | refine blk_drewN ?_ _ | refine blk_drew ?_ | refine blk_alloc ?_ _)); exact BK107.out)) : gb109 ≠ gb107)); have n8_ := Aside0.mk ((by rw [hg]; exact Nat.ne_of_lt (blk_lt (g := gb108) (o := .cells #[.int .i64 a1_0, .int .i64 a1_1] 23 (0, 0)) (by (with_reducible repeat (first | refine blk_drewN ?_ _ | refine blk_drew ?_ | refine blk_alloc ?_ _)); exact BK108.out)) : gb108 ≠ gb109)); have n9_ := Aside0.mk ((by rw [hg]; exact Nat.ne_of_gt (blk_lt (g := gb108) (o := .cells #[.int .i64 a1_0, .int .i64 a1_1] 23 (0, 0)) (by (with_reducible repeat (first | refine blk_drewN ?_ _ | refine blk_drew ?_ | refine blk_alloc ?_ _)); exact BK108.out)) : gb109 ≠ gb108)); clear BK107; clear BK108; clear HB; have BK107 := n0_; have BK108 := n1_; have HB := n2_; have BK109 := n3_; have GW109 := n4_; have GE109 := n5_; have NB107_109 := n6_; have NB109_107 := n7_; have NB108_109 := n8_; have NB109_108 := n9_; clear n0_ n1_ n2_ n3_ n4_ n5_ n6_ n7_ n8_ n9_; clear hb hbox hg; have hnb28 := NB107_108.out; have hnc28 := NB108_107.out; have hnb29 := NB107_109.out; have hnc29 := NB109_107.out; have hcz30_0 : w27.cell? ⟨gb107, 0, none⟩ = some (.int .i64 a0_0) := (blk_cell BK107.out 0).trans rfl; have hcz30_1 : w27.cell? ⟨gb107, 1, none⟩ = some (.int .i64 a0_1) := (blk_cell BK107.out 1).trans rfl; have hfz30_0 := blk_frozen BK107.out 0; have hfz30_1 := blk_frozen BK107.out 1; have hnb31 := NB108_109.out; have hnc31 := NB109_108.out; have hcz32_0 : w27.cell? ⟨gb108, 0, none⟩ = some (.int .i64 a1_0) := (blk_cell BK108.out 0).trans rfl; have hcz32_1 : w27.cell? ⟨gb108, 1, none⟩ = some (.int .i64 a1_1) := (blk_cell BK108.out 1).trans rfl; have hfz32_0 := blk_frozen BK108.out 0; have hfz32_1 := blk_frozen BK108.out 1; have hcz33_0 : w27.cell? ⟨gb109, 0, none⟩ = some (.int .i64 a2_0) := (blk_cell BK109.out 0).trans rfl; have hcz33_1 : w27.cell? ⟨gb109, 1, none⟩ = some (.int .i64 a2_1) := (blk_cell BK109.out 1).trans rfl; have hfz33_0 := blk_frozen BK109.out 0; have hfz33_1 := blk_frozen BK109.out 1) | ((with_reducible refine gate_dst (N := 10) rfl ?_); refine Kd.R_lit k23 _ 23 ?hg (N := 10) ?hd (xs := ([(⟨a0_0, a0_1⟩ : S23), (⟨a1_0, a1_1⟩ : S23), (⟨a2_0, a2_1⟩ : S23)] : List (S23))) (inner := [.int .i64 a0_0, .int .i64 a0_1, .int .i64 a1_0, .int .i64 a1_1, .int .i64 a2_0, .int .i64 a2_1]) (ok := fun _ => True) (okp := fun _ => True) ?hr ?hp (fun _ hk => hk) trivial (Below.refl _ _) (Nat.le_refl _) (by simp) ?_; (case hd => rfl); (case hg => rfl); (case hr => first | (go_simp; done) | (go_simp; rfl)); (case hp => exact (Reps.c2 (show Kd.M k23 _ _ _ (⟨a0_0, a0_1⟩ : S23) [.int .i64 a0_0, .int .i64 a0_1] from (k23_mkM _ _ _ (⟨a0_0, a0_1⟩ : S23) )) (Reps.c2 (show Kd.M k23 _ _ _ (⟨a1_0, a1_1⟩ : S23) [.int .i64 a1_0, .int .i64 a1_1] from (k23_mkM _ _ _ (⟨a1_0, a1_1⟩ : S23) )) (Reps.c2 (show Kd.M k23 _ _ _ (⟨a2_0, a2_1⟩ : S23) [.int .i64 a2_0, .int .i64 a2_1] from (k23_mkM _ _ _ (⟨a2_0, a2_1⟩ : S23) )) (Reps.none _ _))))); intro v111 w34 ho35 hb hg_ hnew_; clear hg_ hnew_; (first | rw [← Ny110.out] at ho35 | (simp only [Int.reduceToNat] at ho35; rw [← Ny110.out] at ho35)); have n0_ := Aside0.mk (Kd.R_lower (Kd.R_newB (Kd.R_newB (Kd.R_newB ho35 (g := gb107) (o := .cells #[.int .i64 a0_0, .int .i64 a0_1] 23 (0, 0)) (by (with_reducible repeat (first | refine blk_drewN ?_ _ | refine blk_drew ?_ | refine blk_alloc ?_ _)); exact BK107.out)) (g := gb108) (o := .cells #[.int .i64 a1_0, .int .i64 a1_1] 23 (0, 0)) (by (with_reducible repeat (first | refine blk_drewN ?_ _ | refine blk_drew ?_ | refine blk_alloc ?_ _)); exact BK108.out)) (g := gb109) (o := .cells #[.int .i64 a2_0, .int .i64 a2_1] 23 (0, 0)) (by (with_reducible repeat (first | refine blk_drewN ?_ _ | refine blk_drew ?_ | refine blk_alloc ?_ _)); exact BK109.out)) (below_size (by repeat (first | (with_reducible first | exact HB.out | apply below_alloc | apply pw_below_drewN | apply below_drew1 | refine below_set ?_ GE107.out | refine below_set ?_ GE108.out | refine below_set ?_ GE109.out) | exact HB.out)))); have n1_ := Aside0.mk (blk_below (g := gb107) (o := .cells #[.int .i64 a0_0, .int .i64 a0_1] 23 (0, 0)) (by (with_reducible repeat (first | refine blk_drewN ?_ _ | refine blk_drew ?_ | refine blk_alloc ?_ _)); exact BK107.out) hb); have n2_ := Aside0.mk (blk_below (g := gb108) (o := .cells #[.int .i64 a1_0, .int .i64 a1_1] 23 (0, 0)) (by (with_reducible repeat (first | refine blk_drewN ?_ _ | refine blk_drew ?_ | refine blk_alloc ?_ _)); exact BK108.out) hb); have n3_ := Aside0.mk (blk_below (g := gb109) (o := .cells #[.int .i64 a2_0, .int .i64 a2_1] 23 (0, 0)) (by (with_reducible repeat (first | refine blk_drewN ?_ _ | refine blk_drew ?_ | refine blk_alloc ?_ _)); exact BK109.out) hb); have n4_ := Aside0.mk (below_step (by repeat (first | (with_reducible first | exact HB.out | apply below_alloc | apply pw_below_drewN | apply below_drew1 | refine below_set ?_ GE107.out | refine below_set ?_ GE108.out | refine below_set ?_ GE109.out) | exact HB.out)) hb); clear BK107; clear BK108; clear BK109; clear HB; have HO112 := n0_; have BK107 := n1_; have BK108 := n2_; have BK109 := n3_; have HB := n4_; clear n0_ n1_ n2_ n3_ n4_; clear hb ho35; obtain ⟨Ao36, co36, eo36⟩ := Kd.R_slice HO112.out; subst eo36) | ((with_reducible refine gate_callee (f := 78) rfl ?_); refine goesL_ (some 11) rfl rfl Try.func78 (by kernel_rfl) rfl #[.slice Ao36 y110.length co36] rfl (by (try simp only [List.map_toArray, List.map_cons, List.map_nil]); first | done | rfl | (simp only [List.length_drop, List.length_take]; rfl)) ?_; (with_reducible refine (plane_valid.calls _ _ y110 false _ ?side1 ?side2 A4.out).mono ?_); (case side1 => repeat (first | exact (Kd.R_reads' HO112.out).2.2 | (with_reducible refine Kd.C_alloc ?_ _) | (with_reducible refine Kd.C_drewN ?_ _) | (with_reducible refine Kd.C_drew ?_))); (case side2 => exact (Kd.R_reads' HO112.out).2.1); rintro e w37 ⟨rfl, hb⟩; refine ⟨_, rfl, ?_⟩; have n0_ := Aside0.mk (Kd.R_below (by (with_reducible repeat (first | apply Kd.R_alloc | apply Kd.R_drewN | apply Kd.R_drew)); exact HO112.out) hb); have n1_ := Aside0.mk (blk_below (g := gb107) (o := .cells #[.int .i64 a0_0, .int .i64 a0_1] 23 (0, 0)) (by (with_reducible repeat (first | refine blk_drewN ?_ _ | refine blk_drew ?_ | refine blk_alloc ?_ _)); exact BK107.out) hb); have n2_ := Aside0.mk (blk_below (g := gb108) (o := .cells #[.int .i64 a1_0, .int .i64 a1_1] 23 (0, 0)) (by (with_reducible repeat (first | refine blk_drewN ?_ _ | refine blk_drew ?_ | refine blk_alloc ?_ _)); exact BK108.out) hb); have n3_ := Aside0.mk (blk_below (g := gb109) (o := .cells #[.int .i64 a2_0, .int .i64 a2_1] 23 (0, 0)) (by (with_reducible repeat (first | refine blk_drewN ?_ _ | refine blk_drew ?_ | refine blk_alloc ?_ _)); exact BK109.out) hb); have n4_ := Aside0.mk (below_step (by repeat (first | (with_reducible first | exact HB.out | apply below_alloc | apply pw_below_drewN | apply below_drew1 | refine below_set ?_ GE107.out | refine below_set ?_ GE108.out | refine below_set ?_ GE109.out) | exact HB.out)) hb); clear HO112; clear BK107; clear BK108; clear BK109; clear HB; have HO112 := n0_; have BK107 := n1_; have BK108 := n2_; have BK109 := n3_; have HB := n4_; clear n0_ n1_ n2_ n3_ n4_; (try clear hb); (try clear hb2); (try clear hk); (try clear hi)))
    go_ret
    exact ⟨by first | rfl | (simp [errW_none, errW_some] <;> rfl) | (simp [*, errW_none, errW_some] <;> rfl), by repeat (first | (with_reducible first | exact HB.out | apply below_alloc | apply pw_below_drewN | apply below_drew1 | refine below_set ?_ GE107.out | refine below_set ?_ GE108.out | refine below_set ?_ GE109.out) | exact HB.out)⟩
end Go.Proofs.Ytckaejgamfllfaa.G
end

section
namespace Go.Proofs.Ytckaejgamfllfaa.G
open Go.RowKit Go.Proofs.YtckaejgamfllfaaW.PrintWords Go.Proofs.YtckaejgamfllfaaW.PrintLast Go.Proofs.YtckaejgamfllfaaW.PrintMore
attribute [local go_sem] max2_int min2_int max_two min_two max_three min_three max_four min_four
set_option linter.unusedVariables false
set_option linter.unusedSimpArgs false
def plane_dist.f (a0_0 : Int) (a0_1 : Int) (a1_0 : Int) (a1_1 : Int) : Option (Int) := some (wrap64 ((wrap64 ((wrap64 (a0_0 - a1_0)) * (wrap64 (a0_0 - a1_0)))) + (wrap64 ((wrap64 (a0_1 - a1_1)) * (wrap64 (a0_1 - a1_1))))))
set_option maxHeartbeats 8000000 in
set_option maxRecDepth 100000 in
theorem plane_dist.calls (a0_0 : Int) (a0_1 : Int) (a1_0 : Int) (a1_1 : Int) (r : Int) (w : World) (h : plane_dist.f a0_0 a0_1 a1_0 a1_1 = some r) :
    Calls Try.prog 84 #[.agg #[.int .i64 a0_0, .int .i64 a0_1], .agg #[.int .i64 a1_0, .int .i64 a1_1]] w fun e w' => e = .returned (.int .i64 r) ∧ Below w.heap.size w w' := by
  have hu23 := Try.underlying23
  have HB := Aside0.mk (Below.refl w.heap.size w)
  have H : (some (wrap64 ((wrap64 ((wrap64 (a0_0 - a1_0)) * (wrap64 (a0_0 - a1_0)))) + (wrap64 ((wrap64 (a0_1 - a1_1)) * (wrap64 (a0_1 - a1_1))))))) = some r := h
  clear h
  obtain rfl := Option.some.inj H
  go_enter Try.func84, Try.ntmps84
  go_wp2_with (first | ((with_reducible refine gate_dst (N := 2) rfl ?_); refine box_event ?hg (N := 2) ?hd (cs := #[.int .i64 a0_0, .int .i64 a0_1]) (t := 23) ?hr ?_; (case hd => rfl); (case hg => rfl); (case hr => first | (go_simp; done) | (go_simp; rfl)); intro gb116 hg w3 hbox hb; have n0_ := Aside0.mk (below_step (by repeat (first | (with_reducible first | exact HB.out | apply below_alloc | apply pw_below_drewN | apply below_drew1) | exact HB.out)) hb); have n1_ := Aside0.mk (hbox); have n2_ := Aside0.mk ((by rw [hg]; exact (below_size (by repeat (first | (with_reducible first | exact HB.out | apply below_alloc | apply pw_below_drewN | apply below_drew1) | exact HB.out))) : w.heap.size ≤ gb116)); have n3_ := Aside0.mk ((by rw [hg]; exact (below_size (by repeat (first | (with_reducible first | exact HB.out | apply below_alloc | apply pw_below_drewN | apply below_drew1) | exact HB.out))) : w.heap.size ≤ gb116)); clear HB; have HB := n0_; have BK116 := n1_; have GW116 := n2_; have GE116 := n3_; clear n0_ n1_ n2_ n3_; clear hb hbox hg) | ((with_reducible refine gate_dst (N := 3) rfl ?_); refine box_event ?hg (N := 3) ?hd (cs := #[.int .i64 a1_0, .int .i64 a1_1]) (t := 23) ?hr ?_; (case hd => rfl); (case hg => rfl); (case hr => first | (go_simp; done) | (go_simp; rfl)); intro gb117 hg w4 hbox hb; have n0_ := Aside0.mk (blk_below (g := gb116) (o := .cells #[.int .i64 a0_0, .int .i64 a0_1] 23 (0, 0)) (by (with_reducible repeat (first | refine blk_drewN ?_ _ | refine blk_drew ?_ | refine blk_alloc ?_ _)); exact BK116.out) hb); have n1_ := Aside0.mk (below_step (by repeat (first | (with_reducible first | exact HB.out | apply below_alloc | apply pw_below_drewN | apply below_drew1 | refine below_set ?_ GE116.out) | exact HB.out)) hb); have n2_ := Aside0.mk (hbox); have n3_ := Aside0.mk ((by rw [hg]; exact (below_size (by repeat (first | (with_reducible first | exact HB.out | apply below_alloc | apply pw_below_drewN | apply below_drew1 | refine below_set ?_ GE116.out) | exact HB.out))) : w.heap.size ≤ gb117)); have n4_ := Aside0.mk ((by rw [hg]; exact (below_size (by repeat (first | (with_reducible first | exact HB.out | apply below_alloc | apply pw_below_drewN | apply below_drew1 | refine below_set ?_ GE116.out) | exact HB.out))) : w.heap.size ≤ gb117)); have n5_ := Aside0.mk ((by rw [hg]; exact Nat.ne_of_lt (blk_lt (g := gb116) (o := .cells #[.int .i64 a0_0, .int .i64 a0_1] 23 (0, 0)) (by (with_reducible repeat (first | refine blk_drewN ?_ _ | refine blk_drew ?_ | refine blk_alloc ?_ _)); exact BK116.out)) : gb116 ≠ gb117)); have n6_ := Aside0.mk ((by rw [hg]; exact Nat.ne_of_gt (blk_lt (g := gb116) (o := .cells #[.int .i64 a0_0, .int .i64 a0_1] 23 (0, 0)) (by (with_reducible repeat (first | refine blk_drewN ?_ _ | refine blk_drew ?_ | refine blk_alloc ?_ _)); exact BK116.out)) : gb117 ≠ gb116)); clear BK116; clear HB; have BK116 := n0_; have HB := n1_; have BK117 := n2_; have GW117 := n3_; have GE117 := n4_; have NB116_117 := n5_; have NB117_116 := n6_; clear n0_ n1_ n2_ n3_ n4_ n5_ n6_; clear hb hbox hg; have hnb5 := NB116_117.out; have hnc5 := NB117_116.out; have hcz6_0 : w4.cell? ⟨gb116, 0, none⟩ = some (.int .i64 a0_0) := (blk_cell BK116.out 0).trans rfl; have hcz6_1 : w4.cell? ⟨gb116, 1, none⟩ = some (.int .i64 a0_1) := (blk_cell BK116.out 1).trans rfl; have hfz6_0 := blk_frozen BK116.out 0; have hfz6_1 := blk_frozen BK116.out 1; have hcz7_0 : w4.cell? ⟨gb117, 0, none⟩ = some (.int .i64 a1_0) := (blk_cell BK117.out 0).trans rfl; have hcz7_1 : w4.cell? ⟨gb117, 1, none⟩ = some (.int .i64 a1_1) := (blk_cell BK117.out 1).trans rfl; have hfz7_0 := blk_frozen BK117.out 0; have hfz7_1 := blk_frozen BK117.out 1))
  go_ret
  exact ⟨by first | rfl | (simp [errW_none, errW_some] <;> rfl) | (simp [*, errW_none, errW_some] <;> rfl), by repeat (first | (with_reducible first | exact HB.out | apply below_alloc | apply pw_below_drewN | apply below_drew1 | refine below_set ?_ GE116.out | refine below_set ?_ GE117.out) | exact HB.out)⟩
end Go.Proofs.Ytckaejgamfllfaa.G
end

section
namespace Go.Proofs.Ytckaejgamfllfaa.G
open Go.RowKit Go.Proofs.YtckaejgamfllfaaW.PrintWords Go.Proofs.YtckaejgamfllfaaW.PrintLast Go.Proofs.YtckaejgamfllfaaW.PrintMore
attribute [local go_sem] max2_int min2_int max_two min_two max_three min_three max_four min_four
set_option linter.unusedVariables false
set_option linter.unusedSimpArgs false
def plane_Dist.f (a0_0 : Int) (a0_1 : Int) (a1_0 : Int) (a1_1 : Int) : Option (Int) := (plane_valid.f (([(⟨a0_0, a0_1⟩ : S23), (⟨a1_0, a1_1⟩ : S23)] : List (S23)))).bind fun t123 => (if t123 = true then ((plane_dist.f a0_0 a0_1 a1_0 a1_1).bind fun t124 => (some t124)) else (some (-1)))
set_option maxHeartbeats 8000000 in
set_option maxRecDepth 100000 in
theorem plane_Dist.calls (a0_0 : Int) (a0_1 : Int) (a1_0 : Int) (a1_1 : Int) (r : Int) (w : World) (h : plane_Dist.f a0_0 a0_1 a1_0 a1_1 = some r) :
    Calls Try.prog 21 #[.agg #[.int .i64 a0_0, .int .i64 a0_1], .agg #[.int .i64 a1_0, .int .i64 a1_1]] w fun e w' => e = .returned (.int .i64 r) ∧ Below w.heap.size w w' := by
  have hu23 := Try.underlying23
  have HB := Aside0.mk (Below.refl w.heap.size w)
  have H : ((plane_valid.f (([(⟨a0_0, a0_1⟩ : S23), (⟨a1_0, a1_1⟩ : S23)] : List (S23)))).bind fun t123 => (if t123 = true then ((plane_dist.f a0_0 a0_1 a1_0 a1_1).bind fun t124 => (some t124)) else (some (-1)))) = some r := h
  clear h
  obtain ⟨y120, hy120⟩ : ∃ y_ : List (S23), y_ = (([(⟨a0_0, a0_1⟩ : S23), (⟨a1_0, a1_1⟩ : S23)] : List (S23))) := ⟨_, rfl⟩
  replace H : ((plane_valid.f y120).bind fun t123 => (if t123 = true then ((plane_dist.f a0_0 a0_1 a1_0 a1_1).bind fun t124 => (some t124)) else (some (-1)))) = some r := by first | (rw [hy120]; with_reducible exact H) | (have H2_ := (Option.bind_some _ _).symm.trans H; rw [hy120]; with_reducible exact H2_) | (have H2_ := (Option.bind_some _ _).symm.trans H; with_reducible exact H2_) | with_reducible exact H | (rw [hy120]; exact H) | exact H
  have Ny120 := Aside0.mk hy120
  clear hy120
  replace H := Option.bind_eq_some_iff.mp H
  obtain ⟨t123, A30, H⟩ := H
  replace H : (if t123 = true then ((plane_dist.f a0_0 a0_1 a1_0 a1_1).bind fun t124 => (some t124)) else (some (-1))) = some r := H
  have A3 := Aside0.mk A30
  clear A30
  by_cases c4 : t123 = true
  · subst c4
    have H1 : ((plane_dist.f a0_0 a0_1 a1_0 a1_1).bind fun t124 => (some t124)) = some r := by rw [if_pos rfl] at H; exact H
    clear H
    have H := H1
    clear H1
    replace H := Option.bind_eq_some_iff.mp H
    obtain ⟨t124, A50, H⟩ := H
    replace H : (some t124) = some r := H
    have A5 := Aside0.mk A50
    clear A50
    obtain rfl := Option.some.inj H
    go_enter Try.func21, Try.ntmps21
    go_wp2_with (first | ((with_reducible refine gate_dst (N := 2) rfl ?_); refine box_event ?hg (N := 2) ?hd (cs := #[.int .i64 a0_0, .int .i64 a0_1]) (t := 23) ?hr ?_; (case hd => rfl); (case hg => rfl); (case hr => first | (go_simp; done) | (go_simp; rfl)); intro gb118 hg w6 hbox hb; have n0_ := Aside0.mk (below_step (by repeat (first | (with_reducible first | exact HB.out | apply below_alloc | apply pw_below_drewN | apply below_drew1) | exact HB.out)) hb); have n1_ := Aside0.mk (hbox); have n2_ := Aside0.mk ((by rw [hg]; exact (below_size (by repeat (first | (with_reducible first | exact HB.out | apply below_alloc | apply pw_below_drewN | apply below_drew1) | exact HB.out))) : w.heap.size ≤ gb118)); have n3_ := Aside0.mk ((by rw [hg]; exact (below_size (by repeat (first | (with_reducible first | exact HB.out | apply below_alloc | apply pw_below_drewN | apply below_drew1) | exact HB.out))) : w.heap.size ≤ gb118)); clear HB; have HB := n0_; have BK118 := n1_; have GW118 := n2_; have GE118 := n3_; clear n0_ n1_ n2_ n3_; clear hb hbox hg) | ((with_reducible refine gate_dst (N := 3) rfl ?_); refine box_event ?hg (N := 3) ?hd (cs := #[.int .i64 a1_0, .int .i64 a1_1]) (t := 23) ?hr ?_; (case hd => rfl); (case hg => rfl); (case hr => first | (go_simp; done) | (go_simp; rfl)); intro gb119 hg w7 hbox hb; have n0_ := Aside0.mk (blk_below (g := gb118) (o := .cells #[.int .i64 a0_0, .int .i64 a0_1] 23 (0, 0)) (by (with_reducible repeat (first | refine blk_drewN ?_ _ | refine blk_drew ?_ | refine blk_alloc ?_ _)); exact BK118.out) hb); have n1_ := Aside0.mk (below_step (by repeat (first | (with_reducible first | exact HB.out | apply below_alloc | apply pw_below_drewN | apply below_drew1 | refine below_set ?_ GE118.out) | exact HB.out)) hb); have n2_ := Aside0.mk (hbox); have n3_ := Aside0.mk ((by rw [hg]; exact (below_size (by repeat (first | (with_reducible first | exact HB.out | apply below_alloc | apply pw_below_drewN | apply below_drew1 | refine below_set ?_ GE118.out) | exact HB.out))) : w.heap.size ≤ gb119)); have n4_ := Aside0.mk ((by rw [hg]; exact (below_size (by repeat (first | (with_reducible first | exact HB.out | apply below_alloc | apply pw_below_drewN | apply below_drew1 | refine below_set ?_ GE118.out) | exact HB.out))) : w.heap.size ≤ gb119)); have n5_ := Aside0.mk ((by rw [hg]; exact Nat.ne_of_lt (blk_lt (g := gb118) (o := .cells #[.int .i64 a0_0, .int .i64 a0_1] 23 (0, 0)) (by (with_reducible repeat (first | refine blk_drewN ?_ _ | refine blk_drew ?_ | refine blk_alloc ?_ _)); exact BK118.out)) : gb118 ≠ gb119)); have n6_ := Aside0.mk ((by rw [hg]; exact Nat.ne_of_gt (blk_lt (g := gb118) (o := .cells #[.int .i64 a0_0, .int .i64 a0_1] 23 (0, 0)) (by (with_reducible repeat (first | refine blk_drewN ?_ _ | refine blk_drew ?_ | refine blk_alloc ?_ _)); exact BK118.out)) : gb119 ≠ gb118)); clear BK118; clear HB; have BK118 := n0_; have HB := n1_; have BK119 := n2_; have GW119 := n3_; have GE119 := n4_; have NB118_119 := n5_; have NB119_118 := n6_; clear n0_ n1_ n2_ n3_ n4_ n5_ n6_; clear hb hbox hg; have hnb8 := NB118_119.out; have hnc8 := NB119_118.out; have hcz9_0 : w7.cell? ⟨gb118, 0, none⟩ = some (.int .i64 a0_0) := (blk_cell BK118.out 0).trans rfl; have hcz9_1 : w7.cell? ⟨gb118, 1, none⟩ = some (.int .i64 a0_1) := (blk_cell BK118.out 1).trans rfl; have hfz9_0 := blk_frozen BK118.out 0; have hfz9_1 := blk_frozen BK118.out 1; have hcz10_0 : w7.cell? ⟨gb119, 0, none⟩ = some (.int .i64 a1_0) := (blk_cell BK119.out 0).trans rfl; have hcz10_1 : w7.cell? ⟨gb119, 1, none⟩ = some (.int .i64 a1_1) := (blk_cell BK119.out 1).trans rfl; have hfz10_0 := blk_frozen BK119.out 0; have hfz10_1 := blk_frozen BK119.out 1) | ((with_reducible refine gate_dst (N := 7) rfl ?_); refine Kd.R_lit k23 _ 23 ?hg (N := 7) ?hd (xs := ([(⟨a0_0, a0_1⟩ : S23), (⟨a1_0, a1_1⟩ : S23)] : List (S23))) (inner := [.int .i64 a0_0, .int .i64 a0_1, .int .i64 a1_0, .int .i64 a1_1]) (ok := fun _ => True) (okp := fun _ => True) ?hr ?hp (fun _ hk => hk) trivial (Below.refl _ _) (Nat.le_refl _) (by simp) ?_; (case hd => rfl); (case hg => rfl); (case hr => first | (go_simp; done) | (go_simp; rfl)); (case hp => exact (Reps.c2 (show Kd.M k23 _ _ _ (⟨a0_0, a0_1⟩ : S23) [.int .i64 a0_0, .int .i64 a0_1] from (k23_mkM _ _ _ (⟨a0_0, a0_1⟩ : S23) )) (Reps.c2 (show Kd.M k23 _ _ _ (⟨a1_0, a1_1⟩ : S23) [.int .i64 a1_0, .int .i64 a1_1] from (k23_mkM _ _ _ (⟨a1_0, a1_1⟩ : S23) )) (Reps.none _ _)))); intro v121 w11 ho12 hb hg_ hnew_; clear hg_ hnew_; (first | rw [← Ny120.out] at ho12 | (simp only [Int.reduceToNat] at ho12; rw [← Ny120.out] at ho12)); have n0_ := Aside0.mk (Kd.R_lower (Kd.R_newB (Kd.R_newB ho12 (g := gb118) (o := .cells #[.int .i64 a0_0, .int .i64 a0_1] 23 (0, 0)) (by (with_reducible repeat (first | refine blk_drewN ?_ _ | refine blk_drew ?_ | refine blk_alloc ?_ _)); exact BK118.out)) (g := gb119) (o := .cells #[.int .i64 a1_0, .int .i64 a1_1] 23 (0, 0)) (by (with_reducible repeat (first | refine blk_drewN ?_ _ | refine blk_drew ?_ | refine blk_alloc ?_ _)); exact BK119.out)) (below_size (by repeat (first | (with_reducible first | exact HB.out | apply below_alloc | apply pw_below_drewN | apply below_drew1 | refine below_set ?_ GE118.out | refine below_set ?_ GE119.out) | exact HB.out)))); have n1_ := Aside0.mk (blk_below (g := gb118) (o := .cells #[.int .i64 a0_0, .int .i64 a0_1] 23 (0, 0)) (by (with_reducible repeat (first | refine blk_drewN ?_ _ | refine blk_drew ?_ | refine blk_alloc ?_ _)); exact BK118.out) hb); have n2_ := Aside0.mk (blk_below (g := gb119) (o := .cells #[.int .i64 a1_0, .int .i64 a1_1] 23 (0, 0)) (by (with_reducible repeat (first | refine blk_drewN ?_ _ | refine blk_drew ?_ | refine blk_alloc ?_ _)); exact BK119.out) hb); have n3_ := Aside0.mk (below_step (by repeat (first | (with_reducible first | exact HB.out | apply below_alloc | apply pw_below_drewN | apply below_drew1 | refine below_set ?_ GE118.out | refine below_set ?_ GE119.out) | exact HB.out)) hb); clear BK118; clear BK119; clear HB; have HO122 := n0_; have BK118 := n1_; have BK119 := n2_; have HB := n3_; clear n0_ n1_ n2_ n3_; clear hb ho12; obtain ⟨Ao13, co13, eo13⟩ := Kd.R_slice HO122.out; subst eo13) | ((with_reducible refine gate_callee (f := 78) rfl ?_); refine goesL_ (some 8) rfl rfl Try.func78 (by kernel_rfl) rfl #[.slice Ao13 y120.length co13] rfl (by (try simp only [List.map_toArray, List.map_cons, List.map_nil]); first | done | rfl | (simp only [List.length_drop, List.length_take]; rfl)) ?_; (with_reducible refine (plane_valid.calls _ _ y120 true _ ?side1 ?side2 A3.out).mono ?_); (case side1 => repeat (first | exact (Kd.R_reads' HO122.out).2.2 | (with_reducible refine Kd.C_alloc ?_ _) | (with_reducible refine Kd.C_drewN ?_ _) | (with_reducible refine Kd.C_drew ?_))); (case side2 => exact (Kd.R_reads' HO122.out).2.1); rintro e w14 ⟨rfl, hb⟩; refine ⟨_, rfl, ?_⟩; have n0_ := Aside0.mk (Kd.R_below (by (with_reducible repeat (first | apply Kd.R_alloc | apply Kd.R_drewN | apply Kd.R_drew)); exact HO122.out) hb); have n1_ := Aside0.mk (blk_below (g := gb118) (o := .cells #[.int .i64 a0_0, .int .i64 a0_1] 23 (0, 0)) (by (with_reducible repeat (first | refine blk_drewN ?_ _ | refine blk_drew ?_ | refine blk_alloc ?_ _)); exact BK118.out) hb); have n2_ := Aside0.mk (blk_below (g := gb119) (o := .cells #[.int .i64 a1_0, .int .i64 a1_1] 23 (0, 0)) (by (with_reducible repeat (first | refine blk_drewN ?_ _ | refine blk_drew ?_ | refine blk_alloc ?_ _)); exact BK119.out) hb); have n3_ := Aside0.mk (below_step (by repeat (first | (with_reducible first | exact HB.out | apply below_alloc | apply pw_below_drewN | apply below_drew1 | refine below_set ?_ GE118.out | refine below_set ?_ GE119.out) | exact HB.out)) hb); clear HO122; clear BK118; clear BK119; clear HB; have HO122 := n0_; have BK118 := n1_; have BK119 := n2_; have HB := n3_; clear n0_ n1_ n2_ n3_; (try clear hb); (try clear hb2); (try clear hk); (try clear hi); have hcz15_0 : w14.cell? ⟨gb118, 0, none⟩ = some (.int .i64 a0_0) := (blk_cell BK118.out 0).trans rfl; have hcz15_1 : w14.cell? ⟨gb118, 1, none⟩ = some (.int .i64 a0_1) := (blk_cell BK118.out 1).trans rfl; have hfz15_0 := blk_frozen BK118.out 0; have hfz15_1 := blk_frozen BK118.out 1; have hcz16_0 : w14.cell? ⟨gb119, 0, none⟩ = some (.int .i64 a1_0) := (blk_cell BK119.out 0).trans rfl; have hcz16_1 : w14.cell? ⟨gb119, 1, none⟩ = some (.int .i64 a1_1) := (blk_cell BK119.out 1).trans rfl; have hfz16_0 := blk_frozen BK119.out 0; have hfz16_1 := blk_frozen BK119.out 1) | ((with_reducible refine gate_callee (f := 84) rfl ?_); refine goesL_ (some 12) rfl rfl Try.func84 (by kernel_rfl) rfl #[.agg #[.int .i64 a0_0, .int .i64 a0_1], .agg #[.int .i64 a1_0, .int .i64 a1_1]] rfl (by (try simp only [List.map_toArray, List.map_cons, List.map_nil]); first | done | rfl | (simp only [List.length_drop, List.length_take]; rfl)) ?_; (with_reducible refine (plane_dist.calls a0_0 a0_1 a1_0 a1_1 t124 _ A5.out).mono ?_); rintro e w17 ⟨rfl, hb⟩; refine ⟨_, rfl, ?_⟩; have n0_ := Aside0.mk (Kd.R_below (by (with_reducible repeat (first | apply Kd.R_alloc | apply Kd.R_drewN | apply Kd.R_drew)); exact HO122.out) hb); have n1_ := Aside0.mk (blk_below (g := gb118) (o := .cells #[.int .i64 a0_0, .int .i64 a0_1] 23 (0, 0)) (by (with_reducible repeat (first | refine blk_drewN ?_ _ | refine blk_drew ?_ | refine blk_alloc ?_ _)); exact BK118.out) hb); have n2_ := Aside0.mk (blk_below (g := gb119) (o := .cells #[.int .i64 a1_0, .int .i64 a1_1] 23 (0, 0)) (by (with_reducible repeat (first | refine blk_drewN ?_ _ | refine blk_drew ?_ | refine blk_alloc ?_ _)); exact BK119.out) hb); have n3_ := Aside0.mk (below_step (by repeat (first | (with_reducible first | exact HB.out | apply below_alloc | apply pw_below_drewN | apply below_drew1 | refine below_set ?_ GE118.out | refine below_set ?_ GE119.out) | exact HB.out)) hb); clear HO122; clear BK118; clear BK119; clear HB; have HO122 := n0_; have BK118 := n1_; have BK119 := n2_; have HB := n3_; clear n0_ n1_ n2_ n3_; (try clear hb); (try clear hb2); (try clear hk); (try clear hi)))
    go_ret
    exact ⟨by first | rfl | (simp [errW_none, errW_some] <;> rfl) | (simp [*, errW_none, errW_some] <;> rfl), by repeat (first | (with_reducible first | exact HB.out | apply below_alloc | apply pw_below_drewN | apply below_drew1 | refine below_set ?_ GE118.out | refine below_set ?_ GE119.out) | exact HB.out)⟩
  · replace c4 := Bool.eq_false_iff.mpr c4
    subst c4
    have H1 : (some (-1)) = some r := by rw [if_neg (show ¬ (false = true) by decide)] at H; exact H
    clear H
    have H := H1
    clear H1
    obtain rfl := Option.some.inj H
    go_enter Try.func21, Try.ntmps21
    go_wp2_with (first | ((with_reducible refine gate_dst (N := 2) rfl ?_); refine box_event ?hg (N := 2) ?hd (cs := #[.int .i64 a0_0, .int .i64 a0_1]) (t := 23) ?hr ?_; (case hd => rfl); (case hg => rfl); (case hr => first | (go_simp; done) | (go_simp; rfl)); intro gb118 hg w18 hbox hb; have n0_ := Aside0.mk (below_step (by repeat (first | (with_reducible first | exact HB.out | apply below_alloc | apply pw_below_drewN | apply below_drew1) | exact HB.out)) hb); have n1_ := Aside0.mk (hbox); have n2_ := Aside0.mk ((by rw [hg]; exact (below_size (by repeat (first | (with_reducible first | exact HB.out | apply below_alloc | apply pw_below_drewN | apply below_drew1) | exact HB.out))) : w.heap.size ≤ gb118)); have n3_ := Aside0.mk ((by rw [hg]; exact (below_size (by repeat (first | (with_reducible first | exact HB.out | apply below_alloc | apply pw_below_drewN | apply below_drew1) | exact HB.out))) : w.heap.size ≤ gb118)); clear HB; have HB := n0_; have BK118 := n1_; have GW118 := n2_; have GE118 := n3_; clear n0_ n1_ n2_ n3_; clear hb hbox hg) | ((with_reducible refine gate_dst (N := 3) rfl ?_); refine box_event ?hg (N := 3) ?hd (cs := #[.int .i64 a1_0, .int .i64 a1_1]) (t := 23) ?hr ?_; (case hd => rfl); (case hg => rfl); (case hr => first | (go_simp; done) | (go_simp; rfl)); intro gb119 hg w19 hbox hb; have n0_ := Aside0.mk (blk_below (g := gb118) (o := .cells #[.int .i64 a0_0, .int .i64 a0_1] 23 (0, 0)) (by (with_reducible repeat (first | refine blk_drewN ?_ _ | refine blk_drew ?_ | refine blk_alloc ?_ _)); exact BK118.out) hb); have n1_ := Aside0.mk (below_step (by repeat (first | (with_reducible first | exact HB.out | apply below_alloc | apply pw_below_drewN | apply below_drew1 | refine below_set ?_ GE118.out) | exact HB.out)) hb); have n2_ := Aside0.mk (hbox); have n3_ := Aside0.mk ((by rw [hg]; exact (below_size (by repeat (first | (with_reducible first | exact HB.out | apply below_alloc | apply pw_below_drewN | apply below_drew1 | refine below_set ?_ GE118.out) | exact HB.out))) : w.heap.size ≤ gb119)); have n4_ := Aside0.mk ((by rw [hg]; exact (below_size (by repeat (first | (with_reducible first | exact HB.out | apply below_alloc | apply pw_below_drewN | apply below_drew1 | refine below_set ?_ GE118.out) | exact HB.out))) : w.heap.size ≤ gb119)); have n5_ := Aside0.mk ((by rw [hg]; exact Nat.ne_of_lt (blk_lt (g := gb118) (o := .cells #[.int .i64 a0_0, .int .i64 a0_1] 23 (0, 0)) (by (with_reducible repeat (first | refine blk_drewN ?_ _ | refine blk_drew ?_ | refine blk_alloc ?_ _)); exact BK118.out)) : gb118 ≠ gb119)); have n6_ := Aside0.mk ((by rw [hg]; exact Nat.ne_of_gt (blk_lt (g := gb118) (o := .cells #[.int .i64 a0_0, .int .i64 a0_1] 23 (0, 0)) (by (with_reducible repeat (first | refine blk_drewN ?_ _ | refine blk_drew ?_ | refine blk_alloc ?_ _)); exact BK118.out)) : gb119 ≠ gb118)); clear BK118; clear HB; have BK118 := n0_; have HB := n1_; have BK119 := n2_; have GW119 := n3_; have GE119 := n4_; have NB118_119 := n5_; have NB119_118 := n6_; clear n0_ n1_ n2_ n3_ n4_ n5_ n6_; clear hb hbox hg; have hnb20 := NB118_119.out; have hnc20 := NB119_118.out; have hcz21_0 : w19.cell? ⟨gb118, 0, none⟩ = some (.int .i64 a0_0) := (blk_cell BK118.out 0).trans rfl; have hcz21_1 : w19.cell? ⟨gb118, 1, none⟩ = some (.int .i64 a0_1) := (blk_cell BK118.out 1).trans rfl; have hfz21_0 := blk_frozen BK118.out 0; have hfz21_1 := blk_frozen BK118.out 1; have hcz22_0 : w19.cell? ⟨gb119, 0, none⟩ = some (.int .i64 a1_0) := (blk_cell BK119.out 0).trans rfl; have hcz22_1 : w19.cell? ⟨gb119, 1, none⟩ = some (.int .i64 a1_1) := (blk_cell BK119.out 1).trans rfl; have hfz22_0 := blk_frozen BK119.out 0; have hfz22_1 := blk_frozen BK119.out 1) | ((with_reducible refine gate_dst (N := 7) rfl ?_); refine Kd.R_lit k23 _ 23 ?hg (N := 7) ?hd (xs := ([(⟨a0_0, a0_1⟩ : S23), (⟨a1_0, a1_1⟩ : S23)] : List (S23))) (inner := [.int .i64 a0_0, .int .i64 a0_1, .int .i64 a1_0, .int .i64 a1_1]) (ok := fun _ => True) (okp := fun _ => True) ?hr ?hp (fun _ hk => hk) trivial (Below.refl _ _) (Nat.le_refl _) (by simp) ?_; (case hd => rfl); (case hg => rfl); (case hr => first | (go_simp; done) | (go_simp; rfl)); (case hp => exact (Reps.c2 (show Kd.M k23 _ _ _ (⟨a0_0, a0_1⟩ : S23) [.int .i64 a0_0, .int .i64 a0_1] from (k23_mkM _ _ _ (⟨a0_0, a0_1⟩ : S23) )) (Reps.c2 (show Kd.M k23 _ _ _ (⟨a1_0, a1_1⟩ : S23) [.int .i64 a1_0, .int .i64 a1_1] from (k23_mkM _ _ _ (⟨a1_0, a1_1⟩ : S23) )) (Reps.none _ _)))); intro v121 w23 ho24 hb hg_ hnew_; clear hg_ hnew_; (first | rw [← Ny120.out] at ho24 | (simp only [Int.reduceToNat] at ho24; rw [← Ny120.out] at ho24)); have n0_ := Aside0.mk (Kd.R_lower (Kd.R_newB (Kd.R_newB ho24 (g := gb118) (o := .cells #[.int .i64 a0_0, .int .i64 a0_1] 23 (0, 0)) (by (with_reducible repeat (first | refine blk_drewN ?_ _ | refine blk_drew ?_ | refine blk_alloc ?_ _)); exact BK118.out)) (g := gb119) (o := .cells #[.int .i64 a1_0, .int .i64 a1_1] 23 (0, 0)) (by (with_reducible repeat (first | refine blk_drewN ?_ _ | refine blk_drew ?_ | refine blk_alloc ?_ _)); exact BK119.out)) (below_size (by repeat (first | (with_reducible first | exact HB.out | apply below_alloc | apply pw_below_drewN | apply below_drew1 | refine below_set ?_ GE118.out | refine below_set ?_ GE119.out) | exact HB.out)))); have n1_ := Aside0.mk (blk_below (g := gb118) (o := .cells #[.int .i64 a0_0, .int .i64 a0_1] 23 (0, 0)) (by (with_reducible repeat (first | refine blk_drewN ?_ _ | refine blk_drew ?_ | refine blk_alloc ?_ _)); exact BK118.out) hb); have n2_ := Aside0.mk (blk_below (g := gb119) (o := .cells #[.int .i64 a1_0, .int .i64 a1_1] 23 (0, 0)) (by (with_reducible repeat (first | refine blk_drewN ?_ _ | refine blk_drew ?_ | refine blk_alloc ?_ _)); exact BK119.out) hb); have n3_ := Aside0.mk (below_step (by repeat (first | (with_reducible first | exact HB.out | apply below_alloc | apply pw_below_drewN | apply below_drew1 | refine below_set ?_ GE118.out | refine below_set ?_ GE119.out) | exact HB.out)) hb); clear BK118; clear BK119; clear HB; have HO122 := n0_; have BK118 := n1_; have BK119 := n2_; have HB := n3_; clear n0_ n1_ n2_ n3_; clear hb ho24; obtain ⟨Ao25, co25, eo25⟩ := Kd.R_slice HO122.out; subst eo25) | ((with_reducible refine gate_callee (f := 78) rfl ?_); refine goesL_ (some 8) rfl rfl Try.func78 (by kernel_rfl) rfl #[.slice Ao25 y120.length co25] rfl (by (try simp only [List.map_toArray, List.map_cons, List.map_nil]); first | done | rfl | (simp only [List.length_drop, List.length_take]; rfl)) ?_; (with_reducible refine (plane_valid.calls _ _ y120 false _ ?side1 ?side2 A3.out).mono ?_); (case side1 => repeat (first | exact (Kd.R_reads' HO122.out).2.2 | (with_reducible refine Kd.C_alloc ?_ _) | (with_reducible refine Kd.C_drewN ?_ _) | (with_reducible refine Kd.C_drew ?_))); (case side2 => exact (Kd.R_reads' HO122.out).2.1); rintro e w26 ⟨rfl, hb⟩; refine ⟨_, rfl, ?_⟩; have n0_ := Aside0.mk (Kd.R_below (by (with_reducible repeat (first | apply Kd.R_alloc | apply Kd.R_drewN | apply Kd.R_drew)); exact HO122.out) hb); have n1_ := Aside0.mk (blk_below (g := gb118) (o := .cells #[.int .i64 a0_0, .int .i64 a0_1] 23 (0, 0)) (by (with_reducible repeat (first | refine blk_drewN ?_ _ | refine blk_drew ?_ | refine blk_alloc ?_ _)); exact BK118.out) hb); have n2_ := Aside0.mk (blk_below (g := gb119) (o := .cells #[.int .i64 a1_0, .int .i64 a1_1] 23 (0, 0)) (by (with_reducible repeat (first | refine blk_drewN ?_ _ | refine blk_drew ?_ | refine blk_alloc ?_ _)); exact BK119.out) hb); have n3_ := Aside0.mk (below_step (by repeat (first | (with_reducible first | exact HB.out | apply below_alloc | apply pw_below_drewN | apply below_drew1 | refine below_set ?_ GE118.out | refine below_set ?_ GE119.out) | exact HB.out)) hb); clear HO122; clear BK118; clear BK119; clear HB; have HO122 := n0_; have BK118 := n1_; have BK119 := n2_; have HB := n3_; clear n0_ n1_ n2_ n3_; (try clear hb); (try clear hb2); (try clear hk); (try clear hi)))
    go_ret
    exact ⟨by first | rfl | (simp [errW_none, errW_some] <;> rfl) | (simp [*, errW_none, errW_some] <;> rfl), by repeat (first | (with_reducible first | exact HB.out | apply below_alloc | apply pw_below_drewN | apply below_drew1 | refine below_set ?_ GE118.out | refine below_set ?_ GE119.out) | exact HB.out)⟩
end Go.Proofs.Ytckaejgamfllfaa.G
end

section
namespace Go.Proofs.Ytckaejgamfllfaa.G
open Go.RowKit Go.Proofs.YtckaejgamfllfaaW.PrintWords Go.Proofs.YtckaejgamfllfaaW.PrintLast Go.Proofs.YtckaejgamfllfaaW.PrintMore
attribute [local go_sem] max2_int min2_int max_two min_two max_three min_three max_four min_four
set_option linter.unusedVariables false
set_option linter.unusedSimpArgs false
theorem eqA23 (d : Nat) (w : World) (x0 y0 : Int) (x1 y1 : Int) :
    (Op.equalIn (d + 2) 23 (.agg #[.int .i64 x0, .int .i64 x1]) (.agg #[.int .i64 y0, .int .i64 y1])).run Try.prog w = .ok (x0 == y0 && (x1 == y1)) w := by
  refine eqA_of Try.underlying23 (by kernel_rfl) ?_
  refine eqf_cons (by rfl) (by go_simp; rfl) (by go_simp; rfl) (by go_simp) ?_
  exact eqf_last (by rfl) (by go_simp; rfl) (by go_simp; rfl) (by go_simp)
end Go.Proofs.Ytckaejgamfllfaa.G
end

section
namespace Go.Proofs.Ytckaejgamfllfaa.G
open Go.RowKit Go.Proofs.YtckaejgamfllfaaW.PrintWords Go.Proofs.YtckaejgamfllfaaW.PrintLast Go.Proofs.YtckaejgamfllfaaW.PrintMore
attribute [local go_sem] max2_int min2_int max_two min_two max_three min_three max_four min_four
set_option linter.unusedVariables false
set_option linter.unusedSimpArgs false
attribute [local go_sem high] eqA23
def plane_proper.f (a0_0 : Int) (a0_1 : Int) (a0_2 : Int) (a0_3 : Int) : Option (Bool) := (plane_valid.f (([(⟨a0_0, a0_1⟩ : S23), (⟨a0_2, a0_3⟩ : S23)] : List (S23)))).bind fun t129 => (if t129 = true then (some (!(a0_0 == a0_2) || (!(a0_1 == a0_3)))) else (some false))
set_option maxHeartbeats 8000000 in
set_option maxRecDepth 100000 in
theorem plane_proper.calls (a0_0 : Int) (a0_1 : Int) (a0_2 : Int) (a0_3 : Int) (r : Bool) (w : World) (h : plane_proper.f a0_0 a0_1 a0_2 a0_3 = some r) :
    Calls Try.prog 87 #[.agg #[.int .i64 a0_0, .int .i64 a0_1, .int .i64 a0_2, .int .i64 a0_3]] w fun e w' => e = .returned (.bool r) ∧ Below w.heap.size w w' := by
  have hu34 := Try.underlying34
  have hu23 := Try.underlying23
  have HB := Aside0.mk (Below.refl w.heap.size w)
  have H : ((plane_valid.f (([(⟨a0_0, a0_1⟩ : S23), (⟨a0_2, a0_3⟩ : S23)] : List (S23)))).bind fun t129 => (if t129 = true then (some (!(a0_0 == a0_2) || (!(a0_1 == a0_3)))) else (some false))) = some r := h
  clear h
  obtain ⟨y126, hy126⟩ : ∃ y_ : List (S23), y_ = (([(⟨a0_0, a0_1⟩ : S23), (⟨a0_2, a0_3⟩ : S23)] : List (S23))) := ⟨_, rfl⟩
  replace H : ((plane_valid.f y126).bind fun t129 => (if t129 = true then (some (!(a0_0 == a0_2) || (!(a0_1 == a0_3)))) else (some false))) = some r := by first | (rw [hy126]; with_reducible exact H) | (have H2_ := (Option.bind_some _ _).symm.trans H; rw [hy126]; with_reducible exact H2_) | (have H2_ := (Option.bind_some _ _).symm.trans H; with_reducible exact H2_) | with_reducible exact H | (rw [hy126]; exact H) | exact H
  have Ny126 := Aside0.mk hy126
  clear hy126
  replace H := Option.bind_eq_some_iff.mp H
  obtain ⟨t129, A20, H⟩ := H
  replace H : (if t129 = true then (some (!(a0_0 == a0_2) || (!(a0_1 == a0_3)))) else (some false)) = some r := H
  have A2 := Aside0.mk A20
  clear A20
  by_cases c3 : t129 = true
  · subst c3
    have H1 : (some (!(a0_0 == a0_2) || (!(a0_1 == a0_3)))) = some r := by rw [if_pos rfl] at H; exact H
    clear H
    have H := H1
    clear H1
    obtain rfl := Option.some.inj H
    go_enter Try.func87, Try.ntmps87
    go_wp2_with (first | ((with_reducible refine gate_dst (N := 1) rfl ?_); refine box_event ?hg (N := 1) ?hd (cs := #[.int .i64 a0_0, .int .i64 a0_1, .int .i64 a0_2, .int .i64 a0_3]) (t := 34) ?hr ?_; (case hd => rfl); (case hg => rfl); (case hr => first | (go_simp; done) | (go_simp; rfl)); intro gb125 hg w4 hbox hb; have n0_ := Aside0.mk (below_step (by repeat (first | (with_reducible first | exact HB.out | apply below_alloc | apply pw_below_drewN | apply below_drew1) | exact HB.out)) hb); have n1_ := Aside0.mk (hbox); have n2_ := Aside0.mk ((by rw [hg]; exact (below_size (by repeat (first | (with_reducible first | exact HB.out | apply below_alloc | apply pw_below_drewN | apply below_drew1) | exact HB.out))) : w.heap.size ≤ gb125)); have n3_ := Aside0.mk ((by rw [hg]; exact (below_size (by repeat (first | (with_reducible first | exact HB.out | apply below_alloc | apply pw_below_drewN | apply below_drew1) | exact HB.out))) : w.heap.size ≤ gb125)); clear HB; have HB := n0_; have BK125 := n1_; have GW125 := n2_; have GE125 := n3_; clear n0_ n1_ n2_ n3_; clear hb hbox hg; have hcz5_0 : w4.cell? ⟨gb125, 0, none⟩ = some (.int .i64 a0_0) := (blk_cell BK125.out 0).trans rfl; have hcz5_1 : w4.cell? ⟨gb125, 1, none⟩ = some (.int .i64 a0_1) := (blk_cell BK125.out 1).trans rfl; have hcz5_2 : w4.cell? ⟨gb125, 2, none⟩ = some (.int .i64 a0_2) := (blk_cell BK125.out 2).trans rfl; have hcz5_3 : w4.cell? ⟨gb125, 3, none⟩ = some (.int .i64 a0_3) := (blk_cell BK125.out 3).trans rfl; have hfz5_0 := blk_frozen BK125.out 0; have hfz5_1 := blk_frozen BK125.out 1; have hfz5_2 := blk_frozen BK125.out 2; have hfz5_3 := blk_frozen BK125.out 3) | ((with_reducible refine gate_dst (N := 7) rfl ?_); refine Kd.R_lit k23 _ 23 ?hg (N := 7) ?hd (xs := ([(⟨a0_0, a0_1⟩ : S23), (⟨a0_2, a0_3⟩ : S23)] : List (S23))) (inner := [.int .i64 a0_0, .int .i64 a0_1, .int .i64 a0_2, .int .i64 a0_3]) (ok := fun _ => True) (okp := fun _ => True) ?hr ?hp (fun _ hk => hk) trivial (Below.refl _ _) (Nat.le_refl _) (by simp) ?_; (case hd => rfl); (case hg => rfl); (case hr => first | (go_simp; done) | (go_simp; rfl)); (case hp => exact (Reps.c2 (show Kd.M k23 _ _ _ (⟨a0_0, a0_1⟩ : S23) [.int .i64 a0_0, .int .i64 a0_1] from (k23_mkM _ _ _ (⟨a0_0, a0_1⟩ : S23) )) (Reps.c2 (show Kd.M k23 _ _ _ (⟨a0_2, a0_3⟩ : S23) [.int .i64 a0_2, .int .i64 a0_3] from (k23_mkM _ _ _ (⟨a0_2, a0_3⟩ : S23) )) (Reps.none _ _)))); intro v127 w6 ho7 hb hg_ hnew_; clear hg_ hnew_; (first | rw [← Ny126.out] at ho7 | (simp only [Int.reduceToNat] at ho7; rw [← Ny126.out] at ho7)); have n0_ := Aside0.mk (Kd.R_lower ho7 (below_size (by repeat (first | (with_reducible first | exact HB.out | apply below_alloc | apply pw_below_drewN | apply below_drew1 | refine below_set ?_ GE125.out) | exact HB.out)))); have n1_ := Aside0.mk (blk_below (g := gb125) (o := .cells #[.int .i64 a0_0, .int .i64 a0_1, .int .i64 a0_2, .int .i64 a0_3] 34 (0, 0)) (by (with_reducible repeat (first | refine blk_drewN ?_ _ | refine blk_drew ?_ | refine blk_alloc ?_ _)); exact BK125.out) hb); have n2_ := Aside0.mk (below_step (by repeat (first | (with_reducible first | exact HB.out | apply below_alloc | apply pw_below_drewN | apply below_drew1 | refine below_set ?_ GE125.out) | exact HB.out)) hb); clear BK125; clear HB; have HO128 := n0_; have BK125 := n1_; have HB := n2_; clear n0_ n1_ n2_; clear hb ho7; obtain ⟨Ao8, co8, eo8⟩ := Kd.R_slice HO128.out; subst eo8) | ((with_reducible refine gate_callee (f := 78) rfl ?_); refine goesL_ (some 8) rfl rfl Try.func78 (by kernel_rfl) rfl #[.slice Ao8 y126.length co8] rfl (by (try simp only [List.map_toArray, List.map_cons, List.map_nil]); first | done | rfl | (simp only [List.length_drop, List.length_take]; rfl)) ?_; (with_reducible refine (plane_valid.calls _ _ y126 true _ ?side1 ?side2 A2.out).mono ?_); (case side1 => repeat (first | exact (Kd.R_reads' HO128.out).2.2 | (with_reducible refine Kd.C_alloc ?_ _) | (with_reducible refine Kd.C_drewN ?_ _) | (with_reducible refine Kd.C_drew ?_))); (case side2 => exact (Kd.R_reads' HO128.out).2.1); rintro e w9 ⟨rfl, hb⟩; refine ⟨_, rfl, ?_⟩; have n0_ := Aside0.mk (Kd.R_below (by (with_reducible repeat (first | apply Kd.R_alloc | apply Kd.R_drewN | apply Kd.R_drew)); exact HO128.out) hb); have n1_ := Aside0.mk (blk_below (g := gb125) (o := .cells #[.int .i64 a0_0, .int .i64 a0_1, .int .i64 a0_2, .int .i64 a0_3] 34 (0, 0)) (by (with_reducible repeat (first | refine blk_drewN ?_ _ | refine blk_drew ?_ | refine blk_alloc ?_ _)); exact BK125.out) hb); have n2_ := Aside0.mk (below_step (by repeat (first | (with_reducible first | exact HB.out | apply below_alloc | apply pw_below_drewN | apply below_drew1 | refine below_set ?_ GE125.out) | exact HB.out)) hb); clear HO128; clear BK125; clear HB; have HO128 := n0_; have BK125 := n1_; have HB := n2_; clear n0_ n1_ n2_; (try clear hb); (try clear hb2); (try clear hk); (try clear hi); have hcz10_0 : w9.cell? ⟨gb125, 0, none⟩ = some (.int .i64 a0_0) := (blk_cell BK125.out 0).trans rfl; have hcz10_1 : w9.cell? ⟨gb125, 1, none⟩ = some (.int .i64 a0_1) := (blk_cell BK125.out 1).trans rfl; have hcz10_2 : w9.cell? ⟨gb125, 2, none⟩ = some (.int .i64 a0_2) := (blk_cell BK125.out 2).trans rfl; have hcz10_3 : w9.cell? ⟨gb125, 3, none⟩ = some (.int .i64 a0_3) := (blk_cell BK125.out 3).trans rfl; have hfz10_0 := blk_frozen BK125.out 0; have hfz10_1 := blk_frozen BK125.out 1; have hfz10_2 := blk_frozen BK125.out 2; have hfz10_3 := blk_frozen BK125.out 3))
    go_ret
    exact ⟨by first | rfl | (simp [errW_none, errW_some] <;> rfl) | (simp [*, errW_none, errW_some] <;> rfl), by repeat (first | (with_reducible first | exact HB.out | apply below_alloc | apply pw_below_drewN | apply below_drew1 | refine below_set ?_ GE125.out) | exact HB.out)⟩
  · replace c3 := Bool.eq_false_iff.mpr c3
    subst c3
    have H1 : (some false) = some r := by rw [if_neg (show ¬ (false = true) by decide)] at H; exact H
    clear H
    have H := H1
    clear H1
    obtain rfl := Option.some.inj H
    go_enter Try.func87, Try.ntmps87
    go_wp2_with (first | ((with_reducible refine gate_dst (N := 1) rfl ?_); refine box_event ?hg (N := 1) ?hd (cs := #[.int .i64 a0_0, .int .i64 a0_1, .int .i64 a0_2, .int .i64 a0_3]) (t := 34) ?hr ?_; (case hd => rfl); (case hg => rfl); (case hr => first | (go_simp; done) | (go_simp; rfl)); intro gb125 hg w11 hbox hb; have n0_ := Aside0.mk (below_step (by repeat (first | (with_reducible first | exact HB.out | apply below_alloc | apply pw_below_drewN | apply below_drew1) | exact HB.out)) hb); have n1_ := Aside0.mk (hbox); have n2_ := Aside0.mk ((by rw [hg]; exact (below_size (by repeat (first | (with_reducible first | exact HB.out | apply below_alloc | apply pw_below_drewN | apply below_drew1) | exact HB.out))) : w.heap.size ≤ gb125)); have n3_ := Aside0.mk ((by rw [hg]; exact (below_size (by repeat (first | (with_reducible first | exact HB.out | apply below_alloc | apply pw_below_drewN | apply below_drew1) | exact HB.out))) : w.heap.size ≤ gb125)); clear HB; have HB := n0_; have BK125 := n1_; have GW125 := n2_; have GE125 := n3_; clear n0_ n1_ n2_ n3_; clear hb hbox hg; have hcz12_0 : w11.cell? ⟨gb125, 0, none⟩ = some (.int .i64 a0_0) := (blk_cell BK125.out 0).trans rfl; have hcz12_1 : w11.cell? ⟨gb125, 1, none⟩ = some (.int .i64 a0_1) := (blk_cell BK125.out 1).trans rfl; have hcz12_2 : w11.cell? ⟨gb125, 2, none⟩ = some (.int .i64 a0_2) := (blk_cell BK125.out 2).trans rfl; have hcz12_3 : w11.cell? ⟨gb125, 3, none⟩ = some (.int .i64 a0_3) := (blk_cell BK125.out 3).trans rfl; have hfz12_0 := blk_frozen BK125.out 0; have hfz12_1 := blk_frozen BK125.out 1; have hfz12_2 := blk_frozen BK125.out 2; have hfz12_3 := blk_frozen BK125.out 3) | ((with_reducible refine gate_dst (N := 7) rfl ?_); refine Kd.R_lit k23 _ 23 ?hg (N := 7) ?hd (xs := ([(⟨a0_0, a0_1⟩ : S23), (⟨a0_2, a0_3⟩ : S23)] : List (S23))) (inner := [.int .i64 a0_0, .int .i64 a0_1, .int .i64 a0_2, .int .i64 a0_3]) (ok := fun _ => True) (okp := fun _ => True) ?hr ?hp (fun _ hk => hk) trivial (Below.refl _ _) (Nat.le_refl _) (by simp) ?_; (case hd => rfl); (case hg => rfl); (case hr => first | (go_simp; done) | (go_simp; rfl)); (case hp => exact (Reps.c2 (show Kd.M k23 _ _ _ (⟨a0_0, a0_1⟩ : S23) [.int .i64 a0_0, .int .i64 a0_1] from (k23_mkM _ _ _ (⟨a0_0, a0_1⟩ : S23) )) (Reps.c2 (show Kd.M k23 _ _ _ (⟨a0_2, a0_3⟩ : S23) [.int .i64 a0_2, .int .i64 a0_3] from (k23_mkM _ _ _ (⟨a0_2, a0_3⟩ : S23) )) (Reps.none _ _)))); intro v127 w13 ho14 hb hg_ hnew_; clear hg_ hnew_; (first | rw [← Ny126.out] at ho14 | (simp only [Int.reduceToNat] at ho14; rw [← Ny126.out] at ho14)); have n0_ := Aside0.mk (Kd.R_lower ho14 (below_size (by repeat (first | (with_reducible first | exact HB.out | apply below_alloc | apply pw_below_drewN | apply below_drew1 | refine below_set ?_ GE125.out) | exact HB.out)))); have n1_ := Aside0.mk (blk_below (g := gb125) (o := .cells #[.int .i64 a0_0, .int .i64 a0_1, .int .i64 a0_2, .int .i64 a0_3] 34 (0, 0)) (by (with_reducible repeat (first | refine blk_drewN ?_ _ | refine blk_drew ?_ | refine blk_alloc ?_ _)); exact BK125.out) hb); have n2_ := Aside0.mk (below_step (by repeat (first | (with_reducible first | exact HB.out | apply below_alloc | apply pw_below_drewN | apply below_drew1 | refine below_set ?_ GE125.out) | exact HB.out)) hb); clear BK125; clear HB; have HO128 := n0_; have BK125 := n1_; have HB := n2_; clear n0_ n1_ n2_; clear hb ho14; obtain ⟨Ao15, co15, eo15⟩ := Kd.R_slice HO128.out; subst eo15) | ((with_reducible refine gate_callee (f := 78) rfl ?_); refine goesL_ (some 8) rfl rfl Try.func78 (by kernel_rfl) rfl #[.slice Ao15 y126.length co15] rfl (by (try simp only [List.map_toArray, List.map_cons, List.map_nil]); first | done | rfl | (simp only [List.length_drop, List.length_take]; rfl)) ?_; (with_reducible refine (plane_valid.calls _ _ y126 false _ ?side1 ?side2 A2.out).mono ?_); (case side1 => repeat (first | exact (Kd.R_reads' HO128.out).2.2 | (with_reducible refine Kd.C_alloc ?_ _) | (with_reducible refine Kd.C_drewN ?_ _) | (with_reducible refine Kd.C_drew ?_))); (case side2 => exact (Kd.R_reads' HO128.out).2.1); rintro e w16 ⟨rfl, hb⟩; refine ⟨_, rfl, ?_⟩; have n0_ := Aside0.mk (Kd.R_below (by (with_reducible repeat (first | apply Kd.R_alloc | apply Kd.R_drewN | apply Kd.R_drew)); exact HO128.out) hb); have n1_ := Aside0.mk (blk_below (g := gb125) (o := .cells #[.int .i64 a0_0, .int .i64 a0_1, .int .i64 a0_2, .int .i64 a0_3] 34 (0, 0)) (by (with_reducible repeat (first | refine blk_drewN ?_ _ | refine blk_drew ?_ | refine blk_alloc ?_ _)); exact BK125.out) hb); have n2_ := Aside0.mk (below_step (by repeat (first | (with_reducible first | exact HB.out | apply below_alloc | apply pw_below_drewN | apply below_drew1 | refine below_set ?_ GE125.out) | exact HB.out)) hb); clear HO128; clear BK125; clear HB; have HO128 := n0_; have BK125 := n1_; have HB := n2_; clear n0_ n1_ n2_; (try clear hb); (try clear hb2); (try clear hk); (try clear hi)))
    go_ret
    exact ⟨by first | rfl | (simp [errW_none, errW_some] <;> rfl) | (simp [*, errW_none, errW_some] <;> rfl), by repeat (first | (with_reducible first | exact HB.out | apply below_alloc | apply pw_below_drewN | apply below_drew1 | refine below_set ?_ GE125.out) | exact HB.out)⟩
end Go.Proofs.Ytckaejgamfllfaa.G
end

section
namespace Go.Proofs.Ytckaejgamfllfaa.G
open Go.RowKit Go.Proofs.YtckaejgamfllfaaW.PrintWords Go.Proofs.YtckaejgamfllfaaW.PrintLast Go.Proofs.YtckaejgamfllfaaW.PrintMore
attribute [local go_sem] max2_int min2_int max_two min_two max_three min_three max_four min_four
set_option linter.unusedVariables false
set_option linter.unusedSimpArgs false
def plane_between.f (a0_0 : Int) (a0_1 : Int) (a1_0 : Int) (a1_1 : Int) (a2_0 : Int) (a2_1 : Int) : Option (Bool) := (plane_within.f a2_0 (mn a0_0 a1_0) (mx a0_0 a1_0)).bind fun t133 => (if t133 = true then ((plane_within.f a2_1 (mn a0_1 a1_1) (mx a0_1 a1_1)).bind fun t134 => (some t134)) else (some false))
set_option maxHeartbeats 8000000 in
set_option maxRecDepth 100000 in
theorem plane_between.calls (a0_0 : Int) (a0_1 : Int) (a1_0 : Int) (a1_1 : Int) (a2_0 : Int) (a2_1 : Int) (r : Bool) (w : World) (h : plane_between.f a0_0 a0_1 a1_0 a1_1 a2_0 a2_1 = some r) :
    Calls Try.prog 129 #[.agg #[.int .i64 a0_0, .int .i64 a0_1], .agg #[.int .i64 a1_0, .int .i64 a1_1], .agg #[.int .i64 a2_0, .int .i64 a2_1]] w fun e w' => e = .returned (.bool r) ∧ Below w.heap.size w w' := by
  have hu23 := Try.underlying23
  have HB := Aside0.mk (Below.refl w.heap.size w)
  have H : ((plane_within.f a2_0 (mn a0_0 a1_0) (mx a0_0 a1_0)).bind fun t133 => (if t133 = true then ((plane_within.f a2_1 (mn a0_1 a1_1) (mx a0_1 a1_1)).bind fun t134 => (some t134)) else (some false))) = some r := h
  clear h
  obtain ⟨ji4, hji4⟩ : ∃ j_ : Int, (mn a0_0 a1_0) = j_ := ⟨_, rfl⟩
  replace H : ((plane_within.f a2_0 (ji4) (mx a0_0 a1_0)).bind fun t133 => (if t133 = true then ((plane_within.f a2_1 (mn a0_1 a1_1) (mx a0_1 a1_1)).bind fun t134 => (some t134)) else (some false))) = some r := by first | (rw [hji4] at H; exact H) | (simp only [hji4] at H ⊢; exact H)
  have hji4_ : (if a1_0 < a0_0 then a1_0 else a0_0) = ji4 := hji4
  obtain ⟨ji5, hji5⟩ : ∃ j_ : Int, (mx a0_0 a1_0) = j_ := ⟨_, rfl⟩
  replace H : ((plane_within.f a2_0 (ji4) (ji5)).bind fun t133 => (if t133 = true then ((plane_within.f a2_1 (mn a0_1 a1_1) (mx a0_1 a1_1)).bind fun t134 => (some t134)) else (some false))) = some r := by first | (rw [hji5] at H; exact H) | (simp only [hji5] at H ⊢; exact H)
  have hji5_ : (if a0_0 < a1_0 then a1_0 else a0_0) = ji5 := hji5
  replace H := Option.bind_eq_some_iff.mp H
  obtain ⟨t133, A60, H⟩ := H
  replace H : (if t133 = true then ((plane_within.f a2_1 (mn a0_1 a1_1) (mx a0_1 a1_1)).bind fun t134 => (some t134)) else (some false)) = some r := H
  have A6 := Aside0.mk A60
  clear A60
  by_cases c7 : t133 = true
  · subst c7
    have H1 : ((plane_within.f a2_1 (mn a0_1 a1_1) (mx a0_1 a1_1)).bind fun t134 => (some t134)) = some r := by rw [if_pos rfl] at H; exact H
    clear H
    have H := H1
    clear H1
    obtain ⟨ji8, hji8⟩ : ∃ j_ : Int, (mn a0_1 a1_1) = j_ := ⟨_, rfl⟩
    replace H : ((plane_within.f a2_1 (ji8) (mx a0_1 a1_1)).bind fun t134 => (some t134)) = some r := by first | (rw [hji8] at H; exact H) | (simp only [hji8] at H ⊢; exact H)
    (try rw [hji8] at A6)
    have hji8_ : (if a1_1 < a0_1 then a1_1 else a0_1) = ji8 := hji8
    obtain ⟨ji9, hji9⟩ : ∃ j_ : Int, (mx a0_1 a1_1) = j_ := ⟨_, rfl⟩
    replace H : ((plane_within.f a2_1 (ji8) (ji9)).bind fun t134 => (some t134)) = some r := by first | (rw [hji9] at H; exact H) | (simp only [hji9] at H ⊢; exact H)
    (try rw [hji9] at A6)
    have hji9_ : (if a0_1 < a1_1 then a1_1 else a0_1) = ji9 := hji9
    replace H := Option.bind_eq_some_iff.mp H
    obtain ⟨t134, A100, H⟩ := H
    replace H : (some t134) = some r := H
    have A10 := Aside0.mk A100
    clear A100
    obtain rfl := Option.some.inj H
    go_enter Try.func129, Try.ntmps129
    go_wp2_with (first | ((with_reducible refine gate_dst (N := 3) rfl ?_); (try (refine gate_guard (by rfl) ?_; dsimp only)); refine box_event ?hg (N := 3) ?hd (cs := #[.int .i64 a0_0, .int .i64 a0_1]) (t := 23) ?hr ?_; (case hd => rfl); (case hg => rfl); (case hr => first | (go_simp; done) | (go_simp; rfl)); intro gb130 hg w11 hbox hb; have n0_ := Aside0.mk (below_step (by repeat (first | (with_reducible first | exact HB.out | apply below_alloc | apply pw_below_drewN | apply below_drew1) | exact HB.out)) hb); have n1_ := Aside0.mk (hbox); have n2_ := Aside0.mk ((by rw [hg]; exact (below_size (by repeat (first | (with_reducible first | exact HB.out | apply below_alloc | apply pw_below_drewN | apply below_drew1) | exact HB.out))) : w.heap.size ≤ gb130)); have n3_ := Aside0.mk ((by rw [hg]; exact (below_size (by repeat (first | (with_reducible first | exact HB.out | apply below_alloc | apply pw_below_drewN | apply below_drew1) | exact HB.out))) : w.heap.size ≤ gb130)); clear HB; have HB := n0_; have BK130 := n1_; have GW130 := n2_; have GE130 := n3_; clear n0_ n1_ n2_ n3_; clear hb hbox hg) | ((with_reducible refine gate_dst (N := 4) rfl ?_); (try (refine gate_guard (by rfl) ?_; dsimp only)); refine box_event ?hg (N := 4) ?hd (cs := #[.int .i64 a1_0, .int .i64 a1_1]) (t := 23) ?hr ?_; (case hd => rfl); (case hg => rfl); (case hr => first | (go_simp; done) | (go_simp; rfl)); intro gb131 hg w12 hbox hb; have n0_ := Aside0.mk (blk_below (g := gb130) (o := .cells #[.int .i64 a0_0, .int .i64 a0_1] 23 (0, 0)) (by (with_reducible repeat (first | refine blk_drewN ?_ _ | refine blk_drew ?_ | refine blk_alloc ?_ _)); exact BK130.out) hb); have n1_ := Aside0.mk (below_step (by repeat (first | (with_reducible first | exact HB.out | apply below_alloc | apply pw_below_drewN | apply below_drew1 | refine below_set ?_ GE130.out) | exact HB.out)) hb); have n2_ := Aside0.mk (hbox); have n3_ := Aside0.mk ((by rw [hg]; exact (below_size (by repeat (first | (with_reducible first | exact HB.out | apply below_alloc | apply pw_below_drewN | apply below_drew1 | refine below_set ?_ GE130.out) | exact HB.out))) : w.heap.size ≤ gb131)); have n4_ := Aside0.mk ((by rw [hg]; exact (below_size (by repeat (first | (with_reducible first | exact HB.out | apply below_alloc | apply pw_below_drewN | apply below_drew1 | refine below_set ?_ GE130.out) | exact HB.out))) : w.heap.size ≤ gb131)); have n5_ := Aside0.mk ((by rw [hg]; exact Nat.ne_of_lt (blk_lt (g := gb130) (o := .cells #[.int .i64 a0_0, .int .i64 a0_1] 23 (0, 0)) (by (with_reducible repeat (first | refine blk_drewN ?_ _ | refine blk_drew ?_ | refine blk_alloc ?_ _)); exact BK130.out)) : gb130 ≠ gb131)); have n6_ := Aside0.mk ((by rw [hg]; exact Nat.ne_of_gt (blk_lt (g := gb130) (o := .cells #[.int .i64 a0_0, .int .i64 a0_1] 23 (0, 0)) (by (with_reducible repeat (first | refine blk_drewN ?_ _ | refine blk_drew ?_ | refine blk_alloc ?_ _)); exact BK130.out)) : gb131 ≠ gb130)); clear BK130; clear HB; have BK130 := n0_; have HB := n1_; have BK131 := n2_; have GW131 := n3_; have GE131 := n4_; have NB130_131 := n5_; have NB131_130 := n6_; clear n0_ n1_ n2_ n3_ n4_ n5_ n6_; clear hb hbox hg) | ((with_reducible refine gate_dst (N := 5) rfl ?_); (try (refine gate_guard (by rfl) ?_; dsimp only)); refine box_event ?hg (N := 5) ?hd (cs := #[.int .i64 a2_0, .int .i64 a2_1]) (t := 23) ?hr ?_; (case hd => rfl); (case hg => rfl); (case hr => first | (go_simp; done) | (go_simp; rfl)); intro gb132 hg w13 hbox hb; have n0_ := Aside0.mk (blk_below (g := gb130) (o := .cells #[.int .i64 a0_0, .int .i64 a0_1] 23 (0, 0)) (by (with_reducible repeat (first | refine blk_drewN ?_ _ | refine blk_drew ?_ | refine blk_alloc ?_ _)); exact BK130.out) hb); have n1_ := Aside0.mk (blk_below (g := gb131) (o := .cells #[.int .i64 a1_0, .int .i64 a1_1] 23 (0, 0)) (by (with_reducible repeat (first | refine blk_drewN ?_ _ | refine blk_drew ?_ | refine blk_alloc ?_ _)); exact BK131.out) hb); have n2_ := Aside0.mk (below_step (by repeat (first | (with_reducible first | exact HB.out | apply below_alloc | apply pw_below_drewN | apply below_drew1 | refine below_set ?_ GE130.out | refine below_set ?_ GE131.out) | exact HB.out)) hb); have n3_ := Aside0.mk (hbox); have n4_ := Aside0.mk ((by rw [hg]; exact (below_size (by repeat (first | (with_reducible first | exact HB.out | apply below_alloc | apply pw_below_drewN | apply below_drew1 | refine below_set ?_ GE130.out | refine below_set ?_ GE131.out) | exact HB.out))) : w.heap.size ≤ gb132)); have n5_ := Aside0.mk ((by rw [hg]; exact (below_size (by repeat (first | (with_reducible first | exact HB.out | apply below_alloc | apply pw_below_drewN | apply below_drew1 | refine below_set ?_ GE130.out | refine below_set ?_ GE131.out) | exact HB.out))) : w.heap.size ≤ gb132)); have n6_ := Aside0.mk ((by rw [hg]; exact Nat.ne_of_lt (blk_lt (g := gb130) (o := .cells #[.int .i64 a0_0, .int .i64 a0_1] 23 (0, 0)) (by (with_reducible repeat (first | refine blk_drewN ?_ _ | refine blk_drew ?_ | refine blk_alloc ?_ _)); exact BK130.out)) : gb130 ≠ gb132)); have n7_ := Aside0.mk ((by rw [hg]; exact Nat.ne_of_gt (blk_lt (g := gb130) (o := .cells #[.int .i64 a0_0, .int .i64 a0_1] 23 (0, 0)) (by (with_reducible repeat (first | refine blk_drewN ?_ _ | refine blk_drew ?_ | refine blk_alloc ?_ _)); exact BK130.out)) : gb132 ≠ gb130)); have n8_ := Aside0.mk ((by rw [hg]; exact Nat.ne_of_lt (blk_lt (g := gb131) (o := .cells #[.int .i64 a1_0, .int .i64 a1_1] 23 (0, 0)) (by (with_reducible repeat (first | refine blk_drewN ?_ _ | refine blk_drew ?_ | refine blk_alloc ?_ _)); exact BK131.out)) : gb131 ≠ gb132)); have n9_ := Aside0.mk ((by rw [hg]; exact Nat.ne_of_gt (blk_lt (g := gb131) (o := .cells #[.int .i64 a1_0, .int .i64 a1_1] 23 (0, 0)) (by (with_reducible repeat (first | refine blk_drewN ?_ _ | refine blk_drew ?_ | refine blk_alloc ?_ _)); exact BK131.out)) : gb132 ≠ gb131)); clear BK130; clear BK131; clear HB; have BK130 := n0_; have BK131 := n1_; have HB := n2_; have BK132 := n3_; have GW132 := n4_; have GE132 := n5_; have NB130_132 := n6_; have NB132_130 := n7_; have NB131_132 := n8_; have NB132_131 := n9_; clear n0_ n1_ n2_ n3_ n4_ n5_ n6_ n7_ n8_ n9_; clear hb hbox hg; have hnb14 := NB132_130.out; have hnc14 := NB130_132.out; have hnb15 := NB132_131.out; have hnc15 := NB131_132.out; have hcz16_0 : w13.cell? ⟨gb132, 0, none⟩ = some (.int .i64 a2_0) := (blk_cell BK132.out 0).trans rfl; have hcz16_1 : w13.cell? ⟨gb132, 1, none⟩ = some (.int .i64 a2_1) := (blk_cell BK132.out 1).trans rfl; have hfz16_0 := blk_frozen BK132.out 0; have hfz16_1 := blk_frozen BK132.out 1; have hnb17 := NB130_131.out; have hnc17 := NB131_130.out; have hcz18_0 : w13.cell? ⟨gb130, 0, none⟩ = some (.int .i64 a0_0) := (blk_cell BK130.out 0).trans rfl; have hcz18_1 : w13.cell? ⟨gb130, 1, none⟩ = some (.int .i64 a0_1) := (blk_cell BK130.out 1).trans rfl; have hfz18_0 := blk_frozen BK130.out 0; have hfz18_1 := blk_frozen BK130.out 1; have hcz19_0 : w13.cell? ⟨gb131, 0, none⟩ = some (.int .i64 a1_0) := (blk_cell BK131.out 0).trans rfl; have hcz19_1 : w13.cell? ⟨gb131, 1, none⟩ = some (.int .i64 a1_1) := (blk_cell BK131.out 1).trans rfl; have hfz19_0 := blk_frozen BK131.out 0; have hfz19_1 := blk_frozen BK131.out 1) | ((with_reducible refine gate_callee (f := 76) rfl ?_); refine goesL_ (some 19) rfl rfl Try.func76 (by kernel_rfl) rfl #[.int .i64 a2_0, .int .i64 ji4, .int .i64 ji5] rfl (by (try simp only [List.map_toArray, List.map_cons, List.map_nil]); first | done | (simp only [hji4, hji5]; rfl) | rfl | (simp only [List.length_drop, List.length_take]; rfl)) ?_; (with_reducible refine (plane_within.calls a2_0 ji4 ji5 true _ A6.out).mono ?_); rintro e w' ⟨rfl, ⟨nd, rfl⟩⟩; refine ⟨_, rfl, ?_⟩) | (go_at_call 76; (with_reducible refine (plane_within.calls a2_1 ji8 ji9 t134 _ A10.out).mono ?_); rintro e w' ⟨rfl, ⟨nd, rfl⟩⟩))
    go_ret
    exact ⟨by first | rfl | (simp [errW_none, errW_some] <;> rfl) | (simp only [← hji4, ← hji5, ← hji8, ← hji9]; first | rfl | (simp [errW_none, errW_some] <;> rfl)) | (simp [*, errW_none, errW_some] <;> rfl), by repeat (first | (with_reducible first | exact HB.out | apply below_alloc | apply pw_below_drewN | apply below_drew1 | refine below_set ?_ GE130.out | refine below_set ?_ GE131.out | refine below_set ?_ GE132.out) | exact HB.out)⟩
  · replace c7 := Bool.eq_false_iff.mpr c7
    subst c7
    have H1 : (some false) = some r := by rw [if_neg (show ¬ (false = true) by decide)] at H; exact H
    clear H
    have H := H1
    clear H1
    obtain rfl := Option.some.inj H
    go_enter Try.func129, Try.ntmps129
    go_wp2_with (first | ((with_reducible refine gate_dst (N := 3) rfl ?_); (try (refine gate_guard (by rfl) ?_; dsimp only)); refine box_event ?hg (N := 3) ?hd (cs := #[.int .i64 a0_0, .int .i64 a0_1]) (t := 23) ?hr ?_; (case hd => rfl); (case hg => rfl); (case hr => first | (go_simp; done) | (go_simp; rfl)); intro gb130 hg w20 hbox hb; have n0_ := Aside0.mk (below_step (by repeat (first | (with_reducible first | exact HB.out | apply below_alloc | apply pw_below_drewN | apply below_drew1) | exact HB.out)) hb); have n1_ := Aside0.mk (hbox); have n2_ := Aside0.mk ((by rw [hg]; exact (below_size (by repeat (first | (with_reducible first | exact HB.out | apply below_alloc | apply pw_below_drewN | apply below_drew1) | exact HB.out))) : w.heap.size ≤ gb130)); have n3_ := Aside0.mk ((by rw [hg]; exact (below_size (by repeat (first | (with_reducible first | exact HB.out | apply below_alloc | apply pw_below_drewN | apply below_drew1) | exact HB.out))) : w.heap.size ≤ gb130)); clear HB; have HB := n0_; have BK130 := n1_; have GW130 := n2_; have GE130 := n3_; clear n0_ n1_ n2_ n3_; clear hb hbox hg) | ((with_reducible refine gate_dst (N := 4) rfl ?_); (try (refine gate_guard (by rfl) ?_; dsimp only)); refine box_event ?hg (N := 4) ?hd (cs := #[.int .i64 a1_0, .int .i64 a1_1]) (t := 23) ?hr ?_; (case hd => rfl); (case hg => rfl); (case hr => first | (go_simp; done) | (go_simp; rfl)); intro gb131 hg w21 hbox hb; have n0_ := Aside0.mk (blk_below (g := gb130) (o := .cells #[.int .i64 a0_0, .int .i64 a0_1] 23 (0, 0)) (by (with_reducible repeat (first | refine blk_drewN ?_ _ | refine blk_drew ?_ | refine blk_alloc ?_ _)); exact BK130.out) hb); have n1_ := Aside0.mk (below_step (by repeat (first | (with_reducible first | exact HB.out | apply below_alloc | apply pw_below_drewN | apply below_drew1 | refine below_set ?_ GE130.out) | exact HB.out)) hb); have n2_ := Aside0.mk (hbox); have n3_ := Aside0.mk ((by rw [hg]; exact (below_size (by repeat (first | (with_reducible first | exact HB.out | apply below_alloc | apply pw_below_drewN | apply below_drew1 | refine below_set ?_ GE130.out) | exact HB.out))) : w.heap.size ≤ gb131)); have n4_ := Aside0.mk ((by rw [hg]; exact (below_size (by repeat (first | (with_reducible first | exact HB.out | apply below_alloc | apply pw_below_drewN | apply below_drew1 | refine below_set ?_ GE130.out) | exact HB.out))) : w.heap.size ≤ gb131)); have n5_ := Aside0.mk ((by rw [hg]; exact Nat.ne_of_lt (blk_lt (g := gb130) (o := .cells #[.int .i64 a0_0, .int .i64 a0_1] 23 (0, 0)) (by (with_reducible repeat (first | refine blk_drewN ?_ _ | refine blk_drew ?_ | refine blk_alloc ?_ _)); exact BK130.out)) : gb130 ≠ gb131)); have n6_ := Aside0.mk ((by rw [hg]; exact Nat.ne_of_gt (blk_lt (g := gb130) (o := .cells #[.int .i64 a0_0, .int .i64 a0_1] 23 (0, 0)) (by (with_reducible repeat (first | refine blk_drewN ?_ _ | refine blk_drew ?_ | refine blk_alloc ?_ _)); exact BK130.out)) : gb131 ≠ gb130)); clear BK130; clear HB; have BK130 := n0_; have HB := n1_; have BK131 := n2_; have GW131 := n3_; have GE131 := n4_; have NB130_131 := n5_; have NB131_130 := n6_; clear n0_ n1_ n2_ n3_ n4_ n5_ n6_; clear hb hbox hg) | ((with_reducible refine gate_dst (N := 5) rfl ?_); (try (refine gate_guard (by rfl) ?_; dsimp only)); refine box_event ?hg (N := 5) ?hd (cs := #[.int .i64 a2_0, .int .i64 a2_1]) (t := 23) ?hr ?_; (case hd => rfl); (case hg => rfl); (case hr => first | (go_simp; done) | (go_simp; rfl)); intro gb132 hg w22 hbox hb; have n0_ := Aside0.mk (blk_below (g := gb130) (o := .cells #[.int .i64 a0_0, .int .i64 a0_1] 23 (0, 0)) (by (with_reducible repeat (first | refine blk_drewN ?_ _ | refine blk_drew ?_ | refine blk_alloc ?_ _)); exact BK130.out) hb); have n1_ := Aside0.mk (blk_below (g := gb131) (o := .cells #[.int .i64 a1_0, .int .i64 a1_1] 23 (0, 0)) (by (with_reducible repeat (first | refine blk_drewN ?_ _ | refine blk_drew ?_ | refine blk_alloc ?_ _)); exact BK131.out) hb); have n2_ := Aside0.mk (below_step (by repeat (first | (with_reducible first | exact HB.out | apply below_alloc | apply pw_below_drewN | apply below_drew1 | refine below_set ?_ GE130.out | refine below_set ?_ GE131.out) | exact HB.out)) hb); have n3_ := Aside0.mk (hbox); have n4_ := Aside0.mk ((by rw [hg]; exact (below_size (by repeat (first | (with_reducible first | exact HB.out | apply below_alloc | apply pw_below_drewN | apply below_drew1 | refine below_set ?_ GE130.out | refine below_set ?_ GE131.out) | exact HB.out))) : w.heap.size ≤ gb132)); have n5_ := Aside0.mk ((by rw [hg]; exact (below_size (by repeat (first | (with_reducible first | exact HB.out | apply below_alloc | apply pw_below_drewN | apply below_drew1 | refine below_set ?_ GE130.out | refine below_set ?_ GE131.out) | exact HB.out))) : w.heap.size ≤ gb132)); have n6_ := Aside0.mk ((by rw [hg]; exact Nat.ne_of_lt (blk_lt (g := gb130) (o := .cells #[.int .i64 a0_0, .int .i64 a0_1] 23 (0, 0)) (by (with_reducible repeat (first | refine blk_drewN ?_ _ | refine blk_drew ?_ | refine blk_alloc ?_ _)); exact BK130.out)) : gb130 ≠ gb132)); have n7_ := Aside0.mk ((by rw [hg]; exact Nat.ne_of_gt (blk_lt (g := gb130) (o := .cells #[.int .i64 a0_0, .int .i64 a0_1] 23 (0, 0)) (by (with_reducible repeat (first | refine blk_drewN ?_ _ | refine blk_drew ?_ | refine blk_alloc ?_ _)); exact BK130.out)) : gb132 ≠ gb130)); have n8_ := Aside0.mk ((by rw [hg]; exact Nat.ne_of_lt (blk_lt (g := gb131) (o := .cells #[.int .i64 a1_0, .int .i64 a1_1] 23 (0, 0)) (by (with_reducible repeat (first | refine blk_drewN ?_ _ | refine blk_drew ?_ | refine blk_alloc ?_ _)); exact BK131.out)) : gb131 ≠ gb132)); have n9_ := Aside0.mk ((by rw [hg]; exact Nat.ne_of_gt (blk_lt (g := gb131) (o := .cells #[.int .i64 a1_0, .int .i64 a1_1] 23 (0, 0)) (by (with_reducible repeat (first | refine blk_drewN ?_ _ | refine blk_drew ?_ | refine blk_alloc ?_ _)); exact BK131.out)) : gb132 ≠ gb131)); clear BK130; clear BK131; clear HB; have BK130 := n0_; have BK131 := n1_; have HB := n2_; have BK132 := n3_; have GW132 := n4_; have GE132 := n5_; have NB130_132 := n6_; have NB132_130 := n7_; have NB131_132 := n8_; have NB132_131 := n9_; clear n0_ n1_ n2_ n3_ n4_ n5_ n6_ n7_ n8_ n9_; clear hb hbox hg; have hnb23 := NB132_130.out; have hnc23 := NB130_132.out; have hnb24 := NB132_131.out; have hnc24 := NB131_132.out; have hcz25_0 : w22.cell? ⟨gb132, 0, none⟩ = some (.int .i64 a2_0) := (blk_cell BK132.out 0).trans rfl; have hcz25_1 : w22.cell? ⟨gb132, 1, none⟩ = some (.int .i64 a2_1) := (blk_cell BK132.out 1).trans rfl; have hfz25_0 := blk_frozen BK132.out 0; have hfz25_1 := blk_frozen BK132.out 1; have hnb26 := NB130_131.out; have hnc26 := NB131_130.out; have hcz27_0 : w22.cell? ⟨gb130, 0, none⟩ = some (.int .i64 a0_0) := (blk_cell BK130.out 0).trans rfl; have hcz27_1 : w22.cell? ⟨gb130, 1, none⟩ = some (.int .i64 a0_1) := (blk_cell BK130.out 1).trans rfl; have hfz27_0 := blk_frozen BK130.out 0; have hfz27_1 := blk_frozen BK130.out 1; have hcz28_0 : w22.cell? ⟨gb131, 0, none⟩ = some (.int .i64 a1_0) := (blk_cell BK131.out 0).trans rfl; have hcz28_1 : w22.cell? ⟨gb131, 1, none⟩ = some (.int .i64 a1_1) := (blk_cell BK131.out 1).trans rfl; have hfz28_0 := blk_frozen BK131.out 0; have hfz28_1 := blk_frozen BK131.out 1) | ((with_reducible refine gate_callee (f := 76) rfl ?_); refine goesL_ (some 19) rfl rfl Try.func76 (by kernel_rfl) rfl #[.int .i64 a2_0, .int .i64 ji4, .int .i64 ji5] rfl (by (try simp only [List.map_toArray, List.map_cons, List.map_nil]); first | done | (simp only [hji4, hji5]; rfl) | rfl | (simp only [List.length_drop, List.length_take]; rfl)) ?_; (with_reducible refine (plane_within.calls a2_0 ji4 ji5 false _ A6.out).mono ?_); rintro e w' ⟨rfl, ⟨nd, rfl⟩⟩; refine ⟨_, rfl, ?_⟩))
    go_ret
    exact ⟨by first | rfl | (simp [errW_none, errW_some] <;> rfl) | (simp only [← hji4, ← hji5]; first | rfl | (simp [errW_none, errW_some] <;> rfl)) | (simp [*, errW_none, errW_some] <;> rfl), by repeat (first | (with_reducible first | exact HB.out | apply below_alloc | apply pw_below_drewN | apply below_drew1 | refine below_set ?_ GE130.out | refine below_set ?_ GE131.out | refine below_set ?_ GE132.out) | exact HB.out)⟩
end Go.Proofs.Ytckaejgamfllfaa.G
end

section
namespace Go.Proofs.Ytckaejgamfllfaa.G
open Go.RowKit Go.Proofs.YtckaejgamfllfaaW.PrintWords Go.Proofs.YtckaejgamfllfaaW.PrintLast Go.Proofs.YtckaejgamfllfaaW.PrintMore
attribute [local go_sem] max2_int min2_int max_two min_two max_three min_three max_four min_four
set_option linter.unusedVariables false
set_option linter.unusedSimpArgs false
def plane_on.f (a0_0 : Int) (a0_1 : Int) (a1_0 : Int) (a1_1 : Int) (a2_0 : Int) (a2_1 : Int) : Option (Bool) := (plane_twice.f a0_0 a0_1 a1_0 a1_1 a2_0 a2_1).bind fun t138 => (if t138 = 0 then ((plane_between.f a0_0 a0_1 a1_0 a1_1 a2_0 a2_1).bind fun t139 => (some t139)) else (some false))
set_option maxHeartbeats 8000000 in
set_option maxRecDepth 100000 in
theorem plane_on.calls (a0_0 : Int) (a0_1 : Int) (a1_0 : Int) (a1_1 : Int) (a2_0 : Int) (a2_1 : Int) (r : Bool) (w : World) (h : plane_on.f a0_0 a0_1 a1_0 a1_1 a2_0 a2_1 = some r) :
    Calls Try.prog 88 #[.agg #[.int .i64 a0_0, .int .i64 a0_1], .agg #[.int .i64 a1_0, .int .i64 a1_1], .agg #[.int .i64 a2_0, .int .i64 a2_1]] w fun e w' => e = .returned (.bool r) ∧ Below w.heap.size w w' := by
  have hu23 := Try.underlying23
  have HB := Aside0.mk (Below.refl w.heap.size w)
  have H : ((plane_twice.f a0_0 a0_1 a1_0 a1_1 a2_0 a2_1).bind fun t138 => (if t138 = 0 then ((plane_between.f a0_0 a0_1 a1_0 a1_1 a2_0 a2_1).bind fun t139 => (some t139)) else (some false))) = some r := h
  clear h
  replace H := Option.bind_eq_some_iff.mp H
  obtain ⟨t138, A40, H⟩ := H
  replace H : (if t138 = 0 then ((plane_between.f a0_0 a0_1 a1_0 a1_1 a2_0 a2_1).bind fun t139 => (some t139)) else (some false)) = some r := H
  have A4 := Aside0.mk A40
  clear A40
  by_cases c5 : t138 = 0
  · rw [if_pos c5] at H
    have c5b0 : (t138 == 0) = true := beq_iff_eq.mpr c5
    have c5b1 : (t138 != 0) = false := bne_eq_false_iff_eq.mpr c5
    clear c5
    replace H := Option.bind_eq_some_iff.mp H
    obtain ⟨t139, A60, H⟩ := H
    replace H : (some t139) = some r := H
    have A6 := Aside0.mk A60
    clear A60
    obtain rfl := Option.some.inj H
    go_enter Try.func88, Try.ntmps88
    go_wp2_with (first | ((with_reducible refine gate_dst (N := 3) rfl ?_); refine box_event ?hg (N := 3) ?hd (cs := #[.int .i64 a0_0, .int .i64 a0_1]) (t := 23) ?hr ?_; (case hd => rfl); (case hg => rfl); (case hr => first | (go_simp; done) | (go_simp; rfl)); intro gb135 hg w7 hbox hb; have n0_ := Aside0.mk (below_step (by repeat (first | (with_reducible first | exact HB.out | apply below_alloc | apply pw_below_drewN | apply below_drew1) | exact HB.out)) hb); have n1_ := Aside0.mk (hbox); have n2_ := Aside0.mk ((by rw [hg]; exact (below_size (by repeat (first | (with_reducible first | exact HB.out | apply below_alloc | apply pw_below_drewN | apply below_drew1) | exact HB.out))) : w.heap.size ≤ gb135)); have n3_ := Aside0.mk ((by rw [hg]; exact (below_size (by repeat (first | (with_reducible first | exact HB.out | apply below_alloc | apply pw_below_drewN | apply below_drew1) | exact HB.out))) : w.heap.size ≤ gb135)); clear HB; have HB := n0_; have BK135 := n1_; have GW135 := n2_; have GE135 := n3_; clear n0_ n1_ n2_ n3_; clear hb hbox hg) | ((with_reducible refine gate_dst (N := 4) rfl ?_); refine box_event ?hg (N := 4) ?hd (cs := #[.int .i64 a1_0, .int .i64 a1_1]) (t := 23) ?hr ?_; (case hd => rfl); (case hg => rfl); (case hr => first | (go_simp; done) | (go_simp; rfl)); intro gb136 hg w8 hbox hb; have n0_ := Aside0.mk (blk_below (g := gb135) (o := .cells #[.int .i64 a0_0, .int .i64 a0_1] 23 (0, 0)) (by (with_reducible repeat (first | refine blk_drewN ?_ _ | refine blk_drew ?_ | refine blk_alloc ?_ _)); exact BK135.out) hb); have n1_ := Aside0.mk (below_step (by repeat (first | (with_reducible first | exact HB.out | apply below_alloc | apply pw_below_drewN | apply below_drew1 | refine below_set ?_ GE135.out) | exact HB.out)) hb); have n2_ := Aside0.mk (hbox); have n3_ := Aside0.mk ((by rw [hg]; exact (below_size (by repeat (first | (with_reducible first | exact HB.out | apply below_alloc | apply pw_below_drewN | apply below_drew1 | refine below_set ?_ GE135.out) | exact HB.out))) : w.heap.size ≤ gb136)); have n4_ := Aside0.mk ((by rw [hg]; exact (below_size (by repeat (first | (with_reducible first | exact HB.out | apply below_alloc | apply pw_below_drewN | apply below_drew1 | refine below_set ?_ GE135.out) | exact HB.out))) : w.heap.size ≤ gb136)); have n5_ := Aside0.mk ((by rw [hg]; exact Nat.ne_of_lt (blk_lt (g := gb135) (o := .cells #[.int .i64 a0_0, .int .i64 a0_1] 23 (0, 0)) (by (with_reducible repeat (first | refine blk_drewN ?_ _ | refine blk_drew ?_ | refine blk_alloc ?_ _)); exact BK135.out)) : gb135 ≠ gb136)); have n6_ := Aside0.mk ((by rw [hg]; exact Nat.ne_of_gt (blk_lt (g := gb135) (o := .cells #[.int .i64 a0_0, .int .i64 a0_1] 23 (0, 0)) (by (with_reducible repeat (first | refine blk_drewN ?_ _ | refine blk_drew ?_ | refine blk_alloc ?_ _)); exact BK135.out)) : gb136 ≠ gb135)); clear BK135; clear HB; have BK135 := n0_; have HB := n1_; have BK136 := n2_; have GW136 := n3_; have GE136 := n4_; have NB135_136 := n5_; have NB136_135 := n6_; clear n0_ n1_ n2_ n3_ n4_ n5_ n6_; clear hb hbox hg) | ((with_reducible refine gate_dst (N := 5) rfl ?_); refine box_event ?hg (N := 5) ?hd (cs := #[.int .i64 a2_0, .int .i64 a2_1]) (t := 23) ?hr ?_; (case hd => rfl); (case hg => rfl); (case hr => first | (go_simp; done) | (go_simp; rfl)); intro gb137 hg w9 hbox hb; have n0_ := Aside0.mk (blk_below (g := gb135) (o := .cells #[.int .i64 a0_0, .int .i64 a0_1] 23 (0, 0)) (by (with_reducible repeat (first | refine blk_drewN ?_ _ | refine blk_drew ?_ | refine blk_alloc ?_ _)); exact BK135.out) hb); have n1_ := Aside0.mk (blk_below (g := gb136) (o := .cells #[.int .i64 a1_0, .int .i64 a1_1] 23 (0, 0)) (by (with_reducible repeat (first | refine blk_drewN ?_ _ | refine blk_drew ?_ | refine blk_alloc ?_ _)); exact BK136.out) hb); have n2_ := Aside0.mk (below_step (by repeat (first | (with_reducible first | exact HB.out | apply below_alloc | apply pw_below_drewN | apply below_drew1 | refine below_set ?_ GE135.out | refine below_set ?_ GE136.out) | exact HB.out)) hb); have n3_ := Aside0.mk (hbox); have n4_ := Aside0.mk ((by rw [hg]; exact (below_size (by repeat (first | (with_reducible first | exact HB.out | apply below_alloc | apply pw_below_drewN | apply below_drew1 | refine below_set ?_ GE135.out | refine below_set ?_ GE136.out) | exact HB.out))) : w.heap.size ≤ gb137)); have n5_ := Aside0.mk ((by rw [hg]; exact (below_size (by repeat (first | (with_reducible first | exact HB.out | apply below_alloc | apply pw_below_drewN | apply below_drew1 | refine below_set ?_ GE135.out | refine below_set ?_ GE136.out) | exact HB.out))) : w.heap.size ≤ gb137)); have n6_ := Aside0.mk ((by rw [hg]; exact Nat.ne_of_lt (blk_lt (g := gb135) (o := .cells #[.int .i64 a0_0, .int .i64 a0_1] 23 (0, 0)) (by (with_reducible repeat (first | refine blk_drewN ?_ _ | refine blk_drew ?_ | refine blk_alloc ?_ _)); exact BK135.out)) : gb135 ≠ gb137)); have n7_ := Aside0.mk ((by rw [hg]; exact Nat.ne_of_gt (blk_lt (g := gb135) (o := .cells #[.int .i64 a0_0, .int .i64 a0_1] 23 (0, 0)) (by (with_reducible repeat (first | refine blk_drewN ?_ _ | refine blk_drew ?_ | refine blk_alloc ?_ _)); exact BK135.out)) : gb137 ≠ gb135)); have n8_ := Aside0.mk ((by rw [hg]; exact Nat.ne_of_lt (blk_lt (g := gb136) (o := .cells #[.int .i64 a1_0, .int .i64 a1_1] 23 (0, 0)) (by (with_reducible repeat (first | refine blk_drewN ?_ _ | refine blk_drew ?_ | refine blk_alloc ?_ _)); exact BK136.out)) : gb136 ≠ gb137)); have n9_ := Aside0.mk ((by rw [hg]; exact Nat.ne_of_gt (blk_lt (g := gb136) (o := .cells #[.int .i64 a1_0, .int .i64 a1_1] 23 (0, 0)) (by (with_reducible repeat (first | refine blk_drewN ?_ _ | refine blk_drew ?_ | refine blk_alloc ?_ _)); exact BK136.out)) : gb137 ≠ gb136)); clear BK135; clear BK136; clear HB; have BK135 := n0_; have BK136 := n1_; have HB := n2_; have BK137 := n3_; have GW137 := n4_; have GE137 := n5_; have NB135_137 := n6_; have NB137_135 := n7_; have NB136_137 := n8_; have NB137_136 := n9_; clear n0_ n1_ n2_ n3_ n4_ n5_ n6_ n7_ n8_ n9_; clear hb hbox hg; have hnb10 := NB135_136.out; have hnc10 := NB136_135.out; have hnb11 := NB135_137.out; have hnc11 := NB137_135.out; have hcz12_0 : w9.cell? ⟨gb135, 0, none⟩ = some (.int .i64 a0_0) := (blk_cell BK135.out 0).trans rfl; have hcz12_1 : w9.cell? ⟨gb135, 1, none⟩ = some (.int .i64 a0_1) := (blk_cell BK135.out 1).trans rfl; have hfz12_0 := blk_frozen BK135.out 0; have hfz12_1 := blk_frozen BK135.out 1; have hnb13 := NB136_137.out; have hnc13 := NB137_136.out; have hcz14_0 : w9.cell? ⟨gb136, 0, none⟩ = some (.int .i64 a1_0) := (blk_cell BK136.out 0).trans rfl; have hcz14_1 : w9.cell? ⟨gb136, 1, none⟩ = some (.int .i64 a1_1) := (blk_cell BK136.out 1).trans rfl; have hfz14_0 := blk_frozen BK136.out 0; have hfz14_1 := blk_frozen BK136.out 1; have hcz15_0 : w9.cell? ⟨gb137, 0, none⟩ = some (.int .i64 a2_0) := (blk_cell BK137.out 0).trans rfl; have hcz15_1 : w9.cell? ⟨gb137, 1, none⟩ = some (.int .i64 a2_1) := (blk_cell BK137.out 1).trans rfl; have hfz15_0 := blk_frozen BK137.out 0; have hfz15_1 := blk_frozen BK137.out 1) | ((with_reducible refine gate_callee (f := 80) rfl ?_); refine goesL_ (some 10) rfl rfl Try.func80 (by kernel_rfl) rfl #[.agg #[.int .i64 a0_0, .int .i64 a0_1], .agg #[.int .i64 a1_0, .int .i64 a1_1], .agg #[.int .i64 a2_0, .int .i64 a2_1]] rfl (by (try simp only [List.map_toArray, List.map_cons, List.map_nil]); first | done | rfl | (simp only [List.length_drop, List.length_take]; rfl)) ?_; (with_reducible refine (plane_twice.calls a0_0 a0_1 a1_0 a1_1 a2_0 a2_1 t138 _ A4.out).mono ?_); rintro e w16 ⟨rfl, hb⟩; refine ⟨_, rfl, ?_⟩; have n0_ := Aside0.mk (blk_below (g := gb135) (o := .cells #[.int .i64 a0_0, .int .i64 a0_1] 23 (0, 0)) (by (with_reducible repeat (first | refine blk_drewN ?_ _ | refine blk_drew ?_ | refine blk_alloc ?_ _)); exact BK135.out) hb); have n1_ := Aside0.mk (blk_below (g := gb136) (o := .cells #[.int .i64 a1_0, .int .i64 a1_1] 23 (0, 0)) (by (with_reducible repeat (first | refine blk_drewN ?_ _ | refine blk_drew ?_ | refine blk_alloc ?_ _)); exact BK136.out) hb); have n2_ := Aside0.mk (blk_below (g := gb137) (o := .cells #[.int .i64 a2_0, .int .i64 a2_1] 23 (0, 0)) (by (with_reducible repeat (first | refine blk_drewN ?_ _ | refine blk_drew ?_ | refine blk_alloc ?_ _)); exact BK137.out) hb); have n3_ := Aside0.mk (below_step (by repeat (first | (with_reducible first | exact HB.out | apply below_alloc | apply pw_below_drewN | apply below_drew1 | refine below_set ?_ GE135.out | refine below_set ?_ GE136.out | refine below_set ?_ GE137.out) | exact HB.out)) hb); clear BK135; clear BK136; clear BK137; clear HB; have BK135 := n0_; have BK136 := n1_; have BK137 := n2_; have HB := n3_; clear n0_ n1_ n2_ n3_; (try clear hb); (try clear hb2); (try clear hk); (try clear hi); have hcz17_0 : w16.cell? ⟨gb135, 0, none⟩ = some (.int .i64 a0_0) := (blk_cell BK135.out 0).trans rfl; have hcz17_1 : w16.cell? ⟨gb135, 1, none⟩ = some (.int .i64 a0_1) := (blk_cell BK135.out 1).trans rfl; have hfz17_0 := blk_frozen BK135.out 0; have hfz17_1 := blk_frozen BK135.out 1; have hcz18_0 : w16.cell? ⟨gb136, 0, none⟩ = some (.int .i64 a1_0) := (blk_cell BK136.out 0).trans rfl; have hcz18_1 : w16.cell? ⟨gb136, 1, none⟩ = some (.int .i64 a1_1) := (blk_cell BK136.out 1).trans rfl; have hfz18_0 := blk_frozen BK136.out 0; have hfz18_1 := blk_frozen BK136.out 1; have hcz19_0 : w16.cell? ⟨gb137, 0, none⟩ = some (.int .i64 a2_0) := (blk_cell BK137.out 0).trans rfl; have hcz19_1 : w16.cell? ⟨gb137, 1, none⟩ = some (.int .i64 a2_1) := (blk_cell BK137.out 1).trans rfl; have hfz19_0 := blk_frozen BK137.out 0; have hfz19_1 := blk_frozen BK137.out 1) | (go_at_call 129; (with_reducible refine (plane_between.calls a0_0 a0_1 a1_0 a1_1 a2_0 a2_1 t139 _ A6.out).mono ?_); rintro e w20 ⟨rfl, hb⟩; have n0_ := Aside0.mk (blk_below (g := gb135) (o := .cells #[.int .i64 a0_0, .int .i64 a0_1] 23 (0, 0)) (by (with_reducible repeat (first | refine blk_drewN ?_ _ | refine blk_drew ?_ | refine blk_alloc ?_ _)); exact BK135.out) hb); have n1_ := Aside0.mk (blk_below (g := gb136) (o := .cells #[.int .i64 a1_0, .int .i64 a1_1] 23 (0, 0)) (by (with_reducible repeat (first | refine blk_drewN ?_ _ | refine blk_drew ?_ | refine blk_alloc ?_ _)); exact BK136.out) hb); have n2_ := Aside0.mk (blk_below (g := gb137) (o := .cells #[.int .i64 a2_0, .int .i64 a2_1] 23 (0, 0)) (by (with_reducible repeat (first | refine blk_drewN ?_ _ | refine blk_drew ?_ | refine blk_alloc ?_ _)); exact BK137.out) hb); have n3_ := Aside0.mk (below_step (by repeat (first | (with_reducible first | exact HB.out | apply below_alloc | apply pw_below_drewN | apply below_drew1 | refine below_set ?_ GE135.out | refine below_set ?_ GE136.out | refine below_set ?_ GE137.out) | exact HB.out)) hb); clear BK135; clear BK136; clear BK137; clear HB; have BK135 := n0_; have BK136 := n1_; have BK137 := n2_; have HB := n3_; clear n0_ n1_ n2_ n3_; (try clear hb); (try clear hb2); (try clear hk); (try clear hi)))
    go_ret
    exact ⟨by first | rfl | (simp [errW_none, errW_some] <;> rfl) | (simp [*, errW_none, errW_some] <;> rfl), by repeat (first | (with_reducible first | exact HB.out | apply below_alloc | apply pw_below_drewN | apply below_drew1 | refine below_set ?_ GE135.out | refine below_set ?_ GE136.out | refine below_set ?_ GE137.out) | exact HB.out)⟩
  · rw [if_neg c5] at H
    have c5b0 : (t138 == 0) = false := beq_eq_false_iff_ne.mpr c5
    have c5b1 : (t138 != 0) = true := bne_iff_ne.mpr c5
    obtain rfl := Option.some.inj H
    go_enter Try.func88, Try.ntmps88
    go_wp2_with (first | ((with_reducible refine gate_dst (N := 3) rfl ?_); refine box_event ?hg (N := 3) ?hd (cs := #[.int .i64 a0_0, .int .i64 a0_1]) (t := 23) ?hr ?_; (case hd => rfl); (case hg => rfl); (case hr => first | (go_simp; done) | (go_simp; rfl)); intro gb135 hg w21 hbox hb; have n0_ := Aside0.mk (below_step (by repeat (first | (with_reducible first | exact HB.out | apply below_alloc | apply pw_below_drewN | apply below_drew1) | exact HB.out)) hb); have n1_ := Aside0.mk (hbox); have n2_ := Aside0.mk ((by rw [hg]; exact (below_size (by repeat (first | (with_reducible first | exact HB.out | apply below_alloc | apply pw_below_drewN | apply below_drew1) | exact HB.out))) : w.heap.size ≤ gb135)); have n3_ := Aside0.mk ((by rw [hg]; exact (below_size (by repeat (first | (with_reducible first | exact HB.out | apply below_alloc | apply pw_below_drewN | apply below_drew1) | exact HB.out))) : w.heap.size ≤ gb135)); clear HB; have HB := n0_; have BK135 := n1_; have GW135 := n2_; have GE135 := n3_; clear n0_ n1_ n2_ n3_; clear hb hbox hg) | ((with_reducible refine gate_dst (N := 4) rfl ?_); refine box_event ?hg (N := 4) ?hd (cs := #[.int .i64 a1_0, .int .i64 a1_1]) (t := 23) ?hr ?_; (case hd => rfl); (case hg => rfl); (case hr => first | (go_simp; done) | (go_simp; rfl)); intro gb136 hg w22 hbox hb; have n0_ := Aside0.mk (blk_below (g := gb135) (o := .cells #[.int .i64 a0_0, .int .i64 a0_1] 23 (0, 0)) (by (with_reducible repeat (first | refine blk_drewN ?_ _ | refine blk_drew ?_ | refine blk_alloc ?_ _)); exact BK135.out) hb); have n1_ := Aside0.mk (below_step (by repeat (first | (with_reducible first | exact HB.out | apply below_alloc | apply pw_below_drewN | apply below_drew1 | refine below_set ?_ GE135.out) | exact HB.out)) hb); have n2_ := Aside0.mk (hbox); have n3_ := Aside0.mk ((by rw [hg]; exact (below_size (by repeat (first | (with_reducible first | exact HB.out | apply below_alloc | apply pw_below_drewN | apply below_drew1 | refine below_set ?_ GE135.out) | exact HB.out))) : w.heap.size ≤ gb136)); have n4_ := Aside0.mk ((by rw [hg]; exact (below_size (by repeat (first | (with_reducible first | exact HB.out | apply below_alloc | apply pw_below_drewN | apply below_drew1 | refine below_set ?_ GE135.out) | exact HB.out))) : w.heap.size ≤ gb136)); have n5_ := Aside0.mk ((by rw [hg]; exact Nat.ne_of_lt (blk_lt (g := gb135) (o := .cells #[.int .i64 a0_0, .int .i64 a0_1] 23 (0, 0)) (by (with_reducible repeat (first | refine blk_drewN ?_ _ | refine blk_drew ?_ | refine blk_alloc ?_ _)); exact BK135.out)) : gb135 ≠ gb136)); have n6_ := Aside0.mk ((by rw [hg]; exact Nat.ne_of_gt (blk_lt (g := gb135) (o := .cells #[.int .i64 a0_0, .int .i64 a0_1] 23 (0, 0)) (by (with_reducible repeat (first | refine blk_drewN ?_ _ | refine blk_drew ?_ | refine blk_alloc ?_ _)); exact BK135.out)) : gb136 ≠ gb135)); clear BK135; clear HB; have BK135 := n0_; have HB := n1_; have BK136 := n2_; have GW136 := n3_; have GE136 := n4_; have NB135_136 := n5_; have NB136_135 := n6_; clear n0_ n1_ n2_ n3_ n4_ n5_ n6_; clear hb hbox hg) | ((with_reducible refine gate_dst (N := 5) rfl ?_); refine box_event ?hg (N := 5) ?hd (cs := #[.int .i64 a2_0, .int .i64 a2_1]) (t := 23) ?hr ?_; (case hd => rfl); (case hg => rfl); (case hr => first | (go_simp; done) | (go_simp; rfl)); intro gb137 hg w23 hbox hb; have n0_ := Aside0.mk (blk_below (g := gb135) (o := .cells #[.int .i64 a0_0, .int .i64 a0_1] 23 (0, 0)) (by (with_reducible repeat (first | refine blk_drewN ?_ _ | refine blk_drew ?_ | refine blk_alloc ?_ _)); exact BK135.out) hb); have n1_ := Aside0.mk (blk_below (g := gb136) (o := .cells #[.int .i64 a1_0, .int .i64 a1_1] 23 (0, 0)) (by (with_reducible repeat (first | refine blk_drewN ?_ _ | refine blk_drew ?_ | refine blk_alloc ?_ _)); exact BK136.out) hb); have n2_ := Aside0.mk (below_step (by repeat (first | (with_reducible first | exact HB.out | apply below_alloc | apply pw_below_drewN | apply below_drew1 | refine below_set ?_ GE135.out | refine below_set ?_ GE136.out) | exact HB.out)) hb); have n3_ := Aside0.mk (hbox); have n4_ := Aside0.mk ((by rw [hg]; exact (below_size (by repeat (first | (with_reducible first | exact HB.out | apply below_alloc | apply pw_below_drewN | apply below_drew1 | refine below_set ?_ GE135.out | refine below_set ?_ GE136.out) | exact HB.out))) : w.heap.size ≤ gb137)); have n5_ := Aside0.mk ((by rw [hg]; exact (below_size (by repeat (first | (with_reducible first | exact HB.out | apply below_alloc | apply pw_below_drewN | apply below_drew1 | refine below_set ?_ GE135.out | refine below_set ?_ GE136.out) | exact HB.out))) : w.heap.size ≤ gb137)); have n6_ := Aside0.mk ((by rw [hg]; exact Nat.ne_of_lt (blk_lt (g := gb135) (o := .cells #[.int .i64 a0_0, .int .i64 a0_1] 23 (0, 0)) (by (with_reducible repeat (first | refine blk_drewN ?_ _ | refine blk_drew ?_ | refine blk_alloc ?_ _)); exact BK135.out)) : gb135 ≠ gb137)); have n7_ := Aside0.mk ((by rw [hg]; exact Nat.ne_of_gt (blk_lt (g := gb135) (o := .cells #[.int .i64 a0_0, .int .i64 a0_1] 23 (0, 0)) (by (with_reducible repeat (first | refine blk_drewN ?_ _ | refine blk_drew ?_ | refine blk_alloc ?_ _)); exact BK135.out)) : gb137 ≠ gb135)); have n8_ := Aside0.mk ((by rw [hg]; exact Nat.ne_of_lt (blk_lt (g := gb136) (o := .cells #[.int .i64 a1_0, .int .i64 a1_1] 23 (0, 0)) (by (with_reducible repeat (first | refine blk_drewN ?_ _ | refine blk_drew ?_ | refine blk_alloc ?_ _)); exact BK136.out)) : gb136 ≠ gb137)); have n9_ := Aside0.mk ((by rw [hg]; exact Nat.ne_of_gt (blk_lt (g := gb136) (o := .cells #[.int .i64 a1_0, .int .i64 a1_1] 23 (0, 0)) (by (with_reducible repeat (first | refine blk_drewN ?_ _ | refine blk_drew ?_ | refine blk_alloc ?_ _)); exact BK136.out)) : gb137 ≠ gb136)); clear BK135; clear BK136; clear HB; have BK135 := n0_; have BK136 := n1_; have HB := n2_; have BK137 := n3_; have GW137 := n4_; have GE137 := n5_; have NB135_137 := n6_; have NB137_135 := n7_; have NB136_137 := n8_; have NB137_136 := n9_; clear n0_ n1_ n2_ n3_ n4_ n5_ n6_ n7_ n8_ n9_; clear hb hbox hg; have hnb24 := NB135_136.out; have hnc24 := NB136_135.out; have hnb25 := NB135_137.out; have hnc25 := NB137_135.out; have hcz26_0 : w23.cell? ⟨gb135, 0, none⟩ = some (.int .i64 a0_0) := (blk_cell BK135.out 0).trans rfl; have hcz26_1 : w23.cell? ⟨gb135, 1, none⟩ = some (.int .i64 a0_1) := (blk_cell BK135.out 1).trans rfl; have hfz26_0 := blk_frozen BK135.out 0; have hfz26_1 := blk_frozen BK135.out 1; have hnb27 := NB136_137.out; have hnc27 := NB137_136.out; have hcz28_0 : w23.cell? ⟨gb136, 0, none⟩ = some (.int .i64 a1_0) := (blk_cell BK136.out 0).trans rfl; have hcz28_1 : w23.cell? ⟨gb136, 1, none⟩ = some (.int .i64 a1_1) := (blk_cell BK136.out 1).trans rfl; have hfz28_0 := blk_frozen BK136.out 0; have hfz28_1 := blk_frozen BK136.out 1; have hcz29_0 : w23.cell? ⟨gb137, 0, none⟩ = some (.int .i64 a2_0) := (blk_cell BK137.out 0).trans rfl; have hcz29_1 : w23.cell? ⟨gb137, 1, none⟩ = some (.int .i64 a2_1) := (blk_cell BK137.out 1).trans rfl; have hfz29_0 := blk_frozen BK137.out 0; have hfz29_1 := blk_frozen BK137.out 1) | ((with_reducible refine gate_callee (f := 80) rfl ?_); refine goesL_ (some 10) rfl rfl Try.func80 (by kernel_rfl) rfl #[.agg #[.int .i64 a0_0, .int .i64 a0_1], .agg #[.int .i64 a1_0, .int .i64 a1_1], .agg #[.int .i64 a2_0, .int .i64 a2_1]] rfl (by (try simp only [List.map_toArray, List.map_cons, List.map_nil]); first | done | rfl | (simp only [List.length_drop, List.length_take]; rfl)) ?_; (with_reducible refine (plane_twice.calls a0_0 a0_1 a1_0 a1_1 a2_0 a2_1 t138 _ A4.out).mono ?_); rintro e w30 ⟨rfl, hb⟩; refine ⟨_, rfl, ?_⟩; have n0_ := Aside0.mk (blk_below (g := gb135) (o := .cells #[.int .i64 a0_0, .int .i64 a0_1] 23 (0, 0)) (by (with_reducible repeat (first | refine blk_drewN ?_ _ | refine blk_drew ?_ | refine blk_alloc ?_ _)); exact BK135.out) hb); have n1_ := Aside0.mk (blk_below (g := gb136) (o := .cells #[.int .i64 a1_0, .int .i64 a1_1] 23 (0, 0)) (by (with_reducible repeat (first | refine blk_drewN ?_ _ | refine blk_drew ?_ | refine blk_alloc ?_ _)); exact BK136.out) hb); have n2_ := Aside0.mk (blk_below (g := gb137) (o := .cells #[.int .i64 a2_0, .int .i64 a2_1] 23 (0, 0)) (by (with_reducible repeat (first | refine blk_drewN ?_ _ | refine blk_drew ?_ | refine blk_alloc ?_ _)); exact BK137.out) hb); have n3_ := Aside0.mk (below_step (by repeat (first | (with_reducible first | exact HB.out | apply below_alloc | apply pw_below_drewN | apply below_drew1 | refine below_set ?_ GE135.out | refine below_set ?_ GE136.out | refine below_set ?_ GE137.out) | exact HB.out)) hb); clear BK135; clear BK136; clear BK137; clear HB; have BK135 := n0_; have BK136 := n1_; have BK137 := n2_; have HB := n3_; clear n0_ n1_ n2_ n3_; (try clear hb); (try clear hb2); (try clear hk); (try clear hi)))
    go_ret
    exact ⟨by first | rfl | (simp [errW_none, errW_some] <;> rfl) | (simp [*, errW_none, errW_some] <;> rfl), by repeat (first | (with_reducible first | exact HB.out | apply below_alloc | apply pw_below_drewN | apply below_drew1 | refine below_set ?_ GE135.out | refine below_set ?_ GE136.out | refine below_set ?_ GE137.out) | exact HB.out)⟩
end Go.Proofs.Ytckaejgamfllfaa.G
end

section
namespace Go.Proofs.Ytckaejgamfllfaa.G
open Go.RowKit Go.Proofs.YtckaejgamfllfaaW.PrintWords Go.Proofs.YtckaejgamfllfaaW.PrintLast Go.Proofs.YtckaejgamfllfaaW.PrintMore
attribute [local go_sem] max2_int min2_int max_two min_two max_three min_three max_four min_four
set_option linter.unusedVariables false
set_option linter.unusedSimpArgs false
attribute [local go_sem high] eqA23
def api_Point_134.l0 : Nat → List (S23) → Int → Int → Int → Int → Option (Int)
  | 0, _, _, _, _, _ => none
  | k + 1, x0, x7, x8, x141000, x141001 => if x8 < x7 then (if 0 ≤ x8 then (if x8 < (x0.length : Int) then (if (x141000 == ((rd_T23 x0 x8).f0) && (x141001 == ((rd_T23 x0 x8).f1))) = true then (some x8) else (api_Point_134.l0 k x0 x7 (wrap64 (x8 + 1)) x141000 x141001)) else (none)) else (none)) else (some (-1))
def api_Point_134.f (k : Nat) (l0 : List (S23)) (a1_0 : Int) (a1_1 : Int) : Option (Int) := api_Point_134.l0 k l0 (l0.length : Int) 0 a1_0 a1_1
theorem api_Point_134.mono_l : ∀ k, (∀ y0 y1 y2 y3 y4, LeO (api_Point_134.l0 k y0 y1 y2 y3 y4) (api_Point_134.l0 (k + 1) y0 y1 y2 y3 y4))
  | 0 => fun _ _ _ _ _ r h => by simp [api_Point_134.l0] at h
  | k + 1 => by
    have ih0 := api_Point_134.mono_l k
    · intro y0 y1 y2 y3 y4
      unfold api_Point_134.l0
      repeat' first
      | (with_reducible exact ih0 _ _ _ _ _)
      | (with_reducible exact LeO.refl _)
      | (with_reducible exact LeO.none _)
      | (with_reducible refine LeO.ite ?_ ?_)
      | (with_reducible refine LeO.bind ?_ (fun _ => ?_))
      | exact ih0 _ _ _ _ _
      | exact LeO.none _
      | refine LeO.ite ?_ ?_
      | refine LeO.bind ?_ (fun _ => ?_)
theorem api_Point_134.mono : ∀ a0 a1 a2 k, LeO (api_Point_134.f k a0 a1 a2) (api_Point_134.f (k + 1) a0 a1 a2) := by
  intro a0 a1 a2 k
  have ih0 := api_Point_134.mono_l k
  unfold api_Point_134.f
  repeat' first
      | (with_reducible exact ih0 _ _ _ _ _)
      | (with_reducible exact LeO.refl _)
      | (with_reducible exact LeO.none _)
      | (with_reducible refine LeO.ite ?_ ?_)
      | (with_reducible refine LeO.bind ?_ (fun _ => ?_))
      | exact ih0 _ _ _ _ _
      | exact LeO.none _
      | refine LeO.ite ?_ ?_
      | refine LeO.bind ?_ (fun _ => ?_)
set_option maxHeartbeats 8000000 in
set_option maxRecDepth 100000 in
theorem api_Point_134.calls (k : Nat) (A0 : Option Addr) (c0 : Nat) (l0 : List (S23)) (a1_0 : Int) (a1_1 : Int) (r : Int) (w : World) (hr0 : Kd.C k23 w A0 l0.length l0) (hc0 : l0.length ≤ c0) (h : api_Point_134.f k l0 a1_0 a1_1 = some r) :
    Calls Try.prog 134 #[.slice A0 l0.length c0, .agg #[.int .i64 a1_0, .int .i64 a1_1]] w fun e w' => e = .returned (.int .i64 r) ∧ Below w.heap.size w w' := by
  have hu23 := Try.underlying23
  have HR0 := Aside0.mk hr0
  have HC0 := Aside0.mk hc0
  clear hr0 hc0
  have HB := Aside0.mk (Below.refl w.heap.size w)
  have H : (api_Point_134.l0 k l0 (l0.length : Int) 0 a1_0 a1_1) = some r := h
  clear h
  have H' := Aside0.mk H
  clear H
  go_enter Try.func134, Try.ntmps134
  go_wp2_with (first | ((with_reducible refine gate_dst (N := 3) rfl ?_); refine box_event ?hg (N := 3) ?hd (cs := #[.int .i64 a1_0, .int .i64 a1_1]) (t := 23) ?hr ?_; (case hd => rfl); (case hg => rfl); (case hr => first | (go_simp; done) | (go_simp; rfl)); intro gb140 hg w3 hbox hb; have n0_ := Aside0.mk (below_step (by repeat (first | (with_reducible first | exact HB.out | apply below_alloc | apply pw_below_drewN | apply below_drew1) | exact HB.out)) hb); have n1_ := Aside0.mk (hbox); have n2_ := Aside0.mk ((by rw [hg]; exact (below_size (by repeat (first | (with_reducible first | exact HB.out | apply below_alloc | apply pw_below_drewN | apply below_drew1) | exact HB.out))) : w.heap.size ≤ gb140)); have n3_ := Aside0.mk ((by rw [hg]; exact (below_size (by repeat (first | (with_reducible first | exact HB.out | apply below_alloc | apply pw_below_drewN | apply below_drew1) | exact HB.out))) : w.heap.size ≤ gb140)); clear HB; have HB := n0_; have BK140 := n1_; have GW140 := n2_; have GE140 := n3_; clear n0_ n1_ n2_ n3_; clear hb hbox hg))
  repeat (go_quiet (first | ((with_reducible refine gate_dst (N := 3) rfl ?_); refine box_event ?hg (N := 3) ?hd (cs := #[.int .i64 a1_0, .int .i64 a1_1]) (t := 23) ?hr ?_; (case hd => rfl); (case hg => rfl); (case hr => first | (go_simp; done) | (go_simp; rfl)); intro gb140 hg w3 hbox hb; have n0_ := Aside0.mk (below_step (by repeat (first | (with_reducible first | exact HB.out | apply below_alloc | apply pw_below_drewN | apply below_drew1) | exact HB.out)) hb); have n1_ := Aside0.mk (hbox); have n2_ := Aside0.mk ((by rw [hg]; exact (below_size (by repeat (first | (with_reducible first | exact HB.out | apply below_alloc | apply pw_below_drewN | apply below_drew1) | exact HB.out))) : w.heap.size ≤ gb140)); have n3_ := Aside0.mk ((by rw [hg]; exact (below_size (by repeat (first | (with_reducible first | exact HB.out | apply below_alloc | apply pw_below_drewN | apply below_drew1) | exact HB.out))) : w.heap.size ≤ gb140)); clear HB; have HB := n0_; have BK140 := n1_; have GW140 := n2_; have GE140 := n3_; clear n0_ n1_ n2_ n3_; clear hb hbox hg)); try go_wp2_with (first | ((with_reducible refine gate_dst (N := 3) rfl ?_); refine box_event ?hg (N := 3) ?hd (cs := #[.int .i64 a1_0, .int .i64 a1_1]) (t := 23) ?hr ?_; (case hd => rfl); (case hg => rfl); (case hr => first | (go_simp; done) | (go_simp; rfl)); intro gb140 hg w3 hbox hb; have n0_ := Aside0.mk (below_step (by repeat (first | (with_reducible first | exact HB.out | apply below_alloc | apply pw_below_drewN | apply below_drew1) | exact HB.out)) hb); have n1_ := Aside0.mk (hbox); have n2_ := Aside0.mk ((by rw [hg]; exact (below_size (by repeat (first | (with_reducible first | exact HB.out | apply below_alloc | apply pw_below_drewN | apply below_drew1) | exact HB.out))) : w.heap.size ≤ gb140)); have n3_ := Aside0.mk ((by rw [hg]; exact (below_size (by repeat (first | (with_reducible first | exact HB.out | apply below_alloc | apply pw_below_drewN | apply below_drew1) | exact HB.out))) : w.heap.size ≤ gb140)); clear HB; have HB := n0_; have BK140 := n1_; have GW140 := n2_; have GE140 := n3_; clear n0_ n1_ n2_ n3_; clear hb hbox hg)))
  go_loopg [8] k (fun kq v8 w' => ∃ (x8_1 : Int), v8 = .int .i64 x8_1 ∧ Aside0 (api_Point_134.l0 kq l0 (l0.length : Int) x8_1 a1_0 a1_1 = some r) ∧ Aside0 (kq ≤ k) ∧ Aside0 (w'.heap[gb140]? = some (.cells #[.int .i64 a1_0, .int .i64 a1_1] 23 (0, 0))) ∧ Aside0 (Below w.heap.size w w'))
  case atStart => exact ⟨(0), (by first | rfl | (simp; done) | (simp [*]; done)), H', ⟨Nat.le_refl _⟩, ⟨by (with_reducible repeat (first | refine blk_drewN ?_ _ | refine blk_drew ?_ | refine blk_alloc ?_ _)); exact BK140.out⟩, ⟨by repeat (first | (with_reducible first | exact HB.out | apply below_alloc | apply pw_below_drewN | apply below_drew1 | refine below_set ?_ GE140.out) | exact HB.out)⟩⟩
  case round =>
    clear H'
    try clear c1
    try clear p2
    obtain ⟨x8_1, rfl, HA, HK1, BK140, HB⟩ := hrel
    cases gk with
    | zero => exact absurd HA.out (by simp [api_Point_134.l0])
    | succ k1 =>
      have H := HA.out
      clear HA
      simp only [api_Point_134.l0] at H
      by_cases c4 : x8_1 < (l0.length : Int)
      · rw [if_pos c4] at H
        have c4b0 : decide (x8_1 < (l0.length : Int)) = true := decide_eq_true c4
        clear c4
        by_cases c5 : 0 ≤ x8_1
        · rw [if_pos c5] at H
          have c5b0 : decide (0 ≤ x8_1) = true := decide_eq_true c5
          clear c5
          by_cases c6 : x8_1 < (l0.length : Int)
          · rw [if_pos c6] at H
            have c6b0 : decide (x8_1 < (l0.length : Int)) = true := decide_eq_true c6
            clear c6
            by_cases c7 : (a1_0 == ((rd_T23 l0 x8_1).f0) && (a1_1 == ((rd_T23 l0 x8_1).f1))) = true
            · rw [if_pos c7] at H
              have c7b0 : (a1_0 == ((rd_T23 l0 x8_1).f0) && (a1_1 == ((rd_T23 l0 x8_1).f1))) = true := c7
              (try (have c7b1 : decide (a1_0 = ((rd_T23 l0 x8_1).f0) && (a1_1 == ((rd_T23 l0 x8_1).f1))) = true := by simpa using c7))
              (try (have c7b2 : (a1_0 == ((rd_T23 l0 x8_1).f0) && (a1_1 == ((rd_T23 l0 x8_1).f1))) = true := by simpa using c7))
              clear c7
              obtain rfl := Option.some.inj H
              have hcz8_0 : wr.cell? ⟨gb140, 0, none⟩ = some (.int .i64 a1_0) := (blk_cell BK140.out 0).trans rfl
              have hcz8_1 : wr.cell? ⟨gb140, 1, none⟩ = some (.int .i64 a1_1) := (blk_cell BK140.out 1).trans rfl
              have hfz8_0 := blk_frozen BK140.out 0
              have hfz8_1 := blk_frozen BK140.out 1
              have p141 : 0 ≤ (x8_1 : Int) := of_decide_eq_true (by first | (with_reducible assumption) | assumption)
              have q141 : x8_1 < (l0.length : Int) := of_decide_eq_true (by first | (with_reducible assumption) | assumption)
              obtain ⟨ad141, e141, hx141_0, hx141_1⟩ := at_T23 HR0.out x8_1 p141 q141
              cases e141
              replace hx141_0 := (HB.out.cell (World.block_lt_of_cell? w _ hx141_0)).trans hx141_0
              replace hx141_1 := (HB.out.cell (World.block_lt_of_cell? w _ hx141_1)).trans hx141_1
              replace p141 := eq_true p141
              replace q141 := eq_true q141
              go_wp2
              repeat (go_quiet (fail); try go_wp2)
              go_ret
              exact ⟨by first | rfl | (simp [errW_none, errW_some] <;> rfl) | (simp [*, errW_none, errW_some] <;> rfl), by repeat (first | (with_reducible first | exact HB.out | apply below_alloc | apply pw_below_drewN | apply below_drew1 | refine below_set ?_ GE140.out) | exact HB.out)⟩
            · rw [if_neg c7] at H
              have c7b0 : (a1_0 == ((rd_T23 l0 x8_1).f0) && (a1_1 == ((rd_T23 l0 x8_1).f1))) = false := by simpa using c7
              (try (have c7b1 : decide (a1_0 = ((rd_T23 l0 x8_1).f0) && (a1_1 == ((rd_T23 l0 x8_1).f1))) = false := by simpa using c7))
              (try (have c7b2 : (a1_0 == ((rd_T23 l0 x8_1).f0) && (a1_1 == ((rd_T23 l0 x8_1).f1))) = false := by simpa using c7))
              (try (have c7b3 : ¬ (a1_0 = ((rd_T23 l0 x8_1).f0) && (a1_1 == ((rd_T23 l0 x8_1).f1))) := by simpa using c7))
              clear c7
              have H' := Aside0.mk H
              clear H
              have hcz9_0 : wr.cell? ⟨gb140, 0, none⟩ = some (.int .i64 a1_0) := (blk_cell BK140.out 0).trans rfl
              have hcz9_1 : wr.cell? ⟨gb140, 1, none⟩ = some (.int .i64 a1_1) := (blk_cell BK140.out 1).trans rfl
              have hfz9_0 := blk_frozen BK140.out 0
              have hfz9_1 := blk_frozen BK140.out 1
              have p141 : 0 ≤ (x8_1 : Int) := of_decide_eq_true (by first | (with_reducible assumption) | assumption)
              have q141 : x8_1 < (l0.length : Int) := of_decide_eq_true (by first | (with_reducible assumption) | assumption)
              obtain ⟨ad141, e141, hx141_0, hx141_1⟩ := at_T23 HR0.out x8_1 p141 q141
              cases e141
              replace hx141_0 := (HB.out.cell (World.block_lt_of_cell? w _ hx141_0)).trans hx141_0
              replace hx141_1 := (HB.out.cell (World.block_lt_of_cell? w _ hx141_1)).trans hx141_1
              replace p141 := eq_true p141
              replace q141 := eq_true q141
              go_wp2
              repeat (go_quiet (fail); try go_wp2)
              go_roundg k1
              case measure => have := HK1.out; omega
              case rel => exact ⟨(wrap64 (x8_1 + 1)), (by first | rfl | (simp; done) | (simp [*]; done)), H', ⟨by have := HK1.out; omega⟩, ⟨by (with_reducible repeat (first | refine blk_drewN ?_ _ | refine blk_drew ?_ | refine blk_alloc ?_ _)); exact BK140.out⟩, ⟨by repeat (first | (with_reducible first | exact HB.out | apply below_alloc | apply pw_below_drewN | apply below_drew1 | refine below_set ?_ GE140.out) | exact HB.out)⟩⟩
          · rw [if_neg c6] at H
            exact absurd H (by simp)
        · rw [if_neg c5] at H
          exact absurd H (by simp)
      · rw [if_neg c4] at H
        have c4b0 : decide (x8_1 < (l0.length : Int)) = false := decide_eq_false c4
        clear c4
        obtain rfl := Option.some.inj H
        go_wp2
        repeat (go_quiet (fail); try go_wp2)
        go_ret
        exact ⟨by first | rfl | (simp [errW_none, errW_some] <;> rfl) | (simp [*, errW_none, errW_some] <;> rfl), by repeat (first | (with_reducible first | exact HB.out | apply below_alloc | apply pw_below_drewN | apply below_drew1 | refine below_set ?_ GE140.out) | exact HB.out)⟩
end Go.Proofs.Ytckaejgamfllfaa.G
end

section
namespace Go.Proofs.Ytckaejgamfllfaa.G
open Go.RowKit Go.Proofs.YtckaejgamfllfaaW.PrintWords Go.Proofs.YtckaejgamfllfaaW.PrintLast Go.Proofs.YtckaejgamfllfaaW.PrintMore
attribute [local go_sem] max2_int min2_int max_two min_two max_three min_three max_four min_four
set_option linter.unusedVariables false
set_option linter.unusedSimpArgs false
def api_Point_110.f (k : Nat) (l0 : List (S23)) (a1_0 : Int) (a1_1 : Int) : Option (Bool) := (api_Point_134.f k l0 a1_0 a1_1).bind fun t143 => (some (decide (t143 ≥ 0)))
theorem api_Point_110.mono : ∀ a0 a1 a2 k, LeO (api_Point_110.f k a0 a1 a2) (api_Point_110.f (k + 1) a0 a1 a2) := by
  intro a0 a1 a2 k
  unfold api_Point_110.f
  repeat' first
      | (with_reducible exact api_Point_134.mono _ _ _ _)
      | (with_reducible exact LeO.refl _)
      | (with_reducible exact LeO.none _)
      | (with_reducible refine LeO.ite ?_ ?_)
      | (with_reducible refine LeO.bind ?_ (fun _ => ?_))
      | exact api_Point_134.mono _ _ _ _
      | exact LeO.none _
      | refine LeO.ite ?_ ?_
      | refine LeO.bind ?_ (fun _ => ?_)
set_option maxHeartbeats 8000000 in
set_option maxRecDepth 100000 in
theorem api_Point_110.calls (k : Nat) (A0 : Option Addr) (c0 : Nat) (l0 : List (S23)) (a1_0 : Int) (a1_1 : Int) (r : Bool) (w : World) (hr0 : Kd.C k23 w A0 l0.length l0) (hc0 : l0.length ≤ c0) (h : api_Point_110.f k l0 a1_0 a1_1 = some r) :
    Calls Try.prog 110 #[.slice A0 l0.length c0, .agg #[.int .i64 a1_0, .int .i64 a1_1]] w fun e w' => e = .returned (.bool r) ∧ Below w.heap.size w w' := by
  have hu23 := Try.underlying23
  have HR0 := Aside0.mk hr0
  have HC0 := Aside0.mk hc0
  clear hr0 hc0
  have HB := Aside0.mk (Below.refl w.heap.size w)
  have H : ((api_Point_134.f k l0 a1_0 a1_1).bind fun t143 => (some (decide (t143 ≥ 0)))) = some r := h
  clear h
  replace H := Option.bind_eq_some_iff.mp H
  obtain ⟨t143, A30, H⟩ := H
  replace H : (some (decide (t143 ≥ 0))) = some r := H
  have A3 := Aside0.mk A30
  clear A30
  obtain rfl := Option.some.inj H
  go_enter Try.func110, Try.ntmps110
  go_wp2_with (first | ((with_reducible refine gate_dst (N := 3) rfl ?_); refine box_event ?hg (N := 3) ?hd (cs := #[.int .i64 a1_0, .int .i64 a1_1]) (t := 23) ?hr ?_; (case hd => rfl); (case hg => rfl); (case hr => first | (go_simp; done) | (go_simp; rfl)); intro gb142 hg w4 hbox hb; have n0_ := Aside0.mk (below_step (by repeat (first | (with_reducible first | exact HB.out | apply below_alloc | apply pw_below_drewN | apply below_drew1) | exact HB.out)) hb); have n1_ := Aside0.mk (hbox); have n2_ := Aside0.mk ((by rw [hg]; exact (below_size (by repeat (first | (with_reducible first | exact HB.out | apply below_alloc | apply pw_below_drewN | apply below_drew1) | exact HB.out))) : w.heap.size ≤ gb142)); have n3_ := Aside0.mk ((by rw [hg]; exact (below_size (by repeat (first | (with_reducible first | exact HB.out | apply below_alloc | apply pw_below_drewN | apply below_drew1) | exact HB.out))) : w.heap.size ≤ gb142)); clear HB; have HB := n0_; have BK142 := n1_; have GW142 := n2_; have GE142 := n3_; clear n0_ n1_ n2_ n3_; clear hb hbox hg; have hcz5_0 : w4.cell? ⟨gb142, 0, none⟩ = some (.int .i64 a1_0) := (blk_cell BK142.out 0).trans rfl; have hcz5_1 : w4.cell? ⟨gb142, 1, none⟩ = some (.int .i64 a1_1) := (blk_cell BK142.out 1).trans rfl; have hfz5_0 := blk_frozen BK142.out 0; have hfz5_1 := blk_frozen BK142.out 1) | ((with_reducible refine gate_callee (f := 134) rfl ?_); refine goesL_ (some 7) rfl rfl Try.func134 (by kernel_rfl) rfl #[.slice A0 l0.length c0, .agg #[.int .i64 a1_0, .int .i64 a1_1]] rfl (by (try simp only [List.map_toArray, List.map_cons, List.map_nil]); first | done | rfl | (simp only [List.length_drop, List.length_take]; rfl)) ?_; (with_reducible refine (api_Point_134.calls k _ _ l0 a1_0 a1_1 t143 _ ?side1 ?side2 A3.out).mono ?_); (case side1 => repeat (first | exact (Kd.C_below HR0.out HB.out) | (with_reducible refine Kd.C_alloc ?_ _) | (with_reducible refine Kd.C_drewN ?_ _) | (with_reducible refine Kd.C_drew ?_))); (case side2 => exact HC0.out); rintro e w6 ⟨rfl, hb⟩; refine ⟨_, rfl, ?_⟩; have n0_ := Aside0.mk (blk_below (g := gb142) (o := .cells #[.int .i64 a1_0, .int .i64 a1_1] 23 (0, 0)) (by (with_reducible repeat (first | refine blk_drewN ?_ _ | refine blk_drew ?_ | refine blk_alloc ?_ _)); exact BK142.out) hb); have n1_ := Aside0.mk (below_step (by repeat (first | (with_reducible first | exact HB.out | apply below_alloc | apply pw_below_drewN | apply below_drew1 | refine below_set ?_ GE142.out) | exact HB.out)) hb); clear BK142; clear HB; have BK142 := n0_; have HB := n1_; clear n0_ n1_; (try clear hb); (try clear hb2); (try clear hk); (try clear hi)))
  go_ret
  exact ⟨by first | rfl | (simp [errW_none, errW_some] <;> rfl) | (simp [*, errW_none, errW_some] <;> rfl), by repeat (first | (with_reducible first | exact HB.out | apply below_alloc | apply pw_below_drewN | apply below_drew1 | refine below_set ?_ GE142.out) | exact HB.out)⟩
end Go.Proofs.Ytckaejgamfllfaa.G
end

section
namespace Go.Proofs.Ytckaejgamfllfaa.G
open Go.RowKit Go.Proofs.YtckaejgamfllfaaW.PrintWords Go.Proofs.YtckaejgamfllfaaW.PrintLast Go.Proofs.YtckaejgamfllfaaW.PrintMore
attribute [local go_sem] max2_int min2_int max_two min_two max_three min_three max_four min_four
set_option linter.unusedVariables false
set_option linter.unusedSimpArgs false
mutual
def plane_along.l0 : Nat → List (S23) → List (S23) → Int → Int → Int → Int → Int → Int → Int → Int → Int → Int → Option (Int)
  | 0, _, _, _, _, _, _, _, _, _, _, _, _ => none
  | k + 1, x5, x16, x17, x18, x145000, x145001, x145002, x145003, x146000, x146001, x146002, x146003 => if x18 < x17 then (if 0 ≤ x18 then (if x18 < (x16.length : Int) then ((plane_on.f x145000 x145001 x145002 x145003 ((rd_T23 x16 x18).f0) ((rd_T23 x16 x18).f1)).bind fun t155 => (if t155 = true then ((plane_on.f x146000 x146001 x146002 x146003 ((rd_T23 x16 x18).f0) ((rd_T23 x16 x18).f1)).bind fun t156 => (if t156 = true then ((api_Point_110.f k x5 ((rd_T23 x16 x18).f0) ((rd_T23 x16 x18).f1)).bind fun t157 => (plane_along.j1 k x5 x16 x17 x18 (!t157) x145000 x145001 x145002 x145003 x146000 x146001 x146002 x146003 ((rd_T23 x16 x18).f0) ((rd_T23 x16 x18).f1))) else (plane_along.j1 k x5 x16 x17 x18 false x145000 x145001 x145002 x145003 x146000 x146001 x146002 x146003 ((rd_T23 x16 x18).f0) ((rd_T23 x16 x18).f1)))) else (plane_along.j1 k x5 x16 x17 x18 false x145000 x145001 x145002 x145003 x146000 x146001 x146002 x146003 ((rd_T23 x16 x18).f0) ((rd_T23 x16 x18).f1)))) else (none)) else (none)) else ((some (([0, 1, 3, 3, 3] : List Int) : List Int)).bind fun y149 => (if 0 ≤ (x5.length : Int) then (if (x5.length : Int) < (y149.length : Int) then (some (rd y149 (x5.length : Int))) else (none)) else (none)))
def plane_along.j1 : Nat → List (S23) → List (S23) → Int → Int → Bool → Int → Int → Int → Int → Int → Int → Int → Int → Int → Int → Option (Int)
  | 0, _, _, _, _, _, _, _, _, _, _, _, _, _, _, _ => none
  | k + 1, x5, x16, x17, x18, x41, x145000, x145001, x145002, x145003, x146000, x146001, x146002, x146003, x155000, x155001 => if x41 = true then (if x5.length < 8796093022208 then (plane_along.l0 k (x5 ++ [(⟨x155000, x155001⟩ : S23)]) x16 x17 (wrap64 (x18 + 1)) x145000 x145001 x145002 x145003 x146000 x146001 x146002 x146003) else (none)) else (plane_along.l0 k x5 x16 x17 (wrap64 (x18 + 1)) x145000 x145001 x145002 x145003 x146000 x146001 x146002 x146003)
end
def plane_along.f (k : Nat) (a0_0 : Int) (a0_1 : Int) (a0_2 : Int) (a0_3 : Int) (a1_0 : Int) (a1_1 : Int) (a1_2 : Int) (a1_3 : Int) : Option (Int) := (some (([(⟨a0_0, a0_1⟩ : S23), (⟨a0_2, a0_3⟩ : S23), (⟨a1_0, a1_1⟩ : S23), (⟨a1_2, a1_3⟩ : S23)] : List (S23)) : List (S23))).bind fun y146 => (plane_along.l0 k ([] : List (S23)) y146 (y146.length : Int) 0 a0_0 a0_1 a0_2 a0_3 a1_0 a1_1 a1_2 a1_3)
theorem plane_along.mono_l : ∀ k, (∀ y0 y1 y2 y3 y4 y5 y6 y7 y8 y9 y10 y11, LeO (plane_along.l0 k y0 y1 y2 y3 y4 y5 y6 y7 y8 y9 y10 y11) (plane_along.l0 (k + 1) y0 y1 y2 y3 y4 y5 y6 y7 y8 y9 y10 y11)) ∧ (∀ y0 y1 y2 y3 y4 y5 y6 y7 y8 y9 y10 y11 y12 y13 y14, LeO (plane_along.j1 k y0 y1 y2 y3 y4 y5 y6 y7 y8 y9 y10 y11 y12 y13 y14) (plane_along.j1 (k + 1) y0 y1 y2 y3 y4 y5 y6 y7 y8 y9 y10 y11 y12 y13 y14))
  | 0 => ⟨fun _ _ _ _ _ _ _ _ _ _ _ _ r h => by simp [plane_along.l0] at h, fun _ _ _ _ _ _ _ _ _ _ _ _ _ _ _ r h => by simp [plane_along.j1] at h⟩
  | k + 1 => by
    obtain ⟨ih0, ih1⟩ := plane_along.mono_l k
    refine ⟨?_, ?_⟩
    · intro y0 y1 y2 y3 y4 y5 y6 y7 y8 y9 y10 y11
      unfold plane_along.l0
      repeat' first
      | (with_reducible exact ih0 _ _ _ _ _ _ _ _ _ _ _ _)
      | (with_reducible exact ih1 _ _ _ _ _ _ _ _ _ _ _ _ _ _ _)
      | (with_reducible exact api_Point_110.mono _ _ _ _)
      | (with_reducible exact LeO.refl _)
      | (with_reducible exact LeO.none _)
      | (with_reducible refine LeO.ite ?_ ?_)
      | (with_reducible refine LeO.bind ?_ (fun _ => ?_))
      | exact ih0 _ _ _ _ _ _ _ _ _ _ _ _
      | exact ih1 _ _ _ _ _ _ _ _ _ _ _ _ _ _ _
      | exact api_Point_110.mono _ _ _ _
      | exact LeO.none _
      | refine LeO.ite ?_ ?_
      | refine LeO.bind ?_ (fun _ => ?_)
    · intro y0 y1 y2 y3 y4 y5 y6 y7 y8 y9 y10 y11 y12 y13 y14
      unfold plane_along.j1
      repeat' first
      | (with_reducible exact ih0 _ _ _ _ _ _ _ _ _ _ _ _)
      | (with_reducible exact ih1 _ _ _ _ _ _ _ _ _ _ _ _ _ _ _)
      | (with_reducible exact api_Point_110.mono _ _ _ _)
      | (with_reducible exact LeO.refl _)
      | (with_reducible exact LeO.none _)
      | (with_reducible refine LeO.ite ?_ ?_)
      | (with_reducible refine LeO.bind ?_ (fun _ => ?_))
      | exact ih0 _ _ _ _ _ _ _ _ _ _ _ _
      | exact ih1 _ _ _ _ _ _ _ _ _ _ _ _ _ _ _
      | exact api_Point_110.mono _ _ _ _
      | exact LeO.none _
      | refine LeO.ite ?_ ?_
      | refine LeO.bind ?_ (fun _ => ?_)
theorem plane_along.mono : ∀ a0 a1 a2 a3 a4 a5 a6 a7 k, LeO (plane_along.f k a0 a1 a2 a3 a4 a5 a6 a7) (plane_along.f (k + 1) a0 a1 a2 a3 a4 a5 a6 a7) := by
  intro a0 a1 a2 a3 a4 a5 a6 a7 k
  obtain ⟨ih0, ih1⟩ := plane_along.mono_l k
  unfold plane_along.f
  repeat' first
      | (with_reducible exact ih0 _ _ _ _ _ _ _ _ _ _ _ _)
      | (with_reducible exact ih1 _ _ _ _ _ _ _ _ _ _ _ _ _ _ _)
      | (with_reducible exact api_Point_110.mono _ _ _ _)
      | (with_reducible exact LeO.refl _)
      | (with_reducible exact LeO.none _)
      | (with_reducible refine LeO.ite ?_ ?_)
      | (with_reducible refine LeO.bind ?_ (fun _ => ?_))
      | exact ih0 _ _ _ _ _ _ _ _ _ _ _ _
      | exact ih1 _ _ _ _ _ _ _ _ _ _ _ _ _ _ _
      | exact api_Point_110.mono _ _ _ _
      | exact LeO.none _
      | refine LeO.ite ?_ ?_
      | refine LeO.bind ?_ (fun _ => ?_)
set_option maxHeartbeats 8000000 in
set_option maxRecDepth 100000 in
theorem plane_along.calls (k : Nat) (a0_0 : Int) (a0_1 : Int) (a0_2 : Int) (a0_3 : Int) (a1_0 : Int) (a1_1 : Int) (a1_2 : Int) (a1_3 : Int) (r : Int) (w : World) (h : plane_along.f k a0_0 a0_1 a0_2 a0_3 a1_0 a1_1 a1_2 a1_3 = some r) :
    Calls Try.prog 91 #[.agg #[.int .i64 a0_0, .int .i64 a0_1, .int .i64 a0_2, .int .i64 a0_3], .agg #[.int .i64 a1_0, .int .i64 a1_1, .int .i64 a1_2, .int .i64 a1_3]] w fun e w' => e = .returned (.int .i64 r) ∧ Below w.heap.size w w' := by
  have hu34 := Try.underlying34
  have hu23 := Try.underlying23
  have HB := Aside0.mk (Below.refl w.heap.size w)
  have H : ((some (([(⟨a0_0, a0_1⟩ : S23), (⟨a0_2, a0_3⟩ : S23), (⟨a1_0, a1_1⟩ : S23), (⟨a1_2, a1_3⟩ : S23)] : List (S23)) : List (S23))).bind fun y146 => (plane_along.l0 k ([] : List (S23)) y146 (y146.length : Int) 0 a0_0 a0_1 a0_2 a0_3 a1_0 a1_1 a1_2 a1_3)) = some r := h
  clear h
  obtain ⟨y146, hy146⟩ : ∃ y_ : List (S23), y_ = (([(⟨a0_0, a0_1⟩ : S23), (⟨a0_2, a0_3⟩ : S23), (⟨a1_0, a1_1⟩ : S23), (⟨a1_2, a1_3⟩ : S23)] : List (S23))) := ⟨_, rfl⟩
  replace H : (plane_along.l0 k ([] : List (S23)) y146 (y146.length : Int) 0 a0_0 a0_1 a0_2 a0_3 a1_0 a1_1 a1_2 a1_3) = some r := by first | (rw [hy146]; with_reducible exact H) | (have H2_ := (Option.bind_some _ _).symm.trans H; rw [hy146]; with_reducible exact H2_) | (have H2_ := (Option.bind_some _ _).symm.trans H; with_reducible exact H2_) | with_reducible exact H | (rw [hy146]; exact H) | exact H
  have Ny146 := Aside0.mk hy146
  clear hy146
  have H' := Aside0.mk H
  clear H
  go_enter Try.func91, Try.ntmps91
  go_wp2_with (first | ((with_reducible refine gate_dst (N := 2) rfl ?_); refine box_event ?hg (N := 2) ?hd (cs := #[.int .i64 a0_0, .int .i64 a0_1, .int .i64 a0_2, .int .i64 a0_3]) (t := 34) ?hr ?_; (case hd => rfl); (case hg => rfl); (case hr => first | (go_simp; done) | (go_simp; rfl)); intro gb144 hg w3 hbox hb; have n0_ := Aside0.mk (below_step (by repeat (first | (with_reducible first | exact HB.out | apply below_alloc | apply pw_below_drewN | apply below_drew1) | exact HB.out)) hb); have n1_ := Aside0.mk (hbox); have n2_ := Aside0.mk ((by rw [hg]; exact (below_size (by repeat (first | (with_reducible first | exact HB.out | apply below_alloc | apply pw_below_drewN | apply below_drew1) | exact HB.out))) : w.heap.size ≤ gb144)); have n3_ := Aside0.mk ((by rw [hg]; exact (below_size (by repeat (first | (with_reducible first | exact HB.out | apply below_alloc | apply pw_below_drewN | apply below_drew1) | exact HB.out))) : w.heap.size ≤ gb144)); clear HB; have HB := n0_; have BK144 := n1_; have GW144 := n2_; have GE144 := n3_; clear n0_ n1_ n2_ n3_; clear hb hbox hg) | ((with_reducible refine gate_dst (N := 3) rfl ?_); refine box_event ?hg (N := 3) ?hd (cs := #[.int .i64 a1_0, .int .i64 a1_1, .int .i64 a1_2, .int .i64 a1_3]) (t := 34) ?hr ?_; (case hd => rfl); (case hg => rfl); (case hr => first | (go_simp; done) | (go_simp; rfl)); intro gb145 hg w4 hbox hb; have n0_ := Aside0.mk (blk_below (g := gb144) (o := .cells #[.int .i64 a0_0, .int .i64 a0_1, .int .i64 a0_2, .int .i64 a0_3] 34 (0, 0)) (by (with_reducible repeat (first | refine blk_drewN ?_ _ | refine blk_drew ?_ | refine blk_alloc ?_ _)); exact BK144.out) hb); have n1_ := Aside0.mk (below_step (by repeat (first | (with_reducible first | exact HB.out | apply below_alloc | apply pw_below_drewN | apply below_drew1 | refine below_set ?_ GE144.out) | exact HB.out)) hb); have n2_ := Aside0.mk (hbox); have n3_ := Aside0.mk ((by rw [hg]; exact (below_size (by repeat (first | (with_reducible first | exact HB.out | apply below_alloc | apply pw_below_drewN | apply below_drew1 | refine below_set ?_ GE144.out) | exact HB.out))) : w.heap.size ≤ gb145)); have n4_ := Aside0.mk ((by rw [hg]; exact (below_size (by repeat (first | (with_reducible first | exact HB.out | apply below_alloc | apply pw_below_drewN | apply below_drew1 | refine below_set ?_ GE144.out) | exact HB.out))) : w.heap.size ≤ gb145)); have n5_ := Aside0.mk ((by rw [hg]; exact Nat.ne_of_lt (blk_lt (g := gb144) (o := .cells #[.int .i64 a0_0, .int .i64 a0_1, .int .i64 a0_2, .int .i64 a0_3] 34 (0, 0)) (by (with_reducible repeat (first | refine blk_drewN ?_ _ | refine blk_drew ?_ | refine blk_alloc ?_ _)); exact BK144.out)) : gb144 ≠ gb145)); have n6_ := Aside0.mk ((by rw [hg]; exact Nat.ne_of_gt (blk_lt (g := gb144) (o := .cells #[.int .i64 a0_0, .int .i64 a0_1, .int .i64 a0_2, .int .i64 a0_3] 34 (0, 0)) (by (with_reducible repeat (first | refine blk_drewN ?_ _ | refine blk_drew ?_ | refine blk_alloc ?_ _)); exact BK144.out)) : gb145 ≠ gb144)); clear BK144; clear HB; have BK144 := n0_; have HB := n1_; have BK145 := n2_; have GW145 := n3_; have GE145 := n4_; have NB144_145 := n5_; have NB145_144 := n6_; clear n0_ n1_ n2_ n3_ n4_ n5_ n6_; clear hb hbox hg; have hnb5 := NB144_145.out; have hnc5 := NB145_144.out; have hcz6_0 : w4.cell? ⟨gb144, 0, none⟩ = some (.int .i64 a0_0) := (blk_cell BK144.out 0).trans rfl; have hcz6_1 : w4.cell? ⟨gb144, 1, none⟩ = some (.int .i64 a0_1) := (blk_cell BK144.out 1).trans rfl; have hcz6_2 : w4.cell? ⟨gb144, 2, none⟩ = some (.int .i64 a0_2) := (blk_cell BK144.out 2).trans rfl; have hcz6_3 : w4.cell? ⟨gb144, 3, none⟩ = some (.int .i64 a0_3) := (blk_cell BK144.out 3).trans rfl; have hfz6_0 := blk_frozen BK144.out 0; have hfz6_1 := blk_frozen BK144.out 1; have hfz6_2 := blk_frozen BK144.out 2; have hfz6_3 := blk_frozen BK144.out 3; have hcz7_0 : w4.cell? ⟨gb145, 0, none⟩ = some (.int .i64 a1_0) := (blk_cell BK145.out 0).trans rfl; have hcz7_1 : w4.cell? ⟨gb145, 1, none⟩ = some (.int .i64 a1_1) := (blk_cell BK145.out 1).trans rfl; have hcz7_2 : w4.cell? ⟨gb145, 2, none⟩ = some (.int .i64 a1_2) := (blk_cell BK145.out 2).trans rfl; have hcz7_3 : w4.cell? ⟨gb145, 3, none⟩ = some (.int .i64 a1_3) := (blk_cell BK145.out 3).trans rfl; have hfz7_0 := blk_frozen BK145.out 0; have hfz7_1 := blk_frozen BK145.out 1; have hfz7_2 := blk_frozen BK145.out 2; have hfz7_3 := blk_frozen BK145.out 3) | ((with_reducible refine gate_dst (N := 16) rfl ?_); refine Kd.R_lit k23 _ 23 ?hg (N := 16) ?hd (xs := ([(⟨a0_0, a0_1⟩ : S23), (⟨a0_2, a0_3⟩ : S23), (⟨a1_0, a1_1⟩ : S23), (⟨a1_2, a1_3⟩ : S23)] : List (S23))) (inner := [.int .i64 a0_0, .int .i64 a0_1, .int .i64 a0_2, .int .i64 a0_3, .int .i64 a1_0, .int .i64 a1_1, .int .i64 a1_2, .int .i64 a1_3]) (ok := fun _ => True) (okp := fun _ => True) ?hr ?hp (fun _ hk => hk) trivial (Below.refl _ _) (Nat.le_refl _) (by simp) ?_; (case hd => rfl); (case hg => rfl); (case hr => first | (go_simp; done) | (go_simp; rfl)); (case hp => exact (Reps.c2 (show Kd.M k23 _ _ _ (⟨a0_0, a0_1⟩ : S23) [.int .i64 a0_0, .int .i64 a0_1] from (k23_mkM _ _ _ (⟨a0_0, a0_1⟩ : S23) )) (Reps.c2 (show Kd.M k23 _ _ _ (⟨a0_2, a0_3⟩ : S23) [.int .i64 a0_2, .int .i64 a0_3] from (k23_mkM _ _ _ (⟨a0_2, a0_3⟩ : S23) )) (Reps.c2 (show Kd.M k23 _ _ _ (⟨a1_0, a1_1⟩ : S23) [.int .i64 a1_0, .int .i64 a1_1] from (k23_mkM _ _ _ (⟨a1_0, a1_1⟩ : S23) )) (Reps.c2 (show Kd.M k23 _ _ _ (⟨a1_2, a1_3⟩ : S23) [.int .i64 a1_2, .int .i64 a1_3] from (k23_mkM _ _ _ (⟨a1_2, a1_3⟩ : S23) )) (Reps.none _ _)))))); intro v147 w8 ho9 hb hg_ hnew_; clear hg_ hnew_; (first | rw [← Ny146.out] at ho9 | (simp only [Int.reduceToNat] at ho9; rw [← Ny146.out] at ho9)); have n0_ := Aside0.mk (Kd.R_lower ho9 (below_size (by repeat (first | (with_reducible first | exact HB.out | apply below_alloc | apply pw_below_drewN | apply below_drew1 | refine below_set ?_ GE144.out | refine below_set ?_ GE145.out) | exact HB.out)))); have n1_ := Aside0.mk (blk_below (g := gb144) (o := .cells #[.int .i64 a0_0, .int .i64 a0_1, .int .i64 a0_2, .int .i64 a0_3] 34 (0, 0)) (by (with_reducible repeat (first | refine blk_drewN ?_ _ | refine blk_drew ?_ | refine blk_alloc ?_ _)); exact BK144.out) hb); have n2_ := Aside0.mk (blk_below (g := gb145) (o := .cells #[.int .i64 a1_0, .int .i64 a1_1, .int .i64 a1_2, .int .i64 a1_3] 34 (0, 0)) (by (with_reducible repeat (first | refine blk_drewN ?_ _ | refine blk_drew ?_ | refine blk_alloc ?_ _)); exact BK145.out) hb); have n3_ := Aside0.mk (below_step (by repeat (first | (with_reducible first | exact HB.out | apply below_alloc | apply pw_below_drewN | apply below_drew1 | refine below_set ?_ GE144.out | refine below_set ?_ GE145.out) | exact HB.out)) hb); clear BK144; clear BK145; clear HB; have HO148 := n0_; have BK144 := n1_; have BK145 := n2_; have HB := n3_; clear n0_ n1_ n2_ n3_; clear hb ho9; obtain ⟨Ao10, co10, eo10⟩ := Kd.R_slice HO148.out; subst eo10))
  go_loopg [5, 18] k (fun kq v5 v18 w' => ∃ (x5_1 : List (S23)) (x18_1 : Int), v18 = .int .i64 x18_1 ∧ Aside0 (plane_along.l0 kq x5_1 y146 (y146.length : Int) x18_1 a0_0 a0_1 a0_2 a0_3 a1_0 a1_1 a1_2 a1_3 = some r) ∧ Aside0 (kq ≤ k) ∧ Aside0 (Kd.R k23 23 w' w.heap.size (fun k_ => some k_ ≠ ((.slice Ao10 y146.length co10) : Value).ownBlock) v5 x5_1) ∧ Aside0 (Kd.R k23 23 w' w.heap.size (fun k_ => some k_ ≠ (v5 : Value).ownBlock) (.slice Ao10 y146.length co10) y146) ∧ Aside0 (w'.heap[gb144]? = some (.cells #[.int .i64 a0_0, .int .i64 a0_1, .int .i64 a0_2, .int .i64 a0_3] 34 (0, 0))) ∧ Aside0 (w'.heap[gb145]? = some (.cells #[.int .i64 a1_0, .int .i64 a1_1, .int .i64 a1_2, .int .i64 a1_3] 34 (0, 0))) ∧ Aside0 (Below w.heap.size w w'))
  case atStart => exact ⟨(([] : List (S23))), (0), (by first | rfl | (simp; done) | (simp [*]; done)), H', ⟨Nat.le_refl _⟩, ⟨by first | exact Kd.R_nil _ _ _ _ _ | exact Kd.N_nil _ _ _ _ _ | exact Kd.V_nil _ _ _ _ _ | exact Kd.Q_nil _ _ _ _ _ | exact Kd.S_nil _ _ _ _ _⟩, ⟨by (with_reducible repeat (first | apply Kd.R_alloc | apply Kd.R_drewN | apply Kd.R_drew)); exact Kd.R_mono HO148.out (fun _ hk => (by simp [Value.ownBlock]))⟩, ⟨by (with_reducible repeat (first | refine blk_drewN ?_ _ | refine blk_drew ?_ | refine blk_alloc ?_ _)); exact BK144.out⟩, ⟨by (with_reducible repeat (first | refine blk_drewN ?_ _ | refine blk_drew ?_ | refine blk_alloc ?_ _)); exact BK145.out⟩, ⟨by repeat (first | (with_reducible first | exact HB.out | apply below_alloc | apply pw_below_drewN | apply below_drew1 | refine below_set ?_ GE144.out | refine below_set ?_ GE145.out) | exact HB.out)⟩⟩
  case round =>
    clear H'
    try clear c2
    try clear p2
    try clear c5
    try clear c9
    try clear hcz6_0
    try clear hcz6_1
    try clear hcz6_2
    try clear hcz6_3
    try clear hcz7_0
    try clear hcz7_1
    try clear hcz7_2
    try clear hcz7_3
    try clear hfz6_0
    try clear hfz6_1
    try clear hfz6_2
    try clear hfz6_3
    try clear hfz7_0
    try clear hfz7_1
    try clear hfz7_2
    try clear hfz7_3
    obtain ⟨x5_1, x18_1, rfl, HA, HK1, HO_5, HO_16, BK144, BK145, HB⟩ := hrel
    cases gk with
    | zero => exact absurd HA.out (by simp [plane_along.l0])
    | succ k1 =>
      have H := HA.out
      clear HA
      simp only [plane_along.l0] at H
      by_cases c11 : x18_1 < (y146.length : Int)
      · rw [if_pos c11] at H
        have c11b0 : decide (x18_1 < (y146.length : Int)) = true := decide_eq_true c11
        clear c11
        by_cases c12 : 0 ≤ x18_1
        · rw [if_pos c12] at H
          have c12b0 : decide (0 ≤ x18_1) = true := decide_eq_true c12
          clear c12
          by_cases c13 : x18_1 < (y146.length : Int)
          · rw [if_pos c13] at H
            have c13b0 : decide (x18_1 < (y146.length : Int)) = true := decide_eq_true c13
            clear c13
            have HC14 := Aside0.mk H
            clear H
            have p153 : 0 ≤ (x18_1 : Int) := of_decide_eq_true (by first | (with_reducible assumption) | assumption)
            have q153 : x18_1 < (y146.length : Int) := of_decide_eq_true (by first | (with_reducible assumption) | assumption)
            obtain ⟨ad153, e153, hx153_0, hx153_1⟩ := at_T23 (Kd.R_reads' HO_16.out).2.2 x18_1 p153 q153
            cases e153
            replace p153 := eq_true p153
            replace q153 := eq_true q153
            go_upto_region 5 with (first | ((with_reducible refine gate_dst (N := 7) rfl ?_); refine box_event ?hg (N := 7) ?hd (cs := #[.int .i64 0, .int .i64 0]) (t := 23) ?hr ?_; (case hd => rfl); (case hg => rfl); (case hr => first | (go_simp; done) | (go_simp; rfl)); intro gb154 hg w15 hbox hb; have n0_ := Aside0.mk (Kd.R_below (Kd.R_elderB (by (with_reducible repeat (first | apply Kd.R_alloc | apply Kd.R_drewN | apply Kd.R_drew)); exact HO_5.out) gb154 (Nat.le_of_eq hg.symm)) hb); have n1_ := Aside0.mk (Kd.R_below (Kd.R_elderB (by (with_reducible repeat (first | apply Kd.R_alloc | apply Kd.R_drewN | apply Kd.R_drew)); exact HO_16.out) gb154 (Nat.le_of_eq hg.symm)) hb); have n2_ := Aside0.mk (blk_below (g := gb144) (o := .cells #[.int .i64 a0_0, .int .i64 a0_1, .int .i64 a0_2, .int .i64 a0_3] 34 (0, 0)) (by (with_reducible repeat (first | refine blk_drewN ?_ _ | refine blk_drew ?_ | refine blk_alloc ?_ _)); exact BK144.out) hb); have n3_ := Aside0.mk (blk_below (g := gb145) (o := .cells #[.int .i64 a1_0, .int .i64 a1_1, .int .i64 a1_2, .int .i64 a1_3] 34 (0, 0)) (by (with_reducible repeat (first | refine blk_drewN ?_ _ | refine blk_drew ?_ | refine blk_alloc ?_ _)); exact BK145.out) hb); have n4_ := Aside0.mk (below_step (by repeat (first | (with_reducible first | exact HB.out | apply below_alloc | apply pw_below_drewN | apply below_drew1 | refine below_set ?_ GE144.out | refine below_set ?_ GE145.out) | exact HB.out)) hb); have n5_ := Aside0.mk (hbox); have n6_ := Aside0.mk ((by rw [hg]; exact (below_size (by repeat (first | (with_reducible first | exact HB.out | apply below_alloc | apply pw_below_drewN | apply below_drew1 | refine below_set ?_ GE144.out | refine below_set ?_ GE145.out) | exact HB.out))) : w.heap.size ≤ gb154)); have n7_ := Aside0.mk ((by rw [hg]; exact (below_size (by repeat (first | (with_reducible first | exact HB.out | apply below_alloc | apply pw_below_drewN | apply below_drew1 | refine below_set ?_ GE144.out | refine below_set ?_ GE145.out) | exact HB.out))) : w.heap.size ≤ gb154)); have n8_ := Aside0.mk ((by rw [hg]; exact Nat.ne_of_lt (blk_lt (g := gb144) (o := .cells #[.int .i64 a0_0, .int .i64 a0_1, .int .i64 a0_2, .int .i64 a0_3] 34 (0, 0)) (by (with_reducible repeat (first | refine blk_drewN ?_ _ | refine blk_drew ?_ | refine blk_alloc ?_ _)); exact BK144.out)) : gb144 ≠ gb154)); have n9_ := Aside0.mk ((by rw [hg]; exact Nat.ne_of_gt (blk_lt (g := gb144) (o := .cells #[.int .i64 a0_0, .int .i64 a0_1, .int .i64 a0_2, .int .i64 a0_3] 34 (0, 0)) (by (with_reducible repeat (first | refine blk_drewN ?_ _ | refine blk_drew ?_ | refine blk_alloc ?_ _)); exact BK144.out)) : gb154 ≠ gb144)); have n10_ := Aside0.mk ((by rw [hg]; exact Nat.ne_of_lt (blk_lt (g := gb145) (o := .cells #[.int .i64 a1_0, .int .i64 a1_1, .int .i64 a1_2, .int .i64 a1_3] 34 (0, 0)) (by (with_reducible repeat (first | refine blk_drewN ?_ _ | refine blk_drew ?_ | refine blk_alloc ?_ _)); exact BK145.out)) : gb145 ≠ gb154)); have n11_ := Aside0.mk ((by rw [hg]; exact Nat.ne_of_gt (blk_lt (g := gb145) (o := .cells #[.int .i64 a1_0, .int .i64 a1_1, .int .i64 a1_2, .int .i64 a1_3] 34 (0, 0)) (by (with_reducible repeat (first | refine blk_drewN ?_ _ | refine blk_drew ?_ | refine blk_alloc ?_ _)); exact BK145.out)) : gb154 ≠ gb145)); clear HO_5; clear HO_16; clear BK144; clear BK145; clear HB; have HO_5 := n0_; have HO_16 := n1_; have BK144 := n2_; have BK145 := n3_; have HB := n4_; have BK154 := n5_; have GW154 := n6_; have GE154 := n7_; have NB144_154 := n8_; have NB154_144 := n9_; have NB145_154 := n10_; have NB154_145 := n11_; clear n0_ n1_ n2_ n3_ n4_ n5_ n6_ n7_ n8_ n9_ n10_ n11_; clear hb hbox hg; have hnb16 := NB154_144.out; have hnc16 := NB144_154.out; have hnb17 := NB154_145.out; have hnc17 := NB145_154.out; have hcz18_0 : w15.cell? ⟨gb154, 0, none⟩ = some (.int .i64 0) := (blk_cell BK154.out 0).trans rfl; have hcz18_1 : w15.cell? ⟨gb154, 1, none⟩ = some (.int .i64 0) := (blk_cell BK154.out 1).trans rfl; have hfz18_0 := blk_frozen BK154.out 0; have hfz18_1 := blk_frozen BK154.out 1))
            (try simp only [Act.put, List.setIfInBounds_toArray, List.set_cons_zero, List.set_cons_succ])
            go_cut [41] (fun v41 wc => ∃ (kq : Nat) (x41_13 : Bool), v41 = .bool x41_13 ∧ Aside0 (plane_along.j1 kq x5_1 y146 (y146.length : Int) x18_1 x41_13 a0_0 a0_1 a0_2 a0_3 a1_0 a1_1 a1_2 a1_3 ((rd_T23 y146 x18_1).f0) ((rd_T23 y146 x18_1).f1) = some r) ∧ Aside0 (kq ≤ k1) ∧ Aside0 (Kd.R k23 23 wc w.heap.size (fun k_ => some k_ ≠ ((.slice (some ad153) y146.length co10) : Value).ownBlock ∧ k_ ≠ gb154) u5 x5_1) ∧ Aside0 (Kd.R k23 23 wc w.heap.size (fun k_ => some k_ ≠ (u5 : Value).ownBlock ∧ k_ ≠ gb154) (.slice (some ad153) y146.length co10) y146) ∧ Aside0 (wc.heap[gb144]? = some (.cells #[.int .i64 a0_0, .int .i64 a0_1, .int .i64 a0_2, .int .i64 a0_3] 34 (0, 0))) ∧ Aside0 (wc.heap[gb145]? = some (.cells #[.int .i64 a1_0, .int .i64 a1_1, .int .i64 a1_2, .int .i64 a1_3] 34 (0, 0))) ∧ Aside0 (wc.heap[gb154]? = some (.cells #[.int .i64 ((rd_T23 y146 x18_1).f0), .int .i64 ((rd_T23 y146 x18_1).f1)] 23 (0, 0))) ∧ Aside0 (Below w.heap.size w wc))
            case first =>
              have H := HC14.out
              clear HC14
              replace H := Option.bind_eq_some_iff.mp H
              obtain ⟨t155, A190, H⟩ := H
              try dsimp only at H
              have A19 := Aside0.mk A190
              clear A190
              by_cases c20 : t155 = true
              · subst c20
                have H1 : ((plane_on.f a1_0 a1_1 a1_2 a1_3 ((rd_T23 y146 x18_1).f0) ((rd_T23 y146 x18_1).f1)).bind fun t156 => (if t156 = true then ((api_Point_110.f k1 x5_1 ((rd_T23 y146 x18_1).f0) ((rd_T23 y146 x18_1).f1)).bind fun t157 => (plane_along.j1 k1 x5_1 y146 (y146.length : Int) x18_1 (!t157) a0_0 a0_1 a0_2 a0_3 a1_0 a1_1 a1_2 a1_3 ((rd_T23 y146 x18_1).f0) ((rd_T23 y146 x18_1).f1))) else (plane_along.j1 k1 x5_1 y146 (y146.length : Int) x18_1 false a0_0 a0_1 a0_2 a0_3 a1_0 a1_1 a1_2 a1_3 ((rd_T23 y146 x18_1).f0) ((rd_T23 y146 x18_1).f1)))) = some r := by rw [if_pos rfl] at H; exact H
                clear H
                have H := H1
                clear H1
                replace H := Option.bind_eq_some_iff.mp H
                obtain ⟨t156, A210, H⟩ := H
                try dsimp only at H
                have A21 := Aside0.mk A210
                clear A210
                by_cases c22 : t156 = true
                · subst c22
                  have H1 : ((api_Point_110.f k1 x5_1 ((rd_T23 y146 x18_1).f0) ((rd_T23 y146 x18_1).f1)).bind fun t157 => (plane_along.j1 k1 x5_1 y146 (y146.length : Int) x18_1 (!t157) a0_0 a0_1 a0_2 a0_3 a1_0 a1_1 a1_2 a1_3 ((rd_T23 y146 x18_1).f0) ((rd_T23 y146 x18_1).f1))) = some r := by rw [if_pos rfl] at H; exact H
                  clear H
                  have H := H1
                  clear H1
                  replace H := Option.bind_eq_some_iff.mp H
                  obtain ⟨t157, A230, H⟩ := H
                  replace H : (plane_along.j1 k1 x5_1 y146 (y146.length : Int) x18_1 (!t157) a0_0 a0_1 a0_2 a0_3 a1_0 a1_1 a1_2 a1_3 ((rd_T23 y146 x18_1).f0) ((rd_T23 y146 x18_1).f1)) = some r := H
                  have A23 := Aside0.mk A230
                  clear A230
                  have H' := Aside0.mk H
                  clear H
                  have hnb24 := NB144_145.out
                  have hnc24 := NB145_144.out
                  have hnb25 := NB144_154.out
                  have hnc25 := NB154_144.out
                  have hcz26_0 : w15.cell? ⟨gb144, 0, none⟩ = some (.int .i64 a0_0) := (blk_cell BK144.out 0).trans rfl
                  have hcz26_1 : w15.cell? ⟨gb144, 1, none⟩ = some (.int .i64 a0_1) := (blk_cell BK144.out 1).trans rfl
                  have hcz26_2 : w15.cell? ⟨gb144, 2, none⟩ = some (.int .i64 a0_2) := (blk_cell BK144.out 2).trans rfl
                  have hcz26_3 : w15.cell? ⟨gb144, 3, none⟩ = some (.int .i64 a0_3) := (blk_cell BK144.out 3).trans rfl
                  have hfz26_0 := blk_frozen BK144.out 0
                  have hfz26_1 := blk_frozen BK144.out 1
                  have hfz26_2 := blk_frozen BK144.out 2
                  have hfz26_3 := blk_frozen BK144.out 3
                  have hnb27 := NB154_145.out
                  have hnc27 := NB145_154.out
                  have hcz28_0 : w15.cell? ⟨gb154, 0, none⟩ = some (.int .i64 0) := (blk_cell BK154.out 0).trans rfl
                  have hcz28_1 : w15.cell? ⟨gb154, 1, none⟩ = some (.int .i64 0) := (blk_cell BK154.out 1).trans rfl
                  have hfz28_0 := blk_frozen BK154.out 0
                  have hfz28_1 := blk_frozen BK154.out 1
                  go_wp2_with (first | ((with_reducible refine gate_callee (f := 88) rfl ?_); refine goesL_ (some 27) rfl rfl Try.func88 (by kernel_rfl) rfl #[.agg #[.int .i64 a0_0, .int .i64 a0_1], .agg #[.int .i64 a0_2, .int .i64 a0_3], .agg #[.int .i64 ((rd_T23 y146 x18_1).f0), .int .i64 ((rd_T23 y146 x18_1).f1)]] rfl (by (try simp only [List.map_toArray, List.map_cons, List.map_nil]); first | done | rfl | (simp only [List.length_drop, List.length_take]; rfl)) ?_; (with_reducible refine (plane_on.calls a0_0 a0_1 a0_2 a0_3 ((rd_T23 y146 x18_1).f0) ((rd_T23 y146 x18_1).f1) true _ A19.out).mono ?_); rintro e w29 ⟨rfl, hb⟩; refine ⟨_, rfl, ?_⟩; have n0_ := Aside0.mk (Kd.R_below (by (with_reducible repeat (first | apply Kd.R_alloc | apply Kd.R_drewN | apply Kd.R_drew)); exact (Kd.R_mono (Kd.R_far (p := ⟨gb154, 1, none⟩) (Kd.R_far (p := ⟨gb154, 0, none⟩) (Kd.R_mono HO_5.out (fun k_ hk => (⟨hk, hk.2⟩ : _ ∧ k_ ≠ gb154))) (fun _ hk => hk.2) (.int .i64 ((rd_T23 y146 x18_1).f0))) (fun _ hk => hk.2) (.int .i64 ((rd_T23 y146 x18_1).f1))) (fun _ h_ => h_.1))) hb); have n1_ := Aside0.mk (Kd.R_below (by (with_reducible repeat (first | apply Kd.R_alloc | apply Kd.R_drewN | apply Kd.R_drew)); exact (Kd.R_mono (Kd.R_far (p := ⟨gb154, 1, none⟩) (Kd.R_far (p := ⟨gb154, 0, none⟩) (Kd.R_mono HO_16.out (fun k_ hk => (⟨hk, hk.2⟩ : _ ∧ k_ ≠ gb154))) (fun _ hk => hk.2) (.int .i64 ((rd_T23 y146 x18_1).f0))) (fun _ hk => hk.2) (.int .i64 ((rd_T23 y146 x18_1).f1))) (fun _ h_ => h_.1))) hb); have n2_ := Aside0.mk (blk_below (g := gb144) (o := .cells #[.int .i64 a0_0, .int .i64 a0_1, .int .i64 a0_2, .int .i64 a0_3] 34 (0, 0)) (by (with_reducible repeat (first | refine blk_drewN ?_ _ | refine blk_drew ?_ | refine blk_alloc ?_ _)); refine blk_far ?_ NB144_154.out _; (with_reducible repeat (first | refine blk_drewN ?_ _ | refine blk_drew ?_ | refine blk_alloc ?_ _)); refine blk_far ?_ NB144_154.out _; (with_reducible repeat (first | refine blk_drewN ?_ _ | refine blk_drew ?_ | refine blk_alloc ?_ _)); exact BK144.out) hb); have n3_ := Aside0.mk (blk_below (g := gb145) (o := .cells #[.int .i64 a1_0, .int .i64 a1_1, .int .i64 a1_2, .int .i64 a1_3] 34 (0, 0)) (by (with_reducible repeat (first | refine blk_drewN ?_ _ | refine blk_drew ?_ | refine blk_alloc ?_ _)); refine blk_far ?_ NB145_154.out _; (with_reducible repeat (first | refine blk_drewN ?_ _ | refine blk_drew ?_ | refine blk_alloc ?_ _)); refine blk_far ?_ NB145_154.out _; (with_reducible repeat (first | refine blk_drewN ?_ _ | refine blk_drew ?_ | refine blk_alloc ?_ _)); exact BK145.out) hb); have n4_ := Aside0.mk (blk_below (g := gb154) (o := .cells #[.int .i64 ((rd_T23 y146 x18_1).f0), .int .i64 ((rd_T23 y146 x18_1).f1)] 23 (0, 0)) (by (with_reducible repeat (first | refine blk_drewN ?_ _ | refine blk_drew ?_ | refine blk_alloc ?_ _)); refine blk_put (cs := #[.int .i64 ((rd_T23 y146 x18_1).f0), .int .i64 0]) ?_ 1 _ rfl; (with_reducible repeat (first | refine blk_drewN ?_ _ | refine blk_drew ?_ | refine blk_alloc ?_ _)); refine blk_put (cs := #[.int .i64 0, .int .i64 0]) ?_ 0 _ rfl; (with_reducible repeat (first | refine blk_drewN ?_ _ | refine blk_drew ?_ | refine blk_alloc ?_ _)); exact BK154.out) hb); have n5_ := Aside0.mk (below_step (by repeat (first | (with_reducible first | exact HB.out | apply below_alloc | apply pw_below_drewN | apply below_drew1 | refine below_set ?_ GE144.out | refine below_set ?_ GE145.out | refine below_set ?_ GE154.out) | exact HB.out)) hb); clear HO_5; clear HO_16; clear BK144; clear BK145; clear BK154; clear HB; have HO_5 := n0_; have HO_16 := n1_; have BK144 := n2_; have BK145 := n3_; have BK154 := n4_; have HB := n5_; clear n0_ n1_ n2_ n3_ n4_ n5_; (try clear hb); (try clear hb2); (try clear hk); (try clear hi); have hcz30_0 : w29.cell? ⟨gb145, 0, none⟩ = some (.int .i64 a1_0) := (blk_cell BK145.out 0).trans rfl; have hcz30_1 : w29.cell? ⟨gb145, 1, none⟩ = some (.int .i64 a1_1) := (blk_cell BK145.out 1).trans rfl; have hcz30_2 : w29.cell? ⟨gb145, 2, none⟩ = some (.int .i64 a1_2) := (blk_cell BK145.out 2).trans rfl; have hcz30_3 : w29.cell? ⟨gb145, 3, none⟩ = some (.int .i64 a1_3) := (blk_cell BK145.out 3).trans rfl; have hfz30_0 := blk_frozen BK145.out 0; have hfz30_1 := blk_frozen BK145.out 1; have hfz30_2 := blk_frozen BK145.out 2; have hfz30_3 := blk_frozen BK145.out 3; have hcz31_0 : w29.cell? ⟨gb154, 0, none⟩ = some (.int .i64 ((rd_T23 y146 x18_1).f0)) := (blk_cell BK154.out 0).trans rfl; have hcz31_1 : w29.cell? ⟨gb154, 1, none⟩ = some (.int .i64 ((rd_T23 y146 x18_1).f1)) := (blk_cell BK154.out 1).trans rfl; have hfz31_0 := blk_frozen BK154.out 0; have hfz31_1 := blk_frozen BK154.out 1) | (go_at_call 88; (with_reducible refine (plane_on.calls a1_0 a1_1 a1_2 a1_3 ((rd_T23 y146 x18_1).f0) ((rd_T23 y146 x18_1).f1) true _ A21.out).mono ?_); rintro e w32 ⟨rfl, hb⟩; have n0_ := Aside0.mk (Kd.R_below (by (with_reducible repeat (first | apply Kd.R_alloc | apply Kd.R_drewN | apply Kd.R_drew)); exact HO_5.out) hb); have n1_ := Aside0.mk (Kd.R_below (by (with_reducible repeat (first | apply Kd.R_alloc | apply Kd.R_drewN | apply Kd.R_drew)); exact HO_16.out) hb); have n2_ := Aside0.mk (blk_below (g := gb144) (o := .cells #[.int .i64 a0_0, .int .i64 a0_1, .int .i64 a0_2, .int .i64 a0_3] 34 (0, 0)) (by (with_reducible repeat (first | refine blk_drewN ?_ _ | refine blk_drew ?_ | refine blk_alloc ?_ _)); exact BK144.out) hb); have n3_ := Aside0.mk (blk_below (g := gb145) (o := .cells #[.int .i64 a1_0, .int .i64 a1_1, .int .i64 a1_2, .int .i64 a1_3] 34 (0, 0)) (by (with_reducible repeat (first | refine blk_drewN ?_ _ | refine blk_drew ?_ | refine blk_alloc ?_ _)); exact BK145.out) hb); have n4_ := Aside0.mk (blk_below (g := gb154) (o := .cells #[.int .i64 ((rd_T23 y146 x18_1).f0), .int .i64 ((rd_T23 y146 x18_1).f1)] 23 (0, 0)) (by (with_reducible repeat (first | refine blk_drewN ?_ _ | refine blk_drew ?_ | refine blk_alloc ?_ _)); exact BK154.out) hb); have n5_ := Aside0.mk (below_step (by repeat (first | (with_reducible first | exact HB.out | apply below_alloc | apply pw_below_drewN | apply below_drew1 | refine below_set ?_ GE144.out | refine below_set ?_ GE145.out | refine below_set ?_ GE154.out) | exact HB.out)) hb); clear HO_5; clear HO_16; clear BK144; clear BK145; clear BK154; clear HB; have HO_5 := n0_; have HO_16 := n1_; have BK144 := n2_; have BK145 := n3_; have BK154 := n4_; have HB := n5_; clear n0_ n1_ n2_ n3_ n4_ n5_; (try clear hb); (try clear hb2); (try clear hk); (try clear hi); have hcz33_0 : w32.cell? ⟨gb154, 0, none⟩ = some (.int .i64 ((rd_T23 y146 x18_1).f0)) := (blk_cell BK154.out 0).trans rfl; have hcz33_1 : w32.cell? ⟨gb154, 1, none⟩ = some (.int .i64 ((rd_T23 y146 x18_1).f1)) := (blk_cell BK154.out 1).trans rfl; have hfz33_0 := blk_frozen BK154.out 0; have hfz33_1 := blk_frozen BK154.out 1; obtain ⟨Ao34, co34, eo34⟩ := Kd.R_slice HO_5.out; subst eo34) | (go_at_call 110; (with_reducible refine (api_Point_110.calls k1 _ _ x5_1 ((rd_T23 y146 x18_1).f0) ((rd_T23 y146 x18_1).f1) t157 _ ?side1 ?side2 A23.out).mono ?_); (case side1 => repeat (first | exact (Kd.R_reads' HO_5.out).2.2 | (with_reducible refine Kd.C_alloc ?_ _) | (with_reducible refine Kd.C_drewN ?_ _) | (with_reducible refine Kd.C_drew ?_))); (case side2 => exact (Kd.R_reads' HO_5.out).2.1); rintro e w35 ⟨rfl, hb⟩; have n0_ := Aside0.mk (Kd.R_below (by (with_reducible repeat (first | apply Kd.R_alloc | apply Kd.R_drewN | apply Kd.R_drew)); exact HO_5.out) hb); have n1_ := Aside0.mk (Kd.R_below (by (with_reducible repeat (first | apply Kd.R_alloc | apply Kd.R_drewN | apply Kd.R_drew)); exact HO_16.out) hb); have n2_ := Aside0.mk (blk_below (g := gb144) (o := .cells #[.int .i64 a0_0, .int .i64 a0_1, .int .i64 a0_2, .int .i64 a0_3] 34 (0, 0)) (by (with_reducible repeat (first | refine blk_drewN ?_ _ | refine blk_drew ?_ | refine blk_alloc ?_ _)); exact BK144.out) hb); have n3_ := Aside0.mk (blk_below (g := gb145) (o := .cells #[.int .i64 a1_0, .int .i64 a1_1, .int .i64 a1_2, .int .i64 a1_3] 34 (0, 0)) (by (with_reducible repeat (first | refine blk_drewN ?_ _ | refine blk_drew ?_ | refine blk_alloc ?_ _)); exact BK145.out) hb); have n4_ := Aside0.mk (blk_below (g := gb154) (o := .cells #[.int .i64 ((rd_T23 y146 x18_1).f0), .int .i64 ((rd_T23 y146 x18_1).f1)] 23 (0, 0)) (by (with_reducible repeat (first | refine blk_drewN ?_ _ | refine blk_drew ?_ | refine blk_alloc ?_ _)); exact BK154.out) hb); have n5_ := Aside0.mk (below_step (by repeat (first | (with_reducible first | exact HB.out | apply below_alloc | apply pw_below_drewN | apply below_drew1 | refine below_set ?_ GE144.out | refine below_set ?_ GE145.out | refine below_set ?_ GE154.out) | exact HB.out)) hb); clear HO_5; clear HO_16; clear BK144; clear BK145; clear BK154; clear HB; have HO_5 := n0_; have HO_16 := n1_; have BK144 := n2_; have BK145 := n3_; have BK154 := n4_; have HB := n5_; clear n0_ n1_ n2_ n3_ n4_ n5_; (try clear hb); (try clear hb2); (try clear hk); (try clear hi)))
                  go_meet
                  case rel => exact ⟨_, (!t157), (by first | rfl | (simp; done) | (simp [*]; done)), H', ⟨by have := HK1.out; first | omega | exact Nat.le_refl _⟩, ⟨by (with_reducible repeat (first | apply Kd.R_alloc | apply Kd.R_drewN | apply Kd.R_drew)); exact HO_5.out⟩, ⟨by (with_reducible repeat (first | apply Kd.R_alloc | apply Kd.R_drewN | apply Kd.R_drew)); exact HO_16.out⟩, ⟨by (with_reducible repeat (first | refine blk_drewN ?_ _ | refine blk_drew ?_ | refine blk_alloc ?_ _)); exact BK144.out⟩, ⟨by (with_reducible repeat (first | refine blk_drewN ?_ _ | refine blk_drew ?_ | refine blk_alloc ?_ _)); exact BK145.out⟩, ⟨by (with_reducible repeat (first | refine blk_drewN ?_ _ | refine blk_drew ?_ | refine blk_alloc ?_ _)); exact BK154.out⟩, ⟨by repeat (first | (with_reducible first | exact HB.out | apply below_alloc | apply pw_below_drewN | apply below_drew1 | refine below_set ?_ GE144.out | refine below_set ?_ GE145.out | refine below_set ?_ GE154.out) | exact HB.out)⟩⟩
                · replace c22 := Bool.eq_false_iff.mpr c22
                  subst c22
                  have H1 : (plane_along.j1 k1 x5_1 y146 (y146.length : Int) x18_1 false a0_0 a0_1 a0_2 a0_3 a1_0 a1_1 a1_2 a1_3 ((rd_T23 y146 x18_1).f0) ((rd_T23 y146 x18_1).f1)) = some r := by rw [if_neg (show ¬ (false = true) by decide)] at H; exact H
                  clear H
                  have H := H1
                  clear H1
                  have H' := Aside0.mk H
                  clear H
                  have hnb36 := NB144_145.out
                  have hnc36 := NB145_144.out
                  have hnb37 := NB144_154.out
                  have hnc37 := NB154_144.out
                  have hcz38_0 : w15.cell? ⟨gb144, 0, none⟩ = some (.int .i64 a0_0) := (blk_cell BK144.out 0).trans rfl
                  have hcz38_1 : w15.cell? ⟨gb144, 1, none⟩ = some (.int .i64 a0_1) := (blk_cell BK144.out 1).trans rfl
                  have hcz38_2 : w15.cell? ⟨gb144, 2, none⟩ = some (.int .i64 a0_2) := (blk_cell BK144.out 2).trans rfl
                  have hcz38_3 : w15.cell? ⟨gb144, 3, none⟩ = some (.int .i64 a0_3) := (blk_cell BK144.out 3).trans rfl
                  have hfz38_0 := blk_frozen BK144.out 0
                  have hfz38_1 := blk_frozen BK144.out 1
                  have hfz38_2 := blk_frozen BK144.out 2
                  have hfz38_3 := blk_frozen BK144.out 3
                  have hnb39 := NB154_145.out
                  have hnc39 := NB145_154.out
                  have hcz40_0 : w15.cell? ⟨gb154, 0, none⟩ = some (.int .i64 0) := (blk_cell BK154.out 0).trans rfl
                  have hcz40_1 : w15.cell? ⟨gb154, 1, none⟩ = some (.int .i64 0) := (blk_cell BK154.out 1).trans rfl
                  have hfz40_0 := blk_frozen BK154.out 0
                  have hfz40_1 := blk_frozen BK154.out 1
                  go_wp2_with (first | ((with_reducible refine gate_callee (f := 88) rfl ?_); refine goesL_ (some 27) rfl rfl Try.func88 (by kernel_rfl) rfl #[.agg #[.int .i64 a0_0, .int .i64 a0_1], .agg #[.int .i64 a0_2, .int .i64 a0_3], .agg #[.int .i64 ((rd_T23 y146 x18_1).f0), .int .i64 ((rd_T23 y146 x18_1).f1)]] rfl (by (try simp only [List.map_toArray, List.map_cons, List.map_nil]); first | done | rfl | (simp only [List.length_drop, List.length_take]; rfl)) ?_; (with_reducible refine (plane_on.calls a0_0 a0_1 a0_2 a0_3 ((rd_T23 y146 x18_1).f0) ((rd_T23 y146 x18_1).f1) true _ A19.out).mono ?_); rintro e w41 ⟨rfl, hb⟩; refine ⟨_, rfl, ?_⟩; have n0_ := Aside0.mk (Kd.R_below (by (with_reducible repeat (first | apply Kd.R_alloc | apply Kd.R_drewN | apply Kd.R_drew)); exact (Kd.R_mono (Kd.R_far (p := ⟨gb154, 1, none⟩) (Kd.R_far (p := ⟨gb154, 0, none⟩) (Kd.R_mono HO_5.out (fun k_ hk => (⟨hk, hk.2⟩ : _ ∧ k_ ≠ gb154))) (fun _ hk => hk.2) (.int .i64 ((rd_T23 y146 x18_1).f0))) (fun _ hk => hk.2) (.int .i64 ((rd_T23 y146 x18_1).f1))) (fun _ h_ => h_.1))) hb); have n1_ := Aside0.mk (Kd.R_below (by (with_reducible repeat (first | apply Kd.R_alloc | apply Kd.R_drewN | apply Kd.R_drew)); exact (Kd.R_mono (Kd.R_far (p := ⟨gb154, 1, none⟩) (Kd.R_far (p := ⟨gb154, 0, none⟩) (Kd.R_mono HO_16.out (fun k_ hk => (⟨hk, hk.2⟩ : _ ∧ k_ ≠ gb154))) (fun _ hk => hk.2) (.int .i64 ((rd_T23 y146 x18_1).f0))) (fun _ hk => hk.2) (.int .i64 ((rd_T23 y146 x18_1).f1))) (fun _ h_ => h_.1))) hb); have n2_ := Aside0.mk (blk_below (g := gb144) (o := .cells #[.int .i64 a0_0, .int .i64 a0_1, .int .i64 a0_2, .int .i64 a0_3] 34 (0, 0)) (by (with_reducible repeat (first | refine blk_drewN ?_ _ | refine blk_drew ?_ | refine blk_alloc ?_ _)); refine blk_far ?_ NB144_154.out _; (with_reducible repeat (first | refine blk_drewN ?_ _ | refine blk_drew ?_ | refine blk_alloc ?_ _)); refine blk_far ?_ NB144_154.out _; (with_reducible repeat (first | refine blk_drewN ?_ _ | refine blk_drew ?_ | refine blk_alloc ?_ _)); exact BK144.out) hb); have n3_ := Aside0.mk (blk_below (g := gb145) (o := .cells #[.int .i64 a1_0, .int .i64 a1_1, .int .i64 a1_2, .int .i64 a1_3] 34 (0, 0)) (by (with_reducible repeat (first | refine blk_drewN ?_ _ | refine blk_drew ?_ | refine blk_alloc ?_ _)); refine blk_far ?_ NB145_154.out _; (with_reducible repeat (first | refine blk_drewN ?_ _ | refine blk_drew ?_ | refine blk_alloc ?_ _)); refine blk_far ?_ NB145_154.out _; (with_reducible repeat (first | refine blk_drewN ?_ _ | refine blk_drew ?_ | refine blk_alloc ?_ _)); exact BK145.out) hb); have n4_ := Aside0.mk (blk_below (g := gb154) (o := .cells #[.int .i64 ((rd_T23 y146 x18_1).f0), .int .i64 ((rd_T23 y146 x18_1).f1)] 23 (0, 0)) (by (with_reducible repeat (first | refine blk_drewN ?_ _ | refine blk_drew ?_ | refine blk_alloc ?_ _)); refine blk_put (cs := #[.int .i64 ((rd_T23 y146 x18_1).f0), .int .i64 0]) ?_ 1 _ rfl; (with_reducible repeat (first | refine blk_drewN ?_ _ | refine blk_drew ?_ | refine blk_alloc ?_ _)); refine blk_put (cs := #[.int .i64 0, .int .i64 0]) ?_ 0 _ rfl; (with_reducible repeat (first | refine blk_drewN ?_ _ | refine blk_drew ?_ | refine blk_alloc ?_ _)); exact BK154.out) hb); have n5_ := Aside0.mk (below_step (by repeat (first | (with_reducible first | exact HB.out | apply below_alloc | apply pw_below_drewN | apply below_drew1 | refine below_set ?_ GE144.out | refine below_set ?_ GE145.out | refine below_set ?_ GE154.out) | exact HB.out)) hb); clear HO_5; clear HO_16; clear BK144; clear BK145; clear BK154; clear HB; have HO_5 := n0_; have HO_16 := n1_; have BK144 := n2_; have BK145 := n3_; have BK154 := n4_; have HB := n5_; clear n0_ n1_ n2_ n3_ n4_ n5_; (try clear hb); (try clear hb2); (try clear hk); (try clear hi); have hcz42_0 : w41.cell? ⟨gb145, 0, none⟩ = some (.int .i64 a1_0) := (blk_cell BK145.out 0).trans rfl; have hcz42_1 : w41.cell? ⟨gb145, 1, none⟩ = some (.int .i64 a1_1) := (blk_cell BK145.out 1).trans rfl; have hcz42_2 : w41.cell? ⟨gb145, 2, none⟩ = some (.int .i64 a1_2) := (blk_cell BK145.out 2).trans rfl; have hcz42_3 : w41.cell? ⟨gb145, 3, none⟩ = some (.int .i64 a1_3) := (blk_cell BK145.out 3).trans rfl; have hfz42_0 := blk_frozen BK145.out 0; have hfz42_1 := blk_frozen BK145.out 1; have hfz42_2 := blk_frozen BK145.out 2; have hfz42_3 := blk_frozen BK145.out 3; have hcz43_0 : w41.cell? ⟨gb154, 0, none⟩ = some (.int .i64 ((rd_T23 y146 x18_1).f0)) := (blk_cell BK154.out 0).trans rfl; have hcz43_1 : w41.cell? ⟨gb154, 1, none⟩ = some (.int .i64 ((rd_T23 y146 x18_1).f1)) := (blk_cell BK154.out 1).trans rfl; have hfz43_0 := blk_frozen BK154.out 0; have hfz43_1 := blk_frozen BK154.out 1) | (go_at_call 88; (with_reducible refine (plane_on.calls a1_0 a1_1 a1_2 a1_3 ((rd_T23 y146 x18_1).f0) ((rd_T23 y146 x18_1).f1) false _ A21.out).mono ?_); rintro e w44 ⟨rfl, hb⟩; have n0_ := Aside0.mk (Kd.R_below (by (with_reducible repeat (first | apply Kd.R_alloc | apply Kd.R_drewN | apply Kd.R_drew)); exact HO_5.out) hb); have n1_ := Aside0.mk (Kd.R_below (by (with_reducible repeat (first | apply Kd.R_alloc | apply Kd.R_drewN | apply Kd.R_drew)); exact HO_16.out) hb); have n2_ := Aside0.mk (blk_below (g := gb144) (o := .cells #[.int .i64 a0_0, .int .i64 a0_1, .int .i64 a0_2, .int .i64 a0_3] 34 (0, 0)) (by (with_reducible repeat (first | refine blk_drewN ?_ _ | refine blk_drew ?_ | refine blk_alloc ?_ _)); exact BK144.out) hb); have n3_ := Aside0.mk (blk_below (g := gb145) (o := .cells #[.int .i64 a1_0, .int .i64 a1_1, .int .i64 a1_2, .int .i64 a1_3] 34 (0, 0)) (by (with_reducible repeat (first | refine blk_drewN ?_ _ | refine blk_drew ?_ | refine blk_alloc ?_ _)); exact BK145.out) hb); have n4_ := Aside0.mk (blk_below (g := gb154) (o := .cells #[.int .i64 ((rd_T23 y146 x18_1).f0), .int .i64 ((rd_T23 y146 x18_1).f1)] 23 (0, 0)) (by (with_reducible repeat (first | refine blk_drewN ?_ _ | refine blk_drew ?_ | refine blk_alloc ?_ _)); exact BK154.out) hb); have n5_ := Aside0.mk (below_step (by repeat (first | (with_reducible first | exact HB.out | apply below_alloc | apply pw_below_drewN | apply below_drew1 | refine below_set ?_ GE144.out | refine below_set ?_ GE145.out | refine below_set ?_ GE154.out) | exact HB.out)) hb); clear HO_5; clear HO_16; clear BK144; clear BK145; clear BK154; clear HB; have HO_5 := n0_; have HO_16 := n1_; have BK144 := n2_; have BK145 := n3_; have BK154 := n4_; have HB := n5_; clear n0_ n1_ n2_ n3_ n4_ n5_; (try clear hb); (try clear hb2); (try clear hk); (try clear hi)))
                  go_meet
                  case rel => exact ⟨_, (false), (by first | rfl | (simp; done) | (simp [*]; done)), H', ⟨by have := HK1.out; first | omega | exact Nat.le_refl _⟩, ⟨by (with_reducible repeat (first | apply Kd.R_alloc | apply Kd.R_drewN | apply Kd.R_drew)); exact HO_5.out⟩, ⟨by (with_reducible repeat (first | apply Kd.R_alloc | apply Kd.R_drewN | apply Kd.R_drew)); exact HO_16.out⟩, ⟨by (with_reducible repeat (first | refine blk_drewN ?_ _ | refine blk_drew ?_ | refine blk_alloc ?_ _)); exact BK144.out⟩, ⟨by (with_reducible repeat (first | refine blk_drewN ?_ _ | refine blk_drew ?_ | refine blk_alloc ?_ _)); exact BK145.out⟩, ⟨by (with_reducible repeat (first | refine blk_drewN ?_ _ | refine blk_drew ?_ | refine blk_alloc ?_ _)); exact BK154.out⟩, ⟨by repeat (first | (with_reducible first | exact HB.out | apply below_alloc | apply pw_below_drewN | apply below_drew1 | refine below_set ?_ GE144.out | refine below_set ?_ GE145.out | refine below_set ?_ GE154.out) | exact HB.out)⟩⟩
              · replace c20 := Bool.eq_false_iff.mpr c20
                subst c20
                have H1 : (plane_along.j1 k1 x5_1 y146 (y146.length : Int) x18_1 false a0_0 a0_1 a0_2 a0_3 a1_0 a1_1 a1_2 a1_3 ((rd_T23 y146 x18_1).f0) ((rd_T23 y146 x18_1).f1)) = some r := by rw [if_neg (show ¬ (false = true) by decide)] at H; exact H
                clear H
                have H := H1
                clear H1
                have H' := Aside0.mk H
                clear H
                have hnb45 := NB144_145.out
                have hnc45 := NB145_144.out
                have hnb46 := NB144_154.out
                have hnc46 := NB154_144.out
                have hcz47_0 : w15.cell? ⟨gb144, 0, none⟩ = some (.int .i64 a0_0) := (blk_cell BK144.out 0).trans rfl
                have hcz47_1 : w15.cell? ⟨gb144, 1, none⟩ = some (.int .i64 a0_1) := (blk_cell BK144.out 1).trans rfl
                have hcz47_2 : w15.cell? ⟨gb144, 2, none⟩ = some (.int .i64 a0_2) := (blk_cell BK144.out 2).trans rfl
                have hcz47_3 : w15.cell? ⟨gb144, 3, none⟩ = some (.int .i64 a0_3) := (blk_cell BK144.out 3).trans rfl
                have hfz47_0 := blk_frozen BK144.out 0
                have hfz47_1 := blk_frozen BK144.out 1
                have hfz47_2 := blk_frozen BK144.out 2
                have hfz47_3 := blk_frozen BK144.out 3
                have hnb48 := NB154_145.out
                have hnc48 := NB145_154.out
                have hcz49_0 : w15.cell? ⟨gb154, 0, none⟩ = some (.int .i64 0) := (blk_cell BK154.out 0).trans rfl
                have hcz49_1 : w15.cell? ⟨gb154, 1, none⟩ = some (.int .i64 0) := (blk_cell BK154.out 1).trans rfl
                have hfz49_0 := blk_frozen BK154.out 0
                have hfz49_1 := blk_frozen BK154.out 1
                go_wp2_with (first | ((with_reducible refine gate_callee (f := 88) rfl ?_); refine goesL_ (some 27) rfl rfl Try.func88 (by kernel_rfl) rfl #[.agg #[.int .i64 a0_0, .int .i64 a0_1], .agg #[.int .i64 a0_2, .int .i64 a0_3], .agg #[.int .i64 ((rd_T23 y146 x18_1).f0), .int .i64 ((rd_T23 y146 x18_1).f1)]] rfl (by (try simp only [List.map_toArray, List.map_cons, List.map_nil]); first | done | rfl | (simp only [List.length_drop, List.length_take]; rfl)) ?_; (with_reducible refine (plane_on.calls a0_0 a0_1 a0_2 a0_3 ((rd_T23 y146 x18_1).f0) ((rd_T23 y146 x18_1).f1) false _ A19.out).mono ?_); rintro e w50 ⟨rfl, hb⟩; refine ⟨_, rfl, ?_⟩; have n0_ := Aside0.mk (Kd.R_below (by (with_reducible repeat (first | apply Kd.R_alloc | apply Kd.R_drewN | apply Kd.R_drew)); exact (Kd.R_mono (Kd.R_far (p := ⟨gb154, 1, none⟩) (Kd.R_far (p := ⟨gb154, 0, none⟩) (Kd.R_mono HO_5.out (fun k_ hk => (⟨hk, hk.2⟩ : _ ∧ k_ ≠ gb154))) (fun _ hk => hk.2) (.int .i64 ((rd_T23 y146 x18_1).f0))) (fun _ hk => hk.2) (.int .i64 ((rd_T23 y146 x18_1).f1))) (fun _ h_ => h_.1))) hb); have n1_ := Aside0.mk (Kd.R_below (by (with_reducible repeat (first | apply Kd.R_alloc | apply Kd.R_drewN | apply Kd.R_drew)); exact (Kd.R_mono (Kd.R_far (p := ⟨gb154, 1, none⟩) (Kd.R_far (p := ⟨gb154, 0, none⟩) (Kd.R_mono HO_16.out (fun k_ hk => (⟨hk, hk.2⟩ : _ ∧ k_ ≠ gb154))) (fun _ hk => hk.2) (.int .i64 ((rd_T23 y146 x18_1).f0))) (fun _ hk => hk.2) (.int .i64 ((rd_T23 y146 x18_1).f1))) (fun _ h_ => h_.1))) hb); have n2_ := Aside0.mk (blk_below (g := gb144) (o := .cells #[.int .i64 a0_0, .int .i64 a0_1, .int .i64 a0_2, .int .i64 a0_3] 34 (0, 0)) (by (with_reducible repeat (first | refine blk_drewN ?_ _ | refine blk_drew ?_ | refine blk_alloc ?_ _)); refine blk_far ?_ NB144_154.out _; (with_reducible repeat (first | refine blk_drewN ?_ _ | refine blk_drew ?_ | refine blk_alloc ?_ _)); refine blk_far ?_ NB144_154.out _; (with_reducible repeat (first | refine blk_drewN ?_ _ | refine blk_drew ?_ | refine blk_alloc ?_ _)); exact BK144.out) hb); have n3_ := Aside0.mk (blk_below (g := gb145) (o := .cells #[.int .i64 a1_0, .int .i64 a1_1, .int .i64 a1_2, .int .i64 a1_3] 34 (0, 0)) (by (with_reducible repeat (first | refine blk_drewN ?_ _ | refine blk_drew ?_ | refine blk_alloc ?_ _)); refine blk_far ?_ NB145_154.out _; (with_reducible repeat (first | refine blk_drewN ?_ _ | refine blk_drew ?_ | refine blk_alloc ?_ _)); refine blk_far ?_ NB145_154.out _; (with_reducible repeat (first | refine blk_drewN ?_ _ | refine blk_drew ?_ | refine blk_alloc ?_ _)); exact BK145.out) hb); have n4_ := Aside0.mk (blk_below (g := gb154) (o := .cells #[.int .i64 ((rd_T23 y146 x18_1).f0), .int .i64 ((rd_T23 y146 x18_1).f1)] 23 (0, 0)) (by (with_reducible repeat (first | refine blk_drewN ?_ _ | refine blk_drew ?_ | refine blk_alloc ?_ _)); refine blk_put (cs := #[.int .i64 ((rd_T23 y146 x18_1).f0), .int .i64 0]) ?_ 1 _ rfl; (with_reducible repeat (first | refine blk_drewN ?_ _ | refine blk_drew ?_ | refine blk_alloc ?_ _)); refine blk_put (cs := #[.int .i64 0, .int .i64 0]) ?_ 0 _ rfl; (with_reducible repeat (first | refine blk_drewN ?_ _ | refine blk_drew ?_ | refine blk_alloc ?_ _)); exact BK154.out) hb); have n5_ := Aside0.mk (below_step (by repeat (first | (with_reducible first | exact HB.out | apply below_alloc | apply pw_below_drewN | apply below_drew1 | refine below_set ?_ GE144.out | refine below_set ?_ GE145.out | refine below_set ?_ GE154.out) | exact HB.out)) hb); clear HO_5; clear HO_16; clear BK144; clear BK145; clear BK154; clear HB; have HO_5 := n0_; have HO_16 := n1_; have BK144 := n2_; have BK145 := n3_; have BK154 := n4_; have HB := n5_; clear n0_ n1_ n2_ n3_ n4_ n5_; (try clear hb); (try clear hb2); (try clear hk); (try clear hi)))
                go_meet
                case rel => exact ⟨_, (false), (by first | rfl | (simp; done) | (simp [*]; done)), H', ⟨by have := HK1.out; first | omega | exact Nat.le_refl _⟩, ⟨by (with_reducible repeat (first | apply Kd.R_alloc | apply Kd.R_drewN | apply Kd.R_drew)); exact HO_5.out⟩, ⟨by (with_reducible repeat (first | apply Kd.R_alloc | apply Kd.R_drewN | apply Kd.R_drew)); exact HO_16.out⟩, ⟨by (with_reducible repeat (first | refine blk_drewN ?_ _ | refine blk_drew ?_ | refine blk_alloc ?_ _)); exact BK144.out⟩, ⟨by (with_reducible repeat (first | refine blk_drewN ?_ _ | refine blk_drew ?_ | refine blk_alloc ?_ _)); exact BK145.out⟩, ⟨by (with_reducible repeat (first | refine blk_drewN ?_ _ | refine blk_drew ?_ | refine blk_alloc ?_ _)); exact BK154.out⟩, ⟨by repeat (first | (with_reducible first | exact HB.out | apply below_alloc | apply pw_below_drewN | apply below_drew1 | refine below_set ?_ GE144.out | refine below_set ?_ GE145.out | refine below_set ?_ GE154.out) | exact HB.out)⟩⟩
            case rest =>
              clear HC14
              try clear c1
              try clear p1
              try clear q1
              try clear hx1
              try clear c2
              try clear p2
              try clear c3
              try clear c4
              try clear c5
              try clear c8
              try clear c9
              try clear c11
              try clear c11b0
              try clear c12
              try clear c12b0
              try clear c13
              try clear c13b0
              try clear p15
              try clear q15
              try clear hx15
              try clear c16
              try clear c17
              try clear c20
              try clear c22
              try clear c24
              try clear c25
              try clear c27
              try clear c36
              try clear c37
              try clear c39
              try clear c45
              try clear c46
              try clear c48
              try clear hcz18_0
              try clear hcz18_1
              try clear hcz26_0
              try clear hcz26_1
              try clear hcz26_2
              try clear hcz26_3
              try clear hcz28_0
              try clear hcz28_1
              try clear hcz30_0
              try clear hcz30_1
              try clear hcz30_2
              try clear hcz30_3
              try clear hcz31_0
              try clear hcz31_1
              try clear hcz33_0
              try clear hcz33_1
              try clear hcz38_0
              try clear hcz38_1
              try clear hcz38_2
              try clear hcz38_3
              try clear hcz40_0
              try clear hcz40_1
              try clear hcz42_0
              try clear hcz42_1
              try clear hcz42_2
              try clear hcz42_3
              try clear hcz43_0
              try clear hcz43_1
              try clear hcz47_0
              try clear hcz47_1
              try clear hcz47_2
              try clear hcz47_3
              try clear hcz49_0
              try clear hcz49_1
              try clear hcz6_0
              try clear hcz6_1
              try clear hcz6_2
              try clear hcz6_3
              try clear hcz7_0
              try clear hcz7_1
              try clear hcz7_2
              try clear hcz7_3
              try clear hfz18_0
              try clear hfz18_1
              try clear hfz26_0
              try clear hfz26_1
              try clear hfz26_2
              try clear hfz26_3
              try clear hfz28_0
              try clear hfz28_1
              try clear hfz30_0
              try clear hfz30_1
              try clear hfz30_2
              try clear hfz30_3
              try clear hfz31_0
              try clear hfz31_1
              try clear hfz33_0
              try clear hfz33_1
              try clear hfz38_0
              try clear hfz38_1
              try clear hfz38_2
              try clear hfz38_3
              try clear hfz40_0
              try clear hfz40_1
              try clear hfz42_0
              try clear hfz42_1
              try clear hfz42_2
              try clear hfz42_3
              try clear hfz43_0
              try clear hfz43_1
              try clear hfz47_0
              try clear hfz47_1
              try clear hfz47_2
              try clear hfz47_3
              try clear hfz49_0
              try clear hfz49_1
              try clear hfz6_0
              try clear hfz6_1
              try clear hfz6_2
              try clear hfz6_3
              try clear hfz7_0
              try clear hfz7_1
              try clear hfz7_2
              try clear hfz7_3
              try clear hx153_0
              try clear hx153_1
              try clear p153
              try clear p2
              try clear q153
              obtain ⟨kq, x41_13, rfl, HA, HJ13, HO_5, HO_16, BK144, BK145, BK154, HB⟩ := hcut
              cases kq with
              | zero => exact absurd HA.out (by simp [plane_along.j1])
              | succ kj13 =>
                have H := HA.out
                clear HA
                simp only [plane_along.j1] at H
                by_cases c51 : x41_13 = true
                · subst c51
                  have H1 : (if x5_1.length < 8796093022208 then (plane_along.l0 kj13 (x5_1 ++ [(⟨((rd_T23 y146 x18_1).f0), ((rd_T23 y146 x18_1).f1)⟩ : S23)]) y146 (y146.length : Int) (wrap64 (x18_1 + 1)) a0_0 a0_1 a0_2 a0_3 a1_0 a1_1 a1_2 a1_3) else (none)) = some r := by rw [if_pos rfl] at H; exact H
                  clear H
                  have H := H1
                  clear H1
                  by_cases c52 : x5_1.length < 8796093022208
                  · rw [if_pos c52] at H
                    have LMc52 := Aside0.mk c52
                    clear c52
                    obtain ⟨y158, hy158⟩ : ∃ y_ : List (S23), y_ = (x5_1 ++ [(⟨((rd_T23 y146 x18_1).f0), ((rd_T23 y146 x18_1).f1)⟩ : S23)]) := ⟨_, rfl⟩
                    replace H : (plane_along.l0 kj13 y158 y146 (y146.length : Int) (wrap64 (x18_1 + 1)) a0_0 a0_1 a0_2 a0_3 a1_0 a1_1 a1_2 a1_3) = some r := by first | (rw [hy158]; with_reducible exact H) | (have H2_ := (Option.bind_some _ _).symm.trans H; rw [hy158]; with_reducible exact H2_) | (have H2_ := (Option.bind_some _ _).symm.trans H; with_reducible exact H2_) | with_reducible exact H | (rw [hy158]; exact H) | exact H
                    have Ny158 := Aside0.mk hy158
                    clear hy158
                    have H' := Aside0.mk H
                    clear H
                    have hnb53 := NB154_144.out
                    have hnc53 := NB144_154.out
                    have hnb54 := NB154_145.out
                    have hnc54 := NB145_154.out
                    have hcz55_0 : wc.cell? ⟨gb154, 0, none⟩ = some (.int .i64 ((rd_T23 y146 x18_1).f0)) := (blk_cell BK154.out 0).trans rfl
                    have hcz55_1 : wc.cell? ⟨gb154, 1, none⟩ = some (.int .i64 ((rd_T23 y146 x18_1).f1)) := (blk_cell BK154.out 1).trans rfl
                    have hfz55_0 := blk_frozen BK154.out 0
                    have hfz55_1 := blk_frozen BK154.out 1
                    go_wp2_with (first | ((with_reducible refine gate_builtin (b := .append) (xs := #[.tmp 42, .tmp 44]) rfl ?_); at_builtin; refine Kd.R_append k23 (w0 := w) w.heap.size rfl (.tmp 42) (.tmp 44) 39 23 (.agg #[(.int .i64 0), (.int .i64 0)]) 16 rfl Try.underlying39 info23 rfl (by decide) (by omega) u5 x5_1 (⟨((rd_T23 y146 x18_1).f0), ((rd_T23 y146 x18_1).f1)⟩ : S23) [.int .i64 ((rd_T23 y146 x18_1).f0), .int .i64 ((rd_T23 y146 x18_1).f1)] (fun k_ => some k_ ≠ (.slice (some ad153) y146.length co10 : Value).ownBlock ∧ k_ ≠ gb154) (fun _ => False) rfl rfl ?aP (fun _ hk => hk.elim) ?aF ?aO ?aB ?aS ?aL ?_; (case aP => exact k23_mkM _ _ _ (⟨((rd_T23 y146 x18_1).f0), ((rd_T23 y146 x18_1).f1)⟩ : S23)); (case aB => exact (by repeat (first | (with_reducible first | exact HB.out | apply below_alloc | apply pw_below_drewN | apply below_drew1 | refine below_set ?_ GE144.out | refine below_set ?_ GE145.out | refine below_set ?_ GE154.out) | exact HB.out))); (case aF => exact (fun k_ hk => ⟨Kd.fresh' (Kd.R_lt (by (with_reducible repeat (first | apply Kd.R_alloc | apply Kd.R_drewN | apply Kd.R_drew)); exact HO_16.out)) k_ hk, Kd.freshB (g := gb154) (o := .cells #[.int .i64 ((rd_T23 y146 x18_1).f0), .int .i64 ((rd_T23 y146 x18_1).f1)] 23 (0, 0)) (by (with_reducible repeat (first | refine blk_drewN ?_ _ | refine blk_drew ?_ | refine blk_alloc ?_ _)); exact BK154.out) k_ hk⟩)); (case aO => exact (by (with_reducible repeat (first | apply Kd.R_alloc | apply Kd.R_drewN | apply Kd.R_drew)); exact HO_5.out)); (case aS => exact (below_size (by repeat (first | (with_reducible first | exact HB.out | apply below_alloc | apply pw_below_drewN | apply below_drew1 | refine below_set ?_ GE144.out | refine below_set ?_ GE145.out | refine below_set ?_ GE154.out) | exact HB.out)))); (case aL => have := LMc52.out; omega); intro v159 w56 ho hb hg hat; rw [← Ny158.out] at ho; have n0_ := Aside0.mk (Kd.R_after (ok := (fun k_ => k_ ≠ gb154)) (by (with_reducible repeat (first | apply Kd.R_alloc | apply Kd.R_drewN | apply Kd.R_drew)); exact Kd.R_mono HO_16.out (fun _ hk => ⟨hk.2, hk.1⟩)) hg hat); have n1_ := Aside0.mk (blk_grown (g := gb144) (o := .cells #[.int .i64 a0_0, .int .i64 a0_1, .int .i64 a0_2, .int .i64 a0_3] 34 (0, 0)) (by (with_reducible repeat (first | refine blk_drewN ?_ _ | refine blk_drew ?_ | refine blk_alloc ?_ _)); exact BK144.out) hg (Kd.R_ne HO_5.out BK144.out (by decide))); have n2_ := Aside0.mk (blk_grown (g := gb145) (o := .cells #[.int .i64 a1_0, .int .i64 a1_1, .int .i64 a1_2, .int .i64 a1_3] 34 (0, 0)) (by (with_reducible repeat (first | refine blk_drewN ?_ _ | refine blk_drew ?_ | refine blk_alloc ?_ _)); exact BK145.out) hg (Kd.R_ne HO_5.out BK145.out (by decide))); have n3_ := Aside0.mk (blk_grown (g := gb154) (o := .cells #[.int .i64 ((rd_T23 y146 x18_1).f0), .int .i64 ((rd_T23 y146 x18_1).f1)] 23 (0, 0)) (by (with_reducible repeat (first | refine blk_drewN ?_ _ | refine blk_drew ?_ | refine blk_alloc ?_ _)); exact BK154.out) hg (Kd.R_away HO_5.out (fun _ hk => hk.2))); have n4_ := Aside0.mk (hb); have n5_ := Aside0.mk (ho); clear HO_16; clear BK144; clear BK145; clear BK154; clear HB; clear HO_5; have HO_16 := n0_; have BK144 := n1_; have BK145 := n2_; have BK154 := n3_; have HB := n4_; have HO160 := n5_; clear n0_ n1_ n2_ n3_ n4_ n5_; clear ho hb hg hat))
                    go_roundg kj13
                    case measure => have := HK1.out; have := HJ13.out; omega
                    case rel => exact ⟨(y158), (wrap64 (x18_1 + 1)), (by first | rfl | (simp; done) | (simp [*]; done)), H', ⟨by have := HK1.out; have := HJ13.out; omega⟩, ⟨by (with_reducible repeat (first | apply Kd.R_alloc | apply Kd.R_drewN | apply Kd.R_drew)); exact Kd.R_mono HO160.out (fun _ hk => hk.1)⟩, ⟨by (with_reducible repeat (first | apply Kd.R_alloc | apply Kd.R_drewN | apply Kd.R_drew)); exact Kd.R_mono HO_16.out (fun _ hk => hk.2)⟩, ⟨by (with_reducible repeat (first | refine blk_drewN ?_ _ | refine blk_drew ?_ | refine blk_alloc ?_ _)); exact BK144.out⟩, ⟨by (with_reducible repeat (first | refine blk_drewN ?_ _ | refine blk_drew ?_ | refine blk_alloc ?_ _)); exact BK145.out⟩, ⟨by repeat (first | (with_reducible first | exact HB.out | apply below_alloc | apply pw_below_drewN | apply below_drew1 | refine below_set ?_ GE144.out | refine below_set ?_ GE145.out | refine below_set ?_ GE154.out) | exact HB.out)⟩⟩
                  · rw [if_neg c52] at H
                    exact absurd H (by simp)
                · replace c51 := Bool.eq_false_iff.mpr c51
                  subst c51
                  have H1 : (plane_along.l0 kj13 x5_1 y146 (y146.length : Int) (wrap64 (x18_1 + 1)) a0_0 a0_1 a0_2 a0_3 a1_0 a1_1 a1_2 a1_3) = some r := by rw [if_neg (show ¬ (false = true) by decide)] at H; exact H
                  clear H
                  have H := H1
                  clear H1
                  have H' := Aside0.mk H
                  clear H
                  go_wp2
                  go_roundg kj13
                  case measure => have := HK1.out; have := HJ13.out; omega
                  case rel => exact ⟨(x5_1), (wrap64 (x18_1 + 1)), (by first | rfl | (simp; done) | (simp [*]; done)), H', ⟨by have := HK1.out; have := HJ13.out; omega⟩, ⟨by (with_reducible repeat (first | apply Kd.R_alloc | apply Kd.R_drewN | apply Kd.R_drew)); exact Kd.R_mono HO_5.out (fun _ hk => hk.1)⟩, ⟨by (with_reducible repeat (first | apply Kd.R_alloc | apply Kd.R_drewN | apply Kd.R_drew)); exact Kd.R_mono HO_16.out (fun _ hk => hk.1)⟩, ⟨by (with_reducible repeat (first | refine blk_drewN ?_ _ | refine blk_drew ?_ | refine blk_alloc ?_ _)); exact BK144.out⟩, ⟨by (with_reducible repeat (first | refine blk_drewN ?_ _ | refine blk_drew ?_ | refine blk_alloc ?_ _)); exact BK145.out⟩, ⟨by repeat (first | (with_reducible first | exact HB.out | apply below_alloc | apply pw_below_drewN | apply below_drew1 | refine below_set ?_ GE144.out | refine below_set ?_ GE145.out | refine below_set ?_ GE154.out) | exact HB.out)⟩⟩
          · rw [if_neg c13] at H
            exact absurd H (by simp)
        · rw [if_neg c12] at H
          exact absurd H (by simp)
      · rw [if_neg c11] at H
        have c11b0 : decide (x18_1 < (y146.length : Int)) = false := decide_eq_false c11
        clear c11
        obtain ⟨y149, hy149⟩ : ∃ y_ : List Int, y_ = (([0, 1, 3, 3, 3] : List Int)) := ⟨_, rfl⟩
        replace H : (if 0 ≤ (x5_1.length : Int) then (if (x5_1.length : Int) < (y149.length : Int) then (some (rd y149 (x5_1.length : Int))) else (none)) else (none)) = some r := by first | (rw [hy149]; with_reducible exact H) | (have H2_ := (Option.bind_some _ _).symm.trans H; rw [hy149]; with_reducible exact H2_) | (have H2_ := (Option.bind_some _ _).symm.trans H; with_reducible exact H2_) | with_reducible exact H | (rw [hy149]; exact H) | exact H
        have Ny149 := Aside0.mk hy149
        clear hy149
        by_cases c57 : 0 ≤ (x5_1.length : Int)
        · rw [if_pos c57] at H
          have c57b0 : decide (0 ≤ (x5_1.length : Int)) = true := decide_eq_true c57
          have c57b1 : decide (0 ≤ x5_1.length) = true := decide_eq_true (by omega)
          clear c57
          by_cases c58 : (x5_1.length : Int) < (y149.length : Int)
          · rw [if_pos c58] at H
            have c58b0 : decide ((x5_1.length : Int) < (y149.length : Int)) = true := decide_eq_true c58
            have c58b1 : decide (x5_1.length < y149.length) = true := decide_eq_true (Int.ofNat_lt.mp c58)
            clear c58
            obtain rfl := Option.some.inj H
            go_wp2_with (first | ((with_reducible refine gate_dst (N := 47) rfl ?_); refine Kd.R_lit (Kd.int .i64) _ 3 ?hg (N := 47) ?hd (xs := ([0, 1, 3, 3, 3] : List Int)) (inner := [.int .i64 0, .int .i64 1, .int .i64 3, .int .i64 3, .int .i64 3]) (ok := fun _ => True) (okp := fun _ => True) ?hr ?hp (fun _ hk => hk) trivial (Below.refl _ _) (Nat.le_refl _) (by simp) ?_; (case hd => rfl); (case hg => rfl); (case hr => first | (go_simp; done) | (go_simp; rfl)); (case hp => exact (Reps.one (show Kd.M (Kd.int .i64) _ _ _ 0 [.int .i64 0] from rfl) (Reps.one (show Kd.M (Kd.int .i64) _ _ _ 1 [.int .i64 1] from rfl) (Reps.one (show Kd.M (Kd.int .i64) _ _ _ 3 [.int .i64 3] from rfl) (Reps.one (show Kd.M (Kd.int .i64) _ _ _ 3 [.int .i64 3] from rfl) (Reps.one (show Kd.M (Kd.int .i64) _ _ _ 3 [.int .i64 3] from rfl) (Reps.none _ _))))))); intro v150 w59 ho60 hb hg_ hnew_; clear hg_ hnew_; (first | rw [← Ny149.out] at ho60 | (simp only [Int.reduceToNat] at ho60; rw [← Ny149.out] at ho60)); have n0_ := Aside0.mk (Kd.R_below (by (with_reducible repeat (first | apply Kd.R_alloc | apply Kd.R_drewN | apply Kd.R_drew)); exact HO_5.out) hb); have n1_ := Aside0.mk (Kd.R_below (by (with_reducible repeat (first | apply Kd.R_alloc | apply Kd.R_drewN | apply Kd.R_drew)); exact HO_16.out) hb); have n2_ := Aside0.mk (Kd.R_lower ho60 (below_size (by repeat (first | (with_reducible first | exact HB.out | apply below_alloc | apply pw_below_drewN | apply below_drew1 | refine below_set ?_ GE144.out | refine below_set ?_ GE145.out) | exact HB.out)))); have n3_ := Aside0.mk (blk_below (g := gb144) (o := .cells #[.int .i64 a0_0, .int .i64 a0_1, .int .i64 a0_2, .int .i64 a0_3] 34 (0, 0)) (by (with_reducible repeat (first | refine blk_drewN ?_ _ | refine blk_drew ?_ | refine blk_alloc ?_ _)); exact BK144.out) hb); have n4_ := Aside0.mk (blk_below (g := gb145) (o := .cells #[.int .i64 a1_0, .int .i64 a1_1, .int .i64 a1_2, .int .i64 a1_3] 34 (0, 0)) (by (with_reducible repeat (first | refine blk_drewN ?_ _ | refine blk_drew ?_ | refine blk_alloc ?_ _)); exact BK145.out) hb); have n5_ := Aside0.mk (below_step (by repeat (first | (with_reducible first | exact HB.out | apply below_alloc | apply pw_below_drewN | apply below_drew1 | refine below_set ?_ GE144.out | refine below_set ?_ GE145.out) | exact HB.out)) hb); clear HO_5; clear HO_16; clear BK144; clear BK145; clear HB; have HO_5 := n0_; have HO_16 := n1_; have HO151 := n2_; have BK144 := n3_; have BK145 := n4_; have HB := n5_; clear n0_ n1_ n2_ n3_ n4_ n5_; clear hb ho60; obtain ⟨Ao61, co61, eo61⟩ := Kd.R_slice HO_5.out; subst eo61; obtain ⟨Ao62, co62, eo62⟩ := Kd.R_slice HO151.out; subst eo62; have p152 : 0 ≤ ((x5_1.length : Int) : Int) := of_decide_eq_true (by first | (with_reducible assumption) | assumption); have q152 : (x5_1.length : Int) < (y149.length : Int) := of_decide_eq_true (by first | (with_reducible assumption) | assumption); obtain ⟨ad152, e152, hx152_0⟩ := Kd.at_int (Kd.R_reads' HO151.out).2.2 (x5_1.length : Int) p152 q152; cases e152; (try simp only [Go.IntWalk.toNatUp] at hx152_0); replace p152 := eq_true p152; replace q152 := eq_true q152))
            go_ret
            exact ⟨by first | rfl | (simp [errW_none, errW_some] <;> rfl) | (simp [*, errW_none, errW_some] <;> rfl), by repeat (first | (with_reducible first | exact HB.out | apply below_alloc | apply pw_below_drewN | apply below_drew1 | refine below_set ?_ GE144.out | refine below_set ?_ GE145.out) | exact HB.out)⟩
          · rw [if_neg c58] at H
            exact absurd H (by simp)
        · rw [if_neg c57] at H
          exact absurd H (by simp)
end Go.Proofs.Ytckaejgamfllfaa.G
end
