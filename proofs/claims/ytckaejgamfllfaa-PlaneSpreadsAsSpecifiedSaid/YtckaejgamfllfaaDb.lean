/- Part 2 of 6. -/
import Derived.Test.YtckaejgamfllfaaDa
import Derived.Test.YtckaejgamfllfaaProg
import Derived.Below
import Derived.Deep.Draws
import Derived.Deep.AppendLies
import Derived.Maps.AppendAt
import Derived.OwnWalk
import Derived.Laws.BytesArg
import Derived.Laws.MakeOwn
import Derived.Laws.OwnMore
import Derived.Deep.OwnRows
import Derived.Tactics
import Derived.Lib.ConvBytes
import Derived.Laws.Slices
import Derived.WalkKit
import Derived.KernelRfl
import Derived.RowKit3
import Derived.Deep.LoopGhost
import Derived.Deep.QuietTactic
import Derived.BigQuiet
import Derived.WideLaws
import Derived.Deep.DeepCutAuto
import Derived.Deep.CutBlock
import Derived.Deep.RegionHeld3
import Derived.Laws.Rows
import Derived.Lib.AppendStr
import Derived.ArgAppend
import Derived.Laws.IdiomCopy
import Derived.OrdersHeld
import Derived.Laws.BitsLemmas
import Derived.RowKit
import Derived.Lib.SliceRun
import Derived.Shelf.SlSortCmp.NoneTotal
import Derived.Test.YtckaejgamfllfaaChecked
import Derived.RangeFuncNested
import Derived.RangeFuncBox
import Derived.Sort.LotA
import Derived.Sort.Lot0
import Derived.Shelf.SlSortCmp.Kit1
import Derived.Shelf.SlSortCmp.Insertion1
import Derived.Sort.WalkA
import Derived.Sort.WalkB2
import Derived.Sort.WalkB12
import Derived.Handy
import Derived.Shelf.Abstract
import Derived.Sort.Grow
import Derived.Shelf.GgSortFunc.SW
import Derived.Laws.AppendOwn
section
namespace Go.Proofs.YtckaejgamfllfaaW.PrintWords
open Go.RowKit
class Rch (W W' : World) : Prop where
  out : Below W.heap.size W W'
instance Rch.i0 (W : World) : Rch W W := ⟨Below.refl _ _⟩
instance Rch.i1 (W W' : World) [h : Rch W W'] (o : Obj) : Rch W (W'.alloc o) := ⟨below_alloc h.out o⟩
instance Rch.i2 (W W' : World) [h : Rch W W'] : Rch W W'.drew := ⟨below_drew h.out⟩
instance Rch.i3 (W W' : World) [h : Rch W W'] (m : Nat) : Rch W (W'.drewN m) := ⟨pw_below_drewN h.out m⟩
section
variable {W W' W2 : World} {g k : Nat} {o : Obj} [r : Rch W W']
theorem bk (h : Aside0 (W.heap[g]? = some o)) : W'.heap[g]? = some o := blk_below h.out r.out
theorem bkB (h : Aside0 (W.heap[g]? = some o)) (hb : Below W'.heap.size W' W2) : W2.heap[g]? = some o := blk_below (bk (W' := W') h) hb
theorem neL (h : Aside0 (W.heap[g]? = some o)) (hg : k = W'.heap.size) : g ≠ k := by rw [hg]; exact Nat.ne_of_lt (blk_lt (bk (W' := W') h))
theorem neG (h : Aside0 (W.heap[g]? = some o)) (hg : k = W'.heap.size) : k ≠ g := by rw [hg]; exact Nat.ne_of_gt (blk_lt (bk (W' := W') h))
theorem bkC (h : Aside0 (W.heap[g]? = some o)) (hb : Below W'.heap.size W' W2) : Aside0 (W2.heap[g]? = some o) := ⟨bkB (W' := W') h hb⟩
theorem neLA (h : Aside0 (W.heap[g]? = some o)) (hg : k = W'.heap.size) : Aside0 (g ≠ k) := ⟨neL h hg⟩
theorem neGA (h : Aside0 (W.heap[g]? = some o)) (hg : k = W'.heap.size) : Aside0 (k ≠ g) := ⟨neG h hg⟩
theorem hk {w : World} (h : Aside0 (Below w.heap.size w W)) : Below w.heap.size w W' := below_step h.out r.out
theorem geB {w : World} (h : Aside0 (Below w.heap.size w W)) (hg : k = W'.heap.size) : w.heap.size ≤ k := by rw [hg]; exact below_size (hk (W' := W') h)
theorem geBA {w : World} (h : Aside0 (Below w.heap.size w W)) (hg : k = W'.heap.size) : Aside0 (w.heap.size ≤ k) := ⟨geB h hg⟩
theorem rk {α : Type} {d : Kd α} {e base : Nat} {ok : Nat → Prop} {v : Value} {xs : List α} (h : Aside0 (d.R e W base ok v xs)) : d.R e W' base ok v xs := Kd.R_below h.out r.out
end
end Go.Proofs.YtckaejgamfllfaaW.PrintWords
end

section
namespace Go.Proofs.Ytckaejgamfllfaa.G
open Go.RowKit Go.Proofs.YtckaejgamfllfaaW.PrintWords Go.Proofs.YtckaejgamfllfaaW.PrintLast Go.Proofs.YtckaejgamfllfaaW.PrintMore
attribute [local go_sem] max2_int min2_int max_two min_two max_three min_three max_four min_four
set_option linter.unusedVariables false
set_option linter.unusedSimpArgs false
def errW : Option Int → Value
 | none => .nilIface
 | some c => .iface 0 (.int .i64 c)
theorem errW_none : errW none = .nilIface := rfl
theorem errW_some (c : Int) : errW (some c) = .iface 0 (.int .i64 c) := rfl
theorem info3 : (Try.prog.info? 3).map (fun i => (i.zero, i.size, i.bytes)) = some (some (.int .i64 0), 1, 8) := by kernel_rfl
theorem info23 : (Try.prog.info? 23).map (fun i => (i.zero, i.size, i.bytes)) = some (some (.agg #[(.int .i64 0), (.int .i64 0)]), 2, 16) := by kernel_rfl
structure S23 where
 f0 : Int
 f1 : Int
def z23 : S23 := ⟨(0 : Int), (0 : Int)⟩
def k23 : Kd S23 := Kd.iso (Kd.pair (Kd.int .i64) (Kd.int .i64)) (fun x : S23 => (x.f0, x.f1))
theorem k23_open {w : World} {x : S23} {cs : List Value} (h : k23.K w x cs) : cs = [.int .i64 x.f0, .int .i64 x.f1] := by
 obtain ⟨_, _, rfl, rfl, rfl⟩ := h
 exact rfl
theorem k23_openM {w : World} {base : Nat} {ok : Nat → Prop} {x : S23} {cs : List Value} (h : k23.M w base ok x cs) : cs = [.int .i64 x.f0, .int .i64 x.f1] := by
 obtain ⟨_, _, rfl, rfl, rfl⟩ := h
 exact rfl
theorem k23_mkM (w : World) (base : Nat) (ok : Nat → Prop) (x : S23)  : k23.M w base ok x [.int .i64 x.f0, .int .i64 x.f1] := ⟨[.int .i64 x.f0], [.int .i64 x.f1], rfl, rfl, rfl⟩
def rd_T23 (xs : List S23) (i : Int) : S23 := xs.getD i.toNat z23
theorem at_T23 {w : World} {A : Option Addr} {n : Nat} {xs : List S23} (h : Kd.C k23 w A n xs) (i : Int) (h0 : 0 ≤ i) (h1 : i < n) : ∃ ad , A = some ad ∧ w.cell? (ad.add (i.toNat * 2)) = some (.int .i64 (rd_T23 xs i).f0) ∧ w.cell? ⟨(ad.add (i.toNat * 2)).block, (ad.add (i.toNat * 2)).off + 1, none⟩ = some (.int .i64 (rd_T23 xs i).f1) := by
 obtain ⟨ad, c, e, _, hK, hc0⟩ := Kd.C_get h z23 i h0 h1
 have hc : ∀ j u, c[j]? = some u → w.cell? (ad.add (i.toNat * 2 + j)) = some u := hc0
 obtain rfl := k23_open hK
 exact ⟨ad, e, hc 0 _ rfl, by rw [← add_field _ _ 1 (by omega)]; exact hc 1 _ rfl⟩
structure S50 where
 f0 : Int
 f1 : Int
def z50 : S50 := ⟨(0 : Int), (0 : Int)⟩
structure S52 where
 f0 : S50
 f1 : S50
structure S66 where
 f0 : (List Int)
 f1 : Int
def z66 : S66 := ⟨([] : List Int), (0 : Int)⟩
end Go.Proofs.Ytckaejgamfllfaa.G
end

section
namespace Go.Proofs.Ytckaejgamfllfaa.G
open Go.RowKit Go.Proofs.YtckaejgamfllfaaW.PrintWords Go.Proofs.YtckaejgamfllfaaW.PrintLast Go.Proofs.YtckaejgamfllfaaW.PrintMore
set_option linter.unusedVariables false
set_option linter.unusedSimpArgs false
set_option maxHeartbeats 4000000 in
set_option maxRecDepth 100000 in
theorem clone_calls (A : Option Addr) (c : Nat) (l : List S23) (w : World) (hC : Kd.C k23 w A l.length l) (hl : l.length ≤ 1000) (hp : 0 < l.length) :
    Calls Try.prog 104 #[.slice A l.length c] w fun e w' => ∃ v, e = .returned v ∧ Kd.R k23 23 w' w.heap.size (fun _ => True) v l ∧ Below w.heap.size w w' := by
  have hu39 := Try.underlying39
  obtain ⟨ad, rfl, _⟩ := at_T23 hC 0 (by omega) (by omega)
  have HC := Aside0.mk hC
  have HL := Aside0.mk hl
  clear hC hl
  have heq : ∀ W, (binOp .eql 39 (.slice (some ad) l.length c) (.slice none 0 0)).run Try.prog W = .ok (.bool false) W := fun W => Lib.run_eql_slice_nil W 39 23 _ _ _ _ _ Try.underlying39
  go_enter Try.func104, Try.ntmps104
  go_wp2_with (first
    | ((with_reducible refine gate_dst (N := 5) rfl ?_); refine Kd.R_lit k23 w.heap.size 23 ?hg (N := 5) ?hd (w0 := w) (xs := ([] : List S23)) (inner := []) (ok := fun _ => True) (okp := fun _ => True) ?hr ?hp (fun _ hk => hk) trivial ?hB ?hS (by simp) ?_; (case hd => rfl); (case hg => rfl); (case hr => first | (go_simp; done) | (go_simp; rfl)); (case hp => exact Reps.none _ _); (case hB => exact (by repeat (with_reducible first | exact Below.refl _ _ | apply below_alloc | apply pw_below_drewN | apply below_drew1))); (case hS => exact Nat.le_refl _); intro v5 w5 ho5 hb5 hg_ hnew_; have HO := Aside0.mk ho5; have HB := Aside0.mk hb5; clear ho5 hb5 hg_ hnew_)
    | ((with_reducible refine gate_builtin (b := .append) (xs := #[.tmp 5, .tmp 6]) rfl ?_); at_builtin; refine Kd.R_append_rows k23 (Rr := k23.K w) (w0 := w) w.heap.size rfl (.tmp 5) (.tmp 6) 39 23 (.agg #[.int .i64 0, .int .i64 0]) 16 rfl Try.underlying39 info23 rfl (by decide) (by omega) v5 ([] : List S23) l _ _ _ (fun _ => True) (fun _ => False) rfl rfl ?aO ?aR ?aK (fun _ h => h.elim) (fun _ _ => trivial) ?aB ?aS ?aL ?_; (case aO => exact HO.out); (case aR => exact ReadsRow.imp_ HC.out HB.out (fun _ _ h => h)); (case aK => intro x cs h; rw [k23_open h]; exact k23_mkM _ _ _ _); (case aB => exact HB.out); (case aS => exact HB.out.size); (case aL => have := HL.out; simp; omega); intro v7 w7 ho hb hg_ hat_; have HO2 := Aside0.mk ho; have HB2 := Aside0.mk hb; clear ho hb hg_ hat_))
  go_ret
  exact ⟨_, rfl, by simpa using HO2.out, HB2.out⟩
end Go.Proofs.Ytckaejgamfllfaa.G
end

section
namespace Go.Proofs.Ytckaejgamfllfaa.G
open Go.Shelf
def sortPt_ren : Go.Shelf.Ren := ⟨fun | 6 => 105 | 15 => 133 | 14 => 132 | 28 => 147 | 29 => 148 | 20 => 139 | 21 => 140 | 22 => 141 | 23 => 142 | 24 => 143 | 25 => 144 | 26 => 145 | 27 => 146 | 46 => 151 | 47 => 152 | 48 => 153 | 49 => 154 | 50 => 155 | 57 => 157 | n => n, fun | 22 => 39 | 24 => 23 | 25 => 27 | 3 => 3 | 39 => 116 | 0 => 0 | 53 => 30 | 55 => 142 | 4 => 4 | 46 => 134 | 45 => 133 | 50 => 138 | 5 => 5 | 9 => 9 | 66 => 145 | 70 => 149 | 76 => 151 | 77 => 152 | n => n, fun | n => n⟩
theorem sortPt : Go.Proofs.SlLaysF0.n6 Try.prog sortPt_ren := {
  mixed := by kernel_rfl
  f6 := ⟨Try.f105.name, by decide, Try.func105.trans (congrArg some (by kernel_rfl))⟩
  f14 := ⟨Try.f132.name, by decide, Try.func132.trans (congrArg some (by kernel_rfl))⟩
  f15 := Try.func133.trans (congrArg some (by kernel_rfl))
  f20 := ⟨Try.f139.name, by decide, Try.func139.trans (congrArg some (by kernel_rfl))⟩
  f21 := ⟨Try.f140.name, by decide, Try.func140.trans (congrArg some (by kernel_rfl))⟩
  f22 := ⟨Try.f141.name, by decide, Try.func141.trans (congrArg some (by kernel_rfl))⟩
  f23 := ⟨Try.f142.name, by decide, Try.func142.trans (congrArg some (by kernel_rfl))⟩
  f24 := ⟨Try.f143.name, by decide, Try.func143.trans (congrArg some (by kernel_rfl))⟩
  f25 := ⟨Try.f144.name, by decide, Try.func144.trans (congrArg some (by kernel_rfl))⟩
  f26 := ⟨Try.f145.name, by decide, Try.func145.trans (congrArg some (by kernel_rfl))⟩
  f27 := ⟨Try.f146.name, by decide, Try.func146.trans (congrArg some (by kernel_rfl))⟩
  f28 := Try.func147.trans (congrArg some (by kernel_rfl))
  f29 := Try.func148.trans (congrArg some (by kernel_rfl))
  f46 := ⟨Try.f151.name, by decide, Try.func151.trans (congrArg some (by kernel_rfl))⟩
  f47 := Try.func152.trans (congrArg some (by kernel_rfl))
  f48 := Try.func153.trans (congrArg some (by kernel_rfl))
  f49 := ⟨Try.f154.name, by decide, Try.func154.trans (congrArg some (by kernel_rfl))⟩
  f50 := ⟨Try.f155.name, by decide, Try.func155.trans (congrArg some (by kernel_rfl))⟩
  f57 := ⟨Try.f157.name, by decide, Try.func157.trans (congrArg some (by kernel_rfl))⟩
  t0 := Try.underlying0
  a0 := Try.isAgg0
  z0 := Try.sizeOf0
  v0 := Try.zeroValue0
  t3 := Try.underlying3
  a3 := Try.isAgg3
  z3 := Try.sizeOf3
  v3 := Try.zeroValue3
  t4 := Try.underlying4
  a4 := Try.isAgg4
  z4 := Try.sizeOf4
  v4 := Try.zeroValue4
  t5 := Try.underlying5
  a5 := Try.isAgg5
  z5 := Try.sizeOf5
  v5 := Try.zeroValue5
  t9 := Try.underlying9
  a9 := Try.isAgg9
  z9 := Try.sizeOf9
  v9 := Try.zeroValue9
  t22 := Try.underlying39
  a22 := Try.isAgg39
  z22 := Try.sizeOf39
  v22 := Try.zeroValue39
  t25 := Try.underlying27
  a25 := Try.isAgg27
  z25 := Try.sizeOf27
  v25 := Try.zeroValue27
  t39 := Try.underlying116
  a39 := Try.isAgg116
  z39 := Try.sizeOf116
  v39 := Try.zeroValue116
  t45 := Try.underlying133
  a45 := Try.isAgg133
  z45 := Try.sizeOf133
  v45 := Try.zeroValue133
  t46 := Try.underlying134
  a46 := Try.isAgg134
  z46 := Try.sizeOf134
  v46 := Try.zeroValue134
  t50 := Try.underlying138
  a50 := Try.isAgg138
  z50 := Try.sizeOf138
  v50 := Try.zeroValue138
  t53 := Try.underlying30
  a53 := Try.isAgg30
  z53 := Try.sizeOf30
  v53 := Try.zeroValue30
  t55 := Try.underlying142
  a55 := Try.isAgg142
  z55 := Try.sizeOf142
  v55 := Try.zeroValue142
  t66 := Try.underlying145
  a66 := Try.isAgg145
  z66 := Try.sizeOf145
  v66 := Try.zeroValue145
  t70 := Try.underlying149
  a70 := Try.isAgg149
  z70 := Try.sizeOf149
  v70 := Try.zeroValue149
  t76 := Try.underlying151
  a76 := Try.isAgg151
  z76 := Try.sizeOf151
  v76 := Try.zeroValue151
  t77 := Try.underlying152
  a77 := Try.isAgg152
  z77 := Try.sizeOf152
  v77 := Try.zeroValue152 }
end Go.Proofs.Ytckaejgamfllfaa.G
end

section
namespace Go.Proofs.Ytckaejgamfllfaa.G
open Go.RowKit Go.Proofs.YtckaejgamfllfaaW.PrintWords Go.Proofs.YtckaejgamfllfaaW.PrintLast Go.Proofs.YtckaejgamfllfaaW.PrintMore
def Blk (W : World) (B : Nat) (cs : Array Value) (t : TypeId) : Prop := W.heap[B]? = some (.cells cs t (0, 0))
theorem Blk.lt {W : World} {B : Nat} {t : TypeId} {cs : Array Value} (h : Blk W B cs t) : B < W.heap.size := (Array.getElem?_eq_some_iff.1 h).1
theorem Blk.new (W : World) (t : TypeId) (cs : Array Value) : Blk (W.alloc (.cells cs t)) W.heap.size cs t := World.alloc_heap_new W _
theorem Blk.cell {W : World} {B : Nat} {t : TypeId} {cs : Array Value} (h : Blk W B cs t) (j : Nat) : W.cell? ⟨B, j, none⟩ = cs[j]? := by simp [World.cell?, show W.heap[B]? = _ from h]
theorem Blk.frozen {W : World} {B : Nat} {t : TypeId} {cs : Array Value} (h : Blk W B cs t) (j : Nat) : W.frozen? ⟨B, j, none⟩ = false := by simp [World.frozen?, show W.heap[B]? = _ from h]
theorem Blk.kept {W W' : World} {row : Option Nat} {B : Nat} {t : TypeId} {cs : Array Value} (h : Blk W B cs t) (hg : W.grownBy W' row) (hne : some B ≠ row) : Blk W' B cs t := (hg.block B h.lt hne).trans h
theorem Blk.alloc {W : World} {B : Nat} {t : TypeId} {cs : Array Value} (h : Blk W B cs t) (o : Obj) : Blk (W.alloc o) B cs t := h.kept (World.grownBy_alloc W o none) (by simp)
theorem Blk.below {W W' : World} {B : Nat} {t : TypeId} {cs : Array Value} (h : Blk W B cs t) (hb : Below W.heap.size W W') : Blk W' B cs t := (hb.block B h.lt).trans h
theorem Blk.other {W : World} {B B' : Nat} {t : TypeId} {cs : Array Value} (h : Blk W B cs t) (hne : B ≠ B') (u : Value) : Blk (W.setCell ⟨B', 0, none⟩ u) B cs t := h.kept (grownBy_setCell' W B' u) (fun e => hne (by cases e; rfl))
theorem Blk.drew {W : World} {B : Nat} {t : TypeId} {cs : Array Value} (h : Blk W B cs t) : Blk W.drew B cs t := h
theorem wrap_i64_eq (n : Int) : IntKind.i64.wrap n = wrap64 n := by rw [IntKind.wrap_i64]; unfold wrap64; rfl
end Go.Proofs.Ytckaejgamfllfaa.G
end

section
namespace Go.Proofs.Ytckaejgamfllfaa.G
open Go.RowKit Go.Proofs.YtckaejgamfllfaaW.PrintWords Go.Proofs.YtckaejgamfllfaaW.PrintLast Go.Proofs.YtckaejgamfllfaaW.PrintMore
set_option linter.unusedVariables false
theorem results_cct {P : Program} {fn : Func} {p p' u : Tmp} {ty ty' : TypeId} (h : fn.results = #[.cell p ty, .cell p' ty', .tmp u]) (tmps : Array Value) (w : World) (g g' : Nat) (t t' : TypeId) (cs cs' : Array Value) (fr fr' : Nat × Nat) (d d' : TypeDesc)
    (hp : tmps.getD p undef = .pointer (some ⟨g, 0, none⟩)) (hg : w.heap[g]? = some (.cells cs t fr))
    (hu : P.underlying ty = some d) (hd : (match d with | .struct _ | .array _ _ => true | _ => false) = true) (hi : (P.info? ty).map (·.size) = some cs.size)
    (hp' : tmps.getD p' undef = .pointer (some ⟨g', 0, none⟩)) (hg' : w.heap[g']? = some (.cells cs' t' fr'))
    (hu' : P.underlying ty' = some d') (hd' : (match d' with | .struct _ | .array _ _ => true | _ => false) = true) (hi' : (P.info? ty').map (·.size) = some cs'.size) :
    (results fn tmps).run P w = .ok (.tuple #[.agg cs, .agg cs', tmps.getD u undef]) w := by
  have h1 : tmps[p]?.getD undef = .pointer (some ⟨g, 0, none⟩) := by simpa using hp
  have h2 : tmps[p']?.getD undef = .pointer (some ⟨g', 0, none⟩) := by simpa using hp'
  simp [results, h, h1, h2, asAddr, run_loadVar_row w g t ty cs fr d hg hu hd hi, run_loadVar_row w g' t' ty' cs' fr' d' hg' hu' hd' hi']
theorem blk_other_ {W : World} {B : Nat} {cs : Array Value} {t : TypeId} {p : Addr} (h : W.heap[B]? = some (.cells cs t (0, 0))) (hne : p.block ≠ B) (u : Value) : (W.setCell p u).heap[B]? = some (.cells cs t (0, 0)) := (Below.heap_setCell W p u B hne.symm).trans h
end Go.Proofs.Ytckaejgamfllfaa.G
end

section
namespace Go.Proofs.Ytckaejgamfllfaa.Stab
open Go.Sort
set_option linter.unusedVariables false
set_option linter.unusedSimpArgs false
set_option linter.unusedSectionVars false
section
variable {α : Type} (lt : α → α → Bool)
def eqv (x y : α) : Bool := !lt x y && !lt y x
def cls (x : α) (l : List α) : List α := l.filter (eqv lt x)
def SE (l l' : List α) : Prop := ∀ x, cls lt x l = cls lt x l'
def Srt (l : List α) : Prop := l.Pairwise (fun x y => lt y x = false)
variable {lt}
theorem SE.refl (l : List α) : SE lt l l := fun _ => rfl
theorem SE.symm {l l' : List α} (h : SE lt l l') : SE lt l' l := fun x => (h x).symm
theorem SE.trans {l l' l'' : List α} (h : SE lt l l') (k : SE lt l' l'') : SE lt l l'' := fun x => (h x).trans (k x)
theorem SE.append {l l' k k' : List α} (h : SE lt l l') (g : SE lt k k') : SE lt (l ++ k) (l' ++ k') := fun x => by
  have h1 := h x; have h2 := g x
  unfold cls at h1 h2 ⊢; rw [List.filter_append, List.filter_append, h1, h2]
variable (O : SWO lt)
include O
theorem asym {x y : α} (h : lt x y = true) : lt y x = false := by
  cases k : lt y x
  · rfl
  · have := O.trans _ _ _ h k; rw [O.irrefl] at this; cases this
theorem split {x y : α} (z : α) (h : lt x y = true) : lt x z = true ∨ lt z y = true := by
  cases h1 : lt x z
  · cases h2 : lt z y
    · rw [O.ntrans _ _ _ h1 h2] at h; cases h
    · exact .inr rfl
  · exact .inl rfl
theorem eqv_self (x : α) : eqv lt x x = true := by unfold eqv; rw [O.irrefl]; rfl
theorem mem_SE {l l' : List α} (h : SE lt l l') (z : α) : z ∈ l ↔ z ∈ l' := by
  have hz := h z
  unfold cls at hz
  constructor
  · intro m
    have : z ∈ l.filter (eqv lt z) := List.mem_filter.2 ⟨m, eqv_self O z⟩
    rw [hz] at this
    exact (List.mem_filter.1 this).1
  · intro m
    have : z ∈ l'.filter (eqv lt z) := List.mem_filter.2 ⟨m, eqv_self O z⟩
    rw [← hz] at this
    exact (List.mem_filter.1 this).1
theorem SE.swap {A B : List α} (h : ∀ y ∈ B, ∀ z ∈ A, lt y z = true) : SE lt (A ++ B) (B ++ A) := by
  intro x
  unfold cls
  rw [List.filter_append, List.filter_append]
  by_cases hA : A.filter (eqv lt x) = []
  · rw [hA]; simp
  · have hB : B.filter (eqv lt x) = [] := by
      rw [List.filter_eq_nil_iff]
      intro y hy he
      obtain ⟨z, hz⟩ := List.exists_mem_of_ne_nil _ hA
      rw [List.mem_filter] at hz
      have hl := h y hy z hz.1
      have e1 := hz.2
      unfold eqv at e1 he
      simp only [Bool.and_eq_true, Bool.not_eq_true'] at e1 he
      rcases split O x hl with k | k
      · rw [he.2] at k; cases k
      · rw [e1.1] at k; cases k
    rw [hB]; simp
theorem uniq : ∀ {l l' : List α}, Srt lt l → Srt lt l' → SE lt l l' → l = l' := by
  intro l
  induction l with
  | nil =>
    intro l' _ _ h
    cases l' with
    | nil => rfl
    | cons y t => exact absurd ((mem_SE O h y).2 List.mem_cons_self) (by simp)
  | cons x t ih =>
    intro l' hl hl' h
    cases l' with
    | nil => exact absurd ((mem_SE O h x).1 List.mem_cons_self) (by simp)
    | cons y t' =>
      have hxy : eqv lt x y = true := by
        unfold eqv
        cases h1 : lt x y
        · cases h2 : lt y x
          · rfl
          · exfalso
            have hy : y ∈ x :: t := (mem_SE O h y).2 List.mem_cons_self
            rcases List.mem_cons.1 hy with e | e
            · subst e; rw [O.irrefl] at h2; cases h2
            · have := (List.pairwise_cons.1 hl).1 y e; rw [h2] at this; cases this
        · exfalso
          have hx : x ∈ y :: t' := (mem_SE O h x).1 List.mem_cons_self
          rcases List.mem_cons.1 hx with e | e
          · subst e; rw [O.irrefl] at h1; cases h1
          · have := (List.pairwise_cons.1 hl').1 x e; rw [h1] at this; cases this
      have e : x = y := by
        have := h x
        unfold cls at this
        rw [List.filter_cons_of_pos (eqv_self O x), List.filter_cons_of_pos hxy] at this
        exact (List.cons.inj this).1
      subst e
      have ht : SE lt t t' := by
        intro w
        have := h w
        unfold cls at this ⊢
        by_cases hw : eqv lt w x = true
        · rw [List.filter_cons_of_pos hw, List.filter_cons_of_pos hw] at this
          exact (List.cons.inj this).2
        · rw [List.filter_cons_of_neg hw, List.filter_cons_of_neg hw] at this
          exact this
      rw [ih (List.pairwise_cons.1 hl).2 (List.pairwise_cons.1 hl').2 ht]
theorem merge_two {L1 L2 R1 R2 T1 T2 : List α} (hL : Srt lt (L1 ++ L2)) (hR : Srt lt (R1 ++ R2)) (h1 : ∀ y ∈ R1, ∀ z ∈ L2, lt y z = true) (h2 : ∀ u ∈ L1, ∀ v ∈ R2, lt v u = false)
    (s1 : Srt lt T1) (e1 : SE lt (L1 ++ R1) T1) (s2 : Srt lt T2) (e2 : SE lt (L2 ++ R2) T2) : Srt lt (T1 ++ T2) ∧ SE lt ((L1 ++ L2) ++ (R1 ++ R2)) (T1 ++ T2) := by
  refine ⟨List.pairwise_append.2 ⟨s1, s2, fun u hu v hv => ?_⟩, ?_⟩
  · have hu' := (mem_SE O e1 u).2 hu
    have hv' := (mem_SE O e2 v).2 hv
    rw [List.mem_append] at hu' hv'
    rcases hu' with a | a <;> rcases hv' with b | b
    · exact (List.pairwise_append.1 hL).2.2 u a v b
    · exact h2 u a v b
    · exact asym O (h1 u a v b)
    · exact (List.pairwise_append.1 hR).2.2 u a v b
  · refine SE.trans ?_ (e1.append e2)
    have := ((SE.refl (lt := lt) L1).append (SE.swap O h1)).append (SE.refl R2)
    simpa [List.append_assoc] using this
end
section
variable {α : Type} [Inhabited α]
def seg (d : Array α) (a b : Nat) : List α := (List.range' a (b - a)).map fun i => d[i]!
theorem seg_length (d : Array α) (a b : Nat) : (seg d a b).length = b - a := by simp [seg]
theorem seg_append (d : Array α) {a m b : Nat} (h : a ≤ m) (k : m ≤ b) : seg d a m ++ seg d m b = seg d a b := by
  unfold seg
  rw [← List.map_append]
  congr 1
  have := List.range'_append_1 (s := a) (m := m - a) (n := b - m)
  rw [show a + (m - a) = m by omega, show (m - a) + (b - m) = b - a by omega] at this
  exact this
theorem seg_one (d : Array α) (a : Nat) : seg d a (a + 1) = [d[a]!] := by unfold seg; rw [show a + 1 - a = 1 by omega]; rfl
theorem seg_congr {d e : Array α} {a b a' b' : Nat} (h : b - a = b' - a') (k : ∀ i, i < b - a → d[a + i]! = e[a' + i]!) : seg d a b = seg e a' b' := by
  apply List.ext_getElem
  · simp [seg_length, h]
  · intro i h1 h2
    rw [seg_length] at h1
    simp only [seg, List.getElem_map, List.getElem_range', Nat.one_mul]
    exact k i h1
theorem mem_seg {d : Array α} {a b : Nat} {x : α} : x ∈ seg d a b ↔ ∃ i, a ≤ i ∧ i < b ∧ x = d[i]! := by
  unfold seg
  rw [List.mem_map]
  constructor
  · rintro ⟨i, hi, rfl⟩
    rw [List.mem_range'_1] at hi
    exact ⟨i, hi.1, by omega, rfl⟩
  · rintro ⟨i, h1, h2, rfl⟩
    exact ⟨i, List.mem_range'_1.2 ⟨h1, by omega⟩, rfl⟩
theorem seg_all (d : Array α) : seg d 0 d.size = d.toList := by
  apply List.ext_getElem
  · simp [seg_length]
  · intro i h1 h2
    rw [seg_length] at h1
    simp only [seg, List.getElem_map, List.getElem_range', Nat.one_mul, Nat.zero_add, Array.getElem_toList]
    exact getElem!_pos d i (by omega)
variable (lt : α → α → Bool)
def SI (d : Array α) (a b : Nat) : Prop := SortedIn lt a b d
variable {lt}
theorem srt_of {d : Array α} {a b : Nat} (h : SI lt d a b) : Srt lt (seg d a b) := by
  unfold Srt seg
  rw [List.pairwise_map]
  refine List.Pairwise.imp_of_mem ?_ (List.pairwise_lt_range' (s := a) (n := b - a))
  intro i j hi hj hij
  rw [List.mem_range'_1] at hi hj
  exact h i j hi.1 hij (by omega)
theorem seg_get {d : Array α} {a b i : Nat} (hi : i < b - a) : (seg d a b)[i]? = some d[a + i]! := by
  unfold seg
  rw [List.getElem?_map, List.getElem?_eq_getElem (by simpa using hi)]
  simp
theorem si_of {d : Array α} {a b : Nat} (h : Srt lt (seg d a b)) : SI lt d a b := by
  intro i j h1 h2 h3
  have hp := List.pairwise_iff_getElem.1 h (i - a) (j - a) (by rw [seg_length]; omega) (by rw [seg_length]; omega) (by omega)
  simp only [seg, List.getElem_map, List.getElem_range', Nat.one_mul] at hp
  rwa [show a + (i - a) = i by omega, show a + (j - a) = j by omega] at hp
theorem SI.sub {d : Array α} {a b a' b' : Nat} (h : SI lt d a b) (h1 : a ≤ a') (h2 : b' ≤ b) : SI lt d a' b' := fun i j k1 k2 k3 => h i j (by omega) k2 (by omega)
theorem SI.same {d e : Array α} {a b : Nat} (h : SI lt d a b) (k : ∀ i, a ≤ i → i < b → e[i]! = d[i]!) : SI lt e a b := fun i j h1 h2 h3 => by
  rw [k i h1 (by omega), k j (by omega) h3]; exact h i j h1 h2 h3
structure IsSwap (d : Array α) (a b n : Nat) (e : Array α) : Prop where
  size : e.size = d.size
  left : ∀ k, k < n → e[a + k]! = d[b + k]!
  right : ∀ k, k < n → e[b + k]! = d[a + k]!
  other : ∀ k, (k < a ∨ a + n ≤ k) → (k < b ∨ b + n ≤ k) → e[k]! = d[k]!
theorem IsSwap.zero (d : Array α) (a b : Nat) : IsSwap d a b 0 d := ⟨rfl, fun k h => by omega, fun k h => by omega, fun _ _ _ => rfl⟩
theorem IsSwap.step {d e : Array α} {a b n : Nat} (h : IsSwap d a b n e) (hab : a + n < b) (hb : b + n < d.size) : IsSwap d a b (n + 1) (swp e (a + n) (b + n)) := by
  have hs := h.size
  have g := fun k => swp_get e (i := a + n) (j := b + n) (by omega) (by omega) k
  refine ⟨by rw [swp_size, hs], fun k hk => ?_, fun k hk => ?_, fun k h1 h2 => ?_⟩
  · rcases Nat.lt_or_ge k n with c | c
    · rw [swp_other _ _ _ _ (by omega) (by omega)]; exact h.left k c
    · have : k = n := by omega
      subst this
      rw [swp_left _ _ _ (by omega) (by omega)]
      exact h.other _ (by omega) (by omega)
  · rcases Nat.lt_or_ge k n with c | c
    · rw [swp_other _ _ _ _ (by omega) (by omega)]; exact h.right k c
    · have : k = n := by omega
      subst this
      rw [swp_right _ _ _ (by omega)]
      exact h.other _ (by omega) (by omega)
  · rw [swp_other _ _ _ _ (by omega) (by omega)]
    exact h.other _ (by omega) (by omega)
structure IsRot (d : Array α) (a m b : Nat) (e : Array α) : Prop where
  size : e.size = d.size
  front : ∀ k, k < b - m → e[a + k]! = d[m + k]!
  back : ∀ k, k < m - a → e[a + (b - m) + k]! = d[a + k]!
  other : ∀ k, (k < a ∨ b ≤ k) → e[k]! = d[k]!
theorem IsRot.of_swap {d e : Array α} {m i : Nat} (hi : i ≤ m) (h : IsSwap d (m - i) m i e) : IsRot d (m - i) m (m + i) e :=
  ⟨h.size, fun k hk => h.left k (by omega), fun k hk => by rw [show m - i + (m + i - m) + k = m + k by omega]; exact h.right k (by omega), fun k hk => h.other k (by omega) (by omega)⟩
theorem IsRot.big {d e f : Array α} {m i j : Nat} (hi : i ≤ m) (hij : j < i) (h : IsSwap d (m - i) m j e) (r : IsRot e (m - (i - j)) m (m + j) f) : IsRot d (m - i) m (m + j) f := by
  refine ⟨by rw [r.size, h.size], fun k hk => ?_, fun k hk => ?_, fun k hk => ?_⟩
  · rw [r.other _ (by omega)]; exact h.left k (by omega)
  · rcases Nat.lt_or_ge k (i - j) with c | c
    · have := r.back k (by omega)
      rw [show m - i + (m + j - m) + k = m - (i - j) + k by omega]
      rcases Nat.lt_or_ge k j with c2 | c2
      · have f1 := r.front k (by omega)
        rw [f1, h.right k (by omega)]
      · have b1 := r.back (k - j) (by omega)
        rw [show m - (i - j) + (m + j - m) + (k - j) = m - (i - j) + k by omega] at b1
        rw [b1, h.other _ (by omega) (by omega)]
        congr 1; omega
    · rw [show m - i + (m + j - m) + k = m - (i - j) + k by omega]
      rcases Nat.lt_or_ge k j with c2 | c2
      · have f1 := r.front k (by omega)
        rw [f1, h.right k (by omega)]
      · have b1 := r.back (k - j) (by omega)
        rw [show m - (i - j) + (m + j - m) + (k - j) = m - (i - j) + k by omega] at b1
        rw [b1, h.other _ (by omega) (by omega)]
        congr 1; omega
  · rw [r.other _ (by omega)]; exact h.other _ (by omega) (by omega)
theorem IsRot.small {d e f : Array α} {m i j : Nat} (hi : i ≤ m) (hij : i < j) (h : IsSwap d (m - i) (m + j - i) i e) (r : IsRot e (m - i) m (m + (j - i)) f) : IsRot d (m - i) m (m + j) f := by
  refine ⟨by rw [r.size, h.size], fun k hk => ?_, fun k hk => ?_, fun k hk => ?_⟩
  · rcases Nat.lt_or_ge k (j - i) with c | c
    · rw [r.front k (by omega)]
      exact h.other _ (by omega) (by omega)
    · have b1 := r.back (k - (j - i)) (by omega)
      rw [show m - i + (m + (j - i) - m) + (k - (j - i)) = m - i + k by omega] at b1
      rw [b1, h.left _ (by omega)]
      congr 1; omega
  · rw [show m - i + (m + j - m) + k = m + (j - i) + i - i + k by omega, r.other _ (by omega)]
    have := h.right k (by omega)
    rw [show m + (j - i) + i - i + k = m + j - i + k by omega]
    exact this
  · rw [r.other _ (by omega)]; exact h.other _ (by omega) (by omega)
variable (lt)
structure Mg (d : Array α) (a b : Nat) (e : Array α) : Prop where
  size : e.size = d.size
  other : ∀ k, (k < a ∨ b ≤ k) → e[k]! = d[k]!
  sorted : SI lt e a b
  same : SE lt (seg d a b) (seg e a b)
variable {lt}
theorem SE_whole {d e : Array α} {a b n : Nat} (h : Mg lt d a b e) (hab : a ≤ b) (hb : b ≤ n) : SE lt (seg d 0 n) (seg e 0 n) := by
  rw [← seg_append d (Nat.zero_le a) (show a ≤ n by omega), ← seg_append e (Nat.zero_le a) (show a ≤ n by omega), ← seg_append d hab hb, ← seg_append e hab hb]
  have e1 : seg d 0 a = seg e 0 a := seg_congr rfl (fun i hi => (h.other _ (by omega)).symm)
  have e2 : seg d b n = seg e b n := seg_congr rfl (fun i hi => (h.other _ (by omega)).symm)
  rw [e1, e2]
  exact (SE.refl _).append (h.same.append (SE.refl _))
variable (O : SWO lt)
include O
theorem SE_swp {d : Array α} {j n : Nat} (hj : j + 1 < n) (hn : n ≤ d.size) (h : lt d[j + 1]! d[j]! = true) : SE lt (seg d 0 n) (seg (swp d (j + 1) j) 0 n) := by
  have g1 : (swp d (j + 1) j)[j]! = d[j + 1]! := swp_right _ _ _ (by omega)
  have g2 : (swp d (j + 1) j)[j + 1]! = d[j]! := swp_left _ _ _ (by omega) (by omega)
  have go : ∀ k, k ≠ j → k ≠ j + 1 → (swp d (j + 1) j)[k]! = d[k]! := fun k h1 h2 => swp_other _ _ _ _ h2 h1
  have cut : ∀ f : Array α, seg f 0 n = seg f 0 j ++ ([f[j]!] ++ [f[j + 1]!]) ++ seg f (j + 2) n := by
    intro f
    rw [← seg_append f (Nat.zero_le j) (show j ≤ n by omega), ← seg_append f (show j ≤ j + 2 by omega) (show j + 2 ≤ n by omega), ← seg_append f (show j ≤ j + 1 by omega) (show j + 1 ≤ j + 2 by omega), seg_one, show j + 2 = j + 1 + 1 by rfl, seg_one]
    simp [List.append_assoc]
  rw [cut, cut (swp d (j + 1) j), g1, g2]
  have e1 : seg (swp d (j + 1) j) 0 j = seg d 0 j := seg_congr rfl (fun i hi => go _ (by omega) (by omega))
  have e2 : seg (swp d (j + 1) j) (j + 2) n = seg d (j + 2) n := seg_congr rfl (fun i hi => go _ (by omega) (by omega))
  rw [e1, e2]
  exact ((SE.refl _).append (SE.swap O (fun y hy z hz => by
    rw [List.mem_singleton] at hy hz; subst hy; subst hz; exact h))).append (SE.refl _)
theorem SE_insInner {a n : Nat} : ∀ (j : Nat) (d : Array α), j < n → n ≤ d.size → SE lt (seg d 0 n) (seg (insInner lt a j d) 0 n) := by
  intro j
  induction j with
  | zero => intro d _ _; exact SE.refl _
  | succ j ih =>
    intro d hj hn
    simp only [insInner]
    split
    · rename_i h
      simp only [Bool.and_eq_true, decide_eq_true_eq] at h
      exact (SE_swp O hj hn h.2).trans (ih _ (by omega) (by rw [swp_size]; exact hn))
    · exact SE.refl _
theorem size_insInner (a : Nat) : ∀ (j : Nat) (d : Array α), (insInner lt a j d).size = d.size := by
  intro j
  induction j with
  | zero => intro d; rfl
  | succ j ih => intro d; simp only [insInner]; split <;> simp [ih, swp_size]
theorem SE_insOuter {a b n : Nat} (hb : b ≤ n) : ∀ (m i : Nat) (d : Array α), b - i = m → n ≤ d.size → SE lt (seg d 0 n) (seg (insOuter lt a b i d) 0 n) := by
  intro m
  induction m with
  | zero =>
    intro i d hm hn
    rw [insOuter, if_neg (by omega)]; exact SE.refl _
  | succ m ih =>
    intro i d hm hn
    rw [insOuter, if_pos (by omega)]
    exact (SE_insInner O i d (by omega) hn).trans (ih (i + 1) _ (by omega) (by rw [size_insInner O]; exact hn))
end
section
variable {α : Type} [Inhabited α] {lt : α → α → Bool} (O : SWO lt)
include O
theorem Mg.halves {d e f g : Array α} {a m b s t mid : Nat} (hL : SI lt d a m) (hR : SI lt d m b) (h1 : a ≤ s) (h2 : s ≤ m) (h3 : m ≤ t) (h4 : t ≤ b) (hmid : mid + m = s + t)
    (c1 : s < m → m < t → lt d[t - 1]! d[s]! = true) (c2 : a < s → t < b → lt d[t]! d[s - 1]! = false) (r : IsRot d s m t e) (g1 : Mg lt e a mid f) (g2 : Mg lt f mid b g) : Mg lt d a b g := by
  have hm1 : a ≤ mid := by omega
  have hm2 : mid ≤ b := by omega
  have hm3 : s + (t - m) = mid := by omega
  have s1 : seg e a mid = seg d a s ++ seg d m t := by
    rw [← seg_append e h1 (show s ≤ mid by omega)]
    congr 1
    · exact seg_congr rfl (fun i hi => r.other _ (by omega))
    · exact seg_congr (by omega) (fun i hi => r.front i (by omega))
  have s2 : seg e mid b = seg d s m ++ seg d t b := by
    rw [← seg_append e (show mid ≤ t by omega) h4]
    congr 1
    · exact seg_congr (by omega) (fun i hi => by rw [← hm3]; exact r.back i (by omega))
    · exact seg_congr rfl (fun i hi => r.other _ (by omega))
  have s3 : seg f mid b = seg e mid b := seg_congr rfl (fun i hi => g1.other _ (by omega))
  have s4 : seg g a mid = seg f a mid := seg_congr rfl (fun i hi => g2.other _ (by omega))
  have L : Srt lt (seg d a s ++ seg d s m) := by rw [seg_append d h1 h2]; exact srt_of hL
  have R : Srt lt (seg d m t ++ seg d t b) := by rw [seg_append d h3 h4]; exact srt_of hR
  have le : ∀ {i j : Nat} {a b : Nat}, SI lt d a b → a ≤ i → i ≤ j → j < b → lt d[j]! d[i]! = false := by
    intro i j a b h k1 k2 k3
    rcases Nat.lt_or_eq_of_le k2 with k | k
    · exact h i j k1 k k3
    · subst k; exact O.irrefl _
  have k1 : ∀ y ∈ seg d m t, ∀ z ∈ seg d s m, lt y z = true := by
    intro y hy z hz
    obtain ⟨i, i1, i2, rfl⟩ := mem_seg.1 hy
    obtain ⟨j, j1, j2, rfl⟩ := mem_seg.1 hz
    have h0 := c1 (by omega) (by omega)
    have hi := le hR (show m ≤ i by omega) (show i ≤ t - 1 by omega) (by omega)
    have hj := le hL (show a ≤ s by omega) (show s ≤ j by omega) (by omega)
    rcases split O d[i]! h0 with q | q
    · rw [hi] at q; cases q
    · rcases split O d[j]! q with q2 | q2
      · exact q2
      · rw [hj] at q2; cases q2
  have k2 : ∀ u ∈ seg d a s, ∀ v ∈ seg d t b, lt v u = false := by
    intro u hu v hv
    obtain ⟨i, i1, i2, rfl⟩ := mem_seg.1 hu
    obtain ⟨j, j1, j2, rfl⟩ := mem_seg.1 hv
    have h0 := c2 (by omega) (by omega)
    have hi := le hL (show a ≤ i by omega) (show i ≤ s - 1 by omega) (by omega)
    have hj := le hR (show m ≤ t by omega) (show t ≤ j by omega) (by omega)
    exact O.ntrans _ _ _ hj (O.ntrans _ _ _ h0 hi)
  have M := merge_two O L R k1 k2 (srt_of g1.sorted) (by rw [← s1]; exact g1.same) (srt_of g2.sorted) (by rw [← s2, ← s3]; exact g2.same)
  rw [seg_append d h1 h2, seg_append d h3 h4, seg_append d (show a ≤ m by omega) (show m ≤ b by omega), ← s4, seg_append g hm1 hm2] at M
  exact ⟨by rw [g2.size, g1.size, r.size], fun k hk => by rw [g2.other _ (by omega), g1.other _ (by omega), r.other _ (by omega)], si_of M.1, M.2⟩
theorem Mg.refl {d : Array α} {a b : Nat} (h : SI lt d a b) : Mg lt d a b d := ⟨rfl, fun _ _ => rfl, h, SE.refl _⟩
theorem Mg.first {d e : Array α} {a b i : Nat} (hR : SI lt d (a + 1) b) (h1 : a + 1 ≤ i) (h2 : i ≤ b) (c1 : ∀ k, a + 1 ≤ k → k < i → lt d[k]! d[a]! = true) (c2 : ∀ k, i ≤ k → k < b → lt d[k]! d[a]! = false)
    (r : IsRot d a (a + 1) i e) : Mg lt d a b e := by
  have s1 : seg e a (i - 1) = seg d (a + 1) i := seg_congr (by omega) (fun k hk => r.front k (by omega))
  have s2 : e[i - 1]! = d[a]! := by have := r.back 0 (by omega); simp only [Nat.add_zero] at this; rw [← this]; congr 1; omega
  have s3 : seg e i b = seg d i b := seg_congr rfl (fun k hk => r.other _ (by omega))
  have cutE : seg e a b = seg d (a + 1) i ++ [d[a]!] ++ seg d i b := by
    rw [← seg_append e (show a ≤ i - 1 by omega) (show i - 1 ≤ b by omega), ← seg_append e (show i - 1 ≤ i by omega) h2, s1, s3]
    have := seg_one e (i - 1)
    rw [show i - 1 + 1 = i by omega] at this
    rw [this, s2]; simp [List.append_assoc]
  have cutD : seg d a b = [d[a]!] ++ seg d (a + 1) i ++ seg d i b := by
    rw [← seg_append d (show a ≤ a + 1 by omega) (show a + 1 ≤ b by omega), ← seg_append d h1 h2, seg_one]; simp [List.append_assoc]
  refine ⟨r.size, fun k hk => r.other _ (by omega), si_of ?_, ?_⟩
  · rw [cutE]
    refine List.pairwise_append.2 ⟨List.pairwise_append.2 ⟨srt_of (hR.sub (Nat.le_refl _) h2), List.pairwise_singleton _ _, ?_⟩, srt_of (hR.sub h1 (Nat.le_refl _)), ?_⟩
    · intro x hx y hy
      rw [List.mem_singleton] at hy; subst hy
      obtain ⟨k, k1, k2, rfl⟩ := mem_seg.1 hx
      exact asym O (c1 k k1 k2)
    · intro x hx y hy
      obtain ⟨k, k1, k2, rfl⟩ := mem_seg.1 hy
      rcases List.mem_append.1 hx with q | q
      · obtain ⟨k', q1, q2, rfl⟩ := mem_seg.1 q
        exact hR k' k q1 (by omega) k2
      · rw [List.mem_singleton] at q; subst q; exact c2 k k1 k2
  · rw [cutE, cutD]
    refine (SE.swap O ?_).append (SE.refl _)
    intro y hy z hz
    rw [List.mem_singleton] at hz; subst hz
    obtain ⟨k, k1, k2, rfl⟩ := mem_seg.1 hy
    exact c1 k k1 k2
theorem Mg.last {d e : Array α} {a m i : Nat} (hL : SI lt d a m) (h1 : a ≤ i) (h2 : i ≤ m) (c1 : ∀ k, i ≤ k → k < m → lt d[m]! d[k]! = true) (c2 : ∀ k, a ≤ k → k < i → lt d[m]! d[k]! = false)
    (r : IsRot d i m (m + 1) e) : Mg lt d a (m + 1) e := by
  have s1 : seg e a i = seg d a i := seg_congr rfl (fun k hk => r.other _ (by omega))
  have s2 : e[i]! = d[m]! := by have := r.front 0 (by omega); simpa using this
  have s3 : seg e (i + 1) (m + 1) = seg d i m := seg_congr (by omega) (fun k hk => by
    have := r.back k (by omega)
    rwa [show i + (m + 1 - m) + k = i + 1 + k by omega] at this)
  have cutE : seg e a (m + 1) = seg d a i ++ ([d[m]!] ++ seg d i m) := by
    rw [← seg_append e h1 (show i ≤ m + 1 by omega), ← seg_append e (show i ≤ i + 1 by omega) (show i + 1 ≤ m + 1 by omega), s1, s3, seg_one, s2]
  have cutD : seg d a (m + 1) = seg d a i ++ (seg d i m ++ [d[m]!]) := by
    rw [← seg_append d h1 (show i ≤ m + 1 by omega), ← seg_append d h2 (show m ≤ m + 1 by omega), seg_one]
  refine ⟨r.size, fun k hk => r.other _ (by omega), si_of ?_, ?_⟩
  · rw [cutE]
    refine List.pairwise_append.2 ⟨srt_of (hL.sub (Nat.le_refl _) h2), List.pairwise_append.2 ⟨List.pairwise_singleton _ _, srt_of (hL.sub h1 (Nat.le_refl _)), ?_⟩, ?_⟩
    · intro x hx y hy
      rw [List.mem_singleton] at hx; subst hx
      obtain ⟨k, k1, k2, rfl⟩ := mem_seg.1 hy
      exact asym O (c1 k k1 k2)
    · intro x hx y hy
      obtain ⟨k, k1, k2, rfl⟩ := mem_seg.1 hx
      rcases List.mem_append.1 hy with q | q
      · rw [List.mem_singleton] at q; subst q; exact c2 k k1 k2
      · obtain ⟨k', q1, q2, rfl⟩ := mem_seg.1 q
        exact hL k k' k1 (by omega) q2
  · rw [cutE, cutD]
    refine (SE.refl _).append (SE.swap O ?_)
    intro y hy z hz
    rw [List.mem_singleton] at hy; subst hy
    obtain ⟨k, k1, k2, rfl⟩ := mem_seg.1 hz
    exact c1 k k1 k2
end
section
variable {α : Type} [Inhabited α] {lt : α → α → Bool} (O : SWO lt)
theorem IsRot.one (d : Array α) (a : Nat) : IsRot d a (a + 1) (a + 1) d := ⟨rfl, fun k h => by omega, fun k h => by rw [show a + (a + 1 - (a + 1)) + k = a + k by omega], fun _ _ => rfl⟩
theorem IsRot.one_step {d e : Array α} {a k : Nat} (h : IsRot d a (a + 1) (k + 1) e) (hak : a ≤ k) (hk : k + 1 < d.size) : IsRot d a (a + 1) (k + 1 + 1) (swp e k (k + 1)) := by
  have hs := h.size
  refine ⟨by rw [swp_size, hs], fun q hq => ?_, fun q hq => ?_, fun q hq => ?_⟩
  · rcases Nat.lt_or_ge q (k - a) with c | c
    · rw [swp_other _ _ _ _ (by omega) (by omega)]; exact h.front q (by omega)
    · have : a + q = k := by omega
      rw [this, swp_left _ _ _ (by omega) (by omega), h.other _ (by omega)]
      congr 1; omega
  · have : q = 0 := by omega
    subst this
    rw [show a + (k + 1 + 1 - (a + 1)) + 0 = k + 1 by omega, swp_right _ _ _ (by omega)]
    have := h.back 0 (by omega)
    rw [show a + (k + 1 - (a + 1)) + 0 = k by omega] at this
    exact this
  · rw [swp_other _ _ _ _ (by omega) (by omega)]; exact h.other _ (by omega)
theorem IsRot.end_ (d : Array α) (m : Nat) : IsRot d m m (m + 1) d := ⟨rfl, fun k h => rfl, fun k h => by omega, fun _ _ => rfl⟩
theorem IsRot.end_step {d e : Array α} {k m : Nat} (h : IsRot d (k + 1) m (m + 1) e) (hkm : k + 1 ≤ m) (hm : m < d.size) : IsRot d k m (m + 1) (swp e (k + 1) k) := by
  have hs := h.size
  refine ⟨by rw [swp_size, hs], fun q hq => ?_, fun q hq => ?_, fun q hq => ?_⟩
  · have : q = 0 := by omega
    subst this
    show (swp e (k + 1) k)[k]! = d[m]!
    rw [swp_right _ _ _ (by omega)]
    have := h.front 0 (by omega)
    exact this
  · rcases Nat.eq_zero_or_pos q with c | c
    · subst c
      rw [show k + (m + 1 - m) + 0 = k + 1 by omega, swp_left _ _ _ (by omega) (by omega)]
      exact h.other _ (by omega)
    · rw [swp_other _ _ _ _ (by omega) (by omega)]
      have := h.back (q - 1) (by omega)
      rw [show k + 1 + (m + 1 - m) + (q - 1) = k + (m + 1 - m) + q by omega, show k + 1 + (q - 1) = k + q by omega] at this
      exact this
  · rw [swp_other _ _ _ _ (by omega) (by omega)]; exact h.other _ (by omega)
theorem IsRot.none {d : Array α} {s m t : Nat} (h1 : s ≤ m) (h2 : m ≤ t) (h : ¬ (s < m ∧ m < t)) : IsRot d s m t d :=
  ⟨rfl, fun k hk => by rw [show s = m by omega], fun k hk => by congr 1; omega, fun _ _ => rfl⟩
theorem rot_SI {d e : Array α} {a m b s t mid : Nat} (hL : SI lt d a m) (hR : SI lt d m b) (h1 : a ≤ s) (h2 : s ≤ m) (h3 : m ≤ t) (h4 : t ≤ b) (hmid : mid + m = s + t) (r : IsRot d s m t e) :
    SI lt e a s ∧ SI lt e s mid ∧ SI lt e mid t ∧ SI lt e t b := by
  refine ⟨(hL.sub (Nat.le_refl a) h2).same (fun i i1 i2 => r.other _ (by omega)), fun i j i1 i2 i3 => ?_, fun i j i1 i2 i3 => ?_, (hR.sub h3 (Nat.le_refl b)).same (fun i i1 i2 => r.other _ (by omega))⟩
  · have e1 := r.front (i - s) (by omega)
    have e2 := r.front (j - s) (by omega)
    rw [show s + (i - s) = i by omega] at e1
    rw [show s + (j - s) = j by omega] at e2
    rw [e1, e2]; exact hR _ _ (by omega) (by omega) (by omega)
  · have e1 := r.back (i - mid) (by omega)
    have e2 := r.back (j - mid) (by omega)
    rw [show s + (t - m) + (i - mid) = i by omega] at e1
    rw [show s + (t - m) + (j - mid) = j by omega] at e2
    rw [e1, e2]; exact hL _ _ (by omega) (by omega) (by omega)
theorem SI.join {d : Array α} {a s b : Nat} (h1 : SI lt d a s) (h2 : SI lt d s b) (h : a = s ∨ b ≤ s) : SI lt d a b := by
  rcases h with h | h
  · subst h; exact h2
  · exact h1.sub (Nat.le_refl a) h
include O
theorem bs1_up {d : Array α} {a b h : Nat} (hR : SI lt d (a + 1) b) (h2 : h < b) (t : lt d[h]! d[a]! = true) : ∀ k, a + 1 ≤ k → k < h + 1 → lt d[k]! d[a]! = true := by
  intro k k1 k2
  rcases Nat.lt_or_ge k h with c | c
  · have hh := hR k h k1 c h2
    rcases split O d[k]! t with q | q
    · rw [hh] at q; cases q
    · exact q
  · have : k = h := by omega
    subst this; exact t
theorem bs1_dn {d : Array α} {a b h : Nat} (hR : SI lt d (a + 1) b) (h1 : a + 1 ≤ h) (t : lt d[h]! d[a]! = false) : ∀ k, h ≤ k → k < b → lt d[k]! d[a]! = false := by
  intro k k1 k2
  rcases Nat.lt_or_eq_of_le k1 with c | c
  · exact O.ntrans _ _ _ (hR h k h1 c k2) t
  · subst c; exact t
theorem bs2_up {d : Array α} {a m h : Nat} (hL : SI lt d a m) (h2 : h < m) (t : lt d[m]! d[h]! = false) : ∀ k, a ≤ k → k < h + 1 → lt d[m]! d[k]! = false := by
  intro k k1 k2
  rcases Nat.lt_or_ge k h with c | c
  · exact O.ntrans _ _ _ t (hL k h k1 c h2)
  · have : k = h := by omega
    subst this; exact t
theorem bs2_dn {d : Array α} {a m h : Nat} (hL : SI lt d a m) (h1 : a ≤ h) (t : lt d[m]! d[h]! = true) : ∀ k, h ≤ k → k < m → lt d[m]! d[k]! = true := by
  intro k k1 k2
  rcases Nat.lt_or_eq_of_le k1 with c | c
  · rcases split O d[k]! t with q | q
    · exact q
    · rw [hL h k h1 c k2] at q; cases q
  · subst c; exact t
theorem bs3 {d : Array α} {a m b p c c' : Nat} (hL : SI lt d a m) (hR : SI lt d m b) (h1 : a ≤ c) (h2 : c ≤ c') (h3 : c' < m) (h4 : p - c < b) (h5 : m ≤ p - c') (t : lt d[p - c]! d[c]! = true) : lt d[p - c']! d[c']! = true := by
  rcases Nat.lt_or_eq_of_le h2 with k | k
  · have e1 := hL c c' h1 k h3
    have e2 := hR (p - c') (p - c) h5 (by omega) h4
    rcases split O d[p - c']! t with q | q
    · rw [e2] at q; cases q
    · rcases split O d[c']! q with q2 | q2
      · exact q2
      · rw [e1] at q2; cases q2
  · subst k; exact t
theorem bs3_dn {d : Array α} {a m b p c c' : Nat} (hL : SI lt d a m) (hR : SI lt d m b) (h1 : a ≤ c') (h2 : c' ≤ c) (h3 : c < m) (h4 : p - c' < b) (h5 : m ≤ p - c) (t : lt d[p - c]! d[c]! = false) : lt d[p - c']! d[c']! = false := by
  cases h : lt d[p - c']! d[c']!
  · rfl
  · rw [bs3 O hL hR h1 h2 h3 h4 h5 h] at t; cases t
theorem Mg.insertion {d : Array α} {a b : Nat} (hab : a ≤ b) (hb : b ≤ d.size) : Mg lt d a b (insertionSort lt d a b) := by
  have H := insertionSort_holds O d a b hab hb
  obtain ⟨⟨h1, h2, h3⟩, h4⟩ := H
  have S := SE_insOuter (a := a) O (n := d.size) hb (b - (a + 1)) (a + 1) d rfl (Nat.le_refl _)
  refine ⟨h1, h2, h4, ?_⟩
  have cut : ∀ f : Array α, seg f 0 d.size = seg f 0 a ++ seg f a b ++ seg f b d.size := by
    intro f
    rw [seg_append f (Nat.zero_le a) hab, seg_append f (Nat.zero_le b) hb]
  intro x
  have hx := S x
  change cls lt x (seg d 0 d.size) = cls lt x (seg (insertionSort lt d a b) 0 d.size) at hx
  rw [cut, cut (insertionSort lt d a b), show seg (insertionSort lt d a b) 0 a = seg d 0 a from seg_congr rfl (fun i hi => h2 _ (by omega)), show seg (insertionSort lt d a b) b d.size = seg d b d.size from seg_congr rfl (fun i hi => h2 _ (by omega))] at hx
  unfold cls at hx ⊢
  simp only [List.filter_append] at hx
  exact List.append_cancel_left (List.append_cancel_right hx)
omit O
variable (lt)
def BlkS (bs n : Nat) (d : Array α) : Prop := ∀ k, SI lt d (bs * k) (min n (bs * k + bs))
def HalfS (bs n c : Nat) (d : Array α) : Prop := (∀ k, k < c → SI lt d (2 * bs * k) (2 * bs * k + 2 * bs)) ∧ (∀ k, 2 * c ≤ k → SI lt d (bs * k) (min n (bs * k + bs)))
variable {lt}
theorem HalfS.start {bs n : Nat} {d : Array α} (h : BlkS lt bs n d) : HalfS lt bs n 0 d := ⟨fun k hk => by omega, fun k _ => h k⟩
theorem HalfS.ready {bs n c a : Nat} {d : Array α} (h : HalfS lt bs n c d) (ha : a = bs * (2 * c)) (hb : a + 2 * bs ≤ n) : SI lt d a (a + bs) ∧ SI lt d (a + bs) (a + 2 * bs) := by
  have h1 := h.2 (2 * c) (Nat.le_refl _)
  have h2 := h.2 (2 * c + 1) (by omega)
  rw [Nat.mul_add, Nat.mul_one] at h2
  rw [← ha] at h1 h2
  exact ⟨h1.sub (Nat.le_refl _) (by omega), h2.sub (Nat.le_refl _) (by omega)⟩
theorem HalfS.last {bs n c a : Nat} {d : Array α} (h : HalfS lt bs n c d) (ha : a = bs * (2 * c)) (h1 : n < a + 2 * bs) (h2 : a + bs < n) : SI lt d a (a + bs) ∧ SI lt d (a + bs) n := by
  have k1 := h.2 (2 * c) (Nat.le_refl _)
  have k2 := h.2 (2 * c + 1) (by omega)
  rw [Nat.mul_add, Nat.mul_one] at k2
  rw [← ha] at k1 k2
  exact ⟨k1.sub (Nat.le_refl _) (by omega), k2.sub (Nat.le_refl _) (by omega)⟩
theorem two_mul_eq {bs c a : Nat} (ha : a = bs * (2 * c)) : 2 * bs * c = a := by rw [ha, Nat.mul_comm 2 bs, Nat.mul_assoc]
theorem HalfS.next {bs c a : Nat} (ha : a = bs * (2 * c)) : a + 2 * bs = bs * (2 * (c + 1)) := by
  rw [Nat.mul_add 2, Nat.mul_add bs, ← ha, Nat.mul_comm bs (2 * 1)]
theorem HalfS.step {bs n c a : Nat} {d e : Array α} (h : HalfS lt bs n c d) (ha : a = bs * (2 * c)) (M : Mg lt d a (a + 2 * bs) e) : HalfS lt bs n (c + 1) e := by
  have h2 := two_mul_eq ha
  refine ⟨fun k hk => ?_, fun k hk => ?_⟩
  · rcases Nat.lt_or_eq_of_le (Nat.lt_succ_iff.1 hk) with q | q
    · have : 2 * bs * (k + 1) ≤ 2 * bs * c := Nat.mul_le_mul_left _ q
      rw [Nat.mul_add, Nat.mul_one] at this
      exact (h.1 k q).same (fun i i1 i2 => M.other _ (by omega))
    · subst q
      rw [h2]; exact M.sorted
  · have : bs * (2 * (c + 1)) ≤ bs * k := Nat.mul_le_mul_left _ hk
    rw [← HalfS.next ha] at this
    exact (h.2 k (by omega)).same (fun i i1 i2 => M.other _ (by omega))
theorem HalfS.end_ {bs n c a : Nat} {d e : Array α} (h : HalfS lt bs n c d) (ha : a = bs * (2 * c)) (h1 : n < a + 2 * bs) (hs : SI lt e a n) (ho : ∀ i, i < a → e[i]! = d[i]!) (hle : a ≤ n) : BlkS lt (2 * bs) n e := by
  have h2 := two_mul_eq ha
  intro k
  rcases Nat.lt_trichotomy k c with q | q | q
  · have : 2 * bs * (k + 1) ≤ 2 * bs * c := Nat.mul_le_mul_left _ q
    rw [Nat.mul_add, Nat.mul_one] at this
    exact ((h.1 k q).sub (Nat.le_refl _) (by omega)).same (fun i i1 i2 => ho _ (by omega))
  · subst q
    rw [h2]; exact hs.sub (Nat.le_refl _) (by omega)
  · have : 2 * bs * (c + 1) ≤ 2 * bs * k := Nat.mul_le_mul_left _ q
    rw [Nat.mul_add, Nat.mul_one] at this
    intro i j i1 i2 i3; omega
theorem HalfS.rest {bs n c a : Nat} {d : Array α} (h : HalfS lt bs n c d) (ha : a = bs * (2 * c)) (h2 : ¬ a + bs < n) : SI lt d a n := by
  have k1 := h.2 (2 * c) (Nat.le_refl _)
  rw [← ha] at k1
  exact k1.sub (Nat.le_refl _) (by omega)
theorem BlkS.all {bs n : Nat} {d : Array α} (h : BlkS lt bs n d) (hn : n ≤ bs) : SI lt d 0 n := by
  have := h 0
  rw [Nat.mul_zero] at this
  exact this.sub (Nat.le_refl _) (by omega)
theorem BlkS.first {n c a : Nat} {d e : Array α} (h : ∀ k, k < c → SI lt d (20 * k) (20 * k + 20)) (ha : a = 20 * c) (hn : n < a + 20) (M : Mg lt d a n e) (hle : a ≤ n) : BlkS lt 20 n e := by
  intro k
  rcases Nat.lt_trichotomy k c with q | q | q
  · exact ((h k q).sub (Nat.le_refl _) (by omega)).same (fun i i1 i2 => M.other _ (by omega))
  · subst q; rw [← ha]; exact M.sorted.sub (Nat.le_refl _) (by omega)
  · intro i j i1 i2 i3; omega
theorem blocks_step {c a : Nat} {d e : Array α} (h : ∀ k, k < c → SI lt d (20 * k) (20 * k + 20)) (ha : a = 20 * c) (M : Mg lt d a (a + 20) e) : ∀ k, k < c + 1 → SI lt e (20 * k) (20 * k + 20) := by
  intro k hk
  rcases Nat.lt_or_eq_of_le (Nat.lt_succ_iff.1 hk) with q | q
  · exact (h k q).same (fun i i1 i2 => M.other _ (by omega))
  · subst q; rw [← ha]; exact M.sorted
end
end Go.Proofs.Ytckaejgamfllfaa.Stab
end

section
namespace Go.Proofs.Ytckaejgamfllfaa.Stab
open Go.Shelf Go.RowKit Go.Lib Go.Sort
set_option linter.unusedVariables false
set_option linter.unusedSimpArgs false
variable {α : Type} [Inhabited α] {P : Program}
structure Lay (P : Program) : Prop where
  mixed : P.follows .mixedOrders = true
  e149 : ∀ args w, (callFunc 149 args).run P w = .ok (.enter 149 args) w
  f111 : P.funcs[111]? = some Try.f111
  e111 : ∀ args w, (callFunc 111 args).run P w = .ok (.enter 111 args) w
  f135 : P.funcs[135]? = some Try.f135
  e135 : ∀ args w, (callFunc 135 args).run P w = .ok (.enter 135 args) w
  f150 : P.funcs[150]? = some Try.f150
  e150 : ∀ args w, (callFunc 150 args).run P w = .ok (.enter 150 args) w
  f156 : P.funcs[156]? = some Try.f156
  e156 : ∀ args w, (callFunc 156 args).run P w = .ok (.enter 156 args) w
  f158 : P.funcs[158]? = some Try.f158
  e158 : ∀ args w, (callFunc 158 args).run P w = .ok (.enter 158 args) w
  u3 : P.underlying 3 = some (.int .i64)
  a3 : ∀ w, (isAgg 3).run P w = .ok false w
  z3 : ∀ w, (Go.sizeOf 3).run P w = .ok 1 w
  u4 : P.underlying 4 = some .bool
  a4 : ∀ w, (isAgg 4).run P w = .ok false w
  z4 : ∀ w, (Go.sizeOf 4).run P w = .ok 1 w
  u62 : P.underlying 62 = some (.slice 3)
  a62 : ∀ w, (isAgg 62).run P w = .ok false w
  z62 : ∀ w, (Go.sizeOf 62).run P w = .ok 1 w
  u112 : P.underlying 112 = some (.func #[3, 3] #[3] false)
  a112 : ∀ w, (isAgg 112).run P w = .ok false w
  z112 : ∀ w, (Go.sizeOf 112).run P w = .ok 1 w
  u116 : P.underlying 116 = some (.int .u64)
  a116 : ∀ w, (isAgg 116).run P w = .ok false w
  z116 : ∀ w, (Go.sizeOf 116).run P w = .ok 1 w
theorem lay : Lay Try.prog where
  mixed := by kernel_rfl
  e149 := enters_of Try.func149 (by kernel_rfl) rfl
  f111 := Try.func111
  e111 := enters_of Try.func111 (by kernel_rfl) rfl
  f135 := Try.func135
  e135 := enters_of Try.func135 (by kernel_rfl) rfl
  f150 := Try.func150
  e150 := enters_of Try.func150 (by kernel_rfl) rfl
  f156 := Try.func156
  e156 := enters_of Try.func156 (by kernel_rfl) rfl
  f158 := Try.func158
  e158 := enters_of Try.func158 (by kernel_rfl) rfl
  u3 := Try.underlying3
  a3 := Try.isAgg3
  z3 := Try.sizeOf3
  u4 := Try.underlying4
  a4 := Try.isAgg4
  z4 := Try.sizeOf4
  u62 := Try.underlying62
  a62 := Try.isAgg62
  z62 := Try.sizeOf62
  u112 := Try.underlying112
  a112 := Try.isAgg112
  z112 := Try.sizeOf112
  u116 := Try.underlying116
  a116 := Try.isAgg116
  z116 := Try.sizeOf116
set_option maxHeartbeats 16000000 in
set_option maxRecDepth 1000000 in
theorem swapRange (L : Lay P) (enc : α → Value) (g : Nat) (cb : Array Value) (blk off cap : Nat) (d0 : Array α) (w0 : World) (sz : Nat) (a b n : Nat) (d : Array α) (w : World)
    (R : Row1 enc w0 blk off d0) (hs : d0.size = sz) (hz : d.size = sz) (S : SW enc w0 blk off d w) (hab : a + n ≤ b) (hb : b + n ≤ sz) (hsz : sz < 4611686018427387904) :
    Calls P 158 #[.slice (some ⟨blk, off, none⟩) sz cap, .int .i64 a, .int .i64 b, .int .i64 n, .func (.func g) #[] cb] w fun e w' => e = .returned (.tuple #[]) ∧ ∃ e', IsSwap d a b n e' ∧ SW enc w0 blk off e' w' := by
  have mixed := L.mixed
  have hu3 := L.u3; have hr3 := run_underlying L.u3; have a3 := L.a3; have z3 := L.z3
  have hu4 := L.u4; have hr4 := run_underlying L.u4; have a4 := L.a4; have z4 := L.z4
  have hu62 := L.u62; have hr62 := run_underlying L.u62; have a62 := L.a62; have z62 := L.z62
  have hu112 := L.u112; have hr112 := run_underlying L.u112; have a112 := L.a112; have z112 := L.z112
  have hu116 := L.u116; have hr116 := run_underlying L.u116; have a116 := L.a116; have z116 := L.z116
  have ce158 := L.e158
  have ce156 := L.e156
  have ce150 := L.e150
  have ce135 := L.e135
  have ce149 := L.e149
  have hcl0 := R.hO.cells
  simp only [Value.cells] at hcl0
  have hst := R.hO.store P
  have S0 : Aside (SW enc w0 blk off d w) := S
  clear S
  go_enter L.f158, Try.ntmps158
  go_wp2
  go_loopg [10] n (fun kx s10 wr => ∃ (i : Nat) (dk : Array α), s10 = .int .i64 i ∧ i ≤ n ∧ n - i ≤ kx ∧ dk.size = sz ∧ Aside (SW enc w0 blk off dk wr) ∧ Hid (IsSwap d a b i dk))
  case atStart => exact ⟨0, d, rfl, Nat.zero_le _, by omega, hz, S0, IsSwap.zero d a b⟩
  case round =>
    clear S0
    obtain ⟨i, dk, rfl, hin, hkx, hds, S1, HI⟩ := hrel
    by_cases hlt : i < n
    · have hltz : (i : Int) < (n : Int) := by omega
      go_wp2_with fail
      obtain ⟨iN1, hiN1⟩ : ∃ q_, q_ = a + i := ⟨_, rfl⟩
      have ei1 : ((a : Int) + (i : Int)).toNat = iN1 := by omega
      have pi1 : (0 : Int) ≤ (a : Int) + (i : Int) := by omega
      have bi1 : (a : Int) + (i : Int) < (sz : Int) := by omega
      have ri1 : IntKind.i64.wrap ((a : Int) + (i : Int)) = (a : Int) + (i : Int) := by rw [IntKind.wrap_i64]; omega
      obtain ⟨jN1, hjN1⟩ : ∃ q_, q_ = b + i := ⟨_, rfl⟩
      have ej1 : ((b : Int) + (i : Int)).toNat = jN1 := by omega
      have pj1 : (0 : Int) ≤ (b : Int) + (i : Int) := by omega
      have bj1 : (b : Int) + (i : Int) < (sz : Int) := by omega
      have rj1 : IntKind.i64.wrap ((b : Int) + (i : Int)) = (b : Int) + (i : Int) := by rw [IntKind.wrap_i64]; omega
      obtain ⟨x1, hx1⟩ : ∃ x, x = dk[a + i]! := ⟨_, rfl⟩
      obtain ⟨y1, hy1⟩ : ∃ x, x = dk[b + i]! := ⟨_, rfl⟩
      have S2 : Aside (SW enc w0 blk off (swp dk (a + i) (b + i)) ((wr.setCell ⟨blk, off + iN1, none⟩ (enc y1)).setCell ⟨blk, off + jN1, none⟩ (enc x1)).drew) := by rw [hiN1, hjN1, hx1, hy1]; exact S1.out.swapped R (a + i) (b + i) (by omega) (by omega)
      have c1a := S1.out.c1 R (by omega) (a + i) (by omega)
      have c1b := S1.out.c1 R (by omega) (b + i) (by omega)
      have f1a := S1.out.f1 R (by omega) (a + i) (by omega)
      have f1b := S1.out.f1 R (by omega) (b + i) (by omega)
      obtain ⟨u1, c1c⟩ := S1.out.c2 R (by omega) (a + i) (b + i) (by omega) (by omega) (enc y1)
      rw [← hjN1, ← hiN1] at c1c
      rw [← hx1, ← hiN1] at c1a
      rw [← hy1, ← hjN1] at c1b
      rw [← hiN1] at f1a
      rw [← hjN1] at f1b
      clear S1 hx1 hy1 hiN1 hjN1
      go_wp2_with fail
      go_big_region_o
      clear c1a c1b c1c f1a f1b
      generalize ((wr.setCell ⟨blk, off + iN1, none⟩ (enc y1)).setCell ⟨blk, off + jN1, none⟩ (enc x1)).drew = w2 at S2 ⊢
      clear ei1 ej1
      go_wp2
      go_roundg (n - (i + 1))
      case measure => omega
      case rel => exact ⟨i + 1, swp dk (a + i) (b + i), by go_num, by omega, Nat.le_refl _, by rw [size_swp]; exact hds, S2, HI.out.step (by omega) (by rw [hz]; omega)⟩
    · have hltz : ¬ (i : Int) < (n : Int) := by omega
      obtain rfl : i = n := by omega
      go_wp2
      go_end0
      exact ⟨rfl, dk, HI.out, S1.out⟩
set_option maxHeartbeats 16000000 in
set_option maxRecDepth 1000000 in
theorem rotate (L : Lay P) (enc : α → Value) (g : Nat) (cb : Array Value) (blk off cap : Nat) (d0 : Array α) (w0 : World) (sz : Nat) (a m b : Nat) (d : Array α) (w : World)
    (R : Row1 enc w0 blk off d0) (hs : d0.size = sz) (hz : d.size = sz) (S : SW enc w0 blk off d w) (ham : a < m) (hmb : m < b) (hb : b ≤ sz) (hsz : sz < 4611686018427387904) :
    Calls P 156 #[.slice (some ⟨blk, off, none⟩) sz cap, .int .i64 a, .int .i64 m, .int .i64 b, .func (.func g) #[] cb] w fun e w' => e = .returned (.tuple #[]) ∧ ∃ e', IsRot d a m b e' ∧ SW enc w0 blk off e' w' := by
  have mixed := L.mixed
  have hu3 := L.u3; have hr3 := run_underlying L.u3; have a3 := L.a3; have z3 := L.z3
  have hu4 := L.u4; have hr4 := run_underlying L.u4; have a4 := L.a4; have z4 := L.z4
  have hu62 := L.u62; have hr62 := run_underlying L.u62; have a62 := L.a62; have z62 := L.z62
  have hu112 := L.u112; have hr112 := run_underlying L.u112; have a112 := L.a112; have z112 := L.z112
  have hu116 := L.u116; have hr116 := run_underlying L.u116; have a116 := L.a116; have z116 := L.z116
  have ce158 := L.e158
  have ce156 := L.e156
  have ce150 := L.e150
  have ce135 := L.e135
  have ce149 := L.e149
  have hcl0 := R.hO.cells
  simp only [Value.cells] at hcl0
  have hst := R.hO.store P
  have S0 : Aside (SW enc w0 blk off d w) := S
  clear S
  have r1 : IntKind.i64.wrap ((m : Int) - (a : Int)) = ((m - a : Nat) : Int) := by rw [IntKind.wrap_i64]; omega
  have r2 : IntKind.i64.wrap ((b : Int) - (m : Int)) = ((b - m : Nat) : Int) := by rw [IntKind.wrap_i64]; omega
  go_enter L.f156, Try.ntmps156
  go_wp2
  go_loopg [10, 11] b (fun kx s10 s11 wr => ∃ (i j : Nat) (dk : Array α), s10 = .int .i64 i ∧ s11 = .int .i64 j ∧ 0 < i ∧ 0 < j ∧ i ≤ m - a ∧ m + j ≤ b ∧ i + j ≤ kx ∧ dk.size = sz ∧ Aside (SW enc w0 blk off dk wr) ∧ Hid (∀ f, IsRot dk (m - i) m (m + j) f → IsRot d a m b f))
  case atStart => exact ⟨m - a, b - m, d, by first | rfl | (congr 1; omega), by first | rfl | (congr 1; omega), by omega, by omega, Nat.le_refl _, by omega, by omega, hz, S0, (fun f hf => by rwa [show m - (m - a) = a by omega, show m + (b - m) = b by omega] at hf : ∀ f, IsRot d (m - (m - a)) m (m + (b - m)) f → IsRot d a m b f)⟩
  case round =>
    clear S0 r1 r2
    obtain ⟨i, j, dk, rfl, rfl, hi0, hj0, hi1, hj1, hkx, hds, S1, HI⟩ := hrel
    have r3 : IntKind.i64.wrap ((m : Int) - (i : Int)) = ((m - i : Nat) : Int) := by rw [IntKind.wrap_i64]; omega
    by_cases hij : i = j
    · subst hij
      have hnb : ((i : Int) != (i : Int)) = false := by simp
      go_wp2_with (go_at_call 158; refine (swapRange L enc g cb blk off cap d0 w0 sz (m - i) (m) (i) dk _ R hs hds S1.out (by omega) (by omega) hsz).mono ?_; rintro e w' ⟨rfl, e1, he1, hS1⟩)
      go_end0
      exact ⟨rfl, e1, HI.out e1 (IsRot.of_swap (by omega) he1), hS1⟩
    · have hne : ¬ (i : Int) = (j : Int) := by omega
      have hnb : ((i : Int) != (j : Int)) = true := by simpa using hne
      by_cases hgt : j < i
      · have hgtz : (j : Int) < (i : Int) := by omega
        have r4 : IntKind.i64.wrap ((i : Int) - (j : Int)) = ((i - j : Nat) : Int) := by rw [IntKind.wrap_i64]; omega
        go_wp2_with (go_at_call 158; refine (swapRange L enc g cb blk off cap d0 w0 sz (m - i) (m) (j) dk _ R hs hds S1.out (by omega) (by omega) hsz).mono ?_; rintro e w' ⟨rfl, e1, he1, hS1⟩)
        go_roundg (i - j + j)
        case measure => omega
        case rel => exact ⟨i - j, j, e1, by first | rfl | (congr 1; omega), rfl, by omega, hj0, by omega, hj1, Nat.le_refl _, by rw [he1.size]; exact hds, hS1, (fun f hf => HI.out f (IsRot.big (by omega) hgt he1 hf) : ∀ f, IsRot e1 (m - (i - j)) m (m + j) f → IsRot d a m b f)⟩
      · have hgtz : ¬ (j : Int) < (i : Int) := by omega
        have r4 : IntKind.i64.wrap ((j : Int) - (i : Int)) = ((j - i : Nat) : Int) := by rw [IntKind.wrap_i64]; omega
        have r5 : IntKind.i64.wrap ((m : Int) + (j : Int)) = (m : Int) + (j : Int) := by rw [IntKind.wrap_i64]; omega
        obtain ⟨q, hq⟩ : ∃ q, q = m + j - i := ⟨_, rfl⟩
        have r6 : IntKind.i64.wrap ((m : Int) + (j : Int) - (i : Int)) = (q : Int) := by rw [IntKind.wrap_i64]; omega
        have q1 : m - i + i ≤ q := by omega
        have q2 : q + i ≤ sz := by omega
        have HQ : Aside (q = m + j - i) := hq
        clear hq
        go_wp2_with (go_at_call 158; refine (swapRange L enc g cb blk off cap d0 w0 sz (m - i) (q) (i) dk _ R hs hds S1.out (by omega) (by omega) hsz).mono ?_; rintro e w' ⟨rfl, e1, he1, hS1⟩)
        go_roundg (i + (j - i))
        case measure => omega
        case rel => exact ⟨i, j - i, e1, rfl, by first | rfl | (congr 1; omega), hi0, by omega, hi1, by omega, Nat.le_refl _, by rw [he1.size]; exact hds, hS1, (fun f hf => HI.out f (IsRot.small (by omega) (by omega) (HQ.out ▸ he1) hf) : ∀ f, IsRot e1 (m - i) m (m + (j - i)) f → IsRot d a m b f)⟩
end Go.Proofs.Ytckaejgamfllfaa.Stab
end

section
namespace Go.Proofs.Ytckaejgamfllfaa.Stab
open Go.Shelf Go.RowKit Go.Lib Go.Sort
set_option linter.unusedVariables false
set_option linter.unusedSimpArgs false
variable {α : Type} [Inhabited α] {P : Program}
set_option maxHeartbeats 16000000 in
set_option maxRecDepth 1000000 in
theorem sym_first (L : Lay P) (enc : α → Value) (cf : α → α → Int) (O : SWO (ltOf cf)) (g : Nat) (cb : Array Value) (blk off cap : Nat) (d0 : Array α) (w0 : World) (sz : Nat) (a m b : Nat) (d : Array α) (w : World)
    (R : Row1 enc w0 blk off d0) (eg : ∀ args w, (callFunc g args).run P w = .ok (.enter g args) w) (hcmp : CmpLays1 P g cb enc cf blk off d0.size w0) (hs : d0.size = sz) (hz : d.size = sz) (S : SW enc w0 blk off d w) (hsz : sz < 1152921504606846976) (hm : m = a + 1) (hmb : m < b) (hb : b ≤ sz) (HR : SI (ltOf cf) d (a + 1) b) :
    Calls P 150 #[.slice (some ⟨blk, off, none⟩) sz cap, .int .i64 a, .int .i64 m, .int .i64 b, .func (.func g) #[] cb] w fun e w' => e = .returned (.tuple #[]) ∧ ∃ e', Mg (ltOf cf) d a b e' ∧ SW enc w0 blk off e' w' := by
  have mixed := L.mixed
  have hu3 := L.u3; have hr3 := run_underlying L.u3; have a3 := L.a3; have z3 := L.z3
  have hu4 := L.u4; have hr4 := run_underlying L.u4; have a4 := L.a4; have z4 := L.z4
  have hu62 := L.u62; have hr62 := run_underlying L.u62; have a62 := L.a62; have z62 := L.z62
  have hu112 := L.u112; have hr112 := run_underlying L.u112; have a112 := L.a112; have z112 := L.z112
  have hu116 := L.u116; have hr116 := run_underlying L.u116; have a116 := L.a116; have z116 := L.z116
  have ce158 := L.e158
  have ce156 := L.e156
  have ce150 := L.e150
  have ce135 := L.e135
  have ce149 := L.e149
  have hcl0 := R.hO.cells
  simp only [Value.cells] at hcl0
  have hst := R.hO.store P
  have S0 : Aside (SW enc w0 blk off d w) := S
  have HC : Aside _ := hcmp
  clear S hcmp
  have HS : Aside (SI (ltOf cf) d (a + 1) b) := HR
  clear HR
  have r1 : IntKind.i64.wrap ((m : Int) - (a : Int)) = 1 := by rw [IntKind.wrap_i64]; omega
  have hm1 : m ≤ a + 1 := by omega
  have hm2 : a + 1 ≤ m := by omega
  clear hm
  go_enter L.f150, Try.ntmps150
  go_wp2
  go_loopg [10, 11] b (fun kx s10 s11 wr => ∃ (i j : Nat), s10 = .int .i64 i ∧ s11 = .int .i64 j ∧ m ≤ i ∧ i ≤ j ∧ j ≤ b ∧ j - i ≤ kx ∧ Aside (SW enc w0 blk off d wr) ∧ Hid ((∀ k, a + 1 ≤ k → k < i → ltOf cf d[k]! d[a]! = true) ∧ (∀ k, j ≤ k → k < b → ltOf cf d[k]! d[a]! = false)))
  case atStart => exact ⟨m, b, rfl, rfl, Nat.le_refl _, by omega, Nat.le_refl _, by omega, S0, ⟨fun k h1 h2 => by omega, fun k h1 h2 => by omega⟩⟩
  case round =>
    clear S0
    obtain ⟨i, j, rfl, rfl, hmi, hij, hjb, hkx, S1, HI⟩ := hrel
    by_cases hlt : i < j
    · have hltz : (i : Int) < (j : Int) := by omega
      obtain ⟨h, hh⟩ : ∃ h, h = (i + j) / 2 := ⟨_, rfl⟩
      have hhz : ((i : Int) + (j : Int)) / 2 = (h : Int) := by omega
      have hh1 : i ≤ h := by omega
      have hh2 : h < j := by omega
      clear hh
      cases hv : ltOf cf d[h]! d[a]! with
      | true =>
        go_wp2_with fail
        obtain ⟨iN2, hiN2⟩ : ∃ q_, q_ = h := ⟨_, rfl⟩
        have ei2 : ((h : Int)).toNat = iN2 := by omega
        have pi2 : (0 : Int) ≤ (h : Int) := by omega
        have bi2 : (h : Int) < (sz : Int) := by omega
        have ri2 : IntKind.i64.wrap ((h : Int)) = (h : Int) := by rw [IntKind.wrap_i64]; omega
        obtain ⟨jN2, hjN2⟩ : ∃ q_, q_ = a := ⟨_, rfl⟩
        have ej2 : ((a : Int)).toNat = jN2 := by omega
        have pj2 : (0 : Int) ≤ (a : Int) := by omega
        have bj2 : (a : Int) < (sz : Int) := by omega
        have rj2 : IntKind.i64.wrap ((a : Int)) = (a : Int) := by rw [IntKind.wrap_i64]; omega
        obtain ⟨x2, hx2⟩ : ∃ x, x = d[h]! := ⟨_, rfl⟩
        obtain ⟨y2, hy2⟩ : ∃ x, x = d[a]! := ⟨_, rfl⟩
        have l2a := S1.out.cl R (by omega) (h) (by omega)
        have l2b := S1.out.cl R (by omega) (a) (by omega)
        rw [← hx2, ← hiN2] at l2a
        rw [← hy2, ← hjN2] at l2b
        have hc2 := S1.out.cmp HC.out (by omega) x2 y2
        have hv2 : cf x2 y2 < 0 := by rw [hx2, hy2]; exact of_decide_eq_true hv
        have hd2 : decide (cf x2 y2 < 0) = true := decide_eq_true hv2
        clear hx2 hy2 hiN2 hjN2
        go_wp2_with fail
        go_quiet_grown (first | (go_at_fn g; refine Calls.grown_of (hc2 _ _)))
        have S2 : Aside (SW enc w0 blk off d (grow (wr.drewN nq) osq)) := S1.out.grown nq osq
        clear l2a l2b hc2 S1
        generalize grow (wr.drewN nq) osq = w2 at S2 ⊢
        clear nq osq
        clear ei2 ej2
        go_wp2
        go_roundg (j - (h + 1))
        case measure => omega
        case rel => exact ⟨h + 1, j, by go_num, rfl, by omega, by omega, hjb, Nat.le_refl _, S2, ⟨bs1_up O HS.out (by omega) hv, HI.out.2⟩⟩
      | false =>
        go_wp2_with fail
        obtain ⟨iN3, hiN3⟩ : ∃ q_, q_ = h := ⟨_, rfl⟩
        have ei3 : ((h : Int)).toNat = iN3 := by omega
        have pi3 : (0 : Int) ≤ (h : Int) := by omega
        have bi3 : (h : Int) < (sz : Int) := by omega
        have ri3 : IntKind.i64.wrap ((h : Int)) = (h : Int) := by rw [IntKind.wrap_i64]; omega
        obtain ⟨jN3, hjN3⟩ : ∃ q_, q_ = a := ⟨_, rfl⟩
        have ej3 : ((a : Int)).toNat = jN3 := by omega
        have pj3 : (0 : Int) ≤ (a : Int) := by omega
        have bj3 : (a : Int) < (sz : Int) := by omega
        have rj3 : IntKind.i64.wrap ((a : Int)) = (a : Int) := by rw [IntKind.wrap_i64]; omega
        obtain ⟨x3, hx3⟩ : ∃ x, x = d[h]! := ⟨_, rfl⟩
        obtain ⟨y3, hy3⟩ : ∃ x, x = d[a]! := ⟨_, rfl⟩
        have l3a := S1.out.cl R (by omega) (h) (by omega)
        have l3b := S1.out.cl R (by omega) (a) (by omega)
        rw [← hx3, ← hiN3] at l3a
        rw [← hy3, ← hjN3] at l3b
        have hc3 := S1.out.cmp HC.out (by omega) x3 y3
        have hv3 : ¬ cf x3 y3 < 0 := by rw [hx3, hy3]; exact of_decide_eq_false hv
        have hd3 : decide (cf x3 y3 < 0) = false := decide_eq_false hv3
        clear hx3 hy3 hiN3 hjN3
        go_wp2_with fail
        go_quiet_grown (first | (go_at_fn g; refine Calls.grown_of (hc3 _ _)))
        have S2 : Aside (SW enc w0 blk off d (grow (wr.drewN nq) osq)) := S1.out.grown nq osq
        clear l3a l3b hc3 S1
        generalize grow (wr.drewN nq) osq = w2 at S2 ⊢
        clear nq osq
        clear ei3 ej3
        go_wp2
        go_roundg (h - i)
        case measure => omega
        case rel => exact ⟨i, h, rfl, rfl, hmi, hh1, by omega, Nat.le_refl _, S2, ⟨HI.out.1, bs1_dn O HS.out (by omega) hv⟩⟩
    · have hltz : ¬ (i : Int) < (j : Int) := by omega
      obtain rfl : i = j := by omega
      have r2 : IntKind.i64.wrap ((i : Int) - 1) = (i : Int) - 1 := by rw [IntKind.wrap_i64]; omega
      go_wp2
      go_loopg [13] i (fun kx s13 wr => ∃ (k : Nat) (dk : Array α), s13 = .int .i64 k ∧ a ≤ k ∧ k + 1 ≤ i ∧ i - k ≤ kx + 1 ∧ dk.size = sz ∧ Aside (SW enc w0 blk off dk wr) ∧ Hid (IsRot d a (a + 1) (k + 1) dk))
      case atStart => exact ⟨a, d, rfl, Nat.le_refl _, by omega, by omega, hz, S1, IsRot.one d a⟩
      case round =>
        clear S1
        obtain ⟨k, dk, rfl, hak, hki, hkx2, hds, S1, HK⟩ := hrel
        by_cases hkl : k + 1 < i
        · have hklz : (k : Int) < (i : Int) - 1 := by omega
          go_wp2_with fail
          obtain ⟨iN4, hiN4⟩ : ∃ q_, q_ = k := ⟨_, rfl⟩
          have ei4 : ((k : Int)).toNat = iN4 := by omega
          have pi4 : (0 : Int) ≤ (k : Int) := by omega
          have bi4 : (k : Int) < (sz : Int) := by omega
          have ri4 : IntKind.i64.wrap ((k : Int)) = (k : Int) := by rw [IntKind.wrap_i64]; omega
          obtain ⟨jN4, hjN4⟩ : ∃ q_, q_ = k + 1 := ⟨_, rfl⟩
          have ej4 : ((k : Int) + 1).toNat = jN4 := by omega
          have pj4 : (0 : Int) ≤ (k : Int) + 1 := by omega
          have bj4 : (k : Int) + 1 < (sz : Int) := by omega
          have rj4 : IntKind.i64.wrap ((k : Int) + 1) = (k : Int) + 1 := by rw [IntKind.wrap_i64]; omega
          obtain ⟨x4, hx4⟩ : ∃ x, x = dk[k]! := ⟨_, rfl⟩
          obtain ⟨y4, hy4⟩ : ∃ x, x = dk[k + 1]! := ⟨_, rfl⟩
          have S2 : Aside (SW enc w0 blk off (swp dk (k) (k + 1)) ((wr.setCell ⟨blk, off + iN4, none⟩ (enc y4)).setCell ⟨blk, off + jN4, none⟩ (enc x4)).drew) := by rw [hiN4, hjN4, hx4, hy4]; exact S1.out.swapped R (k) (k + 1) (by omega) (by omega)
          have c4a := S1.out.c1 R (by omega) (k) (by omega)
          have c4b := S1.out.c1 R (by omega) (k + 1) (by omega)
          have f4a := S1.out.f1 R (by omega) (k) (by omega)
          have f4b := S1.out.f1 R (by omega) (k + 1) (by omega)
          obtain ⟨u4, c4c⟩ := S1.out.c2 R (by omega) (k) (k + 1) (by omega) (by omega) (enc y4)
          rw [← hjN4, ← hiN4] at c4c
          rw [← hx4, ← hiN4] at c4a
          rw [← hy4, ← hjN4] at c4b
          rw [← hiN4] at f4a
          rw [← hjN4] at f4b
          clear S1 hx4 hy4 hiN4 hjN4
          go_wp2_with fail
          go_big_region_o
          clear c4a c4b c4c f4a f4b
          generalize ((wr.setCell ⟨blk, off + iN4, none⟩ (enc y4)).setCell ⟨blk, off + jN4, none⟩ (enc x4)).drew = w2 at S2 ⊢
          clear ei4 ej4
          go_wp2
          go_roundg (i - (k + 1) - 1)
          case measure => omega
          case rel => exact ⟨k + 1, swp dk k (k + 1), by go_num, by omega, by omega, by omega, by rw [size_swp]; exact hds, S2, HK.out.one_step hak (by rw [hz]; omega)⟩
        · have hklz : ¬ (k : Int) < (i : Int) - 1 := by omega
          obtain rfl : i = k + 1 := by omega
          go_wp2
          first | go_end0 | go_ret2 | go_ret | ((try simp only [Exit.inBlock, Exit.then]); refine bodyPost_ret (results_none rfl _ _ _) rfl ?_)
          exact ⟨rfl, dk, Mg.first O HS.out (by omega) hjb HI.out.1 HI.out.2 HK.out, S1.out⟩
set_option maxHeartbeats 16000000 in
set_option maxRecDepth 1000000 in
theorem sym_last (L : Lay P) (enc : α → Value) (cf : α → α → Int) (O : SWO (ltOf cf)) (g : Nat) (cb : Array Value) (blk off cap : Nat) (d0 : Array α) (w0 : World) (sz : Nat) (a m b : Nat) (d : Array α) (w : World)
    (R : Row1 enc w0 blk off d0) (eg : ∀ args w, (callFunc g args).run P w = .ok (.enter g args) w) (hcmp : CmpLays1 P g cb enc cf blk off d0.size w0) (hs : d0.size = sz) (hz : d.size = sz) (S : SW enc w0 blk off d w) (hsz : sz < 1152921504606846976) (ham : a + 1 < m) (hbm : b = m + 1) (hb : b ≤ sz) (HL : SI (ltOf cf) d a m) :
    Calls P 150 #[.slice (some ⟨blk, off, none⟩) sz cap, .int .i64 a, .int .i64 m, .int .i64 b, .func (.func g) #[] cb] w fun e w' => e = .returned (.tuple #[]) ∧ ∃ e', Mg (ltOf cf) d a b e' ∧ SW enc w0 blk off e' w' := by
  have mixed := L.mixed
  have hu3 := L.u3; have hr3 := run_underlying L.u3; have a3 := L.a3; have z3 := L.z3
  have hu4 := L.u4; have hr4 := run_underlying L.u4; have a4 := L.a4; have z4 := L.z4
  have hu62 := L.u62; have hr62 := run_underlying L.u62; have a62 := L.a62; have z62 := L.z62
  have hu112 := L.u112; have hr112 := run_underlying L.u112; have a112 := L.a112; have z112 := L.z112
  have hu116 := L.u116; have hr116 := run_underlying L.u116; have a116 := L.a116; have z116 := L.z116
  have ce158 := L.e158
  have ce156 := L.e156
  have ce150 := L.e150
  have ce135 := L.e135
  have ce149 := L.e149
  have hcl0 := R.hO.cells
  simp only [Value.cells] at hcl0
  have hst := R.hO.store P
  have S0 : Aside (SW enc w0 blk off d w) := S
  have HC : Aside _ := hcmp
  clear S hcmp
  have HS : Aside (SI (ltOf cf) d a m) := HL
  clear HL
  obtain ⟨g1, hg1⟩ : ∃ g1 : Nat, g1 = m - a := ⟨_, rfl⟩
  have r1 : IntKind.i64.wrap ((m : Int) - (a : Int)) = (g1 : Int) := by rw [IntKind.wrap_i64]; omega
  have q1 : ((g1 : Int) == 1) = false := by simp; omega
  have r2 : IntKind.i64.wrap ((b : Int) - (m : Int)) = 1 := by rw [IntKind.wrap_i64]; omega
  have hb1 : b ≤ m + 1 := by omega
  have hb2 : m + 1 ≤ b := by omega
  clear hg1 hbm
  go_enter L.f150, Try.ntmps150
  go_wp2
  go_loopg [14, 15] m (fun kx s14 s15 wr => ∃ (i j : Nat), s14 = .int .i64 i ∧ s15 = .int .i64 j ∧ a ≤ i ∧ i ≤ j ∧ j ≤ m ∧ j - i ≤ kx ∧ Aside (SW enc w0 blk off d wr) ∧ Hid ((∀ k, a ≤ k → k < i → ltOf cf d[m]! d[k]! = false) ∧ (∀ k, j ≤ k → k < m → ltOf cf d[m]! d[k]! = true)))
  case atStart => exact ⟨a, m, rfl, rfl, Nat.le_refl _, by omega, Nat.le_refl _, by omega, S0, ⟨fun k h1 h2 => by omega, fun k h1 h2 => by omega⟩⟩
  case round =>
    clear S0 r1 r2 q1
    obtain ⟨i, j, rfl, rfl, hmi, hij, hjb, hkx, S1, HI⟩ := hrel
    by_cases hlt : i < j
    · have hltz : (i : Int) < (j : Int) := by omega
      obtain ⟨h, hh⟩ : ∃ h, h = (i + j) / 2 := ⟨_, rfl⟩
      have hhz : ((i : Int) + (j : Int)) / 2 = (h : Int) := by omega
      have hh1 : i ≤ h := by omega
      have hh2 : h < j := by omega
      clear hh
      cases hv : ltOf cf d[m]! d[h]! with
      | true =>
        go_wp2_with fail
        obtain ⟨iN5, hiN5⟩ : ∃ q_, q_ = m := ⟨_, rfl⟩
        have ei5 : ((m : Int)).toNat = iN5 := by omega
        have pi5 : (0 : Int) ≤ (m : Int) := by omega
        have bi5 : (m : Int) < (sz : Int) := by omega
        have ri5 : IntKind.i64.wrap ((m : Int)) = (m : Int) := by rw [IntKind.wrap_i64]; omega
        obtain ⟨jN5, hjN5⟩ : ∃ q_, q_ = h := ⟨_, rfl⟩
        have ej5 : ((h : Int)).toNat = jN5 := by omega
        have pj5 : (0 : Int) ≤ (h : Int) := by omega
        have bj5 : (h : Int) < (sz : Int) := by omega
        have rj5 : IntKind.i64.wrap ((h : Int)) = (h : Int) := by rw [IntKind.wrap_i64]; omega
        obtain ⟨x5, hx5⟩ : ∃ x, x = d[m]! := ⟨_, rfl⟩
        obtain ⟨y5, hy5⟩ : ∃ x, x = d[h]! := ⟨_, rfl⟩
        have l5a := S1.out.cl R (by omega) (m) (by omega)
        have l5b := S1.out.cl R (by omega) (h) (by omega)
        rw [← hx5, ← hiN5] at l5a
        rw [← hy5, ← hjN5] at l5b
        have hc5 := S1.out.cmp HC.out (by omega) x5 y5
        have hv5 : cf x5 y5 < 0 := by rw [hx5, hy5]; exact of_decide_eq_true hv
        have hd5 : decide (cf x5 y5 < 0) = true := decide_eq_true hv5
        clear hx5 hy5 hiN5 hjN5
        go_wp2_with fail
        go_quiet_grown (first | (go_at_fn g; refine Calls.grown_of (hc5 _ _)))
        have S2 : Aside (SW enc w0 blk off d (grow (wr.drewN nq) osq)) := S1.out.grown nq osq
        clear l5a l5b hc5 S1
        generalize grow (wr.drewN nq) osq = w2 at S2 ⊢
        clear nq osq
        clear ei5 ej5
        go_wp2
        go_roundg (h - i)
        case measure => omega
        case rel => exact ⟨i, h, rfl, rfl, hmi, hh1, by omega, Nat.le_refl _, S2, ⟨HI.out.1, bs2_dn O HS.out (by omega) hv⟩⟩
      | false =>
        go_wp2_with fail
        obtain ⟨iN6, hiN6⟩ : ∃ q_, q_ = m := ⟨_, rfl⟩
        have ei6 : ((m : Int)).toNat = iN6 := by omega
        have pi6 : (0 : Int) ≤ (m : Int) := by omega
        have bi6 : (m : Int) < (sz : Int) := by omega
        have ri6 : IntKind.i64.wrap ((m : Int)) = (m : Int) := by rw [IntKind.wrap_i64]; omega
        obtain ⟨jN6, hjN6⟩ : ∃ q_, q_ = h := ⟨_, rfl⟩
        have ej6 : ((h : Int)).toNat = jN6 := by omega
        have pj6 : (0 : Int) ≤ (h : Int) := by omega
        have bj6 : (h : Int) < (sz : Int) := by omega
        have rj6 : IntKind.i64.wrap ((h : Int)) = (h : Int) := by rw [IntKind.wrap_i64]; omega
        obtain ⟨x6, hx6⟩ : ∃ x, x = d[m]! := ⟨_, rfl⟩
        obtain ⟨y6, hy6⟩ : ∃ x, x = d[h]! := ⟨_, rfl⟩
        have l6a := S1.out.cl R (by omega) (m) (by omega)
        have l6b := S1.out.cl R (by omega) (h) (by omega)
        rw [← hx6, ← hiN6] at l6a
        rw [← hy6, ← hjN6] at l6b
        have hc6 := S1.out.cmp HC.out (by omega) x6 y6
        have hv6 : ¬ cf x6 y6 < 0 := by rw [hx6, hy6]; exact of_decide_eq_false hv
        have hd6 : decide (cf x6 y6 < 0) = false := decide_eq_false hv6
        clear hx6 hy6 hiN6 hjN6
        go_wp2_with fail
        go_quiet_grown (first | (go_at_fn g; refine Calls.grown_of (hc6 _ _)))
        have S2 : Aside (SW enc w0 blk off d (grow (wr.drewN nq) osq)) := S1.out.grown nq osq
        clear l6a l6b hc6 S1
        generalize grow (wr.drewN nq) osq = w2 at S2 ⊢
        clear nq osq
        clear ei6 ej6
        go_wp2
        go_roundg (j - (h + 1))
        case measure => omega
        case rel => exact ⟨h + 1, j, by go_num, rfl, by omega, by omega, hjb, Nat.le_refl _, S2, ⟨bs2_up O HS.out (by omega) hv, HI.out.2⟩⟩
    · have hltz : ¬ (i : Int) < (j : Int) := by omega
      obtain rfl : i = j := by omega
      go_wp2
      go_loopg [17] m (fun kx s17 wr => ∃ (k : Nat) (dk : Array α), s17 = .int .i64 k ∧ i ≤ k ∧ k ≤ m ∧ k - i ≤ kx ∧ dk.size = sz ∧ Aside (SW enc w0 blk off dk wr) ∧ Hid (IsRot d k m (m + 1) dk))
      case atStart => exact ⟨m, d, rfl, by omega, Nat.le_refl _, by omega, hz, S1, IsRot.end_ d m⟩
      case round =>
        clear S1
        obtain ⟨k, dk, rfl, hik, hkm, hkx2, hds, S1, HK⟩ := hrel
        by_cases hkl : i < k
        · have hklz : (i : Int) < (k : Int) := by omega
          obtain ⟨kp, hkp⟩ : ∃ q, k = q + 1 := ⟨k - 1, by omega⟩
          have r3 : IntKind.i64.wrap ((k : Int) - 1) = (kp : Int) := by rw [IntKind.wrap_i64]; omega
          have k1 : k ≤ kp + 1 := by omega
          have k2 : kp + 1 ≤ k := by omega
          have HKP : Aside (k = kp + 1) := hkp
          clear hkp
          go_wp2_with fail
          obtain ⟨iN7, hiN7⟩ : ∃ q_, q_ = k := ⟨_, rfl⟩
          have ei7 : ((k : Int)).toNat = iN7 := by omega
          have pi7 : (0 : Int) ≤ (k : Int) := by omega
          have bi7 : (k : Int) < (sz : Int) := by omega
          have ri7 : IntKind.i64.wrap ((k : Int)) = (k : Int) := by rw [IntKind.wrap_i64]; omega
          obtain ⟨jN7, hjN7⟩ : ∃ q_, q_ = kp := ⟨_, rfl⟩
          have ej7 : ((kp : Int)).toNat = jN7 := by omega
          have pj7 : (0 : Int) ≤ (kp : Int) := by omega
          have bj7 : (kp : Int) < (sz : Int) := by omega
          have rj7 : IntKind.i64.wrap ((kp : Int)) = (kp : Int) := by rw [IntKind.wrap_i64]; omega
          obtain ⟨x7, hx7⟩ : ∃ x, x = dk[k]! := ⟨_, rfl⟩
          obtain ⟨y7, hy7⟩ : ∃ x, x = dk[kp]! := ⟨_, rfl⟩
          have S2 : Aside (SW enc w0 blk off (swp dk (k) (kp)) ((wr.setCell ⟨blk, off + iN7, none⟩ (enc y7)).setCell ⟨blk, off + jN7, none⟩ (enc x7)).drew) := by rw [hiN7, hjN7, hx7, hy7]; exact S1.out.swapped R (k) (kp) (by omega) (by omega)
          have c7a := S1.out.c1 R (by omega) (k) (by omega)
          have c7b := S1.out.c1 R (by omega) (kp) (by omega)
          have f7a := S1.out.f1 R (by omega) (k) (by omega)
          have f7b := S1.out.f1 R (by omega) (kp) (by omega)
          obtain ⟨u7, c7c⟩ := S1.out.c2 R (by omega) (k) (kp) (by omega) (by omega) (enc y7)
          rw [← hjN7, ← hiN7] at c7c
          rw [← hx7, ← hiN7] at c7a
          rw [← hy7, ← hjN7] at c7b
          rw [← hiN7] at f7a
          rw [← hjN7] at f7b
          clear S1 hx7 hy7 hiN7 hjN7
          go_wp2_with fail
          go_big_region_o
          clear c7a c7b c7c f7a f7b
          generalize ((wr.setCell ⟨blk, off + iN7, none⟩ (enc y7)).setCell ⟨blk, off + jN7, none⟩ (enc x7)).drew = w2 at S2 ⊢
          clear ei7 ej7
          go_wp2
          go_roundg (kp - i)
          case measure => omega
          case rel => exact ⟨kp, swp dk k kp, rfl, by omega, by omega, Nat.le_refl _, by rw [size_swp]; exact hds, S2, by obtain rfl := HKP.out; exact HK.out.end_step (by omega) (by rw [hz]; omega)⟩
        · have hklz : ¬ (i : Int) < (k : Int) := by omega
          obtain rfl : i = k := by omega
          go_wp2
          first | go_end0 | go_ret2 | go_ret | ((try simp only [Exit.inBlock, Exit.then]); refine bodyPost_ret (results_none rfl _ _ _) rfl ?_)
          exact ⟨rfl, dk, by obtain rfl : b = m + 1 := (by omega); exact Mg.last O HS.out hmi hjb HI.out.2 HI.out.1 HK.out, S1.out⟩
end Go.Proofs.Ytckaejgamfllfaa.Stab
end

section
namespace Go.Proofs.Ytckaejgamfllfaa.Stab
open Go.Shelf Go.RowKit Go.Lib Go.Sort
set_option linter.unusedVariables false
set_option linter.unusedSimpArgs false
variable {α : Type} [Inhabited α] {P : Program}
set_option maxHeartbeats 16000000 in
set_option maxRecDepth 1000000 in
theorem sym_gen (L : Lay P) (enc : α → Value) (cf : α → α → Int) (O : SWO (ltOf cf)) (g : Nat) (cb : Array Value) (blk off cap : Nat) (d0 : Array α) (w0 : World) (sz : Nat) (a m b : Nat) (d : Array α) (w : World)
    (R : Row1 enc w0 blk off d0) (eg : ∀ args w, (callFunc g args).run P w = .ok (.enter g args) w) (hcmp : CmpLays1 P g cb enc cf blk off d0.size w0) (hs : d0.size = sz) (hz : d.size = sz) (S : SW enc w0 blk off d w) (hsz : sz < 1152921504606846976) (ham : a + 1 < m) (hmb : m + 1 < b) (hb : b ≤ sz) (HL : SI (ltOf cf) d a m) (HR : SI (ltOf cf) d m b) (ih : ∀ (a' m' b' : Nat) (d' : Array α) (w' : World), a' < m' → m' < b' → b' ≤ sz → b' - a' < b - a → d'.size = sz → SI (ltOf cf) d' a' m' → SI (ltOf cf) d' m' b' → SW enc w0 blk off d' w' → Calls P 150 #[.slice (some ⟨blk, off, none⟩) sz cap, .int .i64 a', .int .i64 m', .int .i64 b', .func (.func g) #[] cb] w' fun e w'' => e = .returned (.tuple #[]) ∧ ∃ e', Mg (ltOf cf) d' a' b' e' ∧ SW enc w0 blk off e' w'') :
    Calls P 150 #[.slice (some ⟨blk, off, none⟩) sz cap, .int .i64 a, .int .i64 m, .int .i64 b, .func (.func g) #[] cb] w fun e w' => e = .returned (.tuple #[]) ∧ ∃ e', Mg (ltOf cf) d a b e' ∧ SW enc w0 blk off e' w' := by
  have mixed := L.mixed
  have hu3 := L.u3; have hr3 := run_underlying L.u3; have a3 := L.a3; have z3 := L.z3
  have hu4 := L.u4; have hr4 := run_underlying L.u4; have a4 := L.a4; have z4 := L.z4
  have hu62 := L.u62; have hr62 := run_underlying L.u62; have a62 := L.a62; have z62 := L.z62
  have hu112 := L.u112; have hr112 := run_underlying L.u112; have a112 := L.a112; have z112 := L.z112
  have hu116 := L.u116; have hr116 := run_underlying L.u116; have a116 := L.a116; have z116 := L.z116
  have ce158 := L.e158
  have ce156 := L.e156
  have ce150 := L.e150
  have ce135 := L.e135
  have ce149 := L.e149
  have hcl0 := R.hO.cells
  simp only [Value.cells] at hcl0
  have hst := R.hO.store P
  have S0 : Aside (SW enc w0 blk off d w) := S
  have HC : Aside _ := hcmp
  clear S hcmp
  have HLR : Aside (SI (ltOf cf) d a m ∧ SI (ltOf cf) d m b) := ⟨HL, HR⟩
  have IH : Aside (∀ (a' m' b' : Nat) (d' : Array α) (w' : World), a' < m' → m' < b' → b' ≤ sz → b' - a' < b - a → d'.size = sz → SI (ltOf cf) d' a' m' → SI (ltOf cf) d' m' b' → SW enc w0 blk off d' w' → Calls P 150 #[.slice (some ⟨blk, off, none⟩) sz cap, .int .i64 a', .int .i64 m', .int .i64 b', .func (.func g) #[] cb] w' fun e w'' => e = .returned (.tuple #[]) ∧ ∃ e', Mg (ltOf cf) d' a' b' e' ∧ SW enc w0 blk off e' w'') := ih
  clear HL HR ih
  obtain ⟨g1, hg1⟩ : ∃ g1 : Nat, g1 = m - a := ⟨_, rfl⟩
  have r1 : IntKind.i64.wrap ((m : Int) - (a : Int)) = (g1 : Int) := by rw [IntKind.wrap_i64]; omega
  have q1 : ((g1 : Int) == 1) = false := by simp; omega
  obtain ⟨g2, hg2⟩ : ∃ g2 : Nat, g2 = b - m := ⟨_, rfl⟩
  have r2 : IntKind.i64.wrap ((b : Int) - (m : Int)) = (g2 : Int) := by rw [IntKind.wrap_i64]; omega
  have q2 : ((g2 : Int) == 1) = false := by simp; omega
  clear hg1 hg2
  obtain ⟨mid, hmid⟩ : ∃ q, q = (a + b) / 2 := ⟨_, rfl⟩
  have hmz : ((a : Int) + (b : Int)) / 2 = (mid : Int) := by omega
  have hm1 : a + 1 < mid := by omega
  have hm2 : mid + 1 < b := by omega
  have hm3 : a + b ≤ 2 * mid + 1 := by omega
  have hm4 : 2 * mid ≤ a + b := by omega
  clear hmid
  obtain ⟨N, hN⟩ : ∃ N, N = mid + m := ⟨_, rfl⟩
  have rN : IntKind.i64.wrap ((mid : Int) + (m : Int)) = (N : Int) := by rw [IntKind.wrap_i64]; omega
  have hN1 : N ≤ mid + m := by omega
  have hN2 : mid + m ≤ N := by omega
  clear hN
  obtain ⟨p, hp⟩ : ∃ p, p = N - 1 := ⟨_, rfl⟩
  have rp : IntKind.i64.wrap ((N : Int) - 1) = (p : Int) := by rw [IntKind.wrap_i64]; omega
  have hp1 : p + 1 ≤ N := by omega
  have hp2 : N ≤ p + 1 := by omega
  clear hp
  go_enter L.f150, Try.ntmps150
  by_cases hbig : mid < m
  · skip
    have hbz : (mid : Int) < (m : Int) := by omega
    obtain ⟨s0, hs0⟩ : ∃ q, q = N - b := ⟨_, rfl⟩
    have rs : IntKind.i64.wrap ((N : Int) - (b : Int)) = (s0 : Int) := by rw [IntKind.wrap_i64]; omega
    have hs1 : s0 + b ≤ N := by omega
    have hs2 : N ≤ s0 + b := by omega
    clear hs0
    go_wp2
    go_loopg [20, 21] sz (fun kx s20 s21 wr => ∃ (s hi : Nat), s20 = .int .i64 s ∧ s21 = .int .i64 hi ∧ s0 ≤ s ∧ s ≤ hi ∧ hi ≤ mid ∧ hi - s ≤ kx ∧ Aside (SW enc w0 blk off d wr) ∧ Hid ((∀ c, s0 ≤ c → c < s → ltOf cf d[p - c]! d[c]! = false) ∧ (∀ c, hi ≤ c → c < mid → ltOf cf d[p - c]! d[c]! = true)))
    case atStart => exact ⟨s0, mid, rfl, rfl, Nat.le_refl _, by omega, Nat.le_refl _, by omega, S0, ⟨fun k h1 h2 => by omega, fun k h1 h2 => by omega⟩⟩
    case round =>
      clear S0
      (try clear rs)
      obtain ⟨s, hi, rfl, rfl, hsl, hlh, hhr, hkx, S1, HI⟩ := hrel
      by_cases hlt : s < hi
      · have hltz : (s : Int) < (hi : Int) := by omega
        obtain ⟨c, hc⟩ : ∃ h, h = (s + hi) / 2 := ⟨_, rfl⟩
        have hcz : ((s : Int) + (hi : Int)) / 2 = (c : Int) := by omega
        have hc1 : s ≤ c := by omega
        have hc2 : c < hi := by omega
        clear hc
        obtain ⟨q, hq⟩ : ∃ q, q = p - c := ⟨_, rfl⟩
        have rq : IntKind.i64.wrap ((p : Int) - (c : Int)) = (q : Int) := by rw [IntKind.wrap_i64]; omega
        have hq1 : q + c ≤ p := by omega
        have hq2 : p ≤ q + c := by omega
        clear hq
        cases hv : ltOf cf d[q]! d[c]! with
        | true =>
          go_wp2_with fail
          obtain ⟨iN8, hiN8⟩ : ∃ q_, q_ = q := ⟨_, rfl⟩
          have ei8 : ((q : Int)).toNat = iN8 := by omega
          have pi8 : (0 : Int) ≤ (q : Int) := by omega
          have bi8 : (q : Int) < (sz : Int) := by omega
          have ri8 : IntKind.i64.wrap ((q : Int)) = (q : Int) := by rw [IntKind.wrap_i64]; omega
          obtain ⟨jN8, hjN8⟩ : ∃ q_, q_ = c := ⟨_, rfl⟩
          have ej8 : ((c : Int)).toNat = jN8 := by omega
          have pj8 : (0 : Int) ≤ (c : Int) := by omega
          have bj8 : (c : Int) < (sz : Int) := by omega
          have rj8 : IntKind.i64.wrap ((c : Int)) = (c : Int) := by rw [IntKind.wrap_i64]; omega
          obtain ⟨x8, hx8⟩ : ∃ x, x = d[q]! := ⟨_, rfl⟩
          obtain ⟨y8, hy8⟩ : ∃ x, x = d[c]! := ⟨_, rfl⟩
          have l8a := S1.out.cl R (by omega) (q) (by omega)
          have l8b := S1.out.cl R (by omega) (c) (by omega)
          rw [← hx8, ← hiN8] at l8a
          rw [← hy8, ← hjN8] at l8b
          have hc8 := S1.out.cmp HC.out (by omega) x8 y8
          have hv8 : cf x8 y8 < 0 := by rw [hx8, hy8]; exact of_decide_eq_true hv
          have hd8 : decide (cf x8 y8 < 0) = true := decide_eq_true hv8
          clear hx8 hy8 hiN8 hjN8
          go_wp2_with fail
          go_quiet_grown (first | (go_at_fn g; refine Calls.grown_of (hc8 _ _)))
          have S2 : Aside (SW enc w0 blk off d (grow (wr.drewN nq) osq)) := S1.out.grown nq osq
          clear l8a l8b hc8 S1
          generalize grow (wr.drewN nq) osq = w2 at S2 ⊢
          clear nq osq
          clear ei8 ej8
          go_wp2
          go_roundg (c - s)
          case measure => omega
          case rel => exact ⟨s, c, rfl, rfl, hsl, hc1, by omega, Nat.le_refl _, S2, ⟨HI.out.1, fun c' h1 h2 => bs3 O HLR.out.1 HLR.out.2 (show a ≤ c by omega) h1 (by omega) (show p - c < b by omega) (by omega) (by rw [show p - c = q by omega]; exact hv)⟩⟩
        | false =>
          go_wp2_with fail
          obtain ⟨iN9, hiN9⟩ : ∃ q_, q_ = q := ⟨_, rfl⟩
          have ei9 : ((q : Int)).toNat = iN9 := by omega
          have pi9 : (0 : Int) ≤ (q : Int) := by omega
          have bi9 : (q : Int) < (sz : Int) := by omega
          have ri9 : IntKind.i64.wrap ((q : Int)) = (q : Int) := by rw [IntKind.wrap_i64]; omega
          obtain ⟨jN9, hjN9⟩ : ∃ q_, q_ = c := ⟨_, rfl⟩
          have ej9 : ((c : Int)).toNat = jN9 := by omega
          have pj9 : (0 : Int) ≤ (c : Int) := by omega
          have bj9 : (c : Int) < (sz : Int) := by omega
          have rj9 : IntKind.i64.wrap ((c : Int)) = (c : Int) := by rw [IntKind.wrap_i64]; omega
          obtain ⟨x9, hx9⟩ : ∃ x, x = d[q]! := ⟨_, rfl⟩
          obtain ⟨y9, hy9⟩ : ∃ x, x = d[c]! := ⟨_, rfl⟩
          have l9a := S1.out.cl R (by omega) (q) (by omega)
          have l9b := S1.out.cl R (by omega) (c) (by omega)
          rw [← hx9, ← hiN9] at l9a
          rw [← hy9, ← hjN9] at l9b
          have hc9 := S1.out.cmp HC.out (by omega) x9 y9
          have hv9 : ¬ cf x9 y9 < 0 := by rw [hx9, hy9]; exact of_decide_eq_false hv
          have hd9 : decide (cf x9 y9 < 0) = false := decide_eq_false hv9
          clear hx9 hy9 hiN9 hjN9
          go_wp2_with fail
          go_quiet_grown (first | (go_at_fn g; refine Calls.grown_of (hc9 _ _)))
          have S2 : Aside (SW enc w0 blk off d (grow (wr.drewN nq) osq)) := S1.out.grown nq osq
          clear l9a l9b hc9 S1
          generalize grow (wr.drewN nq) osq = w2 at S2 ⊢
          clear nq osq
          clear ei9 ej9
          go_wp2
          go_roundg (hi - (c + 1))
          case measure => omega
          case rel => exact ⟨c + 1, hi, by go_num, rfl, by omega, by omega, hhr, Nat.le_refl _, S2, ⟨fun c' h1 h2 => bs3_dn O HLR.out.1 HLR.out.2 (show a ≤ c' by omega) (show c' ≤ c by omega) (by omega) (show p - c' < b by omega) (show m ≤ p - c by omega) (by rw [show p - c = q by omega]; exact hv), HI.out.2⟩⟩
      · have hltz : ¬ (s : Int) < (hi : Int) := by omega
        obtain rfl : s = hi := by omega
        obtain ⟨t, ht⟩ : ∃ t, t = N - s := ⟨_, rfl⟩
        have rt : IntKind.i64.wrap ((N : Int) - (s : Int)) = (t : Int) := by rw [IntKind.wrap_i64]; omega
        have ht1 : t + s ≤ N := by omega
        have ht2 : N ≤ t + s := by omega
        clear ht
        have CUT : Aside ((s < m → m < t → ltOf cf d[t - 1]! d[s]! = true) ∧ (a < s → t < b → ltOf cf d[t]! d[s - 1]! = false)) :=
          ⟨fun h1 h2 => by have := HI.out.2 s (Nat.le_refl _) (by omega); rwa [show p - s = t - 1 by omega] at this, fun h1 h2 => by have := HI.out.1 (s - 1) (by omega) (by omega); rwa [show p - (s - 1) = t by omega] at this⟩
        have z1 : s ≤ m := by omega
        have z2 : m ≤ t := by omega
        have z3 : t ≤ b := by omega
        have z4 : a ≤ s := by omega
        have z5 : mid + m ≤ s + t := by omega
        have z5b : s + t ≤ mid + m := by omega
        have z6 : a ≤ mid := by omega
        have z7 : mid < b := by omega
        have z8 : a < mid := by omega
        have z9 : s ≤ mid := by omega
        have z10 : mid ≤ t := by omega
        clear HI hsl hlh hhr hkx
        by_cases k1 : s < m ∧ m < t
        · have u1 : (s : Int) < (m : Int) := by omega
          have v1 : (m : Int) < (t : Int) := by omega
          by_cases k2 : a < s ∧ s < mid
          · have u2 : (a : Int) < (s : Int) := by omega
            have v2 : (s : Int) < (mid : Int) := by omega
            by_cases k3 : mid < t ∧ t < b
            · have u3 : (mid : Int) < (t : Int) := by omega
              have v3 : (t : Int) < (b : Int) := by omega
              try (exfalso; omega)
              all_goals (
                go_wp2_with (first | (go_at_call 156; refine (rotate L enc g cb blk off cap d0 w0 sz s m t d _ R hs hz S1.out (by omega) (by omega) (by omega) (by omega)).mono ?_; rintro e w' ⟨rfl, e1, he1, hS1⟩; have S2 : Aside _ := hS1; clear hS1; obtain ⟨y1, y2, y3, y4⟩ := rot_SI HLR.out.1 HLR.out.2 (by omega) (by omega) (by omega) (by omega) (show mid + m = s + t by omega) he1; have Y1 : Aside _ := y1; have Y2 : Aside _ := y2; have Y3 : Aside _ := y3; have Y4 : Aside _ := y4; clear y1 y2 y3 y4) | (have q_ := mark; clear q_; go_at_call 150; refine (IH.out mid t b f1 _ (by omega) (by omega) hb (by omega) hzf X3.out X4.out S3.out).mono ?_; rintro e w' ⟨rfl, g1, hg1, hS1⟩; have S4 : Aside _ := hS1; clear hS1) | (go_at_call 150; refine (IH.out a s mid e1 _ (by omega) (by omega) (by omega) (by omega) (by rw [he1.size]; exact hz) Y1.out Y2.out S2.out).mono ?_; rintro e w' ⟨rfl, f1, hf1, hS1⟩; have S3 : Aside _ := hS1; clear hS1; have mark : True := trivial; have X3 : Aside _ := (SI.same Y3.out (fun i i1 i2 => hf1.other i (Or.inr i1))); have X4 : Aside _ := (SI.same Y4.out (fun i i1 i2 => hf1.other i (Or.inr (by omega)))); have hzf : f1.size = sz := by rw [hf1.size, he1.size]; exact hz))
                first | go_end0 | go_ret2 | go_ret | ((try simp only [Exit.inBlock, Exit.then]); refine bodyPost_ret (results_none rfl _ _ _) rfl ?_)
                exact ⟨rfl, g1, Mg.halves O HLR.out.1 HLR.out.2 (by omega) (by omega) (by omega) (by omega) (show mid + m = s + t by omega) CUT.out.1 CUT.out.2 he1 hf1 hg1, S4.out⟩)
            · by_cases j3 : mid < t
              · have u3 : (mid : Int) < (t : Int) := by omega
                have v3 : ¬ (t : Int) < (b : Int) := by omega
                try (exfalso; omega)
                all_goals (
                  go_wp2_with (first | (go_at_call 156; refine (rotate L enc g cb blk off cap d0 w0 sz s m t d _ R hs hz S1.out (by omega) (by omega) (by omega) (by omega)).mono ?_; rintro e w' ⟨rfl, e1, he1, hS1⟩; have S2 : Aside _ := hS1; clear hS1; obtain ⟨y1, y2, y3, y4⟩ := rot_SI HLR.out.1 HLR.out.2 (by omega) (by omega) (by omega) (by omega) (show mid + m = s + t by omega) he1; have Y1 : Aside _ := y1; have Y2 : Aside _ := y2; have Y3 : Aside _ := y3; have Y4 : Aside _ := y4; clear y1 y2 y3 y4) | (go_at_call 150; refine (IH.out a s mid e1 _ (by omega) (by omega) (by omega) (by omega) (by rw [he1.size]; exact hz) Y1.out Y2.out S2.out).mono ?_; rintro e w' ⟨rfl, f1, hf1, hS1⟩; have S3 : Aside _ := hS1; clear hS1; have mark : True := trivial; have X3 : Aside _ := (SI.same Y3.out (fun i i1 i2 => hf1.other i (Or.inr i1))); have X4 : Aside _ := (SI.same Y4.out (fun i i1 i2 => hf1.other i (Or.inr (by omega)))); have hzf : f1.size = sz := by rw [hf1.size, he1.size]; exact hz))
                  first | go_end0 | go_ret2 | go_ret | ((try simp only [Exit.inBlock, Exit.then]); refine bodyPost_ret (results_none rfl _ _ _) rfl ?_)
                  have hg1 : Mg (ltOf cf) f1 mid b f1 := Mg.refl O (SI.join X3.out X4.out (by omega))
                  exact ⟨rfl, f1, Mg.halves O HLR.out.1 HLR.out.2 (by omega) (by omega) (by omega) (by omega) (show mid + m = s + t by omega) CUT.out.1 CUT.out.2 he1 hf1 hg1, S3.out⟩)
              · have u3 : ¬ (mid : Int) < (t : Int) := by omega
                try (exfalso; omega)
                all_goals (
                  go_wp2_with (first | (go_at_call 156; refine (rotate L enc g cb blk off cap d0 w0 sz s m t d _ R hs hz S1.out (by omega) (by omega) (by omega) (by omega)).mono ?_; rintro e w' ⟨rfl, e1, he1, hS1⟩; have S2 : Aside _ := hS1; clear hS1; obtain ⟨y1, y2, y3, y4⟩ := rot_SI HLR.out.1 HLR.out.2 (by omega) (by omega) (by omega) (by omega) (show mid + m = s + t by omega) he1; have Y1 : Aside _ := y1; have Y2 : Aside _ := y2; have Y3 : Aside _ := y3; have Y4 : Aside _ := y4; clear y1 y2 y3 y4) | (go_at_call 150; refine (IH.out a s mid e1 _ (by omega) (by omega) (by omega) (by omega) (by rw [he1.size]; exact hz) Y1.out Y2.out S2.out).mono ?_; rintro e w' ⟨rfl, f1, hf1, hS1⟩; have S3 : Aside _ := hS1; clear hS1; have mark : True := trivial; have X3 : Aside _ := (SI.same Y3.out (fun i i1 i2 => hf1.other i (Or.inr i1))); have X4 : Aside _ := (SI.same Y4.out (fun i i1 i2 => hf1.other i (Or.inr (by omega)))); have hzf : f1.size = sz := by rw [hf1.size, he1.size]; exact hz))
                  first | go_end0 | go_ret2 | go_ret | ((try simp only [Exit.inBlock, Exit.then]); refine bodyPost_ret (results_none rfl _ _ _) rfl ?_)
                  have hg1 : Mg (ltOf cf) f1 mid b f1 := Mg.refl O (SI.join X3.out X4.out (by omega))
                  exact ⟨rfl, f1, Mg.halves O HLR.out.1 HLR.out.2 (by omega) (by omega) (by omega) (by omega) (show mid + m = s + t by omega) CUT.out.1 CUT.out.2 he1 hf1 hg1, S3.out⟩)
          · by_cases j2 : a < s
            · have u2 : (a : Int) < (s : Int) := by omega
              have v2 : ¬ (s : Int) < (mid : Int) := by omega
              by_cases k3 : mid < t ∧ t < b
              · have u3 : (mid : Int) < (t : Int) := by omega
                have v3 : (t : Int) < (b : Int) := by omega
                try (exfalso; omega)
                all_goals (
                  go_wp2_with (first | (go_at_call 156; refine (rotate L enc g cb blk off cap d0 w0 sz s m t d _ R hs hz S1.out (by omega) (by omega) (by omega) (by omega)).mono ?_; rintro e w' ⟨rfl, e1, he1, hS1⟩; have S2 : Aside _ := hS1; clear hS1; obtain ⟨y1, y2, y3, y4⟩ := rot_SI HLR.out.1 HLR.out.2 (by omega) (by omega) (by omega) (by omega) (show mid + m = s + t by omega) he1; have Y1 : Aside _ := y1; have Y2 : Aside _ := y2; have Y3 : Aside _ := y3; have Y4 : Aside _ := y4; clear y1 y2 y3 y4; have hf1 : Mg (ltOf cf) e1 a mid e1 := Mg.refl O (SI.join Y1.out Y2.out (by omega)); have X3 : Aside _ := (SI.same Y3.out (fun i i1 i2 => hf1.other i (Or.inr i1))); have X4 : Aside _ := (SI.same Y4.out (fun i i1 i2 => hf1.other i (Or.inr (by omega)))); have hzf : e1.size = sz := by rw [hf1.size, he1.size]; exact hz) | (go_at_call 150; refine (IH.out mid t b e1 _ (by omega) (by omega) hb (by omega) hzf X3.out X4.out S2.out).mono ?_; rintro e w' ⟨rfl, g1, hg1, hS1⟩; have S4 : Aside _ := hS1; clear hS1))
                  first | go_end0 | go_ret2 | go_ret | ((try simp only [Exit.inBlock, Exit.then]); refine bodyPost_ret (results_none rfl _ _ _) rfl ?_)
                  exact ⟨rfl, g1, Mg.halves O HLR.out.1 HLR.out.2 (by omega) (by omega) (by omega) (by omega) (show mid + m = s + t by omega) CUT.out.1 CUT.out.2 he1 hf1 hg1, S4.out⟩)
              · by_cases j3 : mid < t
                · have u3 : (mid : Int) < (t : Int) := by omega
                  have v3 : ¬ (t : Int) < (b : Int) := by omega
                  try (exfalso; omega)
                  all_goals (
                    go_wp2_with (first | (go_at_call 156; refine (rotate L enc g cb blk off cap d0 w0 sz s m t d _ R hs hz S1.out (by omega) (by omega) (by omega) (by omega)).mono ?_; rintro e w' ⟨rfl, e1, he1, hS1⟩; have S2 : Aside _ := hS1; clear hS1; obtain ⟨y1, y2, y3, y4⟩ := rot_SI HLR.out.1 HLR.out.2 (by omega) (by omega) (by omega) (by omega) (show mid + m = s + t by omega) he1; have Y1 : Aside _ := y1; have Y2 : Aside _ := y2; have Y3 : Aside _ := y3; have Y4 : Aside _ := y4; clear y1 y2 y3 y4; have hf1 : Mg (ltOf cf) e1 a mid e1 := Mg.refl O (SI.join Y1.out Y2.out (by omega)); have X3 : Aside _ := (SI.same Y3.out (fun i i1 i2 => hf1.other i (Or.inr i1))); have X4 : Aside _ := (SI.same Y4.out (fun i i1 i2 => hf1.other i (Or.inr (by omega)))); have hzf : e1.size = sz := by rw [hf1.size, he1.size]; exact hz))
                    first | go_end0 | go_ret2 | go_ret | ((try simp only [Exit.inBlock, Exit.then]); refine bodyPost_ret (results_none rfl _ _ _) rfl ?_)
                    have hg1 : Mg (ltOf cf) e1 mid b e1 := Mg.refl O (SI.join X3.out X4.out (by omega))
                    exact ⟨rfl, e1, Mg.halves O HLR.out.1 HLR.out.2 (by omega) (by omega) (by omega) (by omega) (show mid + m = s + t by omega) CUT.out.1 CUT.out.2 he1 hf1 hg1, S2.out⟩)
                · have u3 : ¬ (mid : Int) < (t : Int) := by omega
                  try (exfalso; omega)
                  all_goals (
                    go_wp2_with (first | (go_at_call 156; refine (rotate L enc g cb blk off cap d0 w0 sz s m t d _ R hs hz S1.out (by omega) (by omega) (by omega) (by omega)).mono ?_; rintro e w' ⟨rfl, e1, he1, hS1⟩; have S2 : Aside _ := hS1; clear hS1; obtain ⟨y1, y2, y3, y4⟩ := rot_SI HLR.out.1 HLR.out.2 (by omega) (by omega) (by omega) (by omega) (show mid + m = s + t by omega) he1; have Y1 : Aside _ := y1; have Y2 : Aside _ := y2; have Y3 : Aside _ := y3; have Y4 : Aside _ := y4; clear y1 y2 y3 y4; have hf1 : Mg (ltOf cf) e1 a mid e1 := Mg.refl O (SI.join Y1.out Y2.out (by omega)); have X3 : Aside _ := (SI.same Y3.out (fun i i1 i2 => hf1.other i (Or.inr i1))); have X4 : Aside _ := (SI.same Y4.out (fun i i1 i2 => hf1.other i (Or.inr (by omega)))); have hzf : e1.size = sz := by rw [hf1.size, he1.size]; exact hz))
                    first | go_end0 | go_ret2 | go_ret | ((try simp only [Exit.inBlock, Exit.then]); refine bodyPost_ret (results_none rfl _ _ _) rfl ?_)
                    have hg1 : Mg (ltOf cf) e1 mid b e1 := Mg.refl O (SI.join X3.out X4.out (by omega))
                    exact ⟨rfl, e1, Mg.halves O HLR.out.1 HLR.out.2 (by omega) (by omega) (by omega) (by omega) (show mid + m = s + t by omega) CUT.out.1 CUT.out.2 he1 hf1 hg1, S2.out⟩)
            · have u2 : ¬ (a : Int) < (s : Int) := by omega
              by_cases k3 : mid < t ∧ t < b
              · have u3 : (mid : Int) < (t : Int) := by omega
                have v3 : (t : Int) < (b : Int) := by omega
                try (exfalso; omega)
                all_goals (
                  go_wp2_with (first | (go_at_call 156; refine (rotate L enc g cb blk off cap d0 w0 sz s m t d _ R hs hz S1.out (by omega) (by omega) (by omega) (by omega)).mono ?_; rintro e w' ⟨rfl, e1, he1, hS1⟩; have S2 : Aside _ := hS1; clear hS1; obtain ⟨y1, y2, y3, y4⟩ := rot_SI HLR.out.1 HLR.out.2 (by omega) (by omega) (by omega) (by omega) (show mid + m = s + t by omega) he1; have Y1 : Aside _ := y1; have Y2 : Aside _ := y2; have Y3 : Aside _ := y3; have Y4 : Aside _ := y4; clear y1 y2 y3 y4; have hf1 : Mg (ltOf cf) e1 a mid e1 := Mg.refl O (SI.join Y1.out Y2.out (by omega)); have X3 : Aside _ := (SI.same Y3.out (fun i i1 i2 => hf1.other i (Or.inr i1))); have X4 : Aside _ := (SI.same Y4.out (fun i i1 i2 => hf1.other i (Or.inr (by omega)))); have hzf : e1.size = sz := by rw [hf1.size, he1.size]; exact hz) | (go_at_call 150; refine (IH.out mid t b e1 _ (by omega) (by omega) hb (by omega) hzf X3.out X4.out S2.out).mono ?_; rintro e w' ⟨rfl, g1, hg1, hS1⟩; have S4 : Aside _ := hS1; clear hS1))
                  first | go_end0 | go_ret2 | go_ret | ((try simp only [Exit.inBlock, Exit.then]); refine bodyPost_ret (results_none rfl _ _ _) rfl ?_)
                  exact ⟨rfl, g1, Mg.halves O HLR.out.1 HLR.out.2 (by omega) (by omega) (by omega) (by omega) (show mid + m = s + t by omega) CUT.out.1 CUT.out.2 he1 hf1 hg1, S4.out⟩)
              · by_cases j3 : mid < t
                · have u3 : (mid : Int) < (t : Int) := by omega
                  have v3 : ¬ (t : Int) < (b : Int) := by omega
                  try (exfalso; omega)
                  all_goals (
                    go_wp2_with (first | (go_at_call 156; refine (rotate L enc g cb blk off cap d0 w0 sz s m t d _ R hs hz S1.out (by omega) (by omega) (by omega) (by omega)).mono ?_; rintro e w' ⟨rfl, e1, he1, hS1⟩; have S2 : Aside _ := hS1; clear hS1; obtain ⟨y1, y2, y3, y4⟩ := rot_SI HLR.out.1 HLR.out.2 (by omega) (by omega) (by omega) (by omega) (show mid + m = s + t by omega) he1; have Y1 : Aside _ := y1; have Y2 : Aside _ := y2; have Y3 : Aside _ := y3; have Y4 : Aside _ := y4; clear y1 y2 y3 y4; have hf1 : Mg (ltOf cf) e1 a mid e1 := Mg.refl O (SI.join Y1.out Y2.out (by omega)); have X3 : Aside _ := (SI.same Y3.out (fun i i1 i2 => hf1.other i (Or.inr i1))); have X4 : Aside _ := (SI.same Y4.out (fun i i1 i2 => hf1.other i (Or.inr (by omega)))); have hzf : e1.size = sz := by rw [hf1.size, he1.size]; exact hz))
                    first | go_end0 | go_ret2 | go_ret | ((try simp only [Exit.inBlock, Exit.then]); refine bodyPost_ret (results_none rfl _ _ _) rfl ?_)
                    have hg1 : Mg (ltOf cf) e1 mid b e1 := Mg.refl O (SI.join X3.out X4.out (by omega))
                    exact ⟨rfl, e1, Mg.halves O HLR.out.1 HLR.out.2 (by omega) (by omega) (by omega) (by omega) (show mid + m = s + t by omega) CUT.out.1 CUT.out.2 he1 hf1 hg1, S2.out⟩)
                · have u3 : ¬ (mid : Int) < (t : Int) := by omega
                  try (exfalso; omega)
                  all_goals (
                    go_wp2_with (first | (go_at_call 156; refine (rotate L enc g cb blk off cap d0 w0 sz s m t d _ R hs hz S1.out (by omega) (by omega) (by omega) (by omega)).mono ?_; rintro e w' ⟨rfl, e1, he1, hS1⟩; have S2 : Aside _ := hS1; clear hS1; obtain ⟨y1, y2, y3, y4⟩ := rot_SI HLR.out.1 HLR.out.2 (by omega) (by omega) (by omega) (by omega) (show mid + m = s + t by omega) he1; have Y1 : Aside _ := y1; have Y2 : Aside _ := y2; have Y3 : Aside _ := y3; have Y4 : Aside _ := y4; clear y1 y2 y3 y4; have hf1 : Mg (ltOf cf) e1 a mid e1 := Mg.refl O (SI.join Y1.out Y2.out (by omega)); have X3 : Aside _ := (SI.same Y3.out (fun i i1 i2 => hf1.other i (Or.inr i1))); have X4 : Aside _ := (SI.same Y4.out (fun i i1 i2 => hf1.other i (Or.inr (by omega)))); have hzf : e1.size = sz := by rw [hf1.size, he1.size]; exact hz))
                    first | go_end0 | go_ret2 | go_ret | ((try simp only [Exit.inBlock, Exit.then]); refine bodyPost_ret (results_none rfl _ _ _) rfl ?_)
                    have hg1 : Mg (ltOf cf) e1 mid b e1 := Mg.refl O (SI.join X3.out X4.out (by omega))
                    exact ⟨rfl, e1, Mg.halves O HLR.out.1 HLR.out.2 (by omega) (by omega) (by omega) (by omega) (show mid + m = s + t by omega) CUT.out.1 CUT.out.2 he1 hf1 hg1, S2.out⟩)
        · by_cases j1 : s < m
          · have u1 : (s : Int) < (m : Int) := by omega
            have v1 : ¬ (m : Int) < (t : Int) := by omega
            by_cases k2 : a < s ∧ s < mid
            · have u2 : (a : Int) < (s : Int) := by omega
              have v2 : (s : Int) < (mid : Int) := by omega
              by_cases k3 : mid < t ∧ t < b
              · have u3 : (mid : Int) < (t : Int) := by omega
                have v3 : (t : Int) < (b : Int) := by omega
                try (exfalso; omega)
                all_goals (
                  have he1 : IsRot d s m t d := IsRot.none (by omega) (by omega) k1
                  obtain ⟨y1, y2, y3, y4⟩ := rot_SI HLR.out.1 HLR.out.2 (by omega) (by omega) (by omega) (by omega) (show mid + m = s + t by omega) he1; have Y1 : Aside _ := y1; have Y2 : Aside _ := y2; have Y3 : Aside _ := y3; have Y4 : Aside _ := y4; clear y1 y2 y3 y4
                  go_wp2_with (first | (have q_ := mark; clear q_; go_at_call 150; refine (IH.out mid t b f1 _ (by omega) (by omega) hb (by omega) hzf X3.out X4.out S3.out).mono ?_; rintro e w' ⟨rfl, g1, hg1, hS1⟩; have S4 : Aside _ := hS1; clear hS1) | (go_at_call 150; refine (IH.out a s mid d _ (by omega) (by omega) (by omega) (by omega) (by rw [he1.size]; exact hz) Y1.out Y2.out S1.out).mono ?_; rintro e w' ⟨rfl, f1, hf1, hS1⟩; have S3 : Aside _ := hS1; clear hS1; have mark : True := trivial; have X3 : Aside _ := (SI.same Y3.out (fun i i1 i2 => hf1.other i (Or.inr i1))); have X4 : Aside _ := (SI.same Y4.out (fun i i1 i2 => hf1.other i (Or.inr (by omega)))); have hzf : f1.size = sz := by rw [hf1.size, he1.size]; exact hz))
                  first | go_end0 | go_ret2 | go_ret | ((try simp only [Exit.inBlock, Exit.then]); refine bodyPost_ret (results_none rfl _ _ _) rfl ?_)
                  exact ⟨rfl, g1, Mg.halves O HLR.out.1 HLR.out.2 (by omega) (by omega) (by omega) (by omega) (show mid + m = s + t by omega) CUT.out.1 CUT.out.2 he1 hf1 hg1, S4.out⟩)
              · by_cases j3 : mid < t
                · have u3 : (mid : Int) < (t : Int) := by omega
                  have v3 : ¬ (t : Int) < (b : Int) := by omega
                  try (exfalso; omega)
                  all_goals (
                    have he1 : IsRot d s m t d := IsRot.none (by omega) (by omega) k1
                    obtain ⟨y1, y2, y3, y4⟩ := rot_SI HLR.out.1 HLR.out.2 (by omega) (by omega) (by omega) (by omega) (show mid + m = s + t by omega) he1; have Y1 : Aside _ := y1; have Y2 : Aside _ := y2; have Y3 : Aside _ := y3; have Y4 : Aside _ := y4; clear y1 y2 y3 y4
                    go_wp2_with (first | (go_at_call 150; refine (IH.out a s mid d _ (by omega) (by omega) (by omega) (by omega) (by rw [he1.size]; exact hz) Y1.out Y2.out S1.out).mono ?_; rintro e w' ⟨rfl, f1, hf1, hS1⟩; have S3 : Aside _ := hS1; clear hS1; have mark : True := trivial; have X3 : Aside _ := (SI.same Y3.out (fun i i1 i2 => hf1.other i (Or.inr i1))); have X4 : Aside _ := (SI.same Y4.out (fun i i1 i2 => hf1.other i (Or.inr (by omega)))); have hzf : f1.size = sz := by rw [hf1.size, he1.size]; exact hz))
                    first | go_end0 | go_ret2 | go_ret | ((try simp only [Exit.inBlock, Exit.then]); refine bodyPost_ret (results_none rfl _ _ _) rfl ?_)
                    have hg1 : Mg (ltOf cf) f1 mid b f1 := Mg.refl O (SI.join X3.out X4.out (by omega))
                    exact ⟨rfl, f1, Mg.halves O HLR.out.1 HLR.out.2 (by omega) (by omega) (by omega) (by omega) (show mid + m = s + t by omega) CUT.out.1 CUT.out.2 he1 hf1 hg1, S3.out⟩)
                · have u3 : ¬ (mid : Int) < (t : Int) := by omega
                  try (exfalso; omega)
                  all_goals (
                    have he1 : IsRot d s m t d := IsRot.none (by omega) (by omega) k1
                    obtain ⟨y1, y2, y3, y4⟩ := rot_SI HLR.out.1 HLR.out.2 (by omega) (by omega) (by omega) (by omega) (show mid + m = s + t by omega) he1; have Y1 : Aside _ := y1; have Y2 : Aside _ := y2; have Y3 : Aside _ := y3; have Y4 : Aside _ := y4; clear y1 y2 y3 y4
                    go_wp2_with (first | (go_at_call 150; refine (IH.out a s mid d _ (by omega) (by omega) (by omega) (by omega) (by rw [he1.size]; exact hz) Y1.out Y2.out S1.out).mono ?_; rintro e w' ⟨rfl, f1, hf1, hS1⟩; have S3 : Aside _ := hS1; clear hS1; have mark : True := trivial; have X3 : Aside _ := (SI.same Y3.out (fun i i1 i2 => hf1.other i (Or.inr i1))); have X4 : Aside _ := (SI.same Y4.out (fun i i1 i2 => hf1.other i (Or.inr (by omega)))); have hzf : f1.size = sz := by rw [hf1.size, he1.size]; exact hz))
                    first | go_end0 | go_ret2 | go_ret | ((try simp only [Exit.inBlock, Exit.then]); refine bodyPost_ret (results_none rfl _ _ _) rfl ?_)
                    have hg1 : Mg (ltOf cf) f1 mid b f1 := Mg.refl O (SI.join X3.out X4.out (by omega))
                    exact ⟨rfl, f1, Mg.halves O HLR.out.1 HLR.out.2 (by omega) (by omega) (by omega) (by omega) (show mid + m = s + t by omega) CUT.out.1 CUT.out.2 he1 hf1 hg1, S3.out⟩)
            · by_cases j2 : a < s
              · have u2 : (a : Int) < (s : Int) := by omega
                have v2 : ¬ (s : Int) < (mid : Int) := by omega
                by_cases k3 : mid < t ∧ t < b
                · have u3 : (mid : Int) < (t : Int) := by omega
                  have v3 : (t : Int) < (b : Int) := by omega
                  try (exfalso; omega)
                  all_goals (
                    have he1 : IsRot d s m t d := IsRot.none (by omega) (by omega) k1
                    obtain ⟨y1, y2, y3, y4⟩ := rot_SI HLR.out.1 HLR.out.2 (by omega) (by omega) (by omega) (by omega) (show mid + m = s + t by omega) he1; have Y1 : Aside _ := y1; have Y2 : Aside _ := y2; have Y3 : Aside _ := y3; have Y4 : Aside _ := y4; clear y1 y2 y3 y4
                    have hf1 : Mg (ltOf cf) d a mid d := Mg.refl O (SI.join Y1.out Y2.out (by omega))
                    have X3 : Aside _ := (SI.same Y3.out (fun i i1 i2 => hf1.other i (Or.inr i1))); have X4 : Aside _ := (SI.same Y4.out (fun i i1 i2 => hf1.other i (Or.inr (by omega)))); have hzf : d.size = sz := by rw [hf1.size, he1.size]; exact hz
                    go_wp2_with (first | (go_at_call 150; refine (IH.out mid t b d _ (by omega) (by omega) hb (by omega) hzf X3.out X4.out S1.out).mono ?_; rintro e w' ⟨rfl, g1, hg1, hS1⟩; have S4 : Aside _ := hS1; clear hS1))
                    first | go_end0 | go_ret2 | go_ret | ((try simp only [Exit.inBlock, Exit.then]); refine bodyPost_ret (results_none rfl _ _ _) rfl ?_)
                    exact ⟨rfl, g1, Mg.halves O HLR.out.1 HLR.out.2 (by omega) (by omega) (by omega) (by omega) (show mid + m = s + t by omega) CUT.out.1 CUT.out.2 he1 hf1 hg1, S4.out⟩)
                · by_cases j3 : mid < t
                  · have u3 : (mid : Int) < (t : Int) := by omega
                    have v3 : ¬ (t : Int) < (b : Int) := by omega
                    try (exfalso; omega)
                    all_goals (
                      have he1 : IsRot d s m t d := IsRot.none (by omega) (by omega) k1
                      obtain ⟨y1, y2, y3, y4⟩ := rot_SI HLR.out.1 HLR.out.2 (by omega) (by omega) (by omega) (by omega) (show mid + m = s + t by omega) he1; have Y1 : Aside _ := y1; have Y2 : Aside _ := y2; have Y3 : Aside _ := y3; have Y4 : Aside _ := y4; clear y1 y2 y3 y4
                      have hf1 : Mg (ltOf cf) d a mid d := Mg.refl O (SI.join Y1.out Y2.out (by omega))
                      have X3 : Aside _ := (SI.same Y3.out (fun i i1 i2 => hf1.other i (Or.inr i1))); have X4 : Aside _ := (SI.same Y4.out (fun i i1 i2 => hf1.other i (Or.inr (by omega)))); have hzf : d.size = sz := by rw [hf1.size, he1.size]; exact hz
                      go_wp2
                      first | go_end0 | go_ret2 | go_ret | ((try simp only [Exit.inBlock, Exit.then]); refine bodyPost_ret (results_none rfl _ _ _) rfl ?_)
                      have hg1 : Mg (ltOf cf) d mid b d := Mg.refl O (SI.join X3.out X4.out (by omega))
                      exact ⟨rfl, d, Mg.halves O HLR.out.1 HLR.out.2 (by omega) (by omega) (by omega) (by omega) (show mid + m = s + t by omega) CUT.out.1 CUT.out.2 he1 hf1 hg1, S1.out⟩)
                  · have u3 : ¬ (mid : Int) < (t : Int) := by omega
                    try (exfalso; omega)
                    all_goals (
                      have he1 : IsRot d s m t d := IsRot.none (by omega) (by omega) k1
                      obtain ⟨y1, y2, y3, y4⟩ := rot_SI HLR.out.1 HLR.out.2 (by omega) (by omega) (by omega) (by omega) (show mid + m = s + t by omega) he1; have Y1 : Aside _ := y1; have Y2 : Aside _ := y2; have Y3 : Aside _ := y3; have Y4 : Aside _ := y4; clear y1 y2 y3 y4
                      have hf1 : Mg (ltOf cf) d a mid d := Mg.refl O (SI.join Y1.out Y2.out (by omega))
                      have X3 : Aside _ := (SI.same Y3.out (fun i i1 i2 => hf1.other i (Or.inr i1))); have X4 : Aside _ := (SI.same Y4.out (fun i i1 i2 => hf1.other i (Or.inr (by omega)))); have hzf : d.size = sz := by rw [hf1.size, he1.size]; exact hz
                      go_wp2
                      first | go_end0 | go_ret2 | go_ret | ((try simp only [Exit.inBlock, Exit.then]); refine bodyPost_ret (results_none rfl _ _ _) rfl ?_)
                      have hg1 : Mg (ltOf cf) d mid b d := Mg.refl O (SI.join X3.out X4.out (by omega))
                      exact ⟨rfl, d, Mg.halves O HLR.out.1 HLR.out.2 (by omega) (by omega) (by omega) (by omega) (show mid + m = s + t by omega) CUT.out.1 CUT.out.2 he1 hf1 hg1, S1.out⟩)
              · have u2 : ¬ (a : Int) < (s : Int) := by omega
                by_cases k3 : mid < t ∧ t < b
                · have u3 : (mid : Int) < (t : Int) := by omega
                  have v3 : (t : Int) < (b : Int) := by omega
                  try (exfalso; omega)
                  all_goals (
                    have he1 : IsRot d s m t d := IsRot.none (by omega) (by omega) k1
                    obtain ⟨y1, y2, y3, y4⟩ := rot_SI HLR.out.1 HLR.out.2 (by omega) (by omega) (by omega) (by omega) (show mid + m = s + t by omega) he1; have Y1 : Aside _ := y1; have Y2 : Aside _ := y2; have Y3 : Aside _ := y3; have Y4 : Aside _ := y4; clear y1 y2 y3 y4
                    have hf1 : Mg (ltOf cf) d a mid d := Mg.refl O (SI.join Y1.out Y2.out (by omega))
                    have X3 : Aside _ := (SI.same Y3.out (fun i i1 i2 => hf1.other i (Or.inr i1))); have X4 : Aside _ := (SI.same Y4.out (fun i i1 i2 => hf1.other i (Or.inr (by omega)))); have hzf : d.size = sz := by rw [hf1.size, he1.size]; exact hz
                    go_wp2_with (first | (go_at_call 150; refine (IH.out mid t b d _ (by omega) (by omega) hb (by omega) hzf X3.out X4.out S1.out).mono ?_; rintro e w' ⟨rfl, g1, hg1, hS1⟩; have S4 : Aside _ := hS1; clear hS1))
                    first | go_end0 | go_ret2 | go_ret | ((try simp only [Exit.inBlock, Exit.then]); refine bodyPost_ret (results_none rfl _ _ _) rfl ?_)
                    exact ⟨rfl, g1, Mg.halves O HLR.out.1 HLR.out.2 (by omega) (by omega) (by omega) (by omega) (show mid + m = s + t by omega) CUT.out.1 CUT.out.2 he1 hf1 hg1, S4.out⟩)
                · by_cases j3 : mid < t
                  · have u3 : (mid : Int) < (t : Int) := by omega
                    have v3 : ¬ (t : Int) < (b : Int) := by omega
                    try (exfalso; omega)
                    all_goals (
                      have he1 : IsRot d s m t d := IsRot.none (by omega) (by omega) k1
                      obtain ⟨y1, y2, y3, y4⟩ := rot_SI HLR.out.1 HLR.out.2 (by omega) (by omega) (by omega) (by omega) (show mid + m = s + t by omega) he1; have Y1 : Aside _ := y1; have Y2 : Aside _ := y2; have Y3 : Aside _ := y3; have Y4 : Aside _ := y4; clear y1 y2 y3 y4
                      have hf1 : Mg (ltOf cf) d a mid d := Mg.refl O (SI.join Y1.out Y2.out (by omega))
                      have X3 : Aside _ := (SI.same Y3.out (fun i i1 i2 => hf1.other i (Or.inr i1))); have X4 : Aside _ := (SI.same Y4.out (fun i i1 i2 => hf1.other i (Or.inr (by omega)))); have hzf : d.size = sz := by rw [hf1.size, he1.size]; exact hz
                      go_wp2
                      first | go_end0 | go_ret2 | go_ret | ((try simp only [Exit.inBlock, Exit.then]); refine bodyPost_ret (results_none rfl _ _ _) rfl ?_)
                      have hg1 : Mg (ltOf cf) d mid b d := Mg.refl O (SI.join X3.out X4.out (by omega))
                      exact ⟨rfl, d, Mg.halves O HLR.out.1 HLR.out.2 (by omega) (by omega) (by omega) (by omega) (show mid + m = s + t by omega) CUT.out.1 CUT.out.2 he1 hf1 hg1, S1.out⟩)
                  · have u3 : ¬ (mid : Int) < (t : Int) := by omega
                    try (exfalso; omega)
                    all_goals (
                      have he1 : IsRot d s m t d := IsRot.none (by omega) (by omega) k1
                      obtain ⟨y1, y2, y3, y4⟩ := rot_SI HLR.out.1 HLR.out.2 (by omega) (by omega) (by omega) (by omega) (show mid + m = s + t by omega) he1; have Y1 : Aside _ := y1; have Y2 : Aside _ := y2; have Y3 : Aside _ := y3; have Y4 : Aside _ := y4; clear y1 y2 y3 y4
                      have hf1 : Mg (ltOf cf) d a mid d := Mg.refl O (SI.join Y1.out Y2.out (by omega))
                      have X3 : Aside _ := (SI.same Y3.out (fun i i1 i2 => hf1.other i (Or.inr i1))); have X4 : Aside _ := (SI.same Y4.out (fun i i1 i2 => hf1.other i (Or.inr (by omega)))); have hzf : d.size = sz := by rw [hf1.size, he1.size]; exact hz
                      go_wp2
                      first | go_end0 | go_ret2 | go_ret | ((try simp only [Exit.inBlock, Exit.then]); refine bodyPost_ret (results_none rfl _ _ _) rfl ?_)
                      have hg1 : Mg (ltOf cf) d mid b d := Mg.refl O (SI.join X3.out X4.out (by omega))
                      exact ⟨rfl, d, Mg.halves O HLR.out.1 HLR.out.2 (by omega) (by omega) (by omega) (by omega) (show mid + m = s + t by omega) CUT.out.1 CUT.out.2 he1 hf1 hg1, S1.out⟩)
          · have u1 : ¬ (s : Int) < (m : Int) := by omega
            by_cases k2 : a < s ∧ s < mid
            · have u2 : (a : Int) < (s : Int) := by omega
              have v2 : (s : Int) < (mid : Int) := by omega
              by_cases k3 : mid < t ∧ t < b
              · have u3 : (mid : Int) < (t : Int) := by omega
                have v3 : (t : Int) < (b : Int) := by omega
                try (exfalso; omega)
                all_goals (
                  have he1 : IsRot d s m t d := IsRot.none (by omega) (by omega) k1
                  obtain ⟨y1, y2, y3, y4⟩ := rot_SI HLR.out.1 HLR.out.2 (by omega) (by omega) (by omega) (by omega) (show mid + m = s + t by omega) he1; have Y1 : Aside _ := y1; have Y2 : Aside _ := y2; have Y3 : Aside _ := y3; have Y4 : Aside _ := y4; clear y1 y2 y3 y4
                  go_wp2_with (first | (have q_ := mark; clear q_; go_at_call 150; refine (IH.out mid t b f1 _ (by omega) (by omega) hb (by omega) hzf X3.out X4.out S3.out).mono ?_; rintro e w' ⟨rfl, g1, hg1, hS1⟩; have S4 : Aside _ := hS1; clear hS1) | (go_at_call 150; refine (IH.out a s mid d _ (by omega) (by omega) (by omega) (by omega) (by rw [he1.size]; exact hz) Y1.out Y2.out S1.out).mono ?_; rintro e w' ⟨rfl, f1, hf1, hS1⟩; have S3 : Aside _ := hS1; clear hS1; have mark : True := trivial; have X3 : Aside _ := (SI.same Y3.out (fun i i1 i2 => hf1.other i (Or.inr i1))); have X4 : Aside _ := (SI.same Y4.out (fun i i1 i2 => hf1.other i (Or.inr (by omega)))); have hzf : f1.size = sz := by rw [hf1.size, he1.size]; exact hz))
                  first | go_end0 | go_ret2 | go_ret | ((try simp only [Exit.inBlock, Exit.then]); refine bodyPost_ret (results_none rfl _ _ _) rfl ?_)
                  exact ⟨rfl, g1, Mg.halves O HLR.out.1 HLR.out.2 (by omega) (by omega) (by omega) (by omega) (show mid + m = s + t by omega) CUT.out.1 CUT.out.2 he1 hf1 hg1, S4.out⟩)
              · by_cases j3 : mid < t
                · have u3 : (mid : Int) < (t : Int) := by omega
                  have v3 : ¬ (t : Int) < (b : Int) := by omega
                  try (exfalso; omega)
                  all_goals (
                    have he1 : IsRot d s m t d := IsRot.none (by omega) (by omega) k1
                    obtain ⟨y1, y2, y3, y4⟩ := rot_SI HLR.out.1 HLR.out.2 (by omega) (by omega) (by omega) (by omega) (show mid + m = s + t by omega) he1; have Y1 : Aside _ := y1; have Y2 : Aside _ := y2; have Y3 : Aside _ := y3; have Y4 : Aside _ := y4; clear y1 y2 y3 y4
                    go_wp2_with (first | (go_at_call 150; refine (IH.out a s mid d _ (by omega) (by omega) (by omega) (by omega) (by rw [he1.size]; exact hz) Y1.out Y2.out S1.out).mono ?_; rintro e w' ⟨rfl, f1, hf1, hS1⟩; have S3 : Aside _ := hS1; clear hS1; have mark : True := trivial; have X3 : Aside _ := (SI.same Y3.out (fun i i1 i2 => hf1.other i (Or.inr i1))); have X4 : Aside _ := (SI.same Y4.out (fun i i1 i2 => hf1.other i (Or.inr (by omega)))); have hzf : f1.size = sz := by rw [hf1.size, he1.size]; exact hz))
                    first | go_end0 | go_ret2 | go_ret | ((try simp only [Exit.inBlock, Exit.then]); refine bodyPost_ret (results_none rfl _ _ _) rfl ?_)
                    have hg1 : Mg (ltOf cf) f1 mid b f1 := Mg.refl O (SI.join X3.out X4.out (by omega))
                    exact ⟨rfl, f1, Mg.halves O HLR.out.1 HLR.out.2 (by omega) (by omega) (by omega) (by omega) (show mid + m = s + t by omega) CUT.out.1 CUT.out.2 he1 hf1 hg1, S3.out⟩)
                · have u3 : ¬ (mid : Int) < (t : Int) := by omega
                  try (exfalso; omega)
                  all_goals (
                    have he1 : IsRot d s m t d := IsRot.none (by omega) (by omega) k1
                    obtain ⟨y1, y2, y3, y4⟩ := rot_SI HLR.out.1 HLR.out.2 (by omega) (by omega) (by omega) (by omega) (show mid + m = s + t by omega) he1; have Y1 : Aside _ := y1; have Y2 : Aside _ := y2; have Y3 : Aside _ := y3; have Y4 : Aside _ := y4; clear y1 y2 y3 y4
                    go_wp2_with (first | (go_at_call 150; refine (IH.out a s mid d _ (by omega) (by omega) (by omega) (by omega) (by rw [he1.size]; exact hz) Y1.out Y2.out S1.out).mono ?_; rintro e w' ⟨rfl, f1, hf1, hS1⟩; have S3 : Aside _ := hS1; clear hS1; have mark : True := trivial; have X3 : Aside _ := (SI.same Y3.out (fun i i1 i2 => hf1.other i (Or.inr i1))); have X4 : Aside _ := (SI.same Y4.out (fun i i1 i2 => hf1.other i (Or.inr (by omega)))); have hzf : f1.size = sz := by rw [hf1.size, he1.size]; exact hz))
                    first | go_end0 | go_ret2 | go_ret | ((try simp only [Exit.inBlock, Exit.then]); refine bodyPost_ret (results_none rfl _ _ _) rfl ?_)
                    have hg1 : Mg (ltOf cf) f1 mid b f1 := Mg.refl O (SI.join X3.out X4.out (by omega))
                    exact ⟨rfl, f1, Mg.halves O HLR.out.1 HLR.out.2 (by omega) (by omega) (by omega) (by omega) (show mid + m = s + t by omega) CUT.out.1 CUT.out.2 he1 hf1 hg1, S3.out⟩)
            · by_cases j2 : a < s
              · have u2 : (a : Int) < (s : Int) := by omega
                have v2 : ¬ (s : Int) < (mid : Int) := by omega
                by_cases k3 : mid < t ∧ t < b
                · have u3 : (mid : Int) < (t : Int) := by omega
                  have v3 : (t : Int) < (b : Int) := by omega
                  try (exfalso; omega)
                  all_goals (
                    have he1 : IsRot d s m t d := IsRot.none (by omega) (by omega) k1
                    obtain ⟨y1, y2, y3, y4⟩ := rot_SI HLR.out.1 HLR.out.2 (by omega) (by omega) (by omega) (by omega) (show mid + m = s + t by omega) he1; have Y1 : Aside _ := y1; have Y2 : Aside _ := y2; have Y3 : Aside _ := y3; have Y4 : Aside _ := y4; clear y1 y2 y3 y4
                    have hf1 : Mg (ltOf cf) d a mid d := Mg.refl O (SI.join Y1.out Y2.out (by omega))
                    have X3 : Aside _ := (SI.same Y3.out (fun i i1 i2 => hf1.other i (Or.inr i1))); have X4 : Aside _ := (SI.same Y4.out (fun i i1 i2 => hf1.other i (Or.inr (by omega)))); have hzf : d.size = sz := by rw [hf1.size, he1.size]; exact hz
                    go_wp2_with (first | (go_at_call 150; refine (IH.out mid t b d _ (by omega) (by omega) hb (by omega) hzf X3.out X4.out S1.out).mono ?_; rintro e w' ⟨rfl, g1, hg1, hS1⟩; have S4 : Aside _ := hS1; clear hS1))
                    first | go_end0 | go_ret2 | go_ret | ((try simp only [Exit.inBlock, Exit.then]); refine bodyPost_ret (results_none rfl _ _ _) rfl ?_)
                    exact ⟨rfl, g1, Mg.halves O HLR.out.1 HLR.out.2 (by omega) (by omega) (by omega) (by omega) (show mid + m = s + t by omega) CUT.out.1 CUT.out.2 he1 hf1 hg1, S4.out⟩)
                · by_cases j3 : mid < t
                  · have u3 : (mid : Int) < (t : Int) := by omega
                    have v3 : ¬ (t : Int) < (b : Int) := by omega
                    try (exfalso; omega)
                    all_goals (
                      have he1 : IsRot d s m t d := IsRot.none (by omega) (by omega) k1
                      obtain ⟨y1, y2, y3, y4⟩ := rot_SI HLR.out.1 HLR.out.2 (by omega) (by omega) (by omega) (by omega) (show mid + m = s + t by omega) he1; have Y1 : Aside _ := y1; have Y2 : Aside _ := y2; have Y3 : Aside _ := y3; have Y4 : Aside _ := y4; clear y1 y2 y3 y4
                      have hf1 : Mg (ltOf cf) d a mid d := Mg.refl O (SI.join Y1.out Y2.out (by omega))
                      have X3 : Aside _ := (SI.same Y3.out (fun i i1 i2 => hf1.other i (Or.inr i1))); have X4 : Aside _ := (SI.same Y4.out (fun i i1 i2 => hf1.other i (Or.inr (by omega)))); have hzf : d.size = sz := by rw [hf1.size, he1.size]; exact hz
                      go_wp2
                      first | go_end0 | go_ret2 | go_ret | ((try simp only [Exit.inBlock, Exit.then]); refine bodyPost_ret (results_none rfl _ _ _) rfl ?_)
                      have hg1 : Mg (ltOf cf) d mid b d := Mg.refl O (SI.join X3.out X4.out (by omega))
                      exact ⟨rfl, d, Mg.halves O HLR.out.1 HLR.out.2 (by omega) (by omega) (by omega) (by omega) (show mid + m = s + t by omega) CUT.out.1 CUT.out.2 he1 hf1 hg1, S1.out⟩)
                  · have u3 : ¬ (mid : Int) < (t : Int) := by omega
                    try (exfalso; omega)
                    all_goals (
                      have he1 : IsRot d s m t d := IsRot.none (by omega) (by omega) k1
                      obtain ⟨y1, y2, y3, y4⟩ := rot_SI HLR.out.1 HLR.out.2 (by omega) (by omega) (by omega) (by omega) (show mid + m = s + t by omega) he1; have Y1 : Aside _ := y1; have Y2 : Aside _ := y2; have Y3 : Aside _ := y3; have Y4 : Aside _ := y4; clear y1 y2 y3 y4
                      have hf1 : Mg (ltOf cf) d a mid d := Mg.refl O (SI.join Y1.out Y2.out (by omega))
                      have X3 : Aside _ := (SI.same Y3.out (fun i i1 i2 => hf1.other i (Or.inr i1))); have X4 : Aside _ := (SI.same Y4.out (fun i i1 i2 => hf1.other i (Or.inr (by omega)))); have hzf : d.size = sz := by rw [hf1.size, he1.size]; exact hz
                      go_wp2
                      first | go_end0 | go_ret2 | go_ret | ((try simp only [Exit.inBlock, Exit.then]); refine bodyPost_ret (results_none rfl _ _ _) rfl ?_)
                      have hg1 : Mg (ltOf cf) d mid b d := Mg.refl O (SI.join X3.out X4.out (by omega))
                      exact ⟨rfl, d, Mg.halves O HLR.out.1 HLR.out.2 (by omega) (by omega) (by omega) (by omega) (show mid + m = s + t by omega) CUT.out.1 CUT.out.2 he1 hf1 hg1, S1.out⟩)
              · have u2 : ¬ (a : Int) < (s : Int) := by omega
                by_cases k3 : mid < t ∧ t < b
                · have u3 : (mid : Int) < (t : Int) := by omega
                  have v3 : (t : Int) < (b : Int) := by omega
                  try (exfalso; omega)
                  all_goals (
                    have he1 : IsRot d s m t d := IsRot.none (by omega) (by omega) k1
                    obtain ⟨y1, y2, y3, y4⟩ := rot_SI HLR.out.1 HLR.out.2 (by omega) (by omega) (by omega) (by omega) (show mid + m = s + t by omega) he1; have Y1 : Aside _ := y1; have Y2 : Aside _ := y2; have Y3 : Aside _ := y3; have Y4 : Aside _ := y4; clear y1 y2 y3 y4
                    have hf1 : Mg (ltOf cf) d a mid d := Mg.refl O (SI.join Y1.out Y2.out (by omega))
                    have X3 : Aside _ := (SI.same Y3.out (fun i i1 i2 => hf1.other i (Or.inr i1))); have X4 : Aside _ := (SI.same Y4.out (fun i i1 i2 => hf1.other i (Or.inr (by omega)))); have hzf : d.size = sz := by rw [hf1.size, he1.size]; exact hz
                    go_wp2_with (first | (go_at_call 150; refine (IH.out mid t b d _ (by omega) (by omega) hb (by omega) hzf X3.out X4.out S1.out).mono ?_; rintro e w' ⟨rfl, g1, hg1, hS1⟩; have S4 : Aside _ := hS1; clear hS1))
                    first | go_end0 | go_ret2 | go_ret | ((try simp only [Exit.inBlock, Exit.then]); refine bodyPost_ret (results_none rfl _ _ _) rfl ?_)
                    exact ⟨rfl, g1, Mg.halves O HLR.out.1 HLR.out.2 (by omega) (by omega) (by omega) (by omega) (show mid + m = s + t by omega) CUT.out.1 CUT.out.2 he1 hf1 hg1, S4.out⟩)
                · by_cases j3 : mid < t
                  · have u3 : (mid : Int) < (t : Int) := by omega
                    have v3 : ¬ (t : Int) < (b : Int) := by omega
                    try (exfalso; omega)
                    all_goals (
                      have he1 : IsRot d s m t d := IsRot.none (by omega) (by omega) k1
                      obtain ⟨y1, y2, y3, y4⟩ := rot_SI HLR.out.1 HLR.out.2 (by omega) (by omega) (by omega) (by omega) (show mid + m = s + t by omega) he1; have Y1 : Aside _ := y1; have Y2 : Aside _ := y2; have Y3 : Aside _ := y3; have Y4 : Aside _ := y4; clear y1 y2 y3 y4
                      have hf1 : Mg (ltOf cf) d a mid d := Mg.refl O (SI.join Y1.out Y2.out (by omega))
                      have X3 : Aside _ := (SI.same Y3.out (fun i i1 i2 => hf1.other i (Or.inr i1))); have X4 : Aside _ := (SI.same Y4.out (fun i i1 i2 => hf1.other i (Or.inr (by omega)))); have hzf : d.size = sz := by rw [hf1.size, he1.size]; exact hz
                      go_wp2
                      first | go_end0 | go_ret2 | go_ret | ((try simp only [Exit.inBlock, Exit.then]); refine bodyPost_ret (results_none rfl _ _ _) rfl ?_)
                      have hg1 : Mg (ltOf cf) d mid b d := Mg.refl O (SI.join X3.out X4.out (by omega))
                      exact ⟨rfl, d, Mg.halves O HLR.out.1 HLR.out.2 (by omega) (by omega) (by omega) (by omega) (show mid + m = s + t by omega) CUT.out.1 CUT.out.2 he1 hf1 hg1, S1.out⟩)
                  · have u3 : ¬ (mid : Int) < (t : Int) := by omega
                    try (exfalso; omega)
                    all_goals (
                      have he1 : IsRot d s m t d := IsRot.none (by omega) (by omega) k1
                      obtain ⟨y1, y2, y3, y4⟩ := rot_SI HLR.out.1 HLR.out.2 (by omega) (by omega) (by omega) (by omega) (show mid + m = s + t by omega) he1; have Y1 : Aside _ := y1; have Y2 : Aside _ := y2; have Y3 : Aside _ := y3; have Y4 : Aside _ := y4; clear y1 y2 y3 y4
                      have hf1 : Mg (ltOf cf) d a mid d := Mg.refl O (SI.join Y1.out Y2.out (by omega))
                      have X3 : Aside _ := (SI.same Y3.out (fun i i1 i2 => hf1.other i (Or.inr i1))); have X4 : Aside _ := (SI.same Y4.out (fun i i1 i2 => hf1.other i (Or.inr (by omega)))); have hzf : d.size = sz := by rw [hf1.size, he1.size]; exact hz
                      go_wp2
                      first | go_end0 | go_ret2 | go_ret | ((try simp only [Exit.inBlock, Exit.then]); refine bodyPost_ret (results_none rfl _ _ _) rfl ?_)
                      have hg1 : Mg (ltOf cf) d mid b d := Mg.refl O (SI.join X3.out X4.out (by omega))
                      exact ⟨rfl, d, Mg.halves O HLR.out.1 HLR.out.2 (by omega) (by omega) (by omega) (by omega) (show mid + m = s + t by omega) CUT.out.1 CUT.out.2 he1 hf1 hg1, S1.out⟩)
  · skip
    have hbz : ¬ (mid : Int) < (m : Int) := by omega
    go_wp2
    go_loopg [20, 21] sz (fun kx s20 s21 wr => ∃ (s hi : Nat), s20 = .int .i64 s ∧ s21 = .int .i64 hi ∧ a ≤ s ∧ s ≤ hi ∧ hi ≤ m ∧ hi - s ≤ kx ∧ Aside (SW enc w0 blk off d wr) ∧ Hid ((∀ c, a ≤ c → c < s → ltOf cf d[p - c]! d[c]! = false) ∧ (∀ c, hi ≤ c → c < m → ltOf cf d[p - c]! d[c]! = true)))
    case atStart => exact ⟨a, m, rfl, rfl, Nat.le_refl _, by omega, Nat.le_refl _, by omega, S0, ⟨fun k h1 h2 => by omega, fun k h1 h2 => by omega⟩⟩
    case round =>
      clear S0
      (try clear rs)
      obtain ⟨s, hi, rfl, rfl, hsl, hlh, hhr, hkx, S1, HI⟩ := hrel
      by_cases hlt : s < hi
      · have hltz : (s : Int) < (hi : Int) := by omega
        obtain ⟨c, hc⟩ : ∃ h, h = (s + hi) / 2 := ⟨_, rfl⟩
        have hcz : ((s : Int) + (hi : Int)) / 2 = (c : Int) := by omega
        have hc1 : s ≤ c := by omega
        have hc2 : c < hi := by omega
        clear hc
        obtain ⟨q, hq⟩ : ∃ q, q = p - c := ⟨_, rfl⟩
        have rq : IntKind.i64.wrap ((p : Int) - (c : Int)) = (q : Int) := by rw [IntKind.wrap_i64]; omega
        have hq1 : q + c ≤ p := by omega
        have hq2 : p ≤ q + c := by omega
        clear hq
        cases hv : ltOf cf d[q]! d[c]! with
        | true =>
          go_wp2_with fail
          obtain ⟨iN10, hiN10⟩ : ∃ q_, q_ = q := ⟨_, rfl⟩
          have ei10 : ((q : Int)).toNat = iN10 := by omega
          have pi10 : (0 : Int) ≤ (q : Int) := by omega
          have bi10 : (q : Int) < (sz : Int) := by omega
          have ri10 : IntKind.i64.wrap ((q : Int)) = (q : Int) := by rw [IntKind.wrap_i64]; omega
          obtain ⟨jN10, hjN10⟩ : ∃ q_, q_ = c := ⟨_, rfl⟩
          have ej10 : ((c : Int)).toNat = jN10 := by omega
          have pj10 : (0 : Int) ≤ (c : Int) := by omega
          have bj10 : (c : Int) < (sz : Int) := by omega
          have rj10 : IntKind.i64.wrap ((c : Int)) = (c : Int) := by rw [IntKind.wrap_i64]; omega
          obtain ⟨x10, hx10⟩ : ∃ x, x = d[q]! := ⟨_, rfl⟩
          obtain ⟨y10, hy10⟩ : ∃ x, x = d[c]! := ⟨_, rfl⟩
          have l10a := S1.out.cl R (by omega) (q) (by omega)
          have l10b := S1.out.cl R (by omega) (c) (by omega)
          rw [← hx10, ← hiN10] at l10a
          rw [← hy10, ← hjN10] at l10b
          have hc10 := S1.out.cmp HC.out (by omega) x10 y10
          have hv10 : cf x10 y10 < 0 := by rw [hx10, hy10]; exact of_decide_eq_true hv
          have hd10 : decide (cf x10 y10 < 0) = true := decide_eq_true hv10
          clear hx10 hy10 hiN10 hjN10
          go_wp2_with fail
          go_quiet_grown (first | (go_at_fn g; refine Calls.grown_of (hc10 _ _)))
          have S2 : Aside (SW enc w0 blk off d (grow (wr.drewN nq) osq)) := S1.out.grown nq osq
          clear l10a l10b hc10 S1
          generalize grow (wr.drewN nq) osq = w2 at S2 ⊢
          clear nq osq
          clear ei10 ej10
          go_wp2
          go_roundg (c - s)
          case measure => omega
          case rel => exact ⟨s, c, rfl, rfl, hsl, hc1, by omega, Nat.le_refl _, S2, ⟨HI.out.1, fun c' h1 h2 => bs3 O HLR.out.1 HLR.out.2 (show a ≤ c by omega) h1 (by omega) (show p - c < b by omega) (by omega) (by rw [show p - c = q by omega]; exact hv)⟩⟩
        | false =>
          go_wp2_with fail
          obtain ⟨iN11, hiN11⟩ : ∃ q_, q_ = q := ⟨_, rfl⟩
          have ei11 : ((q : Int)).toNat = iN11 := by omega
          have pi11 : (0 : Int) ≤ (q : Int) := by omega
          have bi11 : (q : Int) < (sz : Int) := by omega
          have ri11 : IntKind.i64.wrap ((q : Int)) = (q : Int) := by rw [IntKind.wrap_i64]; omega
          obtain ⟨jN11, hjN11⟩ : ∃ q_, q_ = c := ⟨_, rfl⟩
          have ej11 : ((c : Int)).toNat = jN11 := by omega
          have pj11 : (0 : Int) ≤ (c : Int) := by omega
          have bj11 : (c : Int) < (sz : Int) := by omega
          have rj11 : IntKind.i64.wrap ((c : Int)) = (c : Int) := by rw [IntKind.wrap_i64]; omega
          obtain ⟨x11, hx11⟩ : ∃ x, x = d[q]! := ⟨_, rfl⟩
          obtain ⟨y11, hy11⟩ : ∃ x, x = d[c]! := ⟨_, rfl⟩
          have l11a := S1.out.cl R (by omega) (q) (by omega)
          have l11b := S1.out.cl R (by omega) (c) (by omega)
          rw [← hx11, ← hiN11] at l11a
          rw [← hy11, ← hjN11] at l11b
          have hc11 := S1.out.cmp HC.out (by omega) x11 y11
          have hv11 : ¬ cf x11 y11 < 0 := by rw [hx11, hy11]; exact of_decide_eq_false hv
          have hd11 : decide (cf x11 y11 < 0) = false := decide_eq_false hv11
          clear hx11 hy11 hiN11 hjN11
          go_wp2_with fail
          go_quiet_grown (first | (go_at_fn g; refine Calls.grown_of (hc11 _ _)))
          have S2 : Aside (SW enc w0 blk off d (grow (wr.drewN nq) osq)) := S1.out.grown nq osq
          clear l11a l11b hc11 S1
          generalize grow (wr.drewN nq) osq = w2 at S2 ⊢
          clear nq osq
          clear ei11 ej11
          go_wp2
          go_roundg (hi - (c + 1))
          case measure => omega
          case rel => exact ⟨c + 1, hi, by go_num, rfl, by omega, by omega, hhr, Nat.le_refl _, S2, ⟨fun c' h1 h2 => bs3_dn O HLR.out.1 HLR.out.2 (show a ≤ c' by omega) (show c' ≤ c by omega) (by omega) (show p - c' < b by omega) (show m ≤ p - c by omega) (by rw [show p - c = q by omega]; exact hv), HI.out.2⟩⟩
      · have hltz : ¬ (s : Int) < (hi : Int) := by omega
        obtain rfl : s = hi := by omega
        obtain ⟨t, ht⟩ : ∃ t, t = N - s := ⟨_, rfl⟩
        have rt : IntKind.i64.wrap ((N : Int) - (s : Int)) = (t : Int) := by rw [IntKind.wrap_i64]; omega
        have ht1 : t + s ≤ N := by omega
        have ht2 : N ≤ t + s := by omega
        clear ht
        have CUT : Aside ((s < m → m < t → ltOf cf d[t - 1]! d[s]! = true) ∧ (a < s → t < b → ltOf cf d[t]! d[s - 1]! = false)) :=
          ⟨fun h1 h2 => by have := HI.out.2 s (Nat.le_refl _) (by omega); rwa [show p - s = t - 1 by omega] at this, fun h1 h2 => by have := HI.out.1 (s - 1) (by omega) (by omega); rwa [show p - (s - 1) = t by omega] at this⟩
        have z1 : s ≤ m := by omega
        have z2 : m ≤ t := by omega
        have z3 : t ≤ b := by omega
        have z4 : a ≤ s := by omega
        have z5 : mid + m ≤ s + t := by omega
        have z5b : s + t ≤ mid + m := by omega
        have z6 : a ≤ mid := by omega
        have z7 : mid < b := by omega
        have z8 : a < mid := by omega
        have z9 : s ≤ mid := by omega
        have z10 : mid ≤ t := by omega
        clear HI hsl hlh hhr hkx
        by_cases k1 : s < m ∧ m < t
        · have u1 : (s : Int) < (m : Int) := by omega
          have v1 : (m : Int) < (t : Int) := by omega
          by_cases k2 : a < s ∧ s < mid
          · have u2 : (a : Int) < (s : Int) := by omega
            have v2 : (s : Int) < (mid : Int) := by omega
            by_cases k3 : mid < t ∧ t < b
            · have u3 : (mid : Int) < (t : Int) := by omega
              have v3 : (t : Int) < (b : Int) := by omega
              try (exfalso; omega)
              all_goals (
                go_wp2_with (first | (go_at_call 156; refine (rotate L enc g cb blk off cap d0 w0 sz s m t d _ R hs hz S1.out (by omega) (by omega) (by omega) (by omega)).mono ?_; rintro e w' ⟨rfl, e1, he1, hS1⟩; have S2 : Aside _ := hS1; clear hS1; obtain ⟨y1, y2, y3, y4⟩ := rot_SI HLR.out.1 HLR.out.2 (by omega) (by omega) (by omega) (by omega) (show mid + m = s + t by omega) he1; have Y1 : Aside _ := y1; have Y2 : Aside _ := y2; have Y3 : Aside _ := y3; have Y4 : Aside _ := y4; clear y1 y2 y3 y4) | (have q_ := mark; clear q_; go_at_call 150; refine (IH.out mid t b f1 _ (by omega) (by omega) hb (by omega) hzf X3.out X4.out S3.out).mono ?_; rintro e w' ⟨rfl, g1, hg1, hS1⟩; have S4 : Aside _ := hS1; clear hS1) | (go_at_call 150; refine (IH.out a s mid e1 _ (by omega) (by omega) (by omega) (by omega) (by rw [he1.size]; exact hz) Y1.out Y2.out S2.out).mono ?_; rintro e w' ⟨rfl, f1, hf1, hS1⟩; have S3 : Aside _ := hS1; clear hS1; have mark : True := trivial; have X3 : Aside _ := (SI.same Y3.out (fun i i1 i2 => hf1.other i (Or.inr i1))); have X4 : Aside _ := (SI.same Y4.out (fun i i1 i2 => hf1.other i (Or.inr (by omega)))); have hzf : f1.size = sz := by rw [hf1.size, he1.size]; exact hz))
                first | go_end0 | go_ret2 | go_ret | ((try simp only [Exit.inBlock, Exit.then]); refine bodyPost_ret (results_none rfl _ _ _) rfl ?_)
                exact ⟨rfl, g1, Mg.halves O HLR.out.1 HLR.out.2 (by omega) (by omega) (by omega) (by omega) (show mid + m = s + t by omega) CUT.out.1 CUT.out.2 he1 hf1 hg1, S4.out⟩)
            · by_cases j3 : mid < t
              · have u3 : (mid : Int) < (t : Int) := by omega
                have v3 : ¬ (t : Int) < (b : Int) := by omega
                try (exfalso; omega)
                all_goals (
                  go_wp2_with (first | (go_at_call 156; refine (rotate L enc g cb blk off cap d0 w0 sz s m t d _ R hs hz S1.out (by omega) (by omega) (by omega) (by omega)).mono ?_; rintro e w' ⟨rfl, e1, he1, hS1⟩; have S2 : Aside _ := hS1; clear hS1; obtain ⟨y1, y2, y3, y4⟩ := rot_SI HLR.out.1 HLR.out.2 (by omega) (by omega) (by omega) (by omega) (show mid + m = s + t by omega) he1; have Y1 : Aside _ := y1; have Y2 : Aside _ := y2; have Y3 : Aside _ := y3; have Y4 : Aside _ := y4; clear y1 y2 y3 y4) | (go_at_call 150; refine (IH.out a s mid e1 _ (by omega) (by omega) (by omega) (by omega) (by rw [he1.size]; exact hz) Y1.out Y2.out S2.out).mono ?_; rintro e w' ⟨rfl, f1, hf1, hS1⟩; have S3 : Aside _ := hS1; clear hS1; have mark : True := trivial; have X3 : Aside _ := (SI.same Y3.out (fun i i1 i2 => hf1.other i (Or.inr i1))); have X4 : Aside _ := (SI.same Y4.out (fun i i1 i2 => hf1.other i (Or.inr (by omega)))); have hzf : f1.size = sz := by rw [hf1.size, he1.size]; exact hz))
                  first | go_end0 | go_ret2 | go_ret | ((try simp only [Exit.inBlock, Exit.then]); refine bodyPost_ret (results_none rfl _ _ _) rfl ?_)
                  have hg1 : Mg (ltOf cf) f1 mid b f1 := Mg.refl O (SI.join X3.out X4.out (by omega))
                  exact ⟨rfl, f1, Mg.halves O HLR.out.1 HLR.out.2 (by omega) (by omega) (by omega) (by omega) (show mid + m = s + t by omega) CUT.out.1 CUT.out.2 he1 hf1 hg1, S3.out⟩)
              · have u3 : ¬ (mid : Int) < (t : Int) := by omega
                try (exfalso; omega)
                all_goals (
                  go_wp2_with (first | (go_at_call 156; refine (rotate L enc g cb blk off cap d0 w0 sz s m t d _ R hs hz S1.out (by omega) (by omega) (by omega) (by omega)).mono ?_; rintro e w' ⟨rfl, e1, he1, hS1⟩; have S2 : Aside _ := hS1; clear hS1; obtain ⟨y1, y2, y3, y4⟩ := rot_SI HLR.out.1 HLR.out.2 (by omega) (by omega) (by omega) (by omega) (show mid + m = s + t by omega) he1; have Y1 : Aside _ := y1; have Y2 : Aside _ := y2; have Y3 : Aside _ := y3; have Y4 : Aside _ := y4; clear y1 y2 y3 y4) | (go_at_call 150; refine (IH.out a s mid e1 _ (by omega) (by omega) (by omega) (by omega) (by rw [he1.size]; exact hz) Y1.out Y2.out S2.out).mono ?_; rintro e w' ⟨rfl, f1, hf1, hS1⟩; have S3 : Aside _ := hS1; clear hS1; have mark : True := trivial; have X3 : Aside _ := (SI.same Y3.out (fun i i1 i2 => hf1.other i (Or.inr i1))); have X4 : Aside _ := (SI.same Y4.out (fun i i1 i2 => hf1.other i (Or.inr (by omega)))); have hzf : f1.size = sz := by rw [hf1.size, he1.size]; exact hz))
                  first | go_end0 | go_ret2 | go_ret | ((try simp only [Exit.inBlock, Exit.then]); refine bodyPost_ret (results_none rfl _ _ _) rfl ?_)
                  have hg1 : Mg (ltOf cf) f1 mid b f1 := Mg.refl O (SI.join X3.out X4.out (by omega))
                  exact ⟨rfl, f1, Mg.halves O HLR.out.1 HLR.out.2 (by omega) (by omega) (by omega) (by omega) (show mid + m = s + t by omega) CUT.out.1 CUT.out.2 he1 hf1 hg1, S3.out⟩)
          · by_cases j2 : a < s
            · have u2 : (a : Int) < (s : Int) := by omega
              have v2 : ¬ (s : Int) < (mid : Int) := by omega
              by_cases k3 : mid < t ∧ t < b
              · have u3 : (mid : Int) < (t : Int) := by omega
                have v3 : (t : Int) < (b : Int) := by omega
                try (exfalso; omega)
                all_goals (
                  go_wp2_with (first | (go_at_call 156; refine (rotate L enc g cb blk off cap d0 w0 sz s m t d _ R hs hz S1.out (by omega) (by omega) (by omega) (by omega)).mono ?_; rintro e w' ⟨rfl, e1, he1, hS1⟩; have S2 : Aside _ := hS1; clear hS1; obtain ⟨y1, y2, y3, y4⟩ := rot_SI HLR.out.1 HLR.out.2 (by omega) (by omega) (by omega) (by omega) (show mid + m = s + t by omega) he1; have Y1 : Aside _ := y1; have Y2 : Aside _ := y2; have Y3 : Aside _ := y3; have Y4 : Aside _ := y4; clear y1 y2 y3 y4; have hf1 : Mg (ltOf cf) e1 a mid e1 := Mg.refl O (SI.join Y1.out Y2.out (by omega)); have X3 : Aside _ := (SI.same Y3.out (fun i i1 i2 => hf1.other i (Or.inr i1))); have X4 : Aside _ := (SI.same Y4.out (fun i i1 i2 => hf1.other i (Or.inr (by omega)))); have hzf : e1.size = sz := by rw [hf1.size, he1.size]; exact hz) | (go_at_call 150; refine (IH.out mid t b e1 _ (by omega) (by omega) hb (by omega) hzf X3.out X4.out S2.out).mono ?_; rintro e w' ⟨rfl, g1, hg1, hS1⟩; have S4 : Aside _ := hS1; clear hS1))
                  first | go_end0 | go_ret2 | go_ret | ((try simp only [Exit.inBlock, Exit.then]); refine bodyPost_ret (results_none rfl _ _ _) rfl ?_)
                  exact ⟨rfl, g1, Mg.halves O HLR.out.1 HLR.out.2 (by omega) (by omega) (by omega) (by omega) (show mid + m = s + t by omega) CUT.out.1 CUT.out.2 he1 hf1 hg1, S4.out⟩)
              · by_cases j3 : mid < t
                · have u3 : (mid : Int) < (t : Int) := by omega
                  have v3 : ¬ (t : Int) < (b : Int) := by omega
                  try (exfalso; omega)
                  all_goals (
                    go_wp2_with (first | (go_at_call 156; refine (rotate L enc g cb blk off cap d0 w0 sz s m t d _ R hs hz S1.out (by omega) (by omega) (by omega) (by omega)).mono ?_; rintro e w' ⟨rfl, e1, he1, hS1⟩; have S2 : Aside _ := hS1; clear hS1; obtain ⟨y1, y2, y3, y4⟩ := rot_SI HLR.out.1 HLR.out.2 (by omega) (by omega) (by omega) (by omega) (show mid + m = s + t by omega) he1; have Y1 : Aside _ := y1; have Y2 : Aside _ := y2; have Y3 : Aside _ := y3; have Y4 : Aside _ := y4; clear y1 y2 y3 y4; have hf1 : Mg (ltOf cf) e1 a mid e1 := Mg.refl O (SI.join Y1.out Y2.out (by omega)); have X3 : Aside _ := (SI.same Y3.out (fun i i1 i2 => hf1.other i (Or.inr i1))); have X4 : Aside _ := (SI.same Y4.out (fun i i1 i2 => hf1.other i (Or.inr (by omega)))); have hzf : e1.size = sz := by rw [hf1.size, he1.size]; exact hz))
                    first | go_end0 | go_ret2 | go_ret | ((try simp only [Exit.inBlock, Exit.then]); refine bodyPost_ret (results_none rfl _ _ _) rfl ?_)
                    have hg1 : Mg (ltOf cf) e1 mid b e1 := Mg.refl O (SI.join X3.out X4.out (by omega))
                    exact ⟨rfl, e1, Mg.halves O HLR.out.1 HLR.out.2 (by omega) (by omega) (by omega) (by omega) (show mid + m = s + t by omega) CUT.out.1 CUT.out.2 he1 hf1 hg1, S2.out⟩)
                · have u3 : ¬ (mid : Int) < (t : Int) := by omega
                  try (exfalso; omega)
                  all_goals (
                    go_wp2_with (first | (go_at_call 156; refine (rotate L enc g cb blk off cap d0 w0 sz s m t d _ R hs hz S1.out (by omega) (by omega) (by omega) (by omega)).mono ?_; rintro e w' ⟨rfl, e1, he1, hS1⟩; have S2 : Aside _ := hS1; clear hS1; obtain ⟨y1, y2, y3, y4⟩ := rot_SI HLR.out.1 HLR.out.2 (by omega) (by omega) (by omega) (by omega) (show mid + m = s + t by omega) he1; have Y1 : Aside _ := y1; have Y2 : Aside _ := y2; have Y3 : Aside _ := y3; have Y4 : Aside _ := y4; clear y1 y2 y3 y4; have hf1 : Mg (ltOf cf) e1 a mid e1 := Mg.refl O (SI.join Y1.out Y2.out (by omega)); have X3 : Aside _ := (SI.same Y3.out (fun i i1 i2 => hf1.other i (Or.inr i1))); have X4 : Aside _ := (SI.same Y4.out (fun i i1 i2 => hf1.other i (Or.inr (by omega)))); have hzf : e1.size = sz := by rw [hf1.size, he1.size]; exact hz))
                    first | go_end0 | go_ret2 | go_ret | ((try simp only [Exit.inBlock, Exit.then]); refine bodyPost_ret (results_none rfl _ _ _) rfl ?_)
                    have hg1 : Mg (ltOf cf) e1 mid b e1 := Mg.refl O (SI.join X3.out X4.out (by omega))
                    exact ⟨rfl, e1, Mg.halves O HLR.out.1 HLR.out.2 (by omega) (by omega) (by omega) (by omega) (show mid + m = s + t by omega) CUT.out.1 CUT.out.2 he1 hf1 hg1, S2.out⟩)
            · have u2 : ¬ (a : Int) < (s : Int) := by omega
              by_cases k3 : mid < t ∧ t < b
              · have u3 : (mid : Int) < (t : Int) := by omega
                have v3 : (t : Int) < (b : Int) := by omega
                try (exfalso; omega)
                all_goals (
                  go_wp2_with (first | (go_at_call 156; refine (rotate L enc g cb blk off cap d0 w0 sz s m t d _ R hs hz S1.out (by omega) (by omega) (by omega) (by omega)).mono ?_; rintro e w' ⟨rfl, e1, he1, hS1⟩; have S2 : Aside _ := hS1; clear hS1; obtain ⟨y1, y2, y3, y4⟩ := rot_SI HLR.out.1 HLR.out.2 (by omega) (by omega) (by omega) (by omega) (show mid + m = s + t by omega) he1; have Y1 : Aside _ := y1; have Y2 : Aside _ := y2; have Y3 : Aside _ := y3; have Y4 : Aside _ := y4; clear y1 y2 y3 y4; have hf1 : Mg (ltOf cf) e1 a mid e1 := Mg.refl O (SI.join Y1.out Y2.out (by omega)); have X3 : Aside _ := (SI.same Y3.out (fun i i1 i2 => hf1.other i (Or.inr i1))); have X4 : Aside _ := (SI.same Y4.out (fun i i1 i2 => hf1.other i (Or.inr (by omega)))); have hzf : e1.size = sz := by rw [hf1.size, he1.size]; exact hz) | (go_at_call 150; refine (IH.out mid t b e1 _ (by omega) (by omega) hb (by omega) hzf X3.out X4.out S2.out).mono ?_; rintro e w' ⟨rfl, g1, hg1, hS1⟩; have S4 : Aside _ := hS1; clear hS1))
                  first | go_end0 | go_ret2 | go_ret | ((try simp only [Exit.inBlock, Exit.then]); refine bodyPost_ret (results_none rfl _ _ _) rfl ?_)
                  exact ⟨rfl, g1, Mg.halves O HLR.out.1 HLR.out.2 (by omega) (by omega) (by omega) (by omega) (show mid + m = s + t by omega) CUT.out.1 CUT.out.2 he1 hf1 hg1, S4.out⟩)
              · by_cases j3 : mid < t
                · have u3 : (mid : Int) < (t : Int) := by omega
                  have v3 : ¬ (t : Int) < (b : Int) := by omega
                  try (exfalso; omega)
                  all_goals (
                    go_wp2_with (first | (go_at_call 156; refine (rotate L enc g cb blk off cap d0 w0 sz s m t d _ R hs hz S1.out (by omega) (by omega) (by omega) (by omega)).mono ?_; rintro e w' ⟨rfl, e1, he1, hS1⟩; have S2 : Aside _ := hS1; clear hS1; obtain ⟨y1, y2, y3, y4⟩ := rot_SI HLR.out.1 HLR.out.2 (by omega) (by omega) (by omega) (by omega) (show mid + m = s + t by omega) he1; have Y1 : Aside _ := y1; have Y2 : Aside _ := y2; have Y3 : Aside _ := y3; have Y4 : Aside _ := y4; clear y1 y2 y3 y4; have hf1 : Mg (ltOf cf) e1 a mid e1 := Mg.refl O (SI.join Y1.out Y2.out (by omega)); have X3 : Aside _ := (SI.same Y3.out (fun i i1 i2 => hf1.other i (Or.inr i1))); have X4 : Aside _ := (SI.same Y4.out (fun i i1 i2 => hf1.other i (Or.inr (by omega)))); have hzf : e1.size = sz := by rw [hf1.size, he1.size]; exact hz))
                    first | go_end0 | go_ret2 | go_ret | ((try simp only [Exit.inBlock, Exit.then]); refine bodyPost_ret (results_none rfl _ _ _) rfl ?_)
                    have hg1 : Mg (ltOf cf) e1 mid b e1 := Mg.refl O (SI.join X3.out X4.out (by omega))
                    exact ⟨rfl, e1, Mg.halves O HLR.out.1 HLR.out.2 (by omega) (by omega) (by omega) (by omega) (show mid + m = s + t by omega) CUT.out.1 CUT.out.2 he1 hf1 hg1, S2.out⟩)
                · have u3 : ¬ (mid : Int) < (t : Int) := by omega
                  try (exfalso; omega)
                  all_goals (
                    go_wp2_with (first | (go_at_call 156; refine (rotate L enc g cb blk off cap d0 w0 sz s m t d _ R hs hz S1.out (by omega) (by omega) (by omega) (by omega)).mono ?_; rintro e w' ⟨rfl, e1, he1, hS1⟩; have S2 : Aside _ := hS1; clear hS1; obtain ⟨y1, y2, y3, y4⟩ := rot_SI HLR.out.1 HLR.out.2 (by omega) (by omega) (by omega) (by omega) (show mid + m = s + t by omega) he1; have Y1 : Aside _ := y1; have Y2 : Aside _ := y2; have Y3 : Aside _ := y3; have Y4 : Aside _ := y4; clear y1 y2 y3 y4; have hf1 : Mg (ltOf cf) e1 a mid e1 := Mg.refl O (SI.join Y1.out Y2.out (by omega)); have X3 : Aside _ := (SI.same Y3.out (fun i i1 i2 => hf1.other i (Or.inr i1))); have X4 : Aside _ := (SI.same Y4.out (fun i i1 i2 => hf1.other i (Or.inr (by omega)))); have hzf : e1.size = sz := by rw [hf1.size, he1.size]; exact hz))
                    first | go_end0 | go_ret2 | go_ret | ((try simp only [Exit.inBlock, Exit.then]); refine bodyPost_ret (results_none rfl _ _ _) rfl ?_)
                    have hg1 : Mg (ltOf cf) e1 mid b e1 := Mg.refl O (SI.join X3.out X4.out (by omega))
                    exact ⟨rfl, e1, Mg.halves O HLR.out.1 HLR.out.2 (by omega) (by omega) (by omega) (by omega) (show mid + m = s + t by omega) CUT.out.1 CUT.out.2 he1 hf1 hg1, S2.out⟩)
        · by_cases j1 : s < m
          · have u1 : (s : Int) < (m : Int) := by omega
            have v1 : ¬ (m : Int) < (t : Int) := by omega
            by_cases k2 : a < s ∧ s < mid
            · have u2 : (a : Int) < (s : Int) := by omega
              have v2 : (s : Int) < (mid : Int) := by omega
              by_cases k3 : mid < t ∧ t < b
              · have u3 : (mid : Int) < (t : Int) := by omega
                have v3 : (t : Int) < (b : Int) := by omega
                try (exfalso; omega)
                all_goals (
                  have he1 : IsRot d s m t d := IsRot.none (by omega) (by omega) k1
                  obtain ⟨y1, y2, y3, y4⟩ := rot_SI HLR.out.1 HLR.out.2 (by omega) (by omega) (by omega) (by omega) (show mid + m = s + t by omega) he1; have Y1 : Aside _ := y1; have Y2 : Aside _ := y2; have Y3 : Aside _ := y3; have Y4 : Aside _ := y4; clear y1 y2 y3 y4
                  go_wp2_with (first | (have q_ := mark; clear q_; go_at_call 150; refine (IH.out mid t b f1 _ (by omega) (by omega) hb (by omega) hzf X3.out X4.out S3.out).mono ?_; rintro e w' ⟨rfl, g1, hg1, hS1⟩; have S4 : Aside _ := hS1; clear hS1) | (go_at_call 150; refine (IH.out a s mid d _ (by omega) (by omega) (by omega) (by omega) (by rw [he1.size]; exact hz) Y1.out Y2.out S1.out).mono ?_; rintro e w' ⟨rfl, f1, hf1, hS1⟩; have S3 : Aside _ := hS1; clear hS1; have mark : True := trivial; have X3 : Aside _ := (SI.same Y3.out (fun i i1 i2 => hf1.other i (Or.inr i1))); have X4 : Aside _ := (SI.same Y4.out (fun i i1 i2 => hf1.other i (Or.inr (by omega)))); have hzf : f1.size = sz := by rw [hf1.size, he1.size]; exact hz))
                  first | go_end0 | go_ret2 | go_ret | ((try simp only [Exit.inBlock, Exit.then]); refine bodyPost_ret (results_none rfl _ _ _) rfl ?_)
                  exact ⟨rfl, g1, Mg.halves O HLR.out.1 HLR.out.2 (by omega) (by omega) (by omega) (by omega) (show mid + m = s + t by omega) CUT.out.1 CUT.out.2 he1 hf1 hg1, S4.out⟩)
              · by_cases j3 : mid < t
                · have u3 : (mid : Int) < (t : Int) := by omega
                  have v3 : ¬ (t : Int) < (b : Int) := by omega
                  try (exfalso; omega)
                  all_goals (
                    have he1 : IsRot d s m t d := IsRot.none (by omega) (by omega) k1
                    obtain ⟨y1, y2, y3, y4⟩ := rot_SI HLR.out.1 HLR.out.2 (by omega) (by omega) (by omega) (by omega) (show mid + m = s + t by omega) he1; have Y1 : Aside _ := y1; have Y2 : Aside _ := y2; have Y3 : Aside _ := y3; have Y4 : Aside _ := y4; clear y1 y2 y3 y4
                    go_wp2_with (first | (go_at_call 150; refine (IH.out a s mid d _ (by omega) (by omega) (by omega) (by omega) (by rw [he1.size]; exact hz) Y1.out Y2.out S1.out).mono ?_; rintro e w' ⟨rfl, f1, hf1, hS1⟩; have S3 : Aside _ := hS1; clear hS1; have mark : True := trivial; have X3 : Aside _ := (SI.same Y3.out (fun i i1 i2 => hf1.other i (Or.inr i1))); have X4 : Aside _ := (SI.same Y4.out (fun i i1 i2 => hf1.other i (Or.inr (by omega)))); have hzf : f1.size = sz := by rw [hf1.size, he1.size]; exact hz))
                    first | go_end0 | go_ret2 | go_ret | ((try simp only [Exit.inBlock, Exit.then]); refine bodyPost_ret (results_none rfl _ _ _) rfl ?_)
                    have hg1 : Mg (ltOf cf) f1 mid b f1 := Mg.refl O (SI.join X3.out X4.out (by omega))
                    exact ⟨rfl, f1, Mg.halves O HLR.out.1 HLR.out.2 (by omega) (by omega) (by omega) (by omega) (show mid + m = s + t by omega) CUT.out.1 CUT.out.2 he1 hf1 hg1, S3.out⟩)
                · have u3 : ¬ (mid : Int) < (t : Int) := by omega
                  try (exfalso; omega)
                  all_goals (
                    have he1 : IsRot d s m t d := IsRot.none (by omega) (by omega) k1
                    obtain ⟨y1, y2, y3, y4⟩ := rot_SI HLR.out.1 HLR.out.2 (by omega) (by omega) (by omega) (by omega) (show mid + m = s + t by omega) he1; have Y1 : Aside _ := y1; have Y2 : Aside _ := y2; have Y3 : Aside _ := y3; have Y4 : Aside _ := y4; clear y1 y2 y3 y4
                    go_wp2_with (first | (go_at_call 150; refine (IH.out a s mid d _ (by omega) (by omega) (by omega) (by omega) (by rw [he1.size]; exact hz) Y1.out Y2.out S1.out).mono ?_; rintro e w' ⟨rfl, f1, hf1, hS1⟩; have S3 : Aside _ := hS1; clear hS1; have mark : True := trivial; have X3 : Aside _ := (SI.same Y3.out (fun i i1 i2 => hf1.other i (Or.inr i1))); have X4 : Aside _ := (SI.same Y4.out (fun i i1 i2 => hf1.other i (Or.inr (by omega)))); have hzf : f1.size = sz := by rw [hf1.size, he1.size]; exact hz))
                    first | go_end0 | go_ret2 | go_ret | ((try simp only [Exit.inBlock, Exit.then]); refine bodyPost_ret (results_none rfl _ _ _) rfl ?_)
                    have hg1 : Mg (ltOf cf) f1 mid b f1 := Mg.refl O (SI.join X3.out X4.out (by omega))
                    exact ⟨rfl, f1, Mg.halves O HLR.out.1 HLR.out.2 (by omega) (by omega) (by omega) (by omega) (show mid + m = s + t by omega) CUT.out.1 CUT.out.2 he1 hf1 hg1, S3.out⟩)
            · by_cases j2 : a < s
              · have u2 : (a : Int) < (s : Int) := by omega
                have v2 : ¬ (s : Int) < (mid : Int) := by omega
                by_cases k3 : mid < t ∧ t < b
                · have u3 : (mid : Int) < (t : Int) := by omega
                  have v3 : (t : Int) < (b : Int) := by omega
                  try (exfalso; omega)
                  all_goals (
                    have he1 : IsRot d s m t d := IsRot.none (by omega) (by omega) k1
                    obtain ⟨y1, y2, y3, y4⟩ := rot_SI HLR.out.1 HLR.out.2 (by omega) (by omega) (by omega) (by omega) (show mid + m = s + t by omega) he1; have Y1 : Aside _ := y1; have Y2 : Aside _ := y2; have Y3 : Aside _ := y3; have Y4 : Aside _ := y4; clear y1 y2 y3 y4
                    have hf1 : Mg (ltOf cf) d a mid d := Mg.refl O (SI.join Y1.out Y2.out (by omega))
                    have X3 : Aside _ := (SI.same Y3.out (fun i i1 i2 => hf1.other i (Or.inr i1))); have X4 : Aside _ := (SI.same Y4.out (fun i i1 i2 => hf1.other i (Or.inr (by omega)))); have hzf : d.size = sz := by rw [hf1.size, he1.size]; exact hz
                    go_wp2_with (first | (go_at_call 150; refine (IH.out mid t b d _ (by omega) (by omega) hb (by omega) hzf X3.out X4.out S1.out).mono ?_; rintro e w' ⟨rfl, g1, hg1, hS1⟩; have S4 : Aside _ := hS1; clear hS1))
                    first | go_end0 | go_ret2 | go_ret | ((try simp only [Exit.inBlock, Exit.then]); refine bodyPost_ret (results_none rfl _ _ _) rfl ?_)
                    exact ⟨rfl, g1, Mg.halves O HLR.out.1 HLR.out.2 (by omega) (by omega) (by omega) (by omega) (show mid + m = s + t by omega) CUT.out.1 CUT.out.2 he1 hf1 hg1, S4.out⟩)
                · by_cases j3 : mid < t
                  · have u3 : (mid : Int) < (t : Int) := by omega
                    have v3 : ¬ (t : Int) < (b : Int) := by omega
                    try (exfalso; omega)
                    all_goals (
                      have he1 : IsRot d s m t d := IsRot.none (by omega) (by omega) k1
                      obtain ⟨y1, y2, y3, y4⟩ := rot_SI HLR.out.1 HLR.out.2 (by omega) (by omega) (by omega) (by omega) (show mid + m = s + t by omega) he1; have Y1 : Aside _ := y1; have Y2 : Aside _ := y2; have Y3 : Aside _ := y3; have Y4 : Aside _ := y4; clear y1 y2 y3 y4
                      have hf1 : Mg (ltOf cf) d a mid d := Mg.refl O (SI.join Y1.out Y2.out (by omega))
                      have X3 : Aside _ := (SI.same Y3.out (fun i i1 i2 => hf1.other i (Or.inr i1))); have X4 : Aside _ := (SI.same Y4.out (fun i i1 i2 => hf1.other i (Or.inr (by omega)))); have hzf : d.size = sz := by rw [hf1.size, he1.size]; exact hz
                      go_wp2
                      first | go_end0 | go_ret2 | go_ret | ((try simp only [Exit.inBlock, Exit.then]); refine bodyPost_ret (results_none rfl _ _ _) rfl ?_)
                      have hg1 : Mg (ltOf cf) d mid b d := Mg.refl O (SI.join X3.out X4.out (by omega))
                      exact ⟨rfl, d, Mg.halves O HLR.out.1 HLR.out.2 (by omega) (by omega) (by omega) (by omega) (show mid + m = s + t by omega) CUT.out.1 CUT.out.2 he1 hf1 hg1, S1.out⟩)
                  · have u3 : ¬ (mid : Int) < (t : Int) := by omega
                    try (exfalso; omega)
                    all_goals (
                      have he1 : IsRot d s m t d := IsRot.none (by omega) (by omega) k1
                      obtain ⟨y1, y2, y3, y4⟩ := rot_SI HLR.out.1 HLR.out.2 (by omega) (by omega) (by omega) (by omega) (show mid + m = s + t by omega) he1; have Y1 : Aside _ := y1; have Y2 : Aside _ := y2; have Y3 : Aside _ := y3; have Y4 : Aside _ := y4; clear y1 y2 y3 y4
                      have hf1 : Mg (ltOf cf) d a mid d := Mg.refl O (SI.join Y1.out Y2.out (by omega))
                      have X3 : Aside _ := (SI.same Y3.out (fun i i1 i2 => hf1.other i (Or.inr i1))); have X4 : Aside _ := (SI.same Y4.out (fun i i1 i2 => hf1.other i (Or.inr (by omega)))); have hzf : d.size = sz := by rw [hf1.size, he1.size]; exact hz
                      go_wp2
                      first | go_end0 | go_ret2 | go_ret | ((try simp only [Exit.inBlock, Exit.then]); refine bodyPost_ret (results_none rfl _ _ _) rfl ?_)
                      have hg1 : Mg (ltOf cf) d mid b d := Mg.refl O (SI.join X3.out X4.out (by omega))
                      exact ⟨rfl, d, Mg.halves O HLR.out.1 HLR.out.2 (by omega) (by omega) (by omega) (by omega) (show mid + m = s + t by omega) CUT.out.1 CUT.out.2 he1 hf1 hg1, S1.out⟩)
              · have u2 : ¬ (a : Int) < (s : Int) := by omega
                by_cases k3 : mid < t ∧ t < b
                · have u3 : (mid : Int) < (t : Int) := by omega
                  have v3 : (t : Int) < (b : Int) := by omega
                  try (exfalso; omega)
                  all_goals (
                    have he1 : IsRot d s m t d := IsRot.none (by omega) (by omega) k1
                    obtain ⟨y1, y2, y3, y4⟩ := rot_SI HLR.out.1 HLR.out.2 (by omega) (by omega) (by omega) (by omega) (show mid + m = s + t by omega) he1; have Y1 : Aside _ := y1; have Y2 : Aside _ := y2; have Y3 : Aside _ := y3; have Y4 : Aside _ := y4; clear y1 y2 y3 y4
                    have hf1 : Mg (ltOf cf) d a mid d := Mg.refl O (SI.join Y1.out Y2.out (by omega))
                    have X3 : Aside _ := (SI.same Y3.out (fun i i1 i2 => hf1.other i (Or.inr i1))); have X4 : Aside _ := (SI.same Y4.out (fun i i1 i2 => hf1.other i (Or.inr (by omega)))); have hzf : d.size = sz := by rw [hf1.size, he1.size]; exact hz
                    go_wp2_with (first | (go_at_call 150; refine (IH.out mid t b d _ (by omega) (by omega) hb (by omega) hzf X3.out X4.out S1.out).mono ?_; rintro e w' ⟨rfl, g1, hg1, hS1⟩; have S4 : Aside _ := hS1; clear hS1))
                    first | go_end0 | go_ret2 | go_ret | ((try simp only [Exit.inBlock, Exit.then]); refine bodyPost_ret (results_none rfl _ _ _) rfl ?_)
                    exact ⟨rfl, g1, Mg.halves O HLR.out.1 HLR.out.2 (by omega) (by omega) (by omega) (by omega) (show mid + m = s + t by omega) CUT.out.1 CUT.out.2 he1 hf1 hg1, S4.out⟩)
                · by_cases j3 : mid < t
                  · have u3 : (mid : Int) < (t : Int) := by omega
                    have v3 : ¬ (t : Int) < (b : Int) := by omega
                    try (exfalso; omega)
                    all_goals (
                      have he1 : IsRot d s m t d := IsRot.none (by omega) (by omega) k1
                      obtain ⟨y1, y2, y3, y4⟩ := rot_SI HLR.out.1 HLR.out.2 (by omega) (by omega) (by omega) (by omega) (show mid + m = s + t by omega) he1; have Y1 : Aside _ := y1; have Y2 : Aside _ := y2; have Y3 : Aside _ := y3; have Y4 : Aside _ := y4; clear y1 y2 y3 y4
                      have hf1 : Mg (ltOf cf) d a mid d := Mg.refl O (SI.join Y1.out Y2.out (by omega))
                      have X3 : Aside _ := (SI.same Y3.out (fun i i1 i2 => hf1.other i (Or.inr i1))); have X4 : Aside _ := (SI.same Y4.out (fun i i1 i2 => hf1.other i (Or.inr (by omega)))); have hzf : d.size = sz := by rw [hf1.size, he1.size]; exact hz
                      go_wp2
                      first | go_end0 | go_ret2 | go_ret | ((try simp only [Exit.inBlock, Exit.then]); refine bodyPost_ret (results_none rfl _ _ _) rfl ?_)
                      have hg1 : Mg (ltOf cf) d mid b d := Mg.refl O (SI.join X3.out X4.out (by omega))
                      exact ⟨rfl, d, Mg.halves O HLR.out.1 HLR.out.2 (by omega) (by omega) (by omega) (by omega) (show mid + m = s + t by omega) CUT.out.1 CUT.out.2 he1 hf1 hg1, S1.out⟩)
                  · have u3 : ¬ (mid : Int) < (t : Int) := by omega
                    try (exfalso; omega)
                    all_goals (
                      have he1 : IsRot d s m t d := IsRot.none (by omega) (by omega) k1
                      obtain ⟨y1, y2, y3, y4⟩ := rot_SI HLR.out.1 HLR.out.2 (by omega) (by omega) (by omega) (by omega) (show mid + m = s + t by omega) he1; have Y1 : Aside _ := y1; have Y2 : Aside _ := y2; have Y3 : Aside _ := y3; have Y4 : Aside _ := y4; clear y1 y2 y3 y4
                      have hf1 : Mg (ltOf cf) d a mid d := Mg.refl O (SI.join Y1.out Y2.out (by omega))
                      have X3 : Aside _ := (SI.same Y3.out (fun i i1 i2 => hf1.other i (Or.inr i1))); have X4 : Aside _ := (SI.same Y4.out (fun i i1 i2 => hf1.other i (Or.inr (by omega)))); have hzf : d.size = sz := by rw [hf1.size, he1.size]; exact hz
                      go_wp2
                      first | go_end0 | go_ret2 | go_ret | ((try simp only [Exit.inBlock, Exit.then]); refine bodyPost_ret (results_none rfl _ _ _) rfl ?_)
                      have hg1 : Mg (ltOf cf) d mid b d := Mg.refl O (SI.join X3.out X4.out (by omega))
                      exact ⟨rfl, d, Mg.halves O HLR.out.1 HLR.out.2 (by omega) (by omega) (by omega) (by omega) (show mid + m = s + t by omega) CUT.out.1 CUT.out.2 he1 hf1 hg1, S1.out⟩)
          · have u1 : ¬ (s : Int) < (m : Int) := by omega
            by_cases k2 : a < s ∧ s < mid
            · have u2 : (a : Int) < (s : Int) := by omega
              have v2 : (s : Int) < (mid : Int) := by omega
              by_cases k3 : mid < t ∧ t < b
              · have u3 : (mid : Int) < (t : Int) := by omega
                have v3 : (t : Int) < (b : Int) := by omega
                try (exfalso; omega)
                all_goals (
                  have he1 : IsRot d s m t d := IsRot.none (by omega) (by omega) k1
                  obtain ⟨y1, y2, y3, y4⟩ := rot_SI HLR.out.1 HLR.out.2 (by omega) (by omega) (by omega) (by omega) (show mid + m = s + t by omega) he1; have Y1 : Aside _ := y1; have Y2 : Aside _ := y2; have Y3 : Aside _ := y3; have Y4 : Aside _ := y4; clear y1 y2 y3 y4
                  go_wp2_with (first | (have q_ := mark; clear q_; go_at_call 150; refine (IH.out mid t b f1 _ (by omega) (by omega) hb (by omega) hzf X3.out X4.out S3.out).mono ?_; rintro e w' ⟨rfl, g1, hg1, hS1⟩; have S4 : Aside _ := hS1; clear hS1) | (go_at_call 150; refine (IH.out a s mid d _ (by omega) (by omega) (by omega) (by omega) (by rw [he1.size]; exact hz) Y1.out Y2.out S1.out).mono ?_; rintro e w' ⟨rfl, f1, hf1, hS1⟩; have S3 : Aside _ := hS1; clear hS1; have mark : True := trivial; have X3 : Aside _ := (SI.same Y3.out (fun i i1 i2 => hf1.other i (Or.inr i1))); have X4 : Aside _ := (SI.same Y4.out (fun i i1 i2 => hf1.other i (Or.inr (by omega)))); have hzf : f1.size = sz := by rw [hf1.size, he1.size]; exact hz))
                  first | go_end0 | go_ret2 | go_ret | ((try simp only [Exit.inBlock, Exit.then]); refine bodyPost_ret (results_none rfl _ _ _) rfl ?_)
                  exact ⟨rfl, g1, Mg.halves O HLR.out.1 HLR.out.2 (by omega) (by omega) (by omega) (by omega) (show mid + m = s + t by omega) CUT.out.1 CUT.out.2 he1 hf1 hg1, S4.out⟩)
              · by_cases j3 : mid < t
                · have u3 : (mid : Int) < (t : Int) := by omega
                  have v3 : ¬ (t : Int) < (b : Int) := by omega
                  try (exfalso; omega)
                  all_goals (
                    have he1 : IsRot d s m t d := IsRot.none (by omega) (by omega) k1
                    obtain ⟨y1, y2, y3, y4⟩ := rot_SI HLR.out.1 HLR.out.2 (by omega) (by omega) (by omega) (by omega) (show mid + m = s + t by omega) he1; have Y1 : Aside _ := y1; have Y2 : Aside _ := y2; have Y3 : Aside _ := y3; have Y4 : Aside _ := y4; clear y1 y2 y3 y4
                    go_wp2_with (first | (go_at_call 150; refine (IH.out a s mid d _ (by omega) (by omega) (by omega) (by omega) (by rw [he1.size]; exact hz) Y1.out Y2.out S1.out).mono ?_; rintro e w' ⟨rfl, f1, hf1, hS1⟩; have S3 : Aside _ := hS1; clear hS1; have mark : True := trivial; have X3 : Aside _ := (SI.same Y3.out (fun i i1 i2 => hf1.other i (Or.inr i1))); have X4 : Aside _ := (SI.same Y4.out (fun i i1 i2 => hf1.other i (Or.inr (by omega)))); have hzf : f1.size = sz := by rw [hf1.size, he1.size]; exact hz))
                    first | go_end0 | go_ret2 | go_ret | ((try simp only [Exit.inBlock, Exit.then]); refine bodyPost_ret (results_none rfl _ _ _) rfl ?_)
                    have hg1 : Mg (ltOf cf) f1 mid b f1 := Mg.refl O (SI.join X3.out X4.out (by omega))
                    exact ⟨rfl, f1, Mg.halves O HLR.out.1 HLR.out.2 (by omega) (by omega) (by omega) (by omega) (show mid + m = s + t by omega) CUT.out.1 CUT.out.2 he1 hf1 hg1, S3.out⟩)
                · have u3 : ¬ (mid : Int) < (t : Int) := by omega
                  try (exfalso; omega)
                  all_goals (
                    have he1 : IsRot d s m t d := IsRot.none (by omega) (by omega) k1
                    obtain ⟨y1, y2, y3, y4⟩ := rot_SI HLR.out.1 HLR.out.2 (by omega) (by omega) (by omega) (by omega) (show mid + m = s + t by omega) he1; have Y1 : Aside _ := y1; have Y2 : Aside _ := y2; have Y3 : Aside _ := y3; have Y4 : Aside _ := y4; clear y1 y2 y3 y4
                    go_wp2_with (first | (go_at_call 150; refine (IH.out a s mid d _ (by omega) (by omega) (by omega) (by omega) (by rw [he1.size]; exact hz) Y1.out Y2.out S1.out).mono ?_; rintro e w' ⟨rfl, f1, hf1, hS1⟩; have S3 : Aside _ := hS1; clear hS1; have mark : True := trivial; have X3 : Aside _ := (SI.same Y3.out (fun i i1 i2 => hf1.other i (Or.inr i1))); have X4 : Aside _ := (SI.same Y4.out (fun i i1 i2 => hf1.other i (Or.inr (by omega)))); have hzf : f1.size = sz := by rw [hf1.size, he1.size]; exact hz))
                    first | go_end0 | go_ret2 | go_ret | ((try simp only [Exit.inBlock, Exit.then]); refine bodyPost_ret (results_none rfl _ _ _) rfl ?_)
                    have hg1 : Mg (ltOf cf) f1 mid b f1 := Mg.refl O (SI.join X3.out X4.out (by omega))
                    exact ⟨rfl, f1, Mg.halves O HLR.out.1 HLR.out.2 (by omega) (by omega) (by omega) (by omega) (show mid + m = s + t by omega) CUT.out.1 CUT.out.2 he1 hf1 hg1, S3.out⟩)
            · by_cases j2 : a < s
              · have u2 : (a : Int) < (s : Int) := by omega
                have v2 : ¬ (s : Int) < (mid : Int) := by omega
                by_cases k3 : mid < t ∧ t < b
                · have u3 : (mid : Int) < (t : Int) := by omega
                  have v3 : (t : Int) < (b : Int) := by omega
                  try (exfalso; omega)
                  all_goals (
                    have he1 : IsRot d s m t d := IsRot.none (by omega) (by omega) k1
                    obtain ⟨y1, y2, y3, y4⟩ := rot_SI HLR.out.1 HLR.out.2 (by omega) (by omega) (by omega) (by omega) (show mid + m = s + t by omega) he1; have Y1 : Aside _ := y1; have Y2 : Aside _ := y2; have Y3 : Aside _ := y3; have Y4 : Aside _ := y4; clear y1 y2 y3 y4
                    have hf1 : Mg (ltOf cf) d a mid d := Mg.refl O (SI.join Y1.out Y2.out (by omega))
                    have X3 : Aside _ := (SI.same Y3.out (fun i i1 i2 => hf1.other i (Or.inr i1))); have X4 : Aside _ := (SI.same Y4.out (fun i i1 i2 => hf1.other i (Or.inr (by omega)))); have hzf : d.size = sz := by rw [hf1.size, he1.size]; exact hz
                    go_wp2_with (first | (go_at_call 150; refine (IH.out mid t b d _ (by omega) (by omega) hb (by omega) hzf X3.out X4.out S1.out).mono ?_; rintro e w' ⟨rfl, g1, hg1, hS1⟩; have S4 : Aside _ := hS1; clear hS1))
                    first | go_end0 | go_ret2 | go_ret | ((try simp only [Exit.inBlock, Exit.then]); refine bodyPost_ret (results_none rfl _ _ _) rfl ?_)
                    exact ⟨rfl, g1, Mg.halves O HLR.out.1 HLR.out.2 (by omega) (by omega) (by omega) (by omega) (show mid + m = s + t by omega) CUT.out.1 CUT.out.2 he1 hf1 hg1, S4.out⟩)
                · by_cases j3 : mid < t
                  · have u3 : (mid : Int) < (t : Int) := by omega
                    have v3 : ¬ (t : Int) < (b : Int) := by omega
                    try (exfalso; omega)
                    all_goals (
                      have he1 : IsRot d s m t d := IsRot.none (by omega) (by omega) k1
                      obtain ⟨y1, y2, y3, y4⟩ := rot_SI HLR.out.1 HLR.out.2 (by omega) (by omega) (by omega) (by omega) (show mid + m = s + t by omega) he1; have Y1 : Aside _ := y1; have Y2 : Aside _ := y2; have Y3 : Aside _ := y3; have Y4 : Aside _ := y4; clear y1 y2 y3 y4
                      have hf1 : Mg (ltOf cf) d a mid d := Mg.refl O (SI.join Y1.out Y2.out (by omega))
                      have X3 : Aside _ := (SI.same Y3.out (fun i i1 i2 => hf1.other i (Or.inr i1))); have X4 : Aside _ := (SI.same Y4.out (fun i i1 i2 => hf1.other i (Or.inr (by omega)))); have hzf : d.size = sz := by rw [hf1.size, he1.size]; exact hz
                      go_wp2
                      first | go_end0 | go_ret2 | go_ret | ((try simp only [Exit.inBlock, Exit.then]); refine bodyPost_ret (results_none rfl _ _ _) rfl ?_)
                      have hg1 : Mg (ltOf cf) d mid b d := Mg.refl O (SI.join X3.out X4.out (by omega))
                      exact ⟨rfl, d, Mg.halves O HLR.out.1 HLR.out.2 (by omega) (by omega) (by omega) (by omega) (show mid + m = s + t by omega) CUT.out.1 CUT.out.2 he1 hf1 hg1, S1.out⟩)
                  · have u3 : ¬ (mid : Int) < (t : Int) := by omega
                    try (exfalso; omega)
                    all_goals (
                      have he1 : IsRot d s m t d := IsRot.none (by omega) (by omega) k1
                      obtain ⟨y1, y2, y3, y4⟩ := rot_SI HLR.out.1 HLR.out.2 (by omega) (by omega) (by omega) (by omega) (show mid + m = s + t by omega) he1; have Y1 : Aside _ := y1; have Y2 : Aside _ := y2; have Y3 : Aside _ := y3; have Y4 : Aside _ := y4; clear y1 y2 y3 y4
                      have hf1 : Mg (ltOf cf) d a mid d := Mg.refl O (SI.join Y1.out Y2.out (by omega))
                      have X3 : Aside _ := (SI.same Y3.out (fun i i1 i2 => hf1.other i (Or.inr i1))); have X4 : Aside _ := (SI.same Y4.out (fun i i1 i2 => hf1.other i (Or.inr (by omega)))); have hzf : d.size = sz := by rw [hf1.size, he1.size]; exact hz
                      go_wp2
                      first | go_end0 | go_ret2 | go_ret | ((try simp only [Exit.inBlock, Exit.then]); refine bodyPost_ret (results_none rfl _ _ _) rfl ?_)
                      have hg1 : Mg (ltOf cf) d mid b d := Mg.refl O (SI.join X3.out X4.out (by omega))
                      exact ⟨rfl, d, Mg.halves O HLR.out.1 HLR.out.2 (by omega) (by omega) (by omega) (by omega) (show mid + m = s + t by omega) CUT.out.1 CUT.out.2 he1 hf1 hg1, S1.out⟩)
              · have u2 : ¬ (a : Int) < (s : Int) := by omega
                by_cases k3 : mid < t ∧ t < b
                · have u3 : (mid : Int) < (t : Int) := by omega
                  have v3 : (t : Int) < (b : Int) := by omega
                  try (exfalso; omega)
                  all_goals (
                    have he1 : IsRot d s m t d := IsRot.none (by omega) (by omega) k1
                    obtain ⟨y1, y2, y3, y4⟩ := rot_SI HLR.out.1 HLR.out.2 (by omega) (by omega) (by omega) (by omega) (show mid + m = s + t by omega) he1; have Y1 : Aside _ := y1; have Y2 : Aside _ := y2; have Y3 : Aside _ := y3; have Y4 : Aside _ := y4; clear y1 y2 y3 y4
                    have hf1 : Mg (ltOf cf) d a mid d := Mg.refl O (SI.join Y1.out Y2.out (by omega))
                    have X3 : Aside _ := (SI.same Y3.out (fun i i1 i2 => hf1.other i (Or.inr i1))); have X4 : Aside _ := (SI.same Y4.out (fun i i1 i2 => hf1.other i (Or.inr (by omega)))); have hzf : d.size = sz := by rw [hf1.size, he1.size]; exact hz
                    go_wp2_with (first | (go_at_call 150; refine (IH.out mid t b d _ (by omega) (by omega) hb (by omega) hzf X3.out X4.out S1.out).mono ?_; rintro e w' ⟨rfl, g1, hg1, hS1⟩; have S4 : Aside _ := hS1; clear hS1))
                    first | go_end0 | go_ret2 | go_ret | ((try simp only [Exit.inBlock, Exit.then]); refine bodyPost_ret (results_none rfl _ _ _) rfl ?_)
                    exact ⟨rfl, g1, Mg.halves O HLR.out.1 HLR.out.2 (by omega) (by omega) (by omega) (by omega) (show mid + m = s + t by omega) CUT.out.1 CUT.out.2 he1 hf1 hg1, S4.out⟩)
                · by_cases j3 : mid < t
                  · have u3 : (mid : Int) < (t : Int) := by omega
                    have v3 : ¬ (t : Int) < (b : Int) := by omega
                    try (exfalso; omega)
                    all_goals (
                      have he1 : IsRot d s m t d := IsRot.none (by omega) (by omega) k1
                      obtain ⟨y1, y2, y3, y4⟩ := rot_SI HLR.out.1 HLR.out.2 (by omega) (by omega) (by omega) (by omega) (show mid + m = s + t by omega) he1; have Y1 : Aside _ := y1; have Y2 : Aside _ := y2; have Y3 : Aside _ := y3; have Y4 : Aside _ := y4; clear y1 y2 y3 y4
                      have hf1 : Mg (ltOf cf) d a mid d := Mg.refl O (SI.join Y1.out Y2.out (by omega))
                      have X3 : Aside _ := (SI.same Y3.out (fun i i1 i2 => hf1.other i (Or.inr i1))); have X4 : Aside _ := (SI.same Y4.out (fun i i1 i2 => hf1.other i (Or.inr (by omega)))); have hzf : d.size = sz := by rw [hf1.size, he1.size]; exact hz
                      go_wp2
                      first | go_end0 | go_ret2 | go_ret | ((try simp only [Exit.inBlock, Exit.then]); refine bodyPost_ret (results_none rfl _ _ _) rfl ?_)
                      have hg1 : Mg (ltOf cf) d mid b d := Mg.refl O (SI.join X3.out X4.out (by omega))
                      exact ⟨rfl, d, Mg.halves O HLR.out.1 HLR.out.2 (by omega) (by omega) (by omega) (by omega) (show mid + m = s + t by omega) CUT.out.1 CUT.out.2 he1 hf1 hg1, S1.out⟩)
                  · have u3 : ¬ (mid : Int) < (t : Int) := by omega
                    try (exfalso; omega)
                    all_goals (
                      have he1 : IsRot d s m t d := IsRot.none (by omega) (by omega) k1
                      obtain ⟨y1, y2, y3, y4⟩ := rot_SI HLR.out.1 HLR.out.2 (by omega) (by omega) (by omega) (by omega) (show mid + m = s + t by omega) he1; have Y1 : Aside _ := y1; have Y2 : Aside _ := y2; have Y3 : Aside _ := y3; have Y4 : Aside _ := y4; clear y1 y2 y3 y4
                      have hf1 : Mg (ltOf cf) d a mid d := Mg.refl O (SI.join Y1.out Y2.out (by omega))
                      have X3 : Aside _ := (SI.same Y3.out (fun i i1 i2 => hf1.other i (Or.inr i1))); have X4 : Aside _ := (SI.same Y4.out (fun i i1 i2 => hf1.other i (Or.inr (by omega)))); have hzf : d.size = sz := by rw [hf1.size, he1.size]; exact hz
                      go_wp2
                      first | go_end0 | go_ret2 | go_ret | ((try simp only [Exit.inBlock, Exit.then]); refine bodyPost_ret (results_none rfl _ _ _) rfl ?_)
                      have hg1 : Mg (ltOf cf) d mid b d := Mg.refl O (SI.join X3.out X4.out (by omega))
                      exact ⟨rfl, d, Mg.halves O HLR.out.1 HLR.out.2 (by omega) (by omega) (by omega) (by omega) (show mid + m = s + t by omega) CUT.out.1 CUT.out.2 he1 hf1 hg1, S1.out⟩)
set_option maxHeartbeats 16000000 in
set_option maxRecDepth 1000000 in
theorem symMerge (L : Lay P) (enc : α → Value) (cf : α → α → Int) (O : SWO (ltOf cf)) (g : Nat) (cb : Array Value) (blk off cap : Nat) (d0 : Array α) (w0 : World) (sz : Nat)
    (R : Row1 enc w0 blk off d0) (eg : ∀ args w, (callFunc g args).run P w = .ok (.enter g args) w) (hcmp : CmpLays1 P g cb enc cf blk off d0.size w0) (hs : d0.size = sz) (hsz : sz < 1152921504606846976) : ∀ (n a m b : Nat) (d : Array α) (w : World), b - a ≤ n → a < m → m < b → b ≤ sz → d.size = sz → SI (ltOf cf) d a m → SI (ltOf cf) d m b → SW enc w0 blk off d w →
    Calls P 150 #[.slice (some ⟨blk, off, none⟩) sz cap, .int .i64 a, .int .i64 m, .int .i64 b, .func (.func g) #[] cb] w fun e w' => e = .returned (.tuple #[]) ∧ ∃ e', Mg (ltOf cf) d a b e' ∧ SW enc w0 blk off e' w' := by
  intro n
  induction n with
  | zero => intro a m b d w h h1 h2; omega
  | succ n ih =>
    intro a m b d w h h1 h2 h3 h4 h5 h6 h7
    by_cases e1 : m = a + 1
    · exact sym_first L enc cf O g cb blk off cap d0 w0 sz a m b d w R eg hcmp hs h4 h7 hsz e1 h2 h3 (by rw [← e1]; exact h6)
    · by_cases e2 : b = m + 1
      · exact sym_last L enc cf O g cb blk off cap d0 w0 sz a m b d w R eg hcmp hs h4 h7 hsz (by omega) e2 h3 h5
      · exact sym_gen L enc cf O g cb blk off cap d0 w0 sz a m b d w R eg hcmp hs h4 h7 hsz (by omega) (by omega) h3 h5 h6 (fun a' m' b' d' w' k1 k2 k3 k4 k5 k6 k7 k8 => ih a' m' b' d' w' (by omega) k1 k2 k3 k5 k6 k7 k8)
end Go.Proofs.Ytckaejgamfllfaa.Stab
end

section
namespace Go.Proofs.Ytckaejgamfllfaa.Stab
open Go.Shelf Go.RowKit Go.Lib Go.Sort
set_option linter.unusedVariables false
set_option linter.unusedSimpArgs false
variable {α : Type} [Inhabited α] {P : Program}
set_option maxHeartbeats 16000000 in
set_option maxRecDepth 1000000 in
theorem stable (L : Lay P) (enc : α → Value) (cf : α → α → Int) (O : SWO (ltOf cf)) (g : Nat) (cb : Array Value) (blk off cap : Nat) (d0 : Array α) (w0 : World) (sz : Nat) (d : Array α) (w : World)
    (R : Row1 enc w0 blk off d0) (eg : ∀ args w, (callFunc g args).run P w = .ok (.enter g args) w) (hcmp : CmpLays1 P g cb enc cf blk off d0.size w0) (hs : d0.size = sz) (hz : d.size = sz) (S : SW enc w0 blk off d w) (hsz : sz < 1152921504606846976) (hins : ∀ (a b : Nat) (d : Array α) (w : World), d.size = sz → SW enc w0 blk off d w → a ≤ b → b ≤ sz → Calls P 149 #[.slice (some ⟨blk, off, none⟩) sz cap, .int .i64 a, .int .i64 b, .func (.func g) #[] cb] w fun e w' => e = .returned (.tuple #[]) ∧ ∃ e', Mg (ltOf cf) d a b e' ∧ SW enc w0 blk off e' w') :
    Calls P 135 #[.slice (some ⟨blk, off, none⟩) sz cap, .int .i64 sz, .func (.func g) #[] cb] w fun e w' => e = .returned (.tuple #[]) ∧ ∃ e', e'.size = sz ∧ SI (ltOf cf) e' 0 sz ∧ SE (ltOf cf) (seg d 0 sz) (seg e' 0 sz) ∧ SW enc w0 blk off e' w' := by
  have mixed := L.mixed
  have hu3 := L.u3; have hr3 := run_underlying L.u3; have a3 := L.a3; have z3 := L.z3
  have hu4 := L.u4; have hr4 := run_underlying L.u4; have a4 := L.a4; have z4 := L.z4
  have hu62 := L.u62; have hr62 := run_underlying L.u62; have a62 := L.a62; have z62 := L.z62
  have hu112 := L.u112; have hr112 := run_underlying L.u112; have a112 := L.a112; have z112 := L.z112
  have hu116 := L.u116; have hr116 := run_underlying L.u116; have a116 := L.a116; have z116 := L.z116
  have ce158 := L.e158
  have ce156 := L.e156
  have ce150 := L.e150
  have ce135 := L.e135
  have ce149 := L.e149
  have hcl0 := R.hO.cells
  simp only [Value.cells] at hcl0
  have hst := R.hO.store P
  have S0 : Aside (SW enc w0 blk off d w) := S
  have HC : Aside _ := hcmp
  clear S hcmp
  have INS : Aside (∀ (a b : Nat) (d : Array α) (w : World), d.size = sz → SW enc w0 blk off d w → a ≤ b → b ≤ sz → Calls P 149 #[.slice (some ⟨blk, off, none⟩) sz cap, .int .i64 a, .int .i64 b, .func (.func g) #[] cb] w fun e w' => e = .returned (.tuple #[]) ∧ ∃ e', Mg (ltOf cf) d a b e' ∧ SW enc w0 blk off e' w') := hins
  clear hins
  go_enter L.f135, Try.ntmps135
  go_wp2
  go_loopg [7, 8] sz (fun kx s7 s8 wr => ∃ (a b c : Nat) (dk : Array α), s7 = .int .i64 a ∧ s8 = .int .i64 b ∧ b ≤ a + 20 ∧ a + 20 ≤ b ∧ a ≤ sz ∧ sz - a ≤ kx ∧ dk.size = sz ∧ Aside (SW enc w0 blk off dk wr) ∧ Hid (a = 20 * c ∧ (∀ k, k < c → SI (ltOf cf) dk (20 * k) (20 * k + 20)) ∧ SE (ltOf cf) (seg d 0 sz) (seg dk 0 sz)))
  case atStart => exact ⟨0, 20, 0, d, rfl, rfl, by omega, by omega, Nat.zero_le _, by omega, hz, S0, ⟨rfl, fun k h => by omega, SE.refl _⟩⟩
  case round =>
    clear S0
    obtain ⟨a, b, c, dk, rfl, rfl, hba, hba2, has, hkx, hds, S1, HI⟩ := hrel
    by_cases hlt : b ≤ sz
    · have hltz : (b : Int) ≤ (sz : Int) := by omega
      go_wp2_with (go_at_call 149; refine (INS.out (a) (b) dk _ hds S1.out (by omega) (by omega)).mono ?_; rintro e w' ⟨rfl, e1, he1, hS1⟩; have S2 : Aside _ := hS1; clear hS1)
      go_roundg (sz - b)
      case measure => omega
      case rel => exact ⟨b, b + 20, c + 1, e1, rfl, by go_num, Nat.le_refl _, Nat.le_refl _, hlt, Nat.le_refl _, by rw [he1.size]; exact hds, S2, ⟨by have := HI.out.1; omega, blocks_step HI.out.2.1 HI.out.1 (by rw [show a + 20 = b by omega]; exact he1), HI.out.2.2.trans (SE_whole he1 (by omega) hlt)⟩⟩
    · have hltz : ¬ (b : Int) ≤ (sz : Int) := by omega
      go_wp2_with (go_at_call 149; refine (INS.out (a) (sz) dk _ hds S1.out (by omega) (by omega)).mono ?_; rintro e w' ⟨rfl, e1, he1, hS1⟩; have S2 : Aside _ := hS1; clear hS1)
      have HB : Aside _ := (show BlkS (ltOf cf) 20 sz e1 ∧ SE (ltOf cf) (seg d 0 sz) (seg e1 0 sz) ∧ e1.size = sz from ⟨BlkS.first HI.out.2.1 HI.out.1 (by omega) he1 has, HI.out.2.2.trans (SE_whole he1 has (Nat.le_refl _)), by rw [he1.size]; exact hds⟩)
      clear HI S1 he1 hltz hlt
      go_loopg [6, 7, 8] sz (fun kx s6 s7 s8 wr => ∃ (bs : Nat) (dk : Array α), s6 = .int .i64 bs ∧ 0 < bs ∧ bs ≤ 2 * sz + 20 ∧ sz - bs ≤ kx ∧ dk.size = sz ∧ Aside (SW enc w0 blk off dk wr) ∧ Hid (BlkS (ltOf cf) bs sz dk ∧ SE (ltOf cf) (seg d 0 sz) (seg dk 0 sz)))
      case atStart => exact ⟨20, e1, rfl, by omega, by omega, by omega, HB.out.2.2, S2, ⟨HB.out.1, HB.out.2.1⟩⟩
      case round =>
        clear S2 HB
        clear hds hba hba2 has hkx
        obtain ⟨bs, dk, rfl, hb0, hb1, hkx, hds, S1, HI⟩ := hrel
        by_cases hlt : bs < sz
        · have hltz : (bs : Int) < (sz : Int) := by omega
          go_wp2
          go_loopg [7, 8] sz (fun kx s7 s8 wr => ∃ (a b c : Nat) (dj : Array α), s7 = .int .i64 a ∧ s8 = .int .i64 b ∧ b ≤ a + 2 * bs ∧ a + 2 * bs ≤ b ∧ a ≤ sz ∧ sz - a ≤ kx ∧ dj.size = sz ∧ Aside (SW enc w0 blk off dj wr) ∧ Hid (a = bs * (2 * c) ∧ HalfS (ltOf cf) bs sz c dj ∧ SE (ltOf cf) (seg d 0 sz) (seg dj 0 sz)))
          case atStart => exact ⟨0, 2 * bs, 0, dk, rfl, by go_num, by omega, by omega, Nat.zero_le _, by omega, hds, S1, ⟨by simp, HalfS.start HI.out.1, HI.out.2⟩⟩
          case round =>
            clear S1 HI hds
            obtain ⟨a, b, c, dj, rfl, rfl, hba, hba2, has, hkx2, hds, S1, HI⟩ := hrel
            by_cases hle : b ≤ sz
            · have hlez : (b : Int) ≤ (sz : Int) := by omega
              obtain ⟨m, hm⟩ : ∃ m, m = a + bs := ⟨_, rfl⟩
              have rm : IntKind.i64.wrap ((a : Int) + (bs : Int)) = (m : Int) := by rw [IntKind.wrap_i64]; omega
              have hm1 : m ≤ a + bs := by omega
              have hm2 : a + bs ≤ m := by omega
              have HM : Aside (m = a + bs) := hm
              clear hm
              have RD : Aside _ := (HalfS.ready HI.out.2.1 HI.out.1 (by omega))
              go_wp2_with (go_at_call 150; refine (symMerge L enc cf O g cb blk off cap d0 w0 sz R eg HC.out hs hsz sz (a) (m) (b) dj _ (by omega) (by omega) (by omega) (by omega) hds (by rw [HM.out]; exact RD.out.1) (by rw [HM.out, show b = a + 2 * bs by omega]; exact RD.out.2) S1.out).mono ?_; rintro e w' ⟨rfl, e1, he1, hS1⟩; have S2 : Aside _ := hS1; clear hS1)
              go_roundg (sz - b)
              case measure => omega
              case rel => exact ⟨b, b + 2 * bs, c + 1, e1, rfl, by go_num, Nat.le_refl _, Nat.le_refl _, hle, Nat.le_refl _, by rw [he1.size]; exact hds, S2, ⟨by rw [show b = a + 2 * bs by omega]; exact HalfS.next HI.out.1, HI.out.2.1.step HI.out.1 (by rw [show a + 2 * bs = b by omega]; exact he1), HI.out.2.2.trans (SE_whole he1 (by omega) hle)⟩⟩
            · have hlez : ¬ (b : Int) ≤ (sz : Int) := by omega
              obtain ⟨m, hm⟩ : ∃ m, m = a + bs := ⟨_, rfl⟩
              have rm : IntKind.i64.wrap ((a : Int) + (bs : Int)) = (m : Int) := by rw [IntKind.wrap_i64]; omega
              have hm1 : m ≤ a + bs := by omega
              have hm2 : a + bs ≤ m := by omega
              have HM : Aside (m = a + bs) := hm
              clear hm
              by_cases hms : m < sz
              · have hmsz : (m : Int) < (sz : Int) := by omega
                have RD : Aside _ := (HalfS.last HI.out.2.1 HI.out.1 (by omega) (by omega))
                go_wp2_with (go_at_call 150; refine (symMerge L enc cf O g cb blk off cap d0 w0 sz R eg HC.out hs hsz sz (a) (m) (sz) dj _ (by omega) (by omega) (by omega) (by omega) hds (by rw [HM.out]; exact RD.out.1) (by rw [HM.out]; exact RD.out.2) S1.out).mono ?_; rintro e w' ⟨rfl, e1, he1, hS1⟩; have S2 : Aside _ := hS1; clear hS1)
                go_roundg (sz - 2 * bs)
                case measure => omega
                case rel => exact ⟨2 * bs, e1, by go_num, by omega, by omega, Nat.le_refl _, by rw [he1.size]; exact hds, S2, ⟨HI.out.2.1.end_ HI.out.1 (by omega) he1.sorted (fun i hi => he1.other i (Or.inl hi)) has, HI.out.2.2.trans (SE_whole he1 has (Nat.le_refl _))⟩⟩
              · have hmsz : ¬ (m : Int) < (sz : Int) := by omega
                go_wp2
                go_roundg (sz - 2 * bs)
                case measure => omega
                case rel => exact ⟨2 * bs, dj, by go_num, by omega, by omega, Nat.le_refl _, hds, S1, ⟨HI.out.2.1.end_ HI.out.1 (by omega) (HI.out.2.1.rest HI.out.1 (by omega)) (fun i hi => rfl) has, HI.out.2.2⟩⟩
        · have hltz : ¬ (bs : Int) < (sz : Int) := by omega
          go_wp2
          go_end0
          exact ⟨rfl, dk, hds, HI.out.1.all (by omega), HI.out.2, S1.out⟩
set_option maxHeartbeats 16000000 in
set_option maxRecDepth 1000000 in
theorem sortStable (L : Lay P) (enc : α → Value) (cf : α → α → Int) (O : SWO (ltOf cf)) (g : Nat) (cb : Array Value) (blk off cap : Nat) (d0 : Array α) (w0 : World) (sz : Nat) (d : Array α) (w : World)
    (R : Row1 enc w0 blk off d0) (eg : ∀ args w, (callFunc g args).run P w = .ok (.enter g args) w) (hcmp : CmpLays1 P g cb enc cf blk off d0.size w0) (hs : d0.size = sz) (hz : d.size = sz) (S : SW enc w0 blk off d w) (hsz : sz < 1152921504606846976) (hins : ∀ (a b : Nat) (d : Array α) (w : World), d.size = sz → SW enc w0 blk off d w → a ≤ b → b ≤ sz → Calls P 149 #[.slice (some ⟨blk, off, none⟩) sz cap, .int .i64 a, .int .i64 b, .func (.func g) #[] cb] w fun e w' => e = .returned (.tuple #[]) ∧ ∃ e', Mg (ltOf cf) d a b e' ∧ SW enc w0 blk off e' w') :
    Calls P 111 #[.slice (some ⟨blk, off, none⟩) sz cap, .func (.func g) #[] cb] w fun e w' => e = .returned (.tuple #[]) ∧ ∃ e', e'.size = sz ∧ SI (ltOf cf) e' 0 sz ∧ SE (ltOf cf) (seg d 0 sz) (seg e' 0 sz) ∧ SW enc w0 blk off e' w' := by
  have mixed := L.mixed
  have hu3 := L.u3; have hr3 := run_underlying L.u3; have a3 := L.a3; have z3 := L.z3
  have hu4 := L.u4; have hr4 := run_underlying L.u4; have a4 := L.a4; have z4 := L.z4
  have hu62 := L.u62; have hr62 := run_underlying L.u62; have a62 := L.a62; have z62 := L.z62
  have hu112 := L.u112; have hr112 := run_underlying L.u112; have a112 := L.a112; have z112 := L.z112
  have hu116 := L.u116; have hr116 := run_underlying L.u116; have a116 := L.a116; have z116 := L.z116
  have ce158 := L.e158
  have ce156 := L.e156
  have ce150 := L.e150
  have ce135 := L.e135
  have ce149 := L.e149
  have hcl0 := R.hO.cells
  simp only [Value.cells] at hcl0
  have hst := R.hO.store P
  have S0 : Aside (SW enc w0 blk off d w) := S
  have HC : Aside _ := hcmp
  clear S hcmp
  have INS : Aside (∀ (a b : Nat) (d : Array α) (w : World), d.size = sz → SW enc w0 blk off d w → a ≤ b → b ≤ sz → Calls P 149 #[.slice (some ⟨blk, off, none⟩) sz cap, .int .i64 a, .int .i64 b, .func (.func g) #[] cb] w fun e w' => e = .returned (.tuple #[]) ∧ ∃ e', Mg (ltOf cf) d a b e' ∧ SW enc w0 blk off e' w') := hins
  clear hins
  go_enter L.f111, Try.ntmps111
  go_wp2_with (go_at_call 135; refine (stable L enc cf O g cb blk off cap d0 w0 sz d _ R eg HC.out hs hz S0.out hsz INS.out).mono ?_; rintro e w' ⟨rfl, e1, h1, h2, h3, h4⟩)
  first | go_end0 | go_ret2 | go_ret
  exact ⟨rfl, e1, h1, h2, h3, h4⟩
def lIns_ren : Go.Shelf.Ren := ⟨fun | 20 => 149 | n => n, fun | 24 => 3 | 22 => 62 | 3 => 3 | 25 => 112 | 4 => 4 | 0 => 0 | n => n, fun | n => n⟩
theorem lIns : Go.Proofs.SlLaysF.n20 Try.prog lIns_ren := {
  mixed := by kernel_rfl
  f20 := ⟨Try.f149.name, by decide, Try.func149.trans (congrArg some (by kernel_rfl))⟩
  t0 := Try.underlying0
  a0 := Try.isAgg0
  z0 := Try.sizeOf0
  v0 := Try.zeroValue0
  t3 := Try.underlying3
  a3 := Try.isAgg3
  z3 := Try.sizeOf3
  v3 := Try.zeroValue3
  t4 := Try.underlying4
  a4 := Try.isAgg4
  z4 := Try.sizeOf4
  v4 := Try.zeroValue4
  t22 := Try.underlying62
  a22 := Try.isAgg62
  z22 := Try.sizeOf62
  v22 := Try.zeroValue62
  a24 := Try.isAgg3
  z24 := Try.sizeOf3
  t25 := Try.underlying112
  a25 := Try.isAgg112
  z25 := Try.sizeOf112
  v25 := Try.zeroValue112 }
set_option maxHeartbeats 16000000 in
set_option maxRecDepth 1000000 in
theorem insA (enc : α → Value) (cf : α → α → Int) (O : SWO (ltOf cf)) (g : Nat) (cb : Array Value) (blk off cap : Nat) (d0 : Array α) (w0 : World) (sz : Nat) (eg : ∀ args w, (callFunc g args).run Try.prog w = .ok (.enter g args) w) (hcmp : CmpLays1 Try.prog g cb enc cf blk off d0.size w0) (R : Row1 enc w0 blk off d0) (hs : d0.size = sz) (hsz : sz < 1152921504606846976) (a b : Nat) (d : Array α) (w : World) (hz : d.size = sz) (S : SW enc w0 blk off d w) (hab : a ≤ b) (hb : b ≤ sz) :
    Calls Try.prog 149 #[.slice (some ⟨blk, off, none⟩) sz cap, .int .i64 a, .int .i64 b, .func (.func g) #[] cb] w fun e w' => e = .returned (.tuple #[]) ∧ ∃ e', Mg (ltOf cf) d a b e' ∧ SW enc w0 blk off e' w' := by
  subst hz
  have h := Any.insertionSortCmpFunc_s lIns enc cf g cb blk off cap a b d0 d w0 w eg hcmp R hs S hab hb (by omega)
  change Calls Try.prog 149 _ _ _ at h
  exact h.mono fun e w' ⟨he, hS⟩ => ⟨he, _, Mg.insertion O hab hb, hS⟩
theorem sortStableA (enc : α → Value) (cf : α → α → Int) (O : SWO (ltOf cf)) (g : Nat) (cb : Array Value) (blk off cap : Nat) (d0 : Array α) (w0 : World) (sz : Nat) (d : Array α) (w : World)
    (R : Row1 enc w0 blk off d0) (eg : ∀ args w, (callFunc g args).run Try.prog w = .ok (.enter g args) w) (hcmp : CmpLays1 Try.prog g cb enc cf blk off d0.size w0) (hs : d0.size = sz) (hz : d.size = sz) (S : SW enc w0 blk off d w) (hsz : sz < 1152921504606846976) :
    Calls Try.prog 111 #[.slice (some ⟨blk, off, none⟩) sz cap, .func (.func g) #[] cb] w fun e w' => e = .returned (.tuple #[]) ∧ ∃ e', e'.size = sz ∧ SI (ltOf cf) e' 0 sz ∧ SE (ltOf cf) (seg d 0 sz) (seg e' 0 sz) ∧ SW enc w0 blk off e' w' :=
  sortStable lay enc cf O g cb blk off cap d0 w0 sz d w R eg hcmp hs hz S hsz (insA enc cf O g cb blk off cap d0 w0 sz eg hcmp R hs hsz)
end Go.Proofs.Ytckaejgamfllfaa.Stab
end

section
namespace Go.Proofs.Ytckaejgamfllfaa.G
open Go.RowKit Go.Proofs.YtckaejgamfllfaaW.PrintWords Go.Proofs.YtckaejgamfllfaaW.PrintLast Go.Proofs.YtckaejgamfllfaaW.PrintMore
set_option linter.unusedVariables false
set_option linter.unusedSimpArgs false
def halfP (x y : Int) : Int := if 0 < y then 0 else if y = 0 then (if 0 < x then 0 else 1) else 1
set_option maxRecDepth 100000 in
theorem half.calls (x y : Int) (w : World) : Calls Try.prog 113 #[.agg #[.int .i64 x, .int .i64 y]] w fun e w' => e = .returned (.int .i64 (halfP x y)) ∧ w' = w.alloc (.cells #[.int .i64 x, .int .i64 y] 23) := by
  have hu23 := Try.underlying23
  unfold halfP
  by_cases h1 : 0 < y
  · have d1 : decide (0 < y) = true := decide_eq_true h1
    rw [if_pos h1]
    go_enter Try.func113, Try.ntmps113
    go_wp2
    go_ret
    exact ⟨rfl, rfl⟩
  · have d1 : decide (0 < y) = false := decide_eq_false h1
    rw [if_neg h1]
    by_cases h2 : y = 0
    · have d2 : (y == 0) = true := by simp [h2]
      rw [if_pos h2]
      clear h1 h2
      by_cases h3 : 0 < x
      · have d3 : decide (0 < x) = true := decide_eq_true h3
        rw [if_pos h3]
        go_enter Try.func113, Try.ntmps113
        go_wp2
        go_ret
        exact ⟨rfl, rfl⟩
      · have d3 : decide (0 < x) = false := decide_eq_false h3
        rw [if_neg h3]
        go_enter Try.func113, Try.ntmps113
        go_wp2
        go_ret
        exact ⟨rfl, rfl⟩
    · have d2 : (y == 0) = false := by simp [h2]
      rw [if_neg h2]
      go_enter Try.func113, Try.ntmps113
      go_wp2
      go_ret
      exact ⟨rfl, rfl⟩
def sgnP (n : Int) : Int := if n < 0 then -1 else if n > 0 then 1 else 0
set_option maxRecDepth 100000 in
theorem sign.calls (n : Int) (w : World) : Calls Try.prog 79 #[.int .i64 n] w fun e w' => e = .returned (.int .i64 (sgnP n)) ∧ w' = w := by
  unfold sgnP
  by_cases h1 : n < 0
  · have d1 : decide (n < 0) = true := decide_eq_true h1
    rw [if_pos h1]
    go_enter Try.func79, Try.ntmps79
    go_wp2
    go_ret
    exact ⟨rfl, rfl⟩
  · have d1 : decide (n < 0) = false := decide_eq_false h1
    rw [if_neg h1]
    by_cases h2 : n > 0
    · have d2 : decide (0 < n) = true := decide_eq_true h2
      rw [if_pos h2]
      go_enter Try.func79, Try.ntmps79
      go_wp2
      go_ret
      exact ⟨rfl, rfl⟩
    · have d2 : decide (0 < n) = false := decide_eq_false h2
      rw [if_neg h2]
      go_enter Try.func79, Try.ntmps79
      go_wp2
      go_ret
      exact ⟨rfl, rfl⟩
def dsP (a b : S23) : Int := wrap64 (wrap64 (wrap64 (a.f0 - b.f0) * wrap64 (a.f0 - b.f0)) + wrap64 (wrap64 (a.f1 - b.f1) * wrap64 (a.f1 - b.f1)))
set_option maxRecDepth 100000 in
theorem dist.calls (a b : S23) (w : World) : Calls Try.prog 84 #[.agg #[.int .i64 a.f0, .int .i64 a.f1], .agg #[.int .i64 b.f0, .int .i64 b.f1]] w fun e w' => e = .returned (.int .i64 (dsP a b)) ∧ w' = (w.alloc (.cells #[.int .i64 a.f0, .int .i64 a.f1] 23)).alloc (.cells #[.int .i64 b.f0, .int .i64 b.f1] 23) := by
  have hu23 := Try.underlying23
  go_enter Try.func84, Try.ntmps84
  go_wp2
  go_ret
  exact ⟨rfl, rfl⟩
def GR (W X : World) : Prop := ∃ m os, X = Sort.grow (W.drewN m) os
theorem GR.refl (W : World) : GR W W := ⟨0, #[], by simp [Sort.grow]; rfl⟩
theorem GR.alloc {W X : World} (h : GR W X) (o : Obj) : GR W (X.alloc o) := by
  obtain ⟨m, os, rfl⟩ := h
  exact ⟨m, os ++ #[o], by rw [Sort.alloc_eq_grow, Sort.grow_grow]⟩
theorem GR.drew {W X : World} (h : GR W X) : GR W X.drew := by
  obtain ⟨m, os, rfl⟩ := h
  exact ⟨m + 1, os, rfl⟩
theorem GR.trans {W X Y : World} (h : GR W X) (k : GR X Y) : GR W Y := by
  obtain ⟨m, os, rfl⟩ := h
  obtain ⟨m2, os2, rfl⟩ := k
  exact ⟨m + m2, os ++ os2, by simp only [Sort.grow, World.drewN, Array.append_assoc]; congr 1; omega⟩
theorem GR.below {W X : World} (h : GR W X) : Below W.heap.size W X := by
  obtain ⟨m, os, rfl⟩ := h
  refine ⟨rfl, rfl, rfl, by simp [Sort.grow, World.drewN], fun i hi => ?_⟩
  simp only [Sort.grow, World.drewN]
  rw [Array.getElem?_append_left hi]
def cfA (o p q : S23) : Int :=
  if halfP (wrap64 (p.f0 - o.f0)) (wrap64 (p.f1 - o.f1)) = halfP (wrap64 (q.f0 - o.f0)) (wrap64 (q.f1 - o.f1)) then
    (if wrap64 (wrap64 (wrap64 (p.f0 - o.f0) * wrap64 (q.f1 - o.f1)) - wrap64 (wrap64 (p.f1 - o.f1) * wrap64 (q.f0 - o.f0))) = 0 then sgnP (wrap64 (dsP p o - dsP q o)) else wrap64 (-sgnP (wrap64 (wrap64 (wrap64 (p.f0 - o.f0) * wrap64 (q.f1 - o.f1)) - wrap64 (wrap64 (p.f1 - o.f1) * wrap64 (q.f0 - o.f0))))))
  else wrap64 (halfP (wrap64 (p.f0 - o.f0)) (wrap64 (p.f1 - o.f1)) - halfP (wrap64 (q.f0 - o.f0)) (wrap64 (q.f1 - o.f1)))
set_option maxHeartbeats 20000000 in
set_option maxRecDepth 100000 in
theorem around_cmp (n c0 : Nat) (ad : Addr) (gl go i k : Nat) (o p q : S23) (hi : i < n) (hk : k < n) (W : World) (h : W.cell? ⟨gl, 0, none⟩ = some (.slice (some ad) n c0) ∧ W.cell? ⟨go, 0, none⟩ = some (.int .i64 o.f0) ∧ W.cell? ⟨go, 1, none⟩ = some (.int .i64 o.f1) ∧ W.cell? (ad.add (i * 2)) = some (.int .i64 p.f0) ∧ W.cell? ⟨(ad.add (i * 2)).block, (ad.add (i * 2)).off + 1, none⟩ = some (.int .i64 p.f1) ∧ W.cell? (ad.add (k * 2)) = some (.int .i64 q.f0) ∧ W.cell? ⟨(ad.add (k * 2)).block, (ad.add (k * 2)).off + 1, none⟩ = some (.int .i64 q.f1)) :
    Calls Try.prog 112 #[.int .i64 i, .int .i64 k, .pointer (some ⟨gl, 0, none⟩), .pointer (some ⟨go, 0, none⟩)] W fun e w' => e = .returned (.int .i64 (cfA o p q)) ∧ GR W w' := by
  have hu23 := Try.underlying23
  have hi0 : (0 : Int) ≤ (i : Int) := by omega
  have hi1 : (i : Int) < (n : Int) := by omega
  have hk0 : (0 : Int) ≤ (k : Int) := by omega
  have hk1 : (k : Int) < (n : Int) := by omega
  have KW := Aside0.mk (show ∀ X, GR W X → X.cell? ⟨gl, 0, none⟩ = some (.slice (some ad) n c0) ∧ X.cell? ⟨go, 0, none⟩ = some (.int .i64 o.f0) ∧ X.cell? ⟨go, 1, none⟩ = some (.int .i64 o.f1) ∧ X.cell? (ad.add (i * 2)) = some (.int .i64 p.f0) ∧ X.cell? ⟨(ad.add (i * 2)).block, (ad.add (i * 2)).off + 1, none⟩ = some (.int .i64 p.f1) ∧ X.cell? (ad.add (k * 2)) = some (.int .i64 q.f0) ∧ X.cell? ⟨(ad.add (k * 2)).block, (ad.add (k * 2)).off + 1, none⟩ = some (.int .i64 q.f1) from by
    intro X hX
    obtain ⟨h0, h1, h2, h3, h4, h5, h6⟩ := h
    have b := hX.below
    have go : ∀ a v, W.cell? a = some v → X.cell? a = some v := fun a v hv => (b.cell (World.block_lt_of_cell? W _ hv)).trans hv
    exact ⟨go _ _ h0, go _ _ h1, go _ _ h2, go _ _ h3, go _ _ h4, go _ _ h5, go _ _ h6⟩)
  obtain ⟨l0, l1, l2, l3, l4, l5, l6⟩ := h
  obtain ⟨ax, hax⟩ : ∃ z, z = wrap64 (p.f0 - o.f0) := ⟨_, rfl⟩
  obtain ⟨ay, hay⟩ : ∃ z, z = wrap64 (p.f1 - o.f1) := ⟨_, rfl⟩
  obtain ⟨bx, hbx⟩ : ∃ z, z = wrap64 (q.f0 - o.f0) := ⟨_, rfl⟩
  obtain ⟨by_, hby⟩ : ∃ z, z = wrap64 (q.f1 - o.f1) := ⟨_, rfl⟩
  have wax : IntKind.i64.wrap (p.f0 - o.f0) = ax := by rw [hax]; exact wrap_i64_eq _
  have way : IntKind.i64.wrap (p.f1 - o.f1) = ay := by rw [hay]; exact wrap_i64_eq _
  have wbx : IntKind.i64.wrap (q.f0 - o.f0) = bx := by rw [hbx]; exact wrap_i64_eq _
  have wby : IntKind.i64.wrap (q.f1 - o.f1) = by_ := by rw [hby]; exact wrap_i64_eq _
  unfold cfA
  rw [← hax, ← hay, ← hbx, ← hby]
  have wax2 : wrap64 (p.f0 - o.f0) = ax := hax.symm
  have way2 : wrap64 (p.f1 - o.f1) = ay := hay.symm
  have wbx2 : wrap64 (q.f0 - o.f0) = bx := hbx.symm
  have wby2 : wrap64 (q.f1 - o.f1) = by_ := hby.symm
  clear hax hay hbx hby
  obtain ⟨ha, hha⟩ : ∃ z, halfP ax ay = z := ⟨_, rfl⟩
  obtain ⟨hb, hhb⟩ : ∃ z, halfP bx by_ = z := ⟨_, rfl⟩
  have hrange : (ha = 0 ∨ ha = 1) ∧ (hb = 0 ∨ hb = 1) := by rw [← hha, ← hhb]; unfold halfP; constructor <;> (repeat' split) <;> simp
  rw [hha, hhb]
  have HA := Aside0.mk hha; have HB := Aside0.mk hhb
  clear hha hhb
  obtain ⟨cr, hcr⟩ : ∃ z, wrap64 (wrap64 (ax * by_) - wrap64 (ay * bx)) = z := ⟨_, rfl⟩
  obtain ⟨d1, hd1⟩ : ∃ z, dsP p o = z := ⟨_, rfl⟩
  obtain ⟨d2, hd2⟩ : ∃ z, dsP q o = z := ⟨_, rfl⟩
  rw [hd1, hd2, hcr]
  have HD := Aside0.mk (And.intro hd1 hd2)
  clear hd1 hd2
  go_enter Try.func112, Try.ntmps112
  go_upto_region 1 with fail
  (try simp only [Act.put, List.setIfInBounds_toArray, List.set_cons_zero, List.set_cons_succ])
  go_cut [7, 8] (fun v7 v8 wd => ∃ ga gb : Nat, v7 = .pointer (some ⟨ga, 0, none⟩) ∧ v8 = .pointer (some ⟨gb, 0, none⟩) ∧ Aside0 (Blk wd ga #[.int .i64 ax, .int .i64 ay] 23 ∧ Blk wd gb #[.int .i64 bx, .int .i64 by_] 23 ∧ GR W wd))
  case first =>
    go_region_held3 (fun X => X.cell? ⟨gl, 0, none⟩ = some (.slice (some ad) n c0) ∧ X.cell? ⟨go, 0, none⟩ = some (.int .i64 o.f0) ∧ X.cell? ⟨go, 1, none⟩ = some (.int .i64 o.f1) ∧ X.cell? (ad.add (i * 2)) = some (.int .i64 p.f0) ∧ X.cell? ⟨(ad.add (i * 2)).block, (ad.add (i * 2)).off + 1, none⟩ = some (.int .i64 p.f1) ∧ X.cell? (ad.add (k * 2)) = some (.int .i64 q.f0) ∧ X.cell? ⟨(ad.add (k * 2)).block, (ad.add (k * 2)).off + 1, none⟩ = some (.int .i64 q.f1)) (first | (refine ⟨?_, ?_, ?_, ?_, ?_, ?_, ?_⟩ <;> assumption; done) | (go_keep; done)) (fail)
    · (first | go_meet | (go_wp2; go_meet))
      case rel =>
        have b2 := Blk.new (W.alloc (.cells #[.int .i64 ax, .int .i64 ay] 23)) 23 #[.int .i64 bx, .int .i64 by_]
        rw [World.size_alloc] at b2
        exact ⟨_, _, rfl, rfl, ⟨((Blk.new W 23 _).alloc _).drew, b2.drew, (((GR.refl W).alloc _).alloc _).drew⟩⟩
    · (first | go_meet | (go_wp2; go_meet))
      case rel =>
        have b2 := Blk.new (W.alloc (.cells #[.int .i64 bx, .int .i64 by_] 23)) 23 #[.int .i64 ax, .int .i64 ay]
        rw [World.size_alloc] at b2
        exact ⟨_, _, rfl, rfl, ⟨b2.drew, ((Blk.new W 23 _).alloc _).drew, (((GR.refl W).alloc _).alloc _).drew⟩⟩
  case rest =>
    obtain ⟨ga, gb, rfl, rfl, KD⟩ := hcut
    clear l0 l1 l2 l3 l4 l5 l6
    have K2 := Aside0.mk (show ∀ X, GR wc X → Blk X ga #[.int .i64 ax, .int .i64 ay] 23 ∧ Blk X gb #[.int .i64 bx, .int .i64 by_] 23 from fun X hX => ⟨KD.out.1.below hX.below, KD.out.2.1.below hX.below⟩)
    have ac0 : wc.cell? ⟨ga, 0, none⟩ = some (.int .i64 ax) := (KD.out.1).cell 0; have ac1 : wc.cell? ⟨ga, 1, none⟩ = some (.int .i64 ay) := (KD.out.1).cell 1
    have bc0 : wc.cell? ⟨gb, 0, none⟩ = some (.int .i64 bx) := (KD.out.2.1).cell 0; have bc1 : wc.cell? ⟨gb, 1, none⟩ = some (.int .i64 by_) := (KD.out.2.1).cell 1
    have HG := Aside0.mk (show GR wc wc.drew from (GR.refl wc).drew)
    have HALFA := Aside0.mk (show ∀ X, Calls Try.prog 113 #[.agg #[.int .i64 ax, .int .i64 ay]] X fun e w' => e = .returned (.int .i64 ha) ∧ w' = X.alloc (.cells #[.int .i64 ax, .int .i64 ay] 23) from fun X => HA.out ▸ half.calls ax ay X)
    have HALFB := Aside0.mk (show ∀ X, Calls Try.prog 113 #[.agg #[.int .i64 bx, .int .i64 by_]] X fun e w' => e = .returned (.int .i64 hb) ∧ w' = X.alloc (.cells #[.int .i64 bx, .int .i64 by_] 23) from fun X => HB.out ▸ half.calls bx by_ X)
    by_cases hc : ha = hb
    · have hcb : (ha != hb) = false := by simp [hc]
      go_upto_region 2 with fail
      (try simp only [Act.put, List.setIfInBounds_toArray, List.set_cons_zero, List.set_cons_succ])
      go_cut [48] (fun v48 wd => v48 = .bool false ∧ Aside0 (GR wc wd))
      case first =>
        go_region_held3 (fun X => X.cell? ⟨ga, 0, none⟩ = some (.int .i64 ax) ∧ X.cell? ⟨ga, 1, none⟩ = some (.int .i64 ay) ∧ X.cell? ⟨gb, 0, none⟩ = some (.int .i64 bx) ∧ X.cell? ⟨gb, 1, none⟩ = some (.int .i64 by_)) (first | (refine ⟨?_, ?_, ?_, ?_⟩ <;> assumption; done) | (go_keep; done)) (first | (go_at_call 113; (with_reducible refine (HALFA.out _).mono ?_); rintro e wh ⟨rfl, rfl⟩; have HG2 := Aside0.mk (HG.out.alloc (.cells #[.int .i64 ax, .int .i64 ay] 23)); clear HG; have HG := HG2; clear HG2) | (go_at_call 113; (with_reducible refine (HALFB.out _).mono ?_); rintro e wh ⟨rfl, rfl⟩; have HG2 := Aside0.mk (HG.out.alloc (.cells #[.int .i64 bx, .int .i64 by_] 23)); clear HG; have HG := HG2; clear HG2))
        all_goals (first | go_meet | (go_wp2; go_meet))
        all_goals exact ⟨rfl, ⟨HG.out⟩⟩
      case rest =>
        obtain ⟨rfl, HG2⟩ := hcut
        clear HG
        obtain ⟨m0, m1⟩ : wc.cell? ⟨ga, 0, none⟩ = some (.int .i64 ax) ∧ wc.cell? ⟨ga, 1, none⟩ = some (.int .i64 ay) := ⟨(K2.out _ HG2.out).1.cell 0, (K2.out _ HG2.out).1.cell 1⟩
        obtain ⟨m2, m3⟩ : wc.cell? ⟨gb, 0, none⟩ = some (.int .i64 bx) ∧ wc.cell? ⟨gb, 1, none⟩ = some (.int .i64 by_) := ⟨(K2.out _ HG2.out).2.cell 0, (K2.out _ HG2.out).2.cell 1⟩
        by_cases hn : cr = 0
        · have hnb : (cr != 0) = false := by simp [hn]
          obtain ⟨l0, l1, l2, l3, l4, l5, l6⟩ := KW.out _ (KD.out.2.2.trans HG2.out)
          have HG := Aside0.mk (HG2.out.drew)
          have DP := Aside0.mk (show ∀ X, Calls Try.prog 84 #[.agg #[.int .i64 p.f0, .int .i64 p.f1], .agg #[.int .i64 o.f0, .int .i64 o.f1]] X fun e w' => e = .returned (.int .i64 d1) ∧ w' = (X.alloc (.cells #[.int .i64 p.f0, .int .i64 p.f1] 23)).alloc (.cells #[.int .i64 o.f0, .int .i64 o.f1] 23) from fun X => HD.out.1 ▸ dist.calls p o X)
          have DQ := Aside0.mk (show ∀ X, Calls Try.prog 84 #[.agg #[.int .i64 q.f0, .int .i64 q.f1], .agg #[.int .i64 o.f0, .int .i64 o.f1]] X fun e w' => e = .returned (.int .i64 d2) ∧ w' = (X.alloc (.cells #[.int .i64 q.f0, .int .i64 q.f1] 23)).alloc (.cells #[.int .i64 o.f0, .int .i64 o.f1] 23) from fun X => HD.out.2 ▸ dist.calls q o X)
          go_upto_region 7 with fail
          go_region_held3 (fun X => X.cell? ⟨gl, 0, none⟩ = some (.slice (some ad) n c0) ∧ X.cell? ⟨go, 0, none⟩ = some (.int .i64 o.f0) ∧ X.cell? ⟨go, 1, none⟩ = some (.int .i64 o.f1) ∧ X.cell? (ad.add (i * 2)) = some (.int .i64 p.f0) ∧ X.cell? ⟨(ad.add (i * 2)).block, (ad.add (i * 2)).off + 1, none⟩ = some (.int .i64 p.f1) ∧ X.cell? (ad.add (k * 2)) = some (.int .i64 q.f0) ∧ X.cell? ⟨(ad.add (k * 2)).block, (ad.add (k * 2)).off + 1, none⟩ = some (.int .i64 q.f1)) (first | (refine ⟨?_, ?_, ?_, ?_, ?_, ?_, ?_⟩ <;> assumption; done) | exact KW.out _ (KD.out.2.2.trans HG.out) | (go_keep; done)) (first | (go_at_call 84; (with_reducible refine (DP.out _).mono ?_); rintro e wh ⟨rfl, rfl⟩; have HG2 := Aside0.mk ((HG.out.alloc (.cells #[.int .i64 p.f0, .int .i64 p.f1] 23)).alloc (.cells #[.int .i64 o.f0, .int .i64 o.f1] 23)); clear HG; have HG := HG2; clear HG2) | (go_at_call 84; (with_reducible refine (DQ.out _).mono ?_); rintro e wh ⟨rfl, rfl⟩; have HG2 := Aside0.mk ((HG.out.alloc (.cells #[.int .i64 q.f0, .int .i64 q.f1] 23)).alloc (.cells #[.int .i64 o.f0, .int .i64 o.f1] 23)); clear HG; have HG := HG2; clear HG2) | (go_at_call 79; (with_reducible refine (sign.calls _ _).mono ?_); rintro e wh ⟨rfl, rfl⟩))
          all_goals go_wp2
          all_goals go_ret
          all_goals exact ⟨by first | rfl | (show Ending.returned (Value.int .i64 (sgnP (IntKind.i64.wrap (d1 - d2)))) = _; rw [wrap_i64_eq]), KD.out.2.2.trans HG.out⟩
        · have hnb : (cr != 0) = true := by simpa using hn
          go_wp2_with (go_at_call 79; (with_reducible refine (sign.calls _ _).mono ?_); rintro e wh ⟨rfl, rfl⟩)
          go_ret
          exact ⟨rfl, KD.out.2.2.trans HG2.out⟩
    · have hcb : (ha != hb) = true := by simpa using hc
      go_upto_region 2 with fail
      (try simp only [Act.put, List.setIfInBounds_toArray, List.set_cons_zero, List.set_cons_succ])
      go_cut [48] (fun v48 wd => v48 = .bool true ∧ Aside0 (GR wc wd))
      case first =>
        go_region_held3 (fun X => X.cell? ⟨ga, 0, none⟩ = some (.int .i64 ax) ∧ X.cell? ⟨ga, 1, none⟩ = some (.int .i64 ay) ∧ X.cell? ⟨gb, 0, none⟩ = some (.int .i64 bx) ∧ X.cell? ⟨gb, 1, none⟩ = some (.int .i64 by_)) (first | (refine ⟨?_, ?_, ?_, ?_⟩ <;> assumption; done) | (go_keep; done)) (first | (go_at_call 113; (with_reducible refine (HALFA.out _).mono ?_); rintro e wh ⟨rfl, rfl⟩; have HG2 := Aside0.mk (HG.out.alloc (.cells #[.int .i64 ax, .int .i64 ay] 23)); clear HG; have HG := HG2; clear HG2) | (go_at_call 113; (with_reducible refine (HALFB.out _).mono ?_); rintro e wh ⟨rfl, rfl⟩; have HG2 := Aside0.mk (HG.out.alloc (.cells #[.int .i64 bx, .int .i64 by_] 23)); clear HG; have HG := HG2; clear HG2))
        all_goals (first | go_meet | (go_wp2; go_meet))
        all_goals exact ⟨rfl, ⟨HG.out⟩⟩
      case rest =>
        obtain ⟨rfl, HG2⟩ := hcut
        clear HG
        have HG := Aside0.mk (HG2.out.drew)
        obtain ⟨m0, m1⟩ : wc.cell? ⟨ga, 0, none⟩ = some (.int .i64 ax) ∧ wc.cell? ⟨ga, 1, none⟩ = some (.int .i64 ay) := ⟨(K2.out _ HG2.out).1.cell 0, (K2.out _ HG2.out).1.cell 1⟩
        obtain ⟨m2, m3⟩ : wc.cell? ⟨gb, 0, none⟩ = some (.int .i64 bx) ∧ wc.cell? ⟨gb, 1, none⟩ = some (.int .i64 by_) := ⟨(K2.out _ HG2.out).2.cell 0, (K2.out _ HG2.out).2.cell 1⟩
        go_upto_region 3 with fail
        go_region_held3 (fun X => X.cell? ⟨ga, 0, none⟩ = some (.int .i64 ax) ∧ X.cell? ⟨ga, 1, none⟩ = some (.int .i64 ay) ∧ X.cell? ⟨gb, 0, none⟩ = some (.int .i64 bx) ∧ X.cell? ⟨gb, 1, none⟩ = some (.int .i64 by_)) (first | (refine ⟨?_, ?_, ?_, ?_⟩ <;> assumption; done) | (go_keep; done)) (first | (go_at_call 113; (with_reducible refine (HALFA.out _).mono ?_); rintro e wh ⟨rfl, rfl⟩; have HG2 := Aside0.mk (HG.out.alloc (.cells #[.int .i64 ax, .int .i64 ay] 23)); clear HG; have HG := HG2; clear HG2) | (go_at_call 113; (with_reducible refine (HALFB.out _).mono ?_); rintro e wh ⟨rfl, rfl⟩; have HG2 := Aside0.mk (HG.out.alloc (.cells #[.int .i64 bx, .int .i64 by_] 23)); clear HG; have HG := HG2; clear HG2))
        all_goals go_wp2
        all_goals go_ret
        all_goals exact ⟨by show Ending.returned (Value.int .i64 (IntKind.i64.wrap (ha - hb))) = _; rw [wrap_i64_eq], KD.out.2.2.trans HG.out⟩
end Go.Proofs.Ytckaejgamfllfaa.G
end

section
namespace Go.Proofs.Ytckaejgamfllfaa.Stab
open Go.Sort Go.Proofs
set_option linter.unusedVariables false
set_option linter.unusedSimpArgs false
variable {α : Type} [Inhabited α] {enc : α → Value}
theorem holds_own {w : World} {g : Nat} {cur : Array Value} {e : TypeId} {ss : List α} (hb : w.heap[g]? = some (.cells cur e (0, 0))) (ht : cur.toList.take ss.length = ss.map enc) : Holds enc w g 0 ss.toArray := by
  intro j hj
  have hj' : j < ss.length := by simpa using hj
  refine ⟨?_, by simp [World.frozen?, hb]⟩
  have h1 : (cur.toList.take ss.length)[j]? = (ss.map enc)[j]? := by rw [ht]
  rw [List.getElem?_take_of_lt hj'] at h1
  simp only [World.cell?, hb, Nat.zero_add]
  simp only [Option.isSome_none, Bool.false_eq_true, if_false]
  rw [← Array.getElem?_toList, h1]
  simp [hj']
theorem heap_own {w : World} {g n : Nat} {os : Array Obj} {cur : Array Value} {e : TypeId} {fr : Nat × Nat} (d : Array α) (hb : w.heap[g]? = some (.cells cur e fr)) :
    (grow (putRow enc (Sort.ahead w n) g 0 d) os).heap[g]? = some (.cells (putCells enc 0 d cur) e fr) := by
  have hg : g < w.heap.size := (Array.getElem?_eq_some_iff.1 hb).1
  rw [heap_grow_old _ _ (by simpa using hg)]
  simp [putRow, mapBlock, Sort.ahead, Array.getElem?_modify, hb, onCells]
theorem grownBy_own {w : World} {g n : Nat} {os : Array Obj} (d : Array α) : w.grownBy (grow (putRow enc (Sort.ahead w n) g 0 d) os) (some g) := by
  refine ⟨rfl, rfl, rfl, by simp, fun k hk hne => ?_⟩
  rw [heap_grow_old _ _ (by simpa using hk)]
  have : g ≠ k := fun e => hne (by rw [e])
  simp [putRow, mapBlock, Sort.ahead, Array.getElem?_modify, this]
theorem take_put (cur : Array Value) (ts : List α) (h : ts.length ≤ cur.size) : (putCells enc 0 ts.toArray cur).toList.take ts.length = ts.map enc := by
  apply List.ext_getElem?
  intro j
  by_cases hj : j < ts.length
  · rw [List.getElem?_take_of_lt hj, Array.getElem?_toList]
    simp [putCells, hj, show j < cur.size by omega]
  · rw [List.getElem?_take_eq_none (by omega), List.getElem?_eq_none (by simp; omega)]
theorem own_sorted {w W : World} {base g cap n : Nat} {e : TypeId} {ss : List α} {d : Array α} (hd : d.size = ss.length) (ho : w.ownsRow base e 1 (.slice (some ⟨g, 0, none⟩) n cap) n (ss.map enc)) (S : SW enc w g 0 d W) :
    W.ownsRow base e 1 (.slice (some ⟨g, 0, none⟩) n cap) n (d.toList.map enc) ∧ w.grownBy W (some g) := by
  obtain ⟨m, os, rfl⟩ := S
  refine ⟨?_, grownBy_own d⟩
  obtain ⟨hl, h⟩ := ho
  have hn : ss.length = n := by simpa using hl
  rcases h with ⟨h, _⟩ | ⟨g', cap', cur, he, hb, hh, h1, h2, h3, h4⟩
  · cases h
  · injection he with e1 e2 e3
    injection e1 with e1
    injection e1 with e1
    subst e1; subst e3
    refine ⟨by simp [hd, hn], .inr ⟨g, cap, _, rfl, hb, heap_own d hh, h1, h2, by simp [putCells, h3], ?_⟩⟩
    have := take_put (enc := enc) cur d.toList (by simp; omega)
    rw [show n * 1 = d.toList.length by simp; omega]
    simpa using this
theorem own_holds {w : World} {base g cap n : Nat} {e : TypeId} {ss : List α} (ho : w.ownsRow base e 1 (.slice (some ⟨g, 0, none⟩) n cap) n (ss.map enc)) : Holds enc w g 0 ss.toArray ∧ g < w.heap.size ∧ base ≤ g := by
  obtain ⟨hl, h⟩ := ho
  have hn : ss.length = n := by simpa using hl
  rcases h with ⟨h, _⟩ | ⟨g', cap', cur, he, hb, hh, h1, h2, h3, h4⟩
  · cases h
  · injection he with e1 e2 e3
    injection e1 with e1
    injection e1 with e1
    subst e1
    exact ⟨holds_own hh (by rw [hn]; simpa using h4), (Array.getElem?_eq_some_iff.1 hh).1, hb⟩
end Go.Proofs.Ytckaejgamfllfaa.Stab
end

section
namespace Go.Proofs.Ytckaejgamfllfaa.G
open Go.RowKit Go.Proofs.YtckaejgamfllfaaW.PrintWords Go.Proofs.YtckaejgamfllfaaW.PrintLast Go.Proofs.YtckaejgamfllfaaW.PrintMore
attribute [local go_sem] max2_int min2_int max_two min_two max_three min_three max_four min_four
set_option linter.unusedVariables false
set_option linter.unusedSimpArgs false
def plane_within.f (a0 : Int) (a1 : Int) (a2 : Int) : Option (Bool) := if a1 ≤ a0 then (some (decide (a0 ≤ a2))) else (some false)
set_option maxHeartbeats 8000000 in
set_option maxRecDepth 100000 in
theorem plane_within.calls (a0 : Int) (a1 : Int) (a2 : Int) (r : Bool) (w : World) (h : plane_within.f a0 a1 a2 = some r) :
  Calls Try.prog 76 #[.int .i64 a0, .int .i64 a1, .int .i64 a2] w fun e w' => e = .returned (.bool r) ∧ Drawn0 w w' := by
 have H : (if a1 ≤ a0 then (some (decide (a0 ≤ a2))) else (some false)) = some r := h
 clear h
 by_cases c4 : a1 ≤ a0
 ·rw [if_pos c4] at H
  have c4b0 : decide (a1 ≤ a0) = true := decide_eq_true c4
  clear c4
  obtain rfl := Option.some.inj H
  go_enter Try.func76, Try.ntmps76
  go_wp2
  go_ret
  exact ⟨by first | rfl | (simp; done) | (simp [*]; done), by repeat (first | exact Drawn0.refl _ | apply Drawn0.step)⟩
 ·rw [if_neg c4] at H
  have c4b0 : decide (a1 ≤ a0) = false := decide_eq_false c4
  clear c4
  obtain rfl := Option.some.inj H
  go_enter Try.func76, Try.ntmps76
  go_wp2
  go_ret
  exact ⟨by first | rfl | (simp; done) | (simp [*]; done), by repeat (first | exact Drawn0.refl _ | apply Drawn0.step)⟩
end Go.Proofs.Ytckaejgamfllfaa.G
end

section
namespace Go.Proofs.Ytckaejgamfllfaa.G
open Go.RowKit Go.Proofs.YtckaejgamfllfaaW.PrintWords Go.Proofs.YtckaejgamfllfaaW.PrintLast Go.Proofs.YtckaejgamfllfaaW.PrintMore
attribute [local go_sem] max2_int min2_int max_two min_two max_three min_three max_four min_four
set_option linter.unusedVariables false
set_option linter.unusedSimpArgs false
def plane_Valid.f (a0_0 : Int) (a0_1 : Int) : Option (Bool) := (plane_within.f a0_0 (-1048576) 1048576).bind fun t102 => (if t102 = true then ((plane_within.f a0_1 (-1048576) 1048576).bind fun t103 => (some t103)) else (some false))
set_option maxHeartbeats 8000000 in
set_option maxRecDepth 100000 in
theorem plane_Valid.calls (a0_0 : Int) (a0_1 : Int) (r : Bool) (w : World) (h : plane_Valid.f a0_0 a0_1 = some r) :
  Calls Try.prog 17 #[.agg #[.int .i64 a0_0, .int .i64 a0_1]] w fun e w' => e = .returned (.bool r) ∧ Below w.heap.size w w' := by
 have hu23 := Try.underlying23
 have HB := Aside0.mk (Below.refl w.heap.size w)
 have H : ((plane_within.f a0_0 (-1048576) 1048576).bind fun t102 => (if t102 = true then ((plane_within.f a0_1 (-1048576) 1048576).bind fun t103 => (some t103)) else (some false))) = some r := h
 clear h
 replace H := Option.bind_eq_some_iff.mp H
 obtain ⟨t102, A20, H⟩ := H
 replace H : (if t102 = true then ((plane_within.f a0_1 (-1048576) 1048576).bind fun t103 => (some t103)) else (some false)) = some r := H
 have A2 := Aside0.mk A20
 clear A20
 by_cases c3 : t102 = true
 ·subst c3
  have H1 : ((plane_within.f a0_1 (-1048576) 1048576).bind fun t103 => (some t103)) = some r := by rw [if_pos rfl] at H; exact H
  clear H
  have H := H1
  clear H1
  replace H := Option.bind_eq_some_iff.mp H
  obtain ⟨t103, A40, H⟩ := H
  replace H : (some t103) = some r := H
  have A4 := Aside0.mk A40
  clear A40
  obtain rfl := Option.some.inj H
  go_enter Try.func17, Try.ntmps17
  go_wp2_with (first | ((with_reducible refine gate_dst (N := 1) rfl ?_); refine box_event ?hg (N := 1) ?hd (cs := #[.int .i64 a0_0, .int .i64 a0_1]) (t := 23) ?hr ?_; (case hd => rfl); (case hg => rfl); (case hr => first | (go_simp; done) | (go_simp; rfl)); intro gb101 hg w5 hbox hb; have BK101 := Aside0.mk (hbox); have GW101 := geBA HB hg; have GE101 := geBA HB hg; replace HB := Aside0.mk (below_step (hk HB) hb); clear hb hbox hg; have hcz6_0 : w5.cell? ⟨gb101, 0, none⟩ = some (.int .i64 a0_0) := (blk_cell BK101.out 0).trans rfl; have hcz6_1 : w5.cell? ⟨gb101, 1, none⟩ = some (.int .i64 a0_1) := (blk_cell BK101.out 1).trans rfl; have hfz6_0 := blk_frozen BK101.out 0; have hfz6_1 := blk_frozen BK101.out 1) | ((with_reducible refine gate_callee (f := 76) rfl ?_); refine goesL_ (some 5) rfl rfl Try.func76 (by kernel_rfl) rfl #[.int .i64 a0_0, .int .i64 (-1048576), .int .i64 1048576] rfl (by (try simp only [List.map_toArray, List.map_cons, List.map_nil]); first | done | rfl | (simp only [List.length_drop, List.length_take]; rfl)) ?_; (with_reducible refine (plane_within.calls a0_0 (-1048576) 1048576 true _ A2.out).mono ?_); rintro e w' ⟨rfl, ⟨nd, rfl⟩⟩; refine ⟨_, rfl, ?_⟩) | (go_at_call 76; (with_reducible refine (plane_within.calls a0_1 (-1048576) 1048576 t103 _ A4.out).mono ?_); rintro e w' ⟨rfl, ⟨nd, rfl⟩⟩))
  go_ret
  exact ⟨by first | rfl | (simp [errW_none, errW_some] <;> rfl) | (simp [*, errW_none, errW_some] <;> rfl), by repeat (first | (with_reducible first | exact HB.out | apply below_alloc | apply pw_below_drewN | apply below_drew1 | refine below_set ?_ GE101.out) | exact HB.out)⟩
 ·replace c3 := Bool.eq_false_iff.mpr c3
  subst c3
  have H1 : (some false) = some r := by rw [if_neg (show ¬ (false = true) by decide)] at H; exact H
  clear H
  have H := H1
  clear H1
  obtain rfl := Option.some.inj H
  go_enter Try.func17, Try.ntmps17
  go_wp2_with (first | ((with_reducible refine gate_dst (N := 1) rfl ?_); refine box_event ?hg (N := 1) ?hd (cs := #[.int .i64 a0_0, .int .i64 a0_1]) (t := 23) ?hr ?_; (case hd => rfl); (case hg => rfl); (case hr => first | (go_simp; done) | (go_simp; rfl)); intro gb101 hg w7 hbox hb; have BK101 := Aside0.mk (hbox); have GW101 := geBA HB hg; have GE101 := geBA HB hg; replace HB := Aside0.mk (below_step (hk HB) hb); clear hb hbox hg; have hcz8_0 : w7.cell? ⟨gb101, 0, none⟩ = some (.int .i64 a0_0) := (blk_cell BK101.out 0).trans rfl; have hcz8_1 : w7.cell? ⟨gb101, 1, none⟩ = some (.int .i64 a0_1) := (blk_cell BK101.out 1).trans rfl; have hfz8_0 := blk_frozen BK101.out 0; have hfz8_1 := blk_frozen BK101.out 1) | ((with_reducible refine gate_callee (f := 76) rfl ?_); refine goesL_ (some 5) rfl rfl Try.func76 (by kernel_rfl) rfl #[.int .i64 a0_0, .int .i64 (-1048576), .int .i64 1048576] rfl (by (try simp only [List.map_toArray, List.map_cons, List.map_nil]); first | done | rfl | (simp only [List.length_drop, List.length_take]; rfl)) ?_; (with_reducible refine (plane_within.calls a0_0 (-1048576) 1048576 false _ A2.out).mono ?_); rintro e w' ⟨rfl, ⟨nd, rfl⟩⟩; refine ⟨_, rfl, ?_⟩))
  go_ret
  exact ⟨by first | rfl | (simp [errW_none, errW_some] <;> rfl) | (simp [*, errW_none, errW_some] <;> rfl), by repeat (first | (with_reducible first | exact HB.out | apply below_alloc | apply pw_below_drewN | apply below_drew1 | refine below_set ?_ GE101.out) | exact HB.out)⟩
end Go.Proofs.Ytckaejgamfllfaa.G
end

section
namespace Go.Proofs.Ytckaejgamfllfaa.G
open Go.RowKit Go.Proofs.YtckaejgamfllfaaW.PrintWords Go.Proofs.YtckaejgamfllfaaW.PrintLast Go.Proofs.YtckaejgamfllfaaW.PrintMore
set_option linter.unusedVariables false
set_option linter.unusedSimpArgs false
def validP (x : S23) : Bool := decide (-1048576 ≤ x.f0) && decide (x.f0 ≤ 1048576) && decide (-1048576 ≤ x.f1) && decide (x.f1 ≤ 1048576)
theorem plane_Valid_eq (a b : Int) : plane_Valid.f a b = some (validP ⟨a, b⟩) := by
  unfold plane_Valid.f plane_within.f validP
  by_cases h1 : -1048576 ≤ a <;> by_cases h2 : a ≤ 1048576 <;> by_cases h3 : -1048576 ≤ b <;> by_cases h4 : b ≤ 1048576 <;> simp [h1, h2, h3, h4]
set_option maxHeartbeats 1000000 in
theorem plane_valid_1.calls (x y : Int) (r : Bool) (w : World) (h : validP ⟨x, y⟩ = r) :
    Calls Try.prog 127 #[.agg #[.int .i64 x, .int .i64 y]] w fun e w' => e = .returned (.bool !r) ∧ Below w.heap.size w w' := by
  have A := Aside0.mk (show plane_Valid.f x y = some r by rw [plane_Valid_eq, h])
  clear h
  have hu23 := Try.underlying23
  go_enter Try.func127, Try.ntmps127
  go_wp2_with (go_at_call 17; (with_reducible refine (plane_Valid.calls x y r _ A.out).mono ?_); rintro e w' ⟨rfl, hb⟩)
  go_ret
  exact ⟨rfl, below_then ((Below.refl _ _).alloc (Nat.le_refl _) _) (by simp) hb⟩
theorem rd_T23_mem {l : List S23} {i : Int} (h0 : 0 ≤ i) (h1 : i < l.length) : rd_T23 l i ∈ l := by
  unfold rd_T23
  have : i.toNat < l.length := by omega
  rw [List.getD_eq_getElem?_getD, List.getElem?_eq_getElem this]
  exact List.getElem_mem _
def IdxPost (l : List S23) (W : World) (e : Ending) (w' : World) : Prop :=
  ∃ j : Int, e = .returned (.int .i64 j) ∧ Below W.heap.size W w' ∧ ((0 ≤ j ∧ l.all validP = false) ∨ (j < 0 ∧ l.all validP = true))
theorem all_take_succ {l : List S23} {k : Nat} (h : k < l.length) (ha : (l.take k).all validP = true) (hv : validP (rd_T23 l k) = true) : (l.take (k + 1)).all validP = true := by
  rw [List.take_succ_eq_append_getElem h, List.all_append, ha]
  have : rd_T23 l k = l[k] := by unfold rd_T23; simp [h]
  simp [← this, hv]
set_option maxHeartbeats 4000000 in
set_option maxRecDepth 100000 in
theorem idx_valid.calls (A0 : Option Addr) (c0 : Nat) (l0 : List S23) (w : World) (hr0 : Kd.C k23 w A0 l0.length l0) (hm : l0.length ≤ 9223372036854775806) :
    Calls Try.prog 137 #[.slice A0 l0.length c0, .func (.func 127) #[] #[]] w fun e w' => IdxPost l0 w e w' := by
  have hu23 := Try.underlying23
  have HR0 := Aside0.mk hr0
  clear hr0
  have HB := Aside0.mk (Below.refl w.heap.size w)
  have hm' := hm
  go_enter Try.func137, Try.ntmps137
  go_wp2
  go_loopw [8] (fun v8 w' => ∃ k : Nat, v8 = .int .i64 k ∧ k ≤ l0.length ∧ Aside0 ((l0.take k).all validP = true) ∧ Aside0 (Below w.heap.size w w')) (fun v8 _ => l0.length - (intOf v8).toNat)
  case atStart => exact ⟨0, rfl, Nat.zero_le _, ⟨rfl⟩, HB⟩
  case round =>
    clear HB
    obtain ⟨k, rfl, hk, HA, HB⟩ := hrel
    by_cases hlt : k < l0.length
    · obtain ⟨ad, e294, hx0, hx1⟩ := at_T23 HR0.out (k : Int) (by omega) (by omega)
      cases e294
      replace hx0 := (HB.out.cell (World.block_lt_of_cell? w _ hx0)).trans hx0
      replace hx1 := (HB.out.cell (World.block_lt_of_cell? w _ hx1)).trans hx1
      simp only [Int.toNat_natCast] at hx0 hx1
      obtain ⟨r, hr⟩ : ∃ r, validP (rd_T23 l0 k) = r := ⟨_, rfl⟩
      have A := Aside0.mk hr
      clear hr
      cases r with
      | true =>
        go_wp2_with (go_at_call 127; (with_reducible refine (plane_valid_1.calls (rd_T23 l0 k).f0 (rd_T23 l0 k).f1 true _ A.out).mono ?_); rintro e w6 ⟨rfl, hb⟩; have n0_ := Aside0.mk (below_step HB.out hb); clear HB; have HB := n0_; clear n0_ hb)
        go_roundw
        case rel => exact ⟨k + 1, by go_num, by omega, ⟨all_take_succ hlt HA.out A.out⟩, HB⟩
        case measure => simp [intOf]; omega
      | false =>
        go_wp2_with (go_at_call 127; (with_reducible refine (plane_valid_1.calls (rd_T23 l0 k).f0 (rd_T23 l0 k).f1 false _ A.out).mono ?_); rintro e w6 ⟨rfl, hb⟩; have n0_ := Aside0.mk (below_step HB.out hb); clear HB; have HB := n0_; clear n0_ hb)
        go_ret
        refine ⟨k, rfl, HB.out, .inl ⟨by omega, ?_⟩⟩
        rw [List.all_eq_false]
        exact ⟨_, rd_T23_mem (i := (k : Int)) (by omega) (by omega), by simp [A.out]⟩
    · go_wp2
      go_ret
      refine ⟨-1, rfl, HB.out, .inr ⟨by omega, ?_⟩⟩
      have := HA.out
      rwa [List.take_of_length_le (by omega)] at this
def plane_valid.f (l0 : List S23) : Option Bool := if l0.length ≤ 9223372036854775806 then some (l0.all validP) else none
set_option maxHeartbeats 1000000 in
set_option maxRecDepth 100000 in
theorem contains_valid.calls (A0 : Option Addr) (c0 : Nat) (l0 : List S23) (r : Bool) (w : World) (hr0 : Kd.C k23 w A0 l0.length l0) (hm : l0.length ≤ 9223372036854775806) (h : l0.all validP = r) :
    Calls Try.prog 126 #[.slice A0 l0.length c0, .func (.func 127) #[] #[]] w fun e w' => e = .returned (.bool !r) ∧ Below w.heap.size w w' := by
  have HR0 := Aside0.mk hr0
  have HM := Aside0.mk hm
  have A := Aside0.mk h
  clear hr0 hm h
  go_enter Try.func126, Try.ntmps126
  go_wp2_with (go_at_call 137; (with_reducible refine (idx_valid.calls A0 c0 l0 _ HR0.out HM.out).mono ?_); rintro e w6 ⟨j, rfl, hb, hj⟩; have HB := Aside0.mk hb; have HJ := Aside0.mk hj; clear hb hj)
  go_ret
  have hj := HJ.out
  rw [A.out] at hj
  refine ⟨?_, HB.out⟩
  rcases hj with ⟨h1, h2⟩ | ⟨h1, h2⟩
  · subst h2; simp [h1]
  · subst h2; simp; omega
set_option maxHeartbeats 1000000 in
set_option maxRecDepth 100000 in
theorem plane_valid.calls (A0 : Option Addr) (c0 : Nat) (l0 : List (S23)) (r : Bool) (w : World) (hr0 : Kd.C k23 w A0 l0.length l0) (hc0 : l0.length ≤ c0) (h : plane_valid.f l0 = some r) :
    Calls Try.prog 78 #[.slice A0 l0.length c0] w fun e w' => e = .returned (.bool r) ∧ Below w.heap.size w w' := by
  unfold plane_valid.f at h
  by_cases hm : l0.length ≤ 9223372036854775806
  · rw [if_pos hm] at h
    have HR0 := Aside0.mk hr0
    have HM := Aside0.mk hm
    have A := Aside0.mk (Option.some.inj h)
    clear hr0 hm h hc0
    go_enter Try.func78, Try.ntmps78
    go_wp2_with (go_at_call 126; (with_reducible refine (contains_valid.calls A0 c0 l0 r _ HR0.out HM.out A.out).mono ?_); rintro e w6 ⟨rfl, hb⟩; have HB := Aside0.mk hb; clear hb)
    go_ret
    exact ⟨by simp, HB.out⟩
  · rw [if_neg hm] at h
    exact absurd h (by simp)
end Go.Proofs.Ytckaejgamfllfaa.G
end

section
namespace Go.Proofs.Ytckaejgamfllfaa.G
open Go.RowKit Go.Proofs.YtckaejgamfllfaaW.PrintWords Go.Proofs.YtckaejgamfllfaaW.PrintLast Go.Proofs.YtckaejgamfllfaaW.PrintMore
open Go.Sort
set_option linter.unusedVariables false
set_option linter.unusedSimpArgs false
def cfP (p q : S23) : Int := if p.f0 = q.f0 then wrap64 (p.f1 - q.f1) else wrap64 (p.f0 - q.f0)
def leP (p q : S23) : Bool := decide (p.f0 < q.f0 ∨ (p.f0 = q.f0 ∧ p.f1 ≤ q.f1))
def sortP (l : List S23) : List S23 := l.mergeSort leP
set_option maxHeartbeats 4000000 in
set_option maxRecDepth 100000 in
theorem place_cmp (p q : S23) (W : World) : Calls Try.prog 106 #[.agg #[.int .i64 p.f0, .int .i64 p.f1], .agg #[.int .i64 q.f0, .int .i64 q.f1]] W fun e w' => e = .returned (.int .i64 (cfP p q)) ∧ GR W w' := by
  obtain ⟨a, b⟩ := p
  obtain ⟨c, d⟩ := q
  by_cases h : a = c
  · have e : cfP ⟨a, b⟩ ⟨c, d⟩ = wrap64 (b - d) := if_pos h
    rw [e]
    clear e
    have h1 : (a != c) = false := bne_eq_false_iff_eq.mpr h
    go_enter Try.func106, Try.ntmps106
    go_wp2
    go_ret
    exact ⟨rfl, by repeat (with_reducible first | exact GR.refl _ | apply GR.alloc | apply GR.drew)⟩
  · have e : cfP ⟨a, b⟩ ⟨c, d⟩ = wrap64 (a - c) := if_neg h
    rw [e]
    clear e
    have h1 : (a != c) = true := bne_iff_ne.mpr h
    go_enter Try.func106, Try.ntmps106
    go_wp2
    go_ret
    exact ⟨rfl, by repeat (with_reducible first | exact GR.refl _ | apply GR.alloc | apply GR.drew)⟩
abbrev VP := { p : S23 // validP p = true }
instance : Inhabited VP := ⟨⟨⟨0, 0⟩, rfl⟩⟩
def encV (p : VP) : List Value := [.int .i64 p.val.f0, .int .i64 p.val.f1]
theorem vp_bounds (p : VP) : -1048576 ≤ p.val.f0 ∧ p.val.f0 ≤ 1048576 ∧ -1048576 ≤ p.val.f1 ∧ p.val.f1 ≤ 1048576 := by
  have := p.property
  unfold validP at this
  simp only [Bool.and_eq_true, decide_eq_true_eq] at this
  exact ⟨this.1.1.1, this.1.1.2, this.1.2, this.2⟩
theorem ltOf_cfP (p q : VP) : ltOf (fun x y : VP => cfP x.val y.val) p q = decide (p.val.f0 < q.val.f0 ∨ (p.val.f0 = q.val.f0 ∧ p.val.f1 < q.val.f1)) := by
  have h1 := vp_bounds p
  have h2 := vp_bounds q
  unfold ltOf
  rw [decide_eq_decide]
  simp only [cfP]
  split
  · rw [← i64_w, IntKind.wrap_i64]; omega
  · rw [← i64_w, IntKind.wrap_i64]; omega
theorem swo_cfP : SWO (ltOf fun x y : VP => cfP x.val y.val) where
  irrefl x := by rw [ltOf_cfP]; simp
  trans x y z h1 h2 := by rw [ltOf_cfP] at *; simp only [decide_eq_true_eq] at *; omega
  ntrans x y z h1 h2 := by rw [ltOf_cfP] at *; simp only [decide_eq_false_iff_not] at *; omega
theorem tot_cfP (x y : VP) (h1 : ltOf (fun x y : VP => cfP x.val y.val) x y = false) (h2 : ltOf (fun x y : VP => cfP x.val y.val) y x = false) : x = y := by
  rw [ltOf_cfP] at h1 h2
  simp only [decide_eq_false_iff_not] at h1 h2
  apply Subtype.ext
  have a : x.val.f0 = y.val.f0 := by omega
  have b : x.val.f1 = y.val.f1 := by omega
  cases h : x.val; cases h' : y.val
  rw [h, h'] at a b
  simp only at a b
  rw [a, b]
theorem sort_list (l : List VP) : (l.mergeSort fun x y => !(ltOf fun x y : VP => cfP x.val y.val) y x).map Subtype.val = sortP (l.map Subtype.val) := by
  unfold sortP
  refine List.map_mergeSort (fun a _ b _ => ?_)
  rw [ltOf_cfP]
  unfold leP
  rw [← decide_not, decide_eq_decide]
  omega
theorem flat_piece (d : Array VP) (j : Nat) (h : j < d.size) : ((flatK encV 2 d).toList.drop (j * 2)).take 2 = encV d[j]! := by
  apply List.ext_getElem
  · simp [encV]; omega
  · intro i h1 h2
    have hi : i < 2 := by simpa [encV] using h2
    rw [List.getElem_take, List.getElem_drop, Array.getElem_toList]
    have := get_flatK encV 2 d (j * 2 + i) (by omega)
    rw [getElem!_pos (flatK encV 2 d) (j * 2 + i) (by simp; omega)] at this
    rw [this, show (j * 2 + i) / 2 = j by omega, show (j * 2 + i) % 2 = i by omega, getElem!_pos (encV d[j]!) i h2]
theorem own_flat {w : World} {base g cap n : Nat} {e : TypeId} {inner : List Value} {m : Nat} {os : Array Obj} {F : Array Value} (hF : F.size = inner.length) (ho : w.ownsRow base e 2 (.slice (some ⟨g, 0, none⟩) n cap) n inner) :
    (grow (putRow id (Sort.ahead w m) g 0 F) os).ownsRow base e 2 (.slice (some ⟨g, 0, none⟩) n cap) n F.toList := by
  obtain ⟨hl, h⟩ := ho
  rcases h with ⟨h, _⟩ | ⟨g', cap', cur, he, hb, hh, h1, h2, h3, h4⟩
  · cases h
  · injection he with e1 e2 e3
    injection e1 with e1
    injection e1 with e1
    subst e1; subst e3
    refine ⟨by rw [Array.length_toList, hF]; exact hl, .inr ⟨g, cap, _, rfl, hb, Stab.heap_own F hh, h1, h2, by simp [putCells, h3], ?_⟩⟩
    have := Stab.take_put (enc := id) cur F.toList (by rw [Array.length_toList, hF, hl, h3]; exact Nat.mul_le_mul_right _ h1)
    rw [show n * 2 = F.toList.length by rw [Array.length_toList, hF, hl]]
    simpa using this
set_option maxRecDepth 100000 in
theorem sort_calls (g c base : Nat) (xs : List S23) (w : World) (hv : xs.all validP = true) (HO : Kd.R k23 23 w base (fun _ => True) (.slice (some ⟨g, 0, none⟩) xs.length c) xs) (hl : xs.length ≤ 1000) :
    Calls Try.prog 105 #[.slice (some ⟨g, 0, none⟩) xs.length c, .func (.func 106) #[] #[]] w fun e w' => e = .returned (.tuple #[]) ∧ Kd.R k23 23 w' base (fun _ => True) (.slice (some ⟨g, 0, none⟩) xs.length c) (sortP xs) ∧ w.grownBy w' (some g) := by
  have ha : ∀ x ∈ xs, validP x = true := fun x hx => List.all_eq_true.1 hv x hx
  obtain ⟨ys, hys⟩ : ∃ ys : List VP, ys.map Subtype.val = xs := ⟨xs.attachWith _ ha, by simp⟩
  have hlen : ys.length = xs.length := by rw [← hys, List.length_map]
  have hH : HoldsK encV 2 w g 0 ys.toArray := by
    intro t ht
    have ht' : t < ys.length * 2 := by simpa using ht
    have hj : t / 2 < ys.length := by omega
    obtain ⟨ce, hcl, hM, hcc, hfr⟩ := Kd.R_elem HO z23 ((t / 2 : Nat) : Int) (by omega) (by omega)
    obtain rfl := k23_openM hM
    have hel : xs.getD (t / 2) z23 = (ys.toArray[t / 2]!).val := by
      rw [List.getD_eq_getElem?_getD, ← hys, List.getElem?_map, List.getElem?_eq_getElem hj]
      simp [hj]
    have hget := get_flatK encV 2 ys.toArray t (by simpa using ht')
    rw [hget]
    simp only [Int.toNat_natCast] at hcc hfr
    rw [hel] at hcc
    refine ⟨?_, ?_⟩
    · rcases Nat.mod_two_eq_zero_or_one t with h | h
      · have := hcc 0 _ rfl
        rw [show t / 2 * k23.sz + 0 = 0 + t by rw [show k23.sz = 2 from rfl]; omega] at this
        rw [h]; exact this
      · have := hcc 1 _ rfl
        rw [show t / 2 * k23.sz + 1 = 0 + t by rw [show k23.sz = 2 from rfl]; omega] at this
        rw [h]; exact this
    · have := hfr (t % 2)
      rwa [show t / 2 * k23.sz + t % 2 = 0 + t by rw [show k23.sz = 2 from rfl]; omega] at this
  obtain ⟨hok, inner, ho, hr⟩ := HO
  have hgl : g < w.heap.size := own_lt ho g (by simp [Value.ownBlock])
  have eg : ∀ args w, (callFunc 106 args).run Try.prog w = .ok (.enter 106 args) w := enters_of Try.func106 (by kernel_rfl) rfl
  have hcmp : CmpLays Try.prog 106 #[] encV 2 (fun x y : VP => cfP x.val y.val) g 0 ys.toArray.size w := by
    intro m os dk _ x y
    exact place_cmp x.val y.val _
  have hcon := AnyQ.slices_SortFunc_total sortPt 2 Try.isAgg23 Try.sizeOf23 encV (fun _ => rfl) (fun x v hv => by simp [encV] at hv; rcases hv with rfl | rfl <;> rfl) (fun x y : VP => cfP x.val y.val) swo_cfP 106 #[] g 0 c ys.toArray w eg hcmp hH hgl (by simp; omega) tot_cfP
  change Calls Try.prog 105 _ _ _ at hcon
  rw [show ys.toArray.size = xs.length by simp [hlen]] at hcon
  refine hcon.mono ?_
  rintro e w' ⟨rfl, n, os, rfl⟩
  have hsz : ((ys.toArray.toList.mergeSort fun x y => !(ltOf fun x y : VP => cfP x.val y.val) y x).toArray).size = xs.length := by simp [hlen]
  have hin : inner.length = xs.length * 2 := ho.1
  refine ⟨rfl, ⟨fun _ _ => trivial, (flatK encV 2 (ys.toArray.toList.mergeSort fun x y => !(ltOf fun x y : VP => cfP x.val y.val) y x).toArray).toList, ?_, ?_⟩, Stab.grownBy_own (enc := id) (w := w) (g := g) (n := n) (os := os) (flatK encV 2 (ys.toArray.toList.mergeSort fun x y => !(ltOf fun x y : VP => cfP x.val y.val) y x).toArray)⟩
  · have := own_flat (m := n) (os := os) (F := flatK encV 2 (ys.toArray.toList.mergeSort fun x y => !(ltOf fun x y : VP => cfP x.val y.val) y x).toArray) (by rw [size_flatK, hsz, hin]) ho
    rw [show (sortP xs).length = xs.length by unfold sortP; exact List.length_mergeSort _]
    exact this
  · have hs := sort_list ys
    rw [hys] at hs
    have hs' : sortP xs = ((ys.toArray.toList.mergeSort fun x y => !(ltOf fun x y : VP => cfP x.val y.val) y x)).map Subtype.val := by rw [← hs]
    generalize (ys.toArray.toList.mergeSort fun x y => !(ltOf fun x y : VP => cfP x.val y.val) y x) = zs at hs' hsz ⊢
    refine ⟨by rw [hs', Array.length_toList, size_flatK]; simp [show k23.sz = 2 from rfl], fun j p hj => ?_⟩
    rw [hs', List.getElem?_map] at hj
    obtain ⟨q, hq, rfl⟩ := Option.map_eq_some_iff.1 hj
    obtain ⟨hjl, hq2⟩ := List.getElem?_eq_some_iff.1 hq
    have := flat_piece zs.toArray j (by simpa using hjl)
    rw [show k23.sz = 2 from rfl, this]
    have e : zs.toArray[j]! = q := by simp [hq2, hjl]
    rw [e]
    exact k23_mkM _ _ _ _
end Go.Proofs.Ytckaejgamfllfaa.G
end

section
namespace Go.Proofs.Ytckaejgamfllfaa.G
open Go.RowKit Go.Proofs.YtckaejgamfllfaaW.PrintWords Go.Proofs.YtckaejgamfllfaaW.PrintLast Go.Proofs.YtckaejgamfllfaaW.PrintMore
set_option linter.unusedVariables false
set_option linter.unusedSimpArgs false
def eqPt (p q : S23) : Bool := (p.f0 == q.f0) && (p.f1 == q.f1)
theorem eqPt_iff {p q : S23} : eqPt p q = true ↔ p = q := by
  cases p; cases q; simp [eqPt]
theorem eqPt_false {p q : S23} : eqPt p q = false ↔ p ≠ q := by
  rw [← Bool.not_eq_true, eqPt_iff]
def stepC (acc : List S23) (y : S23) : List S23 :=
  match acc.getLast? with
  | some x => if eqPt x y = true then acc else acc ++ [y]
  | none => [y]
def compactL (l : List S23) : List S23 := l.foldl stepC []
theorem compactL_snoc (l : List S23) (y : S23) : compactL (l ++ [y]) = stepC (compactL l) y := by
  unfold compactL; rw [List.foldl_append]; rfl
theorem stepC_last (acc : List S23) (y : S23) : (stepC acc y).getLast? = some y := by
  unfold stepC
  split
  · rename_i x hx
    split
    · rename_i h; rw [hx, eqPt_iff.1 h]
    · simp
  · simp
theorem compactL_last (l : List S23) (y : S23) : (compactL (l ++ [y])).getLast? = some y := by
  rw [compactL_snoc, stepC_last]
theorem take_succ_rd (xs : List S23) {i : Nat} (h : i < xs.length) : xs.take (i + 1) = xs.take i ++ [rd_T23 xs (i : Int)] := by
  rw [List.take_add_one, List.getElem?_eq_getElem h]
  simp [rd_T23, h]
theorem stepC_eq {acc : List S23} {x y : S23} (h : acc.getLast? = some x) : stepC acc y = if eqPt x y = true then acc else acc ++ [y] := by
  unfold stepC; rw [h]
theorem compactL_step (xs : List S23) {i : Nat} (h1 : 0 < i) (h : i < xs.length) :
    compactL (xs.take (i + 1)) = if eqPt (rd_T23 xs ((i - 1 : Nat) : Int)) (rd_T23 xs (i : Int)) = true then compactL (xs.take i) else compactL (xs.take i) ++ [rd_T23 xs (i : Int)] := by
  rw [take_succ_rd xs h, compactL_snoc]
  obtain ⟨j, rfl⟩ : ∃ j, i = j + 1 := ⟨i - 1, by omega⟩
  exact stepC_eq (by rw [take_succ_rd xs (i := j) (by omega)]; exact compactL_last _ _)
theorem compactL_one (xs : List S23) (h : 0 < xs.length) : compactL (xs.take 1) = xs.take 1 := by
  obtain ⟨x, t, rfl⟩ : ∃ x t, xs = x :: t := by cases xs with | nil => simp at h | cons x t => exact ⟨x, t, rfl⟩
  rfl
structure CI (xs ys : List S23) (q m : Nat) : Prop where
  len : ys.length = xs.length
  low : 1 ≤ m
  le : m + 1 ≤ q
  qle : q ≤ xs.length
  head : ys.take m = compactL (xs.take q)
  tail : ∀ i, q ≤ i + 1 → rd_T23 ys (i : Int) = rd_T23 xs (i : Int)
theorem CI.start {xs : List S23} {k : Nat} (h1 : 1 ≤ k) (hk : k < xs.length) (h : compactL (xs.take k) = xs.take k) (he : eqPt (rd_T23 xs ((k - 1 : Nat) : Int)) (rd_T23 xs (k : Int)) = true) : CI xs xs (k + 1) k :=
  ⟨rfl, h1, Nat.le_refl _, hk, by rw [compactL_step xs (by omega) hk, if_pos he, h], fun _ _ => rfl⟩
theorem CI.same {xs ys : List S23} {q m : Nat} (h : CI xs ys q m) (hq : q < xs.length) (he : eqPt (rd_T23 xs ((q - 1 : Nat) : Int)) (rd_T23 xs (q : Int)) = true) : CI xs ys (q + 1) m :=
  ⟨h.len, h.low, by have := h.le; omega, hq, by rw [compactL_step xs (by have := h.le; omega) hq, if_pos he, h.head], fun i hi => h.tail i (by omega)⟩
theorem rd_set_ne (ys : List S23) (m : Nat) (x : S23) (i : Nat) (h : m ≠ i) : rd_T23 (ys.set m x) (i : Int) = rd_T23 ys (i : Int) := by
  simp [rd_T23, List.getElem?_set_ne h]
theorem CI.put {xs ys : List S23} {q m : Nat} (h : CI xs ys q m) (hq : q < xs.length) (he : eqPt (rd_T23 xs ((q - 1 : Nat) : Int)) (rd_T23 xs (q : Int)) = false) : CI xs (ys.set m (rd_T23 xs (q : Int))) (q + 1) (m + 1) := by
  have hl := h.le
  refine ⟨by rw [List.length_set]; exact h.len, by omega, by omega, hq, ?_, fun i hi => ?_⟩
  · rw [compactL_step xs (by omega) hq, if_neg (by rw [he]; simp), ← h.head]
    have hm : m < ys.length := by rw [h.len]; omega
    rw [List.take_add_one, List.getElem?_set_self (by omega)]
    simp [List.take_set_of_le]
  · rw [rd_set_ne _ _ _ _ (by omega)]
    exact h.tail i (by omega)
end Go.Proofs.Ytckaejgamfllfaa.G
end

section
namespace Go.Proofs.Ytckaejgamfllfaa.G
open Go.RowKit Go.Proofs.YtckaejgamfllfaaW.PrintWords Go.Proofs.YtckaejgamfllfaaW.PrintLast Go.Proofs.YtckaejgamfllfaaW.PrintMore
set_option linter.unusedVariables false
set_option linter.unusedSimpArgs false
theorem R_tail_set {α : Type} {d : Kd α} {e base g n cap : Nat} {ok : Nat → Prop} {W : World} {xs : List α} (h : d.R e W base ok (.slice (some ⟨g, 0, none⟩) n cap) xs) {m : Nat} (hm : m ≤ xs.length) (seg : List Value) (hs : m * d.sz + seg.length ≤ n * d.sz) :
    d.R e (W.setCells g (m * d.sz) seg) base ok (.slice (some ⟨g, 0, none⟩) m cap) (xs.take m) ∧ W.grownBy (W.setCells g (m * d.sz) seg) (some g) := by
  obtain ⟨hn, hnc, _⟩ := Kd.R_reads' h
  have h2 := Kd.R_take h hm
  obtain ⟨hok, inner, ⟨ho1, ho2⟩, hr⟩ := h2
  rcases ho2 with ⟨hv, _⟩ | ⟨g', cap', cur, hv, hb, hh, hnc', hcm, hcs, ht⟩
  · cases hv
  injection hv with ha _ hc
  injection ha with ha
  injection ha with hg
  subst hg; subst hc
  have hml : (xs.take m).length = m := by rw [List.length_take]; omega
  have hfit : m * d.sz + seg.length ≤ cur.size := by
    have : n * d.sz ≤ cap * d.sz := Nat.mul_le_mul_right _ hnc
    omega
  obtain ⟨cur', h3, h4, h5⟩ := setCells_row seg (m * d.sz) W cur hh hfit
  obtain ⟨s1, s2, s3, s4⟩ := setCells_same g seg (m * d.sz) W
  have hfar : ∀ k, k ≠ g → (W.setCells g (m * d.sz) seg).heap[k]? = W.heap[k]? := fun k hk => setCells_far seg _ k hk
  refine ⟨⟨hok, inner, ⟨ho1, .inr ⟨g, cap, cur', by rw [hml], hb, h3, hnc', hcm, by rw [h4, hcs], ?_⟩⟩, ?_⟩, ⟨s1, s2, s3, by rw [s4]; exact Nat.le_refl _, fun k _ hk => hfar k (fun he => hk (by rw [he]))⟩⟩
  · rw [hml] at ht ⊢
    rw [h5, ← ht, List.append_assoc, List.take_append_of_le_length (by rw [List.length_take, Array.length_toList]; omega), List.take_take, Nat.min_self]
  · refine hr.imp_ (fun p c hp => d.M_move (fun k hk => hfar k (fun he => hk.2 (by rw [he]; simp [Value.ownBlock]))) hp)
theorem run_clear23 (w : World) (ty : TypeId) (b o n c : Nat) (hn : 0 < n)
    (hc : ∀ j, j < n * 2 → (w.cell? ⟨b, o + j, none⟩).isSome = true) (hf : ∀ j, j < n * 2 → w.frozen? ⟨b, o + j, none⟩ = false) :
    (Builtin.clear_ #[39] ty #[.slice (some ⟨b, o, none⟩) n c]).run Try.prog w = .ok (.tuple #[]) (w.setCells b o (List.replicate (n * 2) (.int .i64 0))) := by
  have hv : ∀ w, (zeroValue 23).run Try.prog w = .ok (.agg #[.int .i64 0, .int .i64 0]) w := fun w => by
    go_simp
    done
  have hzc : (Builtin.zeroCells (Value.agg #[.int .i64 0, .int .i64 0]).cells n).toList = List.replicate (n * 2) (.int .i64 0) := by
    simp only [Builtin.zeroCells, Value.cells]
    apply List.ext_getElem
    · simp
    · intro i h1 h2
      have : i % 2 = 0 ∨ i % 2 = 1 := by omega
      rcases this with h | h <;> simp [h]
  have hst := run_storeCells_cells (P := Try.prog) b o (List.replicate (n * 2) (.int .i64 0)) 0 w (by simpa using hc) (by simpa using hf) (by intro v hv'; rw [List.eq_of_mem_replicate hv']; rfl)
  simp only [Nat.add_zero] at hst
  obtain ⟨m, rfl⟩ : ∃ m, n = m + 1 := ⟨n - 1, by omega⟩
  simp [Builtin.clear_, run_underlying Try.underlying39, hv, hzc, hst]
end Go.Proofs.Ytckaejgamfllfaa.G
end

section
namespace Go.Proofs.Ytckaejgamfllfaa.G
open Go.RowKit Go.Proofs.YtckaejgamfllfaaW.PrintWords Go.Proofs.YtckaejgamfllfaaW.PrintLast Go.Proofs.YtckaejgamfllfaaW.PrintMore
attribute [local go_sem] max2_int min2_int max_two min_two max_three min_three max_four min_four
set_option linter.unusedVariables false
set_option linter.unusedSimpArgs false
theorem eqA23 (d : Nat) (w : World) (x0 y0 : Int) (x1 y1 : Int) :
    (Op.equalIn (d + 2) 23 (.agg #[.int .i64 x0, .int .i64 x1]) (.agg #[.int .i64 y0, .int .i64 y1])).run Try.prog w = .ok (x0 == y0 && (x1 == y1)) w := by
  refine eqA_of Try.underlying23 (by kernel_rfl) ?_
  refine eqf_cons (by rfl) (by go_simp; rfl) (by go_simp; rfl) (by go_simp) ?_
  exact eqf_last (by rfl) (by go_simp; rfl) (by go_simp; rfl) (by go_simp)
end Go.Proofs.Ytckaejgamfllfaa.G
end

section
namespace Go.Proofs.Ytckaejgamfllfaa.G
open Go.RowKit Go.Proofs.YtckaejgamfllfaaW.PrintWords Go.Proofs.YtckaejgamfllfaaW.PrintLast Go.Proofs.YtckaejgamfllfaaW.PrintMore
attribute [local go_sem high] eqA23
set_option linter.unusedVariables false
set_option linter.unusedSimpArgs false
theorem wsub1 (j : Nat) (h : 1 ≤ j) (h2 : j ≤ 10000) : IntKind.i64.wrap ((j : Int) - 1) = ((j - 1 : Nat) : Int) := by rw [IntKind.wrap_i64]; omega
theorem wadd1 (j : Nat) (h2 : j ≤ 10000) : wrap64 ((j : Int) + 1) = ((j + 1 : Nat) : Int) := by rw [← i64_w, IntKind.wrap_i64]; omega
set_option maxHeartbeats 8000000 in
set_option maxRecDepth 100000 in
theorem compact_calls (g c base : Nat) (xs : List S23) (w : World) (HO : Kd.R k23 23 w base (fun _ => True) (.slice (some ⟨g, 0, none⟩) xs.length c) xs) (hl : xs.length ≤ 1000) (hp : 0 < xs.length) :
    Calls Try.prog 107 #[.slice (some ⟨g, 0, none⟩) xs.length c] w fun e w' => e = .returned (.slice (some ⟨g, 0, none⟩) (compactL xs).length c) ∧ Kd.R k23 23 w' base (fun _ => True) (.slice (some ⟨g, 0, none⟩) (compactL xs).length c) (compactL xs) ∧ w.grownBy w' (some g) := by
  have hu39 := Try.underlying39
  have hu23 := Try.underlying23
  have hc : xs.length ≤ c := (Kd.R_reads' HO).2.1
  have H0 := Aside0.mk HO
  have HL := Aside0.mk hl
  clear HO hl
  obtain ⟨n, hn⟩ : ∃ n, n = xs.length := ⟨_, rfl⟩
  have HN := Aside0.mk hn
  rw [← hn] at hp hc ⊢
  clear hn
  go_enter Try.func107, Try.ntmps107
  by_cases h2 : n < 2
  · have hd : decide ((n : Int) < 2) = true := decide_eq_true (by omega)
    go_wp2
    go_ret
    have h1 : n = 1 := by omega
    have he : compactL xs = xs := by
      have := compactL_one xs (by rw [← HN.out]; omega)
      rwa [List.take_of_length_le (by rw [← HN.out]; omega)] at this
    rw [he, ← HN.out]
    refine ⟨rfl, ?_, ?_⟩
    · rw [HN.out]; exact Kd.R_below H0.out (by repeat (with_reducible first | exact Below.refl _ _ | apply below_alloc | apply pw_below_drewN | apply below_drew1))
    · exact World.grownBy.refl _ _
  · have hd : decide ((n : Int) < 2) = false := decide_eq_false (by omega)
    go_wp2
    go_loopw [3] (fun v3 wr => ∃ k : Nat, 1 ≤ k ∧ k ≤ n ∧ v3 = .int .i64 k ∧ Aside0 (compactL (xs.take k) = xs.take k) ∧ Aside0 (Kd.R k23 23 wr base (fun _ => True) (.slice (some ⟨g, 0, none⟩) xs.length c) xs) ∧ Aside0 (w.grownBy wr (some g))) (fun v3 _ => n - (intOf v3).toNat)
    case atStart => exact ⟨1, by omega, by omega, rfl, ⟨compactL_one xs (by rw [← HN.out]; omega)⟩, ⟨Kd.R_below H0.out (by repeat (with_reducible first | exact Below.refl _ _ | apply below_alloc | apply pw_below_drewN | apply below_drew1))⟩, ⟨World.grownBy.refl _ _⟩⟩
    case round =>
      obtain ⟨k, hk1, hkn, rfl, HI, HR, HG⟩ := hrel
      by_cases hlt : k < n
      · have hltz : decide ((k : Int) < (n : Int)) = true := decide_eq_true (by omega)
        have hlt' : k < xs.length := by rw [← HN.out]; omega
        obtain ⟨ad, e1, x0, x1⟩ := at_T23 (Kd.R_reads' HR.out).2.2 (k : Int) (by omega) (by omega)
        cases e1
        obtain ⟨ad, e2, y0, y1⟩ := at_T23 (Kd.R_reads' HR.out).2.2 ((k - 1 : Nat) : Int) (by omega) (by omega)
        cases e2
        simp only [add_plain, Int.toNat_natCast] at x0 x1 y0 y1
        have q1 : (0 : Int) ≤ ((k - 1 : Nat) : Int) := by omega
        have q2 : ((k - 1 : Nat) : Int) < (n : Int) := by omega
        cases hb : eqPt (rd_T23 xs (k : Int)) (rd_T23 xs ((k - 1 : Nat) : Int)) with
        | false =>
          have hbb : (((rd_T23 xs (k : Int)).f0 == (rd_T23 xs ((k - 1 : Nat) : Int)).f0) && ((rd_T23 xs (k : Int)).f1 == (rd_T23 xs ((k - 1 : Nat) : Int)).f1)) = false := hb
          have hb' : eqPt (rd_T23 xs ((k - 1 : Nat) : Int)) (rd_T23 xs (k : Int)) = false := by rw [eqPt_false] at hb ⊢; exact Ne.symm hb
          have HI2 := Aside0.mk (show compactL (xs.take (k + 1)) = xs.take (k + 1) by
            rw [compactL_step xs (by omega) hlt', if_neg (by rw [hb']; simp), HI.out, take_succ_rd xs hlt'])
          clear hb hb' hlt'
          have hk10 : k ≤ 10000 := by have := HL.out; have := HN.out; omega
          have hs := wadd1 k hk10
          have hw := wsub1 k hk1 hk10
          clear hk10
          go_upto_region 6 with fail
          go_region
          all_goals (first | (go_wp2; done) | go_wp2 | skip)
          all_goals (try (go_roundw))
          case rel => have hs1 := Aside0.mk hs; clear hs hw; exact ⟨k + 1, by omega, by omega, by rw [hs1.out], HI2, ⟨Kd.R_below HR.out (by repeat (with_reducible first | exact Below.refl _ _ | apply below_alloc | apply pw_below_drewN | apply below_drew1))⟩, ⟨HG.out.trans ⟨rfl, rfl, rfl, Nat.le_refl _, fun _ _ _ => rfl⟩⟩⟩
          case measure => rw [hs]; clear hs hw; simp only [intOf, Int.toNat_natCast]; omega
        | true =>
          have hbb : (((rd_T23 xs (k : Int)).f0 == (rd_T23 xs ((k - 1 : Nat) : Int)).f0) && ((rd_T23 xs (k : Int)).f1 == (rd_T23 xs ((k - 1 : Nat) : Int)).f1)) = true := hb
          have hb' : eqPt (rd_T23 xs ((k - 1 : Nat) : Int)) (rd_T23 xs (k : Int)) = true := by rw [eqPt_iff] at hb ⊢; exact hb.symm
          have HC0 := Aside0.mk (CI.start hk1 hlt' HI.out hb')
          have hk10 : k ≤ 10000 := by have := HL.out; have := HN.out; omega
          have hw := wsub1 k hk1 hk10
          clear hk10
          clear hb hb' hlt'
          go_upto_region 6 with fail
          go_region
          all_goals (first | (go_wp2; done) | go_wp2 | skip)
          go_loopw [3, 5] (fun v3 v5 wq => ∃ (m j : Nat) (ys : List S23), 1 ≤ j ∧ k + j ≤ n ∧ v3 = .int .i64 m ∧ v5 = .int .i64 j ∧ Aside0 (CI xs ys (k + j) m) ∧ Aside0 (Kd.R k23 23 wq base (fun _ => True) (.slice (some ⟨g, 0, none⟩) ys.length c) ys) ∧ Aside0 (w.grownBy wq (some g))) (fun _ v5 _ => n - (intOf v5).toNat)
          case atStart => exact ⟨k, 1, xs, by omega, by omega, rfl, rfl, HC0, ⟨Kd.R_below HR.out (by repeat (with_reducible first | exact Below.refl _ _ | apply below_alloc | apply pw_below_drewN | apply below_drew1))⟩, ⟨HG.out.trans ⟨rfl, rfl, rfl, Nat.le_refl _, fun _ _ _ => rfl⟩⟩⟩
          case round =>
            clear HC0 x0 x1 y0 y1 hw q1 q2 hbb HI HR HG hltz
            obtain ⟨m, j, ys, hj1, hjn, rfl, rfl, HI, HR, HG⟩ := hrel
            by_cases hlt2 : k + j < n
            · have hlz : decide ((j : Int) < ((n - k : Nat) : Int)) = true := decide_eq_true (by omega)
              have hyl : ys.length = n := by rw [HI.out.len, HN.out]
              obtain ⟨q, hq⟩ : ∃ q, q = k + j := ⟨_, rfl⟩
              obtain ⟨p, hpq⟩ : ∃ p, p = k + j - 1 := ⟨_, rfl⟩
              have hpq1 : q - 1 = p := by omega
              obtain ⟨ad, e1, x0, x1⟩ := at_T23 (Kd.R_reads' HR.out).2.2 (q : Int) (by omega) (by omega)
              cases e1
              obtain ⟨ad, e2, y0, y1⟩ := at_T23 (Kd.R_reads' HR.out).2.2 (p : Int) (by omega) (by omega)
              cases e2
              rw [← hq] at HI
              rw [HI.out.tail _ (by omega)] at x0 x1 y0 y1
              simp only [add_plain, Int.toNat_natCast] at x0 x1 y0 y1
              have a1 : q * 2 = k * 2 + j * 2 := by omega
              have a3 : p * 2 = k * 2 + (j - 1) * 2 := by omega
              rw [a1] at x0 x1
              rw [a3] at y0 y1
              clear a1 a3
              have q1 : (0 : Int) ≤ ((j - 1 : Nat) : Int) := by omega
              have q2 : ((j - 1 : Nat) : Int) < ((n - k : Nat) : Int) := by omega
              have q3 : (j : Int) < ((n - k : Nat) : Int) := by omega
              have hj10 : j ≤ 10000 := by have := HL.out; have := HN.out; omega
              cases hb : eqPt (rd_T23 xs (q : Int)) (rd_T23 xs (p : Int)) with
              | true =>
                have hbb : (((rd_T23 xs (q : Int)).f0 == (rd_T23 xs (p : Int)).f0) && ((rd_T23 xs (q : Int)).f1 == (rd_T23 xs (p : Int)).f1)) = true := hb
                have hb' : eqPt (rd_T23 xs (p : Int)) (rd_T23 xs (q : Int)) = true := by rw [eqPt_iff] at hb ⊢; exact hb.symm
                have HC := Aside0.mk (HI.out.same (by rw [← HN.out]; omega) (by rw [hpq1]; exact hb'))
                have HQ := Aside0.mk hq
                have hs := wadd1 j hj10
                have hw := wsub1 j hj1 hj10
                clear hb hb' hyl hq hpq hpq1 hj10
                go_upto_region 11 with fail
                go_region
                all_goals (first | (go_wp2; done) | go_wp2 | skip)
                all_goals (try (go_roundw))
                case rel =>
                  have hs1 := Aside0.mk hs
                  clear hs hw
                  have hjq : k + (j + 1) = q + 1 := by have := HQ.out; omega
                  exact ⟨m, j + 1, ys, by omega, by omega, rfl, by rw [hs1.out], by rw [hjq]; exact HC, ⟨Kd.R_below HR.out (by repeat (with_reducible first | exact Below.refl _ _ | apply below_alloc | apply pw_below_drewN | apply below_drew1))⟩, ⟨HG.out.trans ⟨rfl, rfl, rfl, Nat.le_refl _, fun _ _ _ => rfl⟩⟩⟩
                case measure => rw [hs]; clear hs hw; (try clear hms); simp only [intOf, Int.toNat_natCast]; omega
              | false =>
                have hbb : (((rd_T23 xs (q : Int)).f0 == (rd_T23 xs (p : Int)).f0) && ((rd_T23 xs (q : Int)).f1 == (rd_T23 xs (p : Int)).f1)) = false := hb
                have hb' : eqPt (rd_T23 xs (p : Int)) (rd_T23 xs (q : Int)) = false := by rw [eqPt_false] at hb ⊢; exact Ne.symm hb
                have HC := Aside0.mk (HI.out.put (by rw [← HN.out]; omega) (by rw [hpq1]; exact hb'))
                have hm1 : m < n := by have := HI.out.le; omega
                have hm10 : m ≤ 10000 := by have := HL.out; have := HN.out; omega
                obtain ⟨ce, hcl, hM, hcc, hfr⟩ := Kd.R_elem HR.out z23 (m : Int) (by omega) (by omega)
                obtain rfl := k23_openM hM
                have z0 : wr.cell? ⟨g, m * 2, none⟩ = some _ := hcc 0 _ rfl
                have z1 : wr.cell? ⟨g, m * 2 + 1, none⟩ = some _ := hcc 1 _ rfl
                have f0 : wr.frozen? ⟨g, m * 2, none⟩ = false := hfr 0
                have f1 : wr.frozen? ⟨g, m * 2 + 1, none⟩ = false := hfr 1
                have HP := Kd.R_seg HR.out (m : Int) (by omega) (by omega) (seg := [.int .i64 (rd_T23 xs (q : Int)).f0, .int .i64 (rd_T23 xs (q : Int)).f1]) (j := 0) hcl hcc (show 2 ≤ 2 from by decide) (x' := rd_T23 xs (q : Int)) (k23_mkM _ _ _ _) (fun _ hk => hk)
                have HQ := Aside0.mk hq
                have HP2 := Aside0.mk HP
                have qm1 : (0 : Int) ≤ (m : Int) := by omega
                have qm2 : (m : Int) < (n : Int) := by omega
                have hs := wadd1 j hj10
                have hw := wsub1 j hj1 hj10
                have hms := wadd1 m hm10
                clear hb hb' hyl hq hpq hpq1 hcc hfr hcl hM HP hj10 hm10
                go_upto_region 11 with fail
                go_region
                all_goals (first | (go_wp2; done) | go_wp2 | skip)
                all_goals (try (go_roundw))
                case rel =>
                  have hs1 := Aside0.mk hs
                  have hs2 := Aside0.mk hms
                  clear hs hw hms
                  have hjq : k + (j + 1) = q + 1 := by have := HQ.out; omega
                  have h3 := HP2.out
                  rw [show ((m : Int)).toNat = m from rfl] at h3
                  simp only [World.setCells, Nat.add_zero, show k23.sz = 2 from rfl] at h3
                  exact ⟨m + 1, j + 1, ys.set m (rd_T23 xs (q : Int)), by omega, by omega, by rw [hs2.out], by rw [hs1.out], by rw [hjq]; exact HC, ⟨by rw [List.length_set]; exact Kd.R_below h3.1 (by repeat (with_reducible first | exact Below.refl _ _ | apply below_alloc | apply pw_below_drewN | apply below_drew1))⟩, ⟨(HG.out.trans h3.2).trans ⟨rfl, rfl, rfl, Nat.le_refl _, fun _ _ _ => rfl⟩⟩⟩
                case measure => rw [hs]; clear hs hw; (try clear hms); simp only [intOf, Int.toNat_natCast]; omega
            · have hkj : k + j = n := by omega
              rw [hkj] at HI
              have hyl : ys.length = n := by rw [HI.out.len, HN.out]
              have hm0 : m ≤ n := by have := HI.out.le; omega
              have hm1 : m < n := by have := HI.out.le; omega
              have hlz : decide ((j : Int) < ((n - k : Nat) : Int)) = false := decide_eq_false (by omega)
              have hlz2 : decide (j < n - k) = false := decide_eq_false (by omega)
              have hhead := HI.out.head
              rw [show xs.take n = xs from List.take_of_length_le (by rw [HN.out]; exact Nat.le_refl _)] at hhead
              have hlen : (compactL xs).length = m := by rw [← hhead, List.length_take, hyl]; omega
              have HE := R_tail_set HR.out (m := m) (by omega) (List.replicate ((n - m) * 2) (.int .i64 0)) (by rw [List.length_replicate, hyl, show k23.sz = 2 from rfl]; omega)
              rw [show k23.sz = 2 from rfl] at HE
              have HE2 := Aside0.mk HE
              have hclr := fun (ty : TypeId) => run_clear23 wr ty g (m * 2) (n - m) (c - m) (by omega) (fun i hi => by
                obtain ⟨ce, hcl, hM, hcc, hfr⟩ := Kd.R_elem HR.out z23 ((m + i / 2 : Nat) : Int) (by omega) (by omega)
                obtain rfl := k23_openM hM
                rcases Nat.mod_two_eq_zero_or_one i with h | h
                · have := hcc 0 _ rfl
                  rw [show (((m + i / 2 : Nat) : Int)).toNat * k23.sz + 0 = m * 2 + i by rw [show k23.sz = 2 from rfl]; omega] at this
                  rw [this]; rfl
                · have := hcc 1 _ rfl
                  rw [show (((m + i / 2 : Nat) : Int)).toNat * k23.sz + 1 = m * 2 + i by rw [show k23.sz = 2 from rfl]; omega] at this
                  rw [this]; rfl) (fun i hi => by
                obtain ⟨ce, hcl, hM, hcc, hfr⟩ := Kd.R_elem HR.out z23 (m : Int) (by omega) (by omega)
                have := hfr i
                rwa [show ((m : Int)).toNat * k23.sz + i = m * 2 + i by rw [show k23.sz = 2 from rfl]; omega] at this)
              go_wp2
              go_ret
              rw [hlen]
              refine ⟨rfl, ?_, HG.out.trans HE2.out.2⟩
              rw [← hhead]
              exact HE2.out.1
      · have hkn2 : k = n := by omega
        subst hkn2
        have hltz : decide ((k : Int) < (k : Int)) = false := decide_eq_false (by omega)
        have he : compactL xs = xs := by have := HI.out; rwa [List.take_of_length_le (by rw [HN.out]; exact Nat.le_refl _)] at this
        go_wp2
        go_ret
        rw [he, ← HN.out]
        refine ⟨rfl, ?_, ?_⟩
        · rw [HN.out]; exact Kd.R_below HR.out (by repeat (with_reducible first | exact Below.refl _ _ | apply below_alloc | apply pw_below_drewN | apply below_drew1))
        · exact HG.out.trans ⟨rfl, rfl, rfl, Nat.le_refl _, fun _ _ _ => rfl⟩
end Go.Proofs.Ytckaejgamfllfaa.G
end
