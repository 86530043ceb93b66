/- Part 2 of 2. -/
import Derived.Test.YtckaejgamfllfaaC12a
import Derived.Test.YtckaejgamfllfaaRows
import Derived.WalkKit
import Derived.ProofKit
import Derived.OpenShut
import Derived.ShutString
import Derived.ChangeOld
import Derived.Below
import Derived.SizedLaws
section
namespace Go.Proofs.Ytckaejgamfllfaa.planeSpreadsAsSpecified
open Go.ChangeShapes Go.WideShapes Go.ChangeAt Go.RowKit Go.Proofs.Ytckaejgamfllfaa.G
set_option linter.unusedVariables false
theorem own : ownKnob Try.prog.godebug = none := by kernel_rfl
theorem laidOut : laidOutB Try.prog = true := by kernel_rfl
set_option maxRecDepth 100000 in
theorem lifted (os : Os) (started : os.Started) (H : Type) (enc : TypeId × Value → H) :
    ReturnsInHanded {} Try.checked os 12 .any (Rows.planeSpreadsAsSpecifiedSpec.pre6 enc Try.prog Try.f12 Rows.planeSpreadsAsSpecifiedRow.domain false) (Rows.planeSpreadsAsSpecifiedSpec.post enc Try.prog Try.f12 false true false false) := by
  refine returnsInHanded_of_change_sized (C := Try.checked) own started (by kernel_rfl) Try.func12
    (ChangeSpec.witness6 (enc := enc) (C := Try.checked) false ⟨#[], #[.agg #[.int .i64 0, .int .i64 0, .int .i64 0, .int .i64 0], .agg #[.int .i64 0, .int .i64 0, .int .i64 0, .int .i64 0], .agg #[.int .i64 0, .int .i64 0, .int .i64 0, .int .i64 0]], []⟩ 8 (by kernel_rfl) (by kernel_rfl) (by kernel_rfl) (by kernel_rfl)) ?_
  intro W base args ds gs before hval0 hW hcnd hsz0 _
  have hsz : (DataW.weightsEach Try.prog (Try.f12.params.toList ++ Rows.planeSpreadsAsSpecifiedSpec.plain.varTypes Try.prog) (ds ++ gs)).all (· ≤ reachBytes) = true := hsz0
  have hval : ∀ (j : Nat) t v, Try.f12.params[j]? = some t → args[j]? = some v → Value.okWide Try.prog W .any base t v := hval0
  have hW' := hW
  obtain ⟨p, q, hA0, hV, rfl, hfz, hnd⟩ := hW
  have hA : DataW.TrodAll enc Try.prog W 0 (fun _ => true) true Try.f12.params.toList args.toList ds p := hA0
  rw [Try.params12] at hA hval hsz
  obtain ⟨v0, vs0, d0, ds0, p0, q0, hargs, rfl, rfl, h0, r0⟩ := trodAll_cons hA
  obtain ⟨v1, vs1, d1, ds1, p1, q1, rfl, rfl, rfl, h1, r1⟩ := trodAll_cons r0
  obtain ⟨v2, vs2, d2, ds2, p2, q2, rfl, rfl, rfl, h2, r2⟩ := trodAll_cons r1
  obtain ⟨rfl, rfl, rfl⟩ := trodAll_nil r2
  obtain rfl : args = #[v0, v1, v2] := by cases args; simp_all
  obtain ⟨rfl, rfl⟩ := trodVars_none hV
  have k0 := h0
  have lt0 : ∀ x ∈ p0, x.block < W.heap.size := by obtain ⟨m, hm⟩ := k0; exact DataW.trod_lt m _ _ _ hm
  obtain ⟨a0, b0, c0, e0, rfl, w0, u0⟩ := open_box (hval 0 52 v0 rfl rfl) h0
  have k1 := h1
  have lt1 : ∀ x ∈ p1, x.block < W.heap.size := by obtain ⟨m, hm⟩ := k1; exact DataW.trod_lt m _ _ _ hm
  obtain ⟨a1, b1, c1, e1, rfl, w1, u1⟩ := open_box (hval 1 52 v1 rfl rfl) h1
  have k2 := h2
  have lt2 : ∀ x ∈ p2, x.block < W.heap.size := by obtain ⟨m, hm⟩ := k2; exact DataW.trod_lt m _ _ _ hm
  obtain ⟨a2, b2, c2, e2, rfl, w2, u2⟩ := open_box (hval 2 52 v2 rfl rfl) h2
  clear hA0 hval0 hsz0 hsz
  obtain ⟨K, hP⟩ : ∃ K, boundstonelaw02_PlaneSpreadsAsSpecified.f K a0 b0 c0 e0 a1 b1 c1 e1 a2 b2 c2 e2 = some true := ⟨200, (fun a b c d e f g h i j k l _ _ _ _ _ _ => law12 a b c d e f g h i j k l) a0 b0 c0 e0 a1 b1 c1 e1 a2 b2 c2 e2 w0 u0 w1 u1 w2 u2⟩
  refine (boundstonelaw02_PlaneSpreadsAsSpecified.calls K a0 b0 c0 e0 a1 b1 c1 e1 a2 b2 c2 e2 true W  hP).mono fun e W' ⟨he, bel⟩ => ?_
  subst he
  exact ⟨_, rfl, _, _, _, [], _, [], hW', trodAll_mk1 (shut_bool Try.underlying4 _), (trodAll_cons_mk (Below.trod laidOut (by kernel_rfl) (of_decide_eq_true (by kernel_rfl)) k0 bel lt0) (trodAll_cons_mk (Below.trod laidOut (by kernel_rfl) (of_decide_eq_true (by kernel_rfl)) k1 bel lt1) (trodAll_cons_mk (Below.trod laidOut (by kernel_rfl) (of_decide_eq_true (by kernel_rfl)) k2 bel lt2) trodAll_mk0))), rfl, bel.frame _, fun h => by cases h⟩
theorem named : Try.pinned.checked.prog.funcNamed Rows.planeSpreadsAsSpecifiedRow.func = some 12 := by kernel_rfl
theorem both {a b : Bool} (h : a = true) (k : b = true) : (a && b) = true := by rw [h, k]; rfl
theorem facts0 : ((Rows.planeSpreadsAsSpecifiedRow.wf (OpenSpec.ofChange Rows.planeSpreadsAsSpecifiedSpec))) = true := by kernel_rfl
theorem facts1 : ((laidOutB Try.pinned.checked.prog) && (mapsRowed Try.pinned.checked.prog) && (Try.f12.params.all (Try.pinned.checked.prog.readableRec ·)) && (namedTie Try.pinned.checked.prog Rows.planeSpreadsAsSpecifiedRow.named Rows.planeSpreadsAsSpecifiedSpec.vars) && ((Rows.planeSpreadsAsSpecifiedRow.stops == [])) && ((Try.pinned.checked.prog.stops == [])) && ((Rows.planeSpreadsAsSpecifiedRow.knobs == []))) = true := by kernel_rfl
theorem facts2 : (((Try.pinned.checked.prog.stopKnobs == []))) = true := by kernel_rfl
theorem facts3 : (((Rows.planeSpreadsAsSpecifiedRow.inPlace == Try.pinned.checked.prog.inPlace 12))) = true := by kernel_rfl
theorem facts4 : (((Rows.planeSpreadsAsSpecifiedRow.unfollowed == Try.pinned.checked.prog.unfollowed 12))) = true := by kernel_rfl
theorem facts5 : (((Rows.planeSpreadsAsSpecifiedRow.recurses == Try.pinned.checked.prog.recurses 12))) = true := by kernel_rfl
theorem facts6 : (((Rows.planeSpreadsAsSpecifiedRow.named == Try.pinned.checked.prog.varsNamed 12))) = true := by kernel_rfl
theorem facts7 : (((Rows.planeSpreadsAsSpecifiedRow.maps == (Try.f12.params.toList ++ Rows.planeSpreadsAsSpecifiedSpec.plain.varTypes Try.pinned.checked.prog).any (Try.pinned.checked.prog.mapsRec ·))) && ((Rows.planeSpreadsAsSpecifiedRow.ifaces == (Try.f12.params.toList ++ Rows.planeSpreadsAsSpecifiedSpec.plain.varTypes Try.pinned.checked.prog).any (Try.pinned.checked.prog.ifacesRec ·))) && ((Rows.planeSpreadsAsSpecifiedRow.mapsOut == Try.pinned.checked.prog.mapsAmong Try.f12.resultTypes.toList)) && ((Rows.planeSpreadsAsSpecifiedRow.loops == (Try.f12.params.toList ++ Rows.planeSpreadsAsSpecifiedSpec.plain.varTypes Try.pinned.checked.prog).any (Try.pinned.checked.prog.loopsFrom ·))) && ((Rows.planeSpreadsAsSpecifiedRow.wideKeys == (Try.f12.params.toList ++ Rows.planeSpreadsAsSpecifiedSpec.plain.varTypes Try.pinned.checked.prog ++ Try.f12.resultTypes.toList).any (Try.pinned.checked.prog.wideKeysFrom ·))) && (Rows.planeSpreadsAsSpecifiedSpec.vars.all (Try.pinned.checked.prog.varReadable ·)) && (Try.f12.resultTypes.all (fun t => Try.pinned.checked.prog.readableRec t && decide (t < Try.pinned.checked.prog.types.size))) && ((Rows.planeSpreadsAsSpecifiedRow.ifacesOut == Try.f12.resultTypes.toList.any (Try.pinned.checked.prog.ifacesRec ·))) && ((Rows.planeSpreadsAsSpecifiedRow.loopsOut == Try.f12.resultTypes.toList.any (Try.pinned.checked.prog.loopsFrom ·)))) = true := by kernel_rfl
theorem facts8 : (((Rows.planeSpreadsAsSpecifiedRow.plainKeys == Try.pinned.checked.prog.plainKeys)) && (Rows.planeSpreadsAsSpecifiedRow.shortTexts.isNone) && (Try.pinned.checked.prog.stopsHeard) && (Try.pinned.checked.prog.mayEnter) && ((Rows.planeSpreadsAsSpecifiedRow.lifted == Try.pinned.checked.prog.liftsFinal)) && ((Try.pinned.checked.prog.make == some Rows.planeSpreadsAsSpecifiedRow.make)) && ((Rows.planeSpreadsAsSpecifiedRow.kinds == (if Rows.planeSpreadsAsSpecifiedRow.domain.isEmpty then [] else Try.f12.params.toList.map fun t => match Try.pinned.checked.prog.underlying t with | some (.int k) => some k | _ => none))) && ((Rows.planeSpreadsAsSpecifiedRow.pinned == Rows.planeSpreadsAsSpecifiedRow.pinnedBy)) && ((Rows.planeSpreadsAsSpecifiedRow.veiled == (Try.f12.params.toList ++ Rows.planeSpreadsAsSpecifiedSpec.plain.varTypes Try.pinned.checked.prog ++ Try.f12.resultTypes.toList).any (Try.pinned.checked.prog.veiledRec ·))) && (Rows.planeSpreadsAsSpecifiedRow.veiledFits Try.pinned.checked.prog Try.f12.params.toList (Try.f12.params.toList ++ Rows.planeSpreadsAsSpecifiedSpec.plain.varTypes Try.pinned.checked.prog ++ Try.f12.resultTypes.toList))) = true := by kernel_rfl
set_option maxRecDepth 100000 in
theorem facts : joinedFacts Try.pinned.checked.prog 12 Try.f12 Rows.planeSpreadsAsSpecifiedSpec Rows.planeSpreadsAsSpecifiedRow = true := by
  unfold joinedFacts
  have e : ∀ {a b : Bool}, (a && b) = true → a = true ∧ b = true := fun h => by simpa using h
  have p0 := facts0
  have z := facts1
  obtain ⟨z, p7⟩ := e z
  obtain ⟨z, p6⟩ := e z
  obtain ⟨z, p5⟩ := e z
  obtain ⟨z, p4⟩ := e z
  obtain ⟨z, p3⟩ := e z
  obtain ⟨z, p2⟩ := e z
  have p1 := z
  have p8 := facts2
  have p9 := facts3
  have p10 := facts4
  have p11 := facts5
  have p12 := facts6
  have z := facts7
  obtain ⟨z, p21⟩ := e z
  obtain ⟨z, p20⟩ := e z
  obtain ⟨z, p19⟩ := e z
  obtain ⟨z, p18⟩ := e z
  obtain ⟨z, p17⟩ := e z
  obtain ⟨z, p16⟩ := e z
  obtain ⟨z, p15⟩ := e z
  obtain ⟨z, p14⟩ := e z
  have p13 := z
  have z := facts8
  obtain ⟨z, p31⟩ := e z
  obtain ⟨z, p30⟩ := e z
  obtain ⟨z, p29⟩ := e z
  obtain ⟨z, p28⟩ := e z
  obtain ⟨z, p27⟩ := e z
  obtain ⟨z, p26⟩ := e z
  obtain ⟨z, p25⟩ := e z
  obtain ⟨z, p24⟩ := e z
  obtain ⟨z, p23⟩ := e z
  have p22 := z
  exact both (both (both (both (both (both (both (both (both (both (both (both (both (both (both (both (both (both (both (both (both (both (both (both (both (both (both (both (both (both (both (p0) p1) p2) p3) p4) p5) p6) p7) p8) p9) p10) p11) p12) p13) p14) p15) p16) p17) p18) p19) p20) p21) p22) p23) p24) p25) p26) p27) p28) p29) p30) p31
theorem wraps : Try.f12.isWrapper Try.pinned.checked.prog Rows.planeSpreadsAsSpecifiedRow.wrapper Rows.planeSpreadsAsSpecifiedRow.mainSum := by
  unfold Func.isWrapper; first | (rw [if_pos (by decide +kernel)]; kernel_rfl) | (rw [if_neg (by decide +kernel)]; exact ⟨rfl, rfl⟩)
theorem over : Rows.planeSpreadsAsSpecifiedRow.holds Try.pinned (OpenSpec.ofChange Rows.planeSpreadsAsSpecifiedSpec) :=
  OpenClaim.holds_of_wide 12 Try.f12 rfl rfl rfl rfl rfl rfl rfl ⟨rfl, rfl, rfl, rfl, rfl⟩ rfl rfl rfl rfl rfl named Try.func12 facts (of_decide_eq_true (by kernel_rfl)) wraps
    (fun os started H enc _ => lifted os started H enc)
theorem proved : Rows.PlaneSpreadsAsSpecifiedSaid := over
end Go.Proofs.Ytckaejgamfllfaa.planeSpreadsAsSpecified
namespace Go.Proofs.Ytckaejgamfllfaa
theorem planeSpreadsAsSpecified_holds : Rows.PlaneSpreadsAsSpecifiedSaid := planeSpreadsAsSpecified.proved
end Go.Proofs.Ytckaejgamfllfaa
end
