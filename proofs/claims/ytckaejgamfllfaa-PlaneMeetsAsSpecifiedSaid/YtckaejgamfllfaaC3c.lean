/- Part 3 of 3. -/
import Derived.Test.YtckaejgamfllfaaC3b
import Derived.Test.YtckaejgamfllfaaRows
import Derived.WalkKit
import Derived.ProofKit
import Derived.OpenShut
import Derived.ShutString
import Derived.ChangeOld
import Derived.Below
import Derived.SizedLaws
section
namespace Go.Proofs.Ytckaejgamfllfaa.planeMeetsAsSpecified
open Go.ChangeShapes Go.WideShapes Go.ChangeAt Go.RowKit Go.Proofs.Ytckaejgamfllfaa.G
set_option linter.unusedVariables false
theorem own : ownKnob Try.prog.godebug = none := by kernel_rfl
theorem laidOut : laidOutB Try.prog = true := by kernel_rfl
set_option maxRecDepth 100000 in
theorem lifted (os : Os) (started : os.Started) (H : Type) (enc : TypeId × Value → H) :
    ReturnsInHanded {} Try.checked os 5 .any (Rows.planeMeetsAsSpecifiedSpec.pre6 enc Try.prog Try.f5 Rows.planeMeetsAsSpecifiedRow.domain false) (Rows.planeMeetsAsSpecifiedSpec.post enc Try.prog Try.f5 false true false false) := by
  refine returnsInHanded_of_change_sized (C := Try.checked) own started (by kernel_rfl) Try.func5
    (ChangeSpec.witness6 (enc := enc) (C := Try.checked) false ⟨#[], #[.agg #[.int .i64 0, .int .i64 0, .int .i64 0, .int .i64 0], .agg #[.int .i64 0, .int .i64 0, .int .i64 0, .int .i64 0], .agg #[.int .i64 0, .int .i64 0]], []⟩ 8 (by kernel_rfl) (by kernel_rfl) (by kernel_rfl) (by kernel_rfl)) ?_
  intro W base args ds gs before hval0 hW hcnd hsz0 _
  have hsz : (DataW.weightsEach Try.prog (Try.f5.params.toList ++ Rows.planeMeetsAsSpecifiedSpec.plain.varTypes Try.prog) (ds ++ gs)).all (· ≤ reachBytes) = true := hsz0
  have hval : ∀ (j : Nat) t v, Try.f5.params[j]? = some t → args[j]? = some v → Value.okWide Try.prog W .any base t v := hval0
  have hW' := hW
  obtain ⟨p, q, hA0, hV, rfl, hfz, hnd⟩ := hW
  have hA : DataW.TrodAll enc Try.prog W 0 (fun _ => true) true Try.f5.params.toList args.toList ds p := hA0
  rw [Try.params5] at hA hval hsz
  obtain ⟨v0, vs0, d0, ds0, p0, q0, hargs, rfl, rfl, h0, r0⟩ := trodAll_cons hA
  obtain ⟨v1, vs1, d1, ds1, p1, q1, rfl, rfl, rfl, h1, r1⟩ := trodAll_cons r0
  obtain ⟨v2, vs2, d2, ds2, p2, q2, rfl, rfl, rfl, h2, r2⟩ := trodAll_cons r1
  obtain ⟨rfl, rfl, rfl⟩ := trodAll_nil r2
  obtain rfl : args = #[v0, v1, v2] := by cases args; simp_all
  obtain ⟨rfl, rfl⟩ := trodVars_none hV
  have k0 := h0
  have lt0 : ∀ x ∈ p0, x.block < W.heap.size := by obtain ⟨m, hm⟩ := k0; exact DataW.trod_lt m _ _ _ hm
  obtain ⟨a0, b0, rfl, w0, u0⟩ := open_seg (hval 0 34 v0 rfl rfl) h0
  have k1 := h1
  have lt1 : ∀ x ∈ p1, x.block < W.heap.size := by obtain ⟨m, hm⟩ := k1; exact DataW.trod_lt m _ _ _ hm
  obtain ⟨a1, b1, rfl, w1, u1⟩ := open_seg (hval 1 34 v1 rfl rfl) h1
  have k2 := h2
  have lt2 : ∀ x ∈ p2, x.block < W.heap.size := by obtain ⟨m, hm⟩ := k2; exact DataW.trod_lt m _ _ _ hm
  obtain ⟨a2, rfl, w2⟩ := open_point (hval 2 23 v2 rfl rfl) h2
  clear hA0 hval0 hsz0 hsz
  obtain ⟨K, hP⟩ : ∃ K, boundstonelaw02_PlaneMeetsAsSpecified.f K a0.f0 a0.f1 b0.f0 b0.f1 a1.f0 a1.f1 b1.f0 b1.f1 a2.f0 a2.f1 = some true := ⟨200, (fun a b c d p _ _ _ _ _ => law3 a b c d p) a0 b0 a1 b1 a2 w0 u0 w1 u1 w2⟩
  refine (boundstonelaw02_PlaneMeetsAsSpecified.calls K a0.f0 a0.f1 b0.f0 b0.f1 a1.f0 a1.f1 b1.f0 b1.f1 a2.f0 a2.f1 true W  hP).mono fun e W' ⟨he, bel⟩ => ?_
  subst he
  exact ⟨_, rfl, _, _, _, [], _, [], hW', trodAll_mk1 (shut_bool Try.underlying4 _), (trodAll_cons_mk (Below.trod laidOut (by kernel_rfl) (of_decide_eq_true (by kernel_rfl)) k0 bel lt0) (trodAll_cons_mk (Below.trod laidOut (by kernel_rfl) (of_decide_eq_true (by kernel_rfl)) k1 bel lt1) (trodAll_cons_mk (Below.trod laidOut (by kernel_rfl) (of_decide_eq_true (by kernel_rfl)) k2 bel lt2) trodAll_mk0))), rfl, bel.frame _, fun h => by cases h⟩
theorem named : Try.pinned.checked.prog.funcNamed Rows.planeMeetsAsSpecifiedRow.func = some 5 := by kernel_rfl
theorem both {a b : Bool} (h : a = true) (k : b = true) : (a && b) = true := by rw [h, k]; rfl
theorem facts0 : ((Rows.planeMeetsAsSpecifiedRow.wf (OpenSpec.ofChange Rows.planeMeetsAsSpecifiedSpec))) = true := by kernel_rfl
theorem facts1 : ((laidOutB Try.pinned.checked.prog) && (mapsRowed Try.pinned.checked.prog) && (Try.f5.params.all (Try.pinned.checked.prog.readableRec ·)) && (namedTie Try.pinned.checked.prog Rows.planeMeetsAsSpecifiedRow.named Rows.planeMeetsAsSpecifiedSpec.vars) && ((Rows.planeMeetsAsSpecifiedRow.stops == [])) && ((Try.pinned.checked.prog.stops == [])) && ((Rows.planeMeetsAsSpecifiedRow.knobs == []))) = true := by kernel_rfl
theorem facts2 : (((Try.pinned.checked.prog.stopKnobs == []))) = true := by kernel_rfl
theorem facts3 : (((Rows.planeMeetsAsSpecifiedRow.inPlace == Try.pinned.checked.prog.inPlace 5))) = true := by kernel_rfl
theorem facts4 : (((Rows.planeMeetsAsSpecifiedRow.unfollowed == Try.pinned.checked.prog.unfollowed 5))) = true := by kernel_rfl
theorem facts5 : (((Rows.planeMeetsAsSpecifiedRow.recurses == Try.pinned.checked.prog.recurses 5))) = true := by kernel_rfl
theorem facts6 : (((Rows.planeMeetsAsSpecifiedRow.named == Try.pinned.checked.prog.varsNamed 5))) = true := by kernel_rfl
theorem facts7 : (((Rows.planeMeetsAsSpecifiedRow.maps == (Try.f5.params.toList ++ Rows.planeMeetsAsSpecifiedSpec.plain.varTypes Try.pinned.checked.prog).any (Try.pinned.checked.prog.mapsRec ·))) && ((Rows.planeMeetsAsSpecifiedRow.ifaces == (Try.f5.params.toList ++ Rows.planeMeetsAsSpecifiedSpec.plain.varTypes Try.pinned.checked.prog).any (Try.pinned.checked.prog.ifacesRec ·))) && ((Rows.planeMeetsAsSpecifiedRow.mapsOut == Try.pinned.checked.prog.mapsAmong Try.f5.resultTypes.toList)) && ((Rows.planeMeetsAsSpecifiedRow.loops == (Try.f5.params.toList ++ Rows.planeMeetsAsSpecifiedSpec.plain.varTypes Try.pinned.checked.prog).any (Try.pinned.checked.prog.loopsFrom ·))) && ((Rows.planeMeetsAsSpecifiedRow.wideKeys == (Try.f5.params.toList ++ Rows.planeMeetsAsSpecifiedSpec.plain.varTypes Try.pinned.checked.prog ++ Try.f5.resultTypes.toList).any (Try.pinned.checked.prog.wideKeysFrom ·))) && (Rows.planeMeetsAsSpecifiedSpec.vars.all (Try.pinned.checked.prog.varReadable ·)) && (Try.f5.resultTypes.all (fun t => Try.pinned.checked.prog.readableRec t && decide (t < Try.pinned.checked.prog.types.size))) && ((Rows.planeMeetsAsSpecifiedRow.ifacesOut == Try.f5.resultTypes.toList.any (Try.pinned.checked.prog.ifacesRec ·))) && ((Rows.planeMeetsAsSpecifiedRow.loopsOut == Try.f5.resultTypes.toList.any (Try.pinned.checked.prog.loopsFrom ·)))) = true := by kernel_rfl
theorem facts8 : (((Rows.planeMeetsAsSpecifiedRow.plainKeys == Try.pinned.checked.prog.plainKeys)) && (Rows.planeMeetsAsSpecifiedRow.shortTexts.isNone) && (Try.pinned.checked.prog.stopsHeard) && (Try.pinned.checked.prog.mayEnter) && ((Rows.planeMeetsAsSpecifiedRow.lifted == Try.pinned.checked.prog.liftsFinal)) && ((Try.pinned.checked.prog.make == some Rows.planeMeetsAsSpecifiedRow.make)) && ((Rows.planeMeetsAsSpecifiedRow.kinds == (if Rows.planeMeetsAsSpecifiedRow.domain.isEmpty then [] else Try.f5.params.toList.map fun t => match Try.pinned.checked.prog.underlying t with | some (.int k) => some k | _ => none))) && ((Rows.planeMeetsAsSpecifiedRow.pinned == Rows.planeMeetsAsSpecifiedRow.pinnedBy)) && ((Rows.planeMeetsAsSpecifiedRow.veiled == (Try.f5.params.toList ++ Rows.planeMeetsAsSpecifiedSpec.plain.varTypes Try.pinned.checked.prog ++ Try.f5.resultTypes.toList).any (Try.pinned.checked.prog.veiledRec ·))) && (Rows.planeMeetsAsSpecifiedRow.veiledFits Try.pinned.checked.prog Try.f5.params.toList (Try.f5.params.toList ++ Rows.planeMeetsAsSpecifiedSpec.plain.varTypes Try.pinned.checked.prog ++ Try.f5.resultTypes.toList))) = true := by kernel_rfl
set_option maxRecDepth 100000 in
theorem facts : joinedFacts Try.pinned.checked.prog 5 Try.f5 Rows.planeMeetsAsSpecifiedSpec Rows.planeMeetsAsSpecifiedRow = true := by
  unfold joinedFacts
  have e : ∀ {a b : Bool}, (a && b) = true → a = true ∧ b = true := fun h => by simpa using h
  have p0 := facts0
  have z := facts1
  obtain ⟨z, p7⟩ := e z
  obtain ⟨z, p6⟩ := e z
  obtain ⟨z, p5⟩ := e z
  obtain ⟨z, p4⟩ := e z
  obtain ⟨z, p3⟩ := e z
  obtain ⟨z, p2⟩ := e z
  have p1 := z
  have p8 := facts2
  have p9 := facts3
  have p10 := facts4
  have p11 := facts5
  have p12 := facts6
  have z := facts7
  obtain ⟨z, p21⟩ := e z
  obtain ⟨z, p20⟩ := e z
  obtain ⟨z, p19⟩ := e z
  obtain ⟨z, p18⟩ := e z
  obtain ⟨z, p17⟩ := e z
  obtain ⟨z, p16⟩ := e z
  obtain ⟨z, p15⟩ := e z
  obtain ⟨z, p14⟩ := e z
  have p13 := z
  have z := facts8
  obtain ⟨z, p31⟩ := e z
  obtain ⟨z, p30⟩ := e z
  obtain ⟨z, p29⟩ := e z
  obtain ⟨z, p28⟩ := e z
  obtain ⟨z, p27⟩ := e z
  obtain ⟨z, p26⟩ := e z
  obtain ⟨z, p25⟩ := e z
  obtain ⟨z, p24⟩ := e z
  obtain ⟨z, p23⟩ := e z
  have p22 := z
  exact both (both (both (both (both (both (both (both (both (both (both (both (both (both (both (both (both (both (both (both (both (both (both (both (both (both (both (both (both (both (both (p0) p1) p2) p3) p4) p5) p6) p7) p8) p9) p10) p11) p12) p13) p14) p15) p16) p17) p18) p19) p20) p21) p22) p23) p24) p25) p26) p27) p28) p29) p30) p31
theorem wraps : Try.f5.isWrapper Try.pinned.checked.prog Rows.planeMeetsAsSpecifiedRow.wrapper Rows.planeMeetsAsSpecifiedRow.mainSum := by
  unfold Func.isWrapper; first | (rw [if_pos (by decide +kernel)]; kernel_rfl) | (rw [if_neg (by decide +kernel)]; exact ⟨rfl, rfl⟩)
theorem over : Rows.planeMeetsAsSpecifiedRow.holds Try.pinned (OpenSpec.ofChange Rows.planeMeetsAsSpecifiedSpec) :=
  OpenClaim.holds_of_wide 5 Try.f5 rfl rfl rfl rfl rfl rfl rfl ⟨rfl, rfl, rfl, rfl, rfl⟩ rfl rfl rfl rfl rfl named Try.func5 facts (of_decide_eq_true (by kernel_rfl)) wraps
    (fun os started H enc _ => lifted os started H enc)
theorem proved : Rows.PlaneMeetsAsSpecifiedSaid := over
end Go.Proofs.Ytckaejgamfllfaa.planeMeetsAsSpecified
namespace Go.Proofs.Ytckaejgamfllfaa
theorem planeMeetsAsSpecified_holds : Rows.PlaneMeetsAsSpecifiedSaid := planeMeetsAsSpecified.proved
end Go.Proofs.Ytckaejgamfllfaa
end
