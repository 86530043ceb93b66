/- Part 2 of 2. -/
import Derived.Test.YtckaejgamfllfaaC2a
import Derived.Test.YtckaejgamfllfaaRows
import Derived.WalkKit
import Derived.ProofKit
import Derived.OpenShut
import Derived.ShutString
import Derived.ChangeOld
import Derived.Below
import Derived.SizedLaws
section
namespace Go.Proofs.Ytckaejgamfllfaa.planeTurnsFair
open Go.ChangeShapes Go.WideShapes Go.ChangeAt Go.RowKit Go.Proofs.Ytckaejgamfllfaa.G
set_option linter.unusedVariables false
theorem own : ownKnob Try.prog.godebug = none := by kernel_rfl
theorem laidOut : laidOutB Try.prog = true := by kernel_rfl
set_option maxRecDepth 100000 in
theorem lifted (os : Os) (started : os.Started) (H : Type) (enc : TypeId × Value → H) :
    ReturnsInHanded {} Try.checked os 4 .any (Rows.planeTurnsFairSpec.pre6 enc Try.prog Try.f4 Rows.planeTurnsFairRow.domain false) (Rows.planeTurnsFairSpec.post enc Try.prog Try.f4 false true false false) := by
  refine returnsInHanded_of_change_sized (C := Try.checked) own started (by kernel_rfl) Try.func4
    (ChangeSpec.witness6 (enc := enc) (C := Try.checked) false ⟨#[], #[.agg #[.int .i64 0, .int .i64 0], .agg #[.int .i64 0, .int .i64 0], .agg #[.int .i64 0, .int .i64 0], .int .i64 0, .int .i64 0, .int .u32 0], []⟩ 8 (by kernel_rfl) (by kernel_rfl) (by kernel_rfl) (by kernel_rfl)) ?_
  intro W base args ds gs before hval0 hW hcnd hsz0 _
  have hsz : (DataW.weightsEach Try.prog (Try.f4.params.toList ++ Rows.planeTurnsFairSpec.plain.varTypes Try.prog) (ds ++ gs)).all (· ≤ reachBytes) = true := hsz0
  have hval : ∀ (j : Nat) t v, Try.f4.params[j]? = some t → args[j]? = some v → Value.okWide Try.prog W .any base t v := hval0
  have hW' := hW
  obtain ⟨p, q, hA0, hV, rfl, hfz, hnd⟩ := hW
  have hA : DataW.TrodAll enc Try.prog W 0 (fun _ => true) true Try.f4.params.toList args.toList ds p := hA0
  rw [Try.params4] at hA hval hsz
  obtain ⟨v0, vs0, d0, ds0, p0, q0, hargs, rfl, rfl, h0, r0⟩ := trodAll_cons hA
  obtain ⟨v1, vs1, d1, ds1, p1, q1, rfl, rfl, rfl, h1, r1⟩ := trodAll_cons r0
  obtain ⟨v2, vs2, d2, ds2, p2, q2, rfl, rfl, rfl, h2, r2⟩ := trodAll_cons r1
  obtain ⟨v3, vs3, d3, ds3, p3, q3, rfl, rfl, rfl, h3, r3⟩ := trodAll_cons r2
  obtain ⟨v4, vs4, d4, ds4, p4, q4, rfl, rfl, rfl, h4, r4⟩ := trodAll_cons r3
  obtain ⟨v5, vs5, d5, ds5, p5, q5, rfl, rfl, rfl, h5, r5⟩ := trodAll_cons r4
  obtain ⟨rfl, rfl, rfl⟩ := trodAll_nil r5
  obtain rfl : args = #[v0, v1, v2, v3, v4, v5] := by cases args; simp_all
  obtain ⟨rfl, rfl⟩ := trodVars_none hV
  have k0 := h0
  have lt0 : ∀ x ∈ p0, x.block < W.heap.size := by obtain ⟨m, hm⟩ := k0; exact DataW.trod_lt m _ _ _ hm
  obtain ⟨a0, rfl, w0⟩ := open_point (hval 0 23 v0 rfl rfl) h0
  have k1 := h1
  have lt1 : ∀ x ∈ p1, x.block < W.heap.size := by obtain ⟨m, hm⟩ := k1; exact DataW.trod_lt m _ _ _ hm
  obtain ⟨a1, rfl, w1⟩ := open_point (hval 1 23 v1 rfl rfl) h1
  have k2 := h2
  have lt2 : ∀ x ∈ p2, x.block < W.heap.size := by obtain ⟨m, hm⟩ := k2; exact DataW.trod_lt m _ _ _ hm
  obtain ⟨a2, rfl, w2⟩ := open_point (hval 2 23 v2 rfl rfl) h2
  obtain ⟨a3, rfl, rfl, rfl, w3⟩ := open_int Try.underlying3 (hval 3 3 v3 rfl rfl) h3
  obtain ⟨a4, rfl, rfl, rfl, w4⟩ := open_int Try.underlying3 (hval 4 3 v4 rfl rfl) h4
  obtain ⟨a5, rfl, rfl, rfl, w5⟩ := open_int Try.underlying30 (hval 5 30 v5 rfl rfl) h5
  clear hA0 hval0 hsz0 hsz
  obtain ⟨K, hP⟩ : ∃ K, boundstonelaw02_PlaneTurnsFair.f K a0.f0 a0.f1 a1.f0 a1.f1 a2.f0 a2.f1 a3 a4 a5 = some true := ⟨200, (fun a b c x y n _ _ _ _ _ h => law2 a b c x y n (U32.of_wf h)) a0 a1 a2 a3 a4 a5 w0 w1 w2 (I64.of_wf w3) (I64.of_wf w4) w5⟩
  refine (boundstonelaw02_PlaneTurnsFair.calls K a0.f0 a0.f1 a1.f0 a1.f1 a2.f0 a2.f1 a3 a4 a5 true W  hP).mono fun e W' ⟨he, bel⟩ => ?_
  subst he
  exact ⟨_, rfl, _, _, _, [], _, [], hW', trodAll_mk1 (shut_bool Try.underlying4 _), (trodAll_cons_mk (Below.trod laidOut (by kernel_rfl) (of_decide_eq_true (by kernel_rfl)) k0 bel lt0) (trodAll_cons_mk (Below.trod laidOut (by kernel_rfl) (of_decide_eq_true (by kernel_rfl)) k1 bel lt1) (trodAll_cons_mk (Below.trod laidOut (by kernel_rfl) (of_decide_eq_true (by kernel_rfl)) k2 bel lt2) (trodAll_cons_mk (shut_int Try.underlying3 w3) (trodAll_cons_mk (shut_int Try.underlying3 w4) (trodAll_cons_mk (shut_int Try.underlying30 w5) trodAll_mk0)))))), rfl, bel.frame _, fun h => by cases h⟩
theorem named : Try.pinned.checked.prog.funcNamed Rows.planeTurnsFairRow.func = some 4 := by kernel_rfl
theorem both {a b : Bool} (h : a = true) (k : b = true) : (a && b) = true := by rw [h, k]; rfl
theorem facts0 : ((Rows.planeTurnsFairRow.wf (OpenSpec.ofChange Rows.planeTurnsFairSpec))) = true := by kernel_rfl
theorem facts1 : ((laidOutB Try.pinned.checked.prog) && (mapsRowed Try.pinned.checked.prog) && (Try.f4.params.all (Try.pinned.checked.prog.readableRec ·)) && (namedTie Try.pinned.checked.prog Rows.planeTurnsFairRow.named Rows.planeTurnsFairSpec.vars) && ((Rows.planeTurnsFairRow.stops == [])) && ((Try.pinned.checked.prog.stops == [])) && ((Rows.planeTurnsFairRow.knobs == []))) = true := by kernel_rfl
theorem facts2 : (((Try.pinned.checked.prog.stopKnobs == []))) = true := by kernel_rfl
theorem facts3 : (((Rows.planeTurnsFairRow.inPlace == Try.pinned.checked.prog.inPlace 4))) = true := by kernel_rfl
theorem facts4 : (((Rows.planeTurnsFairRow.unfollowed == Try.pinned.checked.prog.unfollowed 4))) = true := by kernel_rfl
theorem facts5 : (((Rows.planeTurnsFairRow.recurses == Try.pinned.checked.prog.recurses 4))) = true := by kernel_rfl
theorem facts6 : (((Rows.planeTurnsFairRow.named == Try.pinned.checked.prog.varsNamed 4))) = true := by kernel_rfl
theorem facts7 : (((Rows.planeTurnsFairRow.maps == (Try.f4.params.toList ++ Rows.planeTurnsFairSpec.plain.varTypes Try.pinned.checked.prog).any (Try.pinned.checked.prog.mapsRec ·))) && ((Rows.planeTurnsFairRow.ifaces == (Try.f4.params.toList ++ Rows.planeTurnsFairSpec.plain.varTypes Try.pinned.checked.prog).any (Try.pinned.checked.prog.ifacesRec ·))) && ((Rows.planeTurnsFairRow.mapsOut == Try.pinned.checked.prog.mapsAmong Try.f4.resultTypes.toList)) && ((Rows.planeTurnsFairRow.loops == (Try.f4.params.toList ++ Rows.planeTurnsFairSpec.plain.varTypes Try.pinned.checked.prog).any (Try.pinned.checked.prog.loopsFrom ·))) && ((Rows.planeTurnsFairRow.wideKeys == (Try.f4.params.toList ++ Rows.planeTurnsFairSpec.plain.varTypes Try.pinned.checked.prog ++ Try.f4.resultTypes.toList).any (Try.pinned.checked.prog.wideKeysFrom ·))) && (Rows.planeTurnsFairSpec.vars.all (Try.pinned.checked.prog.varReadable ·)) && (Try.f4.resultTypes.all (fun t => Try.pinned.checked.prog.readableRec t && decide (t < Try.pinned.checked.prog.types.size))) && ((Rows.planeTurnsFairRow.ifacesOut == Try.f4.resultTypes.toList.any (Try.pinned.checked.prog.ifacesRec ·))) && ((Rows.planeTurnsFairRow.loopsOut == Try.f4.resultTypes.toList.any (Try.pinned.checked.prog.loopsFrom ·)))) = true := by kernel_rfl
theorem facts8 : (((Rows.planeTurnsFairRow.plainKeys == Try.pinned.checked.prog.plainKeys)) && (Rows.planeTurnsFairRow.shortTexts.isNone) && (Try.pinned.checked.prog.stopsHeard) && (Try.pinned.checked.prog.mayEnter) && ((Rows.planeTurnsFairRow.lifted == Try.pinned.checked.prog.liftsFinal)) && ((Try.pinned.checked.prog.make == some Rows.planeTurnsFairRow.make)) && ((Rows.planeTurnsFairRow.kinds == (if Rows.planeTurnsFairRow.domain.isEmpty then [] else Try.f4.params.toList.map fun t => match Try.pinned.checked.prog.underlying t with | some (.int k) => some k | _ => none))) && ((Rows.planeTurnsFairRow.pinned == Rows.planeTurnsFairRow.pinnedBy)) && ((Rows.planeTurnsFairRow.veiled == (Try.f4.params.toList ++ Rows.planeTurnsFairSpec.plain.varTypes Try.pinned.checked.prog ++ Try.f4.resultTypes.toList).any (Try.pinned.checked.prog.veiledRec ·))) && (Rows.planeTurnsFairRow.veiledFits Try.pinned.checked.prog Try.f4.params.toList (Try.f4.params.toList ++ Rows.planeTurnsFairSpec.plain.varTypes Try.pinned.checked.prog ++ Try.f4.resultTypes.toList))) = true := by kernel_rfl
set_option maxRecDepth 100000 in
theorem facts : joinedFacts Try.pinned.checked.prog 4 Try.f4 Rows.planeTurnsFairSpec Rows.planeTurnsFairRow = true := by
  unfold joinedFacts
  have e : ∀ {a b : Bool}, (a && b) = true → a = true ∧ b = true := fun h => by simpa using h
  have p0 := facts0
  have z := facts1
  obtain ⟨z, p7⟩ := e z
  obtain ⟨z, p6⟩ := e z
  obtain ⟨z, p5⟩ := e z
  obtain ⟨z, p4⟩ := e z
  obtain ⟨z, p3⟩ := e z
  obtain ⟨z, p2⟩ := e z
  have p1 := z
  have p8 := facts2
  have p9 := facts3
  have p10 := facts4
  have p11 := facts5
  have p12 := facts6
  have z := facts7
  obtain ⟨z, p21⟩ := e z
  obtain ⟨z, p20⟩ := e z
  obtain ⟨z, p19⟩ := e z
  obtain ⟨z, p18⟩ := e z
  obtain ⟨z, p17⟩ := e z
  obtain ⟨z, p16⟩ := e z
  obtain ⟨z, p15⟩ := e z
  obtain ⟨z, p14⟩ := e z
  have p13 := z
  have z := facts8
  obtain ⟨z, p31⟩ := e z
  obtain ⟨z, p30⟩ := e z
  obtain ⟨z, p29⟩ := e z
  obtain ⟨z, p28⟩ := e z
  obtain ⟨z, p27⟩ := e z
  obtain ⟨z, p26⟩ := e z
  obtain ⟨z, p25⟩ := e z
  obtain ⟨z, p24⟩ := e z
  obtain ⟨z, p23⟩ := e z
  have p22 := z
  exact both (both (both (both (both (both (both (both (both (both (both (both (both (both (both (both (both (both (both (both (both (both (both (both (both (both (both (both (both (both (both (p0) p1) p2) p3) p4) p5) p6) p7) p8) p9) p10) p11) p12) p13) p14) p15) p16) p17) p18) p19) p20) p21) p22) p23) p24) p25) p26) p27) p28) p29) p30) p31
theorem wraps : Try.f4.isWrapper Try.pinned.checked.prog Rows.planeTurnsFairRow.wrapper Rows.planeTurnsFairRow.mainSum := by
  unfold Func.isWrapper; first | (rw [if_pos (by decide +kernel)]; kernel_rfl) | (rw [if_neg (by decide +kernel)]; exact ⟨rfl, rfl⟩)
theorem over : Rows.planeTurnsFairRow.holds Try.pinned (OpenSpec.ofChange Rows.planeTurnsFairSpec) :=
  OpenClaim.holds_of_wide 4 Try.f4 rfl rfl rfl rfl rfl rfl rfl ⟨rfl, rfl, rfl, rfl, rfl⟩ rfl rfl rfl rfl rfl named Try.func4 facts (of_decide_eq_true (by kernel_rfl)) wraps
    (fun os started H enc _ => lifted os started H enc)
theorem proved : Rows.PlaneTurnsFairSaid := over
end Go.Proofs.Ytckaejgamfllfaa.planeTurnsFair
namespace Go.Proofs.Ytckaejgamfllfaa
theorem planeTurnsFair_holds : Rows.PlaneTurnsFairSaid := planeTurnsFair.proved
end Go.Proofs.Ytckaejgamfllfaa
end
