/- MgcdDivision: for every input the law returns true, and its arguments read as before. No condition. (The frame follows the kit's proof-skeleton.mjs; the reading of the arguments and the walk are own work.) -/
import Derived.Test.YtjioamjlebpppaaGreatRows
import Derived.WalkKit
import Derived.ProofKit
import Derived.OpenShut
import Derived.ShutString
import Derived.ChangeOld
import Derived.Below
import Derived.SizedLaws
import Derived.Test.YtjioamjlebpppaaGreatG17
import Derived.Test.YtjioamjlebpppaaGreatG11
set_option linter.unusedVariables false
set_option linter.unusedSimpArgs false
set_option linter.unnecessarySimpa false
namespace Go.Proofs.YtjioamjlebpppaaGreat.mgcdDivision
open Go.ChangeShapes Go.WideShapes Go.ChangeAt Go.RowKit
set_option linter.unusedVariables false

theorem own : ownKnob Tryz.prog.godebug = none := by kernel_rfl
theorem laidOut : laidOutB Tryz.prog = true := by kernel_rfl

theorem r5_ok {l : List El.R5.den} (h : El.WfD (.sl El.R5) l) : ∀ x ∈ l, El.R5k x := fun x hx => by
  let ⟨h1, h2, h3, h4, _⟩ := h x hx
  exact ⟨bounds_i8 h1, bounds_i8 h2, bounds_i8 h3, bounds_i8 h4⟩
theorem walk (l0 l1 l2 : List El.R5.den) (v0 : Array Value) (w : World) (w0 : El.RelV ⟨fun b o => w.cell? ⟨b, o, Option.none⟩, El.noγ⟩ (.a (El.av (.pr (.sl El.R5) (.pr (.sl El.R5) (.sl El.R5))) (l0, l1, l2))) (.agg v0))
    (f0 : El.WfD (.pr (.sl El.R5) (.pr (.sl El.R5) (.sl El.R5))) (l0, l1, l2)) :
    Calls Tryz.prog 5 #[.agg v0] w fun e w' => e = .returned (.bool true) ∧ Below w.heap.size w w' := by
  refine ((El.mgcdDivision_s l0 l1 l2 (r5_ok f0.1) (r5_ok f0.2.1) (r5_ok f0.2.2)).spec (fun b o => w.cell? ⟨b, o, Option.none⟩) w [.agg v0] (fun _ _ _ h => h) ⟨_, _, rfl, w0, rfl⟩).mono ?_
  rintro e w' ⟨v, H', rfl, hv, _, _, _, hb⟩
  have hv : v = .bool true := hv
  exact ⟨by rw [hv], hb⟩

theorem j0 : (Rows.mgcdDivisionRow.wf (OpenSpec.ofChange Rows.mgcdDivisionSpec)) = true := by kernel_rfl
theorem j1 : laidOutB Tryz.prog = true := laidOut
theorem j2 : (mapsRowed Tryz.prog) = true := by kernel_rfl
theorem j3 : (Tryz.f5.params.all (Tryz.prog.readableRec ·)) = true := by kernel_rfl
theorem j4 : (namedTie Tryz.prog Rows.mgcdDivisionRow.named Rows.mgcdDivisionSpec.vars) = true := by kernel_rfl
theorem j5 : ((Rows.mgcdDivisionRow.stops == [])) = true := by kernel_rfl
theorem j6 : ((Tryz.prog.stops == [])) = true := by kernel_rfl
theorem j7 : ((Rows.mgcdDivisionRow.knobs == [])) = true := by kernel_rfl
theorem j8 : ((Tryz.prog.stopKnobs == [])) = true := by kernel_rfl
theorem j9 : ((Rows.mgcdDivisionRow.inPlace == Tryz.prog.inPlace 5)) = true := by kernel_rfl
theorem j10 : ((Rows.mgcdDivisionRow.unfollowed == Tryz.prog.unfollowed 5)) = true := by kernel_rfl
theorem j11 : ((Rows.mgcdDivisionRow.recurses == Tryz.prog.recurses 5)) = true := by kernel_rfl
theorem j12 : ((Rows.mgcdDivisionRow.named == Tryz.prog.varsNamed 5)) = true := by kernel_rfl
theorem j13 : ((Rows.mgcdDivisionRow.maps == (Tryz.f5.params.toList ++ Rows.mgcdDivisionSpec.plain.varTypes Tryz.prog).any (Tryz.prog.mapsRec ·))) = true := by kernel_rfl
theorem j14 : ((Rows.mgcdDivisionRow.ifaces == (Tryz.f5.params.toList ++ Rows.mgcdDivisionSpec.plain.varTypes Tryz.prog).any (Tryz.prog.ifacesRec ·))) = true := by kernel_rfl
theorem j15 : ((Rows.mgcdDivisionRow.mapsOut == Tryz.prog.mapsAmong Tryz.f5.resultTypes.toList)) = true := by kernel_rfl
theorem j16 : ((Rows.mgcdDivisionRow.loops == (Tryz.f5.params.toList ++ Rows.mgcdDivisionSpec.plain.varTypes Tryz.prog).any (Tryz.prog.loopsFrom ·))) = true := by kernel_rfl
theorem j17 : ((Rows.mgcdDivisionRow.wideKeys == (Tryz.f5.params.toList ++ Rows.mgcdDivisionSpec.plain.varTypes Tryz.prog ++ Tryz.f5.resultTypes.toList).any (Tryz.prog.wideKeysFrom ·))) = true := by kernel_rfl
theorem j18 : (Rows.mgcdDivisionSpec.vars.all (Tryz.prog.varReadable ·)) = true := by kernel_rfl
theorem j19 : (Tryz.f5.resultTypes.all (fun t => Tryz.prog.readableRec t && decide (t < Tryz.prog.types.size))) = true := by kernel_rfl
theorem j20 : ((Rows.mgcdDivisionRow.ifacesOut == Tryz.f5.resultTypes.toList.any (Tryz.prog.ifacesRec ·))) = true := by kernel_rfl
theorem j21 : ((Rows.mgcdDivisionRow.loopsOut == Tryz.f5.resultTypes.toList.any (Tryz.prog.loopsFrom ·))) = true := by kernel_rfl
theorem j22 : ((Rows.mgcdDivisionRow.plainKeys == Tryz.prog.plainKeys)) = true := by kernel_rfl
theorem j23 : (Rows.mgcdDivisionRow.shortTexts.isNone) = true := by kernel_rfl
theorem j24 : (Tryz.prog.stopsHeard) = true := by kernel_rfl
theorem j25 : (Tryz.prog.mayEnter) = true := by kernel_rfl
theorem j26 : ((Rows.mgcdDivisionRow.lifted == Tryz.prog.liftsFinal)) = true := by kernel_rfl
theorem j27 : ((Tryz.prog.make == some Rows.mgcdDivisionRow.make)) = true := by kernel_rfl
theorem j28 : ((Rows.mgcdDivisionRow.kinds == (if Rows.mgcdDivisionRow.domain.isEmpty then [] else Tryz.f5.params.toList.map fun t => match Tryz.prog.underlying t with | some (.int k) => some k | _ => none))) = true := by kernel_rfl
theorem j29 : ((Rows.mgcdDivisionRow.pinned == Rows.mgcdDivisionRow.pinnedBy)) = true := by kernel_rfl
theorem j30 : ((Rows.mgcdDivisionRow.veiled == (Tryz.f5.params.toList ++ Rows.mgcdDivisionSpec.plain.varTypes Tryz.prog ++ Tryz.f5.resultTypes.toList).any (Tryz.prog.veiledRec ·))) = true := by kernel_rfl
theorem j31 : (Rows.mgcdDivisionRow.veiledFits Tryz.prog Tryz.f5.params.toList (Tryz.f5.params.toList ++ Rows.mgcdDivisionSpec.plain.varTypes Tryz.prog ++ Tryz.f5.resultTypes.toList)) = true := by kernel_rfl
theorem and2 {a b : Bool} (h : a = true) (k : b = true) : (a && b) = true := by rw [h, k]; rfl
theorem jf : joinedFacts Tryz.prog 5 Tryz.f5 Rows.mgcdDivisionSpec Rows.mgcdDivisionRow = true := by
  unfold joinedFacts
  exact and2 (and2 (and2 (and2 (and2 (and2 (and2 (and2 (and2 (and2 (and2 (and2 (and2 (and2 (and2 (and2 (and2 (and2 (and2 (and2 (and2 (and2 (and2 (and2 (and2 (and2 (and2 (and2 (and2 (and2 (and2 (j0) j1) j2) j3) j4) j5) j6) j7) j8) j9) j10) j11) j12) j13) j14) j15) j16) j17) j18) j19) j20) j21) j22) j23) j24) j25) j26) j27) (by kernel_rfl)) j29) j30) j31
theorem nm : Tryz.prog.funcNamed Rows.mgcdDivisionRow.func = some 5 := by kernel_rfl
theorem inst : Tryz.f5.isInstance Tryz.prog Rows.mgcdDivisionRow.origin Rows.mgcdDivisionRow.targs := of_decide_eq_true (by kernel_rfl)
theorem wrp : Tryz.f5.isWrapper Tryz.prog Rows.mgcdDivisionRow.wrapper Rows.mgcdDivisionRow.mainSum := by unfold Func.isWrapper; first | (rw [if_pos (by decide +kernel)]; kernel_rfl) | (rw [if_neg (by decide +kernel)]; exact ⟨rfl, rfl⟩)
set_option maxRecDepth 100000 in
theorem lifted (os : Os) (started : os.Started) (H : Type) (enc : TypeId × Value → H) :
    ReturnsInHanded {} Tryz.checked os 5 .any (Rows.mgcdDivisionSpec.pre6 enc Tryz.prog Tryz.f5 Rows.mgcdDivisionRow.domain false) (Rows.mgcdDivisionSpec.post enc Tryz.prog Tryz.f5 false true false false) := by
  refine returnsInHanded_of_change_sized (C := Tryz.checked) own started (by kernel_rfl) Tryz.func5
    (ChangeSpec.witness6 (enc := enc) (C := Tryz.checked) false ⟨#[], #[.agg #[.slice none 0 0, .slice none 0 0, .slice none 0 0]], []⟩ 8 (by kernel_rfl) (by kernel_rfl) (by kernel_rfl) (by kernel_rfl)) ?_
  intro W base args ds gs before hval0 hW hcnd hsz0 _
  have hval : ∀ (j : Nat) t v, Tryz.f5.params[j]? = some t → args[j]? = some v → Value.okWide Tryz.prog W .any base t v := hval0
  have hW' := hW
  obtain ⟨p, q, hA0, hV, rfl, hfz, hnd⟩ := hW
  have hA : DataW.TrodAll enc Tryz.prog W 0 (fun _ => true) true Tryz.f5.params.toList args.toList ds p := hA0
  have hsz : (DataW.weightsEach Tryz.prog (Tryz.f5.params.toList ++ Rows.mgcdDivisionSpec.plain.varTypes Tryz.prog) (ds ++ gs)).all (· ≤ reachBytes) = true := hsz0
  rw [Tryz.params5] at hA hval hsz
  obtain ⟨v0, vs0, d0, ds0, p0, q0, hargs, rfl, rfl, h0, r0⟩ := trodAll_cons hA
  obtain ⟨rfl, rfl, rfl⟩ := trodAll_nil r0
  obtain rfl : args = #[v0] := by cases args; simp_all
  obtain ⟨rfl, rfl⟩ := trodVars_none hV
  have hwt : ∀ n ∈ DataW.weightsEach Tryz.prog [37] [d0], n ≤ reachBytes := fun n hn => of_decide_eq_true (List.all_eq_true.1 hsz n hn)
  simp only [DataW.weightsEach, List.append_nil, List.mem_append] at hwt
  obtain ⟨a0, rfl⟩ := El.okWide_agg (by kernel_rfl) (hval 0 37 v0 rfl rfl)
  have lt0 : ∀ x ∈ p0, x.block < W.heap.size := by let ⟨m, hm⟩ := h0; exact DataW.trod_lt m _ _ _ hm
  obtain ⟨⟨l0, l1, l2⟩, e0, f0⟩ := El.trod_arg (f := 12) (T := .pr (.sl El.R5) (.pr (.sl El.R5) (.sl El.R5))) (by kernel_rfl) h0 (fun n hn => hwt n hn)
  clear hA0 hval0 hsz0
  refine (walk l0 l1 l2 a0 W (El.relV_agg e0) f0).mono fun e W' ⟨he, bel⟩ => ?_
  subst he
  exact ⟨_, rfl, _, _, _, [], _, [], hW', trodAll_mk1 (shut_bool Tryz.underlying4 _), (trodAll_cons_mk (Below.trod laidOut (by kernel_rfl) (of_decide_eq_true (by kernel_rfl)) h0 bel lt0) trodAll_mk0), rfl, bel.frame _, fun h => by cases h⟩

theorem over : Rows.mgcdDivisionRow.holds Tryz.pinned (OpenSpec.ofChange Rows.mgcdDivisionSpec) :=
  OpenClaim.holds_of_wide 5 Tryz.f5 rfl rfl rfl rfl rfl rfl rfl ⟨rfl, rfl, rfl, rfl, rfl⟩ rfl rfl rfl rfl rfl nm Tryz.func5 jf inst wrp
    (fun os started H enc _ => lifted os started H enc)

/-- THE STATEMENT -/
theorem proved : Rows.MgcdDivisionSaid := over
#print axioms proved
end Go.Proofs.YtjioamjlebpppaaGreat.mgcdDivision
