/- FieldAxioms: for every input the law returns true, and its arguments read as before. No condition. (The frame follows the kit's proof-skeleton.mjs; the reading of the arguments and the walk are own work.) -/
import Derived.Test.YtceihkmakfdcnaaGreatRows
import Derived.WalkKit
import Derived.ProofKit
import Derived.OpenShut
import Derived.ShutString
import Derived.ChangeOld
import Derived.Below
import Derived.SizedLaws
import Derived.Test.YtceihkmakfdcnaaGreatH15
set_option linter.all false
namespace Go.Proofs.YtceihkmakfdcnaaGreat.fieldAxioms
open Go.ChangeShapes Go.WideShapes Go.ChangeAt Go.RowKit
theorem own : ownKnob Tryz.prog.godebug = none := by kernel_rfl
theorem laidOut : laidOutB Tryz.prog = true := by kernel_rfl
theorem Uj {l : List (Int × Int × Int)} (h : El.xq (.sl El.RW) l) : ∀ x ∈ l, El.lO x := fun x hx => by
 let ⟨h1, h2, h3⟩ := h x hx
 exact ⟨bounds_i8 h1, bounds_i8 h2, bounds_u8 h3⟩
theorem walk (k : Int) (c : List Int) (x0 x1 x2 : List (Int × Int × Int)) (v0 v1 : Array Value) (w : World) (w0 : El.bA ⟨fun b o => w.cell? ⟨b, o, Option.none⟩, El.jI⟩ (.a (El.av (.pr El.U8 (.sl El.I8)) (k, c))) (.agg v0)) (w1 : El.bA ⟨fun b o => w.cell? ⟨b, o, Option.none⟩, El.jI⟩ (.a (El.av (.pr (.sl El.RW) (.pr (.sl El.RW) (.sl El.RW))) (x0, x1, x2))) (.agg v1))
  (f0 : El.xq (.pr El.U8 (.sl El.I8)) (k, c)) (f1 : El.xq (.pr (.sl El.RW) (.pr (.sl El.RW) (.sl El.RW))) (x0, x1, x2)) :
  Calls Tryz.prog 5 #[.agg v0, .agg v1] w fun e w' => e = .returned (.bool true) ∧ Below w.heap.size w w' := by
 refine ((El.arj k c x0 x1 x2 (bounds_u8 f0.1) (fun x hx => bounds_i8 (f0.2 x hx)) (Uj f1.1) (Uj f1.2.1) (Uj f1.2.2)).spec (fun b o => w.cell? ⟨b, o, Option.none⟩) w [.agg v0, .agg v1] (fun _ _ _ h => h) ⟨_, _, rfl, w0, _, _, rfl, w1, rfl⟩).mono ?_
 rintro e w' ⟨v, H', rfl, hv, _, _, _, hb⟩
 have hv : v = .bool true := hv
 exact ⟨by rw [hv], hb⟩
theorem j0 : (Rows.fieldAxiomsRow.wf (OpenSpec.ofChange Rows.fieldAxiomsSpec)) = true := by kernel_rfl
theorem j1 : laidOutB Tryz.prog = true := laidOut
theorem j2 : (mapsRowed Tryz.prog) = true := by kernel_rfl
theorem j3 : (Tryz.f5.params.all (Tryz.prog.readableRec ·)) = true := by kernel_rfl
theorem j4 : (namedTie Tryz.prog Rows.fieldAxiomsRow.named Rows.fieldAxiomsSpec.vars) = true := by kernel_rfl
theorem j5 : ((Rows.fieldAxiomsRow.stops == [])) = true := by kernel_rfl
theorem j6 : ((Tryz.prog.stops == [])) = true := by kernel_rfl
theorem j7 : ((Rows.fieldAxiomsRow.knobs == [])) = true := by kernel_rfl
theorem j8 : ((Tryz.prog.stopKnobs == [])) = true := by kernel_rfl
theorem j9 : ((Rows.fieldAxiomsRow.inPlace == Tryz.prog.inPlace 5)) = true := by kernel_rfl
theorem j10 : ((Rows.fieldAxiomsRow.unfollowed == Tryz.prog.unfollowed 5)) = true := by kernel_rfl
theorem j11 : ((Rows.fieldAxiomsRow.recurses == Tryz.prog.recurses 5)) = true := by kernel_rfl
theorem j12 : ((Rows.fieldAxiomsRow.named == Tryz.prog.varsNamed 5)) = true := by kernel_rfl
theorem j13 : ((Rows.fieldAxiomsRow.maps == (Tryz.f5.params.toList ++ Rows.fieldAxiomsSpec.plain.varTypes Tryz.prog).any (Tryz.prog.mapsRec ·))) = true := by kernel_rfl
theorem j14 : ((Rows.fieldAxiomsRow.ifaces == (Tryz.f5.params.toList ++ Rows.fieldAxiomsSpec.plain.varTypes Tryz.prog).any (Tryz.prog.ifacesRec ·))) = true := by kernel_rfl
theorem j15 : ((Rows.fieldAxiomsRow.mapsOut == Tryz.prog.mapsAmong Tryz.f5.resultTypes.toList)) = true := by kernel_rfl
theorem j16 : ((Rows.fieldAxiomsRow.loops == (Tryz.f5.params.toList ++ Rows.fieldAxiomsSpec.plain.varTypes Tryz.prog).any (Tryz.prog.loopsFrom ·))) = true := by kernel_rfl
theorem j17 : ((Rows.fieldAxiomsRow.wideKeys == (Tryz.f5.params.toList ++ Rows.fieldAxiomsSpec.plain.varTypes Tryz.prog ++ Tryz.f5.resultTypes.toList).any (Tryz.prog.wideKeysFrom ·))) = true := by kernel_rfl
theorem j18 : (Rows.fieldAxiomsSpec.vars.all (Tryz.prog.varReadable ·)) = true := by kernel_rfl
theorem j19 : (Tryz.f5.resultTypes.all (fun t => Tryz.prog.readableRec t && decide (t < Tryz.prog.types.size))) = true := by kernel_rfl
theorem j20 : ((Rows.fieldAxiomsRow.ifacesOut == Tryz.f5.resultTypes.toList.any (Tryz.prog.ifacesRec ·))) = true := by kernel_rfl
theorem j21 : ((Rows.fieldAxiomsRow.loopsOut == Tryz.f5.resultTypes.toList.any (Tryz.prog.loopsFrom ·))) = true := by kernel_rfl
theorem j22 : ((Rows.fieldAxiomsRow.plainKeys == Tryz.prog.plainKeys)) = true := by kernel_rfl
theorem j23 : (Rows.fieldAxiomsRow.shortTexts.isNone) = true := by kernel_rfl
theorem j24 : (Tryz.prog.stopsHeard) = true := by kernel_rfl
theorem j25 : (Tryz.prog.mayEnter) = true := by kernel_rfl
theorem j26 : ((Rows.fieldAxiomsRow.lifted == Tryz.prog.liftsFinal)) = true := by kernel_rfl
theorem j27 : ((Tryz.prog.make == some Rows.fieldAxiomsRow.make)) = true := by kernel_rfl
theorem j28 : ((Rows.fieldAxiomsRow.kinds == (if Rows.fieldAxiomsRow.domain.isEmpty then [] else Tryz.f5.params.toList.map fun t => match Tryz.prog.underlying t with | some (.int k) => some k | _ => none))) = true := by kernel_rfl
theorem j29 : ((Rows.fieldAxiomsRow.pinned == Rows.fieldAxiomsRow.pinnedBy)) = true := by kernel_rfl
theorem j30 : ((Rows.fieldAxiomsRow.veiled == (Tryz.f5.params.toList ++ Rows.fieldAxiomsSpec.plain.varTypes Tryz.prog ++ Tryz.f5.resultTypes.toList).any (Tryz.prog.veiledRec ·))) = true := by kernel_rfl
theorem j31 : (Rows.fieldAxiomsRow.veiledFits Tryz.prog Tryz.f5.params.toList (Tryz.f5.params.toList ++ Rows.fieldAxiomsSpec.plain.varTypes Tryz.prog ++ Tryz.f5.resultTypes.toList)) = true := by kernel_rfl
theorem gZ {a b : Bool} (h : a = true) (k : b = true) : (a && b) = true := by rw [h, k]; rfl
theorem jf : joinedFacts Tryz.prog 5 Tryz.f5 Rows.fieldAxiomsSpec Rows.fieldAxiomsRow = true := by
 unfold joinedFacts
 exact gZ (gZ (gZ (gZ (gZ (gZ (gZ (gZ (gZ (gZ (gZ (gZ (gZ (gZ (gZ (gZ (gZ (gZ (gZ (gZ (gZ (gZ (gZ (gZ (gZ (gZ (gZ (gZ (gZ (gZ (gZ (j0) j1) j2) j3) j4) j5) j6) j7) j8) j9) j10) j11) j12) j13) j14) j15) j16) j17) j18) j19) j20) j21) j22) j23) j24) j25) j26) j27) (by kernel_rfl)) j29) j30) j31
theorem nm : Tryz.prog.funcNamed Rows.fieldAxiomsRow.func = some 5 := by kernel_rfl
theorem inst : Tryz.f5.isInstance Tryz.prog Rows.fieldAxiomsRow.origin Rows.fieldAxiomsRow.targs := of_decide_eq_true (by kernel_rfl)
theorem wrp : Tryz.f5.isWrapper Tryz.prog Rows.fieldAxiomsRow.wrapper Rows.fieldAxiomsRow.mainSum := by unfold Func.isWrapper; first | (rw [if_pos (by decide +kernel)]; kernel_rfl) | (rw [if_neg (by decide +kernel)]; exact ⟨rfl, rfl⟩)
set_option maxRecDepth 100000 in
theorem lifted (os : Os) (started : os.Started) (H : Type) (enc : TypeId × Value → H) :
  ReturnsInHanded {} Tryz.checked os 5 .any (Rows.fieldAxiomsSpec.pre6 enc Tryz.prog Tryz.f5 Rows.fieldAxiomsRow.domain false) (Rows.fieldAxiomsSpec.post enc Tryz.prog Tryz.f5 false true false false) := by
 refine returnsInHanded_of_change_sized (C := Tryz.checked) own started (by kernel_rfl) Tryz.func5
  (ChangeSpec.witness6 (enc := enc) (C := Tryz.checked) false ⟨#[], #[.agg #[.int .u8 0, .slice none 0 0], .agg #[.slice none 0 0, .slice none 0 0, .slice none 0 0]], []⟩ 8 (by kernel_rfl) (by kernel_rfl) (by kernel_rfl) (by kernel_rfl)) ?_
 intro W base args ds gs before aeW hW asV aeX _
 have FG : ∀ (j : Nat) t v, Tryz.f5.params[j]? = some t → args[j]? = some v → Value.okWide Tryz.prog W .any base t v := aeW
 have hW' := hW
 obtain ⟨p, q, hA0, hV, rfl, hfz, js⟩ := hW
 have hA : DataW.TrodAll enc Tryz.prog W 0 (fun _ => true) true Tryz.f5.params.toList args.toList ds p := hA0
 have jS : (DataW.weightsEach Tryz.prog (Tryz.f5.params.toList ++ Rows.fieldAxiomsSpec.plain.varTypes Tryz.prog) (ds ++ gs)).all (· ≤ reachBytes) = true := aeX
 rw [Tryz.params5] at hA FG jS
 obtain ⟨v0, vs0, d0, ds0, p0, q0, abP, rfl, rfl, h0, r0⟩ := trodAll_cons hA
 obtain ⟨v1, vs1, d1, ds1, p1, q1, rfl, rfl, rfl, h1, r1⟩ := trodAll_cons r0
 obtain ⟨rfl, rfl, rfl⟩ := trodAll_nil r1
 obtain rfl : args = #[v0, v1] := by cases args; simp_all
 obtain ⟨rfl, rfl⟩ := trodVars_none hV
 have Iq : ∀ n ∈ DataW.weightsEach Tryz.prog [24, 51] [d0, d1], n ≤ reachBytes := fun n hn => of_decide_eq_true (List.all_eq_true.1 jS n hn)
 simp only [DataW.weightsEach, List.append_nil, List.mem_append] at Iq
 obtain ⟨a0, rfl⟩ := El.aeU (by kernel_rfl) (FG 0 24 v0 rfl rfl)
 have lt0 : ∀ x ∈ p0, x.block < W.heap.size := by let ⟨m, hm⟩ := h0; exact DataW.trod_lt m _ _ _ hm
 obtain ⟨⟨k, c⟩, e0, f0⟩ := El.aeT (f := 12) (T := .pr El.U8 (.sl El.I8)) (by kernel_rfl) h0 (fun n hn => Iq n (.inl hn))
 obtain ⟨a1, rfl⟩ := El.aeU (by kernel_rfl) (FG 1 51 v1 rfl rfl)
 have lt1 : ∀ x ∈ p1, x.block < W.heap.size := by let ⟨m, hm⟩ := h1; exact DataW.trod_lt m _ _ _ hm
 obtain ⟨⟨x0, x1, x2⟩, e1, f1⟩ := El.aeT (f := 12) (T := .pr (.sl El.RW) (.pr (.sl El.RW) (.sl El.RW))) (by kernel_rfl) h1 (fun n hn => Iq n (.inr hn))
 clear hA0 aeW aeX
 refine (walk k c x0 x1 x2 a0 a1 W (El.aeV e0) (El.aeV e1) f0 f1).mono fun e W' ⟨he, Uk⟩ => ?_
 subst he
 exact ⟨_, rfl, _, _, _, [], _, [], hW', trodAll_mk1 (shut_bool Tryz.underlying4 _), (trodAll_cons_mk (Below.trod laidOut (by kernel_rfl) (of_decide_eq_true (by kernel_rfl)) h0 Uk lt0) (trodAll_cons_mk (Below.trod laidOut (by kernel_rfl) (of_decide_eq_true (by kernel_rfl)) h1 Uk lt1) trodAll_mk0)), rfl, Uk.frame _, fun h => by cases h⟩
theorem cM : Rows.fieldAxiomsRow.holds Tryz.pinned (OpenSpec.ofChange Rows.fieldAxiomsSpec) :=
 OpenClaim.holds_of_wide 5 Tryz.f5 rfl rfl rfl rfl rfl rfl rfl ⟨rfl, rfl, rfl, rfl, rfl⟩ rfl rfl rfl rfl rfl nm Tryz.func5 jf inst wrp
  (fun os started H enc _ => lifted os started H enc)
theorem proved : Rows.FieldAxiomsSaid := cM
#print axioms proved
end Go.Proofs.YtceihkmakfdcnaaGreat.fieldAxioms
