/- FieldMatchesReference: for every input the law returns true, and its arguments read as before. No condition. (The frame follows the kit's proof-skeleton.mjs; the reading of the arguments and the walk are own work.) -/
import Derived.Test.YtceihkmakfdcnaaGreatRows
import Derived.WalkKit
import Derived.ProofKit
import Derived.OpenShut
import Derived.ShutString
import Derived.ChangeOld
import Derived.Below
import Derived.SizedLaws
import Derived.Test.YtceihkmakfdcnaaGreatC30
import Derived.Test.YtceihkmakfdcnaaGreatC15
set_option linter.all false
namespace Go.Proofs.YtceihkmakfdcnaaGreat.fieldMatchesReference
open Go.ChangeShapes Go.WideShapes Go.ChangeAt Go.RowKit
theorem own : ownKnob Tryz.prog.godebug = none := by kernel_rfl
theorem laidOut : laidOutB Tryz.prog = true := by kernel_rfl
theorem ame {l : List (Int × Int × Int)} (h : El.yN (.sl El.RW) l) : ∀ x ∈ l, El.o0 x := fun x hx => by
 let ⟨h1, h2, h3⟩ := h x hx
 exact ⟨bounds_i8 h1, bounds_i8 h2, bounds_u8 h3⟩
theorem amf {g : El.Gh} {T : El.ET} {x : List T.den} {a : Option Addr} {l c : Nat} (h : El.dq g.H (.sl T) x (Value.slice a l c).cells.toList) : El.bh g (.c (.S T x)) (.slice a l c) := by
 let ⟨v, r, e, h1, _⟩ := El.AS (g := g) (.sl T) x _ h
 simp [Value.cells] at e
 obtain ⟨rfl, rfl⟩ := e
 exact h1
theorem walk (k : Int) (c : List Int) (x0 x1 : List (Int × Int × Int)) (v0 : Array Value) (v1 v2 : Value) (w : World) (w0 : El.bh ⟨fun b o => w.cell? ⟨b, o, Option.none⟩, El.jP⟩ (.a (El.av (.pr El.U8 (.sl El.I8)) (k, c))) (.agg v0)) (w1 : El.bh ⟨fun b o => w.cell? ⟨b, o, Option.none⟩, El.jP⟩ (.c (.S El.RW x0)) v1)
  (w2 : El.bh ⟨fun b o => w.cell? ⟨b, o, Option.none⟩, El.jP⟩ (.c (.S El.RW x1)) v2)
  (f0 : El.yN (.pr El.U8 (.sl El.I8)) (k, c)) (f1 : El.yN (.sl El.RW) x0) (f2 : El.yN (.sl El.RW) x1) :
  Calls Tryz.prog 3 #[.agg v0, v1, v2] w fun e w' => e = .returned (.bool true) ∧ Below w.heap.size w w' := by
 refine ((El.azy k c x0 x1 (bounds_u8 f0.1) (fun x hx => bounds_i8 (f0.2 x hx)) (ame f1) (ame f2)).spec (fun b o => w.cell? ⟨b, o, Option.none⟩) w [.agg v0, v1, v2] (fun _ _ _ h => h) ⟨_, _, rfl, w0, _, _, rfl, w1, _, _, rfl, w2, rfl⟩).mono ?_
 rintro e w' ⟨v, H', rfl, hv, _, _, _, hb⟩
 have hv : v = .bool true := hv
 exact ⟨by rw [hv], hb⟩
theorem j0 : (Rows.fieldMatchesReferenceRow.wf (OpenSpec.ofChange Rows.fieldMatchesReferenceSpec)) = true := by kernel_rfl
theorem j1 : laidOutB Tryz.prog = true := laidOut
theorem j2 : (mapsRowed Tryz.prog) = true := by kernel_rfl
theorem j3 : (Tryz.f3.params.all (Tryz.prog.readableRec ·)) = true := by kernel_rfl
theorem j4 : (namedTie Tryz.prog Rows.fieldMatchesReferenceRow.named Rows.fieldMatchesReferenceSpec.vars) = true := by kernel_rfl
theorem j5 : ((Rows.fieldMatchesReferenceRow.stops == [])) = true := by kernel_rfl
theorem j6 : ((Tryz.prog.stops == [])) = true := by kernel_rfl
theorem j7 : ((Rows.fieldMatchesReferenceRow.knobs == [])) = true := by kernel_rfl
theorem j8 : ((Tryz.prog.stopKnobs == [])) = true := by kernel_rfl
theorem j9 : ((Rows.fieldMatchesReferenceRow.inPlace == Tryz.prog.inPlace 3)) = true := by kernel_rfl
theorem j10 : ((Rows.fieldMatchesReferenceRow.unfollowed == Tryz.prog.unfollowed 3)) = true := by kernel_rfl
theorem j11 : ((Rows.fieldMatchesReferenceRow.recurses == Tryz.prog.recurses 3)) = true := by kernel_rfl
theorem j12 : ((Rows.fieldMatchesReferenceRow.named == Tryz.prog.varsNamed 3)) = true := by kernel_rfl
theorem j13 : ((Rows.fieldMatchesReferenceRow.maps == (Tryz.f3.params.toList ++ Rows.fieldMatchesReferenceSpec.plain.varTypes Tryz.prog).any (Tryz.prog.mapsRec ·))) = true := by kernel_rfl
theorem j14 : ((Rows.fieldMatchesReferenceRow.ifaces == (Tryz.f3.params.toList ++ Rows.fieldMatchesReferenceSpec.plain.varTypes Tryz.prog).any (Tryz.prog.ifacesRec ·))) = true := by kernel_rfl
theorem j15 : ((Rows.fieldMatchesReferenceRow.mapsOut == Tryz.prog.mapsAmong Tryz.f3.resultTypes.toList)) = true := by kernel_rfl
theorem j16 : ((Rows.fieldMatchesReferenceRow.loops == (Tryz.f3.params.toList ++ Rows.fieldMatchesReferenceSpec.plain.varTypes Tryz.prog).any (Tryz.prog.loopsFrom ·))) = true := by kernel_rfl
theorem j17 : ((Rows.fieldMatchesReferenceRow.wideKeys == (Tryz.f3.params.toList ++ Rows.fieldMatchesReferenceSpec.plain.varTypes Tryz.prog ++ Tryz.f3.resultTypes.toList).any (Tryz.prog.wideKeysFrom ·))) = true := by kernel_rfl
theorem j18 : (Rows.fieldMatchesReferenceSpec.vars.all (Tryz.prog.varReadable ·)) = true := by kernel_rfl
theorem j19 : (Tryz.f3.resultTypes.all (fun t => Tryz.prog.readableRec t && decide (t < Tryz.prog.types.size))) = true := by kernel_rfl
theorem j20 : ((Rows.fieldMatchesReferenceRow.ifacesOut == Tryz.f3.resultTypes.toList.any (Tryz.prog.ifacesRec ·))) = true := by kernel_rfl
theorem j21 : ((Rows.fieldMatchesReferenceRow.loopsOut == Tryz.f3.resultTypes.toList.any (Tryz.prog.loopsFrom ·))) = true := by kernel_rfl
theorem j22 : ((Rows.fieldMatchesReferenceRow.plainKeys == Tryz.prog.plainKeys)) = true := by kernel_rfl
theorem j23 : (Rows.fieldMatchesReferenceRow.shortTexts.isNone) = true := by kernel_rfl
theorem j24 : (Tryz.prog.stopsHeard) = true := by kernel_rfl
theorem j25 : (Tryz.prog.mayEnter) = true := by kernel_rfl
theorem j26 : ((Rows.fieldMatchesReferenceRow.lifted == Tryz.prog.liftsFinal)) = true := by kernel_rfl
theorem j27 : ((Tryz.prog.make == some Rows.fieldMatchesReferenceRow.make)) = true := by kernel_rfl
theorem j28 : ((Rows.fieldMatchesReferenceRow.kinds == (if Rows.fieldMatchesReferenceRow.domain.isEmpty then [] else Tryz.f3.params.toList.map fun t => match Tryz.prog.underlying t with | some (.int k) => some k | _ => none))) = true := by kernel_rfl
theorem j29 : ((Rows.fieldMatchesReferenceRow.pinned == Rows.fieldMatchesReferenceRow.pinnedBy)) = true := by kernel_rfl
theorem j30 : ((Rows.fieldMatchesReferenceRow.veiled == (Tryz.f3.params.toList ++ Rows.fieldMatchesReferenceSpec.plain.varTypes Tryz.prog ++ Tryz.f3.resultTypes.toList).any (Tryz.prog.veiledRec ·))) = true := by kernel_rfl
theorem j31 : (Rows.fieldMatchesReferenceRow.veiledFits Tryz.prog Tryz.f3.params.toList (Tryz.f3.params.toList ++ Rows.fieldMatchesReferenceSpec.plain.varTypes Tryz.prog ++ Tryz.f3.resultTypes.toList)) = true := by kernel_rfl
theorem jq {a b : Bool} (h : a = true) (k : b = true) : (a && b) = true := by rw [h, k]; rfl
theorem jf : joinedFacts Tryz.prog 3 Tryz.f3 Rows.fieldMatchesReferenceSpec Rows.fieldMatchesReferenceRow = true := by
 unfold joinedFacts
 exact jq (jq (jq (jq (jq (jq (jq (jq (jq (jq (jq (jq (jq (jq (jq (jq (jq (jq (jq (jq (jq (jq (jq (jq (jq (jq (jq (jq (jq (jq (jq (j0) j1) j2) j3) j4) j5) j6) j7) j8) j9) j10) j11) j12) j13) j14) j15) j16) j17) j18) j19) j20) j21) j22) j23) j24) j25) j26) j27) (by kernel_rfl)) j29) j30) j31
theorem nm : Tryz.prog.funcNamed Rows.fieldMatchesReferenceRow.func = some 3 := by kernel_rfl
theorem inst : Tryz.f3.isInstance Tryz.prog Rows.fieldMatchesReferenceRow.origin Rows.fieldMatchesReferenceRow.targs := of_decide_eq_true (by kernel_rfl)
theorem wrp : Tryz.f3.isWrapper Tryz.prog Rows.fieldMatchesReferenceRow.wrapper Rows.fieldMatchesReferenceRow.mainSum := by unfold Func.isWrapper; first | (rw [if_pos (by decide +kernel)]; kernel_rfl) | (rw [if_neg (by decide +kernel)]; exact ⟨rfl, rfl⟩)
set_option maxRecDepth 100000 in
theorem lifted (os : Os) (started : os.Started) (H : Type) (enc : TypeId × Value → H) :
  ReturnsInHanded {} Tryz.checked os 3 .any (Rows.fieldMatchesReferenceSpec.pre6 enc Tryz.prog Tryz.f3 Rows.fieldMatchesReferenceRow.domain false) (Rows.fieldMatchesReferenceSpec.post enc Tryz.prog Tryz.f3 false true false false) := by
 refine returnsInHanded_of_change_sized (C := Tryz.checked) own started (by kernel_rfl) Tryz.func3
  (ChangeSpec.witness6 (enc := enc) (C := Tryz.checked) false ⟨#[], #[.agg #[.int .u8 0, .slice none 0 0], .slice none 0 0, .slice none 0 0], []⟩ 8 (by kernel_rfl) (by kernel_rfl) (by kernel_rfl) (by kernel_rfl)) ?_
 intro W base args ds gs before amg hW aA5 amh _
 have GD : ∀ (j : Nat) t v, Tryz.f3.params[j]? = some t → args[j]? = some v → Value.okWide Tryz.prog W .any base t v := amg
 have hW' := hW
 obtain ⟨p, q, hA0, hV, rfl, hfz, lv⟩ := hW
 have hA : DataW.TrodAll enc Tryz.prog W 0 (fun _ => true) true Tryz.f3.params.toList args.toList ds p := hA0
 have iu : (DataW.weightsEach Tryz.prog (Tryz.f3.params.toList ++ Rows.fieldMatchesReferenceSpec.plain.varTypes Tryz.prog) (ds ++ gs)).all (· ≤ reachBytes) = true := amh
 rw [Tryz.params3] at hA GD iu
 obtain ⟨v0, vs0, d0, ds0, p0, q0, Pl, rfl, rfl, h0, r0⟩ := trodAll_cons hA
 obtain ⟨v1, vs1, d1, ds1, p1, q1, rfl, rfl, rfl, h1, r1⟩ := trodAll_cons r0
 obtain ⟨v2, vs2, d2, ds2, p2, q2, rfl, rfl, rfl, h2, r2⟩ := trodAll_cons r1
 obtain ⟨rfl, rfl, rfl⟩ := trodAll_nil r2
 obtain rfl : args = #[v0, v1, v2] := by cases args; simp_all
 obtain ⟨rfl, rfl⟩ := trodVars_none hV
 have Ti : ∀ n ∈ DataW.weightsEach Tryz.prog [24, 26, 26] [d0, d1, d2], n ≤ reachBytes := fun n hn => of_decide_eq_true (List.all_eq_true.1 iu n hn)
 simp only [DataW.weightsEach, List.append_nil, List.mem_append] at Ti
 obtain ⟨a0, rfl⟩ := El.axH (by kernel_rfl) (GD 0 24 v0 rfl rfl)
 have lt0 : ∀ x ∈ p0, x.block < W.heap.size := by let ⟨m, hm⟩ := h0; exact DataW.trod_lt m _ _ _ hm
 obtain ⟨⟨k, c⟩, e0, f0⟩ := El.Z0 (f := 12) (T := .pr El.U8 (.sl El.I8)) (by kernel_rfl) h0 (fun n hn => Ti n (.inl hn))
 obtain ⟨a1, aBa, aBb, rfl⟩ := okWide_slice Tryz.underlying26 (GD 1 26 v1 rfl rfl)
 have lt1 : ∀ x ∈ p1, x.block < W.heap.size := by let ⟨m, hm⟩ := h1; exact DataW.trod_lt m _ _ _ hm
 obtain ⟨x0, e1, f1⟩ := El.Z0 (f := 12) (T := .sl El.RW) (by kernel_rfl) h1 (fun n hn => Ti n (.inr (.inl hn)))
 obtain ⟨a2, aBd, aBe, rfl⟩ := okWide_slice Tryz.underlying26 (GD 2 26 v2 rfl rfl)
 have lt2 : ∀ x ∈ p2, x.block < W.heap.size := by let ⟨m, hm⟩ := h2; exact DataW.trod_lt m _ _ _ hm
 obtain ⟨x1, e2, f2⟩ := El.Z0 (f := 12) (T := .sl El.RW) (by kernel_rfl) h2 (fun n hn => Ti n (.inr (.inr hn)))
 clear hA0 amg amh
 refine (walk k c x0 x1 a0 _ _ W (El.axI e0) (amf e1) (amf e2) f0 f1 f2).mono fun e W' ⟨he, Tj⟩ => ?_
 subst he
 exact ⟨_, rfl, _, _, _, [], _, [], hW', trodAll_mk1 (shut_bool Tryz.underlying4 _), (trodAll_cons_mk (Below.trod laidOut (by kernel_rfl) (of_decide_eq_true (by kernel_rfl)) h0 Tj lt0) (trodAll_cons_mk (Below.trod laidOut (by kernel_rfl) (of_decide_eq_true (by kernel_rfl)) h1 Tj lt1) (trodAll_cons_mk (Below.trod laidOut (by kernel_rfl) (of_decide_eq_true (by kernel_rfl)) h2 Tj lt2) trodAll_mk0))), rfl, Tj.frame _, fun h => by cases h⟩
theorem cR : Rows.fieldMatchesReferenceRow.holds Tryz.pinned (OpenSpec.ofChange Rows.fieldMatchesReferenceSpec) :=
 OpenClaim.holds_of_wide 3 Tryz.f3 rfl rfl rfl rfl rfl rfl rfl ⟨rfl, rfl, rfl, rfl, rfl⟩ rfl rfl rfl rfl rfl nm Tryz.func3 jf inst wrp
  (fun os started H enc _ => lifted os started H enc)
theorem proved : Rows.FieldMatchesReferenceSaid := cR
#print axioms proved
end Go.Proofs.YtceihkmakfdcnaaGreat.fieldMatchesReference
