/- FieldNorms: for every input the law returns true, and its arguments read as before. No condition. (The frame follows the kit's proof-skeleton.mjs; the reading of the arguments and the walk are own work.) -/
import Derived.Test.YtceihkmakfdcnaaGreatRows
import Derived.WalkKit
import Derived.ProofKit
import Derived.OpenShut
import Derived.ShutString
import Derived.ChangeOld
import Derived.Below
import Derived.SizedLaws
import Derived.Test.YtceihkmakfdcnaaGreatB29
import Derived.Test.YtceihkmakfdcnaaGreatB15
set_option linter.all false
namespace Go.Proofs.YtceihkmakfdcnaaGreat.fieldNorms
open Go.ChangeShapes Go.WideShapes Go.ChangeAt Go.RowKit
theorem own : ownKnob Tryz.prog.godebug = none := by kernel_rfl
theorem laidOut : laidOutB Tryz.prog = true := by kernel_rfl
theorem ahP {l : List (Int × Int × Int)} (h : El.wR (.sl El.RW) l) : ∀ x ∈ l, El.mR x := fun x hx => by
 let ⟨h1, h2, h3⟩ := h x hx
 exact ⟨bounds_i8 h1, bounds_i8 h2, bounds_u8 h3⟩
theorem walk (k : Int) (c : List Int) (x0 x1 : List (Int × Int × Int)) (z1 z2 z3 : Int) (v0 v1 v2 : Array Value) (w : World) (w0 : El.a8 ⟨fun b o => w.cell? ⟨b, o, Option.none⟩, El.ja⟩ (.a (El.av (.pr El.U8 (.sl El.I8)) (k, c))) (.agg v0)) (w1 : El.a8 ⟨fun b o => w.cell? ⟨b, o, Option.none⟩, El.ja⟩ (.a (El.av (.pr (.sl El.RW) (.sl El.RW)) (x0, x1))) (.agg v1))
  (w2 : El.a8 ⟨fun b o => w.cell? ⟨b, o, Option.none⟩, El.ja⟩ (.a (El.av El.RW (z1, z2, z3))) (.agg v2))
  (f0 : El.wR (.pr El.U8 (.sl El.I8)) (k, c)) (f1 : El.wR (.pr (.sl El.RW) (.sl El.RW)) (x0, x1)) (f2 : El.wR El.RW (z1, z2, z3)) :
  Calls Tryz.prog 6 #[.agg v0, .agg v1, .agg v2] w fun e w' => e = .returned (.bool true) ∧ Below w.heap.size w w' := by
 refine ((El.auS k c x0 x1 (z1, z2, z3) (bounds_u8 f0.1) (fun x hx => bounds_i8 (f0.2 x hx)) (ahP f1.1) (ahP f1.2) ⟨bounds_i8 f2.1, bounds_i8 f2.2.1, bounds_u8 f2.2.2⟩).spec (fun b o => w.cell? ⟨b, o, Option.none⟩) w [.agg v0, .agg v1, .agg v2] (fun _ _ _ h => h) ⟨_, _, rfl, w0, _, _, rfl, w1, _, _, rfl, w2, rfl⟩).mono ?_
 rintro e w' ⟨v, H', rfl, hv, _, _, _, hb⟩
 have hv : v = .bool true := hv
 exact ⟨by rw [hv], hb⟩
theorem j0 : (Rows.fieldNormsRow.wf (OpenSpec.ofChange Rows.fieldNormsSpec)) = true := by kernel_rfl
theorem j1 : laidOutB Tryz.prog = true := laidOut
theorem j2 : (mapsRowed Tryz.prog) = true := by kernel_rfl
theorem j3 : (Tryz.f6.params.all (Tryz.prog.readableRec ·)) = true := by kernel_rfl
theorem j4 : (namedTie Tryz.prog Rows.fieldNormsRow.named Rows.fieldNormsSpec.vars) = true := by kernel_rfl
theorem j5 : ((Rows.fieldNormsRow.stops == [])) = true := by kernel_rfl
theorem j6 : ((Tryz.prog.stops == [])) = true := by kernel_rfl
theorem j7 : ((Rows.fieldNormsRow.knobs == [])) = true := by kernel_rfl
theorem j8 : ((Tryz.prog.stopKnobs == [])) = true := by kernel_rfl
theorem j9 : ((Rows.fieldNormsRow.inPlace == Tryz.prog.inPlace 6)) = true := by kernel_rfl
theorem j10 : ((Rows.fieldNormsRow.unfollowed == Tryz.prog.unfollowed 6)) = true := by kernel_rfl
theorem j11 : ((Rows.fieldNormsRow.recurses == Tryz.prog.recurses 6)) = true := by kernel_rfl
theorem j12 : ((Rows.fieldNormsRow.named == Tryz.prog.varsNamed 6)) = true := by kernel_rfl
theorem j13 : ((Rows.fieldNormsRow.maps == (Tryz.f6.params.toList ++ Rows.fieldNormsSpec.plain.varTypes Tryz.prog).any (Tryz.prog.mapsRec ·))) = true := by kernel_rfl
theorem j14 : ((Rows.fieldNormsRow.ifaces == (Tryz.f6.params.toList ++ Rows.fieldNormsSpec.plain.varTypes Tryz.prog).any (Tryz.prog.ifacesRec ·))) = true := by kernel_rfl
theorem j15 : ((Rows.fieldNormsRow.mapsOut == Tryz.prog.mapsAmong Tryz.f6.resultTypes.toList)) = true := by kernel_rfl
theorem j16 : ((Rows.fieldNormsRow.loops == (Tryz.f6.params.toList ++ Rows.fieldNormsSpec.plain.varTypes Tryz.prog).any (Tryz.prog.loopsFrom ·))) = true := by kernel_rfl
theorem j17 : ((Rows.fieldNormsRow.wideKeys == (Tryz.f6.params.toList ++ Rows.fieldNormsSpec.plain.varTypes Tryz.prog ++ Tryz.f6.resultTypes.toList).any (Tryz.prog.wideKeysFrom ·))) = true := by kernel_rfl
theorem j18 : (Rows.fieldNormsSpec.vars.all (Tryz.prog.varReadable ·)) = true := by kernel_rfl
theorem j19 : (Tryz.f6.resultTypes.all (fun t => Tryz.prog.readableRec t && decide (t < Tryz.prog.types.size))) = true := by kernel_rfl
theorem j20 : ((Rows.fieldNormsRow.ifacesOut == Tryz.f6.resultTypes.toList.any (Tryz.prog.ifacesRec ·))) = true := by kernel_rfl
theorem j21 : ((Rows.fieldNormsRow.loopsOut == Tryz.f6.resultTypes.toList.any (Tryz.prog.loopsFrom ·))) = true := by kernel_rfl
theorem j22 : ((Rows.fieldNormsRow.plainKeys == Tryz.prog.plainKeys)) = true := by kernel_rfl
theorem j23 : (Rows.fieldNormsRow.shortTexts.isNone) = true := by kernel_rfl
theorem j24 : (Tryz.prog.stopsHeard) = true := by kernel_rfl
theorem j25 : (Tryz.prog.mayEnter) = true := by kernel_rfl
theorem j26 : ((Rows.fieldNormsRow.lifted == Tryz.prog.liftsFinal)) = true := by kernel_rfl
theorem j27 : ((Tryz.prog.make == some Rows.fieldNormsRow.make)) = true := by kernel_rfl
theorem j28 : ((Rows.fieldNormsRow.kinds == (if Rows.fieldNormsRow.domain.isEmpty then [] else Tryz.f6.params.toList.map fun t => match Tryz.prog.underlying t with | some (.int k) => some k | _ => none))) = true := by kernel_rfl
theorem j29 : ((Rows.fieldNormsRow.pinned == Rows.fieldNormsRow.pinnedBy)) = true := by kernel_rfl
theorem j30 : ((Rows.fieldNormsRow.veiled == (Tryz.f6.params.toList ++ Rows.fieldNormsSpec.plain.varTypes Tryz.prog ++ Tryz.f6.resultTypes.toList).any (Tryz.prog.veiledRec ·))) = true := by kernel_rfl
theorem j31 : (Rows.fieldNormsRow.veiledFits Tryz.prog Tryz.f6.params.toList (Tryz.f6.params.toList ++ Rows.fieldNormsSpec.plain.varTypes Tryz.prog ++ Tryz.f6.resultTypes.toList)) = true := by kernel_rfl
theorem iv {a b : Bool} (h : a = true) (k : b = true) : (a && b) = true := by rw [h, k]; rfl
theorem jf : joinedFacts Tryz.prog 6 Tryz.f6 Rows.fieldNormsSpec Rows.fieldNormsRow = true := by
 unfold joinedFacts
 exact iv (iv (iv (iv (iv (iv (iv (iv (iv (iv (iv (iv (iv (iv (iv (iv (iv (iv (iv (iv (iv (iv (iv (iv (iv (iv (iv (iv (iv (iv (iv (j0) j1) j2) j3) j4) j5) j6) j7) j8) j9) j10) j11) j12) j13) j14) j15) j16) j17) j18) j19) j20) j21) j22) j23) j24) j25) j26) j27) (by kernel_rfl)) j29) j30) j31
theorem nm : Tryz.prog.funcNamed Rows.fieldNormsRow.func = some 6 := by kernel_rfl
theorem inst : Tryz.f6.isInstance Tryz.prog Rows.fieldNormsRow.origin Rows.fieldNormsRow.targs := of_decide_eq_true (by kernel_rfl)
theorem wrp : Tryz.f6.isWrapper Tryz.prog Rows.fieldNormsRow.wrapper Rows.fieldNormsRow.mainSum := by unfold Func.isWrapper; first | (rw [if_pos (by decide +kernel)]; kernel_rfl) | (rw [if_neg (by decide +kernel)]; exact ⟨rfl, rfl⟩)
set_option maxRecDepth 100000 in
theorem lifted (os : Os) (started : os.Started) (H : Type) (enc : TypeId × Value → H) :
  ReturnsInHanded {} Tryz.checked os 6 .any (Rows.fieldNormsSpec.pre6 enc Tryz.prog Tryz.f6 Rows.fieldNormsRow.domain false) (Rows.fieldNormsSpec.post enc Tryz.prog Tryz.f6 false true false false) := by
 refine returnsInHanded_of_change_sized (C := Tryz.checked) own started (by kernel_rfl) Tryz.func6
  (ChangeSpec.witness6 (enc := enc) (C := Tryz.checked) false ⟨#[], #[.agg #[.int .u8 0, .slice none 0 0], .agg #[.slice none 0 0, .slice none 0 0], .agg #[.int .i8 0, .int .i8 0, .int .u8 0]], []⟩ 8 (by kernel_rfl) (by kernel_rfl) (by kernel_rfl) (by kernel_rfl)) ?_
 intro W base args ds gs before ahQ hW awc ahR _
 have Eg : ∀ (j : Nat) t v, Tryz.f6.params[j]? = some t → args[j]? = some v → Value.okWide Tryz.prog W .any base t v := ahQ
 have hW' := hW
 obtain ⟨p, q, hA0, hV, rfl, hfz, jR⟩ := hW
 have hA : DataW.TrodAll enc Tryz.prog W 0 (fun _ => true) true Tryz.f6.params.toList args.toList ds p := hA0
 have gw : (DataW.weightsEach Tryz.prog (Tryz.f6.params.toList ++ Rows.fieldNormsSpec.plain.varTypes Tryz.prog) (ds ++ gs)).all (· ≤ reachBytes) = true := ahR
 rw [Tryz.params6] at hA Eg gw
 obtain ⟨v0, vs0, d0, ds0, p0, q0, MI, rfl, rfl, h0, r0⟩ := trodAll_cons hA
 obtain ⟨v1, vs1, d1, ds1, p1, q1, rfl, rfl, rfl, h1, r1⟩ := trodAll_cons r0
 obtain ⟨v2, vs2, d2, ds2, p2, q2, rfl, rfl, rfl, h2, r2⟩ := trodAll_cons r1
 obtain ⟨rfl, rfl, rfl⟩ := trodAll_nil r2
 obtain rfl : args = #[v0, v1, v2] := by cases args; simp_all
 obtain ⟨rfl, rfl⟩ := trodVars_none hV
 have Qe : ∀ n ∈ DataW.weightsEach Tryz.prog [24, 55, 57] [d0, d1, d2], n ≤ reachBytes := fun n hn => of_decide_eq_true (List.all_eq_true.1 gw n hn)
 simp only [DataW.weightsEach, List.append_nil, List.mem_append] at Qe
 obtain ⟨a0, rfl⟩ := El.WO (by kernel_rfl) (Eg 0 24 v0 rfl rfl)
 have lt0 : ∀ x ∈ p0, x.block < W.heap.size := by let ⟨m, hm⟩ := h0; exact DataW.trod_lt m _ _ _ hm
 obtain ⟨⟨k, c⟩, e0, f0⟩ := El.WN (f := 12) (T := .pr El.U8 (.sl El.I8)) (by kernel_rfl) h0 (fun n hn => Qe n (.inl hn))
 obtain ⟨a1, rfl⟩ := El.WO (by kernel_rfl) (Eg 1 55 v1 rfl rfl)
 have lt1 : ∀ x ∈ p1, x.block < W.heap.size := by let ⟨m, hm⟩ := h1; exact DataW.trod_lt m _ _ _ hm
 obtain ⟨⟨x0, x1⟩, e1, f1⟩ := El.WN (f := 12) (T := .pr (.sl El.RW) (.sl El.RW)) (by kernel_rfl) h1 (fun n hn => Qe n (.inr (.inl hn)))
 obtain ⟨a2, rfl⟩ := El.WO (by kernel_rfl) (Eg 2 57 v2 rfl rfl)
 have lt2 : ∀ x ∈ p2, x.block < W.heap.size := by let ⟨m, hm⟩ := h2; exact DataW.trod_lt m _ _ _ hm
 obtain ⟨⟨z1, z2, z3⟩, e2, f2⟩ := El.WN (f := 12) (T := El.RW) (by kernel_rfl) h2 (fun n hn => Qe n (.inr (.inr hn)))
 clear hA0 ahQ ahR
 refine (walk k c x0 x1 z1 z2 z3 a0 a1 a2 W (El.WQ e0) (El.WQ e1) (El.WQ e2) f0 f1 f2).mono fun e W' ⟨he, Qf⟩ => ?_
 subst he
 exact ⟨_, rfl, _, _, _, [], _, [], hW', trodAll_mk1 (shut_bool Tryz.underlying4 _), (trodAll_cons_mk (Below.trod laidOut (by kernel_rfl) (of_decide_eq_true (by kernel_rfl)) h0 Qf lt0) (trodAll_cons_mk (Below.trod laidOut (by kernel_rfl) (of_decide_eq_true (by kernel_rfl)) h1 Qf lt1) (trodAll_cons_mk (Below.trod laidOut (by kernel_rfl) (of_decide_eq_true (by kernel_rfl)) h2 Qf lt2) trodAll_mk0))), rfl, Qf.frame _, fun h => by cases h⟩
theorem cF : Rows.fieldNormsRow.holds Tryz.pinned (OpenSpec.ofChange Rows.fieldNormsSpec) :=
 OpenClaim.holds_of_wide 6 Tryz.f6 rfl rfl rfl rfl rfl rfl rfl ⟨rfl, rfl, rfl, rfl, rfl⟩ rfl rfl rfl rfl rfl nm Tryz.func6 jf inst wrp
  (fun os started H enc _ => lifted os started H enc)
theorem proved : Rows.FieldNormsSaid := cF
#print axioms proved
end Go.Proofs.YtceihkmakfdcnaaGreat.fieldNorms
