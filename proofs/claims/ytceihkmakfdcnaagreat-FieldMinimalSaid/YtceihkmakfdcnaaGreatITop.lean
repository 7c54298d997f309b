/- FieldMinimal: for every input the law returns true, and its arguments read as before. No condition. (The frame follows the kit's proof-skeleton.mjs; the reading of the arguments and the walk are own work.) -/
import Derived.Test.YtceihkmakfdcnaaGreatRows
import Derived.WalkKit
import Derived.ProofKit
import Derived.OpenShut
import Derived.ShutString
import Derived.ChangeOld
import Derived.Below
import Derived.SizedLaws
import Derived.Test.YtceihkmakfdcnaaGreatI30
import Derived.Test.YtceihkmakfdcnaaGreatI15
set_option linter.all false
namespace Go.Proofs.YtceihkmakfdcnaaGreat.fieldMinimal
open Go.ChangeShapes Go.WideShapes Go.ChangeAt Go.RowKit
theorem own : ownKnob Tryz.prog.godebug = none := by kernel_rfl
theorem laidOut : laidOutB Tryz.prog = true := by kernel_rfl
theorem axZ {l : List (Int × Int × Int)} (h : El.z6 (.sl El.RW) l) : ∀ x ∈ l, El.p' x := fun x hx => by
 let ⟨h1, h2, h3⟩ := h x hx
 exact ⟨bounds_i8 h1, bounds_i8 h2, bounds_u8 h3⟩
theorem ax0 {g : El.Gh} {T : El.ET} {x : List T.den} {a : Option Addr} {l c : Nat} (h : El.de g.H (.sl T) x (Value.slice a l c).cells.toList) : El.bf g (.c (.S T x)) (.slice a l c) := by
 let ⟨v, r, e, h1, _⟩ := El.Ae (g := g) (.sl T) x _ h
 simp [Value.cells] at e
 obtain ⟨rfl, rfl⟩ := e
 exact h1
theorem walk (k : Int) (c : List Int) (x0 : List (Int × Int × Int)) (v0 : Array Value) (v1 : Value) (w : World) (w0 : El.bf ⟨fun b o => w.cell? ⟨b, o, Option.none⟩, El.jK⟩ (.a (El.av (.pr El.U8 (.sl El.I8)) (k, c))) (.agg v0)) (w1 : El.bf ⟨fun b o => w.cell? ⟨b, o, Option.none⟩, El.jK⟩ (.c (.S El.RW x0)) v1)
  (f0 : El.z6 (.pr El.U8 (.sl El.I8)) (k, c)) (f1 : El.z6 (.sl El.RW) x0) :
  Calls Tryz.prog 7 #[.agg v0, v1] w fun e w' => e = .returned (.bool true) ∧ Below w.heap.size w w' := by
 refine ((El.axY k c x0 (bounds_u8 f0.1) (fun x hx => bounds_i8 (f0.2 x hx)) (axZ f1)).spec (fun b o => w.cell? ⟨b, o, Option.none⟩) w [.agg v0, v1] (fun _ _ _ h => h) ⟨_, _, rfl, w0, _, _, rfl, w1, rfl⟩).mono ?_
 rintro e w' ⟨v, H', rfl, hv, _, _, _, hb⟩
 have hv : v = .bool true := hv
 exact ⟨by rw [hv], hb⟩
theorem j0 : (Rows.fieldMinimalRow.wf (OpenSpec.ofChange Rows.fieldMinimalSpec)) = true := by kernel_rfl
theorem j1 : laidOutB Tryz.prog = true := laidOut
theorem j2 : (mapsRowed Tryz.prog) = true := by kernel_rfl
theorem j3 : (Tryz.f7.params.all (Tryz.prog.readableRec ·)) = true := by kernel_rfl
theorem j4 : (namedTie Tryz.prog Rows.fieldMinimalRow.named Rows.fieldMinimalSpec.vars) = true := by kernel_rfl
theorem j5 : ((Rows.fieldMinimalRow.stops == [])) = true := by kernel_rfl
theorem j6 : ((Tryz.prog.stops == [])) = true := by kernel_rfl
theorem j7 : ((Rows.fieldMinimalRow.knobs == [])) = true := by kernel_rfl
theorem j8 : ((Tryz.prog.stopKnobs == [])) = true := by kernel_rfl
theorem j9 : ((Rows.fieldMinimalRow.inPlace == Tryz.prog.inPlace 7)) = true := by kernel_rfl
theorem j10 : ((Rows.fieldMinimalRow.unfollowed == Tryz.prog.unfollowed 7)) = true := by kernel_rfl
theorem j11 : ((Rows.fieldMinimalRow.recurses == Tryz.prog.recurses 7)) = true := by kernel_rfl
theorem j12 : ((Rows.fieldMinimalRow.named == Tryz.prog.varsNamed 7)) = true := by kernel_rfl
theorem j13 : ((Rows.fieldMinimalRow.maps == (Tryz.f7.params.toList ++ Rows.fieldMinimalSpec.plain.varTypes Tryz.prog).any (Tryz.prog.mapsRec ·))) = true := by kernel_rfl
theorem j14 : ((Rows.fieldMinimalRow.ifaces == (Tryz.f7.params.toList ++ Rows.fieldMinimalSpec.plain.varTypes Tryz.prog).any (Tryz.prog.ifacesRec ·))) = true := by kernel_rfl
theorem j15 : ((Rows.fieldMinimalRow.mapsOut == Tryz.prog.mapsAmong Tryz.f7.resultTypes.toList)) = true := by kernel_rfl
theorem j16 : ((Rows.fieldMinimalRow.loops == (Tryz.f7.params.toList ++ Rows.fieldMinimalSpec.plain.varTypes Tryz.prog).any (Tryz.prog.loopsFrom ·))) = true := by kernel_rfl
theorem j17 : ((Rows.fieldMinimalRow.wideKeys == (Tryz.f7.params.toList ++ Rows.fieldMinimalSpec.plain.varTypes Tryz.prog ++ Tryz.f7.resultTypes.toList).any (Tryz.prog.wideKeysFrom ·))) = true := by kernel_rfl
theorem j18 : (Rows.fieldMinimalSpec.vars.all (Tryz.prog.varReadable ·)) = true := by kernel_rfl
theorem j19 : (Tryz.f7.resultTypes.all (fun t => Tryz.prog.readableRec t && decide (t < Tryz.prog.types.size))) = true := by kernel_rfl
theorem j20 : ((Rows.fieldMinimalRow.ifacesOut == Tryz.f7.resultTypes.toList.any (Tryz.prog.ifacesRec ·))) = true := by kernel_rfl
theorem j21 : ((Rows.fieldMinimalRow.loopsOut == Tryz.f7.resultTypes.toList.any (Tryz.prog.loopsFrom ·))) = true := by kernel_rfl
theorem j22 : ((Rows.fieldMinimalRow.plainKeys == Tryz.prog.plainKeys)) = true := by kernel_rfl
theorem j23 : (Rows.fieldMinimalRow.shortTexts.isNone) = true := by kernel_rfl
theorem j24 : (Tryz.prog.stopsHeard) = true := by kernel_rfl
theorem j25 : (Tryz.prog.mayEnter) = true := by kernel_rfl
theorem j26 : ((Rows.fieldMinimalRow.lifted == Tryz.prog.liftsFinal)) = true := by kernel_rfl
theorem j27 : ((Tryz.prog.make == some Rows.fieldMinimalRow.make)) = true := by kernel_rfl
theorem j28 : ((Rows.fieldMinimalRow.kinds == (if Rows.fieldMinimalRow.domain.isEmpty then [] else Tryz.f7.params.toList.map fun t => match Tryz.prog.underlying t with | some (.int k) => some k | _ => none))) = true := by kernel_rfl
theorem j29 : ((Rows.fieldMinimalRow.pinned == Rows.fieldMinimalRow.pinnedBy)) = true := by kernel_rfl
theorem j30 : ((Rows.fieldMinimalRow.veiled == (Tryz.f7.params.toList ++ Rows.fieldMinimalSpec.plain.varTypes Tryz.prog ++ Tryz.f7.resultTypes.toList).any (Tryz.prog.veiledRec ·))) = true := by kernel_rfl
theorem j31 : (Rows.fieldMinimalRow.veiledFits Tryz.prog Tryz.f7.params.toList (Tryz.f7.params.toList ++ Rows.fieldMinimalSpec.plain.varTypes Tryz.prog ++ Tryz.f7.resultTypes.toList)) = true := by kernel_rfl
theorem iW {a b : Bool} (h : a = true) (k : b = true) : (a && b) = true := by rw [h, k]; rfl
theorem jf : joinedFacts Tryz.prog 7 Tryz.f7 Rows.fieldMinimalSpec Rows.fieldMinimalRow = true := by
 unfold joinedFacts
 exact iW (iW (iW (iW (iW (iW (iW (iW (iW (iW (iW (iW (iW (iW (iW (iW (iW (iW (iW (iW (iW (iW (iW (iW (iW (iW (iW (iW (iW (iW (iW (j0) j1) j2) j3) j4) j5) j6) j7) j8) j9) j10) j11) j12) j13) j14) j15) j16) j17) j18) j19) j20) j21) j22) j23) j24) j25) j26) j27) (by kernel_rfl)) j29) j30) j31
theorem nm : Tryz.prog.funcNamed Rows.fieldMinimalRow.func = some 7 := by kernel_rfl
theorem inst : Tryz.f7.isInstance Tryz.prog Rows.fieldMinimalRow.origin Rows.fieldMinimalRow.targs := of_decide_eq_true (by kernel_rfl)
theorem wrp : Tryz.f7.isWrapper Tryz.prog Rows.fieldMinimalRow.wrapper Rows.fieldMinimalRow.mainSum := by unfold Func.isWrapper; first | (rw [if_pos (by decide +kernel)]; kernel_rfl) | (rw [if_neg (by decide +kernel)]; exact ⟨rfl, rfl⟩)
set_option maxRecDepth 100000 in
theorem lifted (os : Os) (started : os.Started) (H : Type) (enc : TypeId × Value → H) :
  ReturnsInHanded {} Tryz.checked os 7 .any (Rows.fieldMinimalSpec.pre6 enc Tryz.prog Tryz.f7 Rows.fieldMinimalRow.domain false) (Rows.fieldMinimalSpec.post enc Tryz.prog Tryz.f7 false true false false) := by
 refine returnsInHanded_of_change_sized (C := Tryz.checked) own started (by kernel_rfl) Tryz.func7
  (ChangeSpec.witness6 (enc := enc) (C := Tryz.checked) false ⟨#[], #[.agg #[.int .u8 0, .slice none 0 0], .slice none 0 0], []⟩ 8 (by kernel_rfl) (by kernel_rfl) (by kernel_rfl) (by kernel_rfl)) ?_
 intro W base args ds gs before aky hW azk akz _
 have Jd : ∀ (j : Nat) t v, Tryz.f7.params[j]? = some t → args[j]? = some v → Value.okWide Tryz.prog W .any base t v := aky
 have hW' := hW
 obtain ⟨p, q, hA0, hV, rfl, hfz, kd⟩ := hW
 have hA : DataW.TrodAll enc Tryz.prog W 0 (fun _ => true) true Tryz.f7.params.toList args.toList ds p := hA0
 have gY : (DataW.weightsEach Tryz.prog (Tryz.f7.params.toList ++ Rows.fieldMinimalSpec.plain.varTypes Tryz.prog) (ds ++ gs)).all (· ≤ reachBytes) = true := akz
 rw [Tryz.params7] at hA Jd gY
 obtain ⟨v0, vs0, d0, ds0, p0, q0, Oz, rfl, rfl, h0, r0⟩ := trodAll_cons hA
 obtain ⟨v1, vs1, d1, ds1, p1, q1, rfl, rfl, rfl, h1, r1⟩ := trodAll_cons r0
 obtain ⟨rfl, rfl, rfl⟩ := trodAll_nil r1
 obtain rfl : args = #[v0, v1] := by cases args; simp_all
 obtain ⟨rfl, rfl⟩ := trodVars_none hV
 have Zk : ∀ n ∈ DataW.weightsEach Tryz.prog [24, 26] [d0, d1], n ≤ reachBytes := fun n hn => of_decide_eq_true (List.all_eq_true.1 gY n hn)
 simp only [DataW.weightsEach, List.append_nil, List.mem_append] at Zk
 obtain ⟨a0, rfl⟩ := El.awv (by kernel_rfl) (Jd 0 24 v0 rfl rfl)
 have lt0 : ∀ x ∈ p0, x.block < W.heap.size := by let ⟨m, hm⟩ := h0; exact DataW.trod_lt m _ _ _ hm
 obtain ⟨⟨k, c⟩, e0, f0⟩ := El.ajF (f := 12) (T := .pr El.U8 (.sl El.I8)) (by kernel_rfl) h0 (fun n hn => Zk n (.inl hn))
 obtain ⟨a1, azo, azp, rfl⟩ := okWide_slice Tryz.underlying26 (Jd 1 26 v1 rfl rfl)
 have lt1 : ∀ x ∈ p1, x.block < W.heap.size := by let ⟨m, hm⟩ := h1; exact DataW.trod_lt m _ _ _ hm
 obtain ⟨x0, e1, f1⟩ := El.ajF (f := 12) (T := .sl El.RW) (by kernel_rfl) h1 (fun n hn => Zk n (.inr hn))
 clear hA0 aky akz
 refine (walk k c x0 a0 _ W (El.aww e0) (ax0 e1) f0 f1).mono fun e W' ⟨he, Zl⟩ => ?_
 subst he
 exact ⟨_, rfl, _, _, _, [], _, [], hW', trodAll_mk1 (shut_bool Tryz.underlying4 _), (trodAll_cons_mk (Below.trod laidOut (by kernel_rfl) (of_decide_eq_true (by kernel_rfl)) h0 Zl lt0) (trodAll_cons_mk (Below.trod laidOut (by kernel_rfl) (of_decide_eq_true (by kernel_rfl)) h1 Zl lt1) trodAll_mk0)), rfl, Zl.frame _, fun h => by cases h⟩
theorem cK : Rows.fieldMinimalRow.holds Tryz.pinned (OpenSpec.ofChange Rows.fieldMinimalSpec) :=
 OpenClaim.holds_of_wide 7 Tryz.f7 rfl rfl rfl rfl rfl rfl rfl ⟨rfl, rfl, rfl, rfl, rfl⟩ rfl rfl rfl rfl rfl nm Tryz.func7 jf inst wrp
  (fun os started H enc _ => lifted os started H enc)
theorem proved : Rows.FieldMinimalSaid := cK
#print axioms proved
end Go.Proofs.YtceihkmakfdcnaaGreat.fieldMinimal
