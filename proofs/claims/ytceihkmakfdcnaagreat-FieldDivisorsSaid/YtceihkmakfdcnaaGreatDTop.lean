/- FieldDivisors: for every input the law returns true, and its arguments read as before. No condition. (The frame follows the kit's proof-skeleton.mjs; the reading of the arguments and the walk are own work.) -/
import Derived.Test.YtceihkmakfdcnaaGreatRows
import Derived.WalkKit
import Derived.ProofKit
import Derived.OpenShut
import Derived.ShutString
import Derived.ChangeOld
import Derived.Below
import Derived.SizedLaws
import Derived.Test.YtceihkmakfdcnaaGreatD29
import Derived.Test.YtceihkmakfdcnaaGreatD15
set_option linter.all false
namespace Go.Proofs.YtceihkmakfdcnaaGreat.fieldDivisors
open Go.ChangeShapes Go.WideShapes Go.ChangeAt Go.RowKit
theorem own : ownKnob Tryz.prog.godebug = none := by kernel_rfl
theorem laidOut : laidOutB Tryz.prog = true := by kernel_rfl
theorem ahN {l : List (Int × Int × Int)} (h : El.ve (.sl El.RW) l) : ∀ x ∈ l, El.lj x := fun x hx => by
 let ⟨h1, h2, h3⟩ := h x hx
 exact ⟨bounds_i8 h1, bounds_i8 h2, bounds_u8 h3⟩
theorem WB {l : List (List (Int × Int × Int))} (h : El.ve (.sl (.sl El.RW)) l) : ∀ r ∈ l, ∀ x ∈ r, El.lj x := fun r hr => ahN (h r hr)
theorem auU {g : El.Gh} {T : El.ET} {x : List T.den} {a : Option Addr} {l c : Nat} (h : El.cZ g.H (.sl T) x (Value.slice a l c).cells.toList) : El.bu g (.c (.S T x)) (.slice a l c) := by
 let ⟨v, r, e, h1, _⟩ := El.yq (g := g) (.sl T) x _ h
 simp [Value.cells] at e
 obtain ⟨rfl, rfl⟩ := e
 exact h1
theorem walk (k : Int) (c : List Int) (x0 x1 x2 : List (List (Int × Int × Int))) (y : List (Int × Int × Int)) (v0 v1 : Array Value) (v2 : Value) (w : World) (w0 : El.bu ⟨fun b o => w.cell? ⟨b, o, Option.none⟩, El.jT⟩ (.a (El.av (.pr El.U8 (.sl El.I8)) (k, c))) (.agg v0)) (w1 : El.bu ⟨fun b o => w.cell? ⟨b, o, Option.none⟩, El.jT⟩ (.a (El.av (.pr (.sl (.sl El.RW)) (.pr (.sl (.sl El.RW)) (.sl (.sl El.RW)))) (x0, x1, x2))) (.agg v1))
  (w2 : El.bu ⟨fun b o => w.cell? ⟨b, o, Option.none⟩, El.jT⟩ (.c (.S El.RW y)) v2)
  (f0 : El.ve (.pr El.U8 (.sl El.I8)) (k, c)) (f1 : El.ve (.pr (.sl (.sl El.RW)) (.pr (.sl (.sl El.RW)) (.sl (.sl El.RW)))) (x0, x1, x2)) (f2 : El.ve (.sl El.RW) y) :
  Calls Tryz.prog 8 #[.agg v0, .agg v1, v2] w fun e w' => e = .returned (.bool true) ∧ Below w.heap.size w w' := by
 refine ((El.auM k c x0 x1 x2 y (bounds_u8 f0.1) (fun x hx => bounds_i8 (f0.2 x hx)) (WB f1.1) (WB f1.2.1) (WB f1.2.2) (ahN f2)).spec (fun b o => w.cell? ⟨b, o, Option.none⟩) w [.agg v0, .agg v1, v2] (fun _ _ _ h => h) ⟨_, _, rfl, w0, _, _, rfl, w1, _, _, rfl, w2, rfl⟩).mono ?_
 rintro e w' ⟨v, H', rfl, hv, _, _, _, hb⟩
 have hv : v = .bool true := hv
 exact ⟨by rw [hv], hb⟩
theorem j0 : (Rows.fieldDivisorsRow.wf (OpenSpec.ofChange Rows.fieldDivisorsSpec)) = true := by kernel_rfl
theorem j1 : laidOutB Tryz.prog = true := laidOut
theorem j2 : (mapsRowed Tryz.prog) = true := by kernel_rfl
theorem j3 : (Tryz.f8.params.all (Tryz.prog.readableRec ·)) = true := by kernel_rfl
theorem j4 : (namedTie Tryz.prog Rows.fieldDivisorsRow.named Rows.fieldDivisorsSpec.vars) = true := by kernel_rfl
theorem j5 : ((Rows.fieldDivisorsRow.stops == [])) = true := by kernel_rfl
theorem j6 : ((Tryz.prog.stops == [])) = true := by kernel_rfl
theorem j7 : ((Rows.fieldDivisorsRow.knobs == [])) = true := by kernel_rfl
theorem j8 : ((Tryz.prog.stopKnobs == [])) = true := by kernel_rfl
theorem j9 : ((Rows.fieldDivisorsRow.inPlace == Tryz.prog.inPlace 8)) = true := by kernel_rfl
theorem j10 : ((Rows.fieldDivisorsRow.unfollowed == Tryz.prog.unfollowed 8)) = true := by kernel_rfl
theorem j11 : ((Rows.fieldDivisorsRow.recurses == Tryz.prog.recurses 8)) = true := by kernel_rfl
theorem j12 : ((Rows.fieldDivisorsRow.named == Tryz.prog.varsNamed 8)) = true := by kernel_rfl
theorem j13 : ((Rows.fieldDivisorsRow.maps == (Tryz.f8.params.toList ++ Rows.fieldDivisorsSpec.plain.varTypes Tryz.prog).any (Tryz.prog.mapsRec ·))) = true := by kernel_rfl
theorem j14 : ((Rows.fieldDivisorsRow.ifaces == (Tryz.f8.params.toList ++ Rows.fieldDivisorsSpec.plain.varTypes Tryz.prog).any (Tryz.prog.ifacesRec ·))) = true := by kernel_rfl
theorem j15 : ((Rows.fieldDivisorsRow.mapsOut == Tryz.prog.mapsAmong Tryz.f8.resultTypes.toList)) = true := by kernel_rfl
theorem j16 : ((Rows.fieldDivisorsRow.loops == (Tryz.f8.params.toList ++ Rows.fieldDivisorsSpec.plain.varTypes Tryz.prog).any (Tryz.prog.loopsFrom ·))) = true := by kernel_rfl
theorem j17 : ((Rows.fieldDivisorsRow.wideKeys == (Tryz.f8.params.toList ++ Rows.fieldDivisorsSpec.plain.varTypes Tryz.prog ++ Tryz.f8.resultTypes.toList).any (Tryz.prog.wideKeysFrom ·))) = true := by kernel_rfl
theorem j18 : (Rows.fieldDivisorsSpec.vars.all (Tryz.prog.varReadable ·)) = true := by kernel_rfl
theorem j19 : (Tryz.f8.resultTypes.all (fun t => Tryz.prog.readableRec t && decide (t < Tryz.prog.types.size))) = true := by kernel_rfl
theorem j20 : ((Rows.fieldDivisorsRow.ifacesOut == Tryz.f8.resultTypes.toList.any (Tryz.prog.ifacesRec ·))) = true := by kernel_rfl
theorem j21 : ((Rows.fieldDivisorsRow.loopsOut == Tryz.f8.resultTypes.toList.any (Tryz.prog.loopsFrom ·))) = true := by kernel_rfl
theorem j22 : ((Rows.fieldDivisorsRow.plainKeys == Tryz.prog.plainKeys)) = true := by kernel_rfl
theorem j23 : (Rows.fieldDivisorsRow.shortTexts.isNone) = true := by kernel_rfl
theorem j24 : (Tryz.prog.stopsHeard) = true := by kernel_rfl
theorem j25 : (Tryz.prog.mayEnter) = true := by kernel_rfl
theorem j26 : ((Rows.fieldDivisorsRow.lifted == Tryz.prog.liftsFinal)) = true := by kernel_rfl
theorem j27 : ((Tryz.prog.make == some Rows.fieldDivisorsRow.make)) = true := by kernel_rfl
theorem j28 : ((Rows.fieldDivisorsRow.kinds == (if Rows.fieldDivisorsRow.domain.isEmpty then [] else Tryz.f8.params.toList.map fun t => match Tryz.prog.underlying t with | some (.int k) => some k | _ => none))) = true := by kernel_rfl
theorem j29 : ((Rows.fieldDivisorsRow.pinned == Rows.fieldDivisorsRow.pinnedBy)) = true := by kernel_rfl
theorem j30 : ((Rows.fieldDivisorsRow.veiled == (Tryz.f8.params.toList ++ Rows.fieldDivisorsSpec.plain.varTypes Tryz.prog ++ Tryz.f8.resultTypes.toList).any (Tryz.prog.veiledRec ·))) = true := by kernel_rfl
theorem j31 : (Rows.fieldDivisorsRow.veiledFits Tryz.prog Tryz.f8.params.toList (Tryz.f8.params.toList ++ Rows.fieldDivisorsSpec.plain.varTypes Tryz.prog ++ Tryz.f8.resultTypes.toList)) = true := by kernel_rfl
theorem ix {a b : Bool} (h : a = true) (k : b = true) : (a && b) = true := by rw [h, k]; rfl
theorem jf : joinedFacts Tryz.prog 8 Tryz.f8 Rows.fieldDivisorsSpec Rows.fieldDivisorsRow = true := by
 unfold joinedFacts
 exact ix (ix (ix (ix (ix (ix (ix (ix (ix (ix (ix (ix (ix (ix (ix (ix (ix (ix (ix (ix (ix (ix (ix (ix (ix (ix (ix (ix (ix (ix (ix (j0) j1) j2) j3) j4) j5) j6) j7) j8) j9) j10) j11) j12) j13) j14) j15) j16) j17) j18) j19) j20) j21) j22) j23) j24) j25) j26) j27) (by kernel_rfl)) j29) j30) j31
theorem nm : Tryz.prog.funcNamed Rows.fieldDivisorsRow.func = some 8 := by kernel_rfl
theorem inst : Tryz.f8.isInstance Tryz.prog Rows.fieldDivisorsRow.origin Rows.fieldDivisorsRow.targs := of_decide_eq_true (by kernel_rfl)
theorem wrp : Tryz.f8.isWrapper Tryz.prog Rows.fieldDivisorsRow.wrapper Rows.fieldDivisorsRow.mainSum := by unfold Func.isWrapper; first | (rw [if_pos (by decide +kernel)]; kernel_rfl) | (rw [if_neg (by decide +kernel)]; exact ⟨rfl, rfl⟩)
set_option maxRecDepth 100000 in
theorem lifted (os : Os) (started : os.Started) (H : Type) (enc : TypeId × Value → H) :
  ReturnsInHanded {} Tryz.checked os 8 .any (Rows.fieldDivisorsSpec.pre6 enc Tryz.prog Tryz.f8 Rows.fieldDivisorsRow.domain false) (Rows.fieldDivisorsSpec.post enc Tryz.prog Tryz.f8 false true false false) := by
 refine returnsInHanded_of_change_sized (C := Tryz.checked) own started (by kernel_rfl) Tryz.func8
  (ChangeSpec.witness6 (enc := enc) (C := Tryz.checked) false ⟨#[], #[.agg #[.int .u8 0, .slice none 0 0], .agg #[.slice none 0 0, .slice none 0 0, .slice none 0 0], .slice none 0 0], []⟩ 8 (by kernel_rfl) (by kernel_rfl) (by kernel_rfl) (by kernel_rfl)) ?_
 intro W base args ds gs before ahO hW awl ahP _
 have Eh : ∀ (j : Nat) t v, Tryz.f8.params[j]? = some t → args[j]? = some v → Value.okWide Tryz.prog W .any base t v := ahO
 have hW' := hW
 obtain ⟨p, q, hA0, hV, rfl, hfz, lD⟩ := hW
 have hA : DataW.TrodAll enc Tryz.prog W 0 (fun _ => true) true Tryz.f8.params.toList args.toList ds p := hA0
 have kM : (DataW.weightsEach Tryz.prog (Tryz.f8.params.toList ++ Rows.fieldDivisorsSpec.plain.varTypes Tryz.prog) (ds ++ gs)).all (· ≤ reachBytes) = true := ahP
 rw [Tryz.params8] at hA Eh kM
 obtain ⟨v0, vs0, d0, ds0, p0, q0, aec, rfl, rfl, h0, r0⟩ := trodAll_cons hA
 obtain ⟨v1, vs1, d1, ds1, p1, q1, rfl, rfl, rfl, h1, r1⟩ := trodAll_cons r0
 obtain ⟨v2, vs2, d2, ds2, p2, q2, rfl, rfl, rfl, h2, r2⟩ := trodAll_cons r1
 obtain ⟨rfl, rfl, rfl⟩ := trodAll_nil r2
 obtain rfl : args = #[v0, v1, v2] := by cases args; simp_all
 obtain ⟨rfl, rfl⟩ := trodVars_none hV
 have F' : ∀ n ∈ DataW.weightsEach Tryz.prog [24, 69, 26] [d0, d1, d2], n ≤ reachBytes := fun n hn => of_decide_eq_true (List.all_eq_true.1 kM n hn)
 simp only [DataW.weightsEach, List.append_nil, List.mem_append] at F'
 obtain ⟨a0, rfl⟩ := El.ag5 (by kernel_rfl) (Eh 0 24 v0 rfl rfl)
 have lt0 : ∀ x ∈ p0, x.block < W.heap.size := by let ⟨m, hm⟩ := h0; exact DataW.trod_lt m _ _ _ hm
 obtain ⟨⟨k, c⟩, e0, f0⟩ := El.We (f := 12) (T := .pr El.U8 (.sl El.I8)) (by kernel_rfl) h0 (fun n hn => F' n (.inl hn))
 obtain ⟨a1, rfl⟩ := El.ag5 (by kernel_rfl) (Eh 1 69 v1 rfl rfl)
 have lt1 : ∀ x ∈ p1, x.block < W.heap.size := by let ⟨m, hm⟩ := h1; exact DataW.trod_lt m _ _ _ hm
 obtain ⟨⟨x0, x1, x2⟩, e1, f1⟩ := El.We (f := 12) (T := .pr (.sl (.sl El.RW)) (.pr (.sl (.sl El.RW)) (.sl (.sl El.RW)))) (by kernel_rfl) h1 (fun n hn => F' n (.inr (.inl hn)))
 obtain ⟨a2, awr, aws, rfl⟩ := okWide_slice Tryz.underlying26 (Eh 2 26 v2 rfl rfl)
 have lt2 : ∀ x ∈ p2, x.block < W.heap.size := by let ⟨m, hm⟩ := h2; exact DataW.trod_lt m _ _ _ hm
 obtain ⟨y, e2, f2⟩ := El.We (f := 12) (T := .sl El.RW) (by kernel_rfl) h2 (fun n hn => F' n (.inr (.inr hn)))
 clear hA0 ahO ahP
 refine (walk k c x0 x1 x2 y a0 a1 _ W (El.ag6 e0) (El.ag6 e1) (auU e2) f0 f1 f2).mono fun e W' ⟨he, PO⟩ => ?_
 subst he
 exact ⟨_, rfl, _, _, _, [], _, [], hW', trodAll_mk1 (shut_bool Tryz.underlying4 _), (trodAll_cons_mk (Below.trod laidOut (by kernel_rfl) (of_decide_eq_true (by kernel_rfl)) h0 PO lt0) (trodAll_cons_mk (Below.trod laidOut (by kernel_rfl) (of_decide_eq_true (by kernel_rfl)) h1 PO lt1) (trodAll_cons_mk (Below.trod laidOut (by kernel_rfl) (of_decide_eq_true (by kernel_rfl)) h2 PO lt2) trodAll_mk0))), rfl, PO.frame _, fun h => by cases h⟩
theorem c9 : Rows.fieldDivisorsRow.holds Tryz.pinned (OpenSpec.ofChange Rows.fieldDivisorsSpec) :=
 OpenClaim.holds_of_wide 8 Tryz.f8 rfl rfl rfl rfl rfl rfl rfl ⟨rfl, rfl, rfl, rfl, rfl⟩ rfl rfl rfl rfl rfl nm Tryz.func8 jf inst wrp
  (fun os started H enc _ => lifted os started H enc)
theorem proved : Rows.FieldDivisorsSaid := c9
#print axioms proved
end Go.Proofs.YtceihkmakfdcnaaGreat.fieldDivisors
