/- FactorMatchesReference: for every input the law returns true, and its arguments read as before. No condition. (The frame was written by the kit's proof-skeleton.mjs; row_rel and walk are own work.) -/
import Derived.Test.YtkkccchkmcjcpaaGreatRows
import Derived.WalkKit
import Derived.ProofKit
import Derived.OpenShut
import Derived.ShutString
import Derived.ChangeOld
import Derived.Below
import Derived.SizedLaws
import Derived.Test.YtkkccchkmcjcpaaGreatV17
set_option linter.all false
namespace Go.Proofs.YtkkccchkmcjcpaaGreat.factorMatchesReference
open Go.ChangeShapes Go.WideShapes Go.ChangeAt Go.RowKit
open Go.ChangeMaps (open_string shut_string)
theorem own : ownKnob Tryz.prog.godebug = none := by kernel_rfl
theorem laidOut : laidOutB Tryz.prog = true := by kernel_rfl
def Wi (k : IntKind) (w : World) (a : Option Addr) (len cap : Nat) (zs : List Int) : Prop :=
 (a = none ∧ len = 0 ∧ cap = 0 ∧ zs = []) ∨
 ∃ x, a = some x ∧ len ≤ cap ∧ cap ≤ reachBytes ∧ zs.length = cap ∧ (∀ i, i < zs.length → w.cell? (x.add i) = some (.int k (zs.getD i 0))) ∧ ∀ n ∈ zs, (Lit.int k n).wf = true
theorem auw {w : World} {a : Option Addr} {len cap : Nat} {zs : List Int} (h : Wi .i8 w a len cap zs) :
  El.dn ⟨fun b o => w.cell? ⟨b, o, Option.none⟩, El.jc⟩ (.S El.I8 (zs.take len)) (.slice a len cap) ∧ ∀ x ∈ zs.take len, -128 ≤ x ∧ x ≤ 127 := by
 rcases h with ⟨rfl, rfl, rfl, rfl⟩ | ⟨x, rfl, hl, hm, hz, hc, hw⟩
 ·exact ⟨⟨Option.none, 0, rfl, Nat.le_refl _, by simp, .inl rfl⟩, by simp⟩
 ·have hlen : (zs.take len).length = len := by simp; omega
  refine ⟨⟨some x, cap, by rw [hlen], by omega, ?_, ?_⟩, fun y hy => bounds_i8 (hw y (List.mem_of_mem_take hy))⟩
  ·rw [hlen]
   have : len ≤ reachBytes := by omega
   simp only [reachBytes] at this
   show len * 1 ≤ _
   omega
  ·by_cases h0 : len = 0
   ·left; rw [h0]; simp
   ·right
    obtain ⟨b, off, rfl, NP⟩ := ints_at hc (by omega)
    refine ⟨b, off, rfl, fun i hi => ⟨[.int .i8 (zs.take len)[i]], rfl, rfl, fun j hj => ?_⟩⟩
    have HM : j = 0 := by simp at hj; omega
    subst HM
    have hi2 : i < zs.length := by omega
    have e := hc i hi2
    simp only [List.getElem_take]
    rw [List.getD_eq_getElem?_getD, List.getElem?_eq_getElem hi2] at e
    show w.cell? ⟨b, off + i * 1 + 0, Option.none⟩ = _
    rw [Nat.mul_one, Nat.add_zero]
    have ea : Addr.add ⟨b, off, Option.none⟩ i = ⟨b, off + i, Option.none⟩ := by
     by_cases CH : i = 0
     ·subst CH; rfl
     ·simp [Addr.add, CH]
    rw [ea] at e
    exact e
theorem walk (a0 : Option Addr) (Cq Cr : Nat) (z0 : List Int) (a1 : Int) (a2 : Int) (w : World) (w0 : Wi .i8 w a0 Cq Cr z0) (w1 : (Lit.int .u32 a1).wf = true) (w2 : (Lit.int .u8 a2).wf = true) :
  Calls Tryz.prog 4 #[.slice a0 Cq Cr, .int .u32 a1, .int .u8 a2] w fun e w' => e = .returned (.bool true) ∧ Below w.heap.size w w' := by
 let ⟨r0, b0⟩ := auw w0
 obtain ⟨u0, u1⟩ : 0 ≤ a1 ∧ a1 ≤ 4294967295 := bounds_u32 w1
 obtain ⟨v0, v1⟩ : 0 ≤ a2 ∧ a2 ≤ 255 := bounds_u8 w2
 obtain ⟨n, rfl⟩ : ∃ n : Nat, a1 = (n : Int) := ⟨a1.toNat, by omega⟩
 obtain ⟨e, rfl⟩ : ∃ e : Nat, a2 = (e : Int) := ⟨a2.toNat, by omega⟩
 refine ((El.aur (z0.take Cq) b0 n (by omega) e (by omega)).spec (fun b o => w.cell? ⟨b, o, Option.none⟩) w [.slice a0 Cq Cr, .int .u32 n, .int .u8 e] (fun _ _ _ h => h) ⟨_, _, rfl, r0, _, _, rfl, rfl, _, _, rfl, rfl, rfl⟩).mono ?_
 rintro e w' ⟨v, H', rfl, hv, _, _, _, hb⟩
 have hv : v = .bool true := hv
 exact ⟨by rw [hv], hb⟩
set_option maxRecDepth 100000 in
theorem lifted (os : Os) (started : os.Started) (H : Type) (enc : TypeId × Value → H) :
  ReturnsInHanded {} Tryz.checked os 4 .any (Rows.factorMatchesReferenceSpec.pre6 enc Tryz.prog Tryz.f4 Rows.factorMatchesReferenceRow.domain false) (Rows.factorMatchesReferenceSpec.post enc Tryz.prog Tryz.f4 false true false false) := by
 refine returnsInHanded_of_change_sized (C := Tryz.checked) own started (by kernel_rfl) Tryz.func4
  (ChangeSpec.witness6 (enc := enc) (C := Tryz.checked) false ⟨#[], #[.slice none 0 0, .int .u32 0, .int .u8 0], []⟩ 8 (by kernel_rfl) (by kernel_rfl) (by kernel_rfl) (by kernel_rfl)) ?_
 intro W base args ds gs before agE hW avY agF _
 have Pj : ∀ (j : Nat) t v, Tryz.f4.params[j]? = some t → args[j]? = some v → Value.okWide Tryz.prog W .any base t v := agE
 have hW' := hW
 obtain ⟨p, q, hA0, hV, rfl, ZI, vz⟩ := hW
 have hA : DataW.TrodAll enc Tryz.prog W 0 (fun _ => true) true Tryz.f4.params.toList args.toList ds p := hA0
 have ki : (DataW.weightsEach Tryz.prog (Tryz.f4.params.toList ++ Rows.factorMatchesReferenceSpec.plain.varTypes Tryz.prog) (ds ++ gs)).all (· ≤ reachBytes) = true := agF
 rw [Tryz.params4] at hA Pj ki
 obtain ⟨v0, vs0, d0, ds0, p0, q0, adn, rfl, rfl, h0, r0⟩ := trodAll_cons hA
 obtain ⟨v1, vs1, d1, ds1, p1, q1, rfl, rfl, rfl, h1, r1⟩ := trodAll_cons r0
 obtain ⟨v2, vs2, d2, ds2, p2, q2, rfl, rfl, rfl, h2, r2⟩ := trodAll_cons r1
 obtain ⟨rfl, rfl, rfl⟩ := trodAll_nil r2
 obtain rfl : args = #[v0, v1, v2] := by cases args; simp_all
 obtain ⟨rfl, rfl⟩ := trodVars_none hV
 obtain ⟨a0, Cq, Cr, rfl⟩ := okWide_slice Tryz.underlying38 (Pj 0 38 v0 rfl rfl)
 have k0 := h0
 have lt0 : ∀ x ∈ p0, x.block < W.heap.size := by let ⟨m, hm⟩ := k0; exact DataW.trod_lt m _ _ _ hm
 obtain ⟨z0, w0⟩ : ∃ zs, Wi .i8 W a0 Cq Cr zs := by
  let ⟨fuel, hf⟩ := h0
  rcases open_ints Tryz.underlying38 Tryz.underlying86 (by kernel_rfl) hf with ⟨sX, _⟩ | ⟨x, l, c, zs, sX, _, hl, hm, hz, hx, auA, hwz⟩
  ·simp [Value.cells] at sX
   obtain ⟨rfl, rfl, rfl⟩ := sX
   exact ⟨[], .inl ⟨rfl, rfl, rfl, rfl⟩⟩
  ·simp [Value.cells] at sX
   obtain ⟨rfl, rfl, rfl⟩ := sX
   simp only [Prod.mk.injEq] at hx
   obtain ⟨rfl, _⟩ := hx
   have hs := sized_slice ki (j := 0) (t := 38) (e := 86) rfl rfl Tryz.underlying38
   rw [show Tryz.prog.bytesOf 86 = 1 by kernel_rfl] at hs
   have Sb : zs.length = Cr := by simpa using hz
   simp only [lits, List.length_map, List.length_take, List.length_drop] at hs
   exact ⟨zs, .inr ⟨_, rfl, hl, by omega, Sb, auA, hwz⟩⟩
 obtain ⟨a1, rfl, rfl, rfl, w1⟩ := open_int Tryz.underlying23 (Pj 1 23 v1 rfl rfl) h1
 obtain ⟨a2, rfl, rfl, rfl, w2⟩ := open_int Tryz.underlying5 (Pj 2 5 v2 rfl rfl) h2
 clear hA0 agE agF
 refine (walk a0 Cq Cr z0 a1 a2 W w0 w1 w2).mono fun e W' ⟨he, bel⟩ => ?_
 subst he
 exact ⟨_, rfl, _, _, _, [], _, [], hW', trodAll_mk1 (shut_bool Tryz.underlying4 _), (trodAll_cons_mk (Below.trod laidOut (by kernel_rfl) (of_decide_eq_true (by kernel_rfl)) k0 bel lt0) (trodAll_cons_mk (shut_int Tryz.underlying23 w1) (trodAll_cons_mk (shut_int Tryz.underlying5 w2) trodAll_mk0))), rfl, bel.frame _, fun h => by cases h⟩
theorem dx : Rows.factorMatchesReferenceRow.holds Tryz.pinned (OpenSpec.ofChange Rows.factorMatchesReferenceSpec) :=
 OpenClaim.holds_of_wide 4 Tryz.f4 rfl rfl rfl rfl rfl rfl rfl ⟨rfl, rfl, rfl, rfl, rfl⟩ rfl rfl rfl rfl rfl (by kernel_rfl) Tryz.func4 (by kernel_rfl)
  (of_decide_eq_true (by kernel_rfl)) (by unfold Func.isWrapper; first | (rw [if_pos (by decide +kernel)]; kernel_rfl) | (rw [if_neg (by decide +kernel)]; exact ⟨rfl, rfl⟩))
  (fun os started H enc _ => lifted os started H enc)
theorem proved : Rows.FactorMatchesReferenceSaid := dx
#print axioms proved
end Go.Proofs.YtkkccchkmcjcpaaGreat.factorMatchesReference
