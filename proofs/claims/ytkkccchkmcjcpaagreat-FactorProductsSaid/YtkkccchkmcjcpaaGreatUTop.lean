/- FactorProducts: for every input the law returns true, and its arguments read as before. No condition. (The frame was written by the kit's proof-skeleton.mjs; row_rel and walk are own work.) -/
import Derived.Test.YtkkccchkmcjcpaaGreatRows
import Derived.WalkKit
import Derived.ProofKit
import Derived.OpenShut
import Derived.ShutString
import Derived.ChangeOld
import Derived.Below
import Derived.SizedLaws
import Derived.Test.YtkkccchkmcjcpaaGreatU15
set_option linter.unusedVariables false
set_option linter.unusedSimpArgs false
set_option linter.unnecessarySimpa false
namespace Go.Proofs.YtkkccchkmcjcpaaGreat.factorProducts
open Go.ChangeShapes Go.WideShapes Go.ChangeAt Go.RowKit
open Go.ChangeMaps (open_string shut_string)
set_option linter.unusedVariables false

theorem own : ownKnob Tryz.prog.godebug = none := by kernel_rfl
theorem laidOut : laidOutB Tryz.prog = true := by kernel_rfl

/-- WHAT THE WALK IS TOLD OF A SLICE OF INTEGERS THAT CAME IN: it is nil; or it leads to a row of 'cap' cells, the numbers 'zs' (the first 'len' are its elements, the rest its spare room), each fitting its kind. -/
def Kb (k : IntKind) (w : World) (a : Option Addr) (len cap : Nat) (zs : List Int) : Prop :=
  (a = none ∧ len = 0 ∧ cap = 0 ∧ zs = []) ∨
  ∃ x, a = some x ∧ len ≤ cap ∧ cap ≤ reachBytes ∧ zs.length = cap ∧ (∀ i, i < zs.length → w.cell? (x.add i) = some (.int k (zs.getD i 0))) ∧ ∀ n ∈ zs, (Lit.int k n).wf = true

/-! ### STEP 1: THE WALK: the Go text returns true, AND WRITES NOTHING THAT WAS THERE: 'Below w.heap.size w w'' (Derived/Below.lean: '.refl', '.alloc', '.drew', '.setCell' at a new block, '.trans'). Open each 'IsRow' by 'rcases' AHEAD of 'go_enter'; part every test ahead of the walk. -/
theorem agV {w : World} {a : Option Addr} {len cap : Nat} {zs : List Int} (h : Kb .i8 w a len cap zs) :
    El.dt ⟨fun b o => w.cell? ⟨b, o, Option.none⟩, El.jd⟩ (.S El.I8 (zs.take len)) (.slice a len cap) ∧ ∀ x ∈ zs.take len, -128 ≤ x ∧ x ≤ 127 := by
  rcases h with ⟨rfl, rfl, rfl, rfl⟩ | ⟨x, rfl, hl, hm, hz, hc, hw⟩
  · exact ⟨⟨Option.none, 0, rfl, Nat.le_refl _, by simp, .inl rfl⟩, by simp⟩
  · have hlen : (zs.take len).length = len := by simp; omega
    refine ⟨⟨some x, cap, by rw [hlen], by omega, ?_, ?_⟩, fun y hy => bounds_i8 (hw y (List.mem_of_mem_take hy))⟩
    · rw [hlen]
      have : len ≤ reachBytes := by omega
      simp only [reachBytes] at this
      show len * 1 ≤ _
      omega
    · by_cases h0 : len = 0
      · left; rw [h0]; simp
      · right
        obtain ⟨b, off, rfl, vk⟩ := ints_at hc (by omega)
        refine ⟨b, off, rfl, fun i hi => ⟨[.int .i8 (zs.take len)[i]], rfl, rfl, fun j hj => ?_⟩⟩
        have CC : j = 0 := by simp at hj; omega
        subst CC
        have vp : i < zs.length := by omega
        have e := hc i vp
        simp only [List.getElem_take]
        rw [List.getD_eq_getElem?_getD, List.getElem?_eq_getElem vp] at e
        show w.cell? ⟨b, off + i * 1 + 0, Option.none⟩ = _
        rw [Nat.mul_one, Nat.add_zero]
        have ea : Addr.add ⟨b, off, Option.none⟩ i = ⟨b, off + i, Option.none⟩ := by
          by_cases BA : i = 0
          · subst BA; rfl
          · simp [Addr.add, BA]
        rw [ea] at e
        exact e
theorem walk (a0 : Option Addr) (Dm Dp : Nat) (z0 : List Int) (a1 : Option Addr) (Dq Dr : Nat) (z1 : List Int) (w : World) (w0 : Kb .i8 w a0 Dm Dp z0) (w1 : Kb .i8 w a1 Dq Dr z1) :
    Calls Tryz.prog 6 #[.slice a0 Dm Dp, .slice a1 Dq Dr] w fun e w' => e = .returned (.bool true) ∧ Below w.heap.size w w' := by
  obtain ⟨r0, b0⟩ := agV w0
  obtain ⟨r1, b1⟩ := agV w1
  refine ((El.asR (z0.take Dm) (z1.take Dq) b0 b1).spec (fun b o => w.cell? ⟨b, o, Option.none⟩) w [.slice a0 Dm Dp, .slice a1 Dq Dr] (fun _ _ _ h => h) ⟨_, _, rfl, r0, _, _, rfl, r1, rfl⟩).mono ?_
  rintro e w' ⟨v, H', rfl, hv, _, _, _, hb⟩
  have hv : v = .bool true := hv
  exact ⟨by rw [hv], hb⟩

/-! ### THE ROW's STEP: WRITTEN OUT: LEAVE IT -/
set_option maxRecDepth 100000 in
theorem lifted (os : Os) (started : os.Started) (H : Type) (enc : TypeId × Value → H) :
    ReturnsInHanded {} Tryz.checked os 6 .any (Rows.factorProductsSpec.pre6 enc Tryz.prog Tryz.f6 Rows.factorProductsRow.domain false) (Rows.factorProductsSpec.post enc Tryz.prog Tryz.f6 false true false false) := by
  refine returnsInHanded_of_change_sized (C := Tryz.checked) own started (by kernel_rfl) Tryz.func6
    (ChangeSpec.witness6 (enc := enc) (C := Tryz.checked) false ⟨#[], #[.slice none 0 0, .slice none 0 0], []⟩ 8 (by kernel_rfl) (by kernel_rfl) (by kernel_rfl) (by kernel_rfl)) ?_
  intro W base args ds gs before agW hW auf agX _
  have vn : ∀ (j : Nat) t v, Tryz.f6.params[j]? = some t → args[j]? = some v → Value.okWide Tryz.prog W .any base t v := agW
  have hW' := hW
  obtain ⟨p, q, Ir, hV, rfl, hfz, fK⟩ := hW
  have hA : DataW.TrodAll enc Tryz.prog W 0 (fun _ => true) true Tryz.f6.params.toList args.toList ds p := Ir
  have cR : (DataW.weightsEach Tryz.prog (Tryz.f6.params.toList ++ Rows.factorProductsSpec.plain.varTypes Tryz.prog) (ds ++ gs)).all (· ≤ reachBytes) = true := agX
  rw [Tryz.params6] at hA vn cR
  obtain ⟨v0, vs0, d0, ds0, p0, q0, kE, rfl, rfl, h0, r0⟩ := trodAll_cons hA
  obtain ⟨v1, vs1, d1, ds1, p1, q1, rfl, rfl, rfl, h1, r1⟩ := trodAll_cons r0
  obtain ⟨rfl, rfl, rfl⟩ := trodAll_nil r1
  obtain rfl : args = #[v0, v1] := by cases args; simp_all
  obtain ⟨rfl, rfl⟩ := trodVars_none hV
  obtain ⟨a0, Dm, Dp, rfl⟩ := okWide_slice Tryz.underlying38 (vn 0 38 v0 rfl rfl)
  have k0 := h0
  have lt0 : ∀ x ∈ p0, x.block < W.heap.size := by obtain ⟨m, hm⟩ := k0; exact DataW.trod_lt m _ _ _ hm
  obtain ⟨z0, w0⟩ : ∃ zs, Kb .i8 W a0 Dm Dp zs := by
    obtain ⟨fuel, hf⟩ := h0
    rcases open_ints Tryz.underlying38 Tryz.underlying86 (by kernel_rfl) hf with ⟨dQ, _⟩ | ⟨x, l, c, zs, dQ, _, hl, hm, hz, hx, wY, Wf⟩
    · simp [Value.cells] at dQ
      obtain ⟨rfl, rfl, rfl⟩ := dQ
      exact ⟨[], .inl ⟨rfl, rfl, rfl, rfl⟩⟩
    · simp [Value.cells] at dQ
      obtain ⟨rfl, rfl, rfl⟩ := dQ
      simp only [Prod.mk.injEq] at hx
      obtain ⟨rfl, _⟩ := hx
      have hs := sized_slice cR (j := 0) (t := 38) (e := 86) rfl rfl Tryz.underlying38
      rw [show Tryz.prog.bytesOf 86 = 1 by kernel_rfl] at hs
      have wQ : zs.length = Dp := by simpa using hz
      simp only [lits, List.length_map, List.length_take, List.length_drop] at hs
      exact ⟨zs, .inr ⟨_, rfl, hl, by omega, wQ, wY, Wf⟩⟩
  obtain ⟨a1, Dq, Dr, rfl⟩ := okWide_slice Tryz.underlying38 (vn 1 38 v1 rfl rfl)
  have k1 := h1
  have lt1 : ∀ x ∈ p1, x.block < W.heap.size := by obtain ⟨m, hm⟩ := k1; exact DataW.trod_lt m _ _ _ hm
  obtain ⟨z1, w1⟩ : ∃ zs, Kb .i8 W a1 Dq Dr zs := by
    obtain ⟨fuel, hf⟩ := h1
    rcases open_ints Tryz.underlying38 Tryz.underlying86 (by kernel_rfl) hf with ⟨dQ, _⟩ | ⟨x, l, c, zs, dQ, _, hl, hm, hz, hx, wY, Wf⟩
    · simp [Value.cells] at dQ
      obtain ⟨rfl, rfl, rfl⟩ := dQ
      exact ⟨[], .inl ⟨rfl, rfl, rfl, rfl⟩⟩
    · simp [Value.cells] at dQ
      obtain ⟨rfl, rfl, rfl⟩ := dQ
      simp only [Prod.mk.injEq] at hx
      obtain ⟨rfl, _⟩ := hx
      have hs := sized_slice cR (j := 1) (t := 38) (e := 86) rfl rfl Tryz.underlying38
      rw [show Tryz.prog.bytesOf 86 = 1 by kernel_rfl] at hs
      have wQ : zs.length = Dr := by simpa using hz
      simp only [lits, List.length_map, List.length_take, List.length_drop] at hs
      exact ⟨zs, .inr ⟨_, rfl, hl, by omega, wQ, wY, Wf⟩⟩
  clear Ir agW agX
  refine (walk a0 Dm Dp z0 a1 Dq Dr z1 W w0 w1).mono fun e W' ⟨he, Wg⟩ => ?_
  subst he
  exact ⟨_, rfl, _, _, _, [], _, [], hW', trodAll_mk1 (shut_bool Tryz.underlying4 _), (trodAll_cons_mk (Below.trod laidOut (by kernel_rfl) (of_decide_eq_true (by kernel_rfl)) k0 Wg lt0) (trodAll_cons_mk (Below.trod laidOut (by kernel_rfl) (of_decide_eq_true (by kernel_rfl)) k1 Wg lt1) trodAll_mk0)), rfl, Wg.frame _, fun h => by cases h⟩

theorem dG : Rows.factorProductsRow.holds Tryz.pinned (OpenSpec.ofChange Rows.factorProductsSpec) :=
  OpenClaim.holds_of_wide 6 Tryz.f6 rfl rfl rfl rfl rfl rfl rfl ⟨rfl, rfl, rfl, rfl, rfl⟩ rfl rfl rfl rfl rfl (by kernel_rfl) Tryz.func6 (by kernel_rfl)
    (of_decide_eq_true (by kernel_rfl)) (by unfold Func.isWrapper; first | (rw [if_pos (by decide +kernel)]; kernel_rfl) | (rw [if_neg (by decide +kernel)]; exact ⟨rfl, rfl⟩))
    (fun os started H enc _ => lifted os started H enc)

/-- ████ THE STATEMENT ████ -/
theorem proved : Rows.FactorProductsSaid := dG
#print axioms proved
end Go.Proofs.YtkkccchkmcjcpaaGreat.factorProducts
