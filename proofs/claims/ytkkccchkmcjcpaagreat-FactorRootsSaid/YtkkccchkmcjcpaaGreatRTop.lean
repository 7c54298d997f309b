/- FactorRoots: for every input the law returns true, and its arguments read as before. No condition. (The frame was written by the kit's proof-skeleton.mjs; row_rel and walk are own work.) -/
import Derived.Test.YtkkccchkmcjcpaaGreatRows
import Derived.WalkKit
import Derived.ProofKit
import Derived.OpenShut
import Derived.ShutString
import Derived.ChangeOld
import Derived.Below
import Derived.SizedLaws
import Derived.Test.YtkkccchkmcjcpaaGreatR14
import Derived.Test.YtkkccchkmcjcpaaGreatR15
set_option linter.unusedVariables false
set_option linter.unusedSimpArgs false
set_option linter.unnecessarySimpa false
namespace Go.Proofs.YtkkccchkmcjcpaaGreat.factorRoots
open Go.ChangeShapes Go.WideShapes Go.ChangeAt Go.RowKit
open Go.ChangeMaps (open_string shut_string)
set_option linter.unusedVariables false

theorem own : ownKnob Tryz.prog.godebug = none := by kernel_rfl
theorem laidOut : laidOutB Tryz.prog = true := by kernel_rfl

/-- WHAT THE WALK IS TOLD OF A SLICE OF INTEGERS THAT CAME IN: it is nil; or it leads to a row of 'cap' cells, the numbers 'zs' (the first 'len' are its elements, the rest its spare room), each fitting its kind. -/
def VA (k : IntKind) (w : World) (a : Option Addr) (len cap : Nat) (zs : List Int) : Prop :=
  (a = none ∧ len = 0 ∧ cap = 0 ∧ zs = []) ∨
  ∃ x, a = some x ∧ len ≤ cap ∧ cap ≤ reachBytes ∧ zs.length = cap ∧ (∀ i, i < zs.length → w.cell? (x.add i) = some (.int k (zs.getD i 0))) ∧ ∀ n ∈ zs, (Lit.int k n).wf = true

/-! ### STEP 1: THE WALK: the Go text returns true, AND WRITES NOTHING THAT WAS THERE: 'Below w.heap.size w w'' (Derived/Below.lean: '.refl', '.alloc', '.drew', '.setCell' at a new block, '.trans'). Open each 'IsRow' by 'rcases' AHEAD of 'go_enter'; part every test ahead of the walk. -/
theorem ar3 {w : World} {a : Option Addr} {len cap : Nat} {zs : List Int} (h : VA .i8 w a len cap zs) :
    El.dk ⟨fun b o => w.cell? ⟨b, o, Option.none⟩, El.jb⟩ (.S El.I8 (zs.take len)) (.slice a len cap) ∧ ∀ x ∈ zs.take len, -128 ≤ x ∧ x ≤ 127 := by
  rcases h with ⟨rfl, rfl, rfl, rfl⟩ | ⟨x, rfl, hl, hm, hz, hc, hw⟩
  · exact ⟨⟨Option.none, 0, rfl, Nat.le_refl _, by simp, .inl rfl⟩, by simp⟩
  · have hlen : (zs.take len).length = len := by simp; omega
    refine ⟨⟨some x, cap, by rw [hlen], by omega, ?_, ?_⟩, fun y hy => bounds_i8 (hw y (List.mem_of_mem_take hy))⟩
    · rw [hlen]
      have : len ≤ reachBytes := by omega
      simp only [reachBytes] at this
      show len * 1 ≤ _
      omega
    · by_cases h0 : len = 0
      · left; rw [h0]; simp
      · right
        obtain ⟨b, off, rfl, uX⟩ := ints_at hc (by omega)
        refine ⟨b, off, rfl, fun i hi => ⟨[.int .i8 (zs.take len)[i]], rfl, rfl, fun j hj => ?_⟩⟩
        have Cb : j = 0 := by simp at hj; omega
        subst Cb
        have uZ : i < zs.length := by omega
        have e := hc i uZ
        simp only [List.getElem_take]
        rw [List.getD_eq_getElem?_getD, List.getElem?_eq_getElem uZ] at e
        show w.cell? ⟨b, off + i * 1 + 0, Option.none⟩ = _
        rw [Nat.mul_one, Nat.add_zero]
        have ea : Addr.add ⟨b, off, Option.none⟩ i = ⟨b, off + i, Option.none⟩ := by
          by_cases DA : i = 0
          · subst DA; rfl
          · simp [Addr.add, DA]
        rw [ea] at e
        exact e
theorem walk (a0 : Option Addr) (CZ C0 : Nat) (z0 : List Int) (a1 : Int) (a2 : Int) (w : World) (w0 : VA .i8 w a0 CZ C0 z0) (w1 : (Lit.int .i8 a1).wf = true) (w2 : (Lit.int .i8 a2).wf = true) :
    Calls Tryz.prog 7 #[.slice a0 CZ C0, .int .i8 a1, .int .i8 a2] w fun e w' => e = .returned (.bool true) ∧ Below w.heap.size w w' := by
  obtain ⟨r0, b0⟩ := ar3 w0
  have u1 : -128 ≤ a1 ∧ a1 ≤ 127 := bounds_i8 w1
  have u2 : -128 ≤ a2 ∧ a2 ≤ 127 := bounds_i8 w2
  refine ((El.ary El.arY (z0.take CZ) b0 a1 a2 u1 u2).spec (fun b o => w.cell? ⟨b, o, Option.none⟩) w [.slice a0 CZ C0, .int .i8 a1, .int .i8 a2] (fun _ _ _ h => h) ⟨_, _, rfl, r0, _, _, rfl, rfl, _, _, rfl, rfl, rfl⟩).mono ?_
  rintro e w' ⟨v, H', rfl, hv, _, _, _, hb⟩
  have hv : v = .bool true := hv
  exact ⟨by rw [hv], hb⟩

/-! ### THE ROW's STEP: WRITTEN OUT: LEAVE IT -/
set_option maxRecDepth 100000 in
theorem lifted (os : Os) (started : os.Started) (H : Type) (enc : TypeId × Value → H) :
    ReturnsInHanded {} Tryz.checked os 7 .any (Rows.factorRootsSpec.pre6 enc Tryz.prog Tryz.f7 Rows.factorRootsRow.domain false) (Rows.factorRootsSpec.post enc Tryz.prog Tryz.f7 false true false false) := by
  refine returnsInHanded_of_change_sized (C := Tryz.checked) own started (by kernel_rfl) Tryz.func7
    (ChangeSpec.witness6 (enc := enc) (C := Tryz.checked) false ⟨#[], #[.slice none 0 0, .int .i8 0, .int .i8 0], []⟩ 8 (by kernel_rfl) (by kernel_rfl) (by kernel_rfl) (by kernel_rfl)) ?_
  intro W base args ds gs before af3 hW atl af4 _
  have tP : ∀ (j : Nat) t v, Tryz.f7.params[j]? = some t → args[j]? = some v → Value.okWide Tryz.prog W .any base t v := af3
  have hW' := hW
  obtain ⟨p, q, HP, hV, rfl, ZD, fF⟩ := hW
  have hA : DataW.TrodAll enc Tryz.prog W 0 (fun _ => true) true Tryz.f7.params.toList args.toList ds p := HP
  have cR : (DataW.weightsEach Tryz.prog (Tryz.f7.params.toList ++ Rows.factorRootsSpec.plain.varTypes Tryz.prog) (ds ++ gs)).all (· ≤ reachBytes) = true := af4
  rw [Tryz.params7] at hA tP cR
  obtain ⟨v0, vs0, d0, ds0, p0, q0, kv, rfl, rfl, h0, r0⟩ := trodAll_cons hA
  obtain ⟨v1, vs1, d1, ds1, p1, q1, rfl, rfl, rfl, h1, r1⟩ := trodAll_cons r0
  obtain ⟨v2, vs2, d2, ds2, p2, q2, rfl, rfl, rfl, h2, r2⟩ := trodAll_cons r1
  obtain ⟨rfl, rfl, rfl⟩ := trodAll_nil r2
  obtain rfl : args = #[v0, v1, v2] := by cases args; simp_all
  obtain ⟨rfl, rfl⟩ := trodVars_none hV
  obtain ⟨a0, CZ, C0, rfl⟩ := okWide_slice Tryz.underlying38 (tP 0 38 v0 rfl rfl)
  have k0 := h0
  have lt0 : ∀ x ∈ p0, x.block < W.heap.size := by obtain ⟨m, hm⟩ := k0; exact DataW.trod_lt m _ _ _ hm
  obtain ⟨z0, w0⟩ : ∃ zs, VA .i8 W a0 CZ C0 zs := by
    obtain ⟨fuel, hf⟩ := h0
    rcases open_ints Tryz.underlying38 Tryz.underlying86 (by kernel_rfl) hf with ⟨eL, _⟩ | ⟨x, l, c, zs, eL, _, hl, hm, hz, hx, zM, hwz⟩
    · simp [Value.cells] at eL
      obtain ⟨rfl, rfl, rfl⟩ := eL
      exact ⟨[], .inl ⟨rfl, rfl, rfl, rfl⟩⟩
    · simp [Value.cells] at eL
      obtain ⟨rfl, rfl, rfl⟩ := eL
      simp only [Prod.mk.injEq] at hx
      obtain ⟨rfl, _⟩ := hx
      have hs := sized_slice cR (j := 0) (t := 38) (e := 86) rfl rfl Tryz.underlying38
      rw [show Tryz.prog.bytesOf 86 = 1 by kernel_rfl] at hs
      have zC : zs.length = C0 := by simpa using hz
      simp only [lits, List.length_map, List.length_take, List.length_drop] at hs
      exact ⟨zs, .inr ⟨_, rfl, hl, by omega, zC, zM, hwz⟩⟩
  obtain ⟨a1, rfl, rfl, rfl, w1⟩ := open_int Tryz.underlying86 (tP 1 86 v1 rfl rfl) h1
  obtain ⟨a2, rfl, rfl, rfl, w2⟩ := open_int Tryz.underlying86 (tP 2 86 v2 rfl rfl) h2
  clear HP af3 af4
  refine (walk a0 CZ C0 z0 a1 a2 W w0 w1 w2).mono fun e W' ⟨he, bel⟩ => ?_
  subst he
  exact ⟨_, rfl, _, _, _, [], _, [], hW', trodAll_mk1 (shut_bool Tryz.underlying4 _), (trodAll_cons_mk (Below.trod laidOut (by kernel_rfl) (of_decide_eq_true (by kernel_rfl)) k0 bel lt0) (trodAll_cons_mk (shut_int Tryz.underlying86 w1) (trodAll_cons_mk (shut_int Tryz.underlying86 w2) trodAll_mk0))), rfl, bel.frame _, fun h => by cases h⟩

theorem dy : Rows.factorRootsRow.holds Tryz.pinned (OpenSpec.ofChange Rows.factorRootsSpec) :=
  OpenClaim.holds_of_wide 7 Tryz.f7 rfl rfl rfl rfl rfl rfl rfl ⟨rfl, rfl, rfl, rfl, rfl⟩ rfl rfl rfl rfl rfl (by kernel_rfl) Tryz.func7 (by kernel_rfl)
    (of_decide_eq_true (by kernel_rfl)) (by unfold Func.isWrapper; first | (rw [if_pos (by decide +kernel)]; kernel_rfl) | (rw [if_neg (by decide +kernel)]; exact ⟨rfl, rfl⟩))
    (fun os started H enc _ => lifted os started H enc)

/-- ████ THE STATEMENT ████ -/
theorem proved : Rows.FactorRootsSaid := dy
#print axioms proved
end Go.Proofs.YtkkccchkmcjcpaaGreat.factorRoots
