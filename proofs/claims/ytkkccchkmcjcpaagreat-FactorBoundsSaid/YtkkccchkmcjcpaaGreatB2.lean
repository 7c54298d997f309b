/- The engine, part 8: evaluation of operations without local memory is sound, whole. Own work; no condition. -/
import Derived.Test.YtkkccchkmcjcpaaGreatB1
namespace Go.El
open Go Go.RowKit

section
variable {P : Program} {tt : TT} {g : Gh} {W : World}

/-- Two optional values. -/
def RelO (g : Gh) : Option AV → Option Value → Prop
  | none, none => True
  | some a, some u => RelV g a u
  | _, _ => False

theorem binT_mids {op : BinOp} {t : Nat} {x y c : C} {p : Pr} (h : binT tt op t x y = some (c, p)) : c.mids = [] := by
  cases x <;> cases y <;> simp only [binT, binA, reduceCtorEq] at h
  case B.B a b =>
    split at h
    · cases op <;> simp only [Option.some.injEq, Prod.mk.injEq, reduceCtorEq] at h
      all_goals (obtain ⟨rfl, _⟩ := h; rfl)
    · simp at h
  case I.I k a k' b =>
    have hb : ∀ op, binI op k a b = some (c, p) → c.mids = [] := by
      intro op h
      cases op <;> simp only [binI, Option.some.injEq, reduceCtorEq] at h
      case add => have := congrArg Prod.fst h; simp only at this; rw [← this]; exact num_mids _ _
      case sub => have := congrArg Prod.fst h; simp only at this; rw [← this]; exact num_mids _ _
      case mul => have := congrArg Prod.fst h; simp only at this; rw [← this]; exact num_mids _ _
      all_goals
        simp only [Prod.mk.injEq] at h
        obtain ⟨rfl, _⟩ := h
        first | rfl | exact num_mids _ _
    cases op
    case shl => simp only [shI, Option.some.injEq, Prod.mk.injEq] at h; obtain ⟨rfl, _⟩ := h; rfl
    case shr => simp only [shI, Option.some.injEq, Prod.mk.injEq] at h; obtain ⟨rfl, _⟩ := h; rfl
    all_goals
      simp only at h
      split at h
      · exact hb _ h
      · simp at h

theorem bndA_sound {n : Nat} {x : Option AV} {d h : Nat} {p : Pr} (hb : bndA n x d = some (h, p)) (hp : p) {v : Option Value} (hv : RelO g x v)
    (m : Nat) (hm : n ≤ m) (code : BoundsCode) :
    (x = none ∧ v = none ∧ h = d) ∨ (∃ u, v = some u ∧ h ≤ n ∧ (Instr.sliceBound u m code).run P W = .ok h W) := by
  unfold bndA at hb
  split at hb
  · simp only [Option.some.injEq, Prod.mk.injEq] at hb
    cases v with
    | none => exact .inl ⟨rfl, rfl, hb.1.symm⟩
    | some u => exact hv.elim
  · rename_i k' k
    simp only [Option.some.injEq, Prod.mk.injEq] at hb
    obtain ⟨rfl, rfl⟩ := hb
    cases v with
    | none => exact hv.elim
    | some u =>
      have hv' : u = .int k' k := hv
      subst hv'
      have hp' : 0 ≤ k ∧ k ≤ (n : Int) := hp
      refine .inr ⟨_, rfl, by omega, ?_⟩
      have : 0 ≤ k ∧ k ≤ (m : Int) := ⟨hp'.1, by omega⟩
      simp [Instr.sliceBound, asIntOf, this, Sem.run, pure]
  · simp at hb

theorem RelSl.sub {α : Type} {R : α → List Value → Prop} {n : Nat} {H : FH} {xs : List α} {a : Option Addr} {cap : Nat} (h : RelSl R n H xs (.slice a xs.length cap)) {l hh : Nat} (h1 : l ≤ hh) (h2 : hh ≤ xs.length) :
    RelSl R n H ((xs.take hh).drop l) (.slice (if cap = l then a else a.map (·.add (l * n))) (hh - l) (cap - l)) := by
  obtain ⟨a', cap', e, h3, h4, h5⟩ := h
  simp only [Value.slice.injEq, true_and] at e
  obtain ⟨rfl, rfl⟩ := e
  have hlen : ((xs.take hh).drop l).length = hh - l := by simp; omega
  refine ⟨_, cap - l, by rw [hlen], by omega, ?_, ?_⟩
  · rw [hlen]
    exact Nat.le_trans (Nat.mul_le_mul_right n (by omega)) h4
  · by_cases hz : hh = l
    · left
      apply List.eq_nil_of_length_eq_zero
      omega
    · right
      rcases h5 with h5 | ⟨b, off, rfl, h5⟩
      · subst h5; simp at h2; omega
      · refine ⟨b, off + l * n, ?_, fun i hi => ?_⟩
        · rw [if_neg (by omega)]
          simp [add_none]
        · obtain ⟨cs, hl, hr, hc⟩ := h5 (l + i) (by omega)
          refine ⟨cs, hl, ?_, fun j hj => ?_⟩
          · simpa using hr
          · have := hc j hj
            rw [show off + l * n + i * n + j = off + (l + i) * n + j by rw [Nat.add_mul]; omega]
            exact this

theorem sliceA_sound (htt : ttB P tt = true) {t : Nat} {x y : AV} {lo hi : Option AV} {p : Pr} (h : sliceA tt t x lo hi = some (y, p)) (hp : p) {v : Value} {vl vh : Option Value} (hv : RelV g x v)
    (hl : RelO g lo vl) (hh : RelO g hi vh) :
    (∃ z, (Instr.sliceAt t v vl vh none).run P W = .ok z W ∧ RelV g y z) ∧ y.mids = [] := by
  unfold sliceA at h
  split at h
  · rename_i T xs
    split at h
    · rename_i hst
      obtain ⟨e, i, hue, hie, hs⟩ := slTy_ok htt hst
      split at h
      · rename_i hhi p1 hb1
        split at h
        · rename_i l p2 hb2
          simp only [Option.some.injEq, Prod.mk.injEq] at h
          obtain ⟨rfl, rfl⟩ := h
          obtain ⟨hp1, hp2⟩ := hp
          have hv' := hv
          obtain ⟨a, cap, rfl, h1, h2, h3⟩ := hv'
          have hb1' := bndA_sound (P := P) (W := W) hb1 hp1 hh cap h1 (.sliceAcap)
          have hle : hhi ≤ xs.length := by
            rcases hb1' with ⟨_, _, e⟩ | ⟨_, _, h, _⟩ <;> omega
          have hb2' := bndA_sound (P := P) (W := W) hb2 hp2 hl hhi (Nat.le_refl _) (.sliceB)
          have hle2 : l ≤ hhi := by
            rcases hb2' with ⟨_, _, e⟩ | ⟨_, _, h, _⟩ <;> omega
          have hrel := RelSl.sub hv hle2 hle
          refine ⟨⟨_, ?_, hrel⟩, rfl⟩
          have hsb : (Instr.sliceBounds true xs.length cap vl vh none).run P W = .ok (l, hhi, cap) W := by
            rcases hb1' with ⟨_, rfl, rfl⟩ | ⟨u, rfl, _, hr1⟩ <;> rcases hb2' with ⟨_, rfl, rfl⟩ | ⟨u', rfl, _, hr2⟩ <;> simp [Instr.sliceBounds, *]
          simp only [Instr.sliceAt, Sem.run_bind, run_underlying hue, Result.andThen, Instr.slice, hsb, run_sizeOf hie, hs]
          rfl
        · simp at h
      · simp at h
    · simp at h
  · simp at h

theorem optev_rel {F : Fix} {known : Nat → Prop} {σ : Kn} {a : Act} (h : Hold F known σ g W a) (st : St) (x : Option Operand) (v : Option AV) (he : optev st x = some v)
    (hr : ∀ o, x = some o → ∀ kx ∈ opd st o, σ kx.1 = some kx.2) : RelO g v (x.map a.eval) := by
  cases x with
  | none => simp only [optev, Option.some.injEq] at he; subst he; trivial
  | some o =>
    simp only [optev, Option.map_eq_some_iff] at he
    obtain ⟨u, hu, rfl⟩ := he
    exact ev_rel h st o u hu (hr o rfl)

theorem evalV_sound (htt : ttB P tt = true) {ops : Array Oper} {i : Nat} {o : Oper} {d : Nat} (ho : ops[i]? = some o) (hg : o.guard = none) (hd : o.dst = some d) {n : Nat} (hdn : d < n)
    {st : St} {x : AV} {p : Pr} (he : evalV tt st o.op = some (x, p)) (hp : p) (new : Nat) : StepS P n ops i (rdV st o.op) [(.s d, some (.v x))] new := by
  refine stepS_val ho hg hd hdn _ x new ?_
  intro F known σ g W a hsem hrd
  have hev : ∀ y ∈ o.op.operands, ∀ u, st.ev y = some u → RelV g u (a.eval y) ∧ ∀ id ∈ u.mids, known id := by
    intro y hy u hu
    have hr : ∀ kx ∈ opd st y, σ kx.1 = some kx.2 := fun kx hkx => hrd kx (List.mem_flatMap.2 ⟨y, by simpa using hy, hkx⟩)
    exact ⟨ev_rel hsem st y u hu hr, ev_mids hsem st y u hu hr⟩
  have hrs : ∀ y ∈ o.op.operands, ∀ kx ∈ opd st y, σ kx.1 = some kx.2 := fun y hy kx hkx => hrd kx (List.mem_flatMap.2 ⟨y, by simpa using hy, hkx⟩)
  obtain ⟨od, op, oty, opos, oaft, ogd⟩ := o
  simp only at he hev hrs
  unfold evalV at he
  split at he
  · -- move
    rename_i y
    split at he
    · rename_i v hv
      simp only [Option.some.injEq, Prod.mk.injEq] at he
      obtain ⟨rfl, rfl⟩ := he
      have := hev y (by simp [Op.operands]) _ hv
      exact ⟨this.2, _, by simp [execOp, pure], this.1⟩
    · simp at he
  · -- assign
    rename_i y
    split at he
    · rename_i v hv
      simp only [Option.some.injEq, Prod.mk.injEq] at he
      obtain ⟨rfl, rfl⟩ := he
      have := hev y (by simp [Op.operands]) _ hv
      exact ⟨this.2, _, by simp [execOp, pure], this.1⟩
    · simp at he
  · -- pick
    rename_i c y z
    unfold pickA at he
    split at he
    · rename_i b hb
      have hcb := (hev c (by simp [Op.operands]) _ hb).1
      simp only [RelV, RelC] at hcb
      split at he
      · rename_i p1 q1 hy hz
        simp only [Option.some.injEq, Prod.mk.injEq] at he
        obtain ⟨rfl, rfl⟩ := he
        have h1 := (hev y (by simp [Op.operands]) _ hy).1
        have h2 := (hev z (by simp [Op.operands]) _ hz).1
        simp only [RelV, RelC] at h1 h2
        refine ⟨by simp [AV.mids, C.mids], .bool (cond b p1 q1), ?_, rfl⟩
        cases b <;> simp [execOp, hcb, asBool, h1, h2, Sem.run, pure]
      · rename_i v hy hz
        simp only [Option.some.injEq, Prod.mk.injEq] at he
        obtain ⟨rfl, rfl⟩ := he
        have h1 := hev y (by simp [Op.operands]) _ hy
        simp only [Pr.h] at hp
        subst hp
        exact ⟨h1.2, _, by simp [execOp, hcb, asBool, Sem.run, pure], h1.1⟩
      · rename_i v hy hz
        simp only [Option.some.injEq, Prod.mk.injEq] at he
        obtain ⟨rfl, rfl⟩ := he
        have h1 := hev z (by simp [Op.operands]) _ hz
        simp only [Pr.h] at hp
        subst hp
        exact ⟨h1.2, _, by simp [execOp, hcb, asBool, Sem.run, pure], h1.1⟩
      · simp at he
    · simp at he
  · -- binOp
    rename_i op t y z _
    split at he
    · rename_i u w hu hw
      split at he
      · rename_i c q hc
        simp only [Option.some.injEq, Prod.mk.injEq] at he
        obtain ⟨rfl, rfl⟩ := he
        have h1 := (hev y (by simp [Op.operands]) _ hu).1
        have h2 := (hev z (by simp [Op.operands]) _ hw).1
        obtain ⟨v, hrun, hrel⟩ := binA_sound (P := P) htt hc hp g h1 h2 W y z
        refine ⟨?_, v, ?_, hrel⟩
        · intro id hid
          simp only [AV.mids, binT_mids hc] at hid
          cases hid
        · simp only [execOp, Sem.run_bind]
          rw [Sem.run_bind] at hrun
          simp only [hrun]; simp [Result.andThen, pure]
      · simp at he
    · simp at he
  · -- unOp
    rename_i op t y
    split at he
    · rename_i v hv
      have h1 := hev y (by simp [Op.operands]) _ hv
      obtain ⟨⟨u, hrun, hrel⟩, hm⟩ := unA_sound (P := P) (W := W) he hp h1.1
      exact ⟨fun id hid => h1.2 id (hm id hid), u, by simp [execOp, hrun, Sem.run, pure], hrel⟩
    · simp at he
  · -- convert
    rename_i s d' y
    split at he
    · rename_i v hv
      have h1 := hev y (by simp [Op.operands]) _ hv
      obtain ⟨⟨u, hrun, hrel⟩, hm⟩ := convA_sound (P := P) (W := W) htt he hp h1.1
      exact ⟨fun id hid => (by rw [hm] at hid; cases hid), u, by simp [execOp, hrun, Sem.run, pure], hrel⟩
    · simp at he
  · -- field
    rename_i t y f
    split at he
    · rename_i v hv
      split at he
      · rename_i u hu
        simp only [Option.some.injEq, Prod.mk.injEq] at he
        obtain ⟨rfl, rfl⟩ := he
        have h1 := hev y (by simp [Op.operands]) _ hv
        obtain ⟨⟨u, hrun, hrel⟩, hm⟩ := fieldA_sound (P := P) (W := W) htt hu h1.1
        exact ⟨fun id hid => h1.2 id (hm id hid), u, by simp [execOp, hrun, Sem.run, pure], hrel⟩
      · simp at he
    · simp at he
  · -- fieldAddr
    rename_i t y f
    split at he
    · rename_i v hv
      split at he
      · rename_i u hu
        simp only [Option.some.injEq, Prod.mk.injEq] at he
        obtain ⟨rfl, rfl⟩ := he
        have h1 := hev y (by simp [Op.operands]) _ hv
        obtain ⟨⟨u, hrun, hrel⟩, hm⟩ := faddrA_sound (P := P) (W := W) htt hu h1.1
        exact ⟨fun id hid => h1.2 id (hm id hid), u, by simp [execOp, hrun, Sem.run, pure], hrel⟩
      · simp at he
    · simp at he
  · -- extract
    rename_i y k
    split at he
    · rename_i v hv
      split at he
      · rename_i u hu
        simp only [Option.some.injEq, Prod.mk.injEq] at he
        obtain ⟨rfl, rfl⟩ := he
        have h1 := hev y (by simp [Op.operands]) _ hv
        obtain ⟨⟨u, hrun, hrel⟩, hm⟩ := exA_sound (P := P) (W := W) hu h1.1
        exact ⟨fun id hid => h1.2 id (hm id hid), u, by simp [execOp, hrun, Sem.run, pure], hrel⟩
      · simp at he
    · simp at he
  · -- indexAddr
    rename_i t y z
    split at he
    · rename_i v w hv hw
      have h1 := hev y (by simp [Op.operands]) _ hv
      have h2 := hev z (by simp [Op.operands]) _ hw
      obtain ⟨⟨u, hrun, hrel⟩, hm⟩ := idxA_sound (P := P) (W := W) htt he hp h1.1 h2.1
      exact ⟨fun id hid => (by rw [hm] at hid; cases hid), u, by simp [execOp, hrun, Sem.run, pure], hrel⟩
    · simp at he
  · -- slice
    rename_i t y lo hi
    split at he
    · rename_i v l h hv hl hh
      have h1 := hev y (by simp [Op.operands]) _ hv
      have h2 := optev_rel hsem st lo l hl (fun q hq => hrs q (by subst hq; simp [Op.operands]))
      have h3 := optev_rel hsem st hi h hh (fun q hq => hrs q (by subst hq; simp [Op.operands]))
      obtain ⟨⟨u, hrun, hrel⟩, hm⟩ := sliceA_sound (P := P) (W := W) htt he hp h1.1 h2 h3
      exact ⟨fun id hid => (by rw [hm] at hid; cases hid), u, by simp [execOp, hrun, Sem.run, pure], hrel⟩
    · simp at he
  · -- len
    rename_i args tys
    split at he
    · rename_i y t ha ht
      have hargs : args = #[y] := by rw [← Array.toList_inj]; exact ha
      have htys : tys = #[t] := by rw [← Array.toList_inj]; exact ht
      subst hargs htys
      split at he
      · rename_i v hv
        split at he
        · rename_i u hu
          simp only [Option.some.injEq, Prod.mk.injEq] at he
          obtain ⟨rfl, rfl⟩ := he
          have h1 := hev y (by simp [Op.operands, Call.operands]) _ hv
          obtain ⟨⟨u, hrun, hrel⟩, hm⟩ := lenA_sound (P := P) (W := W) (r := oty) htt hu h1.1
          exact ⟨fun id hid => (by rw [hm] at hid; cases hid), u, by simp [execOp, resolve, invoke, builtin, hrun, Sem.run, pure], hrel⟩
        · simp at he
      · simp at he
    · simp at he
  · -- max
    rename_i args tys
    split at he
    · rename_i y z ha
      have hargs : args = #[y, z] := by rw [← Array.toList_inj]; exact ha
      subst hargs
      split at he
      · rename_i v w hv hw
        split at he
        · rename_i u hu
          simp only [Option.some.injEq, Prod.mk.injEq] at he
          obtain ⟨rfl, rfl⟩ := he
          have h1 := hev y (by simp [Op.operands, Call.operands]) _ hv
          have h2 := hev z (by simp [Op.operands, Call.operands]) _ hw
          obtain ⟨⟨u, hrun, hrel⟩, hm⟩ := mmA_sound (P := P) (W := W) hu rfl h1.1 h2.1 tys oty
          simp only [if_true] at hrun
          exact ⟨fun id hid => (by rw [hm] at hid; cases hid), u, by simp [execOp, resolve, invoke, builtin, hrun, Sem.run, pure], hrel⟩
        · simp at he
      · simp at he
    · simp at he
  · -- min
    rename_i args tys
    split at he
    · rename_i y z ha
      have hargs : args = #[y, z] := by rw [← Array.toList_inj]; exact ha
      subst hargs
      split at he
      · rename_i v w hv hw
        split at he
        · rename_i u hu
          simp only [Option.some.injEq, Prod.mk.injEq] at he
          obtain ⟨rfl, rfl⟩ := he
          have h1 := hev y (by simp [Op.operands, Call.operands]) _ hv
          have h2 := hev z (by simp [Op.operands, Call.operands]) _ hw
          obtain ⟨⟨u, hrun, hrel⟩, hm⟩ := mmA_sound (P := P) (W := W) hu rfl h1.1 h2.1 tys oty
          simp only [Bool.false_eq_true, if_false] at hrun
          exact ⟨fun id hid => (by rw [hm] at hid; cases hid), u, by simp [execOp, resolve, invoke, builtin, hrun, Sem.run, pure], hrel⟩
        · simp at he
      · simp at he
    · simp at he
  · simp at he

end
end Go.El

/- The engine, part 9: loads. Own work; no condition. -/
namespace Go.El
open Go Go.RowKit

section
variable {P : Program} {tt : TT} {g : Gh} {W : World}

theorem run_load {a : Addr} {v : Value} (h : W.cell? a = some v) : (load a).run P W = .ok v W := by
  simp [load, Sem.run, h]

theorem run_loadCellsFrom (b : Nat) : ∀ (n i off : Nat) (vs : List Value) (acc : Array Value), vs.length = n → (∀ j (hj : j < vs.length), W.cell? ⟨b, off + i + j, none⟩ = some vs[j]) →
    (loadCellsFrom ⟨b, off, none⟩ i n acc).run P W = .ok (acc ++ vs.toArray) W
  | 0, i, off, vs, acc, hl, _ => by
    have : vs = [] := List.eq_nil_of_length_eq_zero hl
    subst this
    simp [loadCellsFrom, pure]
  | n + 1, i, off, [], acc, hl, _ => by simp at hl
  | n + 1, i, off, v :: vs, acc, hl, hc => by
    have h0 := hc 0 (by simp)
    simp only [Nat.add_zero, List.getElem_cons_zero] at h0
    have ih := run_loadCellsFrom b n (i + 1) off vs (acc.push v) (by simpa using hl) (fun j hj => by
      have := hc (j + 1) (by simp; omega)
      simp only [List.getElem_cons_succ] at this
      rw [show off + (i + 1) + j = off + i + (j + 1) by omega]; exact this)
    simp only [loadCellsFrom, add_none, Sem.run_bind, run_load h0, Result.andThen, ih]
    congr 1
    apply Array.ext'
    simp

theorem run_loadVar {t : TypeId} {ag : Bool} (hag : aggB P t = some ag) {i : TypeInfo} (hi : P.info? t = some i) (b off : Nat) (vs : List Value) (hl : vs.length = i.size) (hone : ag = false → i.size = 1)
    (hc : ∀ j (hj : j < vs.length), W.cell? ⟨b, off + j, none⟩ = some vs[j]) : ∃ v, (loadVar t ⟨b, off, none⟩).run P W = .ok v W ∧ ((ag = true ∧ v = .agg vs.toArray) ∨ (ag = false ∧ vs = [v])) := by
  cases ag with
  | true =>
    refine ⟨.agg vs.toArray, ?_, .inl ⟨rfl, rfl⟩⟩
    simp only [loadVar, Sem.run_bind, run_isAgg hag, Result.andThen, if_true, run_sizeOf hi, loadCells]
    rw [run_loadCellsFrom b i.size 0 off vs #[] hl (by simpa using hc)]
    simp [pure]
  | false =>
    have h1 : vs.length = 1 := by rw [hl]; exact hone rfl
    match vs, h1 with
    | [v], _ =>
      refine ⟨v, ?_, .inr ⟨rfl, rfl⟩⟩
      have := hc 0 (by simp)
      simp only [Nat.add_zero, List.getElem_cons_zero] at this
      simp only [loadVar, Sem.run_bind, run_isAgg hag, Result.andThen, Bool.false_eq_true, if_false, run_load this]

/-- The cells of a type. -/
def tySz (tt : TT) (t : Nat) : Option (Nat × Bool) := match lookA t tt with
  | some ti => if ti.agg then some (ti.size, true) else if ti.size = 1 then some (1, false) else none
  | none => none

theorem tySz_ok (htt : ttB P tt = true) {t sz : Nat} {ag : Bool} (h : tySz tt t = some (sz, ag)) : aggB P t = some ag ∧ (∃ i, P.info? t = some i ∧ i.size = sz) ∧ (ag = false → sz = 1) := by
  unfold tySz at h
  split at h
  · rename_i ti hl
    have ho := ttB_ok htt hl
    obtain ⟨i, hi, hs, _⟩ := ho.info
    split at h
    · rename_i ha
      simp only [Option.some.injEq, Prod.mk.injEq] at h
      obtain ⟨rfl, rfl⟩ := h
      exact ⟨by rw [ho.agg, ha], ⟨i, hi, hs⟩, by simp⟩
    · rename_i ha
      split at h
      · rename_i h1
        simp only [Option.some.injEq, Prod.mk.injEq] at h
        obtain ⟨rfl, rfl⟩ := h
        exact ⟨by rw [ho.agg]; simpa using ha, ⟨i, hi, by rw [hs]; exact h1⟩, fun _ => rfl⟩
      · simp at h
  · simp at h

/-- A part of a list of cells that lies in memory, loaded. -/
theorem loadPart (htt : ttB P tt = true) {t sz : Nat} {ag : Bool} (h : tySz tt t = some (sz, ag)) {cs : List C} {vs : List Value} (hr : RelL g cs vs) {off : Nat} {x : AV} (hx : partA cs off sz ag = some x)
    (b o : Nat) (hc : ∀ j (hj : j < vs.length), W.cell? ⟨b, o + j, none⟩ = some vs[j]) : ∃ v, (Instr.loadAt t (.pointer (some ⟨b, o + off, none⟩))).run P W = .ok v W ∧ RelV g x v := by
  obtain ⟨hag, ⟨i, hi, hs⟩, hone⟩ := tySz_ok htt h
  have hlen := hr.length
  have hle : off + sz ≤ cs.length := by
    unfold partA at hx
    cases ag with
    | true => simp only [if_true] at hx; split at hx <;> simp_all
    | false =>
      simp only [Bool.false_eq_true, if_false, Option.map_eq_some_iff] at hx
      obtain ⟨c, hcc, _⟩ := hx
      have := (List.getElem?_eq_some_iff.1 hcc).1
      have := hone rfl
      omega
  obtain ⟨v, hrun, hv⟩ := run_loadVar (W := W) hag hi b (o + off) ((vs.drop off).take sz) (by simp; omega) (by rw [hs]; exact hone) (fun j hj => by
    simp at hj
    have := hc (off + j) (by omega)
    simp only [List.getElem_take, List.getElem_drop]
    rw [show o + off + j = o + (off + j) by omega]; exact this)
  refine ⟨v, by simpa [Instr.loadAt, Instr.sureAddr] using hrun, ?_⟩
  unfold partA at hx
  cases ag with
  | true =>
    simp only [if_true] at hx
    split at hx
    · simp only [Option.some.injEq] at hx
      subst hx
      rcases hv with ⟨_, rfl⟩ | ⟨h0, _⟩
      · exact ⟨_, rfl, (hr.drop off).take sz⟩
      · simp at h0
    · rename_i hn; exact absurd hle hn
  | false =>
    simp only [Bool.false_eq_true, if_false, Option.map_eq_some_iff] at hx
    obtain ⟨c, hcc, rfl⟩ := hx
    rcases hv with ⟨h0, _⟩ | ⟨_, hv⟩
    · simp at h0
    · obtain ⟨u, hu, hrel⟩ := hr.get hcc
      have h1 := hone rfl
      subst h1
      have : (vs.drop off).take 1 = [u] := by
        rw [List.take_one, List.head?_drop, hu]; rfl
      rw [this] at hv
      simp only [List.cons.injEq, and_true] at hv
      subst hv
      exact hrel

def ldA (tt : TT) (st : St) (t : Nat) (x : AV) : Option (AV × Pr × List Nat) := match tySz tt t with
  | some (sz, ag) => (match x with
    | .c (.P id off) => (match lookA id st.mem with
      | some (.box _ _ cs) => (match partA cs off sz ag with | some y => some (y, .t, [id]) | none => none)
      | some (.fz _ cs) => (match partA cs off sz ag with | some y => some (y, .t, [id]) | none => none)
      | _ => none)
    | .c (.E T e off) => (match partA (av T e) off sz ag with | some y => some (y, .t, []) | none => none)
    | .c (.Y id n i off) => (match lookA id st.mem with
      | some (.vec _ T xs) => if T.n = n then (match partA (av T (xs.getD i T.dflt)) off sz ag with | some y => some (y, .ltN i xs.length, [id]) | none => none) else none
      | _ => none)
    | _ => none)
  | none => none

def mrd (st : St) (ids : List Nat) : List (Key × Info) := ids.flatMap fun id => match lookA id st.mem with
  | some b => [(.m id, .b b)]
  | none => []

theorem cell_of_block {b : Nat} {vs : List Value} {E : TypeId} {f : Nat × Nat} (h : W.heap[b]? = some (.cells vs.toArray E f)) (j : Nat) (hj : j < vs.length) : W.cell? ⟨b, j, none⟩ = some vs[j] := by
  simp [World.cell?, h, hj]

theorem av_mids : ∀ (T : ET) (x : T.den), midsL (av T x) = []
  | .int _, _ => rfl
  | .bool, _ => rfl
  | .z, _ => rfl
  | .q, _ => rfl
  | .sl _, _ => rfl
  | .pr A B, x => by
    have h : ∀ (a b : List C), midsL a = [] → midsL b = [] → midsL (a ++ b) = [] := by
      intro a
      induction a with
      | nil => intro b _ hb; exact hb
      | cons c a ih =>
        intro b ha hb
        simp only [midsL, List.append_eq_nil_iff] at ha
        simp only [List.cons_append, midsL, List.append_eq_nil_iff]
        exact ⟨ha.1, ih b ha.2 hb⟩
    exact h _ _ (av_mids A x.1) (av_mids B x.2)

theorem ld_sound (htt : ttB P tt = true) {ops : Array Oper} {i : Nat} {o : Oper} {d : Nat} (ho : ops[i]? = some o) (hg : o.guard = none) (hd : o.dst = some d) {n : Nat} (hdn : d < n) {t : TypeId} {x : Operand} (hop : o.op = .load t x)
    {st : St} {v y : AV} {p : Pr} {ids : List Nat} (hx : st.ev x = some v) (he : ldA tt st t v = some (y, p, ids)) (hp : p) (new : Nat) :
    StepS P n ops i (opd st x ++ mrd st ids) [(.s d, some (.v y))] new := by
  refine stepS_val ho hg hd hdn _ y new ?_
  intro F known σ g W a hsem hrd
  have hrel := ev_rel hsem st x v hx (fun kx hkx => hrd kx (List.mem_append_left _ hkx))
  have hmem : ∀ id ∈ ids, ∀ b, lookA id st.mem = some b → σ (.m id) = some (.b b) := by
    intro id hid b hb
    exact hrd (.m id, .b b) (List.mem_append_right _ (List.mem_flatMap.2 ⟨id, hid, by simp [hb]⟩))
  have hexec : execOp a.eval o = (do pure (.value (← Instr.loadAt t (a.eval x)))) := by rw [execOp, hop]
  unfold ldA at he
  split at he
  · rename_i sz ag hts
    split at he
    · rename_i id off
      split at he
      · rename_i E bz cs hl
        split at he
        · rename_i z hz
          simp only [Option.some.injEq, Prod.mk.injEq] at he
          obtain ⟨rfl, rfl, rfl⟩ := he
          have hσ := hmem id (by simp) _ hl
          obtain ⟨b, vs, rest, hγ, hh, hr, _, _⟩ := hsem.blks id _ hσ
          obtain ⟨b', hγ', hv⟩ := hrel
          rw [hγ] at hγ'
          simp only [Option.some.injEq] at hγ'
          subst hγ'
          obtain ⟨u, hrun, hu⟩ := loadPart (W := W) htt hts hr hz b 0 (fun j hj => by
            have := cell_of_block hh j (by simp; omega)
            rw [List.getElem_append_left hj] at this
            simpa using this)
          refine ⟨fun id' hid' => hsem.mids _ _ hσ id' (partA_mids hz id' hid'), u, ?_, hu⟩
          rw [hexec, hv]
          simp only [Nat.zero_add] at hrun
          simp [hrun, Sem.run, pure]
        · simp at he
      · rename_i E cs hl
        split at he
        · rename_i z hz
          simp only [Option.some.injEq, Prod.mk.injEq] at he
          obtain ⟨rfl, rfl, rfl⟩ := he
          have hσ := hmem id (by simp) _ hl
          obtain ⟨b, vs, rest, hγ, hh, hr, _⟩ := hsem.blks id _ hσ
          obtain ⟨b', hγ', hv⟩ := hrel
          rw [hγ] at hγ'
          simp only [Option.some.injEq] at hγ'
          subst hγ'
          obtain ⟨u, hrun, hu⟩ := loadPart (W := W) htt hts hr hz b 0 (fun j hj => by
            have := cell_of_block hh j (by simp; omega)
            rw [List.getElem_append_left hj] at this
            simpa using this)
          refine ⟨fun id' hid' => hsem.mids _ _ hσ id' (partA_mids hz id' hid'), u, ?_, hu⟩
          rw [hexec, hv]
          simp only [Nat.zero_add] at hrun
          simp [hrun, Sem.run, pure]
        · simp at he
      · simp at he
    · rename_i T e off
      split at he
      · rename_i z hz
        simp only [Option.some.injEq, Prod.mk.injEq] at he
        obtain ⟨rfl, rfl, rfl⟩ := he
        obtain ⟨b, o', cs, hv, hrd', hc⟩ := hrel
        obtain ⟨u, hrun, hu⟩ := loadPart (W := W) htt hts (relD_av T e cs hrd') hz b o' (fun j hj => hsem.sub _ _ _ (hc j hj))
        refine ⟨fun id' hid' => ?_, u, ?_, hu⟩
        · have := partA_mids hz id' hid'
          rw [av_mids] at this
          cases this
        · rw [hexec, hv]
          simp [hrun, Sem.run, pure]
      · simp at he
    · rename_i id m k off
      split at he
      · rename_i E T xs hl
        split at he
        · rename_i hTn
          split at he
          · rename_i z hz
            simp only [Option.some.injEq, Prod.mk.injEq] at he
            obtain ⟨rfl, rfl, rfl⟩ := he
            have hσ := hmem id (by simp) _ hl
            obtain ⟨b', l, c, hγ', hv⟩ := hrel
            rcases hsem.blks id _ hσ with ⟨_, h0⟩ | ⟨b, cap, vs, hγ, hh, hlen, hle, _, hr, _, _⟩
            · subst h0; simp [Pr.h] at hp
            · rw [hγ] at hγ'
              simp only [Value.slice.injEq, Option.some.injEq, Addr.mk.injEq, and_true] at hγ'
              obtain ⟨rfl, _, _⟩ := hγ'
              have hp : k < xs.length := hp
              have hrk := hr k hp
              rw [show xs[k] = xs.getD k T.dflt by rw [List.getD_eq_getElem?_getD, List.getElem?_eq_getElem hp]; rfl] at hrk
              have hcap : (k + 1) * T.n ≤ cap * T.n := Nat.mul_le_mul_right _ (by omega)
              rw [Nat.add_mul, Nat.one_mul] at hcap
              have hlen' : ((vs.drop (k * T.n)).take T.n).length = T.n := by simp; omega
              obtain ⟨u, hrun, hu⟩ := loadPart (W := W) htt hts (relD_av T _ _ hrk) hz b (k * T.n) (fun j hj => by
                have hj' : j < T.n := by omega
                have := cell_of_block hh (k * T.n + j) (by omega)
                simp only [List.getElem_take, List.getElem_drop]
                exact this)
              refine ⟨fun id' hid' => ?_, u, ?_, hu⟩
              · have := partA_mids hz id' hid'
                rw [av_mids] at this
                cases this
              · rw [hexec, hv, ← hTn]
                simp [hrun, Sem.run, pure]
          · simp at he
        · simp at he
      · simp at he
    · simp at he
  · simp at he

end
end Go.El

/- The engine, part 10: stores into boxes, new boxes. Own work; no condition. -/
namespace Go.El
open Go Go.RowKit

section
variable {P : Program} {tt : TT} {g : Gh} {W : World}

/-- A value that may stand in a cell. -/
def oneB : Value → Bool
  | .agg _ => false
  | .tuple _ => false
  | _ => true
def okC : C → Bool
  | .any => false
  | .V v => oneB v
  | .M _ => false
  | .X _ => false
  | _ => true

theorem okC_one {c : C} {v : Value} (h : okC c = true) (hr : RelC g c v) : oneB v = true := by
  cases c with
  | any => simp [okC] at h
  | B b => simp only [RelC] at hr; subst hr; rfl
  | I k n => simp only [RelC] at hr; subst hr; rfl
  | V u => simp only [RelC] at hr; subst hr; exact h
  | S T xs => obtain ⟨a, cap, rfl, _⟩ := hr; rfl
  | P id off => obtain ⟨b, _, rfl⟩ := hr; rfl
  | X id => simp [okC] at h
  | Y id n i off => obtain ⟨b, l, c, _, rfl⟩ := hr; rfl
  | E T x off => obtain ⟨b, o, cs, rfl, _⟩ := hr; rfl
  | M m => simp [okC] at h
  | L id off len cap =>
    cases cap with
    | some c => obtain ⟨b, _, rfl⟩ := hr; rfl
    | none => obtain ⟨_, b, c, _, rfl, _⟩ := hr; rfl

/-- The world with another row in block b. -/
def setBlk (W : World) (b : Nat) (vs : List Value) (E : TypeId) : World := { W with heap := W.heap.setIfInBounds b (.cells vs.toArray E (0, 0)) }

theorem setBlk_at {b : Nat} {vs : List Value} {E : TypeId} (h : b < W.heap.size) : (setBlk W b vs E).heap[b]? = some (.cells vs.toArray E (0, 0)) := by
  simp [setBlk, h]
theorem setBlk_ne {b k : Nat} {vs : List Value} {E : TypeId} (h : b ≠ k) : (setBlk W b vs E).heap[k]? = W.heap[k]? := by
  simp [setBlk, Array.getElem?_setIfInBounds_ne h]

theorem run_store1 {b j : Nat} {vs : List Value} {E : TypeId} (h : W.heap[b]? = some (.cells vs.toArray E (0, 0))) (hj : j < vs.length) {v : Value} (hv : oneB v = true) :
    (store ⟨b, j, none⟩ v).run P W = .ok () (setBlk W b (vs.set j v) E) := by
  have hb : b < W.heap.size := (Array.getElem?_eq_some_iff.1 h).1
  have hc : W.cell? ⟨b, j, none⟩ = some vs[j] := cell_of_block h j hj
  have hf : W.frozen? ⟨b, j, none⟩ = false := by simp [World.frozen?, h]
  have hs : W.setCell ⟨b, j, none⟩ v = setBlk W b (vs.set j v) E := by
    unfold World.setCell setBlk
    congr 1
    apply Array.ext_getElem?
    intro k
    rw [Array.getElem?_modify, Array.getElem?_setIfInBounds]
    have hb' : W.heap[b] = .cells vs.toArray E (0, 0) := (Array.getElem?_eq_some_iff.1 h).2
    by_cases e : b = k
    · subst e
      simp [hb, hb']
    · simp [e]
  cases v <;> simp [store, Sem.run, hc, hf, hs] <;> simp [oneB] at hv

theorem setBlk_setBlk {b : Nat} {vs us : List Value} {E E' : TypeId} : setBlk (setBlk W b vs E) b us E' = setBlk W b us E' := by
  simp [setBlk]

theorem setBlk_self {b : Nat} {vs : List Value} {E : TypeId} (h : W.heap[b]? = some (.cells vs.toArray E (0, 0))) : setBlk W b vs E = W := by
  have hb : b < W.heap.size := (Array.getElem?_eq_some_iff.1 h).1
  have : W.heap.setIfInBounds b (.cells vs.toArray E (0, 0)) = W.heap := by
    apply Array.ext_getElem?
    intro k
    rw [Array.getElem?_setIfInBounds]
    by_cases e : b = k
    · subst e
      have hb' : W.heap[b] = .cells vs.toArray E (0, 0) := (Array.getElem?_eq_some_iff.1 h).2
      simp [hb, hb']
    · simp [e]
  unfold setBlk
  rw [this]

/-- Cells put over others from an offset on. -/
def over {α : Type} (vs us : List α) (off : Nat) : List α := vs.take off ++ us ++ vs.drop (off + us.length)

theorem over_length {α : Type} (vs us : List α) (off : Nat) (h : off + us.length ≤ vs.length) : (over vs us off).length = vs.length := by
  simp [over]; omega

theorem over_cons {α : Type} (vs us : List α) (u : α) (off : Nat) (h : off < vs.length) : over (vs.set off u) us (off + 1) = over vs (u :: us) off := by
  unfold over
  rw [List.drop_set_of_lt (by omega)]
  have h1 : (vs.set off u).take (off + 1) = vs.take off ++ [u] := by
    rw [List.take_succ_eq_append_getElem (by simpa using h)]
    simp only [List.take_set, List.getElem_set_self]
    rw [List.set_eq_of_length_le (by simp; omega)]
  rw [h1]
  simp only [List.length_cons, List.append_assoc, List.cons_append, List.nil_append]
  rw [show off + 1 + us.length = off + (us.length + 1) by omega]

theorem run_storeCells (b : Nat) {E : TypeId} : ∀ (us : List Value) (W : World) (vs : List Value) (o i : Nat), W.heap[b]? = some (.cells vs.toArray E (0, 0)) → o + i + us.length ≤ vs.length → (∀ u ∈ us, oneB u = true) →
    (storeCells ⟨b, o, none⟩ us i).run P W = .ok () (setBlk W b (over vs us (o + i)) E)
  | [], W, vs, o, i, h, _, _ => by
    have : over vs [] (o + i) = vs := by simp [over]
    rw [this, setBlk_self h]
    simp [storeCells, pure]
  | u :: us, W, vs, o, i, h, hle, hone => by
    simp only [List.length_cons] at hle
    have hb : b < W.heap.size := (Array.getElem?_eq_some_iff.1 h).1
    have h1 := run_store1 (P := P) h (j := o + i) (by omega) (hone u (by simp))
    have h2 := run_storeCells b us (setBlk W b (vs.set (o + i) u) E) (vs.set (o + i) u) o (i + 1) (setBlk_at hb) (by simp; omega) (fun x hx => hone x (by simp [hx]))
    simp only [storeCells, add_none, Sem.run_bind, h1, Result.andThen, h2, setBlk_setBlk]
    rw [show o + (i + 1) = o + i + 1 by omega, over_cons _ _ _ _ (by omega)]

/-- The cells of an abstract value. -/
def cellsAV : AV → Option (List C)
  | .c x => some [x]
  | .a cs => some cs
  | .t _ => none

theorem cellsAV_rel {x : AV} {cs : List C} (h : cellsAV x = some cs) {v : Value} (hr : RelV g x v) (hone : ∀ c ∈ cs, okC c = true) : ∃ vs, v.cells = vs.toArray ∧ RelL g cs vs := by
  cases x with
  | c y =>
    simp only [cellsAV, Option.some.injEq] at h
    subst h
    have h1 := okC_one (hone y (by simp)) hr
    refine ⟨[v], ?_, v, [], rfl, hr, rfl⟩
    cases v <;> first | rfl | (simp [oneB] at h1)
  | a ds =>
    simp only [cellsAV, Option.some.injEq] at h
    subst h
    obtain ⟨vs, rfl, hr⟩ := hr
    exact ⟨vs, rfl, hr⟩
  | t _ => simp [cellsAV] at h

theorem RelL.one {cs : List C} {vs : List Value} (hr : RelL g cs vs) (hone : ∀ c ∈ cs, okC c = true) : ∀ v ∈ vs, oneB v = true := by
  induction cs generalizing vs with
  | nil => simp only [RelL] at hr; subst hr; simp
  | cons c cs ih =>
    obtain ⟨v, r, rfl, h1, h2⟩ := hr
    intro u hu
    rcases List.mem_cons.1 hu with rfl | hu
    · exact okC_one (hone c (by simp)) h1
    · exact ih h2 (fun c' hc' => hone c' (by simp [hc'])) u hu

theorem RelL.over {cs ds : List C} {vs us : List Value} (hr : RelL g cs vs) (hs : RelL g ds us) (off : Nat) : RelL g (Go.El.over cs ds off) (Go.El.over vs us off) := by
  unfold Go.El.over
  rw [hs.length]
  exact RelL.append (RelL.append (hr.take off) hs) (hr.drop _)

theorem midsL_append (a b : List C) : ∀ id ∈ midsL (a ++ b), id ∈ midsL a ∨ id ∈ midsL b := by
  induction a with
  | nil => intro id h; exact .inr h
  | cons c a ih =>
    intro id h
    simp only [List.cons_append, midsL, List.mem_append] at h ⊢
    rcases h with h | h
    · exact .inl (.inl h)
    · rcases ih id h with h | h
      · exact .inl (.inr h)
      · exact .inr h

end
end Go.El

/- The engine, part 11: stores into boxes and new boxes, as steps. Own work; no condition. -/
namespace Go.El
open Go Go.RowKit

section
variable {P : Program} {tt : TT}

/-- The value stored is one of cells that may stand in memory. -/
def stA (tt : TT) (st : St) (t : Nat) (x v : AV) : Option (Nat × Blk) := match tySz tt t, x, cellsAV v with
  | some (sz, _), .c (.P id off), some us => (match lookA id st.mem with
    | some (.box E bz cs) => if us.length = sz ∧ off + sz ≤ cs.length ∧ us.all okC = true then some (id, .box E bz (over cs us off)) else none
    | _ => none)
  | _, _, _ => none

theorem midsL_over (cs us : List C) (off : Nat) : ∀ id ∈ midsL (over cs us off), id ∈ midsL cs ∨ id ∈ midsL us := by
  intro id hid
  unfold over at hid
  rcases midsL_append _ _ id hid with h | h
  · rcases midsL_append _ _ id h with h | h
    · exact .inl (midsL_take _ _ id h)
    · exact .inr h
  · exact .inl (midsL_drop _ _ id h)

theorem Sub_setBlk {H : FH} {W : World} (h : Sub H W) {b : Nat} {vs : List Value} {E : TypeId} (hb : ∀ o, H b o = none) : Sub H (setBlk W b vs E) := by
  intro b' o v hv
  have h1 := h b' o v hv
  by_cases e : b = b'
  · subst e; rw [hb o] at hv; cases hv
  · simp only [World.cell?, setBlk_ne e]
    exact h1

theorem over_app {α : Type} (vs rest ws : List α) (off : Nat) (h : off + ws.length ≤ vs.length) : over (vs ++ rest) ws off = over vs ws off ++ rest := by
  unfold over
  rw [List.take_append_of_le_length (by omega), List.drop_append_of_le_length (by omega)]
  simp [List.append_assoc]

theorem store_sound (htt : ttB P tt = true) {ops : Array Oper} {i : Nat} {o : Oper} (ho : ops[i]? = some o) (hg : o.guard = none) (hd : o.dst = none) {n : Nat} {t : TypeId} {x y : Operand} (hop : o.op = .store t x y)
    {st : St} {vx vy : AV} {id : Nat} {bk : Blk} (hx : st.ev x = some vx) (hy : st.ev y = some vy) (he : stA tt st t vx vy = some (id, bk)) (new : Nat) :
    StepS P n ops i (opd st x ++ opd st y ++ mrd st [id]) [(.m id, some (.b bk))] new := by
  intro F hFn Q known σ g W a K hnew hsem hrd hK
  have hrx := ev_rel hsem st x vx hx (fun kx hkx => hrd kx (by simp [hkx]))
  have hry := ev_rel hsem st y vy hy (fun kx hkx => hrd kx (by simp [hkx]))
  have hmy := ev_mids hsem st y vy hy (fun kx hkx => hrd kx (by simp [hkx]))
  unfold stA at he
  split at he
  · rename_i _ sz ag id' off us hts hcs
    split at he
    · rename_i E bz cs hl
      split at he
      · rename_i hcond
        obtain ⟨h1, h2, h3⟩ := hcond
        simp only [Option.some.injEq, Prod.mk.injEq] at he
        obtain ⟨rfl, rfl⟩ := he
        have hσ : σ (.m id') = some (.b (.box E bz cs)) := hrd (.m id', .b (.box E bz cs)) (by simp [mrd, hl])
        obtain ⟨b, vs, rest, hγ, hh, hr, hN, hz, hcp⟩ := hsem.blks id' _ hσ
        obtain ⟨b', hγ', hv⟩ := hrx
        rw [hγ] at hγ'
        simp only [Option.some.injEq] at hγ'
        subst hγ'
        have hone : ∀ c ∈ us, okC c = true := fun c hc => List.all_eq_true.1 h3 c hc
        obtain ⟨ws, hws, hrw⟩ := cellsAV_rel hcs hry hone
        obtain ⟨_, ⟨ti, hti, htsz⟩, _⟩ := tySz_ok htt hts
        have hlenw := hrw.length
        have hlenv := hr.length
        have hrun : (Instr.storeAt t (a.eval x) (a.eval y)).run P W = .ok () (setBlk W b (over (vs ++ rest) ws off) E) := by
          rw [hv]
          simp only [Instr.storeAt, Instr.sureAddr, storeVar, Sem.run_bind, Sem.run_pure, Result.andThen, run_sizeOf hti, hws]
          have : ¬ (ws.toArray.size ≠ ti.size) := by simp; omega
          simp only [this, if_false]
          have := run_storeCells (P := P) b ws W (vs ++ rest) off 0 hh (by simp; omega) (hrw.one hone)
          simp only [Nat.add_zero] at this
          simpa using this
        unfold wpOp
        simp only [ho, Region.wanted, hg, if_true]
        refine .inl ?_
        unfold Oper.wp
        have hex : (execOp a.eval o).run P W = .ok .skip (setBlk W b (over (vs ++ rest) ws off) E) := by
          rw [execOp, hop]
          simp [hrun, Sem.run, pure]
        rw [hex]
        simp only [Oper.upon, hd, Act.put]
        have hb : b < W.heap.size := (Array.getElem?_eq_some_iff.1 hh).1
        refine hK g _ a (hsem.step (chg := fun j => j = id') (g' := g) ⟨⟨FLe.refl _, fun _ _ => rfl⟩, fun _ _ _ => rfl, Sub_setBlk hsem.sub hz, by simp [setBlk], ?_, rfl, rfl, rfl⟩ _ new hnew rfl hsem.defers (fun _ _ => rfl) ?_ ?_ ?_ ?_ ?_)
        · intro k hk hne
          have : b ≠ k := fun e => hne id' rfl (by rw [hγ, e])
          exact setBlk_ne this
        · intro j hj
          subst hj
          exact ⟨by simp [says], _, hσ⟩
        · intro t' v' ht; simp [says] at ht
        · intro j bk hj
          simp only [says] at hj
          split at hj
          · rename_i e
            simp only [Key.m.injEq] at e
            subst e
            simp only [Option.some.injEq, Info.b.injEq] at hj
            subst hj
            have hov : over (vs ++ rest) ws off = over vs ws off ++ rest := over_app vs rest ws off (by omega)
            exact ⟨⟨b, over vs ws off, rest, hγ, by rw [setBlk_at hb, hov], hr.over hrw off, hN, hz, fun h0 => by
              obtain ⟨c, e1, e2⟩ := hcp h0
              refine ⟨c, e1, ?_⟩
              rw [← hov, over_length _ _ _ (by simp; omega)]; exact e2⟩, .inl ⟨hsem.mkn _ _ hσ, _, hσ⟩⟩
          · simp at hj
        · intro k z hz'
          simp only [says] at hz'
          split at hz'
          · simp only [Option.some.injEq] at hz'
            subst hz'
            intro j hj
            rcases midsL_over _ _ _ j hj with h | h
            · exact .inl (hsem.mids _ _ hσ j h)
            · refine .inl (hmy j ?_)
              cases vy with
              | c q => simp only [cellsAV, Option.some.injEq] at hcs; subst hcs; simpa [midsL, AV.mids] using h
              | a q => simp only [cellsAV, Option.some.injEq] at hcs; subst hcs; exact h
              | t q => simp [cellsAV] at hcs
          · simp at hz'
        · intro j z hz'
          simp only [says] at hz'
          split at hz'
          · rename_i e
            simp only [Key.m.injEq] at e
            subst e
            exact .inl (hsem.mkn _ _ hσ)
          · simp at hz'
      · simp at he
    · simp at he
  · simp at he

theorem alloc_heap (W : World) (o : Obj) (k : Nat) (h : k < W.heap.size) : (W.heap.push o)[k]? = W.heap[k]? := by
  rw [Array.getElem?_push, if_neg (by omega)]

theorem Sub_push {H : FH} {W : World} (h : Sub H W) (o : Obj) : Sub H { W with heap := W.heap.push o } := by
  intro b off v hv
  have h1 := h b off v hv
  have hb := World.block_lt_of_cell? W _ h1
  simp only [World.cell?] at h1 ⊢
  rw [alloc_heap W o b hb]
  exact h1

/-- A new box, by 'box' or 'alloc'. -/
theorem newbox_sound {ops : Array Oper} {i : Nat} {o : Oper} {d : Nat} (ho : ops[i]? = some o) (hg : o.guard = none) (hd : o.dst = some d) {n : Nat} (hdn : d < n) {E : TypeId} (rd : List (Key × Info)) (cs : List C) (new : Nat)
    (h : ∀ (F : Fix) (known : Nat → Prop) (σ : Kn) (g : Gh) (W : World) (a : Act), Hold F known σ g W a → (∀ kx ∈ rd, σ kx.1 = some kx.2) →
      (∀ id ∈ midsL cs, known id) ∧ ∃ vs, RelL g cs vs ∧ (execOp a.eval o).run P W = .ok (.value (.pointer (some ⟨W.heap.size, 0, none⟩))) { W with heap := W.heap.push (.cells vs.toArray E (0, 0)) }) :
    StepS P n ops i rd [(.s d, some (.v (.c (.P new 0)))), (.m new, some (.b (.box E 0 cs)))] new := by
  intro F hFn Q known σ g W a K hnew hsem hrd hK
  obtain ⟨hm, vs, hr, hrun⟩ := h F known σ g W a hsem hrd
  unfold wpOp
  simp only [ho, Region.wanted, hg, if_true]
  refine .inl ?_
  unfold Oper.wp
  rw [hrun]
  simp only [Oper.upon, hd]
  have hsz : d < a.tmps.size := by rw [hsem.size, hFn]; exact hdn
  let g' : Gh := ⟨g.H, fun id => if id = new then .pointer (some ⟨W.heap.size, 0, none⟩) else g.γ id⟩
  have hle : GLe known g g' := ⟨FLe.refl _, fun id hid => by
    have : id ≠ new := fun e => hnew (e ▸ hid)
    simp [g', this]⟩
  have hHnone : ∀ o, g.H W.heap.size o = none := by
    intro o
    cases hv : g.H W.heap.size o with
    | none => rfl
    | some v =>
      have := World.block_lt_of_cell? W _ (hsem.sub _ _ _ hv)
      simp at this
  refine hK g' _ _ (hsem.step (chg := fun _ => False) (g' := g') ⟨hle, fun _ _ _ => rfl, Sub_push hsem.sub _, by simp, fun k hk _ => alloc_heap W _ k hk, rfl, rfl, rfl⟩ _ new hnew (by simp [Act.put]) hsem.defers ?_ (fun _ h => h.elim) ?_ ?_ ?_ ?_)
  · intro t ht
    have hne : d ≠ t := by intro e; subst e; simp [says] at ht
    simp [Act.put, Array.getElem?_setIfInBounds_ne hne]
  · intro t u ht
    simp only [says] at ht
    split at ht
    · rename_i e
      simp only [Key.s.injEq] at e
      simp only [Option.some.injEq, Info.v.injEq] at ht
      subst e; subst ht
      refine ⟨W.heap.size, by simp [g', blk], ?_⟩
      simp [Act.put, hsz]
    · split at ht
      · simp at ht
      · simp at ht
  · intro id b ht
    simp only [says, reduceCtorEq, if_false] at ht
    split at ht
    · rename_i e
      simp only [Key.m.injEq] at e
      subst e
      simp only [Option.some.injEq, Info.b.injEq] at ht
      subst ht
      refine ⟨⟨W.heap.size, vs, [], by simp [g', blk], by simp, RelL.mono hle hm hr, .inl hsem.below.size, hHnone, by simp⟩, .inr ⟨rfl, fun k hk => .inl ?_⟩⟩
      simp only [g', if_true, blk, Option.some.injEq] at hk
      omega
    · simp at ht
  · intro k y ht
    simp only [says] at ht
    split at ht
    · simp only [Option.some.injEq] at ht
      subst ht
      intro id hid
      simp [Info.mids, AV.mids, C.mids] at hid
      exact .inr hid
    · split at ht
      · simp only [Option.some.injEq] at ht
        subst ht
        exact fun id hid => .inl (hm id hid)
      · simp at ht
  · intro id y ht
    simp only [says, reduceCtorEq, if_false] at ht
    split at ht
    · rename_i e
      simp only [Key.m.injEq] at e
      exact .inr e.symm
    · simp at ht

theorem box_sound {ops : Array Oper} {i : Nat} {o : Oper} {d : Nat} (ho : ops[i]? = some o) (hg : o.guard = none) (hd : o.dst = some d) {n : Nat} (hdn : d < n) {E : TypeId} {x : Operand} (hop : o.op = .box E x)
    {st : St} {v : AV} {cs : List C} (hx : st.ev x = some v) (hcs : cellsAV v = some cs) (hok : cs.all okC = true) (new : Nat) :
    StepS P n ops i (opd st x) [(.s d, some (.v (.c (.P new 0)))), (.m new, some (.b (.box E 0 cs)))] new := by
  refine newbox_sound ho hg hd hdn _ cs new ?_
  intro F known σ g W a hsem hrd
  have hr := ev_rel hsem st x v hx hrd
  have hm := ev_mids hsem st x v hx hrd
  obtain ⟨vs, hvs, hrl⟩ := cellsAV_rel hcs hr (fun c hc => List.all_eq_true.1 hok c hc)
  refine ⟨fun id hid => hm id ?_, vs, hrl, ?_⟩
  · cases v with
    | c q => simp only [cellsAV, Option.some.injEq] at hcs; subst hcs; simpa [midsL, AV.mids] using hid
    | a q => simp only [cellsAV, Option.some.injEq] at hcs; subst hcs; exact hid
    | t q => simp [cellsAV] at hcs
  · rw [execOp, hop]
    simp [Instr.box, newVar, newRow, newObj, hvs, Sem.run, pure]

theorem zeros_rel (g : Gh) : ∀ zs : List ZV, RelL g (zs.map ZV.toC) (zs.map ZV.toV)
  | [] => rfl
  | z :: zs => ⟨_, _, rfl, by cases z <;> rfl, zeros_rel g zs⟩

theorem alloc_sound (htt : ttB P tt = true) {ops : Array Oper} {i : Nat} {o : Oper} {d : Nat} (ho : ops[i]? = some o) (hg : o.guard = none) (hd : o.dst = some d) {n : Nat} (hdn : d < n) {E : TypeId} (hop : o.op = .alloc E)
    {ti : TI} (hti : lookA E tt = some ti) (new : Nat) :
    StepS P n ops i [] [(.s d, some (.v (.c (.P new 0)))), (.m new, some (.b (.box E 0 (ti.zero.map ZV.toC))))] new := by
  refine newbox_sound ho hg hd hdn _ _ new ?_
  intro F known σ g W a hsem hrd
  obtain ⟨i', hi, _, _, z, hz, hzc⟩ := (ttB_ok htt hti).info
  refine ⟨?_, ti.zero.map ZV.toV, zeros_rel g _, ?_⟩
  · intro id hid
    exfalso
    have : ∀ zs : List ZV, midsL (zs.map ZV.toC) = [] := by
      intro zs
      induction zs with
      | nil => rfl
      | cons z zs ih => simp only [List.map_cons, midsL, ih]; cases z <;> rfl
    rw [this] at hid
    cases hid
  · have hzc' : z.cells = (ti.zero.map ZV.toV).toArray := by rw [← Array.toList_inj]; simpa using hzc
    rw [execOp, hop]
    simp [Instr.alloc, zeroValue, typeInfo, hi, hz, newVar, newRow, newObj, hzc', Sem.run, pure]

end
end Go.El

/- The engine, part 11b: reading and writing vectors. Own work; no condition. -/
namespace Go.El
open Go Go.RowKit

section
variable {P : Program} {tt : TT}

def vecOf (st : St) (id : Nat) : Option Blk := match lookA id st.mem with
  | some (.vec E T xs) => some (.vec E T xs)
  | _ => none

def idxX (tt : TT) (st : St) (t id : Nat) (i : AV) : Option (AV × Pr) := match lookA id st.mem, i with
  | some (.vec _ T xs), .c (.I _ k) => if slTy tt t T.n then some (.c (.Y id T.n k.toNat 0), .and (.le 0 k) (.lt k xs.length)) else none
  | _, _ => none

theorem idxX_sound (htt : ttB P tt = true) {ops : Array Oper} {i : Nat} {o : Oper} {d : Nat} (ho : ops[i]? = some o) (hg : o.guard = none) (hd : o.dst = some d) {n : Nat} (hdn : d < n) {t : TypeId} {x y : Operand} (hop : o.op = .indexAddr t x y)
    {st : St} {id : Nat} {vy v : AV} {p : Pr} (hx : st.ev x = some (.c (.X id))) (hy : st.ev y = some vy) (he : idxX tt st t id vy = some (v, p)) (hp : p) (new : Nat) :
    StepS P n ops i (opd st x ++ opd st y ++ mrd st [id]) [(.s d, some (.v v))] new := by
  refine stepS_val ho hg hd hdn _ v new ?_
  intro F known σ g W a hsem hrd
  have hrx : a.eval x = g.γ id := ev_rel hsem st x _ hx (fun kx hkx => hrd kx (by simp [hkx]))
  have hry := ev_rel hsem st y vy hy (fun kx hkx => hrd kx (by simp [hkx]))
  have hmx := ev_mids hsem st x _ hx (fun kx hkx => hrd kx (by simp [hkx]))
  unfold idxX at he
  split at he
  · rename_i E T xs k' k hl
    split at he
    · rename_i hst
      simp only [Option.some.injEq, Prod.mk.injEq] at he
      obtain ⟨rfl, rfl⟩ := he
      have hσ : σ (.m id) = some (.b (.vec E T xs)) := hrd (.m id, .b (.vec E T xs)) (by simp [mrd, hl])
      obtain ⟨e, i', hue, hi, hs⟩ := slTy_ok htt hst
      have hry' : a.eval y = .int k' k := hry
      rcases hsem.blks id _ hσ with ⟨_, h0⟩ | ⟨b, cap, vs, hγ, _⟩
      · subst h0; simp [Pr.h] at hp; omega
      · refine ⟨fun j hj => hmx j (by simpa [AV.mids, C.mids] using hj), .pointer (some ⟨b, k.toNat * T.n, none⟩), ?_, b, xs.length, cap, hγ, by simp⟩
        have hexec : execOp a.eval o = (do pure (.value (← Instr.indexAt t (a.eval x) (a.eval y)))) := by rw [execOp, hop]
        rw [hexec, hrx, hγ, hry']
        have hcond : (0 ≤ k ∧ k < (xs.length : Int)) := hp
        simp only [Instr.indexAt, asIntOf, Sem.run_bind, run_underlying hue, Result.andThen]
        simp [hcond, run_sizeOf hi, hs, add_none]
    · simp at he
  · simp at he

def lenX (tt : TT) (st : St) (t id : Nat) : Option AV := match lookA id st.mem, lookA t tt with
  | some (.vec _ _ xs), some ti => (match ti.kind with | .sl _ => some (.c (.I .i64 xs.length)) | _ => none)
  | _, _ => none

theorem lenX_sound (htt : ttB P tt = true) {ops : Array Oper} {i : Nat} {o : Oper} {d : Nat} (ho : ops[i]? = some o) (hg : o.guard = none) (hd : o.dst = some d) {n : Nat} (hdn : d < n) {t : TypeId} {x : Operand} (hop : o.op = .call ⟨.builtin .len, #[x], #[t]⟩)
    {st : St} {id : Nat} {v : AV} (hx : st.ev x = some (.c (.X id))) (he : lenX tt st t id = some v) (new : Nat) :
    StepS P n ops i (opd st x ++ mrd st [id]) [(.s d, some (.v v))] new := by
  refine stepS_val ho hg hd hdn _ v new ?_
  intro F known σ g W a hsem hrd
  have hrx : a.eval x = g.γ id := ev_rel hsem st x _ hx (fun kx hkx => hrd kx (by simp [hkx]))
  unfold lenX at he
  split at he
  · rename_i E T xs ti hl ht
    split at he
    · rename_i e hk
      simp only [Option.some.injEq] at he
      subst he
      have hσ : σ (.m id) = some (.b (.vec E T xs)) := hrd (.m id, .b (.vec E T xs)) (by simp [mrd, hl])
      have h2 := (ttB_ok htt ht).kind
      rw [hk] at h2
      refine ⟨by simp [AV.mids, C.mids], .int .i64 xs.length, ?_, rfl⟩
      rw [execOp, hop]
      rcases hsem.blks id _ hσ with ⟨hγ, h0⟩ | ⟨b, cap, vs, hγ, _⟩
      · subst h0
        simp [resolve, invoke, builtin, Builtin.len_, hrx, hγ, run_underlying h2, goInt, Sem.run, pure]
      · simp [resolve, invoke, builtin, Builtin.len_, hrx, hγ, run_underlying h2, goInt, Sem.run, pure]
    · simp at he
  · simp at he

/-- An element of one cell, read back. -/
def unav (T : ET) : List C → Option T.den := match T with
  | .int k => fun cs => (match cs with | [.I k' n] => if k = k' then some n else none | _ => none)
  | .bool => fun cs => (match cs with | [.B b] => some b | _ => none)
  | _ => fun _ => none

theorem unav_eq {T : ET} {cs : List C} {x : T.den} (h : unav T cs = some x) : cs = av T x := by
  cases T with
  | int k =>
    simp only [unav] at h
    split at h
    · split at h
      · rename_i e; subst e; simp at h; subst h; rfl
      · simp at h
    · simp at h
  | bool =>
    simp only [unav] at h
    split at h
    · simp at h; subst h; rfl
    · simp at h
  | _ => simp [unav] at h

theorem av_okC : ∀ (T : ET) (x : T.den), ∀ c ∈ av T x, okC c = true
  | .int _, _, c, h => by simp [av] at h; subst h; rfl
  | .bool, _, c, h => by simp [av] at h; subst h; rfl
  | .z, _, c, h => by simp [av] at h; rcases h with rfl | rfl <;> rfl
  | .q, _, c, h => by simp [av] at h; rcases h with rfl | rfl | rfl | rfl <;> rfl
  | .sl _, _, c, h => by simp [av] at h; subst h; rfl
  | .pr A B, x, c, h => by
    simp only [av, List.mem_append] at h
    rcases h with h | h
    · exact av_okC A _ c h
    · exact av_okC B _ c h

theorem chunk_over_ne {α : Type} (vs us : List α) (n i j : Nat) (hl : us.length = n) (hle : (i + 1) * n ≤ vs.length) (hne : i ≠ j) : ((over vs us (i * n)).drop (j * n)).take n = (vs.drop (j * n)).take n := by
  have hi : (i + 1) * n = i * n + n := by rw [Nat.add_mul, Nat.one_mul]
  apply List.ext_getElem?
  intro k
  rw [List.getElem?_take, List.getElem?_take]
  split
  · rename_i hk
    rw [List.getElem?_drop, List.getElem?_drop]
    unfold over
    rcases Nat.lt_or_ge j i with hji | hji
    · have h1 : (j + 1) * n ≤ i * n := Nat.mul_le_mul_right _ hji
      rw [Nat.add_mul, Nat.one_mul] at h1
      rw [List.append_assoc, List.getElem?_append_left (by simp; omega), List.getElem?_take_of_lt (by omega)]
    · have h1 : (i + 1) * n ≤ j * n := Nat.mul_le_mul_right _ (by omega)
      rw [List.getElem?_append_right (by simp; omega), List.getElem?_drop]
      simp only [List.length_append, List.length_take]
      congr 1
      omega
  · rfl

theorem chunk_over_eq {α : Type} (vs us : List α) (n i : Nat) (hl : us.length = n) (hle : (i + 1) * n ≤ vs.length) : ((over vs us (i * n)).drop (i * n)).take n = us := by
  have hi : (i + 1) * n = i * n + n := by rw [Nat.add_mul, Nat.one_mul]
  unfold over
  have : (vs.take (i * n)).length = i * n := by simp; omega
  rw [List.append_assoc, List.drop_append_of_le_length (by omega), List.drop_eq_nil_of_le (by omega), List.nil_append, List.take_append_of_le_length (by omega), List.take_of_length_le (by omega)]

/-- A whole element of a vector is stored. -/
theorem storeV_sound (htt : ttB P tt = true) {ops : Array Oper} {i : Nat} {o : Oper} (ho : ops[i]? = some o) (hg : o.guard = none) (hd : o.dst = none) {n : Nat} {t : TypeId} {x y : Operand} (hop : o.op = .store t x y)
    {st : St} {id m k : Nat} {E : TypeId} {T : ET} {xs : List T.den} {vy : AV} (hx : st.ev x = some (.c (.Y id m k 0))) (hy : st.ev y = some vy) (hl : lookA id st.mem = some (.vec E T xs)) (hm : T.n = m) {ag : Bool} (hts : tySz tt t = some (m, ag)) {e : T.den} (hcs : cellsAV vy = some (av T e)) (hk : k < xs.length) (new : Nat) :
    StepS P n ops i (opd st x ++ opd st y ++ mrd st [id]) [(.m id, some (.b (.vec E T (xs.set k e))))] new := by
  intro F hFn Q known σ g W a K hnew hsem hrd hK
  have hrx := ev_rel hsem st x _ hx (fun kx hkx => hrd kx (by simp [hkx]))
  have hry := ev_rel hsem st y vy hy (fun kx hkx => hrd kx (by simp [hkx]))
  have hσ : σ (.m id) = some (.b (.vec E T xs)) := hrd (.m id, .b (.vec E T xs)) (by simp [mrd, hl])
  obtain ⟨b', l', c', hγ', hv⟩ := hrx
  rcases hsem.blks id _ hσ with ⟨_, h0⟩ | ⟨b, cap, vs, hγ, hh, hvl, hle, hlen, hr, hN, hz⟩
  · subst h0; simp at hk
  rw [hγ] at hγ'
  simp only [Value.slice.injEq, Option.some.injEq, Addr.mk.injEq, and_true] at hγ'
  obtain ⟨rfl, _, _⟩ := hγ'
  obtain ⟨ws, hws, hrw⟩ := cellsAV_rel hcs hry (av_okC T e)
  have hwd : RelD g.H T e ws := av_relD T e ws hrw
  have hwl : ws.length = T.n := RelD.length T _ _ hwd
  obtain ⟨_, ⟨ti, hti, htsz⟩, _⟩ := tySz_ok htt hts
  have hcap : (k + 1) * T.n ≤ vs.length := by rw [hvl]; exact Nat.mul_le_mul_right _ (by omega)
  have hk1 : (k + 1) * T.n = k * T.n + T.n := by rw [Nat.add_mul, Nat.one_mul]
  subst hm
  have hrun : (Instr.storeAt t (a.eval x) (a.eval y)).run P W = .ok () (setBlk W b (over vs ws (k * T.n)) E) := by
    rw [hv]
    simp only [Instr.storeAt, Instr.sureAddr, storeVar, Sem.run_bind, Sem.run_pure, Result.andThen, run_sizeOf hti, hws, Nat.add_zero]
    have : ¬ (ws.toArray.size ≠ ti.size) := by simp; omega
    simp only [this, if_false]
    have := run_storeCells (P := P) b ws W vs (k * T.n) 0 hh (by omega) (hrw.one (av_okC T e))
    simp only [Nat.add_zero] at this
    simpa using this
  unfold wpOp
  simp only [ho, Region.wanted, hg, if_true]
  refine .inl ?_
  unfold Oper.wp
  have hex : (execOp a.eval o).run P W = .ok .skip (setBlk W b (over vs ws (k * T.n)) E) := by
    rw [execOp, hop]
    simp [hrun, Sem.run, pure]
  rw [hex]
  simp only [Oper.upon, hd, Act.put]
  have hb : b < W.heap.size := (Array.getElem?_eq_some_iff.1 hh).1
  refine hK g _ a (hsem.step (chg := fun j => j = id) (g' := g) ⟨⟨FLe.refl _, fun _ _ => rfl⟩, fun _ _ _ => rfl, Sub_setBlk hsem.sub hz, by simp [setBlk], ?_, rfl, rfl, rfl⟩ _ new hnew rfl hsem.defers (fun _ _ => rfl) ?_ ?_ ?_ ?_ ?_)
  · intro k' hk' hne
    have : b ≠ k' := fun e => hne id rfl (by rw [hγ, e]; rfl)
    exact setBlk_ne this
  · intro j hj
    subst hj
    exact ⟨by simp [says], _, hσ⟩
  · intro t' v' ht; simp [says] at ht
  · intro j bk hj
    simp only [says] at hj
    split at hj
    · rename_i e'
      simp only [Key.m.injEq] at e'
      subst e'
      simp only [Option.some.injEq, Info.b.injEq] at hj
      subst hj
      refine ⟨.inr ⟨b, cap, over vs ws (k * T.n), by simpa using hγ, setBlk_at hb, ?_, by simpa using hle, by simpa using hlen, fun j hj => ?_, hN, hz⟩, .inl ⟨hsem.mkn _ _ hσ, _, hσ⟩⟩
      · rw [over_length _ _ _ (by omega)]; exact hvl
      · simp only [List.length_set] at hj
        rw [List.getElem_set]
        split
        · rename_i e'; subst e'
          rw [chunk_over_eq vs ws T.n k hwl hcap]
          exact hwd
        · rename_i e'
          rw [chunk_over_ne vs ws T.n k j hwl hcap e']
          exact hr j hj
    · simp at hj
  · intro k' z hz'
    simp only [says] at hz'
    split at hz'
    · simp only [Option.some.injEq] at hz'
      subst hz'
      intro j hj
      simp [Info.mids, Blk.mids] at hj
    · simp at hz'
  · intro j z hz'
    simp only [says] at hz'
    split at hz'
    · rename_i e'
      simp only [Key.m.injEq] at e'
      subst e'
      exact .inl (hsem.mkn _ _ hσ)
    · simp at hz'

end
end Go.El

/- The engine, part 11c: literals: structs and slices. Own work; no condition. -/
namespace Go.El
open Go Go.RowKit

section
variable {P : Program} {tt : TT} {n : Nat}

/-- Parts put into cells. -/
def fillC (pl : List (Nat × Nat)) (st : St) : List C → List (Nat × Operand) → Option (List C)
  | cs, [] => some cs
  | cs, (i, x) :: r => (match pl[i]?, st.ev x with
    | some (off, sz), some v => (match cellsAV v with
      | some us => if us.length = sz ∧ off + sz ≤ cs.length ∧ us.all okC = true then fillC pl st (over cs us off) r else none
      | none => none)
    | _, _ => none)

theorem foldl_over (us : List Value) : ∀ (vs : List Value) (off k : Nat), off + k + us.length ≤ vs.length → (us.zipIdx k).foldl (fun (cs : Array Value) (p : Value × Nat) => cs.setIfInBounds (off + p.2) p.1) vs.toArray = (over vs us (off + k)).toArray := by
  induction us with
  | nil => intro vs off k _; simp [over]
  | cons u us ih =>
    intro vs off k h
    simp only [List.length_cons] at h
    simp only [List.zipIdx_cons, List.foldl_cons]
    have : vs.toArray.setIfInBounds (off + k) u = (vs.set (off + k) u).toArray := by simp
    rw [this, ih (vs.set (off + k) u) off (k + 1) (by simp; omega)]
    rw [show off + (k + 1) = off + k + 1 by omega, over_cons _ _ _ _ (by omega)]

theorem fill_sound {F : Fix} {known : Nat → Prop} {σ : Kn} {g : Gh} {W : World} {a : Act} (h : Hold F known σ g W a) (st : St) (pl : List (Nat × Nat)) (place : Nat → Option (Nat × Nat)) (hpl : ∀ i x, pl[i]? = some x → place i = some x) :
    ∀ (parts : List (Nat × Operand)) (cs cs' : List C) (vs : List Value), fillC pl st cs parts = some cs' → RelL g cs vs → (∀ p ∈ parts, ∀ kx ∈ opd st p.2, σ kx.1 = some kx.2) → (∀ id ∈ midsL cs, known id) →
      ∃ us : List Value, Instr.fill place vs.toArray (parts.map fun p => (p.1, a.eval p.2)) = some us.toArray ∧ RelL g cs' us ∧ us.length = vs.length ∧ ∀ id ∈ midsL cs', known id
  | [], cs, cs', vs, hf, hr, _, hm => by
    simp only [fillC, Option.some.injEq] at hf
    subst hf
    exact ⟨vs, rfl, hr, rfl, hm⟩
  | (i, x) :: parts, cs, cs', vs, hf, hr, hrd, hm => by
    simp only [fillC] at hf
    split at hf
    · rename_i off sz v hp hv
      split at hf
      · rename_i us hus
        split at hf
        · rename_i hcond
          obtain ⟨h1, h2, h3⟩ := hcond
          have hrel := ev_rel h st x v hv (hrd (i, x) (by simp))
          have hmid := ev_mids h st x v hv (hrd (i, x) (by simp))
          obtain ⟨ws, hws, hrw⟩ := cellsAV_rel hus hrel (fun c hc => List.all_eq_true.1 h3 c hc)
          have hl1 := hr.length
          have hl2 := hrw.length
          have hmid' : ∀ id ∈ midsL (over cs us off), known id := by
            intro id hid
            rcases midsL_over _ _ _ id hid with h | h
            · exact hm id h
            · refine hmid id ?_
              cases v with
              | c q => simp only [cellsAV, Option.some.injEq] at hus; subst hus; simpa [midsL, AV.mids] using h
              | a q => simp only [cellsAV, Option.some.injEq] at hus; subst hus; exact h
              | t q => simp [cellsAV] at hus
          obtain ⟨zs, hz1, hz2, hz3, hz4⟩ := fill_sound h st pl place hpl parts (over cs us off) cs' (over vs ws off) hf (hr.over hrw off) (fun p hp => hrd p (by simp [hp])) hmid'
          refine ⟨zs, ?_, hz2, by rw [hz3, over_length _ _ _ (by omega)], hz4⟩
          simp only [List.map_cons, Instr.fill, hpl i _ hp, hws]
          have hc : ¬ ((ws.toArray.size ≠ sz || decide (off + ws.toArray.size > vs.toArray.size)) = true) := by
            simp; omega
          rw [if_neg (by simpa using hc)]
          have := foldl_over ws vs off 0 (by omega)
          simp only [Nat.add_zero] at this
          have e : ws.toArray.zipIdx.foldl (fun (cs : Array Value) (p : Value × Nat) => cs.setIfInBounds (off + p.2) p.1) vs.toArray = (over vs ws off).toArray := by
            rw [← this]
            simp
          rw [← hz1]
          congr 1
        · simp at hf
      · simp at hf
    · simp at hf

def places (ti : TI) : List (Nat × Nat) := ti.fields.map fun f => (f.1, f.2.1)

/-- A struct literal. -/
def buildA (tt : TT) (st : St) (t : Nat) (parts : List (Nat × Operand)) : Option AV := match lookA t tt with
  | some ti => (match ti.kind with
    | .st => (match fillC (places ti) st (ti.zero.map ZV.toC) parts with | some cs => some (.a cs) | none => none)
    | _ => none)
  | none => none

theorem zeros_mids (zs : List ZV) : midsL (zs.map ZV.toC) = [] := by
  induction zs with
  | nil => rfl
  | cons z zs ih => simp only [List.map_cons, midsL, ih]; cases z <;> rfl

theorem run_mapM_places (htt : True) {ti : TI} {fs : Array Field} (hfb : fieldsB P ti.fields fs.toList = true) (W : World) : ∃ pls : Array (Nat × Nat), (fs.mapM fun f => (do pure (f.offset, ← sizeOf f.type) : Go.Sem (Nat × Nat))).run P W = .ok pls W ∧ ∀ (i : Nat) (x : Nat × Nat), (places ti)[i]? = some x → pls[i]? = some x := by
  have key : ∀ (l : List (Nat × Nat × Bool)) (fs : List Field), fieldsB P l fs = true → (fs.mapM fun f => (do pure (f.offset, ← sizeOf f.type) : Go.Sem (Nat × Nat))).run P W = .ok (l.map fun f => (f.1, f.2.1)) W := by
    intro l
    induction l with
    | nil => intro fs h; cases fs with
      | nil => simp [pure]
      | cons f fs => simp [fieldsB] at h
    | cons p l ih =>
      intro fs h
      obtain ⟨off, sz, ag⟩ := p
      cases fs with
      | nil => simp [fieldsB] at h
      | cons f fs =>
        obtain ⟨f', hf', e1, ⟨i, hi, hs⟩, _⟩ := fieldsB_get h (k := 0) rfl
        simp only [List.getElem?_cons_zero, Option.some.injEq] at hf'
        subst hf'
        simp only [fieldsB, Bool.and_eq_true] at h
        have := ih fs h.2
        rw [List.mapM_cons]
        simp only [Sem.run_bind, run_sizeOf hi, Result.andThen, Sem.run_pure, this, hs, e1, List.map_cons]
  refine ⟨(places ti).toArray, ?_, fun i x h => by simpa using h⟩
  have hm : fs.mapM (fun f => (do pure (f.offset, ← sizeOf f.type) : Go.Sem (Nat × Nat))) = Functor.map List.toArray (fs.toList.mapM (fun f => (do pure (f.offset, ← sizeOf f.type) : Go.Sem (Nat × Nat)))) := by
    simp [Array.mapM_eq_mapM_toList]
  rw [hm]
  simp only [map_eq_pure_bind, Sem.run_bind, key ti.fields fs.toList hfb, Result.andThen]
  rfl

theorem build_sound (htt : ttB P tt = true) {ops : Array Oper} {i : Nat} {o : Oper} {d : Nat} (ho : ops[i]? = some o) (hg : o.guard = none) (hd : o.dst = some d) {n : Nat} (hdn : d < n) {t : TypeId} {parts : Array (Nat × Operand)} (hop : o.op = .build t parts)
    {st : St} {v : AV} (hv : buildA tt st t parts.toList = some v) (new : Nat) : StepS P n ops i (rdV st o.op) [(.s d, some (.v v))] new := by
  refine stepS_val ho hg hd hdn _ v new ?_
  intro F known σ g W a hsem hrd
  unfold buildA at hv
  split at hv
  · rename_i ti hti
    split at hv
    · rename_i hk
      split at hv
      · rename_i cs hcs
        simp only [Option.some.injEq] at hv
        subst hv
        have h2 := (ttB_ok htt hti).kind
        rw [hk] at h2
        obtain ⟨fs, hu, hfb⟩ := h2
        obtain ⟨inf, hinf, _, _, z, hz, hzc⟩ := (ttB_ok htt hti).info
        obtain ⟨pls, hpls, hple⟩ := run_mapM_places (P := P) trivial hfb W
        obtain ⟨us, hu1, hu2, hu3, hu4⟩ := fill_sound hsem st (places ti) (pls[·]?) hple parts.toList (ti.zero.map ZV.toC) cs (ti.zero.map ZV.toV) hcs (zeros_rel g _) (fun p hp kx hkx => hrd kx (by
          rw [hop]
          refine List.mem_flatMap.2 ⟨p.2, ?_, hkx⟩
          simp only [Op.operands]
          simp only [List.mem_map]
          exact ⟨p, hp, rfl⟩)) (by rw [zeros_mids]; simp)
        refine ⟨hu4, .agg us.toArray, ?_, us, rfl, hu2⟩
        have hzc' : z.cells = (ti.zero.map ZV.toV).toArray := by rw [← Array.toList_inj]; simpa using hzc
        have hexec : execOp a.eval o = (do pure (.value (← Instr.build t (parts.map fun (i, x) => (i, a.eval x))))) := by rw [execOp, hop]
        have hpm : (parts.map fun (i, x) => (i, a.eval x)).toList = parts.toList.map fun p => (p.1, a.eval p.2) := by simp
        have hzv : (zeroValue t).run P W = .ok z W := by simp [zeroValue, typeInfo, hinf, hz]
        have hb : (Instr.build t (parts.map fun (i, x) => (i, a.eval x))).run P W = .ok (.agg us.toArray) W := by
          unfold Instr.build
          rw [Sem.run_bind, hzv]
          simp only [Result.andThen]
          rw [Sem.run_bind, run_underlying hu]
          simp only [Result.andThen]
          rw [Sem.run_bind, hpls]
          simp only [Result.andThen, hpm, hzc', hu1]
          rfl
        rw [hexec, Sem.run_bind, hb]
        rfl
      · simp at hv
    · simp at hv
  · simp at hv

end
end Go.El

/- The engine, part 12: a region, operation by operation. Own work; no condition. -/
namespace Go.El
open Go Go.RowKit

section
variable {P : Program} {tt : TT}

theorem opd_kn (st : St) (x : Operand) : ∀ kx ∈ opd st x, st.kn kx.1 = some kx.2 := by
  intro kx h
  cases x with
  | tmp t =>
    simp only [opd] at h
    split at h
    · rename_i v hv
      simp only [List.mem_singleton] at h
      subst h
      simp [St.kn, hv]
    · simp at h
  | _ => simp [opd] at h

theorem mrd_kn (st : St) (ids : List Nat) : ∀ kx ∈ mrd st ids, st.kn kx.1 = some kx.2 := by
  intro kx h
  obtain ⟨id, _, h⟩ := List.mem_flatMap.1 h
  split at h
  · rename_i b hb
    simp only [List.mem_singleton] at h
    subst h
    simp [St.kn, hb]
  · simp at h

theorem rdV_kn (st : St) (op : Op) : ∀ kx ∈ rdV st op, st.kn kx.1 = some kx.2 := by
  intro kx h
  obtain ⟨x, _, h⟩ := List.mem_flatMap.1 h
  exact opd_kn st x kx h

def St.put (st : St) (d : Nat) (x : AV) : St := { st with sl := (d, x) :: st.sl }
def St.pm (st : St) (id : Nat) (b : Blk) : St := { st with mem := (id, b) :: st.mem }
def delA {α : Type} (t : Nat) : List (Nat × α) → List (Nat × α)
  | [] => []
  | (k, x) :: r => if k = t then delA t r else (k, x) :: delA t r
def St.del (st : St) (d : Nat) : St := { st with sl := delA d st.sl }

theorem lookA_del {α : Type} (t k : Nat) : ∀ l : List (Nat × α), lookA k (delA t l) = if t = k then none else lookA k l
  | [] => by simp [delA, lookA]
  | (j, x) :: r => by
    simp only [delA]
    split
    · rename_i e
      subst e
      rw [lookA_del j k r]
      split
      · rfl
      · rename_i h; simp [lookA, h]
    · rename_i e
      simp only [lookA]
      split
      · rename_i e2
        subst e2
        rw [if_neg (fun h => e h.symm)]
      · exact lookA_del t k r

theorem kn_put (st : St) (d : Nat) (x : AV) : (st.put d x).kn = upd st.kn [(.s d, some (.v x))] := by
  funext k
  cases k with
  | s t =>
    by_cases e : d = t
    · simp [St.kn, St.put, lookA, upd, says, e]
    · simp [St.kn, St.put, lookA, upd, says, e]
  | m id => simp [St.kn, St.put, upd, says]

theorem kn_pm (st : St) (d : Nat) (x : Blk) : (st.pm d x).kn = upd st.kn [(.m d, some (.b x))] := by
  funext k
  cases k with
  | s t => simp [St.kn, St.pm, upd, says]
  | m id =>
    by_cases e : d = id
    · simp [St.kn, St.pm, lookA, upd, says, e]
    · simp [St.kn, St.pm, lookA, upd, says, e]

theorem kn_put_pm (st : St) (d id : Nat) (x : AV) (b : Blk) : ((st.pm id b).put d x).kn = upd st.kn [(.s d, some (.v x)), (.m id, some (.b b))] := by
  funext k
  cases k with
  | s t =>
    by_cases e : d = t
    · simp [St.kn, St.put, St.pm, lookA, upd, says, e]
    · simp [St.kn, St.put, St.pm, lookA, upd, says, e]
  | m j =>
    by_cases e : id = j
    · simp [St.kn, St.put, St.pm, lookA, upd, says, e]
    · simp [St.kn, St.put, St.pm, lookA, upd, says, e]

theorem kn_del (st : St) (d : Nat) : (st.del d).kn = upd st.kn [(.s d, none)] := by
  funext k
  cases k with
  | s t =>
    by_cases e : d = t
    · simp [St.kn, St.del, lookA_del, upd, says, e]
    · simp [St.kn, St.del, lookA_del, upd, says, e]
  | m id => simp [St.kn, St.del, upd, says]

abbrev Ks := List Key × List Key

/-- The slots among the operands. -/
def okeys : List Operand → List Key
  | [] => []
  | .tmp t :: r => .s t :: okeys r
  | _ :: r => okeys r
def mkeys : List Nat → List Key
  | [] => []
  | id :: r => .m id :: mkeys r

theorem okeys_opd (st : St) : ∀ (xs : List Operand), ∀ k ∈ rkeysOf (xs.flatMap (opd st)), k ∈ okeys xs
  | [], k, h => by simp [rkeysOf] at h
  | x :: xs, k, h => by
    simp only [rkeysOf, List.flatMap_cons, List.map_append, List.mem_append] at h
    rcases h with h | h
    · cases x with
      | tmp t =>
        simp only [opd] at h
        split at h
        · simp at h; subst h; simp [okeys]
        · simp at h
      | _ => simp [opd] at h
    · have := okeys_opd st xs k h
      cases x <;> simp [okeys, this]

theorem mkeys_mrd (st : St) : ∀ (ids : List Nat), ∀ k ∈ rkeysOf (mrd st ids), k ∈ mkeys ids
  | [], k, h => by simp [rkeysOf, mrd] at h
  | id :: ids, k, h => by
    simp only [rkeysOf, mrd, List.flatMap_cons, List.map_append, List.mem_append] at h
    rcases h with h | h
    · split at h
      · simp at h; subst h; simp [mkeys]
      · simp at h
    · have := mkeys_mrd st ids k h
      simp [mkeys, this]

/-- One operation without a guard. -/
def step0 (tt : TT) (n new : Nat) (dst : Option Nat) (op : Op) : St → Option (St × Pr × Ks)
  | ⟨sl, mem, nx, gd⟩ => match dst, op with
  | some d, .load t x => if d < n then (match St.ev ⟨sl, mem, nx, gd⟩ x with
      | some v => (match ldA tt ⟨sl, mem, nx, gd⟩ t v with
        | some (y, p, ids) => some (⟨(d, y) :: sl, mem, nx, gd⟩, p, (okeys [x] ++ mkeys ids, [.s d]))
        | none => none)
      | none => none) else none
  | none, .store t x y => (match St.ev ⟨sl, mem, nx, gd⟩ x, St.ev ⟨sl, mem, nx, gd⟩ y with
      | some (.c (.Y id m k 0)), some vy => (match lookA id mem, tySz tt t, cellsAV vy with
        | some (.vec E T xs), some (sz, _), some cs => if T.n = m ∧ sz = m then (match unav T cs with
          | some e => some (⟨sl, (id, .vec E T (xs.set k e)) :: mem, nx, gd⟩, .ltN k xs.length, (okeys [x, y] ++ mkeys [id], [.m id]))
          | none => none) else none
        | _, _, _ => none)
      | some vx, some vy => (match stA tt ⟨sl, mem, nx, gd⟩ t vx vy with
        | some (id, bk) => some (⟨sl, (id, bk) :: mem, nx, gd⟩, .t, (okeys [x, y] ++ mkeys [id], [.m id]))
        | none => none)
      | _, _ => none)
  | some d, .indexAddr t x y => if d < n then (match St.ev ⟨sl, mem, nx, gd⟩ x, St.ev ⟨sl, mem, nx, gd⟩ y with
      | some (.c (.X id)), some vy => (match idxX tt ⟨sl, mem, nx, gd⟩ t id vy with
        | some (v, p) => some (⟨(d, v) :: sl, mem, nx, gd⟩, p, (okeys [x, y] ++ mkeys [id], [.s d]))
        | none => none)
      | some _, some _ => (match evalV tt ⟨sl, mem, nx, gd⟩ (.indexAddr t x y) with
        | some (v, p) => some (⟨(d, v) :: sl, mem, nx, gd⟩, p, (okeys [x, y], [.s d]))
        | none => none)
      | _, _ => none) else none
  | some d, .build t parts => if d < n then (match buildA tt ⟨sl, mem, nx, gd⟩ t parts.toList with
      | some v => some (⟨(d, v) :: sl, mem, nx, gd⟩, .t, (okeys (Op.build t parts).operands.toList, [.s d]))
      | none => none) else none
  | some d, .call ⟨.builtin .len, args, tys⟩ => if d < n then (match args.toList, tys.toList with
      | [x], [t] => (match St.ev ⟨sl, mem, nx, gd⟩ x with
        | some (.c (.X id)) => (match lenX tt ⟨sl, mem, nx, gd⟩ t id with
          | some v => some (⟨(d, v) :: sl, mem, nx, gd⟩, .t, (okeys [x] ++ mkeys [id], [.s d]))
          | none => none)
        | some v => (match lenA tt t v with
          | some u => some (⟨(d, u) :: sl, mem, nx, gd⟩, .t, (okeys [x], [.s d]))
          | none => none)
        | none => none)
      | _, _ => none) else none
  | some d, .box E x => if d < n then (match St.ev ⟨sl, mem, nx, gd⟩ x with
      | some v => (match cellsAV v with
        | some cs => if cs.all okC = true then some (⟨(d, .c (.P new 0)) :: sl, (new, .box E 0 cs) :: mem, nx, gd⟩, .t, (okeys [x], [.s d, .m new])) else none
        | none => none)
      | none => none) else none
  | some d, .alloc E => if d < n then (match lookA E tt with
      | some ti => some (⟨(d, .c (.P new 0)) :: sl, (new, .box E 0 (ti.zero.map ZV.toC)) :: mem, nx, gd⟩, .t, ([], [.s d, .m new]))
      | none => none) else none
  | some d, op => if d < n then (match evalV tt ⟨sl, mem, nx, gd⟩ op with
      | some (x, p) => some (⟨(d, x) :: sl, mem, nx, gd⟩, p, (okeys op.operands.toList, [.s d]))
      | none => none) else none
  | none, _ => none

/-- What a step does, semantically. -/
def StepOk (P : Program) (n : Nat) (ops : Array Oper) (i : Nat) (st st' : St) (new : Nat) (ks : Ks) : Prop :=
  ∃ rd wr, StepS P n ops i rd wr new ∧ (∀ kx ∈ rd, st.kn kx.1 = some kx.2) ∧ st'.kn = upd st.kn wr ∧ (∀ k ∈ rkeysOf rd, k ∈ ks.1) ∧ ∀ k ∈ keysOf wr, k ∈ ks.2

theorem step0_sound (htt : ttB P tt = true) {n new : Nat} {ops : Array Oper} {i : Nat} {o : Oper} (ho : ops[i]? = some o) (hg : o.guard = none) {st st' : St} {p : Pr} {ks : Ks}
    (h : step0 tt n new o.dst o.op st = some (st', p, ks)) (hp : p) : StepOk P n ops i st st' new ks := by
  obtain ⟨sl, mem, nx, gd⟩ := st
  simp only [step0] at h
  split at h
  · rename_i d t x hd hop
    split at h
    · rename_i hdn
      split at h
      · rename_i v hv
        split at h
        · rename_i y q ids hl
          simp only [Option.some.injEq, Prod.mk.injEq] at h
          obtain ⟨rfl, rfl, rfl⟩ := h
          refine ⟨_, _, ld_sound htt ho hg hd hdn hop hv hl hp new, ?_, kn_put ⟨sl, mem, nx, gd⟩ d y, ?_, fun k hk => by simpa [keysOf] using hk⟩
          · intro kx hkx
            rcases List.mem_append.1 hkx with h | h
            · exact opd_kn _ x kx h
            · exact mrd_kn _ ids kx h
          · intro k hk
            simp only [rkeysOf, List.map_append, List.mem_append] at hk
            rcases hk with h | h
            · exact List.mem_append_left _ (okeys_opd ⟨sl, mem, nx, gd⟩ [x] k (by simpa [rkeysOf] using h))
            · exact List.mem_append_right _ (mkeys_mrd ⟨sl, mem, nx, gd⟩ ids k h)
        · simp at h
      · simp at h
    · simp at h
  · rename_i t x y hd hop
    have hkeys : ∀ id k, k ∈ rkeysOf (opd ⟨sl, mem, nx, gd⟩ x ++ opd ⟨sl, mem, nx, gd⟩ y ++ mrd ⟨sl, mem, nx, gd⟩ [id]) → k ∈ okeys [x, y] ++ mkeys [id] := by
      intro id k hk
      simp only [rkeysOf, List.map_append, List.mem_append] at hk
      rcases hk with (h | h) | h
      · exact List.mem_append_left _ (okeys_opd ⟨sl, mem, nx, gd⟩ [x, y] k (by simp only [rkeysOf, List.flatMap_cons, List.map_append, List.mem_append]; exact .inl h))
      · exact List.mem_append_left _ (okeys_opd ⟨sl, mem, nx, gd⟩ [x, y] k (by simp only [rkeysOf, List.flatMap_cons, List.map_append, List.mem_append]; exact .inr (.inl h)))
      · exact List.mem_append_right _ (mkeys_mrd ⟨sl, mem, nx, gd⟩ [id] k h)
    have hreads : ∀ id, ∀ kx ∈ opd ⟨sl, mem, nx, gd⟩ x ++ opd ⟨sl, mem, nx, gd⟩ y ++ mrd ⟨sl, mem, nx, gd⟩ [id], St.kn ⟨sl, mem, nx, gd⟩ kx.1 = some kx.2 := by
      intro id kx hkx
      rcases List.mem_append.1 hkx with h | h
      · rcases List.mem_append.1 h with h | h
        · exact opd_kn _ x kx h
        · exact opd_kn _ y kx h
      · exact mrd_kn _ [id] kx h
    split at h
    · rename_i id m k vy hx hy
      split at h
      · rename_i E T xs sz ag cs hl hts hcs
        split at h
        · rename_i hcond
          split at h
          · rename_i e he
            simp only [Option.some.injEq, Prod.mk.injEq] at h
            obtain ⟨rfl, rfl, rfl⟩ := h
            obtain ⟨h1, h2⟩ := hcond
            subst h2
            have hcs' := unav_eq he
            subst hcs'
            exact ⟨_, _, storeV_sound htt ho hg hd hop hx hy hl h1 hts hcs hp new, hreads id, kn_pm ⟨sl, mem, nx, gd⟩ id _, hkeys id, fun k hk => by simpa [keysOf] using hk⟩
          · simp at h
        · simp at h
      · simp at h
    · rename_i vx vy hx hy
      split at h
      · rename_i id bk hs
        simp only [Option.some.injEq, Prod.mk.injEq] at h
        obtain ⟨rfl, rfl, rfl⟩ := h
        exact ⟨_, _, store_sound htt ho hg hd hop hx hy hs new, hreads id, kn_pm ⟨sl, mem, nx, gd⟩ id bk, hkeys id, fun k hk => by simpa [keysOf] using hk⟩
      · simp at h
    · simp at h
  · rename_i d t x y hd hop
    split at h
    · rename_i hdn
      split at h
      · rename_i id vy hx hy
        split at h
        · rename_i v q he
          simp only [Option.some.injEq, Prod.mk.injEq] at h
          obtain ⟨rfl, rfl, rfl⟩ := h
          refine ⟨_, _, idxX_sound htt ho hg hd hdn hop hx hy he hp new, ?_, kn_put ⟨sl, mem, nx, gd⟩ d _, ?_, fun k hk => by simpa [keysOf] using hk⟩
          · intro kx hkx
            rcases List.mem_append.1 hkx with h | h
            · rcases List.mem_append.1 h with h | h
              · exact opd_kn _ x kx h
              · exact opd_kn _ y kx h
            · exact mrd_kn _ [id] kx h
          · intro k hk
            simp only [rkeysOf, List.map_append, List.mem_append] at hk
            rcases hk with (h | h) | h
            · exact List.mem_append_left _ (okeys_opd ⟨sl, mem, nx, gd⟩ [x, y] k (by simp only [rkeysOf, List.flatMap_cons, List.map_append, List.mem_append]; exact .inl h))
            · exact List.mem_append_left _ (okeys_opd ⟨sl, mem, nx, gd⟩ [x, y] k (by simp only [rkeysOf, List.flatMap_cons, List.map_append, List.mem_append]; exact .inr (.inl h)))
            · exact List.mem_append_right _ (mkeys_mrd ⟨sl, mem, nx, gd⟩ [id] k h)
        · simp at h
      · split at h
        · rename_i v q hx
          simp only [Option.some.injEq, Prod.mk.injEq] at h
          obtain ⟨rfl, rfl, rfl⟩ := h
          refine ⟨_, _, evalV_sound htt ho hg hd hdn (by rw [hop]; exact hx) hp new, rdV_kn _ _, kn_put ⟨sl, mem, nx, gd⟩ _ _, fun k hk => ?_, fun k hk => by simpa [keysOf] using hk⟩
          rw [hop] at hk
          exact okeys_opd ⟨sl, mem, nx, gd⟩ _ k hk
        · simp at h
      · simp at h
    · simp at h
  · rename_i d t parts hd hop
    split at h
    · rename_i hdn
      split at h
      · rename_i v hv
        simp only [Option.some.injEq, Prod.mk.injEq] at h
        obtain ⟨rfl, rfl, rfl⟩ := h
        refine ⟨_, _, build_sound htt ho hg hd hdn hop hv new, rdV_kn _ _, kn_put ⟨sl, mem, nx, gd⟩ _ _, fun k hk => ?_, fun k hk => by simpa [keysOf] using hk⟩
        rw [hop] at hk
        exact okeys_opd ⟨sl, mem, nx, gd⟩ _ k hk
      · simp at h
    · simp at h
  · rename_i d args tys hd hop
    split at h
    · rename_i hdn
      split at h
      · rename_i x t ha ht
        have hargs : args = #[x] := by rw [← Array.toList_inj]; exact ha
        have htys : tys = #[t] := by rw [← Array.toList_inj]; exact ht
        subst hargs htys
        split at h
        · rename_i id hx
          split at h
          · rename_i v he
            simp only [Option.some.injEq, Prod.mk.injEq] at h
            obtain ⟨rfl, rfl, rfl⟩ := h
            refine ⟨_, _, lenX_sound htt ho hg hd hdn hop hx he new, ?_, kn_put ⟨sl, mem, nx, gd⟩ d _, ?_, fun k hk => by simpa [keysOf] using hk⟩
            · intro kx hkx
              rcases List.mem_append.1 hkx with h | h
              · exact opd_kn _ x kx h
              · exact mrd_kn _ [id] kx h
            · intro k hk
              simp only [rkeysOf, List.map_append, List.mem_append] at hk
              rcases hk with h | h
              · exact List.mem_append_left _ (okeys_opd ⟨sl, mem, nx, gd⟩ [x] k (by simpa [rkeysOf] using h))
              · exact List.mem_append_right _ (mkeys_mrd ⟨sl, mem, nx, gd⟩ [id] k h)
          · simp at h
        · rename_i v hx
          split at h
          · rename_i u hu
            simp only [Option.some.injEq, Prod.mk.injEq] at h
            obtain ⟨rfl, rfl, rfl⟩ := h
            refine ⟨_, _, evalV_sound htt ho hg hd hdn (x := u) (p := .t) (st := ⟨sl, mem, nx, gd⟩) (by rw [hop]; simp [evalV, hx, hu]) trivial new, rdV_kn _ _, kn_put ⟨sl, mem, nx, gd⟩ _ _, fun k hk => ?_, fun k hk => by simpa [keysOf] using hk⟩
            rw [hop] at hk
            exact okeys_opd ⟨sl, mem, nx, gd⟩ [x] k hk
          · simp at h
        · simp at h
      · simp at h
    · simp at h
  · rename_i d E x hd hop
    split at h
    · rename_i hdn
      split at h
      · rename_i v hv
        split at h
        · rename_i cs hcs
          split at h
          · rename_i hok
            simp only [Option.some.injEq, Prod.mk.injEq] at h
            obtain ⟨rfl, rfl, rfl⟩ := h
            exact ⟨_, _, box_sound ho hg hd hdn hop hv hcs hok new, opd_kn _ x, kn_put_pm ⟨sl, mem, nx, gd⟩ d new _ _, fun k hk => okeys_opd ⟨sl, mem, nx, gd⟩ [x] k (by simpa [rkeysOf] using hk), fun k hk => by simpa [keysOf] using hk⟩
          · simp at h
        · simp at h
      · simp at h
    · simp at h
  · rename_i d E hd hop
    split at h
    · rename_i hdn
      split at h
      · rename_i ti hti
        simp only [Option.some.injEq, Prod.mk.injEq] at h
        obtain ⟨rfl, rfl, rfl⟩ := h
        exact ⟨_, _, alloc_sound htt ho hg hd hdn hop hti new, by simp, kn_put_pm ⟨sl, mem, nx, gd⟩ d new _ _, by simp [rkeysOf], fun k hk => by simpa [keysOf] using hk⟩
      · simp at h
    · simp at h
  · rename_i d _ hd _ _ _ _ _ _
    split at h
    · rename_i hdn
      split at h
      · rename_i x q hx
        simp only [Option.some.injEq, Prod.mk.injEq] at h
        obtain ⟨rfl, rfl, rfl⟩ := h
        exact ⟨_, _, evalV_sound htt ho hg hd hdn hx hp new, rdV_kn _ _, kn_put ⟨sl, mem, nx, gd⟩ _ x, fun k hk => okeys_opd ⟨sl, mem, nx, gd⟩ _ k hk, fun k hk => by simpa [keysOf] using hk⟩
      · simp at h
    · simp at h
  · simp at h

/-- The slot that a guard looks at. -/
def gslot (opsL : List Oper) (j : Nat) : Option Nat := match opsL[j]? with
  | some o => o.dst
  | none => none

theorem yielded_of {ops : Array Oper} {j tg : Nat} (hj : gslot ops.toList j = some tg) {g : Gh} {a : Act} {b : Bool} (h2 : RelV g (.c (.B b)) (a.tmps.getD tg undef)) : yielded ops a.tmps j = some b := by
  have h3 : a.tmps.getD tg undef = .bool b := h2
  have : (ops[j]?).bind (·.dst) = some tg := by
    unfold gslot at hj
    rw [Array.getElem?_toList] at hj
    cases ho : ops[j]? with
    | none => rw [ho] at hj; simp at hj
    | some o' => rw [ho] at hj; simpa using hj
  unfold yielded
  rw [this]
  rcases Nat.lt_or_ge tg a.tmps.size with hlt | hge
  · have : a.tmps[tg]? = some (.bool b) := by
      rw [Array.getElem?_eq_getElem hlt]
      rw [Array.getD_eq_getD_getElem?, Array.getElem?_eq_getElem hlt] at h3
      simpa using h3
    simp [this]
  · exfalso
    rw [Array.getD_eq_getD_getElem?, Array.getElem?_eq_none hge] at h3
    simp [undef] at h3

/-- A guarded operation whose guard holds goes as one without; one whose guard fails leaves nothing. -/
theorem guard_go {n new : Nat} {ops : Array Oper} {i : Nat} {o : Oper} (ho : ops[i]? = some o) {j : Nat} {want b : Bool} (hg : o.guard = some (j, want)) {tg : Nat} (hj : gslot ops.toList j = some tg) {st st' : St} (hb : lookA tg st.sl = some (.c (.B b))) (hbw : b = want) {ks : Ks}
    (h : StepOk P n (#[{ o with guard := none }]) 0 st st' new ks) : StepOk P n ops i st st' new (.s tg :: ks.1, ks.2) := by
  obtain ⟨rd, wr, hs, hrd, hkn, hk1, hk2⟩ := h
  refine ⟨(.s tg, .v (.c (.B b))) :: rd, wr, ?_, ?_, hkn, fun k hk => ?_, hk2⟩
  · intro F hFn Q known σ g W a K hnew hsem hr hK
    have h1 := hs F hFn Q known σ g W a K hnew hsem (fun kx hkx => hr kx (by simp [hkx])) hK
    have h2 := hsem.slots tg (.c (.B b)) (hr (.s tg, .v (.c (.B b))) (by simp))
    have hw : Region.wanted o (yielded ops a.tmps) = true := by
      simp only [Region.wanted, hg, yielded_of hj h2, hbw, beq_self_eq_true]
    unfold wpOp at h1 ⊢
    simp only [ho, hw, if_true]
    simp only [List.getElem?_toArray, List.getElem?_cons_zero, Region.wanted, if_true] at h1
    exact h1
  · intro kx hkx
    rcases List.mem_cons.1 hkx with rfl | h
    · simp [St.kn, hb]
    · exact hrd kx h
  · simp only [rkeysOf, List.map_cons, List.mem_cons] at hk
    rcases hk with h | h
    · simp [h]
    · exact List.mem_cons_of_mem _ (hk1 k h)

theorem guard_no {n new : Nat} {ops : Array Oper} {i : Nat} {o : Oper} (ho : ops[i]? = some o) {j : Nat} {want b : Bool} (hg : o.guard = some (j, want)) {tg : Nat} (hj : gslot ops.toList j = some tg) {st : St} (hb : lookA tg st.sl = some (.c (.B b))) (hbw : b = !want)
    {d : Nat} (hd : o.dst = some d) : StepOk P n ops i st (st.del d) new ([.s tg], [.s d]) := by
  refine ⟨[(.s tg, .v (.c (.B b)))], [(.s d, none)], ?_, ?_, kn_del st d, fun k hk => by simpa [rkeysOf] using hk, fun k hk => by simpa [keysOf] using hk⟩
  · intro F hFn Q known σ g W a K hnew hsem hr hK
    have h2 := hsem.slots tg (.c (.B b)) (hr (.s tg, .v (.c (.B b))) (by simp))
    have hw : Region.wanted o (yielded ops a.tmps) = false := by
      simp only [Region.wanted, hg, yielded_of hj h2, hbw]
      cases want <;> rfl
    unfold wpOp
    simp only [ho, hw, Bool.false_eq_true, if_false, hd]
    refine hK g W _ (hsem.step (chg := fun _ => False) (g' := g) (W' := W) ⟨⟨FLe.refl _, fun _ _ => rfl⟩, fun _ _ _ => rfl, hsem.sub, Nat.le_refl _, fun _ _ _ => rfl, rfl, rfl, rfl⟩ _ new hnew (by simp [Act.put]) hsem.defers ?_ (fun _ h => h.elim) ?_ ?_ ?_ ?_)
    · intro t ht
      have hne : d ≠ t := by intro e; subst e; simp [says] at ht
      simp [Act.put, Array.getElem?_setIfInBounds_ne hne]
    · intro t u ht; simp only [says] at ht; split at ht <;> simp at ht
    · intro id b ht; simp [says] at ht
    · intro k y ht; simp only [says] at ht; split at ht <;> simp at ht
    · intro id y ht; simp [says] at ht
  · intro kx hkx
    simp only [List.mem_singleton] at hkx
    subst hkx
    simp [St.kn, hb]

/-- One operation, guarded or not. -/
def step1 (tt : TT) (n new : Nat) (opsL : List Oper) (o : Oper) (st : St) : Option (St × Pr × Ks) := match o.guard with
  | none => step0 tt n new o.dst o.op st
  | some (j, want) => (match gslot opsL j with
    | some tg => (match lookA tg st.gd, lookA tg st.sl with
      | some dec, some (.c (.B b)) => if dec = want then (match step0 tt n new o.dst o.op st with
          | some (st', p, ks) => some (st', .an (.eqB b want) p, (.s tg :: ks.1, ks.2))
          | none => none)
        else (match o.dst with
          | some d => some (⟨delA d st.sl, st.mem, st.nx, st.gd⟩, .eqB b (!want), ([.s tg], [.s d]))
          | none => none)
      | _, _ => none)
    | none => none)

theorem step1_sound (htt : ttB P tt = true) {n new : Nat} {ops : Array Oper} {i : Nat} {o : Oper} (ho : ops[i]? = some o) {st st' : St} {p : Pr} {ks : Ks}
    (h : step1 tt n new ops.toList o st = some (st', p, ks)) (hp : p) : StepOk P n ops i st st' new ks := by
  unfold step1 at h
  split at h
  · rename_i hg
    exact step0_sound htt ho hg h hp
  · rename_i j want hg
    split at h
    · rename_i tg hj
      split at h
      · rename_i dec b _ hb
        split at h
        · split at h
          · rename_i st'' q ks' hs
            simp only [Option.some.injEq, Prod.mk.injEq] at h
            obtain ⟨rfl, rfl, rfl⟩ := h
            have hp := Pr.an_h hp
            exact guard_go ho hg hj hb hp.1 (step0_sound htt (o := { o with guard := none }) (by simp) rfl hs hp.2)
          · simp at h
        · split at h
          · rename_i d hd
            simp only [Option.some.injEq, Prod.mk.injEq] at h
            obtain ⟨rfl, rfl, rfl⟩ := h
            exact guard_no ho hg hj hb hp hd
          · simp at h
      · simp at h
    · simp at h

end
end Go.El
