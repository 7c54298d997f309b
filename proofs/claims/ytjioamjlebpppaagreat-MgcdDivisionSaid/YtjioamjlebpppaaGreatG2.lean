/- The engine, part 11: stores into boxes and new boxes, as steps. Own work; no condition. -/
import Derived.KernelRfl
import Derived.Deep.DeepAppendWide
import Derived.Test.YtjioamjlebpppaaGreatG1
set_option linter.unusedVariables false
set_option linter.unusedSimpArgs false
set_option linter.unnecessarySimpa false
namespace Go.El
open Go Go.RowKit
section
variable {P : Program} {tt : TT}
def stA (tt : TT) (st : St) (t : Nat) (x v : AV) : Option (Nat × Blk) := match tySz tt t, x, cellsAV v with
 | some (sz, _), .c (.P id off), some us => (match lookA id st.mem with
  | some (.box E bz cs) => if us.length = sz ∧ off + sz ≤ cs.length ∧ us.all okC = true then some (id, .box E bz (over cs us off)) else none
  | _ => none)
 | _, _, _ => none
theorem midsL_over (cs us : List C) (off : Nat) : ∀ id ∈ midsL (over cs us off), id ∈ midsL cs ∨ id ∈ midsL us := by
 intro id hid
 unfold over at hid
 rcases midsL_append _ _ id hid with h | h
 ·rcases midsL_append _ _ id h with h | h
  ·exact .inl (midsL_take _ _ id h)
  ·exact .inr h
 ·exact .inl (midsL_drop _ _ id h)
theorem Sub_setBlk {H : FH} {W : World} (h : Sub H W) {b : Nat} {vs : List Value} {E : TypeId} (hb : ∀ o, H b o = none) : Sub H (setBlk W b vs E) := by
 intro b' o v hv
 have h1 := h b' o v hv
 by_cases e : b = b'
 ·subst e; rw [hb o] at hv; cases hv
 ·simp only [World.cell?, setBlk_ne e]
  exact h1
theorem over_app {α : Type} (vs rest ws : List α) (off : Nat) (h : off + ws.length ≤ vs.length) : over (vs ++ rest) ws off = over vs ws off ++ rest := by
 unfold over
 rw [List.take_append_of_le_length (by omega), List.drop_append_of_le_length (by omega)]
 simp [List.append_assoc]
theorem store_sound (htt : ttB P tt = true) {ops : Array Oper} {i : Nat} {o : Oper} (ho : ops[i]? = some o) (hg : o.guard = none) (hd : o.dst = none) {n : Nat} {t : TypeId} {x y : Operand} (hop : o.op = .store t x y)
  {st : St} {vx vy : AV} {id : Nat} {bk : Blk} (hx : st.ev x = some vx) (hy : st.ev y = some vy) (he : stA tt st t vx vy = some (id, bk)) (new : Nat) :
  StepS P n ops i (opd st x ++ opd st y ++ mrd st [id]) [(.m id, some (.b bk))] new := by
 intro F hFn Q known σ g W a K hnew hsem hrd hK
 have hrx := ev_rel hsem st x vx hx (fun kx hkx => hrd kx (by simp [hkx]))
 have hry := ev_rel hsem st y vy hy (fun kx hkx => hrd kx (by simp [hkx]))
 have hmy := ev_mids hsem st y vy hy (fun kx hkx => hrd kx (by simp [hkx]))
 unfold stA at he
 split at he
 ·rename_i _ sz ag id' off us hts hcs
  split at he
  ·rename_i E bz cs hl
   split at he
   ·rename_i hcond
    let ⟨h1, h2, h3⟩ := hcond
    simp only [Option.some.injEq, Prod.mk.injEq] at he
    obtain ⟨rfl, rfl⟩ := he
    have hσ : σ (.m id') = some (.b (.box E bz cs)) := hrd (.m id', .b (.box E bz cs)) (by simp [mrd, hl])
    let ⟨b, vs, rest, hγ, hh, hr, hN, hz, hcp⟩ := hsem.blks id' _ hσ
    let ⟨b', hγ', hv⟩ := hrx
    rw [hγ] at hγ'
    simp only [Option.some.injEq] at hγ'
    subst hγ'
    have hone : ∀ c ∈ us, okC c = true := fun c hc => List.all_eq_true.1 h3 c hc
    let ⟨ws, hws, hrw⟩ := cellsAV_rel hcs hry hone
    let ⟨_, ⟨ti, hti, htsz⟩, _⟩ := tySz_ok htt hts
    have hlenw := hrw.length
    have hlenv := hr.length
    have hrun : (Instr.storeAt t (a.eval x) (a.eval y)).run P W = .ok () (setBlk W b (over (vs ++ rest) ws off) E) := by
     rw [hv]
     simp only [Instr.storeAt, Instr.sureAddr, storeVar, Sem.run_bind, Sem.run_pure, Result.andThen, run_sizeOf hti, hws]
     have : ¬ (ws.toArray.size ≠ ti.size) := by simp; omega
     simp only [this, if_false]
     have := run_storeCells (P := P) b ws W (vs ++ rest) off 0 hh (by simp; omega) (hrw.one hone)
     simp only [Nat.add_zero] at this
     simpa using this
    unfold wpOp
    simp only [ho, Region.wanted, hg, if_true]
    refine .inl ?_
    unfold Oper.wp
    have hex : (execOp a.eval o).run P W = .ok .skip (setBlk W b (over (vs ++ rest) ws off) E) := by
     rw [execOp, hop]
     simp [hrun, Sem.run, pure]
    rw [hex]
    simp only [Oper.upon, hd, Act.put]
    have hb : b < W.heap.size := (Array.getElem?_eq_some_iff.1 hh).1
    refine hK g _ a (hsem.step (chg := fun j => j = id') (g' := g) ⟨⟨FLe.refl _, fun _ _ => rfl⟩, fun _ _ _ => rfl, Sub_setBlk hsem.sub hz, by simp [setBlk], ?_, rfl, rfl, rfl⟩ _ new hnew rfl hsem.defers (fun _ _ => rfl) ?_ ?_ ?_ ?_ ?_)
    ·intro k hk hne
     have : b ≠ k := fun e => hne id' rfl (by rw [hγ, e])
     exact setBlk_ne this
    ·intro j hj
     subst hj
     exact ⟨by simp [says], _, hσ⟩
    ·intro t' v' ht; simp [says] at ht
    ·intro j bk hj
     simp only [says] at hj
     split at hj
     ·rename_i e
      simp only [Key.m.injEq] at e
      subst e
      simp only [Option.some.injEq, Info.b.injEq] at hj
      subst hj
      have hov : over (vs ++ rest) ws off = over vs ws off ++ rest := over_app vs rest ws off (by omega)
      exact ⟨⟨b, over vs ws off, rest, hγ, by rw [setBlk_at hb, hov], hr.over hrw off, hN, hz, fun h0 => by
       let ⟨c, e1, e2⟩ := hcp h0
       refine ⟨c, e1, ?_⟩
       rw [← hov, over_length _ _ _ (by simp; omega)]; exact e2⟩, .inl ⟨hsem.mkn _ _ hσ, _, hσ⟩⟩
     ·simp at hj
    ·intro k z hz'
     simp only [says] at hz'
     split at hz'
     ·simp only [Option.some.injEq] at hz'
      subst hz'
      intro j hj
      rcases midsL_over _ _ _ j hj with h | h
      ·exact .inl (hsem.mids _ _ hσ j h)
      ·refine .inl (hmy j ?_)
       cases vy with
       | c q => simp only [cellsAV, Option.some.injEq] at hcs; subst hcs; simpa [midsL, AV.mids] using h
       | a q => simp only [cellsAV, Option.some.injEq] at hcs; subst hcs; exact h
       | t q => simp [cellsAV] at hcs
     ·simp at hz'
    ·intro j z hz'
     simp only [says] at hz'
     split at hz'
     ·rename_i e
      simp only [Key.m.injEq] at e
      subst e
      exact .inl (hsem.mkn _ _ hσ)
     ·simp at hz'
   ·simp at he
  ·simp at he
 ·simp at he
theorem alloc_heap (W : World) (o : Obj) (k : Nat) (h : k < W.heap.size) : (W.heap.push o)[k]? = W.heap[k]? := by
 rw [Array.getElem?_push, if_neg (by omega)]
theorem Sub_push {H : FH} {W : World} (h : Sub H W) (o : Obj) : Sub H { W with heap := W.heap.push o } := by
 intro b off v hv
 have h1 := h b off v hv
 have hb := World.block_lt_of_cell? W _ h1
 simp only [World.cell?] at h1 ⊢
 rw [alloc_heap W o b hb]
 exact h1
theorem newbox_sound {ops : Array Oper} {i : Nat} {o : Oper} {d : Nat} (ho : ops[i]? = some o) (hg : o.guard = none) (hd : o.dst = some d) {n : Nat} (hdn : d < n) {E : TypeId} (rd : List (Key × Info)) (cs : List C) (new : Nat)
  (h : ∀ (F : Fix) (known : Nat → Prop) (σ : Kn) (g : Gh) (W : World) (a : Act), Hold F known σ g W a → (∀ kx ∈ rd, σ kx.1 = some kx.2) →
   (∀ id ∈ midsL cs, known id) ∧ ∃ vs, RelL g cs vs ∧ (execOp a.eval o).run P W = .ok (.value (.pointer (some ⟨W.heap.size, 0, none⟩))) { W with heap := W.heap.push (.cells vs.toArray E (0, 0)) }) :
  StepS P n ops i rd [(.s d, some (.v (.c (.P new 0)))), (.m new, some (.b (.box E 0 cs)))] new := by
 intro F hFn Q known σ g W a K hnew hsem hrd hK
 let ⟨hm, vs, hr, hrun⟩ := h F known σ g W a hsem hrd
 unfold wpOp
 simp only [ho, Region.wanted, hg, if_true]
 refine .inl ?_
 unfold Oper.wp
 rw [hrun]
 simp only [Oper.upon, hd]
 have hsz : d < a.tmps.size := by rw [hsem.size, hFn]; exact hdn
 let g' : Gh := ⟨g.H, fun id => if id = new then .pointer (some ⟨W.heap.size, 0, none⟩) else g.γ id⟩
 have hle : GLe known g g' := ⟨FLe.refl _, fun id hid => by
  have : id ≠ new := fun e => hnew (e ▸ hid)
  simp [g', this]⟩
 have hHnone : ∀ o, g.H W.heap.size o = none := by
  intro o
  cases hv : g.H W.heap.size o with
  | none => rfl
  | some v =>
   have := World.block_lt_of_cell? W _ (hsem.sub _ _ _ hv)
   simp at this
 refine hK g' _ _ (hsem.step (chg := fun _ => False) (g' := g') ⟨hle, fun _ _ _ => rfl, Sub_push hsem.sub _, by simp, fun k hk _ => alloc_heap W _ k hk, rfl, rfl, rfl⟩ _ new hnew (by simp [Act.put]) hsem.defers ?_ (fun _ h => h.elim) ?_ ?_ ?_ ?_)
 ·intro t ht
  have hne : d ≠ t := by intro e; subst e; simp [says] at ht
  simp [Act.put, Array.getElem?_setIfInBounds_ne hne]
 ·intro t u ht
  simp only [says] at ht
  split at ht
  ·rename_i e
   simp only [Key.s.injEq] at e
   simp only [Option.some.injEq, Info.v.injEq] at ht
   subst e; subst ht
   refine ⟨W.heap.size, by simp [g', blk], ?_⟩
   simp [Act.put, hsz]
  ·split at ht
   ·simp at ht
   ·simp at ht
 ·intro id b ht
  simp only [says, reduceCtorEq, if_false] at ht
  split at ht
  ·rename_i e
   simp only [Key.m.injEq] at e
   subst e
   simp only [Option.some.injEq, Info.b.injEq] at ht
   subst ht
   refine ⟨⟨W.heap.size, vs, [], by simp [g', blk], by simp, RelL.mono hle hm hr, .inl hsem.below.size, hHnone, by simp⟩, .inr ⟨rfl, fun k hk => .inl ?_⟩⟩
   simp only [g', if_true, blk, Option.some.injEq] at hk
   omega
  ·simp at ht
 ·intro k y ht
  simp only [says] at ht
  split at ht
  ·simp only [Option.some.injEq] at ht
   subst ht
   intro id hid
   simp [Info.mids, AV.mids, C.mids] at hid
   exact .inr hid
  ·split at ht
   ·simp only [Option.some.injEq] at ht
    subst ht
    exact fun id hid => .inl (hm id hid)
   ·simp at ht
 ·intro id y ht
  simp only [says, reduceCtorEq, if_false] at ht
  split at ht
  ·rename_i e
   simp only [Key.m.injEq] at e
   exact .inr e.symm
  ·simp at ht
theorem box_sound {ops : Array Oper} {i : Nat} {o : Oper} {d : Nat} (ho : ops[i]? = some o) (hg : o.guard = none) (hd : o.dst = some d) {n : Nat} (hdn : d < n) {E : TypeId} {x : Operand} (hop : o.op = .box E x)
  {st : St} {v : AV} {cs : List C} (hx : st.ev x = some v) (hcs : cellsAV v = some cs) (hok : cs.all okC = true) (new : Nat) :
  StepS P n ops i (opd st x) [(.s d, some (.v (.c (.P new 0)))), (.m new, some (.b (.box E 0 cs)))] new := by
 refine newbox_sound ho hg hd hdn _ cs new ?_
 intro F known σ g W a hsem hrd
 have hr := ev_rel hsem st x v hx hrd
 have hm := ev_mids hsem st x v hx hrd
 let ⟨vs, hvs, hrl⟩ := cellsAV_rel hcs hr (fun c hc => List.all_eq_true.1 hok c hc)
 refine ⟨fun id hid => hm id ?_, vs, hrl, ?_⟩
 ·cases v with
  | c q => simp only [cellsAV, Option.some.injEq] at hcs; subst hcs; simpa [midsL, AV.mids] using hid
  | a q => simp only [cellsAV, Option.some.injEq] at hcs; subst hcs; exact hid
  | t q => simp [cellsAV] at hcs
 ·rw [execOp, hop]
  simp [Instr.box, newVar, newRow, newObj, hvs, Sem.run, pure]
theorem zeros_rel (g : Gh) : ∀ zs : List ZV, RelL g (zs.map ZV.toC) (zs.map ZV.toV)
 | [] => rfl
 | z :: zs => ⟨_, _, rfl, by cases z <;> rfl, zeros_rel g zs⟩
theorem alloc_sound (htt : ttB P tt = true) {ops : Array Oper} {i : Nat} {o : Oper} {d : Nat} (ho : ops[i]? = some o) (hg : o.guard = none) (hd : o.dst = some d) {n : Nat} (hdn : d < n) {E : TypeId} (hop : o.op = .alloc E)
  {ti : TI} (hti : lookA E tt = some ti) (new : Nat) :
  StepS P n ops i [] [(.s d, some (.v (.c (.P new 0)))), (.m new, some (.b (.box E 0 (ti.zero.map ZV.toC))))] new := by
 refine newbox_sound ho hg hd hdn _ _ new ?_
 intro F known σ g W a hsem hrd
 let ⟨i', hi, _, _, z, hz, hzc⟩ := (ttB_ok htt hti).info
 refine ⟨?_, ti.zero.map ZV.toV, zeros_rel g _, ?_⟩
 ·intro id hid
  exfalso
  have : ∀ zs : List ZV, midsL (zs.map ZV.toC) = [] := by
   intro zs
   induction zs with
   | nil => rfl
   | cons z zs ih => simp only [List.map_cons, midsL, ih]; cases z <;> rfl
  rw [this] at hid
  cases hid
 ·have hzc' : z.cells = (ti.zero.map ZV.toV).toArray := by rw [← Array.toList_inj]; simpa using hzc
  rw [execOp, hop]
  simp [Instr.alloc, zeroValue, typeInfo, hi, hz, newVar, newRow, newObj, hzc', Sem.run, pure]
end
section
variable {P : Program} {tt : TT}
def idxX (tt : TT) (st : St) (t id : Nat) (i : AV) : Option (AV × Pr) := match lookA id st.mem, i with
 | some (.vec _ T xs), .c (.I _ k) => if slTy tt t T.n then some (.c (.Y id T.n k.toNat 0), .and (.le 0 k) (.lt k xs.length)) else none
 | _, _ => none
theorem idxX_sound (htt : ttB P tt = true) {ops : Array Oper} {i : Nat} {o : Oper} {d : Nat} (ho : ops[i]? = some o) (hg : o.guard = none) (hd : o.dst = some d) {n : Nat} (hdn : d < n) {t : TypeId} {x y : Operand} (hop : o.op = .indexAddr t x y)
  {st : St} {id : Nat} {vy v : AV} {p : Pr} (hx : st.ev x = some (.c (.X id))) (hy : st.ev y = some vy) (he : idxX tt st t id vy = some (v, p)) (hp : p) (new : Nat) :
  StepS P n ops i (opd st x ++ opd st y ++ mrd st [id]) [(.s d, some (.v v))] new := by
 refine stepS_val ho hg hd hdn _ v new ?_
 intro F known σ g W a hsem hrd
 have hrx : a.eval x = g.γ id := ev_rel hsem st x _ hx (fun kx hkx => hrd kx (by simp [hkx]))
 have hry := ev_rel hsem st y vy hy (fun kx hkx => hrd kx (by simp [hkx]))
 have hmx := ev_mids hsem st x _ hx (fun kx hkx => hrd kx (by simp [hkx]))
 unfold idxX at he
 split at he
 ·rename_i E T xs k' k hl
  split at he
  ·rename_i hst
   simp only [Option.some.injEq, Prod.mk.injEq] at he
   obtain ⟨rfl, rfl⟩ := he
   have hσ : σ (.m id) = some (.b (.vec E T xs)) := hrd (.m id, .b (.vec E T xs)) (by simp [mrd, hl])
   let ⟨e, i', hue, hi, hs⟩ := slTy_ok htt hst
   have hry' : a.eval y = .int k' k := hry
   rcases hsem.blks id _ hσ with ⟨_, h0⟩ | ⟨b, cap, vs, hγ, _⟩
   ·subst h0; simp [Pr.h] at hp; omega
   ·refine ⟨fun j hj => hmx j (by simpa [AV.mids, C.mids] using hj), .pointer (some ⟨b, k.toNat * T.n, none⟩), ?_, b, xs.length, cap, hγ, by simp⟩
    have hexec : execOp a.eval o = (do pure (.value (← Instr.indexAt t (a.eval x) (a.eval y)))) := by rw [execOp, hop]
    rw [hexec, hrx, hγ, hry']
    have hcond : (0 ≤ k ∧ k < (xs.length : Int)) := hp
    simp only [Instr.indexAt, asIntOf, Sem.run_bind, run_underlying hue, Result.andThen]
    simp [hcond, run_sizeOf hi, hs, add_none]
  ·simp at he
 ·simp at he
def idxW (tt : TT) (st : St) (t id off len : Nat) (i : AV) : Option (AV × Pr) := match lookA id st.mem, i with
 | some (.vec _ T _), .c (.I _ k) => if T.n = 1 ∧ slTy tt t 1 = true then some (.c (.Y id 1 (off + k.toNat) 0), .and (.le 0 k) (.lt k len)) else none
 | _, _ => none
theorem idxW_sound (htt : ttB P tt = true) {ops : Array Oper} {i : Nat} {o : Oper} {d : Nat} (ho : ops[i]? = some o) (hg : o.guard = none) (hd : o.dst = some d) {n : Nat} (hdn : d < n) {t : TypeId} {x y : Operand} (hop : o.op = .indexAddr t x y)
  {st : St} {id off len : Nat} {vy v : AV} {p : Pr} (hx : st.ev x = some (.c (.W id off len))) (hy : st.ev y = some vy) (he : idxW tt st t id off len vy = some (v, p)) (hp : p) (new : Nat) :
  StepS P n ops i (opd st x ++ opd st y ++ mrd st [id]) [(.s d, some (.v v))] new := by
 refine stepS_val ho hg hd hdn _ v new ?_
 intro F known σ g W a hsem hrd
 let ⟨b0, c0, hb0, hrx, _⟩ := ev_rel hsem st x _ hx (fun kx hkx => hrd kx (by simp [hkx]))
 have hry := ev_rel hsem st y vy hy (fun kx hkx => hrd kx (by simp [hkx]))
 have hmx := ev_mids hsem st x _ hx (fun kx hkx => hrd kx (by simp [hkx]))
 unfold idxW at he
 split at he
 ·rename_i E T xs k' k hl
  split at he
  ·rename_i hst
   simp only [Option.some.injEq, Prod.mk.injEq] at he
   obtain ⟨rfl, rfl⟩ := he
   have hσ : σ (.m id) = some (.b (.vec E T xs)) := hrd (.m id, .b (.vec E T xs)) (by simp [mrd, hl])
   let ⟨e, i', hue, hi, hs⟩ := slTy_ok htt hst.2
   have hry' : a.eval y = .int k' k := hry
   rcases hsem.blks id _ hσ with ⟨hγ, _⟩ | ⟨b, cap, vs, hγ, _⟩
   ·rw [hγ] at hb0; simp [blk] at hb0
   ·rw [hγ] at hb0
    simp only [blk, Option.some.injEq] at hb0
    subst hb0
    refine ⟨fun j hj => hmx j (by simpa [AV.mids, C.mids] using hj), .pointer (some ⟨b, off + k.toNat, none⟩), ?_, b, xs.length, cap, hγ, by simp⟩
    have hexec : execOp a.eval o = (do pure (.value (← Instr.indexAt t (a.eval x) (a.eval y)))) := by rw [execOp, hop]
    rw [hexec, hrx, hry']
    have hcond : (0 ≤ k ∧ k < (len : Int)) := hp
    simp only [Instr.indexAt, asIntOf, Sem.run_bind, run_underlying hue, Result.andThen]
    simp [hcond, run_sizeOf hi, hs, add_none]
  ·simp at he
 ·simp at he
def lenX (tt : TT) (st : St) (t id : Nat) : Option AV := match lookA id st.mem, lookA t tt with
 | some (.vec _ _ xs), some ti => (match ti.kind with | .sl _ => some (.c (.I .i64 xs.length)) | _ => none)
 | _, _ => none
theorem lenX_sound (htt : ttB P tt = true) {ops : Array Oper} {i : Nat} {o : Oper} {d : Nat} (ho : ops[i]? = some o) (hg : o.guard = none) (hd : o.dst = some d) {n : Nat} (hdn : d < n) {t : TypeId} {x : Operand} (hop : o.op = .call ⟨.builtin .len, #[x], #[t]⟩)
  {st : St} {id : Nat} {v : AV} (hx : st.ev x = some (.c (.X id))) (he : lenX tt st t id = some v) (new : Nat) :
  StepS P n ops i (opd st x ++ mrd st [id]) [(.s d, some (.v v))] new := by
 refine stepS_val ho hg hd hdn _ v new ?_
 intro F known σ g W a hsem hrd
 have hrx : a.eval x = g.γ id := ev_rel hsem st x _ hx (fun kx hkx => hrd kx (by simp [hkx]))
 unfold lenX at he
 split at he
 ·rename_i E T xs ti hl ht
  split at he
  ·rename_i e hk
   simp only [Option.some.injEq] at he
   subst he
   have hσ : σ (.m id) = some (.b (.vec E T xs)) := hrd (.m id, .b (.vec E T xs)) (by simp [mrd, hl])
   have h2 := (ttB_ok htt ht).kind
   rw [hk] at h2
   refine ⟨by simp [AV.mids, C.mids], .int .i64 xs.length, ?_, rfl⟩
   rw [execOp, hop]
   rcases hsem.blks id _ hσ with ⟨hγ, h0⟩ | ⟨b, cap, vs, hγ, _⟩
   ·subst h0
    simp [resolve, invoke, builtin, Builtin.len_, hrx, hγ, run_underlying h2, goInt, Sem.run, pure]
   ·simp [resolve, invoke, builtin, Builtin.len_, hrx, hγ, run_underlying h2, goInt, Sem.run, pure]
  ·simp at he
 ·simp at he
def unav (T : ET) : List C → Option T.den := match T with
 | .int k => fun cs => (match cs with | [.I k' n] => if k = k' then some n else none | _ => none)
 | .bool => fun cs => (match cs with | [.B b] => some b | _ => none)
 | _ => fun _ => none
theorem unav_eq {T : ET} {cs : List C} {x : T.den} (h : unav T cs = some x) : cs = av T x := by
 cases T with
 | int k =>
  simp only [unav] at h
  split at h
  ·split at h
   ·rename_i e; subst e; simp at h; subst h; rfl
   ·simp at h
  ·simp at h
 | bool =>
  simp only [unav] at h
  split at h
  ·simp at h; subst h; rfl
  ·simp at h
 | _ => simp [unav] at h
theorem av_okC : ∀ (T : ET) (x : T.den), ∀ c ∈ av T x, okC c = true
 | .int _, _, c, h => by simp [av] at h; subst h; rfl
 | .bool, _, c, h => by simp [av] at h; subst h; rfl
 | .z, _, c, h => by simp [av] at h; rcases h with rfl | rfl <;> rfl
 | .q, _, c, h => by simp [av] at h; rcases h with rfl | rfl | rfl | rfl <;> rfl
 | .sl _, _, c, h => by simp [av] at h; subst h; rfl
 | .pr A B, x, c, h => by
  simp only [av, List.mem_append] at h
  rcases h with h | h
  ·exact av_okC A _ c h
  ·exact av_okC B _ c h
theorem chunk_over_ne {α : Type} (vs us : List α) (n i j : Nat) (hl : us.length = n) (hle : (i + 1) * n ≤ vs.length) (hne : i ≠ j) : ((over vs us (i * n)).drop (j * n)).take n = (vs.drop (j * n)).take n := by
 have hi : (i + 1) * n = i * n + n := by rw [Nat.add_mul, Nat.one_mul]
 apply List.ext_getElem?
 intro k
 rw [List.getElem?_take, List.getElem?_take]
 split
 ·rename_i hk
  rw [List.getElem?_drop, List.getElem?_drop]
  unfold over
  rcases Nat.lt_or_ge j i with hji | hji
  ·have h1 : (j + 1) * n ≤ i * n := Nat.mul_le_mul_right _ hji
   rw [Nat.add_mul, Nat.one_mul] at h1
   rw [List.append_assoc, List.getElem?_append_left (by simp; omega), List.getElem?_take_of_lt (by omega)]
  ·have h1 : (i + 1) * n ≤ j * n := Nat.mul_le_mul_right _ (by omega)
   rw [List.getElem?_append_right (by simp; omega), List.getElem?_drop]
   simp only [List.length_append, List.length_take]
   congr 1
   omega
 ·rfl
theorem chunk_over_eq {α : Type} (vs us : List α) (n i : Nat) (hl : us.length = n) (hle : (i + 1) * n ≤ vs.length) : ((over vs us (i * n)).drop (i * n)).take n = us := by
 have hi : (i + 1) * n = i * n + n := by rw [Nat.add_mul, Nat.one_mul]
 unfold over
 have : (vs.take (i * n)).length = i * n := by simp; omega
 rw [List.append_assoc, List.drop_append_of_le_length (by omega), List.drop_eq_nil_of_le (by omega), List.nil_append, List.take_append_of_le_length (by omega), List.take_of_length_le (by omega)]
theorem storeV_sound (htt : ttB P tt = true) {ops : Array Oper} {i : Nat} {o : Oper} (ho : ops[i]? = some o) (hg : o.guard = none) (hd : o.dst = none) {n : Nat} {t : TypeId} {x y : Operand} (hop : o.op = .store t x y)
  {st : St} {id m k : Nat} {E : TypeId} {T : ET} {xs : List T.den} {vy : AV} (hx : st.ev x = some (.c (.Y id m k 0))) (hy : st.ev y = some vy) (hl : lookA id st.mem = some (.vec E T xs)) (hm : T.n = m) {ag : Bool} (hts : tySz tt t = some (m, ag)) {e : T.den} (hcs : cellsAV vy = some (av T e)) (hk : k < xs.length) (new : Nat) :
  StepS P n ops i (opd st x ++ opd st y ++ mrd st [id]) [(.m id, some (.b (.vec E T (xs.set k e))))] new := by
 intro F hFn Q known σ g W a K hnew hsem hrd hK
 have hrx := ev_rel hsem st x _ hx (fun kx hkx => hrd kx (by simp [hkx]))
 have hry := ev_rel hsem st y vy hy (fun kx hkx => hrd kx (by simp [hkx]))
 have hσ : σ (.m id) = some (.b (.vec E T xs)) := hrd (.m id, .b (.vec E T xs)) (by simp [mrd, hl])
 let ⟨b', l', c', hγ', hv⟩ := hrx
 rcases hsem.blks id _ hσ with ⟨_, h0⟩ | ⟨b, cap, vs, hγ, hh, hvl, hle, hlen, hr, hN, hz⟩
 ·subst h0; simp at hk
 rw [hγ] at hγ'
 simp only [Value.slice.injEq, Option.some.injEq, Addr.mk.injEq, and_true] at hγ'
 obtain ⟨rfl, _, _⟩ := hγ'
 let ⟨ws, hws, hrw⟩ := cellsAV_rel hcs hry (av_okC T e)
 have hwd : RelD g.H T e ws := av_relD T e ws hrw
 have hwl : ws.length = T.n := RelD.length T _ _ hwd
 let ⟨_, ⟨ti, hti, htsz⟩, _⟩ := tySz_ok htt hts
 have hcap : (k + 1) * T.n ≤ vs.length := by rw [hvl]; exact Nat.mul_le_mul_right _ (by omega)
 have hk1 : (k + 1) * T.n = k * T.n + T.n := by rw [Nat.add_mul, Nat.one_mul]
 subst hm
 have hrun : (Instr.storeAt t (a.eval x) (a.eval y)).run P W = .ok () (setBlk W b (over vs ws (k * T.n)) E) := by
  rw [hv]
  simp only [Instr.storeAt, Instr.sureAddr, storeVar, Sem.run_bind, Sem.run_pure, Result.andThen, run_sizeOf hti, hws, Nat.add_zero]
  have : ¬ (ws.toArray.size ≠ ti.size) := by simp; omega
  simp only [this, if_false]
  have := run_storeCells (P := P) b ws W vs (k * T.n) 0 hh (by omega) (hrw.one (av_okC T e))
  simp only [Nat.add_zero] at this
  simpa using this
 unfold wpOp
 simp only [ho, Region.wanted, hg, if_true]
 refine .inl ?_
 unfold Oper.wp
 have hex : (execOp a.eval o).run P W = .ok .skip (setBlk W b (over vs ws (k * T.n)) E) := by
  rw [execOp, hop]
  simp [hrun, Sem.run, pure]
 rw [hex]
 simp only [Oper.upon, hd, Act.put]
 have hb : b < W.heap.size := (Array.getElem?_eq_some_iff.1 hh).1
 refine hK g _ a (hsem.step (chg := fun j => j = id) (g' := g) ⟨⟨FLe.refl _, fun _ _ => rfl⟩, fun _ _ _ => rfl, Sub_setBlk hsem.sub hz, by simp [setBlk], ?_, rfl, rfl, rfl⟩ _ new hnew rfl hsem.defers (fun _ _ => rfl) ?_ ?_ ?_ ?_ ?_)
 ·intro k' hk' hne
  have : b ≠ k' := fun e => hne id rfl (by rw [hγ, e]; rfl)
  exact setBlk_ne this
 ·intro j hj
  subst hj
  exact ⟨by simp [says], _, hσ⟩
 ·intro t' v' ht; simp [says] at ht
 ·intro j bk hj
  simp only [says] at hj
  split at hj
  ·rename_i e'
   simp only [Key.m.injEq] at e'
   subst e'
   simp only [Option.some.injEq, Info.b.injEq] at hj
   subst hj
   refine ⟨.inr ⟨b, cap, over vs ws (k * T.n), by simpa using hγ, setBlk_at hb, ?_, by simpa using hle, by simpa using hlen, fun j hj => ?_, hN, hz⟩, .inl ⟨hsem.mkn _ _ hσ, _, hσ⟩⟩
   ·rw [over_length _ _ _ (by omega)]; exact hvl
   ·simp only [List.length_set] at hj
    rw [List.getElem_set]
    split
    ·rename_i e'; subst e'
     rw [chunk_over_eq vs ws T.n k hwl hcap]
     exact hwd
    ·rename_i e'
     rw [chunk_over_ne vs ws T.n k j hwl hcap e']
     exact hr j hj
  ·simp at hj
 ·intro k' z hz'
  simp only [says] at hz'
  split at hz'
  ·simp only [Option.some.injEq] at hz'
   subst hz'
   intro j hj
   simp [Info.mids, Blk.mids] at hj
  ·simp at hz'
 ·intro j z hz'
  simp only [says] at hz'
  split at hz'
  ·rename_i e'
   simp only [Key.m.injEq] at e'
   subst e'
   exact .inl (hsem.mkn _ _ hσ)
  ·simp at hz'
end
section
variable {P : Program} {tt : TT} {n : Nat}
def fillC (pl : List (Nat × Nat)) (st : St) : List C → List (Nat × Operand) → Option (List C)
 | cs, [] => some cs
 | cs, (i, x) :: r => (match pl[i]?, st.ev x with
  | some (off, sz), some v => (match cellsAV v with
   | some us => if us.length = sz ∧ off + sz ≤ cs.length ∧ us.all okC = true then fillC pl st (over cs us off) r else none
   | none => none)
  | _, _ => none)
theorem foldl_over (us : List Value) : ∀ (vs : List Value) (off k : Nat), off + k + us.length ≤ vs.length → (us.zipIdx k).foldl (fun (cs : Array Value) (p : Value × Nat) => cs.setIfInBounds (off + p.2) p.1) vs.toArray = (over vs us (off + k)).toArray := by
 induction us with
 | nil => intro vs off k _; simp [over]
 | cons u us ih =>
  intro vs off k h
  simp only [List.length_cons] at h
  simp only [List.zipIdx_cons, List.foldl_cons]
  have : vs.toArray.setIfInBounds (off + k) u = (vs.set (off + k) u).toArray := by simp
  rw [this, ih (vs.set (off + k) u) off (k + 1) (by simp; omega)]
  rw [show off + (k + 1) = off + k + 1 by omega, over_cons _ _ _ _ (by omega)]
theorem fill_sound {F : Fix} {known : Nat → Prop} {σ : Kn} {g : Gh} {W : World} {a : Act} (h : Hold F known σ g W a) (st : St) (pl : List (Nat × Nat)) (place : Nat → Option (Nat × Nat)) (hpl : ∀ i x, pl[i]? = some x → place i = some x) :
  ∀ (parts : List (Nat × Operand)) (cs cs' : List C) (vs : List Value), fillC pl st cs parts = some cs' → RelL g cs vs → (∀ p ∈ parts, ∀ kx ∈ opd st p.2, σ kx.1 = some kx.2) → (∀ id ∈ midsL cs, known id) →
   ∃ us : List Value, Instr.fill place vs.toArray (parts.map fun p => (p.1, a.eval p.2)) = some us.toArray ∧ RelL g cs' us ∧ us.length = vs.length ∧ ∀ id ∈ midsL cs', known id
 | [], cs, cs', vs, hf, hr, _, hm => by
  simp only [fillC, Option.some.injEq] at hf
  subst hf
  exact ⟨vs, rfl, hr, rfl, hm⟩
 | (i, x) :: parts, cs, cs', vs, hf, hr, hrd, hm => by
  simp only [fillC] at hf
  split at hf
  ·rename_i off sz v hp hv
   split at hf
   ·rename_i us hus
    split at hf
    ·rename_i hcond
     let ⟨h1, h2, h3⟩ := hcond
     have hrel := ev_rel h st x v hv (hrd (i, x) (by simp))
     have hmid := ev_mids h st x v hv (hrd (i, x) (by simp))
     let ⟨ws, hws, hrw⟩ := cellsAV_rel hus hrel (fun c hc => List.all_eq_true.1 h3 c hc)
     have hl1 := hr.length
     have hl2 := hrw.length
     have hmid' : ∀ id ∈ midsL (over cs us off), known id := by
      intro id hid
      rcases midsL_over _ _ _ id hid with h | h
      ·exact hm id h
      ·refine hmid id ?_
       cases v with
       | c q => simp only [cellsAV, Option.some.injEq] at hus; subst hus; simpa [midsL, AV.mids] using h
       | a q => simp only [cellsAV, Option.some.injEq] at hus; subst hus; exact h
       | t q => simp [cellsAV] at hus
     let ⟨zs, hz1, hz2, hz3, hz4⟩ := fill_sound h st pl place hpl parts (over cs us off) cs' (over vs ws off) hf (hr.over hrw off) (fun p hp => hrd p (by simp [hp])) hmid'
     refine ⟨zs, ?_, hz2, by rw [hz3, over_length _ _ _ (by omega)], hz4⟩
     simp only [List.map_cons, Instr.fill, hpl i _ hp, hws]
     have hc : ¬ ((ws.toArray.size ≠ sz || decide (off + ws.toArray.size > vs.toArray.size)) = true) := by
      simp; omega
     rw [if_neg (by simpa using hc)]
     have := foldl_over ws vs off 0 (by omega)
     simp only [Nat.add_zero] at this
     have e : ws.toArray.zipIdx.foldl (fun (cs : Array Value) (p : Value × Nat) => cs.setIfInBounds (off + p.2) p.1) vs.toArray = (over vs ws off).toArray := by
      rw [← this]
      simp
     rw [← hz1]
     congr 1
    ·simp at hf
   ·simp at hf
  ·simp at hf
def places (ti : TI) : List (Nat × Nat) := ti.fields.map fun f => (f.1, f.2.1)
def buildA (tt : TT) (st : St) (t : Nat) (parts : List (Nat × Operand)) : Option AV := match lookA t tt with
 | some ti => (match ti.kind with
  | .st => (match fillC (places ti) st (ti.zero.map ZV.toC) parts with | some cs => some (.a cs) | none => none)
  | _ => none)
 | none => none
theorem zeros_mids (zs : List ZV) : midsL (zs.map ZV.toC) = [] := by
 induction zs with
 | nil => rfl
 | cons z zs ih => simp only [List.map_cons, midsL, ih]; cases z <;> rfl
theorem run_mapM_places (htt : True) {ti : TI} {fs : Array Field} (hfb : fieldsB P ti.fields fs.toList = true) (W : World) : ∃ pls : Array (Nat × Nat), (fs.mapM fun f => (do pure (f.offset, ← sizeOf f.type) : Go.Sem (Nat × Nat))).run P W = .ok pls W ∧ ∀ (i : Nat) (x : Nat × Nat), (places ti)[i]? = some x → pls[i]? = some x := by
 have key : ∀ (l : List (Nat × Nat × Bool)) (fs : List Field), fieldsB P l fs = true → (fs.mapM fun f => (do pure (f.offset, ← sizeOf f.type) : Go.Sem (Nat × Nat))).run P W = .ok (l.map fun f => (f.1, f.2.1)) W := by
  intro l
  induction l with
  | nil => intro fs h; cases fs with
   | nil => simp [pure]
   | cons f fs => simp [fieldsB] at h
  | cons p l ih =>
   intro fs h
   let ⟨off, sz, ag⟩ := p
   cases fs with
   | nil => simp [fieldsB] at h
   | cons f fs =>
    let ⟨f', hf', e1, ⟨i, hi, hs⟩, _⟩ := fieldsB_get h (k := 0) rfl
    simp only [List.getElem?_cons_zero, Option.some.injEq] at hf'
    subst hf'
    simp only [fieldsB, Bool.and_eq_true] at h
    have := ih fs h.2
    rw [List.mapM_cons]
    simp only [Sem.run_bind, run_sizeOf hi, Result.andThen, Sem.run_pure, this, hs, e1, List.map_cons]
 refine ⟨(places ti).toArray, ?_, fun i x h => by simpa using h⟩
 have hm : fs.mapM (fun f => (do pure (f.offset, ← sizeOf f.type) : Go.Sem (Nat × Nat))) = Functor.map List.toArray (fs.toList.mapM (fun f => (do pure (f.offset, ← sizeOf f.type) : Go.Sem (Nat × Nat)))) := by
  simp [Array.mapM_eq_mapM_toList]
 rw [hm]
 simp only [map_eq_pure_bind, Sem.run_bind, key ti.fields fs.toList hfb, Result.andThen]
 rfl
theorem build_sound (htt : ttB P tt = true) {ops : Array Oper} {i : Nat} {o : Oper} {d : Nat} (ho : ops[i]? = some o) (hg : o.guard = none) (hd : o.dst = some d) {n : Nat} (hdn : d < n) {t : TypeId} {parts : Array (Nat × Operand)} (hop : o.op = .build t parts)
  {st : St} {v : AV} (hv : buildA tt st t parts.toList = some v) (new : Nat) : StepS P n ops i (rdV st o.op) [(.s d, some (.v v))] new := by
 refine stepS_val ho hg hd hdn _ v new ?_
 intro F known σ g W a hsem hrd
 unfold buildA at hv
 split at hv
 ·rename_i ti hti
  split at hv
  ·rename_i hk
   split at hv
   ·rename_i cs hcs
    simp only [Option.some.injEq] at hv
    subst hv
    have h2 := (ttB_ok htt hti).kind
    rw [hk] at h2
    let ⟨fs, hu, hfb⟩ := h2
    let ⟨inf, hinf, _, _, z, hz, hzc⟩ := (ttB_ok htt hti).info
    let ⟨pls, hpls, hple⟩ := run_mapM_places (P := P) trivial hfb W
    let ⟨us, hu1, hu2, hu3, hu4⟩ := fill_sound hsem st (places ti) (pls[·]?) hple parts.toList (ti.zero.map ZV.toC) cs (ti.zero.map ZV.toV) hcs (zeros_rel g _) (fun p hp kx hkx => hrd kx (by
     rw [hop]
     refine List.mem_flatMap.2 ⟨p.2, ?_, hkx⟩
     simp only [Op.operands]
     simp only [List.mem_map]
     exact ⟨p, hp, rfl⟩)) (by rw [zeros_mids]; simp)
    refine ⟨hu4, .agg us.toArray, ?_, us, rfl, hu2⟩
    have hzc' : z.cells = (ti.zero.map ZV.toV).toArray := by rw [← Array.toList_inj]; simpa using hzc
    have hexec : execOp a.eval o = (do pure (.value (← Instr.build t (parts.map fun (i, x) => (i, a.eval x))))) := by rw [execOp, hop]
    have hpm : (parts.map fun (i, x) => (i, a.eval x)).toList = parts.toList.map fun p => (p.1, a.eval p.2) := by simp
    have hzv : (zeroValue t).run P W = .ok z W := by simp [zeroValue, typeInfo, hinf, hz]
    have hb : (Instr.build t (parts.map fun (i, x) => (i, a.eval x))).run P W = .ok (.agg us.toArray) W := by
     unfold Instr.build
     rw [Sem.run_bind, hzv]
     simp only [Result.andThen]
     rw [Sem.run_bind, run_underlying hu]
     simp only [Result.andThen]
     rw [Sem.run_bind, hpls]
     simp only [Result.andThen, hpm, hzc', hu1]
     rfl
    rw [hexec, Sem.run_bind, hb]
    rfl
   ·simp at hv
  ·simp at hv
 ·simp at hv
end
section
variable {P : Program} {tt : TT}
theorem opd_kn (st : St) (x : Operand) : ∀ kx ∈ opd st x, st.kn kx.1 = some kx.2 := by
 intro kx h
 cases x with
 | tmp t =>
  simp only [opd] at h
  split at h
  ·rename_i v hv
   simp only [List.mem_singleton] at h
   subst h
   simp [St.kn, hv]
  ·simp at h
 | _ => simp [opd] at h
theorem mrd_kn (st : St) (ids : List Nat) : ∀ kx ∈ mrd st ids, st.kn kx.1 = some kx.2 := by
 intro kx h
 let ⟨id, _, h⟩ := List.mem_flatMap.1 h
 split at h
 ·rename_i b hb
  simp only [List.mem_singleton] at h
  subst h
  simp [St.kn, hb]
 ·simp at h
theorem rdV_kn (st : St) (op : Op) : ∀ kx ∈ rdV st op, st.kn kx.1 = some kx.2 := by
 intro kx h
 let ⟨x, _, h⟩ := List.mem_flatMap.1 h
 exact opd_kn st x kx h
def St.put (st : St) (d : Nat) (x : AV) : St := { st with sl := (d, x) :: st.sl }
def St.pm (st : St) (id : Nat) (b : Blk) : St := { st with mem := (id, b) :: st.mem }
def delA {α : Type} (t : Nat) : List (Nat × α) → List (Nat × α)
 | [] => []
 | (k, x) :: r => if k = t then delA t r else (k, x) :: delA t r
def St.del (st : St) (d : Nat) : St := { st with sl := delA d st.sl }
theorem lookA_del {α : Type} (t k : Nat) : ∀ l : List (Nat × α), lookA k (delA t l) = if t = k then none else lookA k l
 | [] => by simp [delA, lookA]
 | (j, x) :: r => by
  simp only [delA]
  split
  ·rename_i e
   subst e
   rw [lookA_del j k r]
   split
   ·rfl
   ·rename_i h; simp [lookA, h]
  ·rename_i e
   simp only [lookA]
   split
   ·rename_i e2
    subst e2
    rw [if_neg (fun h => e h.symm)]
   ·exact lookA_del t k r
theorem kn_put (st : St) (d : Nat) (x : AV) : (st.put d x).kn = upd st.kn [(.s d, some (.v x))] := by
 funext k
 cases k with
 | s t =>
  by_cases e : d = t
  ·simp [St.kn, St.put, lookA, upd, says, e]
  ·simp [St.kn, St.put, lookA, upd, says, e]
 | m id => simp [St.kn, St.put, upd, says]
theorem kn_pm (st : St) (d : Nat) (x : Blk) : (st.pm d x).kn = upd st.kn [(.m d, some (.b x))] := by
 funext k
 cases k with
 | s t => simp [St.kn, St.pm, upd, says]
 | m id =>
  by_cases e : d = id
  ·simp [St.kn, St.pm, lookA, upd, says, e]
  ·simp [St.kn, St.pm, lookA, upd, says, e]
theorem kn_put_pm (st : St) (d id : Nat) (x : AV) (b : Blk) : ((st.pm id b).put d x).kn = upd st.kn [(.s d, some (.v x)), (.m id, some (.b b))] := by
 funext k
 cases k with
 | s t =>
  by_cases e : d = t
  ·simp [St.kn, St.put, St.pm, lookA, upd, says, e]
  ·simp [St.kn, St.put, St.pm, lookA, upd, says, e]
 | m j =>
  by_cases e : id = j
  ·simp [St.kn, St.put, St.pm, lookA, upd, says, e]
  ·simp [St.kn, St.put, St.pm, lookA, upd, says, e]
theorem kn_del (st : St) (d : Nat) : (st.del d).kn = upd st.kn [(.s d, none)] := by
 funext k
 cases k with
 | s t =>
  by_cases e : d = t
  ·simp [St.kn, St.del, lookA_del, upd, says, e]
  ·simp [St.kn, St.del, lookA_del, upd, says, e]
 | m id => simp [St.kn, St.del, upd, says]
abbrev Ks := List Key × List Key
def okeys : List Operand → List Key
 | [] => []
 | .tmp t :: r => .s t :: okeys r
 | _ :: r => okeys r
def mkeys : List Nat → List Key
 | [] => []
 | id :: r => .m id :: mkeys r
theorem okeys_opd (st : St) : ∀ (xs : List Operand), ∀ k ∈ rkeysOf (xs.flatMap (opd st)), k ∈ okeys xs
 | [], k, h => by simp [rkeysOf] at h
 | x :: xs, k, h => by
  simp only [rkeysOf, List.flatMap_cons, List.map_append, List.mem_append] at h
  rcases h with h | h
  ·cases x with
   | tmp t =>
    simp only [opd] at h
    split at h
    ·simp at h; subst h; simp [okeys]
    ·simp at h
   | _ => simp [opd] at h
  ·have := okeys_opd st xs k h
   cases x <;> simp [okeys, this]
theorem mkeys_mrd (st : St) : ∀ (ids : List Nat), ∀ k ∈ rkeysOf (mrd st ids), k ∈ mkeys ids
 | [], k, h => by simp [rkeysOf, mrd] at h
 | id :: ids, k, h => by
  simp only [rkeysOf, mrd, List.flatMap_cons, List.map_append, List.mem_append] at h
  rcases h with h | h
  ·split at h
   ·simp at h; subst h; simp [mkeys]
   ·simp at h
  ·have := mkeys_mrd st ids k h
   simp [mkeys, this]
def step0 (tt : TT) (n new : Nat) (dst : Option Nat) (op : Op) : St → Option (St × Pr × Ks)
 | ⟨sl, mem, nx, gd⟩ => match dst, op with
 | some d, .load t x => if d < n then (match St.ev ⟨sl, mem, nx, gd⟩ x with
   | some v => (match ldA tt ⟨sl, mem, nx, gd⟩ t v with
    | some (y, p, ids) => some (⟨(d, y) :: sl, mem, nx, gd⟩, p, (okeys [x] ++ mkeys ids, [.s d]))
    | none => none)
   | none => none) else none
 | none, .store t x y => (match St.ev ⟨sl, mem, nx, gd⟩ x, St.ev ⟨sl, mem, nx, gd⟩ y with
   | some (.c (.Y id m k 0)), some vy => (match lookA id mem, tySz tt t, cellsAV vy with
    | some (.vec E T xs), some (sz, _), some cs => if T.n = m ∧ sz = m then (match unav T cs with
     | some e => some (⟨sl, (id, .vec E T (xs.set k e)) :: mem, nx, gd⟩, .ltN k xs.length, (okeys [x, y] ++ mkeys [id], [.m id]))
     | none => none) else none
    | _, _, _ => none)
   | some vx, some vy => (match stA tt ⟨sl, mem, nx, gd⟩ t vx vy with
    | some (id, bk) => some (⟨sl, (id, bk) :: mem, nx, gd⟩, .t, (okeys [x, y] ++ mkeys [id], [.m id]))
    | none => none)
   | _, _ => none)
 | some d, .indexAddr t x y => if d < n then (match St.ev ⟨sl, mem, nx, gd⟩ x, St.ev ⟨sl, mem, nx, gd⟩ y with
   | some (.c (.X id)), some vy => (match idxX tt ⟨sl, mem, nx, gd⟩ t id vy with
    | some (v, p) => some (⟨(d, v) :: sl, mem, nx, gd⟩, p, (okeys [x, y] ++ mkeys [id], [.s d]))
    | none => none)
   | some (.c (.W id off len)), some vy => (match idxW tt ⟨sl, mem, nx, gd⟩ t id off len vy with
    | some (v, p) => some (⟨(d, v) :: sl, mem, nx, gd⟩, p, (okeys [x, y] ++ mkeys [id], [.s d]))
    | none => none)
   | some _, some _ => (match evalV tt ⟨sl, mem, nx, gd⟩ (.indexAddr t x y) with
    | some (v, p) => some (⟨(d, v) :: sl, mem, nx, gd⟩, p, (okeys [x, y], [.s d]))
    | none => none)
   | _, _ => none) else none
 | some d, .build t parts => if d < n then (match buildA tt ⟨sl, mem, nx, gd⟩ t parts.toList with
   | some v => some (⟨(d, v) :: sl, mem, nx, gd⟩, .t, (okeys (Op.build t parts).operands.toList, [.s d]))
   | none => none) else none
 | some d, .call ⟨.builtin .len, args, tys⟩ => if d < n then (match args.toList, tys.toList with
   | [x], [t] => (match St.ev ⟨sl, mem, nx, gd⟩ x with
    | some (.c (.X id)) => (match lenX tt ⟨sl, mem, nx, gd⟩ t id with
     | some v => some (⟨(d, v) :: sl, mem, nx, gd⟩, .t, (okeys [x] ++ mkeys [id], [.s d]))
     | none => none)
    | some v => (match lenA tt t v with
     | some u => some (⟨(d, u) :: sl, mem, nx, gd⟩, .t, (okeys [x], [.s d]))
     | none => none)
    | none => none)
   | _, _ => none) else none
 | some d, .box E x => if d < n then (match St.ev ⟨sl, mem, nx, gd⟩ x with
   | some v => (match cellsAV v with
    | some cs => if cs.all okC = true then some (⟨(d, .c (.P new 0)) :: sl, (new, .box E 0 cs) :: mem, nx, gd⟩, .t, (okeys [x], [.s d, .m new])) else none
    | none => none)
   | none => none) else none
 | some d, .alloc E => if d < n then (match lookA E tt with
   | some ti => some (⟨(d, .c (.P new 0)) :: sl, (new, .box E 0 (ti.zero.map ZV.toC)) :: mem, nx, gd⟩, .t, ([], [.s d, .m new]))
   | none => none) else none
 | some d, op => if d < n then (match evalV tt ⟨sl, mem, nx, gd⟩ op with
   | some (x, p) => some (⟨(d, x) :: sl, mem, nx, gd⟩, p, (okeys op.operands.toList, [.s d]))
   | none => none) else none
 | none, _ => none
def StepOk (P : Program) (n : Nat) (ops : Array Oper) (i : Nat) (st st' : St) (new : Nat) (ks : Ks) : Prop :=
 ∃ rd wr, StepS P n ops i rd wr new ∧ (∀ kx ∈ rd, st.kn kx.1 = some kx.2) ∧ st'.kn = upd st.kn wr ∧ (∀ k ∈ rkeysOf rd, k ∈ ks.1) ∧ ∀ k ∈ keysOf wr, k ∈ ks.2
theorem step0_sound (htt : ttB P tt = true) {n new : Nat} {ops : Array Oper} {i : Nat} {o : Oper} (ho : ops[i]? = some o) (hg : o.guard = none) {st st' : St} {p : Pr} {ks : Ks}
  (h : step0 tt n new o.dst o.op st = some (st', p, ks)) (hp : p) : StepOk P n ops i st st' new ks := by
 let ⟨sl, mem, nx, gd⟩ := st
 simp only [step0] at h
 split at h
 ·rename_i d t x hd hop
  split at h
  ·rename_i hdn
   split at h
   ·rename_i v hv
    split at h
    ·rename_i y q ids hl
     simp only [Option.some.injEq, Prod.mk.injEq] at h
     obtain ⟨rfl, rfl, rfl⟩ := h
     refine ⟨_, _, ld_sound htt ho hg hd hdn hop hv hl hp new, ?_, kn_put ⟨sl, mem, nx, gd⟩ d y, ?_, fun k hk => by simpa [keysOf] using hk⟩
     ·intro kx hkx
      rcases List.mem_append.1 hkx with h | h
      ·exact opd_kn _ x kx h
      ·exact mrd_kn _ ids kx h
     ·intro k hk
      simp only [rkeysOf, List.map_append, List.mem_append] at hk
      rcases hk with h | h
      ·exact List.mem_append_left _ (okeys_opd ⟨sl, mem, nx, gd⟩ [x] k (by simpa [rkeysOf] using h))
      ·exact List.mem_append_right _ (mkeys_mrd ⟨sl, mem, nx, gd⟩ ids k h)
    ·simp at h
   ·simp at h
  ·simp at h
 ·rename_i t x y hd hop
  have hkeys : ∀ id k, k ∈ rkeysOf (opd ⟨sl, mem, nx, gd⟩ x ++ opd ⟨sl, mem, nx, gd⟩ y ++ mrd ⟨sl, mem, nx, gd⟩ [id]) → k ∈ okeys [x, y] ++ mkeys [id] := by
   intro id k hk
   simp only [rkeysOf, List.map_append, List.mem_append] at hk
   rcases hk with (h | h) | h
   ·exact List.mem_append_left _ (okeys_opd ⟨sl, mem, nx, gd⟩ [x, y] k (by simp only [rkeysOf, List.flatMap_cons, List.map_append, List.mem_append]; exact .inl h))
   ·exact List.mem_append_left _ (okeys_opd ⟨sl, mem, nx, gd⟩ [x, y] k (by simp only [rkeysOf, List.flatMap_cons, List.map_append, List.mem_append]; exact .inr (.inl h)))
   ·exact List.mem_append_right _ (mkeys_mrd ⟨sl, mem, nx, gd⟩ [id] k h)
  have hreads : ∀ id, ∀ kx ∈ opd ⟨sl, mem, nx, gd⟩ x ++ opd ⟨sl, mem, nx, gd⟩ y ++ mrd ⟨sl, mem, nx, gd⟩ [id], St.kn ⟨sl, mem, nx, gd⟩ kx.1 = some kx.2 := by
   intro id kx hkx
   rcases List.mem_append.1 hkx with h | h
   ·rcases List.mem_append.1 h with h | h
    ·exact opd_kn _ x kx h
    ·exact opd_kn _ y kx h
   ·exact mrd_kn _ [id] kx h
  split at h
  ·rename_i id m k vy hx hy
   split at h
   ·rename_i E T xs sz ag cs hl hts hcs
    split at h
    ·rename_i hcond
     split at h
     ·rename_i e he
      simp only [Option.some.injEq, Prod.mk.injEq] at h
      obtain ⟨rfl, rfl, rfl⟩ := h
      let ⟨h1, h2⟩ := hcond
      subst h2
      have hcs' := unav_eq he
      subst hcs'
      exact ⟨_, _, storeV_sound htt ho hg hd hop hx hy hl h1 hts hcs hp new, hreads id, kn_pm ⟨sl, mem, nx, gd⟩ id _, hkeys id, fun k hk => by simpa [keysOf] using hk⟩
     ·simp at h
    ·simp at h
   ·simp at h
  ·rename_i vx vy hx hy
   split at h
   ·rename_i id bk hs
    simp only [Option.some.injEq, Prod.mk.injEq] at h
    obtain ⟨rfl, rfl, rfl⟩ := h
    exact ⟨_, _, store_sound htt ho hg hd hop hx hy hs new, hreads id, kn_pm ⟨sl, mem, nx, gd⟩ id bk, hkeys id, fun k hk => by simpa [keysOf] using hk⟩
   ·simp at h
  ·simp at h
 ·rename_i d t x y hd hop
  split at h
  ·rename_i hdn
   split at h
   ·rename_i id vy hx hy
    split at h
    ·rename_i v q he
     simp only [Option.some.injEq, Prod.mk.injEq] at h
     obtain ⟨rfl, rfl, rfl⟩ := h
     refine ⟨_, _, idxX_sound htt ho hg hd hdn hop hx hy he hp new, ?_, kn_put ⟨sl, mem, nx, gd⟩ d _, ?_, fun k hk => by simpa [keysOf] using hk⟩
     ·intro kx hkx
      rcases List.mem_append.1 hkx with h | h
      ·rcases List.mem_append.1 h with h | h
       ·exact opd_kn _ x kx h
       ·exact opd_kn _ y kx h
      ·exact mrd_kn _ [id] kx h
     ·intro k hk
      simp only [rkeysOf, List.map_append, List.mem_append] at hk
      rcases hk with (h | h) | h
      ·exact List.mem_append_left _ (okeys_opd ⟨sl, mem, nx, gd⟩ [x, y] k (by simp only [rkeysOf, List.flatMap_cons, List.map_append, List.mem_append]; exact .inl h))
      ·exact List.mem_append_left _ (okeys_opd ⟨sl, mem, nx, gd⟩ [x, y] k (by simp only [rkeysOf, List.flatMap_cons, List.map_append, List.mem_append]; exact .inr (.inl h)))
      ·exact List.mem_append_right _ (mkeys_mrd ⟨sl, mem, nx, gd⟩ [id] k h)
    ·simp at h
   ·rename_i id off len vy hx hy
    split at h
    ·rename_i v q he
     simp only [Option.some.injEq, Prod.mk.injEq] at h
     obtain ⟨rfl, rfl, rfl⟩ := h
     refine ⟨_, _, idxW_sound htt ho hg hd hdn hop hx hy he hp new, ?_, kn_put ⟨sl, mem, nx, gd⟩ d _, ?_, fun k hk => by simpa [keysOf] using hk⟩
     ·intro kx hkx
      rcases List.mem_append.1 hkx with h | h
      ·rcases List.mem_append.1 h with h | h
       ·exact opd_kn _ x kx h
       ·exact opd_kn _ y kx h
      ·exact mrd_kn _ [id] kx h
     ·intro k hk
      simp only [rkeysOf, List.map_append, List.mem_append] at hk
      rcases hk with (h | h) | h
      ·exact List.mem_append_left _ (okeys_opd ⟨sl, mem, nx, gd⟩ [x, y] k (by simp only [rkeysOf, List.flatMap_cons, List.map_append, List.mem_append]; exact .inl h))
      ·exact List.mem_append_left _ (okeys_opd ⟨sl, mem, nx, gd⟩ [x, y] k (by simp only [rkeysOf, List.flatMap_cons, List.map_append, List.mem_append]; exact .inr (.inl h)))
      ·exact List.mem_append_right _ (mkeys_mrd ⟨sl, mem, nx, gd⟩ [id] k h)
    ·simp at h
   ·split at h
    ·rename_i v q hx
     simp only [Option.some.injEq, Prod.mk.injEq] at h
     obtain ⟨rfl, rfl, rfl⟩ := h
     refine ⟨_, _, evalV_sound htt ho hg hd hdn (by rw [hop]; exact hx) hp new, rdV_kn _ _, kn_put ⟨sl, mem, nx, gd⟩ _ _, fun k hk => ?_, fun k hk => by simpa [keysOf] using hk⟩
     rw [hop] at hk
     exact okeys_opd ⟨sl, mem, nx, gd⟩ _ k hk
    ·simp at h
   ·simp at h
  ·simp at h
 ·rename_i d t parts hd hop
  split at h
  ·rename_i hdn
   split at h
   ·rename_i v hv
    simp only [Option.some.injEq, Prod.mk.injEq] at h
    obtain ⟨rfl, rfl, rfl⟩ := h
    refine ⟨_, _, build_sound htt ho hg hd hdn hop hv new, rdV_kn _ _, kn_put ⟨sl, mem, nx, gd⟩ _ _, fun k hk => ?_, fun k hk => by simpa [keysOf] using hk⟩
    rw [hop] at hk
    exact okeys_opd ⟨sl, mem, nx, gd⟩ _ k hk
   ·simp at h
  ·simp at h
 ·rename_i d args tys hd hop
  split at h
  ·rename_i hdn
   split at h
   ·rename_i x t ha ht
    have hargs : args = #[x] := by rw [← Array.toList_inj]; exact ha
    have htys : tys = #[t] := by rw [← Array.toList_inj]; exact ht
    subst hargs htys
    split at h
    ·rename_i id hx
     split at h
     ·rename_i v he
      simp only [Option.some.injEq, Prod.mk.injEq] at h
      obtain ⟨rfl, rfl, rfl⟩ := h
      refine ⟨_, _, lenX_sound htt ho hg hd hdn hop hx he new, ?_, kn_put ⟨sl, mem, nx, gd⟩ d _, ?_, fun k hk => by simpa [keysOf] using hk⟩
      ·intro kx hkx
       rcases List.mem_append.1 hkx with h | h
       ·exact opd_kn _ x kx h
       ·exact mrd_kn _ [id] kx h
      ·intro k hk
       simp only [rkeysOf, List.map_append, List.mem_append] at hk
       rcases hk with h | h
       ·exact List.mem_append_left _ (okeys_opd ⟨sl, mem, nx, gd⟩ [x] k (by simpa [rkeysOf] using h))
       ·exact List.mem_append_right _ (mkeys_mrd ⟨sl, mem, nx, gd⟩ [id] k h)
     ·simp at h
    ·rename_i v hx
     split at h
     ·rename_i u hu
      simp only [Option.some.injEq, Prod.mk.injEq] at h
      obtain ⟨rfl, rfl, rfl⟩ := h
      refine ⟨_, _, evalV_sound htt ho hg hd hdn (x := u) (p := .t) (st := ⟨sl, mem, nx, gd⟩) (by rw [hop]; simp [evalV, hx, hu]) trivial new, rdV_kn _ _, kn_put ⟨sl, mem, nx, gd⟩ _ _, fun k hk => ?_, fun k hk => by simpa [keysOf] using hk⟩
      rw [hop] at hk
      exact okeys_opd ⟨sl, mem, nx, gd⟩ [x] k hk
     ·simp at h
    ·simp at h
   ·simp at h
  ·simp at h
 ·rename_i d E x hd hop
  split at h
  ·rename_i hdn
   split at h
   ·rename_i v hv
    split at h
    ·rename_i cs hcs
     split at h
     ·rename_i hok
      simp only [Option.some.injEq, Prod.mk.injEq] at h
      obtain ⟨rfl, rfl, rfl⟩ := h
      exact ⟨_, _, box_sound ho hg hd hdn hop hv hcs hok new, opd_kn _ x, kn_put_pm ⟨sl, mem, nx, gd⟩ d new _ _, fun k hk => okeys_opd ⟨sl, mem, nx, gd⟩ [x] k (by simpa [rkeysOf] using hk), fun k hk => by simpa [keysOf] using hk⟩
     ·simp at h
    ·simp at h
   ·simp at h
  ·simp at h
 ·rename_i d E hd hop
  split at h
  ·rename_i hdn
   split at h
   ·rename_i ti hti
    simp only [Option.some.injEq, Prod.mk.injEq] at h
    obtain ⟨rfl, rfl, rfl⟩ := h
    exact ⟨_, _, alloc_sound htt ho hg hd hdn hop hti new, by simp, kn_put_pm ⟨sl, mem, nx, gd⟩ d new _ _, by simp [rkeysOf], fun k hk => by simpa [keysOf] using hk⟩
   ·simp at h
  ·simp at h
 ·rename_i d _ hd _ _ _ _ _ _
  split at h
  ·rename_i hdn
   split at h
   ·rename_i x q hx
    simp only [Option.some.injEq, Prod.mk.injEq] at h
    obtain ⟨rfl, rfl, rfl⟩ := h
    exact ⟨_, _, evalV_sound htt ho hg hd hdn hx hp new, rdV_kn _ _, kn_put ⟨sl, mem, nx, gd⟩ _ x, fun k hk => okeys_opd ⟨sl, mem, nx, gd⟩ _ k hk, fun k hk => by simpa [keysOf] using hk⟩
   ·simp at h
  ·simp at h
 ·simp at h
def gslot (opsL : List Oper) (j : Nat) : Option Nat := match opsL[j]? with
 | some o => o.dst
 | none => none
theorem yielded_of {ops : Array Oper} {j tg : Nat} (hj : gslot ops.toList j = some tg) {g : Gh} {a : Act} {b : Bool} (h2 : RelV g (.c (.B b)) (a.tmps.getD tg undef)) : yielded ops a.tmps j = some b := by
 have h3 : a.tmps.getD tg undef = .bool b := h2
 have : (ops[j]?).bind (·.dst) = some tg := by
  unfold gslot at hj
  rw [Array.getElem?_toList] at hj
  cases ho : ops[j]? with
  | none => rw [ho] at hj; simp at hj
  | some o' => rw [ho] at hj; simpa using hj
 unfold yielded
 rw [this]
 rcases Nat.lt_or_ge tg a.tmps.size with hlt | hge
 ·have : a.tmps[tg]? = some (.bool b) := by
   rw [Array.getElem?_eq_getElem hlt]
   rw [Array.getD_eq_getD_getElem?, Array.getElem?_eq_getElem hlt] at h3
   simpa using h3
  simp [this]
 ·exfalso
  rw [Array.getD_eq_getD_getElem?, Array.getElem?_eq_none hge] at h3
  simp [undef] at h3
theorem guard_go {n new : Nat} {ops : Array Oper} {i : Nat} {o : Oper} (ho : ops[i]? = some o) {j : Nat} {want b : Bool} (hg : o.guard = some (j, want)) {tg : Nat} (hj : gslot ops.toList j = some tg) {st st' : St} (hb : lookA tg st.sl = some (.c (.B b))) (hbw : b = want) {ks : Ks}
  (h : StepOk P n (#[{ o with guard := none }]) 0 st st' new ks) : StepOk P n ops i st st' new (.s tg :: ks.1, ks.2) := by
 let ⟨rd, wr, hs, hrd, hkn, hk1, hk2⟩ := h
 refine ⟨(.s tg, .v (.c (.B b))) :: rd, wr, ?_, ?_, hkn, fun k hk => ?_, hk2⟩
 ·intro F hFn Q known σ g W a K hnew hsem hr hK
  have h1 := hs F hFn Q known σ g W a K hnew hsem (fun kx hkx => hr kx (by simp [hkx])) hK
  have h2 := hsem.slots tg (.c (.B b)) (hr (.s tg, .v (.c (.B b))) (by simp))
  have hw : Region.wanted o (yielded ops a.tmps) = true := by
   simp only [Region.wanted, hg, yielded_of hj h2, hbw, beq_self_eq_true]
  unfold wpOp at h1 ⊢
  simp only [ho, hw, if_true]
  simp only [List.getElem?_toArray, List.getElem?_cons_zero, Region.wanted, if_true] at h1
  exact h1
 ·intro kx hkx
  rcases List.mem_cons.1 hkx with rfl | h
  ·simp [St.kn, hb]
  ·exact hrd kx h
 ·simp only [rkeysOf, List.map_cons, List.mem_cons] at hk
  rcases hk with h | h
  ·simp [h]
  ·exact List.mem_cons_of_mem _ (hk1 k h)
theorem guard_no {n new : Nat} {ops : Array Oper} {i : Nat} {o : Oper} (ho : ops[i]? = some o) {j : Nat} {want b : Bool} (hg : o.guard = some (j, want)) {tg : Nat} (hj : gslot ops.toList j = some tg) {st : St} (hb : lookA tg st.sl = some (.c (.B b))) (hbw : b = !want)
  {d : Nat} (hd : o.dst = some d) : StepOk P n ops i st (st.del d) new ([.s tg], [.s d]) := by
 refine ⟨[(.s tg, .v (.c (.B b)))], [(.s d, none)], ?_, ?_, kn_del st d, fun k hk => by simpa [rkeysOf] using hk, fun k hk => by simpa [keysOf] using hk⟩
 ·intro F hFn Q known σ g W a K hnew hsem hr hK
  have h2 := hsem.slots tg (.c (.B b)) (hr (.s tg, .v (.c (.B b))) (by simp))
  have hw : Region.wanted o (yielded ops a.tmps) = false := by
   simp only [Region.wanted, hg, yielded_of hj h2, hbw]
   cases want <;> rfl
  unfold wpOp
  simp only [ho, hw, Bool.false_eq_true, if_false, hd]
  refine hK g W _ (hsem.step (chg := fun _ => False) (g' := g) (W' := W) ⟨⟨FLe.refl _, fun _ _ => rfl⟩, fun _ _ _ => rfl, hsem.sub, Nat.le_refl _, fun _ _ _ => rfl, rfl, rfl, rfl⟩ _ new hnew (by simp [Act.put]) hsem.defers ?_ (fun _ h => h.elim) ?_ ?_ ?_ ?_)
  ·intro t ht
   have hne : d ≠ t := by intro e; subst e; simp [says] at ht
   simp [Act.put, Array.getElem?_setIfInBounds_ne hne]
  ·intro t u ht; simp only [says] at ht; split at ht <;> simp at ht
  ·intro id b ht; simp [says] at ht
  ·intro k y ht; simp only [says] at ht; split at ht <;> simp at ht
  ·intro id y ht; simp [says] at ht
 ·intro kx hkx
  simp only [List.mem_singleton] at hkx
  subst hkx
  simp [St.kn, hb]
theorem guard_any {n new : Nat} {ops : Array Oper} {i : Nat} {o : Oper} (ho : ops[i]? = some o) {j : Nat} {want b : Bool} (hg : o.guard = some (j, want)) {tg : Nat} (hj : gslot ops.toList j = some tg) {st : St} (hb : lookA tg st.sl = some (.c (.B b))) (hbw : b = !want)
  {d : Nat} (hd : o.dst = some d) : StepOk P n ops i st (st.put d (.c .any)) new ([.s tg], [.s d]) := by
 refine ⟨[(.s tg, .v (.c (.B b)))], [(.s d, some (.v (.c .any)))], ?_, ?_, kn_put st d _, fun k hk => by simpa [rkeysOf] using hk, fun k hk => by simpa [keysOf] using hk⟩
 ·intro F hFn Q known σ g W a K hnew hsem hr hK
  have h2 := hsem.slots tg (.c (.B b)) (hr (.s tg, .v (.c (.B b))) (by simp))
  have hw : Region.wanted o (yielded ops a.tmps) = false := by
   simp only [Region.wanted, hg, yielded_of hj h2, hbw]
   cases want <;> rfl
  unfold wpOp
  simp only [ho, hw, Bool.false_eq_true, if_false, hd]
  refine hK g W _ (hsem.step (chg := fun _ => False) (g' := g) (W' := W) ⟨⟨FLe.refl _, fun _ _ => rfl⟩, fun _ _ _ => rfl, hsem.sub, Nat.le_refl _, fun _ _ _ => rfl, rfl, rfl, rfl⟩ _ new hnew (by simp [Act.put]) hsem.defers ?_ (fun _ h => h.elim) ?_ ?_ ?_ ?_)
  ·intro t ht
   have hne : d ≠ t := by intro e; subst e; simp [says] at ht
   simp [Act.put, Array.getElem?_setIfInBounds_ne hne]
  ·intro t u ht
   simp only [says] at ht
   split at ht
   ·simp only [Option.some.injEq, Info.v.injEq] at ht
    subst ht
    exact trivial
   ·simp at ht
  ·intro id b ht; simp [says] at ht
  ·intro k y ht
   simp only [says] at ht
   split at ht
   ·simp only [Option.some.injEq] at ht
    subst ht
    intro id hid
    simp [Info.mids, AV.mids, C.mids] at hid
   ·simp at ht
  ·intro id y ht; simp [says] at ht
 ·intro kx hkx
  simp only [List.mem_singleton] at hkx
  subst hkx
  simp [St.kn, hb]
def step1 (tt : TT) (n new : Nat) (opsL : List Oper) (o : Oper) (st : St) : Option (St × Pr × Ks) := match o.guard with
 | none => step0 tt n new o.dst o.op st
 | some (j, want) => (match gslot opsL j with
  | some tg => (match lookA tg st.gd, lookA tg st.sl with
   | some dec, some (.c (.B b)) => if dec = want then (match step0 tt n new o.dst o.op st with
     | some (st', p, ks) => some (st', .an (.eqB b want) p, (.s tg :: ks.1, ks.2))
     | none => none)
    else (match o.dst with
     | some d => some (⟨(d, .c .any) :: st.sl, st.mem, st.nx, st.gd⟩, .eqB b (!want), ([.s tg], [.s d]))
     | none => none)
   | _, _ => none)
  | none => none)
theorem step1_sound (htt : ttB P tt = true) {n new : Nat} {ops : Array Oper} {i : Nat} {o : Oper} (ho : ops[i]? = some o) {st st' : St} {p : Pr} {ks : Ks}
  (h : step1 tt n new ops.toList o st = some (st', p, ks)) (hp : p) : StepOk P n ops i st st' new ks := by
 unfold step1 at h
 split at h
 ·rename_i hg
  exact step0_sound htt ho hg h hp
 ·rename_i j want hg
  split at h
  ·rename_i tg hj
   split at h
   ·rename_i dec b _ hb
    split at h
    ·split at h
     ·rename_i st'' q ks' hs
      simp only [Option.some.injEq, Prod.mk.injEq] at h
      obtain ⟨rfl, rfl, rfl⟩ := h
      have hp := Pr.an_h hp
      exact guard_go ho hg hj hb hp.1 (step0_sound htt (o := { o with guard := none }) (by simp) rfl hs hp.2)
     ·simp at h
    ·split at h
     ·rename_i d hd
      simp only [Option.some.injEq, Prod.mk.injEq] at h
      obtain ⟨rfl, rfl, rfl⟩ := h
      exact guard_any ho hg hj hb hp hd
     ·simp at h
   ·simp at h
  ·simp at h
end
section
variable {P : Program} {tt : TT}
def mask (l : List Edge) (acc : List Nat) : Nat := l.foldl (fun s e => if Region.binds .any e then s ||| 2 ^ e.on ||| acc.getD e.on 0 else s) 0
def masks : List Oper → List Nat → List Nat
 | [], acc => acc
 | o :: os, acc => masks os (acc ++ [mask o.after.toList acc])
def edgesB : List Oper → Nat → Bool
 | [], _ => true
 | o :: os, i => o.after.toList.all (fun e => !Region.binds .any e || decide (e.on < i)) && edgesB os (i + 1)
def meetB (a b : List Key) : Bool := a.any fun k => b.any fun k' => k = k'
def clash (a b : Ks) : Bool := meetB a.2 b.2 || meetB a.2 b.1 || meetB a.1 b.2
def aheadB (m : Nat) (b : Ks) : List Ks → Nat → Bool
 | [], _ => true
 | a :: l, i => (!clash a b || m.testBit i) && aheadB m b l (i + 1)
def pairsB : List Nat → List Ks → List Ks → Bool
 | m :: ms, b :: bs, done => aheadB m b done 0 && pairsB ms bs (done ++ [b])
 | [], [], _ => true
 | _, _, _ => false
def ordB (ops : List Oper) (ks : List Ks) : Bool := edgesB ops 0 && pairsB (masks ops []) ks []
theorem mask_bit {l : List Edge} {acc : List Nat} {j : Nat} (h : (mask l acc).testBit j = true) : ∃ e ∈ l, Region.binds .any e = true ∧ (e.on = j ∨ (acc.getD e.on 0).testBit j = true) := by
 unfold mask at h
 have key : ∀ (l : List Edge) (s : Nat), (l.foldl (fun s e => if Region.binds .any e then s ||| 2 ^ e.on ||| acc.getD e.on 0 else s) s).testBit j = true →
   s.testBit j = true ∨ ∃ e ∈ l, Region.binds .any e = true ∧ (e.on = j ∨ (acc.getD e.on 0).testBit j = true) := by
  intro l
  induction l with
  | nil => intro s h; exact .inl h
  | cons e l ih =>
   intro s h
   simp only [List.foldl_cons] at h
   rcases ih _ h with h | ⟨e', he', h1, h2⟩
   ·split at h
    ·rename_i hb
     simp only [Nat.testBit_or, Bool.or_eq_true, Nat.testBit_two_pow, decide_eq_true_eq] at h
     rcases h with (h | h) | h
     ·exact .inl h
     ·exact .inr ⟨e, by simp, hb, .inl h⟩
     ·exact .inr ⟨e, by simp, hb, .inr h⟩
    ·exact .inl h
   ·exact .inr ⟨e', by simp [he'], h1, h2⟩
 rcases key l 0 h with h | h
 ·simp at h
 ·exact h
theorem masks_spec {ops : Array Oper} : ∀ (os : List Oper) (acc : List Nat), ops.toList = ops.toList.take acc.length ++ os → acc.length + os.length = ops.size →
  (∀ k (hk : k < acc.length) j, acc[k].testBit j = true → Anc ops j k) → (masks os acc).length = ops.size ∧ ∀ k (hk : k < (masks os acc).length) j, (masks os acc)[k].testBit j = true → Anc ops j k
 | [], acc, _, hl, h => by
  simp only [masks]
  exact ⟨by simpa using hl, h⟩
 | o :: os, acc, he, hl, h => by
  have ho : ops[acc.length]? = some o := by
   rw [← Array.getElem?_toList, he, List.getElem?_append_right (by simp; omega)]
   simp only [List.length_take]
   have : min acc.length ops.toList.length = acc.length := by simp; simp at hl; omega
   rw [this]; simp
  simp only [masks]
  refine masks_spec os _ ?_ (by simp at hl ⊢; omega) ?_
  ·have hlen : acc.length < ops.toList.length := by simp; simp at hl; omega
   simp only [List.length_append, List.length_cons, List.length_nil, Nat.zero_add]
   rw [List.take_succ_eq_append_getElem hlen]
   have h2 : ops.toList[acc.length] = o := by
    have := ho
    rw [← Array.getElem?_toList, List.getElem?_eq_getElem hlen] at this
    simpa using this
   rw [h2, List.append_assoc]
   exact he
  ·intro k hk j hj
   rcases Nat.lt_or_ge k acc.length with hlt | hge
   ·rw [List.getElem_append_left hlt] at hj
    exact h k hlt j hj
   ·have : k = acc.length := by simp at hk; omega
    subst this
    simp only [List.getElem_append_right (Nat.le_refl _), Nat.sub_self, List.getElem_cons_zero] at hj
    let ⟨e, he1, hb, hcase⟩ := mask_bit hj
    have hmem : e ∈ o.after := by simpa using he1
    rcases hcase with e1 | e1
    ·exact .one ho hmem hb e1
    ·rcases Nat.lt_or_ge e.on acc.length with h3 | h3
     ·rw [List.getD_eq_getElem?_getD, List.getElem?_eq_getElem h3] at e1
      exact .more ho hmem hb rfl (h e.on h3 j e1)
     ·rw [List.getD_eq_getElem?_getD, List.getElem?_eq_none h3] at e1
      simp at e1
theorem edgesB_spec : ∀ (os : List Oper) (i : Nat), edgesB os i = true → ∀ k o, os[k]? = some o → ∀ e ∈ o.after, Region.binds .any e = true → e.on < i + k
 | [], _, _, k, o, h => by simp at h
 | o :: os, i, hb, 0, o', h => by
  simp only [List.getElem?_cons_zero, Option.some.injEq] at h
  subst h
  simp only [edgesB, Bool.and_eq_true, List.all_eq_true, Bool.or_eq_true, Bool.not_eq_true', decide_eq_true_eq] at hb
  intro e he hbd
  have := hb.1 e (by simpa using he)
  rcases this with h | h
  ·rw [h] at hbd; cases hbd
  ·omega
 | o :: os, i, hb, k + 1, o', h => by
  simp only [List.getElem?_cons_succ] at h
  simp only [edgesB, Bool.and_eq_true] at hb
  intro e he hbd
  have := edgesB_spec os (i + 1) hb.2 k o' h e he hbd
  omega
theorem aheadB_spec {m : Nat} {b : Ks} : ∀ (l : List Ks) (i : Nat), aheadB m b l i = true → ∀ k a, l[k]? = some a → clash a b = true → m.testBit (i + k) = true
 | [], _, _, k, a, h => by simp at h
 | a :: l, i, hb, 0, a', h => by
  simp only [List.getElem?_cons_zero, Option.some.injEq] at h
  subst h
  simp only [aheadB, Bool.and_eq_true, Bool.or_eq_true, Bool.not_eq_true'] at hb
  intro hc
  rcases hb.1 with h | h
  ·rw [h] at hc; cases hc
  ·simpa using h
 | a :: l, i, hb, k + 1, a', h => by
  simp only [List.getElem?_cons_succ] at h
  simp only [aheadB, Bool.and_eq_true] at hb
  intro hc
  have := aheadB_spec l (i + 1) hb.2 k a' h hc
  rw [show i + (k + 1) = i + 1 + k by omega]
  exact this
theorem pairsB_spec : ∀ (ms : List Nat) (bs done : List Ks), pairsB ms bs done = true → ∀ j m b, ms[j]? = some m → bs[j]? = some b → ∀ i a, i < done.length + j → (done ++ bs)[i]? = some a → clash a b = true → m.testBit i = true
 | m :: ms, b :: bs, done, h, 0, m', b', hm, hb => by
  simp only [List.getElem?_cons_zero, Option.some.injEq] at hm hb
  subst hm hb
  simp only [pairsB, Bool.and_eq_true] at h
  intro i a hi ha hc
  rw [List.getElem?_append_left (by omega)] at ha
  have := aheadB_spec done 0 h.1 i a ha hc
  simpa using this
 | m :: ms, b :: bs, done, h, j + 1, m', b', hm, hb => by
  simp only [List.getElem?_cons_succ] at hm hb
  simp only [pairsB, Bool.and_eq_true] at h
  intro i a hi ha hc
  exact pairsB_spec ms bs (done ++ [b]) h.2 j m' b' hm hb i a (by simp; omega) (by simpa using ha) hc
 | [], [], _, _, j, m, b, hm, _ => by simp at hm
 | [], _ :: _, _, h, _, _, _, _, _ => by simp [pairsB] at h
 | _ :: _, [], _, h, _, _, _, _, _ => by simp [pairsB] at h
theorem meetB_of {a b : List Key} {k : Key} (ha : k ∈ a) (hb : k ∈ b) : meetB a b = true := by
 simp only [meetB, List.any_eq_true]
 exact ⟨k, ha, k, hb, by simp⟩
theorem ordB_spec {ops : Array Oper} {ks : List Ks} (h : ordB ops.toList ks = true) : (∀ i o e, ops[i]? = some o → e ∈ o.after → Region.binds .any e = true → e.on < i) ∧
  ∀ i j a b, i < j → j < ops.size → ks[i]? = some a → ks[j]? = some b → clash a b = true → Anc ops i j := by
 simp only [ordB, Bool.and_eq_true] at h
 refine ⟨fun i o e ho he hb => ?_, fun i j a b hij hj ha hb hc => ?_⟩
 ·have := edgesB_spec ops.toList 0 h.1 i o (by rw [Array.getElem?_toList]; exact ho) e he hb
  omega
 ·have hm := masks_spec (ops := ops) ops.toList [] (by simp) (by simp) (fun k hk => by simp at hk)
  have hj' : j < (masks ops.toList []).length := by rw [hm.1]; exact hj
  have hbit := pairsB_spec _ _ [] h.2 j _ b (List.getElem?_eq_getElem hj') hb i a (by simpa using hij) (by simpa using ha) hc
  exact hm.2 j hj' i hbit
def foldD (σ : Kn) (ds : List (List (Key × Info) × List (Key × Option Info))) : Kn := ds.foldl (fun σ d => upd σ d.2) σ
def Covers (ds : List (List (Key × Info) × List (Key × Option Info))) (ks : List Ks) : Prop :=
 ks.length = ds.length ∧ ∀ j (h : j < ds.length) (h' : j < ks.length), (∀ k ∈ rkeysOf ds[j].1, k ∈ ks[j].1) ∧ ∀ k ∈ keysOf ds[j].2, k ∈ ks[j].2
def RG (P : Program) (n : Nat) (ops : Array Oper) (draw : Bool) (nx i : Nat) (os : List Oper) (st : St) (ks : List Ks) (Q : St → Prop) : Prop :=
 ops.toList.drop i = os → ∃ (ds : List (List (Key × Info) × List (Key × Option Info))) (st' : St), ds.length = os.length ∧
  (∀ j (h : j < ds.length), StepN P n ops (i + j) ds[j].1 ds[j].2 (famN (fun i => 1000000 * nx + 1000 * i) (i + j))) ∧
  (∀ j (h : j < ds.length), ∀ kx ∈ ds[j].1, foldD st.kn (ds.take j) kx.1 = some kx.2) ∧
  st'.kn = foldD st.kn ds ∧ st'.nx = nx + 1 ∧ ops.size ≤ 1000 ∧ (draw = true → ∃ ks', Covers ds ks' ∧ ordB ops.toList (ks ++ ks') = true) ∧ Q st'
theorem rg_nil {n : Nat} {ops : Array Oper} {draw : Bool} {nx i : Nat} {sl : List (Nat × AV)} {mem : List (Nat × Blk)} {n0 : Nat} {gd : List (Nat × Bool)} {ks : List Ks} {Q : St → Prop} (h : Q ⟨sl, mem, nx + 1, []⟩) (ho : (!draw || ordB ops.toList ks) = true := by kernel_rfl) (hsz : Nat.ble ops.size 1000 = true := by rfl) :
  RG P n ops draw nx i [] ⟨sl, mem, n0, gd⟩ ks Q := by
 intro _
 refine ⟨[], ⟨sl, mem, nx + 1, []⟩, rfl, by simp, by simp, rfl, rfl, Nat.le_of_ble_eq_true hsz, fun hd => ⟨[], ⟨rfl, fun j h => by simp at h⟩, ?_⟩, h⟩
 subst hd
 simpa using ho
theorem rg_ok {n : Nat} {ops : Array Oper} {draw : Bool} {nx i : Nat} {o : Oper} {os : List Oper} {st st1 : St} {ks : List Ks} {k : Ks} {Q : St → Prop}
  (hs : ops[i]? = some o → StepOk P n ops i st st1 (1000000 * nx + 1000 * i) k) (h : RG P n ops draw nx (i + 1) os st1 (ks ++ [k]) Q) : RG P n ops draw nx i (o :: os) st ks Q := by
 intro hdrop
 have ho : ops[i]? = some o := by
  have := congrArg (fun l => l[0]?) hdrop
  simpa [List.getElem?_drop] using this
 have hdrop' : ops.toList.drop (i + 1) = os := by
  rw [← List.drop_drop, hdrop]; rfl
 let ⟨rd, wr, hst, hrd, hkn, hk1, hk2⟩ := hs ho
 let ⟨ds, st', hl, h1, h2, h3, h4, h4', h5, h6⟩ := h hdrop'
 refine ⟨(rd, wr) :: ds, st', by simp [hl], ?_, ?_, ?_, h4, h4', ?_, h6⟩
 ·intro j hj
  cases j with
  | zero => simpa using hst.toN (new := famN (fun i => 1000000 * nx + 1000 * i) i) ⟨Nat.le_refl _, by show 1000000 * nx + 1000 * i < 1000000 * nx + 1000 * (i + 1); omega⟩
  | succ j =>
   have := h1 j (by simpa using hj)
   rw [show i + (j + 1) = i + 1 + j by omega]
   simpa using this
 ·intro j hj kx hkx
  cases j with
  | zero => simp only [List.getElem_cons_zero] at hkx; simpa [foldD] using hrd kx hkx
  | succ j =>
   simp only [List.getElem_cons_succ] at hkx
   have := h2 j (by simpa using hj) kx hkx
   rw [hkn] at this
   simpa [foldD] using this
 ·rw [h3, hkn]; simp [foldD]
 ·intro hd
  let ⟨ks', ⟨hc1, hc2⟩, hord⟩ := h5 hd
  refine ⟨k :: ks', ⟨by simp [hc1], fun j hj hj' => ?_⟩, by simpa using hord⟩
  cases j with
  | zero => exact ⟨hk1, hk2⟩
  | succ j => exact hc2 j (by simpa using hj) (by simpa using hj')
theorem rg_ks {n : Nat} {ops : Array Oper} {nx i : Nat} {os : List Oper} {st : St} {ks ks' : List Ks} {Q : St → Prop} (h : RG P n ops false nx i os st ks' Q) : RG P n ops false nx i os st ks Q := by
 intro hdrop
 let ⟨ds, st', hl, h1, h2, h3, h4, h4', _, h6⟩ := h hdrop
 exact ⟨ds, st', hl, h1, h2, h3, h4, h4', by simp, h6⟩
theorem rg_step {n : Nat} {ops : Array Oper} {draw : Bool} {nx i : Nat} {o : Oper} {os : List Oper} {st st1 : St} {ks : List Ks} {k : Ks} {p : Pr} {Q : St → Prop} (htt : ttB P tt = true)
  (hs : step1 tt n (1000000 * nx + 1000 * i) ops.toList o st = some (st1, p, k)) (hp : p) (h : RG P n ops draw nx (i + 1) os st1 (ks ++ [k]) Q) : RG P n ops draw nx i (o :: os) st ks Q :=
 rg_ok (fun ho => step1_sound htt ho hs hp) h
def addK (draw : Bool) (ks : List Ks) (k : Ks) : List Ks := match draw with
 | true => ks ++ [k]
 | false => []
theorem rg_addK {n : Nat} {ops : Array Oper} {draw : Bool} {nx i : Nat} {os : List Oper} {st : St} {ks : List Ks} {k : Ks} {Q : St → Prop} (h : RG P n ops draw nx i os st (addK draw ks k) Q) : RG P n ops draw nx i os st (ks ++ [k]) Q := by
 cases draw with
 | true => exact h
 | false => exact rg_ks h
def runs (tt : TT) (n nx : Nat) (draw : Bool) (opsL : List Oper) : List Oper → Nat → St → Pr → List Ks → List Oper × Nat × St × Pr × List Ks
 | [], i, st, p, ks => ([], i, st, p, ks)
 | o :: os, i, st, p, ks => match step1 tt n (1000000 * nx + 1000 * i) opsL o st with
  | some (st', q, k) => runs tt n nx draw opsL os (i + 1) st' (.an p q) (addK draw ks k)
  | none => (o :: os, i, st, p, ks)
theorem rg_runs {n : Nat} {ops : Array Oper} {draw : Bool} {nx : Nat} {Q : St → Prop} (htt : ttB P tt = true) : ∀ (os : List Oper) (i : Nat) (st : St) (p : Pr) (ks : List Ks) {os' : List Oper} {i' : Nat} {st' : St} {p' : Pr} {ks' : List Ks},
  runs tt n nx draw ops.toList os i st p ks = (os', i', st', p', ks') → p'.h → (RG P n ops draw nx i' os' st' ks' Q) → p.h ∧ RG P n ops draw nx i os st ks Q
 | [], i, st, p, ks, os', i', st', p', ks', h, hp, hr => by
  simp only [runs, Prod.mk.injEq] at h
  obtain ⟨rfl, rfl, rfl, rfl, rfl⟩ := h
  exact ⟨hp, hr⟩
 | o :: os, i, st, p, ks, os', i', st', p', ks', h, hp, hr => by
  simp only [runs] at h
  split at h
  ·rename_i st1 q k hs
   let ⟨h12, h3⟩ := rg_runs htt os (i + 1) st1 (.an p q) (addK draw ks k) h hp hr
   let ⟨h1, h2⟩ := Pr.an_h h12
   exact ⟨h1, rg_step htt hs h2 (rg_addK h3)⟩
  ·simp only [Prod.mk.injEq] at h
   obtain ⟨rfl, rfl, rfl, rfl, rfl⟩ := h
   exact ⟨hp, hr⟩
theorem rg_run {n : Nat} {ops : Array Oper} {draw : Bool} {nx i : Nat} {os : List Oper} {st : St} {ks : List Ks} {Q : St → Prop} {os' : List Oper} {i' : Nat} {st' : St} {p' : Pr} {ks' : List Ks} (htt : ttB P tt = true)
  (h : runs tt n nx draw ops.toList os i st .t ks = (os', i', st', p', ks')) (hp : p') (hr : RG P n ops draw nx i' os' st' ks' Q) : RG P n ops draw nx i os st ks Q :=
 (rg_runs htt os i st .t ks h hp hr).2
theorem getD_map_range {α : Type} (ds : List α) (d : α) (j : Nat) (h : j < ds.length) : ds.getD j d = ds[j] := by
 rw [List.getD_eq_getElem?_getD, List.getElem?_eq_getElem h]; rfl
theorem fold_range_eq (ds : List (List (Key × Info) × List (Key × Option Info))) (σ : Kn) : ∀ j, j ≤ ds.length → fold (fun i => (ds.getD i ([], [])).2) σ (List.range j) = foldD σ (ds.take j) := by
 intro j
 induction j with
 | zero => intro _; rfl
 | succ j ih =>
  intro hj
  rw [List.range_succ, fold_snoc, ih (by omega), List.take_succ_eq_append_getElem (by omega)]
  simp only [foldD, List.foldl_append, List.foldl_cons, List.foldl_nil]
  rw [getD_map_range ds _ j (by omega)]
def kb (st : St) : Nat → Prop := fun id => id < 1000000 * st.nx
theorem rg_wp {ops : Array Oper} {draw : Bool} {st : St} {Q : St → Prop} {F : Fix} {id : Nat} {R : Exit → Act → World → Prop} (hrd : F.rd = none) (hmx : P.follows .mixedOrders = true) (h : RG P F.n ops draw st.nx 0 ops.toList st [] Q)
  (hQ : ∀ st', Q st' → ∀ g W a, Hold F (kb st') st'.kn g W a → R .normal a W) {g : Gh} {W : World} {a : Act} (h0 : Hold F (kb st) st.kn g W a) : (Code.region id ops draw).wp P R a W := by
 refine (wpIn_fen hrd).1 ?_
 have hnd : ndO F.rd ops := by rw [hrd]; exact ndO_none
 let ⟨ds, st', hl, h1, h2, h3, h4, h4', h5, h6⟩ := h (by simp)
 have hl' : ds.length = ops.size := by simpa using hl
 have hs : ∀ i, i < ops.size → StepN P F.n ops i ((ds.getD i ([], [])).1) ((ds.getD i ([], [])).2) (famN (fun i => 1000000 * st.nx + 1000 * i) i) := by
  intro i hi
  have := h1 i (by omega)
  rw [getD_map_range ds _ i (by omega)]
  simpa using this
 have ht : ∀ i, i < ops.size → ∀ kx ∈ (ds.getD i ([], [])).1, fold (fun i => (ds.getD i ([], [])).2) st.kn (List.range i) kx.1 = some kx.2 := by
  intro i hi kx hkx
  rw [fold_range_eq ds st.kn i (by omega)]
  rw [getD_map_range ds _ i (by omega)] at hkx
  exact h2 i (by omega) kx hkx
 have hfin : ∀ g W a, Hold F (· < 1000000 * st.nx + 1000 * ops.size) (fold (fun i => (ds.getD i ([], [])).2) st.kn (List.range ops.size)) g W a → R .normal a W := by
  intro g W a hh
  refine hQ st' h6 g W a ?_
  rw [h3]
  rw [fold_range_eq ds st.kn ops.size (by omega), List.take_of_length_le (by omega)] at hh
  exact hh.weaken (fun id hid => by simp only [kb, h4]; omega)
 cases draw with
 | false => exact region_text (c := fun i => 1000000 * st.nx + 1000 * i) (fun i => by show 1000000 * st.nx + 1000 * i ≤ 1000000 * st.nx + 1000 * (i + 1); omega) h0 hs ht hfin hnd
 | true =>
  let ⟨ks, ⟨hcl, hcv⟩, hord⟩ := h5 rfl
  have ho := ordB_spec hord
  have hcla : ∀ i j, i < j → j < ops.size → ∀ a b : Ks, (ks[i]? = some a → ks[j]? = some b → clash a b = true → Anc ops i j) := by
   intro i j hij hj a b ha hb hc
   exact ho.2 i j a b hij hj (by simpa using ha) (by simpa using hb) hc
  have hget : ∀ i (hi : i < ops.size), ∃ a, ks[i]? = some a ∧ (∀ k ∈ rkeysOf (ds.getD i ([], [])).1, k ∈ a.1) ∧ ∀ k ∈ keysOf (ds.getD i ([], [])).2, k ∈ a.2 := by
   intro i hi
   have hi1 : i < ks.length := by omega
   refine ⟨ks[i], List.getElem?_eq_getElem hi1, ?_⟩
   rw [getD_map_range ds _ i (by omega)]
   exact hcv i (by omega) hi1
  refine region_any (c := fun i => 1000000 * st.nx + 1000 * i) (fun i => by show 1000000 * st.nx + 1000 * i ≤ 1000000 * st.nx + 1000 * (i + 1); omega) hmx ho.1 h0 hs ht ?_ ?_ ?_ hfin hnd
  ·intro i j hij hj k hk1 hk2
   let ⟨a, ha, _, ha2⟩ := hget i (by omega)
   let ⟨b, hb, _, hb2⟩ := hget j hj
   exact hcla i j hij hj a b ha hb (by simp only [clash, meetB_of (ha2 k hk1) (hb2 k hk2), Bool.true_or])
  ·intro i j hij hj k hk1 hk2
   let ⟨a, ha, _, ha2⟩ := hget i (by omega)
   let ⟨b, hb, hb1, _⟩ := hget j hj
   exact hcla i j hij hj a b ha hb (by simp only [clash, meetB_of (ha2 k hk1) (hb1 k hk2), Bool.true_or, Bool.or_true])
  ·intro i j hij hj k hk1 hk2
   let ⟨a, ha, ha1, _⟩ := hget i (by omega)
   let ⟨b, hb, _, hb2⟩ := hget j hj
   exact hcla i j hij hj a b ha hb (by simp only [clash, meetB_of (ha1 k hk1) (hb2 k hk2), Bool.or_true])
end
def noγ : Nat → Value := fun _ => undef
def RelVs (g : Gh) : List AV → List Value → Prop
 | [], vs => vs = []
 | x :: xs, vs => ∃ v r, vs = v :: r ∧ RelV g x v ∧ RelVs g xs r
def midsVs : List AV → List Nat
 | [] => []
 | x :: xs => x.mids ++ midsVs xs
theorem RelV.noid {g : Gh} {x : AV} {v : Value} (h : RelV g x v) (hm : x.mids = []) {H : FH} (hl : FLe g.H H) (γ : Nat → Value) : RelV ⟨H, γ⟩ x v :=
 RelV.mono (known := fun _ => False) ⟨hl, fun _ h => h.elim⟩ (by simp [hm]) h
theorem RelVs.noid {g : Gh} {γ : Nat → Value} : ∀ {xs : List AV} {vs : List Value}, RelVs g xs vs → midsVs xs = [] → RelVs ⟨g.H, γ⟩ xs vs
 | [], _, h, _ => h
 | x :: xs, _, h, hm => by
  simp only [midsVs, List.append_eq_nil_iff] at hm
  obtain ⟨v, r, rfl, h1, h2⟩ := h
  exact ⟨v, r, rfl, h1.noid hm.1 (FLe.refl _) γ, h2.noid hm.2⟩
def RetP (W : World) (H : FH) (r : AV) (e : Ending) (W' : World) : Prop :=
 ∃ v H', e = .returned v ∧ RelV ⟨H', noγ⟩ r v ∧ FLe H H' ∧ (∀ b o, b < W.heap.size → H' b o = H b o) ∧ Sub H' W' ∧ Below W.heap.size W W'
def callB (P : Program) (f : FuncId) : Bool := match P.funcs[f]? with
 | some fn => fn.name != "runtime.NumGoroutine" && fn.body.isSome
 | none => false
structure FnS (P : Program) (f : FuncId) (args : List AV) (r : AV) : Prop where
 call : callB P f = true
 noid : r.mids = []
 spec : ∀ H W vs, Sub H W → RelVs ⟨H, noγ⟩ args vs → Calls P f vs.toArray W (RetP W H r)
section
variable {P : Program} {tt : TT}
def evs (st : St) : List Operand → Option (List AV)
 | [] => some []
 | x :: xs => match st.ev x, evs st xs with
  | some v, some vs => some (v :: vs)
  | _, _ => none
theorem evs_rel {F : Fix} {known : Nat → Prop} {σ : Kn} {g : Gh} {W : World} {a : Act} (h : Hold F known σ g W a) (st : St) : ∀ (xs : List Operand) (vs : List AV), evs st xs = some vs →
  (∀ kx ∈ xs.flatMap (opd st), σ kx.1 = some kx.2) → RelVs g vs (xs.map a.eval)
 | [], vs, he, _ => by simp only [evs, Option.some.injEq] at he; subst he; rfl
 | x :: xs, vs, he, hr => by
  simp only [evs] at he
  split at he
  ·rename_i v vs' hv hvs
   simp only [Option.some.injEq] at he
   subst he
   refine ⟨_, _, rfl, ev_rel h st x v hv (fun kx hkx => hr kx (by simp [hkx])), evs_rel h st xs vs' hvs (fun kx hkx => hr kx ?_)⟩
   simp only [List.flatMap_cons, List.mem_append]; exact .inr hkx
  ·simp at he
theorem call_ok {n new : Nat} {ops : Array Oper} {i : Nat} {o : Oper} (ho : ops[i]? = some o) (hg : o.guard = none) {d : Nat} (hd : o.dst = some d) (hdn : d < n) {f : FuncId} {args : Array Operand} {tys : Array TypeId} (hop : o.op = .call ⟨.value (.func f), args, tys⟩)
  {st : St} {vs : List AV} {r : AV} (hv : evs st args.toList = some vs) (hm : midsVs vs = []) (hf : FnS P f vs r) : StepOk P n ops i st (st.put d r) new (okeys args.toList, [.s d]) := by
 refine ⟨args.toList.flatMap (opd st), [(.s d, some (.v r))], ?_, ?_, kn_put st d r, okeys_opd st _, fun k hk => by simpa [keysOf] using hk⟩
 ·intro F hFn Q known σ g W a K hnew hsem hrd hK
  have hargs := (evs_rel hsem st _ _ hv hrd).noid (γ := noγ) hm
  have hc := hf.spec g.H W _ hsem.sub hargs
  unfold wpOp
  simp only [ho, Region.wanted, hg, if_true]
  refine .inl ?_
  unfold Oper.wp
  have hex : (execOp a.eval o).run P W = .ok (.enter f (args.map a.eval)) W := by
   have hcb := hf.call
   unfold callB at hcb
   rw [execOp, hop]
   cases hfn : P.funcs[f]? with
   | none => rw [hfn] at hcb; simp at hcb
   | some fn =>
    rw [hfn] at hcb
    simp only [Bool.and_eq_true, bne_iff_ne, ne_eq] at hcb
    have h2 : fn.body ≠ none := by
     intro hb
     rw [hb] at hcb
     simp at hcb
    simp [resolve, Act.eval, Deferred.ofValue, invoke, callFunc, hfn, hcb.1, h2]
  rw [hex]
  simp only [Oper.upon]
  have harr : (args.map a.eval) = (args.toList.map a.eval).toArray := by apply Array.ext'; simp
  rw [harr]
  refine hc.mono ?_
  rintro e W' ⟨v, H', rfl, hrel, hle, hfr, hsub, hbl⟩
  simp only [hd]
  have hsz : d < a.tmps.size := by rw [hsem.size, hFn]; exact hdn
  refine hK ⟨H', g.γ⟩ W' _ (hsem.step (chg := fun _ => False) (g' := ⟨H', g.γ⟩) ⟨⟨hle, fun _ _ => rfl⟩, hfr, hsub, hbl.size, fun k hk _ => hbl.block k hk, hbl.os, hbl.tape, hbl.output⟩ _ new hnew (by simp [Act.put]) hsem.defers ?_ (fun _ h => h.elim) ?_ ?_ ?_ ?_)
  ·intro t ht
   have hne : d ≠ t := by intro e; subst e; simp [says] at ht
   simp [Act.put, Array.getElem?_setIfInBounds_ne hne]
  ·intro t u ht
   simp only [says] at ht
   split at ht
   ·rename_i e
    simp only [Key.s.injEq] at e
    simp only [Option.some.injEq, Info.v.injEq] at ht
    subst e; subst ht
    have := hrel.noid hf.noid (FLe.refl _) g.γ
    simpa [Act.put, hsz] using this
   ·simp at ht
  ·intro id b ht; simp [says] at ht
  ·intro k y ht
   simp only [says] at ht
   split at ht
   ·simp only [Option.some.injEq] at ht
    subst ht
    intro id hid
    have : id ∈ r.mids := hid
    rw [hf.noid] at this
    cases this
   ·simp at ht
  ·intro id y ht; simp [says] at ht
 ·intro kx hkx
  let ⟨x, _, h⟩ := List.mem_flatMap.1 hkx
  exact opd_kn st x kx h
theorem rg_call {n : Nat} {ops : Array Oper} {draw : Bool} {nx i : Nat} {d f : Nat} {args : Array Operand} {tys : Array TypeId} {ty : TypeId} {pos : String} {aft : Array Edge} {os : List Oper} {sl : List (Nat × AV)} {mem : List (Nat × Blk)} {n0 : Nat} {gd : List (Nat × Bool)} {ks : List Ks} {Q : St → Prop} {vs : List AV} {r : AV}
  (hv : evs ⟨sl, mem, n0, gd⟩ args.toList = some vs) (hf : FnS P f vs r) (h : RG P n ops draw nx (i + 1) os ⟨(d, r) :: sl, mem, n0, gd⟩ (addK draw ks (okeys args.toList, [.s d])) Q) (hm : midsVs vs = [] := by rfl) (hdn : Nat.blt d n = true := by rfl) :
  RG P n ops draw nx i (⟨some d, .call ⟨.value (.func f), args, tys⟩, ty, pos, aft, none⟩ :: os) ⟨sl, mem, n0, gd⟩ ks Q :=
 rg_ok (fun ho => call_ok ho rfl rfl (Nat.le_of_ble_eq_true hdn) rfl hv hm hf) (rg_addK h)
theorem rg_callG {n : Nat} {ops : Array Oper} {draw : Bool} {nx i : Nat} {d f : Nat} {args : Array Operand} {tys : Array TypeId} {ty : TypeId} {pos : String} {aft : Array Edge} {j tg : Nat} {want b : Bool} {os : List Oper} {sl : List (Nat × AV)} {mem : List (Nat × Blk)} {n0 : Nat} {gd : List (Nat × Bool)} {ks : List Ks} {Q : St → Prop} {vs : List AV} {r : AV}
  (hj : gslot ops.toList j = some tg) (hb : lookA tg sl = some (.c (.B b))) (hbw : b = want)
  (hv : evs ⟨sl, mem, n0, gd⟩ args.toList = some vs) (hf : FnS P f vs r) (h : RG P n ops draw nx (i + 1) os ⟨(d, r) :: sl, mem, n0, gd⟩ (addK draw ks (.s tg :: okeys args.toList, [.s d])) Q) (hm : midsVs vs = [] := by rfl) (hdn : Nat.blt d n = true := by rfl) :
  RG P n ops draw nx i (⟨some d, .call ⟨.value (.func f), args, tys⟩, ty, pos, aft, some (j, want)⟩ :: os) ⟨sl, mem, n0, gd⟩ ks Q :=
 rg_ok (fun ho => guard_go ho rfl hj hb hbw (call_ok (ops := #[⟨some d, .call ⟨.value (.func f), args, tys⟩, ty, pos, aft, none⟩]) (i := 0) rfl rfl rfl (Nat.le_of_ble_eq_true hdn) rfl hv hm hf)) (rg_addK h)
theorem rg_split {n : Nat} {ops : Array Oper} {draw : Bool} {nx i : Nat} (t : Nat) {b : Bool} {os : List Oper} {sl : List (Nat × AV)} {mem : List (Nat × Blk)} {n0 : Nat} {gd : List (Nat × Bool)} {ks : List Ks} {Q : St → Prop} (hb : lookA t sl = some (.c (.B b)))
  (ht : b = true → RG P n ops draw nx i os ⟨(t, .c (.B true)) :: sl, mem, n0, (t, true) :: gd⟩ ks Q)
  (hf : b = false → RG P n ops draw nx i os ⟨(t, .c (.B false)) :: sl, mem, n0, (t, false) :: gd⟩ ks Q) : RG P n ops draw nx i os ⟨sl, mem, n0, gd⟩ ks Q := by
 have key : ∀ c : Bool, b = c → (⟨(t, .c (.B c)) :: sl, mem, n0, (t, c) :: gd⟩ : St).kn = (⟨sl, mem, n0, gd⟩ : St).kn := by
  intro c e
  subst e
  funext k
  cases k with
  | s t' =>
   by_cases e : t = t'
   ·subst e; simp [St.kn, lookA, hb]
   ·simp [St.kn, lookA, e]
  | m id => rfl
 cases b with
 | true =>
  intro h1
  let ⟨ds, st', r⟩ := ht rfl h1
  rw [key true rfl] at r
  exact ⟨ds, st', r⟩
 | false =>
  intro h1
  let ⟨ds, st', r⟩ := hf rfl h1
  rw [key false rfl] at r
  exact ⟨ds, st', r⟩
structure Fix.pl (F : Fix) (n : Nat) : Prop where
 n : F.n = n
 k0 : F.k0 ≤ 1
 rd : F.rd = none
 ds : F.ds = []
abbrev Post := Fix → Exit → Act → World → Prop
def TR (P : Program) (n : Nat) (c : Code) (st : St) (Q : Post) : Prop := ∀ F : Fix, F.pl n → ∀ g W a, Hold F (kb st) st.kn g W a → c.wp P (Q F) a W
def AtQ (n : Nat) (e : Exit) (st : St) (Q : Post) : Prop := ∀ F : Fix, F.pl n → ∀ g W a, Hold F (kb st) st.kn g W a → Q F e a W
def thenQ (P : Program) (y : Code) (Q : Post) : Post := fun F => Exit.then (fun a W => y.wp P (Q F) a W) (Q F)
def blockQ (id : Nat) (Q : Post) : Post := fun F => Exit.inBlock id (Q F)
def loopQ {α : Type} (stI : α → St) (φ : α → Prop) (μ : α → Nat) (x : α) (Q : Post) : Post := fun F => Exit.then (fun a W => ∃ x' g, φ x' ∧ μ x' < μ x ∧ Hold F (kb (stI x')) (stI x').kn g W a) (Q F)
variable {n : Nat} {Q : Post} {st : St}
theorem tr_seq {x y : Code} (h : TR P n x st (thenQ P y Q)) : TR P n (.seq x y) st Q := fun F hF g W a hh => wp_seq (h F hF g W a hh)
theorem tr_skip (h : AtQ n .normal st Q) : TR P n .skip st Q := fun F hF g W a hh => wp_skip (h F hF g W a hh)
theorem tr_exit {id : Nat} (h : AtQ n (.exit id) st Q) : TR P n (.exit id) st Q := fun F hF g W a hh => wp_exit (h F hF g W a hh)
theorem tr_ret (h : AtQ n .ret st Q) : TR P n .ret st Q := fun F hF g W a hh => wp_ret (h F hF g W a hh)
theorem tr_block {id : Nat} {c : Code} (h : TR P n c st (blockQ id Q)) : TR P n (.block id c) st Q := fun F hF g W a hh => wp_block (h F hF g W a hh)
theorem tr_cond {c : Operand} {x y : Code} {b : Bool} (hc : st.ev c = some (.c (.B b))) (ht : b = true → TR P n x st Q) (hf : b = false → TR P n y st Q) : TR P n (.cond c x y) st Q := by
 intro F hF g W a hh
 have hr : RelV g (.c (.B b)) (a.eval c) := ev_rel hh st c _ hc (opd_kn st c)
 exact wp_cond_split hr (fun e => ht e F hF g W a hh) (fun e => hf e F hF g W a hh)
theorem tr_region {id : Nat} {ops : Array Oper} {draw : Bool} (hmx : P.follows .mixedOrders = true) (h : RG P n ops draw st.nx 0 ops.toList st [] (fun st' => AtQ n .normal st' Q)) : TR P n (.region id ops draw) st Q := by
 intro F hF g W a hh
 have hn := hF.n
 subst hn
 exact rg_wp hF.rd hmx h (fun st' hq g W a hh' => hq F hF g W a hh') hh
theorem at_then {y : Code} (h : TR P n y st Q) : AtQ n .normal st (thenQ P y Q) := h
theorem at_then_exit {y : Code} {id : Nat} (h : AtQ n (.exit id) st Q) : AtQ n (.exit id) st (thenQ P y Q) := h
theorem at_then_ret {y : Code} (h : AtQ n .ret st Q) : AtQ n .ret st (thenQ P y Q) := h
theorem at_block {id : Nat} (h : AtQ n .normal st Q) : AtQ n .normal st (blockQ id Q) := h
theorem at_block_ret {id : Nat} (h : AtQ n .ret st Q) : AtQ n .ret st (blockQ id Q) := h
theorem at_block_exit {id : Nat} (h : AtQ n .normal st Q) : AtQ n (.exit id) st (blockQ id Q) := fun F hF g W a hh => by
 simp only [blockQ, Exit.inBlock, if_true]
 exact h F hF g W a hh
theorem at_block_exit_ne {id id' : Nat} (h : AtQ n (.exit id') st Q) (hne : id' ≠ id := by decide) : AtQ n (.exit id') st (blockQ id Q) := fun F hF g W a hh => by
 simp only [blockQ, Exit.inBlock, hne, if_false]
 exact h F hF g W a hh
theorem at_loop_exit {α : Type} {stI : α → St} {φ : α → Prop} {μ : α → Nat} {x : α} {id : Nat} (h : AtQ n (.exit id) st Q) : AtQ n (.exit id) st (loopQ stI φ μ x Q) := h
theorem at_loop_ret {α : Type} {stI : α → St} {φ : α → Prop} {μ : α → Nat} {x : α} (h : AtQ n .ret st Q) : AtQ n .ret st (loopQ stI φ μ x Q) := h
def Wk (st st' : St) : Prop := ∀ F : Fix, F.k0 ≤ 1 → ∀ g W a, Hold F (kb st) st.kn g W a → ∃ g', Hold F (kb st') st'.kn g' W a
theorem at_loop {α : Type} {stI : α → St} {φ : α → Prop} {μ : α → Nat} {x : α} (x' : α) (h1 : φ x') (h2 : μ x' < μ x) (hw : Wk st (stI x')) : AtQ n .normal st (loopQ stI φ μ x Q) := by
 intro F hF g W a hh
 let ⟨g', h'⟩ := hw F hF.k0 g W a hh
 exact ⟨x', g', h1, h2, h'⟩
theorem wp_loop_x {c : Code} {α : Type} (I : α → Act → World → Prop) (μ : α → Nat) {Q : Exit → Act → World → Prop} (x : α) {a : Act} {w : World} (h₀ : I x a w)
  (round : ∀ x a w, I x a w → c.wp P (Exit.then (fun a' w' => ∃ x', I x' a' w' ∧ μ x' < μ x) Q) a w) : (Code.loop c).wp P Q a w := by
 intro b k cs
 have key : ∀ n x a w, μ x = n → I x a w →
   ∃ e a' w', Q e a' w' ∧ Arrives P (lone (b.at a (.code c :: .inLoop c :: k)) cs w) b k cs e a' w' := by
  intro n
  induction n using Nat.strongRecOn with
  | _ n ih =>
   intro x a w hn hI
   let ⟨e, a₁, w₁, hq, harr⟩ := round x a w hI b (.inLoop c :: k) cs
   cases e with
   | normal =>
    let ⟨x', hI₁, hlt⟩ := hq
    let ⟨e₂, a₂, w₂, hq₂, harr₂⟩ := ih (μ x') (hn ▸ hlt) x' a₁ w₁ rfl hI₁
    exact ⟨e₂, a₂, w₂, hq₂, .of_steps (Steps.trans harr (.one step_inLoop)) harr₂⟩
   | exit id => exact ⟨_, a₁, w₁, hq, .pass (x := .inLoop c) rfl (fun _ _ => .inl (by simp)) harr⟩
   | goto l => exact ⟨_, a₁, w₁, hq, .pass (x := .inLoop c) rfl (fun _ _ => .inl (by simp)) harr⟩
   | ret => exact ⟨_, a₁, w₁, hq, .pass (x := .inLoop c) rfl (fun _ _ => .inl (by simp)) harr⟩
   | panic ch => exact ⟨_, a₁, w₁, hq, .pass (x := .inLoop c) rfl (fun _ _ => .inl (by simp)) harr⟩
   | outgrown => exact ⟨_, a₁, w₁, hq, .pass (x := .inLoop c) rfl (fun _ _ => .inl (by simp)) harr⟩
 let ⟨e, a', w', hq, harr⟩ := key _ x a w rfl h₀
 exact ⟨e, a', w', hq, .of_steps (.one step_loop) harr⟩
theorem tr_loop {α : Type} (stI : α → St) (φ : α → Prop) (μ : α → Nat) (x0 : α) {c : Code} (h0 : φ x0) (hw : Wk st (stI x0)) (round : ∀ x, φ x → TR P n c (stI x) (loopQ stI φ μ x Q)) : TR P n (.loop c) st Q := by
 intro F hF g W a hh
 let ⟨g', h'⟩ := hw F hF.k0 g W a hh
 refine wp_loop_x (fun x a W => φ x ∧ ∃ g, Hold F (kb (stI x)) (stI x).kn g W a) μ x0 ⟨h0, g', h'⟩ ?_
 rintro x a W ⟨hφ, g, hg⟩
 refine wp_mono (round x hφ F hF g W a hg) ?_
 intro e a' W' hq
 cases e with
 | normal =>
  let ⟨x', g'', h1, h2, h3⟩ := hq
  exact ⟨x', ⟨h1, g'', h3⟩, h2⟩
 | _ => exact hq
end
section
variable {P : Program} {tt : TT} {n : Nat} {Q : Post} {st : St}
def AVle (v v' : AV) : Prop := (∀ g x, RelV g v x → RelV g v' x) ∧ ∀ id ∈ v'.mids, id ∈ v.mids
theorem AVle.refl (v : AV) : AVle v v := ⟨fun _ _ h => h, fun _ h => h⟩
theorem AVle.of_eq {v v' : AV} (h : v = v') : AVle v v' := h ▸ AVle.refl v
theorem AVle.nil (T : ET) : AVle (.c (.V (.slice none 0 0))) (.c (.S T [])) := ⟨fun g x h => by
 have h' : x = .slice none 0 0 := h
 subst h'
 exact ⟨none, 0, rfl, Nat.le_refl _, by simp, .inl rfl⟩, by simp [AV.mids, C.mids]⟩
def BLe (b b' : Blk) : Prop := (∀ N g W id, RepB N g W id b → RepB N g W id b') ∧ ∀ id ∈ b'.mids, id ∈ b.mids
theorem BLe.refl (b : Blk) : BLe b b := ⟨fun _ _ _ _ h => h, fun _ h => h⟩
theorem BLe.of_eq {b b' : Blk} (h : b = b') : BLe b b' := h ▸ BLe.refl b
def WkS (l : List (Nat × AV)) : List (Nat × AV) → Prop
 | [] => True
 | (t, v') :: r => (∃ v, lookA t l = some v ∧ AVle v v') ∧ WkS l r
def WkM (l : List (Nat × Blk)) : List (Nat × Blk) → Prop
 | [] => True
 | (t, v') :: r => (∃ v, lookA t l = some v ∧ BLe v v') ∧ WkM l r
theorem WkS.get {l : List (Nat × AV)} : ∀ {m : List (Nat × AV)}, WkS l m → ∀ {t v'}, lookA t m = some v' → ∃ v, lookA t l = some v ∧ AVle v v'
 | [], _, _, _, h => by simp [lookA] at h
 | (k, x) :: m, hw, t, v', h => by
  simp only [lookA] at h
  split at h
  ·rename_i e; subst e; cases h; exact hw.1
  ·exact WkS.get hw.2 h
theorem WkM.get {l : List (Nat × Blk)} : ∀ {m : List (Nat × Blk)}, WkM l m → ∀ {t v'}, lookA t m = some v' → ∃ v, lookA t l = some v ∧ BLe v v'
 | [], _, _, _, h => by simp [lookA] at h
 | (k, x) :: m, hw, t, v', h => by
  simp only [lookA] at h
  split at h
  ·rename_i e; subst e; cases h; exact hw.1
  ·exact WkM.get hw.2 h
def midsB (b : Nat) : List Nat → Bool
 | [] => true
 | id :: r => Nat.blt id b && midsB b r
def slB (b : Nat) : List (Nat × AV) → Bool
 | [] => true
 | (_, v) :: r => midsB b v.mids && slB b r
def memB (b : Nat) : List (Nat × Blk) → Bool
 | [] => true
 | (id, v) :: r => Nat.blt id b && midsB b v.mids && memB b r
theorem midsB_ok {b : Nat} : ∀ {l : List Nat}, midsB b l = true → ∀ id ∈ l, id < b
 | [], _, _, h => by simp at h
 | j :: r, hb, id, h => by
  simp only [midsB, Bool.and_eq_true] at hb
  rcases List.mem_cons.1 h with rfl | h
  ·exact Nat.le_of_ble_eq_true hb.1
  ·exact midsB_ok hb.2 id h
theorem slB_ok {b : Nat} : ∀ {l : List (Nat × AV)}, slB b l = true → ∀ t v, lookA t l = some v → ∀ id ∈ v.mids, id < b
 | [], _, _, _, h => by simp [lookA] at h
 | (k, x) :: r, hb, t, v, h => by
  simp only [slB, Bool.and_eq_true] at hb
  simp only [lookA] at h
  split at h
  ·cases h; exact midsB_ok hb.1
  ·exact slB_ok hb.2 t v h
theorem memB_ok {b : Nat} : ∀ {l : List (Nat × Blk)}, memB b l = true → ∀ t v, lookA t l = some v → t < b ∧ ∀ id ∈ v.mids, id < b
 | [], _, _, _, h => by simp [lookA] at h
 | (k, x) :: r, hb, t, v, h => by
  simp only [memB, Bool.and_eq_true] at hb
  simp only [lookA] at h
  split at h
  ·rename_i e; subst e; cases h; exact ⟨Nat.le_of_ble_eq_true hb.1.1, midsB_ok hb.1.2⟩
  ·exact memB_ok hb.2 t v h
theorem wk {st st' : St} (hs : WkS st.sl st'.sl) (hm : WkM st.mem st'.mem) (hn : (slB (1000000 * st'.nx) st'.sl && memB (1000000 * st'.nx) st'.mem && (Nat.ble 1 st'.nx || Nat.ble st.nx 0)) = true := by rfl) : Wk st st' := by
 intro F hk0 g W a h
 simp only [Bool.and_eq_true, Bool.or_eq_true] at hn
 let ⟨hn, hnx⟩ := hn
 have hkf : ∀ id, id < F.k0 → kb st' id ∧ g.γ id = F.γ0 id := by
  intro id hid
  let ⟨h1, h2⟩ := h.kfix id hid
  refine ⟨?_, h2⟩
  have h1 : id < 1000000 * st.nx := h1
  show id < 1000000 * st'.nx
  rcases hnx with e | e
  ·have := Nat.le_of_ble_eq_true e
   omega
  ·have := Nat.le_of_ble_eq_true e
   omega
 have hS : ∀ t v', st'.kn (.s t) = some (.v v') → (∃ v, st.kn (.s t) = some (.v v) ∧ AVle v v') ∧ ∀ id ∈ v'.mids, id < 1000000 * st'.nx := by
  intro t v' e
  simp only [St.kn, Option.map_eq_some_iff] at e
  let ⟨x, hx, he⟩ := e
  cases he
  let ⟨v, hv, hle⟩ := hs.get hx
  exact ⟨⟨v, by simp [St.kn, hv], hle⟩, slB_ok hn.1 t v' hx⟩
 have hM : ∀ id b', st'.kn (.m id) = some (.b b') → (∃ b, st.kn (.m id) = some (.b b) ∧ BLe b b') ∧ id < 1000000 * st'.nx ∧ ∀ j ∈ b'.mids, j < 1000000 * st'.nx := by
  intro t v' e
  simp only [St.kn, Option.map_eq_some_iff] at e
  let ⟨x, hx, he⟩ := e
  cases he
  let ⟨v, hv, hle⟩ := hm.get hx
  exact ⟨⟨v, by simp [St.kn, hv], hle⟩, memB_ok hn.2 t v' hx⟩
 refine ⟨g, h.size, h.defers, ?_, ?_, ?_, ?_, ?_, h.sub, h.below, h.le, h.fresh, hkf⟩
 ·intro t v' e
  let ⟨⟨v, hv, hle⟩, _⟩ := hS t v' e
  exact hle.1 _ _ (h.slots t v hv)
 ·intro id b' e
  let ⟨⟨b, hb, hle⟩, _⟩ := hM id b' e
  exact hle.1 _ _ _ _ (h.blks id b hb)
 ·intro id id' b b' k e e' hk hk'
  let ⟨⟨c, hc, _⟩, _⟩ := hM id b e
  let ⟨⟨c', hc', _⟩, _⟩ := hM id' b' e'
  exact h.inj id id' c c' k hc hc' hk hk'
 ·intro k x e id hid
  cases k with
  | s t =>
   cases x with
   | v v' => exact (hS t v' e).2 id hid
   | b b' => simp only [St.kn, Option.map_eq_some_iff] at e; let ⟨_, _, he⟩ := e; cases he
  | m j =>
   cases x with
   | v v' => simp only [St.kn, Option.map_eq_some_iff] at e; let ⟨_, _, he⟩ := e; cases he
   | b b' => exact (hM j b' e).2.2 id hid
 ·intro id x e
  cases x with
  | v v' => simp only [St.kn, Option.map_eq_some_iff] at e; let ⟨_, _, he⟩ := e; cases he
  | b b' => exact (hM id b' e).2.1
theorem tr_wk {c : Code} {st' : St} (hw : Wk st st') (h : TR P n c st' Q) : TR P n c st Q := by
 intro F hF g W a hh
 let ⟨g', h'⟩ := hw F hF.k0 g W a hh
 exact h F hF g' W a h'
theorem at_wk {e : Exit} {st' : St} (hw : Wk st st') (h : AtQ n e st' Q) : AtQ n e st Q := by
 intro F hF g W a hh
 let ⟨g', h'⟩ := hw F hF.k0 g W a hh
 exact h F hF g' W a h'
def RetQ (P : Program) (fn : Func) (r : AV) : Post := fun F e a W => (∀ b, ¬ F.own b) → bodyPost P fn (RetP F.w0 F.H0 r) e a W
def resOne (tt : TT) (st : St) : ResultVar → Option AV
 | .tmp t => lookA t st.sl
 | .cell t ty => (match lookA t st.sl with
  | some (.c (.P id off)) => (match lookA id st.mem, tySz tt ty with
   | some (.box _ _ cs), some (sz, ag) => partA cs off sz ag
   | _, _ => none)
  | _ => none)
def toS : AV → Option (Bool × List C)
 | .c x => some (false, [x])
 | .a cs => some (true, cs)
 | .t _ => none
def resL (tt : TT) (st : St) : List ResultVar → Option (List (Bool × List C))
 | [] => some []
 | x :: xs => (match resOne tt st x with
  | some v => (match toS v, resL tt st xs with
   | some s, some r => some (s :: r)
   | _, _ => none)
  | none => none)
def resAll (tt : TT) (st : St) : List ResultVar → Option AV
 | [x] => resOne tt st x
 | xs => (resL tt st xs).map .t
def resF (tmps : Array Value) : ResultVar → Go.Sem Value
 | .tmp t => pure (tmps.getD t undef)
 | .cell b t => do loadVar t (← asAddr (tmps.getD b undef))
theorem resOne_run (htt : ttB P tt = true) {F : Fix} {known : Nat → Prop} {g : Gh} {W : World} {a : Act} (h : Hold F known st.kn g W a) {x : ResultVar} {v : AV} (hv : resOne tt st x = some v) :
  ∃ u, (resF a.tmps x).run P W = .ok u W ∧ RelV g v u := by
 cases x with
 | tmp t =>
  simp only [resOne] at hv
  exact ⟨_, by simp [resF, pure], h.slots t v (by simp [St.kn, hv])⟩
 | cell b t =>
  simp only [resOne] at hv
  split at hv
  ·rename_i id off hl
   split at hv
   ·rename_i E bz cs sz ag hm hts
    let ⟨b', vs, rest, hγ, hh, hr, _, _⟩ := h.blks id (.box E bz cs) (by simp [St.kn, hm])
    let ⟨b'', hγ', hp⟩ := h.slots b (.c (.P id off)) (by simp [St.kn, hl])
    rw [hγ] at hγ'
    simp only [Option.some.injEq] at hγ'
    subst hγ'
    let ⟨u, hrun, hu⟩ := loadPart (W := W) htt hts hr hv b' 0 (fun j hj => by
     have := cell_of_block hh j (by simp; omega)
     rw [List.getElem_append_left hj] at this
     simpa using this)
    refine ⟨u, ?_, hu⟩
    simp only [Nat.zero_add] at hrun
    simp only [resF, hp, asAddr]
    simpa [Instr.loadAt, Instr.sureAddr] using hrun
   ·simp at hv
  ·simp at hv
theorem toS_rel {g : Gh} {v : AV} {s : Bool × List C} (h : toS v = some s) {u : Value} (hr : RelV g v u) : RelS g s u := by
 cases v with
 | c x => simp only [toS, Option.some.injEq] at h; subst h; exact hr
 | a cs => simp only [toS, Option.some.injEq] at h; subst h; exact hr
 | t _ => simp [toS] at h
theorem run_results (htt : ttB P tt = true) {F : Fix} {known : Nat → Prop} {g : Gh} {W : World} {a : Act} (h : Hold F known st.kn g W a) {fn : Func} {rs : List ResultVar} (hrs : fn.results = rs.toArray) {v : AV} (hv : resAll tt st rs = some v) :
  ∃ u, (results fn a.tmps).run P W = .ok u W ∧ RelV g v u := by
 have hl : ∀ (rs : List ResultVar) (ss : List (Bool × List C)), resL tt st rs = some ss → ∃ us : List Value, (rs.mapM (resF a.tmps)).run P W = .ok us W ∧ RelT g ss us ∧ us.length = rs.length := by
  intro rs
  induction rs with
  | nil => intro ss hss; simp only [resL, Option.some.injEq] at hss; subst hss; exact ⟨[], by simp [pure], rfl, rfl⟩
  | cons x xs ih =>
   intro ss hss
   simp only [resL] at hss
   split at hss
   ·rename_i v1 hv1
    split at hss
    ·rename_i s r hs hr
     simp only [Option.some.injEq] at hss
     subst hss
     let ⟨u, hu, hrel⟩ := resOne_run htt h hv1
     let ⟨us, hus, hrt, hlen⟩ := ih r hr
     refine ⟨u :: us, ?_, ⟨u, us, rfl, toS_rel hs hrel, hrt⟩, by simp [hlen]⟩
     rw [List.mapM_cons]
     simp only [Sem.run_bind, hu, Result.andThen, hus]
     simp [pure]
    ·simp at hss
   ·simp at hss
 have e : results fn a.tmps = (do let vs ← rs.toArray.mapM (resF a.tmps); pure (if h : vs.size = 1 then vs[0] else .tuple vs)) := by
  unfold results
  rw [hrs]
  rfl
 have hmap : Array.mapM (resF a.tmps) rs.toArray = Functor.map List.toArray (rs.mapM (resF a.tmps)) := by simp
 rw [e, hmap]
 match rs, hv with
 | [], hv =>
  simp only [resAll, resL, Option.map_some, Option.some.injEq] at hv
  subst hv
  exact ⟨.tuple #[], by simp [Sem.run, pure], [], rfl, rfl⟩
 | [x], hv =>
  let ⟨u, hu, hrel⟩ := resOne_run htt h hv
  refine ⟨u, ?_, hrel⟩
  simp [hu, Sem.run, pure]
 | x :: y :: r, hv =>
  simp only [resAll, Option.map_eq_some_iff] at hv
  obtain ⟨ss, hss, rfl⟩ := hv
  let ⟨us, hus, hrt, hlen⟩ := hl _ ss hss
  refine ⟨.tuple us.toArray, ?_, us, rfl, hrt⟩
  have h1 : us.toArray.size ≠ 1 := by simp [hlen]
  simp only [map_eq_pure_bind, bind_assoc, pure_bind, Sem.run_bind, hus, Result.andThen]
  rw [dif_neg h1]
  rfl
theorem at_ret (htt : ttB P tt = true) {fn : Func} {rs : List ResultVar} {r' r : AV} (hr : resAll tt st rs = some r') (hle : AVle r' r) (hrs : fn.results = rs.toArray := by rfl) (hm : r.mids = [] := by rfl) : AtQ n .ret st (RetQ P fn r) := by
 intro F hF g W a h hown
 let ⟨u, hu, hrel⟩ := run_results htt h hrs hr
 refine ⟨h.defers.trans hF.ds, u, hu, u, g.H, rfl, ?_, h.le, fun b o hb => h.fresh b o hb (hown b), h.sub, ⟨h.below.os, h.below.tape, h.below.output, h.below.size, fun k hk => h.below.block k hk (hown k)⟩⟩
 exact (hle.1 _ _ hrel).noid hm (FLe.refl _) noγ
def argSl : Nat → List AV → List (Nat × AV)
 | _, [] => []
 | i, v :: vs => (i, v) :: argSl (i + 1) vs
theorem argSl_look {g : Gh} : ∀ (vs : List AV) (us : List Value) (i : Nat), RelVs g vs us → ∀ t v, lookA t (argSl i vs) = some v → i ≤ t ∧ ∃ u, us[t - i]? = some u ∧ RelV g v u ∧ ∀ id ∈ v.mids, id ∈ midsVs vs
 | [], _, i, _, t, v, h => by simp [argSl, lookA] at h
 | x :: vs, _, i, hr, t, v, h => by
  obtain ⟨u, r, rfl, h1, h2⟩ := hr
  simp only [argSl, lookA] at h
  split at h
  ·rename_i e
   subst e
   cases h
   exact ⟨Nat.le_refl _, u, by simp, h1, fun id hid => by simp [midsVs, hid]⟩
  ·let ⟨h3, u', h4, h5, h6⟩ := argSl_look vs r (i + 1) h2 t v h
   refine ⟨by omega, u', ?_, h5, fun id hid => by simp [midsVs, h6 id hid]⟩
   rw [show t - i = (t - (i + 1)) + 1 by omega]
   simpa using h4
theorem relVs_length {g : Gh} : ∀ {vs : List AV} {us : List Value}, RelVs g vs us → us.length = vs.length
 | [], _, h => by simp only [RelVs] at h; subst h; rfl
 | _ :: vs, _, h => by obtain ⟨u, r, rfl, _, h2⟩ := h; simp [relVs_length h2]
theorem fs_intro {f : FuncId} {fn : Func} {c : Code} {args : List AV} {r : AV} (hf : P.funcs[f]? = some fn) (hb : fn.body = some c) (hN : fn.ntmps = n) (hle : Nat.ble args.length n = true) (hma : midsVs args = []) (hmr : r.mids = []) (hname : (fn.name != "runtime.NumGoroutine") = true)
  (h : TR P n c ⟨argSl 0 args, [], 0, []⟩ (RetQ P fn r)) : FnS P f args r := by
 refine ⟨by simp [callB, hf, hb, hname], hmr, ?_⟩
 intro H W vs hsub hrel
 refine calls_of_wp hf hb ?_
 have hlen := relVs_length hrel
 have hle := Nat.le_of_ble_eq_true hle
 refine wp_mono (h { w0 := W, H0 := H, n := n } ⟨rfl, Nat.zero_le _, rfl, rfl⟩ ⟨H, noγ⟩ W _ ⟨?_, rfl, ?_, ?_, ?_, ?_, ?_, hsub, ⟨rfl, rfl, rfl, Nat.le_refl _, fun _ _ _ => rfl⟩, FLe.refl _, fun _ _ _ _ => rfl, fun _ h => absurd h (Nat.not_lt_zero _)⟩) (fun e a W' hq => hq (fun _ h => h))
 ·simp [hN]; omega
 ·intro t v ht
  simp only [St.kn, Option.map_eq_some_iff] at ht
  let ⟨x, hx, he⟩ := ht
  cases he
  let ⟨_, u, hu, hr, _⟩ := argSl_look args vs 0 hrel t v hx
  have hu' : vs[t]? = some u := by simpa using hu
  have hlt : t < vs.length := (List.getElem?_eq_some_iff.1 hu').1
  have : (vs.toArray ++ Array.replicate (fn.ntmps - vs.toArray.size) undef).getD t undef = u := by
   rw [Array.getD_eq_getD_getElem?, Array.getElem?_append_left (by simpa using hlt)]
   simp [hu']
  rw [this]
  exact hr
 ·intro id b e; simp [St.kn, lookA] at e
 ·intro id id' b b' k e; simp [St.kn, lookA] at e
 ·intro k x e id hid
  cases k with
  | m j => simp [St.kn, lookA] at e
  | s t =>
   simp only [St.kn, Option.map_eq_some_iff] at e
   let ⟨y, hy, he⟩ := e
   subst he
   let ⟨_, u, _, _, h6⟩ := argSl_look args vs 0 hrel t y hy
   have := h6 id hid
   rw [hma] at this
   cases this
 ·intro id x e; simp [St.kn, lookA] at e
end
theorem sR {l : List (Nat × AV)} {t : Nat} {v : AV} (h : lookA t l = some v) : ∃ x, lookA t l = some x ∧ AVle x v := ⟨v, h, AVle.refl v⟩
theorem bR {l : List (Nat × Blk)} {t : Nat} {v : Blk} (h : lookA t l = some v) : ∃ x, lookA t l = some x ∧ BLe x v := ⟨v, h, BLe.refl v⟩
theorem sE {l : List (Nat × AV)} {t : Nat} {w v : AV} (h : lookA t l = some w) (e : w = v) : ∃ x, lookA t l = some x ∧ AVle x v := ⟨w, h, AVle.of_eq e⟩
theorem bE {l : List (Nat × Blk)} {t : Nat} {w v : Blk} (h : lookA t l = some w) (e : w = v) : ∃ x, lookA t l = some x ∧ BLe x v := ⟨w, h, BLe.of_eq e⟩
theorem wkSr {sl : List (Nat × AV)} : ∀ {l : List (Nat × AV)}, l.map (fun e => lookA e.1 sl) = l.map (fun e => some e.2) → WkS sl l
 | [], _ => trivial
 | (t, v) :: l, h => ⟨⟨v, (List.cons.inj h).1, AVle.refl v⟩, wkSr (List.cons.inj h).2⟩
theorem wkMr {me : List (Nat × Blk)} : ∀ {l : List (Nat × Blk)}, l.map (fun e => lookA e.1 me) = l.map (fun e => some e.2) → WkM me l
 | [], _ => trivial
 | (t, v) :: l, h => ⟨⟨v, (List.cons.inj h).1, BLe.refl v⟩, wkMr (List.cons.inj h).2⟩
theorem wkA {st st' : St} (h1 : st'.sl.map (fun e => lookA e.1 st.sl) = st'.sl.map (fun e => some e.2) := by rfl) (h2 : st'.mem.map (fun e => lookA e.1 st.mem) = st'.mem.map (fun e => some e.2) := by rfl) (hn : (slB (1000000 * st'.nx) st'.sl && memB (1000000 * st'.nx) st'.mem && (Nat.ble 1 st'.nx || Nat.ble st.nx 0)) = true := by rfl) : Wk st st' := wk (wkSr h1) (wkMr h2) hn
theorem dfpT {p : Prop} (h : p := by first | trivial | (simp only [Pr.an, Pr.h, num, i64r, true_and, and_true]; first | done | omega) | (simp [Pr.an, Pr.h, num, i64r]; done) | (simp [Pr.an, Pr.h, num, i64r]; omega)) : p := h
theorem dfpS {p : Prop} (h : p := by first | trivial | (simp only [Pr.an, Pr.h, num, i64r, true_and, and_true]; first | done | omega)) : p := h
theorem cgU {a b : Int} (h : a = b) : AV.c (C.I .u64 a) = AV.c (C.I .u64 b) := by rw [h]
theorem cgJ {a b : Int} (h : a = b) : AV.c (C.I .i64 a) = AV.c (C.I .i64 b) := by rw [h]
theorem cgW {a b : Int} (h : a = b) : AV.c (C.I .u32 a) = AV.c (C.I .u32 b) := by rw [h]
section
variable {P : Program} {tt : TT}
theorem chunk_replicate {α : Type} (z : List α) (n i : Nat) (hi : i < n) : (((List.replicate n z).flatten).drop (i * z.length)).take z.length = z := by
 induction n generalizing i with
 | zero => omega
 | succ n ih =>
  rw [List.replicate_succ, List.flatten_cons]
  cases i with
  | zero => simp
  | succ i =>
   rw [show (i + 1) * z.length = z.length + i * z.length by rw [Nat.add_mul]; omega, ← List.drop_drop, List.drop_left]
   exact ih i (by omega)
theorem flatten_replicate_length {α : Type} (z : List α) (n : Nat) : (List.replicate n z).flatten.length = n * z.length := by simp
theorem makeCells_eq (zs : List Value) (n : Nat) (hz : zs ≠ []) : (Array.range (n * zs.length)).map (fun i => zs.toArray[i % zs.toArray.size]!) = ((List.replicate n zs).flatten).toArray := by
 apply Array.ext
 ·simp
 ·intro i h1 h2
  simp at h1
  have hl : 0 < zs.length := List.length_pos_iff.2 hz
  have hm : i % zs.length < zs.length := Nat.mod_lt _ hl
  simp only [Array.getElem_map, Array.getElem_range, List.size_toArray, List.getElem_toArray]
  rw [getElem!_pos _ _ (by simpa using hm), List.getElem_toArray]
  have hq : i / zs.length < n := Nat.div_lt_of_lt_mul (by rw [Nat.mul_comm]; exact h1)
  have hc := chunk_replicate zs n (i / zs.length) hq
  have hi : i = i / zs.length * zs.length + i % zs.length := by rw [Nat.mul_comm]; exact (Nat.div_add_mod i zs.length).symm
  have h3 : (((List.replicate n zs).flatten.drop (i / zs.length * zs.length)).take zs.length)[i % zs.length]? = zs[i % zs.length]? := by rw [hc]
  rw [List.getElem?_take_of_lt hm, List.getElem?_drop, ← hi] at h3
  rw [List.getElem?_eq_getElem (by simpa using h2), List.getElem?_eq_getElem hm] at h3
  simp only [Option.some.injEq] at h3
  exact h3.symm
theorem newvec_ok {ops : Array Oper} {i : Nat} {o : Oper} {d : Nat} (ho : ops[i]? = some o) (hg : o.guard = none) (hd : o.dst = some d) {n : Nat} (hdn : d < n) {st : St} {E : TypeId} {T : ET} {xs : List T.den} (new : Nat) (hlen : xs.length * T.n ≤ 140737488355328)
  (h : ∀ (F : Fix) (known : Nat → Prop) (σ : Kn) (g : Gh) (W : World) (a : Act), Hold F known σ g W a → (∀ kx ∈ rdV st o.op, σ kx.1 = some kx.2) →
   ∃ (vs : List Value) (cap : Nat) (W1 : World), (execOp a.eval o).run P W = .ok (.value (.slice (some ⟨W.heap.size, 0, none⟩) xs.length cap)) { W1 with heap := W.heap.push (.cells vs.toArray E (0, 0)) } ∧ W1.os = W.os ∧ W1.tape = W.tape ∧ W1.output = W.output ∧ vs.length = cap * T.n ∧ xs.length ≤ cap ∧
    ∀ i (h : i < xs.length), RelD g.H T xs[i] ((vs.drop (i * T.n)).take T.n)) :
  StepOk P n ops i st ((st.pm new (.vec E T xs)).put d (.c (.X new))) new (okeys o.op.operands.toList, [.s d, .m new]) := by
 refine ⟨rdV st o.op, [(.s d, some (.v (.c (.X new)))), (.m new, some (.b (.vec E T xs)))], ?_, rdV_kn st _, kn_put_pm st d new _ _, okeys_opd st _, fun k hk => by simpa [keysOf] using hk⟩
 intro F hFn Q known σ g W a K hnew hsem hrd hK
 let ⟨vs, cap, W1, hrun, e1, e2, e3, hvl, hle, hrel⟩ := h F known σ g W a hsem hrd
 unfold wpOp
 simp only [ho, Region.wanted, hg, if_true]
 refine .inl ?_
 unfold Oper.wp
 rw [hrun]
 simp only [Oper.upon, hd]
 have hsz : d < a.tmps.size := by rw [hsem.size, hFn]; exact hdn
 let g' : Gh := ⟨g.H, fun id => if id = new then .slice (some ⟨W.heap.size, 0, none⟩) xs.length cap else g.γ id⟩
 have hGle : GLe known g g' := ⟨FLe.refl _, fun id hid => by
  have : id ≠ new := fun e => hnew (e ▸ hid)
  simp [g', this]⟩
 have hHnone : ∀ o, g.H W.heap.size o = none := by
  intro o
  cases hv : g.H W.heap.size o with
  | none => rfl
  | some v =>
   have := World.block_lt_of_cell? W _ (hsem.sub _ _ _ hv)
   simp at this
 have hsub : Sub g.H { W1 with heap := W.heap.push (.cells vs.toArray E (0, 0)) } := by
  have := Sub_push hsem.sub (.cells vs.toArray E (0, 0))
  exact this
 refine hK g' _ _ (hsem.step (chg := fun _ => False) (g' := g') ⟨hGle, fun _ _ _ => rfl, hsub, by simp, fun k hk _ => alloc_heap W _ k hk, e1, e2, e3⟩ _ new hnew (by simp [Act.put]) hsem.defers ?_ (fun _ h => h.elim) ?_ ?_ ?_ ?_)
 ·intro t ht
  have hne : d ≠ t := by intro e; subst e; simp [says] at ht
  simp [Act.put, Array.getElem?_setIfInBounds_ne hne]
 ·intro t u ht
  simp only [says] at ht
  split at ht
  ·rename_i e
   simp only [Key.s.injEq] at e
   simp only [Option.some.injEq, Info.v.injEq] at ht
   subst e; subst ht
   simp [Act.put, hsz, RelV, RelC, g']
  ·split at ht
   ·simp at ht
   ·simp at ht
 ·intro id b ht
  simp only [says, reduceCtorEq, if_false] at ht
  split at ht
  ·rename_i e
   simp only [Key.m.injEq] at e
   subst e
   simp only [Option.some.injEq, Info.b.injEq] at ht
   subst ht
   refine ⟨.inr ⟨W.heap.size, cap, vs, by simp [g'], by simp, hvl, hle, hlen, hrel, .inl hsem.below.size, hHnone⟩, .inr ⟨rfl, fun k hk => .inl ?_⟩⟩
   simp only [g', if_true, blk, Option.some.injEq] at hk
   omega
  ·simp at ht
 ·intro k y ht
  simp only [says] at ht
  split at ht
  ·simp only [Option.some.injEq] at ht
   subst ht
   intro id hid
   simp [Info.mids, AV.mids, C.mids] at hid
   exact .inr hid
  ·split at ht
   ·simp only [Option.some.injEq] at ht
    subst ht
    intro id hid
    simp [Info.mids, Blk.mids] at hid
   ·simp at ht
 ·intro id y ht
  simp only [says, reduceCtorEq, if_false] at ht
  split at ht
  ·rename_i e
   simp only [Key.m.injEq] at e
   exact .inr e.symm
  ·simp at ht
theorem newfrz_ok {ops : Array Oper} {i : Nat} {o : Oper} {d : Nat} (ho : ops[i]? = some o) (hg : o.guard = none) (hd : o.dst = some d) {n : Nat} (hdn : d < n) {st : St} {E : TypeId} {T : ET} {xs : List T.den} (new : Nat) (hlen : xs.length * T.n ≤ 140737488355328)
  (h : ∀ (F : Fix) (known : Nat → Prop) (σ : Kn) (g : Gh) (W : World) (a : Act), Hold F known σ g W a → (∀ kx ∈ rdV st o.op, σ kx.1 = some kx.2) →
   ∃ (vs : List Value) (cap : Nat) (W1 : World), (execOp a.eval o).run P W = .ok (.value (.slice (some ⟨W.heap.size, 0, none⟩) xs.length cap)) { W1 with heap := W.heap.push (.cells vs.toArray E (0, 0)) } ∧ W1.os = W.os ∧ W1.tape = W.tape ∧ W1.output = W.output ∧ vs.length = cap * T.n ∧ xs.length ≤ cap ∧
    ∀ i (h : i < xs.length), RelD g.H T xs[i] ((vs.drop (i * T.n)).take T.n)) :
  StepOk P n ops i st (st.put d (.c (.S T xs))) new (okeys o.op.operands.toList, [.s d]) := by
 refine ⟨rdV st o.op, [(.s d, some (.v (.c (.S T xs))))], ?_, rdV_kn st _, kn_put st d _, okeys_opd st _, fun k hk => by simpa [keysOf] using hk⟩
 intro F hFn Q known σ g W a K hnew hsem hrd hK
 let ⟨vs, cap, W1, hrun, e1, e2, e3, hvl, hle, hrel⟩ := h F known σ g W a hsem hrd
 unfold wpOp
 simp only [ho, Region.wanted, hg, if_true]
 refine .inl ?_
 unfold Oper.wp
 rw [hrun]
 simp only [Oper.upon, hd]
 have hsz : d < a.tmps.size := by rw [hsem.size, hFn]; exact hdn
 let g' : Gh := ⟨fun b o => if b = W.heap.size then vs[o]? else g.H b o, g.γ⟩
 have hHnone : ∀ o, g.H W.heap.size o = none := by
  intro o
  cases hv : g.H W.heap.size o with
  | none => rfl
  | some v =>
   have := World.block_lt_of_cell? W _ (hsem.sub _ _ _ hv)
   simp at this
 have hFLe : FLe g.H g'.H := by
  intro b o v hv
  by_cases e : b = W.heap.size
  ·subst e; rw [hHnone] at hv; cases hv
  ·simp [g', e, hv]
 have hsub : Sub g'.H { W1 with heap := W.heap.push (.cells vs.toArray E (0, 0)) } := by
  intro b o v hv
  by_cases e : b = W.heap.size
  ·subst e
   simp only [g', if_true] at hv
   simp [World.cell?, hv]
  ·simp only [g', e, if_false] at hv
   exact Sub_push hsem.sub (.cells vs.toArray E (0, 0)) b o v hv
 refine hK g' _ _ (hsem.step (chg := fun _ => False) (g' := g') ⟨⟨hFLe, fun _ _ => rfl⟩, ?_, hsub, by simp, fun k hk _ => alloc_heap W _ k hk, e1, e2, e3⟩ _ new hnew (by simp [Act.put]) hsem.defers ?_ (fun _ h => h.elim) ?_ ?_ ?_ ?_)
 ·intro b o hb
  have : b ≠ W.heap.size := by omega
  simp [g', this]
 ·intro t ht
  have hne : d ≠ t := by intro e; subst e; simp [says] at ht
  simp [Act.put, Array.getElem?_setIfInBounds_ne hne]
 ·intro t u ht
  simp only [says] at ht
  split at ht
  ·rename_i e
   simp only [Key.s.injEq] at e
   simp only [Option.some.injEq, Info.v.injEq] at ht
   subst e; subst ht
   have hval : (a.put (some d) (.slice (some ⟨W.heap.size, 0, none⟩) xs.length cap)).tmps.getD d undef = .slice (some ⟨W.heap.size, 0, none⟩) xs.length cap := by simp [Act.put, hsz]
   rw [hval]
   refine ⟨_, cap, rfl, hle, hlen, ?_⟩
   by_cases hx : xs = []
   ·exact .inl hx
   ·refine .inr ⟨W.heap.size, 0, rfl, fun k hk => ⟨(vs.drop (k * T.n)).take T.n, RelD.length T _ _ (hrel k hk), RelD.mono hFLe T _ _ (hrel k hk), fun j hj => ?_⟩⟩
    have hk2 : (k + 1) * T.n ≤ cap * T.n := Nat.mul_le_mul_right _ (by omega)
    rw [Nat.add_mul, Nat.one_mul] at hk2
    simp only [List.length_take, List.length_drop] at hj
    simp only [g', if_true, Nat.zero_add, List.getElem_take, List.getElem_drop]
    exact List.getElem?_eq_getElem (by omega)
  ·simp at ht
 ·intro id b ht; simp [says] at ht
 ·intro k y ht
  simp only [says] at ht
  split at ht
  ·simp only [Option.some.injEq] at ht
   subst ht
   intro id hid
   simp [Info.mids, AV.mids, C.mids] at hid
  ·simp at ht
 ·intro id y ht; simp [says] at ht
theorem make_ok (htt : ttB P tt = true) {ops : Array Oper} {i : Nat} {o : Oper} {d : Nat} (ho : ops[i]? = some o) (hg : o.guard = none) (hd : o.dst = some d) {n : Nat} (hdn : d < n) {t : TypeId} {x : Operand} (hop : o.op = .makeSlice t x x)
  {st : St} {m : Nat} {k : IntKind} (hx : st.ev x = some (.c (.I k (m : Int)))) {E : Nat} {ti ei : TI} (hti : lookA t tt = some ti) (hk : ti.kind = .sl E) (hei : lookA E tt = some ei) (T : ET) (hTn : ei.size = T.n)
  (hz : ∀ g : Gh, RelL g (av T T.dflt) (ei.zero.map ZV.toV)) (hb : m * ei.bytes ≤ 281474976710656) (hb2 : m * T.n ≤ 140737488355328) (new : Nat) :
  StepOk P n ops i st ((st.pm new (.vec E T (List.replicate m T.dflt))).put d (.c (.X new))) new (okeys o.op.operands.toList, [.s d, .m new]) := by
 refine newvec_ok ho hg hd hdn new (by simpa using hb2) ?_
 intro F known σ g W a hsem hrd
 have hr : a.eval x = .int k (m : Int) := ev_rel hsem st x _ hx (fun kx hkx => hrd kx (by rw [hop]; simp [rdV, Op.operands, hkx]))
 have hu := (ttB_ok htt hti).kind
 rw [hk] at hu
 let ⟨inf, hinf, hisz, hiby, z, hzz, hzc⟩ := (ttB_ok htt hei).info
 have hzsl : (ei.zero.map ZV.toV).length = T.n := RelD.length T _ _ (av_relD T _ _ (hz g))
 have hzc' : z.cells = (ei.zero.map ZV.toV).toArray := by rw [← Array.toList_inj]; simpa using hzc
 have hzne : (ei.zero.map ZV.toV) ≠ [] := by
  intro e
  rw [e] at hzsl
  have := T.n_pos
  simp at hzsl
  omega
 have hm1 : m * 1 ≤ m * T.n := Nat.mul_le_mul_left m T.n_pos
 have hby : (inf.bytes : Int) * (m : Int) ≤ 281474976710656 := by
  rw [hiby]
  have : (ei.bytes : Int) * (m : Int) = ((m * ei.bytes : Nat) : Int) := by rw [Nat.mul_comm]; simp
  rw [this]
  omega
 have hrun := run_make (P := P) W t E inf z hu hinf hzz k k m m (by omega) (by omega) hby (by omega)
 refine ⟨(List.replicate m (ei.zero.map ZV.toV)).flatten, m, W, ?_, rfl, rfl, rfl, ?_, by simp, ?_⟩
 ·rw [execOp, hop]
  have hcells : madeCells z.cells (m * inf.size) = ((List.replicate m (ei.zero.map ZV.toV)).flatten).toArray := by
   rw [hisz, hTn, hzc', ← hzsl, ← makeCells_eq _ m hzne]
   rfl
  simp only [Int.toNat_natCast] at hrun
  rw [hcells] at hrun
  simp only [hr, Sem.run_bind, hrun, Result.andThen, List.length_replicate]
  rfl
 ·rw [flatten_replicate_length, hzsl]
 ·intro j hj
  simp only [List.length_replicate] at hj
  have := chunk_replicate (ei.zero.map ZV.toV) m j hj
  rw [hzsl] at this
  rw [this, List.getElem_replicate]
  exact av_relD T _ _ (hz g)
end
section
variable {P : Program} {tt : TT} {n : Nat} {Q : Post} {st : St}
def frzC (id : Nat) (T : ET) (xs : List T.den) : C → C
 | .X j => if j = id then .S T xs else .X j
 | .Y j m i off => if j = id then .any else .Y j m i off
 | c => c
def frzL (id : Nat) (T : ET) (xs : List T.den) : List C → List C
 | [] => []
 | c :: r => frzC id T xs c :: frzL id T xs r
def frzT (id : Nat) (T : ET) (xs : List T.den) : List (Bool × List C) → List (Bool × List C)
 | [] => []
 | (b, cs) :: r => (b, frzL id T xs cs) :: frzT id T xs r
def frzAV (id : Nat) (T : ET) (xs : List T.den) : AV → AV
 | .c x => .c (frzC id T xs x)
 | .a cs => .a (frzL id T xs cs)
 | .t ss => .t (frzT id T xs ss)
def frzSl (id : Nat) (T : ET) (xs : List T.den) : List (Nat × AV) → List (Nat × AV)
 | [] => []
 | (t, v) :: r => (t, frzAV id T xs v) :: frzSl id T xs r
def frzB (id : Nat) (T : ET) (xs : List T.den) : Blk → Blk
 | .box E bz cs => .box E bz (frzL id T xs cs)
 | b => b
def frzMem (id : Nat) (T : ET) (xs : List T.den) : List (Nat × Blk) → List (Nat × Blk)
 | [] => []
 | (j, b) :: r => if j = id then frzMem id T xs r else (j, frzB id T xs b) :: frzMem id T xs r
theorem look_frzSl (id : Nat) (T : ET) (xs : List T.den) (t : Nat) : ∀ l, lookA t (frzSl id T xs l) = (lookA t l).map (frzAV id T xs)
 | [] => rfl
 | (k, v) :: r => by
  simp only [frzSl, lookA]
  split
  ·rfl
  ·exact look_frzSl id T xs t r
theorem look_frzMem (id : Nat) (T : ET) (xs : List T.den) (t : Nat) : ∀ l, lookA t (frzMem id T xs l) = if t = id then none else (lookA t l).map (frzB id T xs)
 | [] => by simp [frzMem, lookA]
 | (k, v) :: r => by
  simp only [frzMem, lookA]
  split
  ·rename_i e
   subst e
   rw [look_frzMem k T xs t r]
   split
   ·rfl
   ·rename_i h
    rw [if_neg (fun e => h e.symm)]
  ·rename_i e
   simp only [lookA]
   split
   ·rename_i e2
    subst e2
    rw [if_neg e]; rfl
   ·exact look_frzMem id T xs t r
theorem frzC_mids (id : Nat) (T : ET) (xs : List T.den) (c : C) : ∀ j ∈ (frzC id T xs c).mids, j ∈ c.mids := by
 intro j hj
 cases c with
 | X k => simp only [frzC] at hj; split at hj; simp [C.mids] at hj; exact hj
 | Y k m i off => simp only [frzC] at hj; split at hj; simp [C.mids] at hj; exact hj
 | _ => exact hj
theorem frzL_mids (id : Nat) (T : ET) (xs : List T.den) : ∀ (cs : List C), ∀ j ∈ midsL (frzL id T xs cs), j ∈ midsL cs
 | [], j, h => h
 | c :: cs, j, h => by
  simp only [frzL, midsL, List.mem_append] at h ⊢
  exact h.imp (frzC_mids id T xs c j) (frzL_mids id T xs cs j)
theorem frzT_mids (id : Nat) (T : ET) (xs : List T.den) : ∀ (cs : List (Bool × List C)), ∀ j ∈ midsT (frzT id T xs cs), j ∈ midsT cs
 | [], j, h => h
 | (b, c) :: cs, j, h => by
  simp only [frzT, midsT, List.mem_append] at h ⊢
  exact h.imp (frzL_mids id T xs c j) (frzT_mids id T xs cs j)
theorem frzAV_mids (id : Nat) (T : ET) (xs : List T.den) (v : AV) : ∀ j ∈ (frzAV id T xs v).mids, j ∈ v.mids := by
 cases v with
 | c x => exact frzC_mids id T xs x
 | a cs => exact frzL_mids id T xs cs
 | t ss => exact frzT_mids id T xs ss
section
variable {id : Nat} {T : ET} {xs : List T.den} {known : Nat → Prop} {g g' : Gh}
theorem frzC_rel (hl : GLe known g g') (hX : RelSl (RelD g'.H T) T.n g'.H xs (g.γ id)) : ∀ {c : C} {v : Value}, (∀ j ∈ c.mids, known j) → RelC g c v → RelC g' (frzC id T xs c) v := by
 intro c v hk h
 cases c with
 | X k =>
  simp only [frzC]
  split
  ·rename_i e; subst e
   simp only [RelC] at h
   subst h
   exact hX
  ·exact RelC.mono hl hk h
 | Y k m i off =>
  simp only [frzC]
  split
  ·trivial
  ·exact RelC.mono hl hk h
 | _ => exact RelC.mono hl hk h
theorem frzL_rel (hl : GLe known g g') (hX : RelSl (RelD g'.H T) T.n g'.H xs (g.γ id)) : ∀ {cs : List C} {vs : List Value}, (∀ j ∈ midsL cs, known j) → RelL g cs vs → RelL g' (frzL id T xs cs) vs
 | [], _, _, h => h
 | _ :: _, _, hk, h => by
  let ⟨v, r, e, h1, h2⟩ := h
  exact ⟨v, r, e, frzC_rel hl hX (fun j hj => hk j (by simp [midsL, hj])) h1, frzL_rel hl hX (fun j hj => hk j (by simp [midsL, hj])) h2⟩
theorem frzT_rel (hl : GLe known g g') (hX : RelSl (RelD g'.H T) T.n g'.H xs (g.γ id)) : ∀ {cs : List (Bool × List C)} {vs : List Value}, (∀ j ∈ midsT cs, known j) → RelT g cs vs → RelT g' (frzT id T xs cs) vs
 | [], _, _, h => h
 | (b, c) :: _, _, hk, h => by
  let ⟨v, r, e, h1, h2⟩ := h
  refine ⟨v, r, e, ?_, frzT_rel hl hX (fun j hj => hk j (by simp [midsT, hj])) h2⟩
  have hk' : ∀ j ∈ midsL c, known j := fun j hj => hk j (by simp [midsT, hj])
  match b, c, h1 with
  | true, c, h1 => let ⟨vs, e, h⟩ := h1; exact ⟨vs, e, frzL_rel hl hX hk' h⟩
  | false, [c], h1 => exact frzC_rel hl hX (fun j hj => hk' j (by simp [midsL, hj])) h1
theorem frzAV_rel (hl : GLe known g g') (hX : RelSl (RelD g'.H T) T.n g'.H xs (g.γ id)) {x : AV} {v : Value} (hk : ∀ j ∈ x.mids, known j) (h : RelV g x v) : RelV g' (frzAV id T xs x) v := by
 cases x with
 | c y => exact frzC_rel hl hX hk h
 | a cs => let ⟨vs, e, h⟩ := h; exact ⟨vs, e, frzL_rel hl hX hk h⟩
 | t ss => let ⟨vs, e, h⟩ := h; exact ⟨vs, e, frzT_rel hl hX hk h⟩
end
theorem wk_frz (id : Nat) {E : TypeId} {T : ET} {xs : List T.den} {sl : List (Nat × AV)} {mem : List (Nat × Blk)} {nx : Nat} {gd : List (Nat × Bool)} (hl : lookA id mem = some (.vec E T xs)) : Wk ⟨sl, mem, nx, gd⟩ ⟨frzSl id T xs sl, frzMem id T xs mem, nx, gd⟩ := by
 intro F hk0 g W a h
 have hid : St.kn ⟨sl, mem, nx, gd⟩ (.m id) = some (.b (.vec E T xs)) := by simp [St.kn, hl]
 have hrep := h.blks id _ hid
 have main : ∀ g' : Gh, GLe (kb ⟨sl, mem, nx, gd⟩) g g' → RelSl (RelD g'.H T) T.n g'.H xs (g.γ id) → Sub g'.H W → (∀ b o, b < F.w0.heap.size → ¬ F.own b → g'.H b o = F.H0 b o) → (∀ b o, blk (g.γ id) ≠ some b → g'.H b o = g.H b o) → g'.γ = g.γ →
   Hold F (kb ⟨frzSl id T xs sl, frzMem id T xs mem, nx, gd⟩) (St.kn ⟨frzSl id T xs sl, frzMem id T xs mem, nx, gd⟩) g' W a := by
  intro g' hle hX hsub hfr hH hγ
  have hS : ∀ t v', St.kn ⟨frzSl id T xs sl, frzMem id T xs mem, nx, gd⟩ (.s t) = some (.v v') → ∃ v, St.kn ⟨sl, mem, nx, gd⟩ (.s t) = some (.v v) ∧ v' = frzAV id T xs v := by
   intro t v' e
   simp only [St.kn, look_frzSl, Option.map_map, Option.map_eq_some_iff] at e
   let ⟨v, hv, he⟩ := e
   cases he
   exact ⟨v, by simp [St.kn, hv], rfl⟩
  have hM : ∀ j b', St.kn ⟨frzSl id T xs sl, frzMem id T xs mem, nx, gd⟩ (.m j) = some (.b b') → ∃ b, St.kn ⟨sl, mem, nx, gd⟩ (.m j) = some (.b b) ∧ b' = frzB id T xs b ∧ j ≠ id := by
   intro j b' e
   simp only [St.kn, look_frzMem] at e
   split at e
   ·simp at e
   ·rename_i hne
    simp only [Option.map_map, Option.map_eq_some_iff] at e
    let ⟨b, hb, he⟩ := e
    cases he
    exact ⟨b, by simp [St.kn, hb], rfl, hne⟩
  refine ⟨h.size, h.defers, ?_, ?_, ?_, ?_, ?_, hsub, h.below, h.le.trans hle.H, hfr, fun id hid => ⟨(h.kfix id hid).1, by rw [hγ]; exact (h.kfix id hid).2⟩⟩
  ·intro t v' e
   obtain ⟨v, hv, rfl⟩ := hS t v' e
   exact frzAV_rel hle hX (fun j hj => h.mids _ _ hv j hj) (h.slots t v hv)
  ·intro j b' e
   obtain ⟨b, hb, rfl, hne⟩ := hM j b' e
   have hr := h.blks j b hb
   have hdisj : ∀ k, blk (g.γ j) = some k → blk (g.γ id) ≠ some k := fun k hk hk' => hne (h.inj j id b _ k hb hid hk hk')
   cases b with
   | box E' bz cs =>
    let ⟨k, vs, rest, e1, e2, e3, e4, e5, e6⟩ := hr
    exact ⟨k, vs, rest, by rw [hγ]; exact e1, e2, frzL_rel hle hX (fun i hi => h.mids _ _ hb i hi) e3, e4, fun o => by rw [hH k o (hdisj k e1)]; exact e5 o, by rw [hγ]; exact e6⟩
   | vec E' T' ys =>
    rcases hr with ⟨e1, e2⟩ | ⟨k, cap, vs, e1, e2, e3, e4, e4', e5, e6, e7⟩
    ·exact .inl ⟨by rw [hγ]; exact e1, e2⟩
    ·exact .inr ⟨k, cap, vs, by rw [hγ]; exact e1, e2, e3, e4, e4', fun i hi => RelD.mono hle.H _ _ _ (e5 i hi), e6, fun o => by rw [hH k o (hdisj k (by rw [e1]; rfl))]; exact e7 o⟩
   | clo f first caps =>
    let ⟨us, ws, e1, e2, e3⟩ := hr
    exact ⟨us, ws, by rw [hγ]; exact e1, RelT.mono hle (fun i hi => h.mids _ _ hb i (List.mem_append_left _ hi)) e2, RelT.mono hle (fun i hi => h.mids _ _ hb i (List.mem_append_right _ hi)) e3⟩
   | fz E' cs =>
    let ⟨k, vs, rest, e1, e2, e3, e4, e5⟩ := hr
    exact ⟨k, vs, rest, by rw [hγ]; exact e1, e2, RelL.mono hle (fun i hi => h.mids _ _ hb i hi) e3, e4, fun o => by rw [hH k o (hdisj k e1)]; exact e5 o⟩
   | mp ka va ys =>
    let ⟨k, es, e1, e2, e3, e4, e5⟩ := hr
    exact ⟨k, es, by rw [hγ]; exact e1, e2, RelM.mono hle (fun i hi => h.mids _ _ hb i hi) e3, e4, fun o => by rw [hH k o (hdisj k (by rw [e1]; rfl))]; exact e5 o⟩
   | it m n seen =>
    let ⟨k, b, e1, e0, e2, e4, e5⟩ := hr
    exact ⟨k, b, by rw [hγ]; exact e1, by rw [hγ]; exact e0, e2, e4, fun o => by rw [hH k o (hdisj k (by rw [e1]; rfl))]; exact e5 o⟩
   | itn m n seen =>
    let ⟨k0, k1, k2, k, b, e1, e0, e2, e4, e5⟩ := hr
    exact ⟨k0, k1, k2, k, b, by rw [hγ]; exact e1, by rw [hγ]; exact e0, e2, e4, fun o => by rw [hH k o (hdisj k (by rw [e1]; rfl))]; exact e5 o⟩
  ·intro i j b b' k e e' hk hk'
   let ⟨c, hc, _⟩ := hM i b e
   let ⟨c', hc', _⟩ := hM j b' e'
   rw [hγ] at hk hk'
   exact h.inj i j c c' k hc hc' hk hk'
  ·intro k x e j hj
   cases k with
   | s t =>
    cases x with
    | v v' => obtain ⟨v, hv, rfl⟩ := hS t v' e; exact h.mids _ _ hv j (frzAV_mids id T xs v j hj)
    | b b' => simp only [St.kn, Option.map_eq_some_iff] at e; let ⟨_, _, he⟩ := e; cases he
   | m i =>
    cases x with
    | v v' => simp only [St.kn, Option.map_eq_some_iff] at e; let ⟨_, _, he⟩ := e; cases he
    | b b' =>
     obtain ⟨b, hb, rfl, _⟩ := hM i b' e
     refine h.mids _ _ hb j ?_
     cases b with
     | box E' bz cs => exact frzL_mids id T xs cs j hj
     | vec E' T' ys => exact hj
     | clo f first caps => exact hj
     | fz E' cs => exact hj
     | mp ka va ys => exact hj
     | it m n seen => exact hj
     | itn m n seen => exact hj
  ·intro i x e
   cases x with
   | v v' => simp only [St.kn, Option.map_eq_some_iff] at e; let ⟨_, _, he⟩ := e; cases he
   | b b' => let ⟨b, hb, _⟩ := hM i b' e; exact h.mkn _ _ hb
 rcases hrep with ⟨hγ, hx⟩ | ⟨b, cap, vs, hγ, hh, hvl, hle, hlen, hr, hN, hz⟩
 ·refine ⟨g, main g ⟨FLe.refl _, fun _ _ => rfl⟩ ?_ h.sub h.fresh (fun _ _ _ => rfl) rfl⟩
  subst hx
  exact ⟨none, 0, hγ, by simp, by simp, .inl rfl⟩
 ·let g' : Gh := ⟨fun b' o => if b' = b then (if o < xs.length * T.n then vs[o]? else none) else g.H b' o, g.γ⟩
  have hFLe : FLe g.H g'.H := by
   intro b' o v hv
   by_cases e : b' = b
   ·subst e; rw [hz] at hv; cases hv
   ·simp [g', e, hv]
  refine ⟨g', main g' ⟨hFLe, fun _ _ => rfl⟩ ?_ ?_ ?_ ?_ rfl⟩
  ·refine ⟨some ⟨b, 0, none⟩, cap, hγ, hle, hlen, ?_⟩
   by_cases hx : xs = []
   ·exact .inl hx
   ·refine .inr ⟨b, 0, rfl, fun k hk => ⟨(vs.drop (k * T.n)).take T.n, RelD.length T _ _ (hr k hk), RelD.mono hFLe T _ _ (hr k hk), fun j hj => ?_⟩⟩
    have hk2 : (k + 1) * T.n ≤ cap * T.n := Nat.mul_le_mul_right _ (by omega)
    have hk3 : (k + 1) * T.n ≤ xs.length * T.n := Nat.mul_le_mul_right _ (by omega)
    rw [Nat.add_mul, Nat.one_mul] at hk2 hk3
    simp only [List.length_take, List.length_drop] at hj
    have hlt : k * T.n + j < xs.length * T.n := by omega
    simp only [g', if_true, Nat.zero_add, List.getElem_take, List.getElem_drop, hlt]
    exact List.getElem?_eq_getElem (by omega)
  ·intro b' o v hv
   by_cases e : b' = b
   ·subst e
    simp only [g', if_true] at hv
    split at hv
    ·simp [World.cell?, hh, hv]
    ·cases hv
   ·simp only [g', e, if_false] at hv
    exact h.sub b' o v hv
  ·intro b' o hb' hno
   have : b' ≠ b := by
    intro e
    subst e
    rcases hN with h1 | h1
    ·omega
    ·exact hno h1
   simp only [g', this, if_false]
   exact h.fresh b' o hb' hno
  ·intro b' o hb'
   have : b' ≠ b := fun e => hb' (by rw [hγ, e]; rfl)
   simp [g', this]
theorem tr_frz (id : Nat) {E : TypeId} {T : ET} {xs : List T.den} {c : Code} {sl : List (Nat × AV)} {mem : List (Nat × Blk)} {nx : Nat} {gd : List (Nat × Bool)} (hl : lookA id mem = some (.vec E T xs)) {sl' : List (Nat × AV)} {mem' : List (Nat × Blk)} (hs : frzSl id T xs sl = sl') (hm : frzMem id T xs mem = mem')
  (h : TR P n c ⟨sl', mem', nx, gd⟩ Q) : TR P n c ⟨sl, mem, nx, gd⟩ Q := by
 subst hs hm
 exact tr_wk (wk_frz id hl) h
theorem tr_len (t : Nat) {T : ET} {xs : List T.den} {c : Code} {sl : List (Nat × AV)} {mem : List (Nat × Blk)} {nx : Nat} {gd : List (Nat × Bool)} (hl : lookA t sl = some (.c (.S T xs))) (h : xs.length * T.n ≤ 140737488355328 → TR P n c ⟨sl, mem, nx, gd⟩ Q) : TR P n c ⟨sl, mem, nx, gd⟩ Q := by
 intro F hF g W a hh
 have h1 : RelC g (.S T xs) (a.tmps.getD t undef) := hh.slots t (.c (.S T xs)) (by simp [St.kn, hl])
 let ⟨_, _, _, _, h2, _⟩ := h1
 exact h h2 F hF g W a hh
theorem rg_make {ops : Array Oper} {draw : Bool} {nx i : Nat} {d t : Nat} {x : Operand} {ty : TypeId} {pos : String} {aft : Array Edge} {os : List Oper} {sl : List (Nat × AV)} {mem : List (Nat × Blk)} {n0 : Nat} {gd : List (Nat × Bool)} {ks : List Ks} {Q : St → Prop} (htt : ttB P tt = true)
  (T : ET) (m : Nat) {k : IntKind} {v : Int} (hx : St.ev ⟨sl, mem, n0, gd⟩ x = some (.c (.I k v))) (hv : v = (m : Int)) {E : Nat} {ti ei : TI} (hti : lookA t tt = some ti) (hk : ti.kind = .sl E) (hei : lookA E tt = some ei) (hTn : ei.size = T.n)
  (hz : ∀ g : Gh, RelL g (av T T.dflt) (ei.zero.map ZV.toV)) (hb : m * ei.bytes ≤ 281474976710656) (hb2 : m * T.n ≤ 140737488355328)
  (h : RG P n ops draw nx (i + 1) os ⟨(d, .c (.X (1000000 * nx + 1000 * i))) :: sl, (1000000 * nx + 1000 * i, .vec E T (List.replicate m T.dflt)) :: mem, n0, gd⟩ (addK draw ks (okeys [x, x], [.s d, .m (1000000 * nx + 1000 * i)])) Q) (hdn : Nat.blt d n = true := by rfl) :
  RG P n ops draw nx i (⟨some d, .makeSlice t x x, ty, pos, aft, none⟩ :: os) ⟨sl, mem, n0, gd⟩ ks Q := by
 subst hv
 exact rg_ok (fun ho => make_ok htt ho rfl rfl (Nat.le_of_ble_eq_true hdn) rfl hx hti hk hei T hTn hz hb hb2 _) (rg_addK h)
theorem rg_storeV {ops : Array Oper} {draw : Bool} {nx i : Nat} {t : Nat} {x y : Operand} {ty : TypeId} {pos : String} {aft : Array Edge} {os : List Oper} {sl : List (Nat × AV)} {mem : List (Nat × Blk)} {n0 : Nat} {gd : List (Nat × Bool)} {ks : List Ks} {Q : St → Prop} (htt : ttB P tt = true)
  {id m k : Nat} {E : TypeId} {T : ET} {xs : List T.den} {vy : AV} (hx : St.ev ⟨sl, mem, n0, gd⟩ x = some (.c (.Y id m k 0))) (hl : lookA id mem = some (.vec E T xs)) (hy : St.ev ⟨sl, mem, n0, gd⟩ y = some vy) (hm : T.n = m) {ag : Bool} (hts : tySz tt t = some (m, ag)) (e : T.den) (hcs : cellsAV vy = some (av T e)) (hk : k < xs.length)
  (h : RG P n ops draw nx (i + 1) os ⟨sl, (id, .vec E T (xs.set k e)) :: mem, n0, gd⟩ (addK draw ks (okeys [x, y] ++ mkeys [id], [.m id])) Q) :
  RG P n ops draw nx i (⟨none, .store t x y, ty, pos, aft, none⟩ :: os) ⟨sl, mem, n0, gd⟩ ks Q := by
 refine rg_ok (fun ho => ⟨_, _, storeV_sound htt ho rfl rfl rfl hx hy hl hm hts hcs hk _, ?_, kn_pm ⟨sl, mem, n0, gd⟩ id _, ?_, fun k hk => by simpa [keysOf] using hk⟩) (rg_addK h)
 ·intro kx hkx
  rcases List.mem_append.1 hkx with h | h
  ·rcases List.mem_append.1 h with h | h
   ·exact opd_kn _ x kx h
   ·exact opd_kn _ y kx h
  ·exact mrd_kn _ [id] kx h
 ·intro k hk
  simp only [rkeysOf, List.map_append, List.mem_append] at hk
  rcases hk with (h | h) | h
  ·exact List.mem_append_left _ (okeys_opd ⟨sl, mem, n0, gd⟩ [x, y] k (by simp only [rkeysOf, List.flatMap_cons, List.map_append, List.mem_append]; exact .inl h))
  ·exact List.mem_append_left _ (okeys_opd ⟨sl, mem, n0, gd⟩ [x, y] k (by simp only [rkeysOf, List.flatMap_cons, List.map_append, List.mem_append]; exact .inr (.inl h)))
  ·exact List.mem_append_right _ (mkeys_mrd ⟨sl, mem, n0, gd⟩ [id] k h)
end
section
variable {P : Program} {tt : TT} {n : Nat}
theorem av_length : ∀ (T : ET) (x : T.den), (av T x).length = T.n
 | .int _, _ => rfl
 | .bool, _ => rfl
 | .z, _ => rfl
 | .q, _ => rfl
 | .sl _, _ => rfl
 | .pr A B, x => by simp [av, av_length A, av_length B]
theorem relL_chunks {g : Gh} (T : ET) : ∀ (xs : List T.den) (vs : List Value), RelL g (xs.flatMap (av T)) vs → ∀ i (h : i < xs.length), RelD g.H T xs[i] ((vs.drop (i * T.n)).take T.n)
 | [], _, _, i, h => by simp at h
 | x :: xs, vs, hr, i, h => by
  rw [List.flatMap_cons] at hr
  obtain ⟨a, b, rfl, h1, h2⟩ := relL_append_split hr
  have hl : a.length = T.n := by rw [h1.length, av_length]
  cases i with
  | zero =>
   simp only [Nat.zero_mul, List.drop_zero, List.getElem_cons_zero]
   rw [List.take_append_of_le_length (by omega), List.take_of_length_le (by omega)]
   exact av_relD T x a h1
  | succ i =>
   simp only [List.getElem_cons_succ]
   rw [show (i + 1) * T.n = a.length + i * T.n by rw [Nat.add_mul, Nat.one_mul]; omega, ← List.drop_drop, List.drop_left]
   exact relL_chunks T xs b h2 i (by simpa using h)
def slPlaces (sz : Nat) : Nat → Nat → List (Nat × Nat)
 | _, 0 => []
 | k, m + 1 => (k * sz, sz) :: slPlaces sz (k + 1) m
theorem slPlaces_get (sz : Nat) : ∀ (m k i : Nat) (x : Nat × Nat), (slPlaces sz k m)[i]? = some x → x = ((k + i) * sz, sz)
 | 0, _, _, _, h => by simp [slPlaces] at h
 | m + 1, k, 0, x, h => by simp [slPlaces] at h; simp [← h]
 | m + 1, k, i + 1, x, h => by
  simp only [slPlaces, List.getElem?_cons_succ] at h
  have := slPlaces_get sz m (k + 1) i x h
  rw [this, show k + 1 + i = k + (i + 1) by omega]
def flatRep (l : List C) : Nat → List C
 | 0 => []
 | m + 1 => l ++ flatRep l m
theorem flatRep_rel {g : Gh} {l : List C} {vs : List Value} (h : RelL g l vs) : ∀ m, RelL g (flatRep l m) ((List.replicate m vs).flatten)
 | 0 => rfl
 | m + 1 => by rw [List.replicate_succ, List.flatten_cons]; exact RelL.append h (flatRep_rel h m)
theorem flatRep_mids {l : List C} (h : midsL l = []) : ∀ m, midsL (flatRep l m) = []
 | 0 => rfl
 | m + 1 => by
  have := flatRep_mids h m
  apply List.eq_nil_iff_forall_not_mem.2
  intro id hid
  rcases midsL_append _ _ id hid with h1 | h1
  ·rw [h] at h1; cases h1
  ·rw [this] at h1; cases h1
def bslC (tt : TT) (st : St) (t len : Nat) (parts : List (Nat × Operand)) : Option (Nat × TI × List C) := match lookA t tt with
 | some ti => (match ti.kind with
  | .sl E => (match lookA E tt with
   | some ei => (match fillC (slPlaces ei.size 0 len) st (flatRep (ei.zero.map ZV.toC) len) parts with
    | some cs => some (E, ei, cs)
    | none => none)
   | none => none)
  | _ => none)
 | none => none
theorem run_bsl (htt : ttB P tt = true) {F : Fix} {known : Nat → Prop} {σ : Kn} {g : Gh} {W : World} {a : Act} (hsem : Hold F known σ g W a) {st : St} {o : Oper} {t len : Nat} {parts : Array (Nat × Operand)} (hop : o.op = .buildSlice t len parts) {E : Nat} {ei : TI} {T : ET} {xs : List T.den} (hT : ei.size = T.n) (hlx : xs.length = len) (hsmall : len * T.n ≤ 16777216)
  (hv : bslC tt st t len parts.toList = some (E, ei, xs.flatMap (av T))) (hrd : ∀ kx ∈ rdV st o.op, σ kx.1 = some kx.2) :
  ∃ (vs : List Value) (cap : Nat) (W1 : World), (execOp a.eval o).run P W = .ok (.value (.slice (some ⟨W.heap.size, 0, none⟩) xs.length cap)) { W1 with heap := W.heap.push (.cells vs.toArray E (0, 0)) } ∧ W1.os = W.os ∧ W1.tape = W.tape ∧ W1.output = W.output ∧ vs.length = cap * T.n ∧ xs.length ≤ cap ∧
    ∀ i (h : i < xs.length), RelD g.H T xs[i] ((vs.drop (i * T.n)).take T.n) := by
 unfold bslC at hv
 split at hv
 ·rename_i ti hti
  split at hv
  ·rename_i E' hk
   split at hv
   ·rename_i ei' hei
    split at hv
    ·rename_i cs hcs
     simp only [Option.some.injEq, Prod.mk.injEq] at hv
     obtain ⟨rfl, rfl, rfl⟩ := hv
     have hu := (ttB_ok htt hti).kind
     rw [hk] at hu
     let ⟨inf, hinf, hisz, _, z, hz, hzc⟩ := (ttB_ok htt hei).info
     have hzc' : z.cells = (ei'.zero.map ZV.toV).toArray := by rw [← Array.toList_inj]; simpa using hzc
     let ⟨us, hu1, hu2, hu3, hu4⟩ := fill_sound hsem st (slPlaces ei'.size 0 len) (fun i => some (i * ei'.size, ei'.size)) (fun i x h => by rw [slPlaces_get _ _ _ _ _ h]; simp) parts.toList _ _ _ hcs (flatRep_rel (zeros_rel g ei'.zero) len) (fun p hp kx hkx => hrd kx (by
      rw [hop]
      refine List.mem_flatMap.2 ⟨p.2, ?_, hkx⟩
      simp only [Op.operands, List.mem_map]
      exact ⟨p, hp, rfl⟩)) (by rw [flatRep_mids (zeros_mids _)]; simp)
     have hul := hu2.length
     have hfl : ∀ ys : List T.den, (ys.flatMap (av T)).length = ys.length * T.n := by
      intro ys
      induction ys with
      | nil => simp
      | cons y ys ih => simp [av_length, ih, Nat.add_mul, Nat.add_comm]
     rw [hfl] at hul
     refine ⟨us, xs.length, W, ?_, rfl, rfl, rfl, hul, Nat.le_refl _, relL_chunks T xs us hu2⟩
     have hexec : execOp a.eval o = (do pure (.value (← Instr.buildSlice t len (parts.map fun (i, x) => (i, a.eval x))))) := by rw [execOp, hop]
     have hpm : (parts.map fun (i, x) => (i, a.eval x)).toList = parts.toList.map fun p => (p.1, a.eval p.2) := by simp
     have hzl : (ei'.zero.map ZV.toV).length = ei'.size := by simpa using (ttB_ok htt hei).zlen
     have hpos : 0 < ei'.size := by rw [hT]; exact T.n_pos
     have hzv : (zeroValue E').run P W = .ok z W := by simp [zeroValue, typeInfo, hinf, hz]
     have hcells : ((Array.range (len * ei'.size)).map (fun i => (ei'.zero.map ZV.toV).toArray[i % (ei'.zero.map ZV.toV).toArray.size]!)) = ((List.replicate len (ei'.zero.map ZV.toV)).flatten).toArray := by
      have := makeCells_eq (ei'.zero.map ZV.toV) len (by intro e; rw [e] at hzl; simp at hzl; omega)
      rw [hzl] at this
      exact this
     have hb : (Instr.buildSlice t len (parts.map fun (i, x) => (i, a.eval x))).run P W = .ok (.slice (some ⟨W.heap.size, 0, none⟩) len len) { W with heap := W.heap.push (.cells us.toArray E' (0, 0)) } := by
      unfold Instr.buildSlice
      rw [Sem.run_bind, run_underlying hu]
      simp only [Result.andThen]
      rw [Sem.run_bind, run_sizeOf hinf]
      simp only [Result.andThen, hisz]
      rw [if_neg (by rw [hT]; omega)]
      by_cases hl0 : len * ei'.size = 0
      ·have hlen0 : len = 0 := by
        rcases Nat.mul_eq_zero.1 hl0 with h | h
        ·exact h
        ·omega
       subst hlen0
       have hus : us = [] := List.eq_nil_of_length_eq_zero (by rw [hul, hlx]; simp)
       subst hus
       have hu1' := hu1
       simp only [List.replicate_zero, List.flatten_nil] at hu1'
       have hr0 : ∀ f : Nat → Value, (Array.range 0).map f = #[] := fun f => by simp
       simp only [Nat.zero_mul, if_true, pure_bind, hr0, hpm, hu1']
       rfl
      ·rw [if_neg hl0]
       simp only [pure_bind, Sem.run_bind, hzv, Result.andThen, hzc', hcells, hpm, hu1]
       rfl
     rw [hexec, Sem.run_bind, hb, hlx]
     rfl
    ·simp at hv
   ·simp at hv
  ·simp at hv
 ·simp at hv
theorem rg_bsl {ops : Array Oper} {draw : Bool} {nx i : Nat} {d t len : Nat} {parts : Array (Nat × Operand)} {ty : TypeId} {pos : String} {aft : Array Edge} {os : List Oper} {sl : List (Nat × AV)} {mem : List (Nat × Blk)} {n0 : Nat} {gd : List (Nat × Bool)} {ks : List Ks} {Q : St → Prop} (htt : ttB P tt = true)
  (T : ET) (xs : List T.den) {E : Nat} {ei : TI} (hv : bslC tt ⟨sl, mem, n0, gd⟩ t len parts.toList = some (E, ei, xs.flatMap (av T))) (hT : ei.size = T.n) (hlx : xs.length = len) (hsmall : Nat.ble (len * T.n) 16777216 = true)
  (h : RG P n ops draw nx (i + 1) os ⟨(d, .c (.S T xs)) :: sl, mem, n0, gd⟩ (addK draw ks (okeys (Op.buildSlice t len parts).operands.toList, [.s d])) Q) (hdn : Nat.blt d n = true := by rfl) :
  RG P n ops draw nx i (⟨some d, .buildSlice t len parts, ty, pos, aft, none⟩ :: os) ⟨sl, mem, n0, gd⟩ ks Q :=
 rg_ok (fun ho => newfrz_ok ho rfl rfl (Nat.le_of_ble_eq_true hdn) _ (by have := Nat.le_of_ble_eq_true hsmall; rw [hlx]; omega) (fun _ _ _ _ _ _ hsem hrd => run_bsl htt hsem rfl hT hlx (Nat.le_of_ble_eq_true hsmall) hv hrd)) (rg_addK h)
theorem rg_bslV {ops : Array Oper} {draw : Bool} {nx i : Nat} {d t len : Nat} {parts : Array (Nat × Operand)} {ty : TypeId} {pos : String} {aft : Array Edge} {os : List Oper} {sl : List (Nat × AV)} {mem : List (Nat × Blk)} {n0 : Nat} {gd : List (Nat × Bool)} {ks : List Ks} {Q : St → Prop} (htt : ttB P tt = true)
  (T : ET) (xs : List T.den) {E : Nat} {ei : TI} (hv : bslC tt ⟨sl, mem, n0, gd⟩ t len parts.toList = some (E, ei, xs.flatMap (av T))) (hT : ei.size = T.n) (hlx : xs.length = len) (hsmall : Nat.ble (len * T.n) 16777216 = true)
  (h : RG P n ops draw nx (i + 1) os ⟨(d, .c (.X (1000000 * nx + 1000 * i))) :: sl, (1000000 * nx + 1000 * i, .vec E T xs) :: mem, n0, gd⟩ (addK draw ks (okeys (Op.buildSlice t len parts).operands.toList, [.s d, .m (1000000 * nx + 1000 * i)])) Q) (hdn : Nat.blt d n = true := by rfl) :
  RG P n ops draw nx i (⟨some d, .buildSlice t len parts, ty, pos, aft, none⟩ :: os) ⟨sl, mem, n0, gd⟩ ks Q :=
 rg_ok (fun ho => newvec_ok ho rfl rfl (Nat.le_of_ble_eq_true hdn) _ (by have := Nat.le_of_ble_eq_true hsmall; rw [hlx]; omega) (fun _ _ _ _ _ _ hsem hrd => run_bsl htt hsem rfl hT hlx (Nat.le_of_ble_eq_true hsmall) hv hrd)) (rg_addK h)
end
end Go.El
