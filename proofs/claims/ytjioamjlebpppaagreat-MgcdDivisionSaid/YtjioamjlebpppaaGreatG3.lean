/- The engine, part 19: append. Own work; no condition. -/
import Derived.Deep.AppendSrc
import Derived.Deep.DeepAppendWide
import Derived.Test.YtjioamjlebpppaaGreatG2
set_option linter.unusedVariables false
set_option linter.unusedSimpArgs false
set_option linter.unnecessarySimpa false
namespace Go.El
open Go Go.RowKit
section
variable {P : Program} {tt : TT} {n : Nat}
theorem first_S {g : Gh} {T : ET} {ys : List T.den} {v : Value} (h : RelC g (.S T ys) v) :
  ∃ us : List Value, (∀ W : World, Sub g.H W → (Builtin.firstCells T.n ys.length v).run P W = .ok us.toArray W) ∧ us.length = ys.length * T.n ∧ (∀ i (h : i < ys.length), RelD g.H T ys[i] ((us.drop (i * T.n)).take T.n)) ∧ ∀ u ∈ us, oneB u = true := by
 obtain ⟨a, cap, rfl, h1, h2, h3⟩ := h
 by_cases hy : ys = []
 ·subst hy
  refine ⟨[], fun W _ => ?_, by simp, by simp, by simp⟩
  cases a with
  | none => simp [Builtin.firstCells, pure]
  | some a => simp [Builtin.firstCells, loadCells, loadCellsFrom, pure]
 ·rcases h3 with h3 | ⟨b, off, rfl, h3⟩
  ·exact absurd h3 hy
  ·let us := (List.range (ys.length * T.n)).map fun k => (g.H b (off + k)).getD undef
   have hul : us.length = ys.length * T.n := by simp [us]
   have hcell : ∀ i (hi : i < ys.length), ∃ cs, cs.length = T.n ∧ RelD g.H T ys[i] cs ∧ (us.drop (i * T.n)).take T.n = cs ∧ ∀ j (hj : j < cs.length), g.H b (off + (i * T.n + j)) = some cs[j] := by
    intro i hi
    let ⟨cs, hl, hr, hc⟩ := h3 i hi
    have hi2 : (i + 1) * T.n ≤ ys.length * T.n := Nat.mul_le_mul_right _ (by omega)
    rw [Nat.add_mul, Nat.one_mul] at hi2
    refine ⟨cs, hl, hr, ?_, fun j hj => by rw [← Nat.add_assoc]; exact hc j hj⟩
    apply List.ext_getElem
    ·simp [us]; omega
    ·intro j hj1 hj2
     simp only [List.getElem_take, List.getElem_drop, us, List.getElem_map, List.getElem_range]
     rw [← Nat.add_assoc, hc j hj2]
     rfl
   have hall : ∀ k (hk : k < us.length), ∃ v, g.H b (off + k) = some v ∧ us[k] = v ∧ oneB v = true := by
    intro k hk
    have hpos := T.n_pos
    have hk' : k < ys.length * T.n := by omega
    have hq : k / T.n < ys.length := Nat.div_lt_of_lt_mul (by rw [Nat.mul_comm]; exact hk')
    have hm : k % T.n < T.n := Nat.mod_lt _ hpos
    let ⟨cs, hl, hr, hch, hc⟩ := hcell (k / T.n) hq
    have hkk : k / T.n * T.n + k % T.n = k := by rw [Nat.mul_comm]; exact Nat.div_add_mod k T.n
    have := hc (k % T.n) (by omega)
    rw [hkk] at this
    refine ⟨_, this, ?_, ?_⟩
    ·simp only [us, List.getElem_map, List.getElem_range, this, Option.getD_some]
    ·exact (relD_av (g := g) T _ _ hr).one (av_okC T _) _ (List.getElem_mem _)
   refine ⟨us, fun W hsub => ?_, hul, fun i hi => ?_, fun u hu => ?_⟩
   ·simp only [Builtin.firstCells, loadCells]
    have := run_loadCellsFrom (P := P) (W := W) b (ys.length * T.n) 0 off us #[] hul (fun j hj => by
     let ⟨v, h4, h5, _⟩ := hall j hj
     rw [Nat.add_zero, hsub _ _ _ h4, h5])
    simpa using this
   ·let ⟨cs, hl, hr, hch, _⟩ := hcell i hi
    rw [hch]; exact hr
   ·obtain ⟨k, hk, rfl⟩ := List.getElem_of_mem hu
    let ⟨v, _, h5, h6⟩ := hall k hk
    rw [h5]; exact h6
theorem run_append_place {W : World} {t1 t2 ty E E2 : TypeId} {inf : TypeInfo} (hu1 : P.underlying t1 = some (.slice E)) (hu2 : P.underlying t2 = some (.slice E2)) (hi : P.info? E = some inf) {b sLen sCap : Nat} {y : Value} {m : Nat} (hm : (Builtin.lenOf y).run P W = .ok m W)
  {us vs : List Value} {Eb : TypeId} (hus : (Builtin.firstCells inf.size m y).run P W = .ok us.toArray W) (hh : W.heap[b]? = some (.cells vs.toArray Eb (0, 0))) (hone : ∀ u ∈ us, oneB u = true) (hle : sLen + m ≤ sCap) (hfit : sLen * inf.size + us.length ≤ vs.length) :
  (Builtin.append_ #[t1, t2] ty #[.slice (some ⟨b, 0, none⟩) sLen sCap, y]).run P W = .ok (.slice (some ⟨b, 0, none⟩) (sLen + m) sCap) (setBlk W b (over vs us (sLen * inf.size)) Eb) := by
 have hst := run_storeCells (P := P) b us W vs (sLen * inf.size) 0 hh (by omega) hone
 simp only [Nat.add_zero] at hst
 unfold Builtin.append_
 simp only [List.getElem?_toArray, List.getElem?_cons_zero, List.getElem?_cons_succ]
 rw [Sem.run_bind, run_underlying hu1]
 simp only [Result.andThen]
 rw [Sem.run_bind, run_sizeOf hi]
 simp only [Result.andThen]
 rw [Sem.run_bind, run_underlying hu2]
 simp only [Result.andThen, pure_bind, Bool.false_eq_true, if_false, Bool.not_false, if_true]
 rw [Sem.run_bind, hm]
 simp only [Result.andThen, hle, if_true]
 rw [Sem.run_bind, hus]
 simp only [Result.andThen, add_none, Nat.zero_add]
 rw [Sem.run_bind, hst]
 rfl
def VecR (N : Nat → Prop) (g : Gh) (W : World) (E : TypeId) (T : ET) (xs : List T.den) (v : Value) : Prop :=
 (v = .slice none 0 0 ∧ xs = []) ∨ ∃ b cap, ∃ vs : List Value, v = .slice (some ⟨b, 0, none⟩) xs.length cap ∧ W.heap[b]? = some (.cells vs.toArray E (0, 0)) ∧
   vs.length = cap * T.n ∧ xs.length ≤ cap ∧ xs.length * T.n ≤ 140737488355328 ∧ (∀ i (h : i < xs.length), RelD g.H T xs[i] ((vs.drop (i * T.n)).take T.n)) ∧ N b ∧ ∀ o, g.H b o = none
theorem chunk_take {α : Type} (vs : List α) (n i m : Nat) (h : i < m) : ((vs.take (m * n)).drop (i * n)).take n = (vs.drop (i * n)).take n := by
 have h1 : (i + 1) * n ≤ m * n := Nat.mul_le_mul_right _ h
 rw [Nat.add_mul, Nat.one_mul] at h1
 rw [List.drop_take, List.take_take]
 congr 1
 omega
theorem chunk_append {α : Type} (us vs : List α) (n m i : Nat) (hl : us.length = m * n) (h : m ≤ i) : ((us ++ vs).drop (i * n)).take n = (vs.drop ((i - m) * n)).take n := by
 have h1 : m * n ≤ i * n := Nat.mul_le_mul_right _ h
 rw [List.drop_append, List.drop_eq_nil_of_le (by omega), List.nil_append, hl, Nat.sub_mul]
theorem chunk_left {α : Type} (us vs : List α) (n m i : Nat) (hl : us.length = m * n) (h : i < m) : ((us ++ vs).drop (i * n)).take n = (us.drop (i * n)).take n := by
 have h1 : (i + 1) * n ≤ m * n := Nat.mul_le_mul_right _ h
 rw [Nat.add_mul, Nat.one_mul] at h1
 rw [List.drop_append_of_le_length (by omega), List.take_append_of_le_length (by simp; omega)]
theorem rel_both {H : FH} {T : ET} {xs ys : List T.den} {os us rest : List Value} (ho : os.length = xs.length * T.n) (hu : us.length = ys.length * T.n) (h1 : ∀ i (h : i < xs.length), RelD H T xs[i] ((os.drop (i * T.n)).take T.n)) (h2 : ∀ i (h : i < ys.length), RelD H T ys[i] ((us.drop (i * T.n)).take T.n)) :
  ∀ i (h : i < (xs ++ ys).length), RelD H T (xs ++ ys)[i] (((os ++ us ++ rest).drop (i * T.n)).take T.n) := by
 intro i hi
 rw [List.getElem_append]
 split
 ·rename_i h
  rw [List.append_assoc, chunk_left os _ T.n xs.length i ho h]
  exact h1 i h
 ·rename_i h
  simp only [List.length_append] at hi
  rw [List.append_assoc, chunk_append os _ T.n xs.length i ho (by omega), chunk_left us _ T.n ys.length _ hu (by omega)]
  exact h2 _ (by omega)
theorem append_run {N : Nat → Prop} {g : Gh} {W : World} (hsub : Sub g.H W) {E E2 t1 t2 ty : TypeId} {T : ET} {xs ys : List T.den} {v y : Value} {inf : TypeInfo} {z : Value} (hu1 : P.underlying t1 = some (.slice E)) (hu2 : P.underlying t2 = some (.slice E2)) (hi : P.info? E = some inf) (hz : inf.zero = some z) (hzs : z.cells.size = inf.size) (hT : inf.size = T.n)
  (hv : VecR N g W E T xs v) (hy : RelC g (.S T ys) y) (hb : ((xs.length + ys.length) + (xs.length + ys.length) / 4 + 192) * inf.bytes ≤ 281474976710656) (hb2 : (xs.length + ys.length) * T.n ≤ 140737488355328) (hN : N W.heap.size) :
  ∃ v' W', (Builtin.append_ #[t1, t2] ty #[v, y]).run P W = .ok v' W' ∧ VecR N g W' E T (xs ++ ys) v' ∧ W.heap.size ≤ W'.heap.size ∧ (∀ k, k < W.heap.size → blk v ≠ some k → W'.heap[k]? = W.heap[k]?) ∧ W'.os = W.os ∧ W'.tape = W.tape ∧ W'.output = W.output ∧ Sub g.H W' ∧ (∀ k, blk v' = some k → W.heap.size ≤ k ∨ blk v = some k) := by
 let ⟨us, husA, hul, hur, huo⟩ := first_S (P := P) hy
 have hsubD : Sub g.H W.drew := hsub
 have hus := husA W hsub
 have husD := husA W.drew hsubD
 have hHnone : ∀ o, g.H W.heap.size o = none := by
  intro o
  cases hv : g.H W.heap.size o with
  | none => rfl
  | some v =>
   have := World.block_lt_of_cell? W _ (hsub _ _ _ hv)
   simp at this
 have hlen : ∀ w' : World, (Builtin.lenOf y).run P w' = .ok ys.length w' := by
  obtain ⟨a, cap, rfl, _⟩ := hy
  intro w'; rfl
 have hpos := T.n_pos
 have hgrow : ∀ (base : Option Addr) (sCap : Nat) (olds : List Value), v = .slice base xs.length sCap → (Builtin.firstCells inf.size xs.length (.slice base xs.length sCap)).run P W.drew = .ok olds.toArray W.drew → olds.length = xs.length * T.n → (∀ i (h : i < xs.length), RelD g.H T xs[i] ((olds.drop (i * T.n)).take T.n)) → sCap < xs.length + ys.length →
   ∃ v' W', (Builtin.append_ #[t1, t2] ty #[v, y]).run P W = .ok v' W' ∧ VecR N g W' E T (xs ++ ys) v' ∧ W.heap.size ≤ W'.heap.size ∧ (∀ k, k < W.heap.size → blk v ≠ some k → W'.heap[k]? = W.heap[k]?) ∧ W'.os = W.os ∧ W'.tape = W.tape ∧ W'.output = W.output ∧ Sub g.H W' ∧ (∀ k, blk v' = some k → W.heap.size ≤ k ∨ blk v = some k) := by
  intro base sCap olds hv hold hol hor hlt
  subst hv
  have hsrc : Src P inf.size t2 y ys.length us W := ⟨.inl ⟨_, hu2⟩, hlen, by rw [hT]; exact hus, by rw [hT]; exact husD, by rw [hT]; exact hul, fun u hu => by have := huo u hu; revert this; cases u <;> simp [oneB, Value.oneCell']⟩
  have hlt63 : ((xs.length + ys.length : Nat) : Int) ≤ 9223372036854775807 := by
   have : (xs.length + ys.length) * 1 ≤ (xs.length + ys.length) * T.n := Nat.mul_le_mul_left _ hpos
   omega
  have hr := run_append_grow_src (P := P) W t1 t2 ty E inf z hu1 hi hz base xs.length sCap olds hold y ys.length us hsrc hlt hlt63 (growslice_fits_wide hlt hb)
  have hcap := grownCap_ge W (xs.length + ys.length) sCap E
  refine ⟨_, _, hr, .inr ⟨W.heap.size, grownCap W (xs.length + ys.length) sCap E, olds ++ us ++ (Builtin.zeroCells z.cells (grownCap W (xs.length + ys.length) sCap E - (xs.length + ys.length))).toList, by simp, by rw [show W.heap.size = W.drew.heap.size from rfl, heap_alloc_new]; congr 2; apply Array.ext'; simp, ?_, by simpa using hcap, by simpa using hb2, rel_both hol hul hor hur, hN, hHnone⟩, by simp, ?_, rfl, rfl, rfl, ?_, ?_⟩
  ·simp only [List.length_append, hol, hul, Array.length_toList, size_zeroCells, hzs, hT, ← Nat.add_mul]
   congr 1
   omega
  ·intro k hk _
   exact heap_alloc_old W.drew _ hk
  ·exact Sub_push hsubD _
  ·intro k hk
   simp only [blk, Option.some.injEq] at hk
   exact .inl (by omega)
 rcases hv with ⟨rfl, rfl⟩ | ⟨b, cap, vs, rfl, hh, hvl, hle, hlen2, hr, hNb, hH⟩
 ·by_cases hys : ys = []
  ·subst hys
   refine ⟨.slice none 0 0, W, ?_, .inl ⟨rfl, rfl⟩, Nat.le_refl _, fun _ _ _ => rfl, rfl, rfl, rfl, hsub, by simp [blk]⟩
   have h0 : us = [] := List.eq_nil_of_length_eq_zero (by simpa using hul)
   subst h0
   rw [← hT] at hus
   simp [Builtin.append_, run_underlying hu1, run_underlying hu2, sizeOf, typeInfo, hi, hlen]
   have h3 : (Builtin.firstCells inf.size 0 y).run P W = .ok #[] W := by simpa using hus
   rw [h3]; rfl
  ·have := List.length_pos_iff.2 hys
   exact hgrow none 0 [] rfl (run_firstCells_none W.drew _ 0 0 0) (by simp) (by simp) (by simpa using this)
 ·by_cases hroom : xs.length + ys.length ≤ cap
  ·have hb' : b < W.heap.size := (Array.getElem?_eq_some_iff.1 hh).1
   have hfit : xs.length * inf.size + us.length ≤ vs.length := by rw [hul, hvl, hT, ← Nat.add_mul]; exact Nat.mul_le_mul_right _ hroom
   have hrun := run_append_place (P := P) (ty := ty) hu1 hu2 hi (hlen W) (by rw [hT]; exact hus) hh huo hroom hfit
   refine ⟨_, _, hrun, .inr ⟨b, cap, over vs us (xs.length * inf.size), by simp, setBlk_at hb', by rw [over_length _ _ _ hfit]; exact hvl, by simpa using hroom, by simpa using hb2, ?_, hNb, hH⟩, by simp [setBlk], ?_, rfl, rfl, rfl, Sub_setBlk hsub hH, ?_⟩
   ·unfold over
    rw [hT]
    refine rel_both ?_ hul (fun i hi => ?_) hur
    ·simp only [List.length_take]; rw [hvl]
     have := Nat.mul_le_mul_right T.n hle
     omega
    ·rw [chunk_take _ _ _ _ hi]; exact hr i hi
   ·intro k _ hk
    exact setBlk_ne (fun e => hk (by simp [blk, e]))
   ·intro k hk
    exact .inr hk
  ·have hle' := Nat.mul_le_mul_right T.n hle
   have htl : (vs.take (xs.length * T.n)).length = xs.length * T.n := by rw [List.length_take, hvl]; omega
   refine hgrow (some ⟨b, 0, none⟩) cap (vs.take (xs.length * T.n)) rfl ?_ htl (fun i hi => by rw [chunk_take _ _ _ _ hi]; exact hr i hi) (by omega)
   rw [hT]
   refine run_firstCells_some W.drew T.n xs.length ⟨b, 0, none⟩ xs.length cap _ htl ?_
   intro j u hj
   let ⟨hj1, hj2⟩ := List.getElem?_eq_some_iff.1 hj
   simp only [List.getElem_take] at hj2
   simp only [add_none, Nat.zero_add]
   have hh' : W.drew.heap[b]? = some (.cells vs.toArray E (0, 0)) := hh
   rw [cell_of_block hh' j (by simp at hj1; omega), hj2]
theorem run_callB {a : Act} {o : Oper} {b : Builtin} {args : Array Operand} {tys : Array TypeId} (hop : o.op = .call ⟨.builtin b, args, tys⟩) {W W' : World} {v : Value} (h : ∀ cs, (Go.builtin b tys o.type cs (args.map a.eval)).run P W = .ok (.value v) W') : (execOp a.eval o).run P W = .ok (.value v) W' := by
 rw [execOp, hop]
 simp only [resolve, pure_bind, invoke]
 exact h _
def drops : List Nat → List (Key × Option Info)
 | [] => []
 | id :: r => (.m id, none) :: drops r
def delAll : List Nat → List (Nat × Blk) → List (Nat × Blk)
 | [], l => l
 | id :: r, l => delAll r (delA id l)
theorem says_drops_s (ids : List Nat) (t : Nat) : says (drops ids) (.s t) = none := by
 induction ids with
 | nil => rfl
 | cons id r ih => simp [drops, says, ih]
theorem says_drops_m (j : Nat) : ∀ (ids : List Nat), says (drops ids) (.m j) = if j ∈ ids then some none else none
 | [] => by simp [drops, says]
 | id :: r => by
  simp only [drops, says, Key.m.injEq, List.mem_cons]
  by_cases h : id = j
  ·simp [h]
  ·rw [if_neg h, says_drops_m j r]
   by_cases h2 : j ∈ r
   ·simp [h2]
   ·have : ¬ (j = id ∨ j ∈ r) := by rintro (e | e); exact h e.symm; exact h2 e
    rw [if_neg h2, if_neg this]
theorem look_delAll (j : Nat) : ∀ (ids : List Nat) (l : List (Nat × Blk)), lookA j (delAll ids l) = if j ∈ ids then none else lookA j l
 | [], l => by simp [delAll]
 | id :: r, l => by
  simp only [delAll]
  rw [look_delAll j r, lookA_del]
  by_cases h : id = j
  ·simp [h]
  ·have : ¬ (j = id) := fun e => h e.symm
   simp [h, this]
theorem kn_app (st : St) (d new : Nat) (ids : List Nat) (x : AV) (b : Blk) : (⟨(d, x) :: st.sl, (new, b) :: delAll ids st.mem, st.nx, st.gd⟩ : St).kn = upd st.kn ((.s d, some (.v x)) :: (.m new, some (.b b)) :: drops ids) := by
 funext k
 cases k with
 | s t =>
  by_cases e : d = t
  ·simp [St.kn, lookA, upd, says, e]
  ·simp [St.kn, lookA, upd, says, e, says_drops_s]
 | m j =>
  by_cases e : new = j
  ·simp [St.kn, lookA, upd, says, e]
  ·simp only [St.kn, lookA, upd, says, e, reduceCtorEq, Key.m.injEq, if_false, look_delAll, says_drops_m]
   split <;> simp
theorem app_ok (htt : ttB P tt = true) {ops : Array Oper} {i : Nat} {o : Oper} {d : Nat} (ho : ops[i]? = some o) (hg : o.guard = none) (hd : o.dst = some d) {n : Nat} (hdn : d < n) {x y : Operand} {t1 t2 : TypeId} (hop : o.op = .call ⟨.builtin .append, #[x, y], #[t1, t2]⟩)
  {st : St} {ids : List Nat} {E E2 : TypeId} {T : ET} {xs ys : List T.den} (hx : (∃ id, ids = [id] ∧ st.ev x = some (.c (.X id)) ∧ lookA id st.mem = some (.vec E T xs)) ∨ (ids = [] ∧ st.ev x = some (.c (.V (.slice none 0 0))) ∧ xs = []))
  (hy : st.ev y = some (.c (.S T ys))) {ti ti2 ei : TI} (hti : lookA t1 tt = some ti) (hk : ti.kind = .sl E) (hti2 : lookA t2 tt = some ti2) (hk2 : ti2.kind = .sl E2) (hei : lookA E tt = some ei) (hTn : ei.size = T.n) (hzl : ei.zero.length = T.n)
  (hb : ((xs.length + ys.length) + (xs.length + ys.length) / 4 + 192) * ei.bytes ≤ 281474976710656) (hb2 : (xs.length + ys.length) * T.n ≤ 140737488355328) (new : Nat) :
  StepOk P n ops i st ⟨(d, .c (.X new)) :: st.sl, (new, .vec E T (xs ++ ys)) :: delAll ids st.mem, st.nx, st.gd⟩ new (okeys [x, y] ++ mkeys ids, .s d :: .m new :: mkeys ids) := by
 refine ⟨opd st x ++ opd st y ++ mrd st ids, (.s d, some (.v (.c (.X new)))) :: (.m new, some (.b (.vec E T (xs ++ ys)))) :: drops ids, ?_, ?_, kn_app st d new ids _ _, ?_, ?_⟩
 ·intro F hFn Q known σ g W a K hnew hsem hrd hK
  have hry : RelC g (.S T ys) (a.eval y) := ev_rel hsem st y _ hy (fun kx hkx => hrd kx (by simp [hkx]))
  have hv : VecR F.N g W E T xs (a.eval x) ∧ (∀ k, blk (a.eval x) = some k → ∃ id b, ids = [id] ∧ σ (.m id) = some (.b b) ∧ blk (g.γ id) = some k) := by
   rcases hx with ⟨id, rfl, hx, hl⟩ | ⟨rfl, hx, rfl⟩
   ·have hrx : a.eval x = g.γ id := ev_rel hsem st x _ hx (fun kx hkx => hrd kx (by simp [hkx]))
    have hσ : σ (.m id) = some (.b (.vec E T xs)) := hrd (.m id, .b (.vec E T xs)) (by simp [mrd, hl])
    rw [hrx]
    exact ⟨hsem.blks id _ hσ, fun k hk => ⟨id, _, rfl, hσ, hk⟩⟩
   ·have hrx : a.eval x = .slice none 0 0 := ev_rel hsem st x _ hx (fun kx hkx => hrd kx (by simp [hkx]))
    rw [hrx]
    exact ⟨.inl ⟨rfl, rfl⟩, by simp [blk]⟩
  let ⟨hv, hbl⟩ := hv
  have h1 := (ttB_ok htt hti).kind
  rw [hk] at h1
  have h2 := (ttB_ok htt hti2).kind
  rw [hk2] at h2
  let ⟨inf, hinf, hisz, hiby, z, hzz, hzc⟩ := (ttB_ok htt hei).info
  have hzs : z.cells.size = inf.size := by
   have : z.cells.toList.length = (ei.zero.map ZV.toV).length := by rw [hzc]
   simp only [Array.length_toList, List.length_map] at this
   omega
  let ⟨v', W', hrun, hvec, hsz, hheap, e1, e2, e3, hsub, hblk⟩ := append_run (P := P) (ty := o.type) hsem.sub h1 h2 hinf hzz hzs (by omega) hv hry (by rw [hiby]; exact hb) hb2 (.inl hsem.below.size)
  unfold wpOp
  simp only [ho, Region.wanted, hg, if_true]
  refine .inl ?_
  unfold Oper.wp
  rw [run_callB hop (W' := W') (v := v') (by
   have e : (#[x, y] : Array Operand).map a.eval = #[a.eval x, a.eval y] := by simp
   intro cs
   rw [e]
   simp only [Go.builtin, Sem.run_bind, hrun, Result.andThen]
   rfl)]
  simp only [Oper.upon, hd]
  have hszd : d < a.tmps.size := by rw [hsem.size, hFn]; exact hdn
  let g' : Gh := ⟨g.H, fun id => if id = new then v' else g.γ id⟩
  have hGle : GLe known g g' := ⟨FLe.refl _, fun id hid => by
   have : id ≠ new := fun e => hnew (e ▸ hid)
   simp [g', this]⟩
  have hidk : ∀ id ∈ ids, ∃ b, σ (.m id) = some (.b b) := by
   intro id hid
   rcases hx with ⟨id', rfl, hx, hl⟩ | ⟨rfl, _⟩
   ·simp only [List.mem_singleton] at hid; subst hid
    exact ⟨_, hrd (.m id, .b (.vec E T xs)) (by simp [mrd, hl])⟩
   ·cases hid
  have hnn : ∀ id ∈ ids, id ≠ new := fun id hid e => by
   let ⟨b, hb⟩ := hidk id hid
   exact hnew (e ▸ hsem.mkn _ _ hb)
  refine hK g' _ _ (hsem.step (chg := fun j => j ∈ ids) (g' := g') ⟨hGle, fun _ _ _ => rfl, hsub, hsz, ?_, e1, e2, e3⟩ _ new hnew (by simp [Act.put]) hsem.defers ?_ ?_ ?_ ?_ ?_ ?_)
  ·intro k hk hne
   refine hheap k hk (fun e => ?_)
   obtain ⟨id, b, rfl, hσ, hkk⟩ := hbl k e
   exact hne id (by simp) hkk
  ·intro t ht
   have hne : d ≠ t := by intro e; subst e; simp [says] at ht
   simp [Act.put, Array.getElem?_setIfInBounds_ne hne]
  ·intro id hid
   refine ⟨?_, hidk id hid⟩
   simp only [says, reduceCtorEq, if_false, Key.m.injEq, says_drops_m, hid, if_true]
   split <;> simp
  ·intro t u ht
   simp only [says] at ht
   split at ht
   ·rename_i e
    simp only [Key.s.injEq] at e
    simp only [Option.some.injEq, Info.v.injEq] at ht
    subst e; subst ht
    simp [Act.put, hszd, RelV, RelC, g']
   ·simp [says_drops_s] at ht
  ·intro id b ht
   simp only [says, reduceCtorEq, if_false] at ht
   split at ht
   ·rename_i e
    simp only [Key.m.injEq] at e
    subst e
    simp only [Option.some.injEq, Info.b.injEq] at ht
    subst ht
    have hr : VecR F.N g' W' E T (xs ++ ys) (g'.γ new) := by
     have e : g'.γ new = v' := by simp [g']
     rw [e]; exact hvec
    refine ⟨hr, .inr ⟨rfl, fun k hk => ?_⟩⟩
    simp only [g', if_true] at hk
    rcases hblk k hk with h | h
    ·exact .inl h
    ·let ⟨id, b, hids, hσ, hkk⟩ := hbl k h
     refine .inr ⟨id, b, hσ, ?_, hkk⟩
     have hne := hnn id (by simp [hids])
     simp only [says, reduceCtorEq, if_false, Key.m.injEq, Ne.symm hne, says_drops_m]
     simp [hids]
   ·rw [says_drops_m] at ht
    split at ht <;> simp at ht
  ·intro k y ht
   simp only [says] at ht
   split at ht
   ·simp only [Option.some.injEq] at ht
    subst ht
    intro id hid
    simp [Info.mids, AV.mids, C.mids] at hid
    exact .inr hid
   ·split at ht
    ·simp only [Option.some.injEq] at ht
     subst ht
     intro id hid
     simp [Info.mids, Blk.mids] at hid
    ·cases k with
     | s t => simp [says_drops_s] at ht
     | m j => rw [says_drops_m] at ht; split at ht <;> simp at ht
  ·intro id y ht
   simp only [says, reduceCtorEq, if_false] at ht
   split at ht
   ·rename_i e
    simp only [Key.m.injEq] at e
    exact .inr e.symm
   ·rw [says_drops_m] at ht; split at ht <;> simp at ht
 ·intro kx hkx
  rcases List.mem_append.1 hkx with h | h
  ·rcases List.mem_append.1 h with h | h
   ·exact opd_kn _ x kx h
   ·exact opd_kn _ y kx h
  ·exact mrd_kn _ ids kx h
 ·intro k hk
  simp only [rkeysOf, List.map_append, List.mem_append] at hk
  rcases hk with (h | h) | h
  ·exact List.mem_append_left _ (okeys_opd st [x, y] k (by simp only [rkeysOf, List.flatMap_cons, List.map_append, List.mem_append]; exact .inl h))
  ·exact List.mem_append_left _ (okeys_opd st [x, y] k (by simp only [rkeysOf, List.flatMap_cons, List.map_append, List.mem_append]; exact .inr (.inl h)))
  ·exact List.mem_append_right _ (mkeys_mrd st ids k h)
 ·have hd : ∀ ids : List Nat, keysOf (drops ids) = mkeys ids := by
   intro ids
   induction ids with
   | nil => rfl
   | cons id r ih => simp only [drops, keysOf, List.map_cons, mkeys] at ih ⊢; rw [ih]
  intro k hk
  have : keysOf ((.s d, some (.v (.c (.X new)))) :: (.m new, some (.b (.vec E T (xs ++ ys)))) :: drops ids) = .s d :: .m new :: mkeys ids := by
   rw [← hd ids]; rfl
  rw [← this]; exact hk
theorem rg_app {ops : Array Oper} {draw : Bool} {nx i : Nat} {d : Nat} {x y : Operand} {t1 t2 ty : TypeId} {pos : String} {aft : Array Edge} {os : List Oper} {sl : List (Nat × AV)} {mem : List (Nat × Blk)} {n0 : Nat} {gd : List (Nat × Bool)} {ks : List Ks} {Q : St → Prop} (htt : ttB P tt = true)
  {id : Nat} {E E2 : TypeId} {T : ET} {xs ys : List T.den} (hx : St.ev ⟨sl, mem, n0, gd⟩ x = some (.c (.X id))) (hl : lookA id mem = some (.vec E T xs))
  (hy : St.ev ⟨sl, mem, n0, gd⟩ y = some (.c (.S T ys))) {ti ti2 ei : TI} (hti : lookA t1 tt = some ti) (hk : ti.kind = .sl E) (hti2 : lookA t2 tt = some ti2) (hk2 : ti2.kind = .sl E2) (hei : lookA E tt = some ei) (hTn : ei.size = T.n) (hzl : ei.zero.length = T.n)
  (hb : ((xs.length + ys.length) + (xs.length + ys.length) / 4 + 192) * ei.bytes ≤ 281474976710656) (hb2 : (xs.length + ys.length) * T.n ≤ 140737488355328)
  (h : RG P n ops draw nx (i + 1) os ⟨(d, .c (.X (1000000 * nx + 1000 * i))) :: sl, (1000000 * nx + 1000 * i, .vec E T (xs ++ ys)) :: delA id mem, n0, gd⟩ (addK draw ks (okeys [x, y] ++ mkeys [id], [.s d, .m (1000000 * nx + 1000 * i), .m id])) Q) (hdn : Nat.blt d n = true := by rfl) :
  RG P n ops draw nx i (⟨some d, .call ⟨.builtin .append, #[x, y], #[t1, t2]⟩, ty, pos, aft, none⟩ :: os) ⟨sl, mem, n0, gd⟩ ks Q :=
 rg_ok (fun ho => app_ok htt ho rfl rfl (Nat.le_of_ble_eq_true hdn) rfl (.inl ⟨id, rfl, hx, hl⟩) hy hti hk hti2 hk2 hei hTn hzl hb hb2 _) (rg_addK h)
theorem rg_appN {ops : Array Oper} {draw : Bool} {nx i : Nat} {d : Nat} {x y : Operand} {t1 t2 ty : TypeId} {pos : String} {aft : Array Edge} {os : List Oper} {sl : List (Nat × AV)} {mem : List (Nat × Blk)} {n0 : Nat} {gd : List (Nat × Bool)} {ks : List Ks} {Q : St → Prop} (htt : ttB P tt = true)
  {E E2 : TypeId} {T : ET} {ys : List T.den} (hx : St.ev ⟨sl, mem, n0, gd⟩ x = some (.c (.V (.slice none 0 0))))
  (hy : St.ev ⟨sl, mem, n0, gd⟩ y = some (.c (.S T ys))) {ti ti2 ei : TI} (hti : lookA t1 tt = some ti) (hk : ti.kind = .sl E) (hti2 : lookA t2 tt = some ti2) (hk2 : ti2.kind = .sl E2) (hei : lookA E tt = some ei) (hTn : ei.size = T.n) (hzl : ei.zero.length = T.n)
  (hb : (ys.length + ys.length / 4 + 192) * ei.bytes ≤ 281474976710656) (hb2 : ys.length * T.n ≤ 140737488355328)
  (h : RG P n ops draw nx (i + 1) os ⟨(d, .c (.X (1000000 * nx + 1000 * i))) :: sl, (1000000 * nx + 1000 * i, .vec E T ys) :: mem, n0, gd⟩ (addK draw ks (okeys [x, y], [.s d, .m (1000000 * nx + 1000 * i)])) Q) (hdn : Nat.blt d n = true := by rfl) :
  RG P n ops draw nx i (⟨some d, .call ⟨.builtin .append, #[x, y], #[t1, t2]⟩, ty, pos, aft, none⟩ :: os) ⟨sl, mem, n0, gd⟩ ks Q :=
 rg_ok (fun ho => app_ok (xs := []) (ids := []) htt ho rfl rfl (Nat.le_of_ble_eq_true hdn) rfl (.inr ⟨rfl, hx, rfl⟩) hy hti hk hti2 hk2 hei hTn hzl (by simpa using hb) (by simpa using hb2) _) (rg_addK (by simpa [mkeys, delAll] using h))
end
def elSz (tt : TT) (t : Nat) : Option Nat := match lookA t tt with
 | some ti => (match ti.kind with
  | .sl e => (match lookA e tt with | some ei => some ei.size | none => none)
  | _ => none)
 | none => none
def idxL (tt : TT) (t : Nat) (x i : AV) : Option (AV × Pr) := match x, i with
 | .c (.L id off len _), .c (.I _ k) => (match elSz tt t with
  | some sz => some (.c (.P id (off + k.toNat * sz)), .and (.le 0 k) (.lt k len))
  | none => none)
 | _, _ => none
def bndL (m : Nat) : Option AV → Nat → Option (Nat × Pr)
 | none, d => some (d, .t)
 | some (.c (.I _ k)), _ => some (k.toNat, .and (.le 0 k) (.le k m))
 | _, _ => none
def sliceL (tt : TT) (t : Nat) (x : AV) (lo hi mx : Option AV) : Option (AV × Pr) := match x, elSz tt t with
 | .c (.L id off len (some c)), some sz => (match bndL c mx c with
  | some (m, p1) => (match (if mx.isSome && !hi.isSome then none else bndL m hi len) with
   | some (h, p2) => (match bndL h lo 0 with
    | some (l, p3) => some (.c (.L id (if m = l then off else off + l * sz) (h - l) (some (m - l))), .an p1 (.an p2 p3))
    | none => none)
   | none => none)
  | none => none)
 | .c (.L id off len none), some _ => (match lo, mx with
  | none, none => (match bndL len hi len with
   | some (h, p) => some (.c (.L id off h none), p)
   | none => none)
  | _, _ => none)
 | .c (.V (.slice none 0 0)), some _ => (match mx, bndL 0 hi 0 with
  | none, some (h, p) => (match bndL h lo 0 with
   | some (_, q) => some (.c (.V (.slice none 0 0)), .an p q)
   | none => none)
  | _, _ => none)
 | _, _ => none
def lenL (tt : TT) (t : Nat) (x : AV) : Option AV := match lookA t tt with
 | some ti => (match ti.kind with
  | .sl _ => (match x with
   | .c (.L _ _ len _) => some (.c (.I .i64 len))
   | _ => none)
  | _ => none)
 | none => none
def pickL (c x y : Option AV) : Option (AV × Pr) := match c, x, y with
 | some (.c (.B true)), some v, _ => some (v, .t)
 | some (.c (.B false)), _, some v => some (v, .t)
 | _, _, _ => none
def evalL (tt : TT) (st : St) : Op → Option (AV × Pr)
 | .pick c x y => pickL (st.ev c) (st.ev x) (st.ev y)
 | .indexAddr t x i => (match st.ev x, st.ev i with | some v, some w => idxL tt t v w | _, _ => none)
 | .slice t x lo hi mx => (match st.ev x, optev st lo, optev st hi, optev st mx with | some v, some l, some h, some m => sliceL tt t v l h m | _, _, _, _ => none)
 | .call ⟨.builtin .len, args, tys⟩ => (match args.toList, tys.toList with
  | [x], [t] => (match st.ev x with | some v => (match lenL tt t v with | some u => some (u, .t) | none => none) | none => none)
  | _, _ => none)
 | _ => none
section
variable {P : Program} {tt : TT} {g : Gh} {W : World}
theorem elSz_ok (htt : ttB P tt = true) {t n : Nat} (h : elSz tt t = some n) : ∃ e i, P.underlying t = some (.slice e) ∧ P.info? e = some i ∧ i.size = n := by
 refine slTy_ok htt ?_
 unfold elSz at h
 unfold slTy
 split at h
 ·rename_i ti hl
  split at h
  ·rename_i e hk
   split at h
   ·rename_i ei he
    have h' : ei.size = n := Option.some.inj h
    simp [hl, hk, he, h']
   ·simp at h
  ·simp at h
 ·simp at h
theorem idxL_sound (htt : ttB P tt = true) {t : Nat} {x i y : AV} {p : Pr} (h : idxL tt t x i = some (y, p)) (hp : p) {v u : Value} (hv : RelV g x v) (hu : RelV g i u) : (∃ z, (Instr.indexAt t v u).run P W = .ok z W ∧ RelV g y z) ∧ ∀ id ∈ y.mids, id ∈ x.mids := by
 unfold idxL at h
 split at h
 ·rename_i id off len cap k' k
  split at h
  ·rename_i sz hsz
   simp only [Option.some.injEq, Prod.mk.injEq] at h
   obtain ⟨rfl, rfl⟩ := h
   let ⟨e, i, hue, hi, hs⟩ := elSz_ok htt hsz
   have hu' : u = .int k' k := hu
   subst hu'
   have hcond : 0 ≤ k ∧ k < (len : Int) := hp
   have hv' : ∃ b c, blk (g.γ id) = some b ∧ v = .slice (some ⟨b, off, none⟩) len c := by
    cases cap with
    | some c => let ⟨b, h1, h2⟩ := hv; exact ⟨b, c, h1, h2⟩
    | none => let ⟨h0, b, c, h1, h2, _⟩ := hv; subst h0; exact ⟨b, c, by rw [h1]; rfl, h2⟩
   obtain ⟨b, c, hb, rfl⟩ := hv'
   refine ⟨⟨.pointer (some ⟨b, off + k.toNat * sz, none⟩), ?_, b, hb, rfl⟩, by simp [AV.mids, C.mids]⟩
   simp only [Instr.indexAt, asIntOf, Sem.run_bind, run_underlying hue, Result.andThen]
   simp [hcond, run_sizeOf hi, hs, add_none]
  ·simp at h
 ·simp at h
theorem bndL_sound {m : Nat} {x : Option AV} {d h : Nat} {p : Pr} (hb : bndL m x d = some (h, p)) (hp : p) {v : Option Value} (hv : RelO g x v) (code : BoundsCode) :
  (x = none ∧ v = none ∧ h = d) ∨ (∃ u, x.isSome = true ∧ v = some u ∧ h ≤ m ∧ (Instr.sliceBound u m code).run P W = .ok h W) := by
 unfold bndL at hb
 split at hb
 ·simp only [Option.some.injEq, Prod.mk.injEq] at hb
  cases v with
  | none => exact .inl ⟨rfl, rfl, hb.1.symm⟩
  | some u => exact hv.elim
 ·rename_i k' k
  simp only [Option.some.injEq, Prod.mk.injEq] at hb
  obtain ⟨rfl, rfl⟩ := hb
  cases v with
  | none => exact hv.elim
  | some u =>
   have hv' : u = .int k' k := hv
   subst hv'
   have hp' : 0 ≤ k ∧ k ≤ (m : Int) := hp
   refine .inr ⟨_, rfl, rfl, by omega, ?_⟩
   simp [Instr.sliceBound, asIntOf, hp', Sem.run, pure]
 ·simp at hb
theorem sliceL_sound (htt : ttB P tt = true) {t : Nat} {x y : AV} {lo hi mx : Option AV} {p : Pr} (h : sliceL tt t x lo hi mx = some (y, p)) (hp : p) {v : Value} {vl vh vm : Option Value} (hv : RelV g x v)
  (hl : RelO g lo vl) (hh : RelO g hi vh) (hm : RelO g mx vm) :
  (∃ z, (Instr.sliceAt t v vl vh vm).run P W = .ok z W ∧ RelV g y z) ∧ ∀ id ∈ y.mids, id ∈ x.mids := by
 unfold sliceL at h
 split at h
 ·rename_i id off len c sz hsz
  let ⟨e, i, hue, hie, hs⟩ := elSz_ok htt hsz
  split at h
  ·rename_i m p1 hb1
   split at h
   ·rename_i hhi p2 hb2
    split at h
    ·rename_i l p3 hb3
     simp only [Option.some.injEq, Prod.mk.injEq] at h
     obtain ⟨rfl, rfl⟩ := h
     let ⟨hp1, hp23⟩ := Pr.an_h hp
     let ⟨hp2, hp3⟩ := Pr.an_h hp23
     obtain ⟨b, hbk, rfl⟩ := hv
     have hcase : ¬ (mx.isSome = true ∧ hi.isSome = false) := by
      intro hc
      rw [if_pos (by simp [hc.1, hc.2])] at hb2
      cases hb2
     have hb2' : bndL m hi len = some (hhi, p2) := by
      rw [if_neg (by intro hc; simp only [Bool.and_eq_true, Bool.not_eq_true'] at hc; exact hcase hc)] at hb2
      exact hb2
     refine ⟨⟨.slice (if m = l then some ⟨b, off, none⟩ else some ⟨b, off + l * sz, none⟩) (hhi - l) (m - l), ?_, b, hbk, ?_⟩, by simp [AV.mids, C.mids]⟩
     ·have hsb : (Instr.sliceBounds true len c vl vh vm).run P W = .ok (l, hhi, m) W := by
       unfold Instr.sliceBounds
       rcases bndL_sound (P := P) (W := W) hb1 hp1 hm .slice3Acap with ⟨hx1, rfl, rfl⟩ | ⟨u1, hx1, rfl, _, hr1⟩
       ·rcases bndL_sound (P := P) (W := W) hb2' hp2 hh .sliceAcap with ⟨hx2, rfl, rfl⟩ | ⟨u2, hx2, rfl, _, hr2⟩
        ·rcases bndL_sound (P := P) (W := W) hb3 hp3 hl .sliceB with ⟨hx3, rfl, rfl⟩ | ⟨u3, hx3, rfl, _, hr3⟩ <;> simp [*]
        ·rcases bndL_sound (P := P) (W := W) hb3 hp3 hl .sliceB with ⟨hx3, rfl, rfl⟩ | ⟨u3, hx3, rfl, _, hr3⟩ <;> simp [*]
       ·rcases bndL_sound (P := P) (W := W) hb2' hp2 hh .slice3B with ⟨hx2, rfl, rfl⟩ | ⟨u2, hx2, rfl, _, hr2⟩
        ·exact absurd ⟨hx1, by simp [hx2]⟩ hcase
        ·rcases bndL_sound (P := P) (W := W) hb3 hp3 hl .slice3C with ⟨hx3, rfl, rfl⟩ | ⟨u3, hx3, rfl, _, hr3⟩ <;> simp [*]
      simp only [Instr.sliceAt, Sem.run_bind, run_underlying hue, Result.andThen, Instr.slice, hsb, run_sizeOf hie, hs]
      split <;> simp [pure, add_none]
     ·split <;> rfl
    ·simp at h
   ·simp at h
  ·simp at h
 ·rename_i id off len sz hsz
  let ⟨e, i, hue, hie, hs⟩ := elSz_ok htt hsz
  split at h
  ·split at h
   ·rename_i hhi p1 hb1
    simp only [Option.some.injEq, Prod.mk.injEq] at h
    obtain ⟨rfl, rfl⟩ := h
    obtain ⟨h0, b, c, hγ, rfl, hle⟩ := hv
    subst h0
    have hvl : vl = none := by cases vl with | none => rfl | some _ => exact hl.elim
    have hvm : vm = none := by cases vm with | none => rfl | some _ => exact hm.elim
    subst hvl hvm
    have hb1' := bndA_sound (P := P) (W := W) (n := len) (x := hi) (d := len) (h := hhi) (p := p1) (by rw [← hb1]; cases hi with | none => rfl | some q => cases q with | c q => cases q <;> rfl | _ => rfl) hp hh c hle .sliceAcap
    have hle2 : hhi ≤ len := by rcases hb1' with ⟨_, _, e⟩ | ⟨_, _, h, _⟩ <;> omega
    refine ⟨⟨.slice (some ⟨b, 0, none⟩) hhi c, ?_, rfl, b, c, hγ, rfl, by omega⟩, by simp [AV.mids, C.mids]⟩
    have hsb : (Instr.sliceBounds true len c none vh none).run P W = .ok (0, hhi, c) W := by
     unfold Instr.sliceBounds
     rcases hb1' with ⟨_, rfl, rfl⟩ | ⟨u, rfl, _, hr1⟩ <;> simp [*]
    simp only [Instr.sliceAt, Sem.run_bind, run_underlying hue, Result.andThen, Instr.slice, hsb, run_sizeOf hie, hs]
    simp [pure, add_none]
   ·simp at h
  ·simp at h
 ·rename_i sz hsz
  let ⟨e, i, hue, hie, hs⟩ := elSz_ok htt hsz
  split at h
  ·rename_i hhi p1 hb1
   split at h
   ·rename_i l p2 hb2
    simp only [Option.some.injEq, Prod.mk.injEq] at h
    obtain ⟨rfl, rfl⟩ := h
    let ⟨hp1, hp2⟩ := Pr.an_h hp
    have hv' : v = .slice none 0 0 := hv
    subst hv'
    have hvm : vm = none := by cases vm with | none => rfl | some _ => exact hm.elim
    subst hvm
    refine ⟨⟨.slice none 0 0, ?_, rfl⟩, by simp [AV.mids, C.mids]⟩
    have hsb : (Instr.sliceBounds true 0 0 vl vh none).run P W = .ok (0, 0, 0) W := by
     unfold Instr.sliceBounds
     rcases bndL_sound (P := P) (W := W) hb1 hp1 hh .sliceAcap with ⟨_, rfl, rfl⟩ | ⟨u1, _, rfl, hle1, hr1⟩
     ·rcases bndL_sound (P := P) (W := W) hb2 hp2 hl .sliceB with ⟨_, rfl, rfl⟩ | ⟨u2, _, rfl, hle2, hr2⟩
      ·simp [*]
      ·have : l = 0 := by omega
       subst this
       simp [*]
     ·have : hhi = 0 := by omega
      subst this
      rcases bndL_sound (P := P) (W := W) hb2 hp2 hl .sliceB with ⟨_, rfl, rfl⟩ | ⟨u2, _, rfl, hle2, hr2⟩
      ·simp [*]
      ·have : l = 0 := by omega
       subst this
       simp [*]
    simp only [Instr.sliceAt, Sem.run_bind, run_underlying hue, Result.andThen, Instr.slice, hsb, run_sizeOf hie, hs]
    simp [pure]
   ·simp at h
  ·simp at h
 ·simp at h
theorem lenL_sound (htt : ttB P tt = true) {t r : Nat} {x y : AV} (h : lenL tt t x = some y) {v : Value} (hv : RelV g x v) : (Builtin.len_ #[t] r #[v]).run P W = .ok (match y with | .c (.I k n) => .int k n | _ => undef) W ∧ (∃ n : Int, y = .c (.I .i64 n)) := by
 unfold lenL at h
 split at h
 ·rename_i ti hl
  split at h
  ·rename_i e hk
   split at h
   ·rename_i id off len cap _
    simp only [Option.some.injEq] at h
    subst h
    have h2 := (ttB_ok htt hl).kind
    rw [hk] at h2
    have hv' : ∃ a c, v = .slice a len c := by
     cases cap with
     | some c => let ⟨b, h1, h2⟩ := hv; exact ⟨_, c, h2⟩
     | none => let ⟨h0, b, c, h1, h2, _⟩ := hv; exact ⟨_, c, h2⟩
    obtain ⟨a, c, rfl⟩ := hv'
    exact ⟨by simp [Builtin.len_, run_underlying h2, goInt, Sem.run, pure], _, rfl⟩
   ·simp at h
  ·simp at h
 ·simp at h
theorem evalL_sound (htt : ttB P tt = true) {ops : Array Oper} {i : Nat} {o : Oper} {d : Nat} (ho : ops[i]? = some o) (hg : o.guard = none) (hd : o.dst = some d) {n : Nat} (hdn : d < n)
  {st : St} {x : AV} {p : Pr} (he : evalL tt st o.op = some (x, p)) (hp : p) (new : Nat) : StepS P n ops i (rdV st o.op) [(.s d, some (.v x))] new := by
 refine stepS_val ho hg hd hdn _ x new ?_
 intro F known σ g W a hsem hrd
 have hrs : ∀ y ∈ o.op.operands, ∀ kx ∈ opd st y, σ kx.1 = some kx.2 := by
  intro y hy kx hkx
  exact hrd kx (List.mem_flatMap.2 ⟨y, by simpa using hy, hkx⟩)
 have hev : ∀ y ∈ o.op.operands, ∀ u, st.ev y = some u → RelV g u (a.eval y) ∧ ∀ id ∈ u.mids, known id := by
  intro y hy u hu
  exact ⟨ev_rel hsem st y u hu (hrs y hy), ev_mids hsem st y u hu (hrs y hy)⟩
 generalize hop : o.op = op at he hev hrs
 unfold evalL at he
 split at he
 ·rename_i c y z
  unfold pickL at he
  split at he
  ·rename_i v hc hy
   simp only [Option.some.injEq, Prod.mk.injEq] at he
   obtain ⟨rfl, rfl⟩ := he
   have h0 : a.eval c = .bool true := (hev c (by simp [Op.operands]) _ hc).1
   have h1 := hev y (by simp [Op.operands]) _ hy
   exact ⟨h1.2, _, by simp [execOp, hop, h0, asBool, Sem.run, pure], h1.1⟩
  ·rename_i v hc hy
   simp only [Option.some.injEq, Prod.mk.injEq] at he
   obtain ⟨rfl, rfl⟩ := he
   have h0 : a.eval c = .bool false := (hev c (by simp [Op.operands]) _ hc).1
   have h1 := hev z (by simp [Op.operands]) _ hy
   exact ⟨h1.2, _, by simp [execOp, hop, h0, asBool, Sem.run, pure], h1.1⟩
  ·simp at he
 ·rename_i t y z
  split at he
  ·rename_i v w hv hw
   have h1 := hev y (by simp [Op.operands]) _ hv
   have h2 := hev z (by simp [Op.operands]) _ hw
   let ⟨⟨u, hrun, hrel⟩, hm⟩ := idxL_sound (P := P) (W := W) htt he hp h1.1 h2.1
   exact ⟨fun id hid => h1.2 id (hm id hid), u, by simp [execOp, hop, hrun, Sem.run, pure], hrel⟩
  ·simp at he
 ·rename_i t y lo hi mx
  split at he
  ·rename_i v l h m hv hl hh hm
   have h1 := hev y (by simp [Op.operands]) _ hv
   have h2 := optev_rel hsem st lo l hl (fun q hq => hrs q (by subst hq; simp [Op.operands]))
   have h3 := optev_rel hsem st hi h hh (fun q hq => hrs q (by subst hq; simp [Op.operands]))
   have h4 := optev_rel hsem st mx m hm (fun q hq => hrs q (by subst hq; simp [Op.operands]))
   let ⟨⟨u, hrun, hrel⟩, hm⟩ := sliceL_sound (P := P) (W := W) htt he hp h1.1 h2 h3 h4
   exact ⟨fun id hid => h1.2 id (hm id hid), u, by simp [execOp, hop, hrun, Sem.run, pure], hrel⟩
  ·simp at he
 ·rename_i args tys
  split at he
  ·rename_i y t ha ht
   have hargs : args = #[y] := by rw [← Array.toList_inj]; exact ha
   have htys : tys = #[t] := by rw [← Array.toList_inj]; exact ht
   subst hargs htys
   split at he
   ·rename_i v hv
    split at he
    ·rename_i u hu
     simp only [Option.some.injEq, Prod.mk.injEq] at he
     obtain ⟨rfl, rfl⟩ := he
     have h1 := hev y (by simp [Op.operands, Call.operands]) _ hv
     obtain ⟨hrun, n', rfl⟩ := lenL_sound (P := P) (W := W) (r := o.type) htt hu h1.1
     exact ⟨by simp [AV.mids, C.mids], .int .i64 n', run_callB hop (fun cs => by
      have e : (#[y] : Array Operand).map a.eval = #[a.eval y] := by simp
      rw [e]
      simp only [Go.builtin, Sem.run_bind, hrun, Result.andThen]
      rfl), rfl⟩
    ·simp at he
   ·simp at he
  ·simp at he
 ·simp at he
end
section
variable {P : Program} {tt : TT}
theorem newrow_sound {ops : Array Oper} {i : Nat} {o : Oper} {d : Nat} (ho : ops[i]? = some o) (hg : o.guard = none) (hd : o.dst = some d) {n : Nat} (hdn : d < n) {E : TypeId} (rd : List (Key × Info)) (cs : List C) (sz len : Nat) (capo : Option Nat) (new : Nat)
  (h : ∀ (F : Fix) (known : Nat → Prop) (σ : Kn) (g : Gh) (W : World) (a : Act), Hold F known σ g W a → (∀ kx ∈ rd, σ kx.1 = some kx.2) →
   (∀ id ∈ midsL cs, known id) ∧ ∃ (vs rest : List Value) (cap : Nat) (W1 : World), RelL g cs vs ∧ (execOp a.eval o).run P W = .ok (.value (.slice (some ⟨W.heap.size, 0, none⟩) len cap)) { W1 with heap := W.heap.push (.cells (vs ++ rest).toArray E (0, 0)) } ∧
    W1.os = W.os ∧ W1.tape = W.tape ∧ W1.output = W.output ∧ (∀ c, capo = some c → cap = c) ∧ (sz ≠ 0 → (vs ++ rest).length = cap * sz) ∧ len ≤ cap) :
  StepS P n ops i rd [(.s d, some (.v (.c (.L new 0 len capo)))), (.m new, some (.b (.box E sz cs)))] new := by
 intro F hFn Q known σ g W a K hnew hsem hrd hK
 let ⟨hm, vs, rest, cap, W1, hr, hrun, e1, e2, e3, hcap, hszz, hlen⟩ := h F known σ g W a hsem hrd
 unfold wpOp
 simp only [ho, Region.wanted, hg, if_true]
 refine .inl ?_
 unfold Oper.wp
 rw [hrun]
 simp only [Oper.upon, hd]
 have hsz : d < a.tmps.size := by rw [hsem.size, hFn]; exact hdn
 let g' : Gh := ⟨g.H, fun id => if id = new then .slice (some ⟨W.heap.size, 0, none⟩) 0 cap else g.γ id⟩
 have hgn : g'.γ new = .slice (some ⟨W.heap.size, 0, none⟩) 0 cap := by simp [g']
 have hle : GLe known g g' := ⟨FLe.refl _, fun id hid => by
  have : id ≠ new := fun e => hnew (e ▸ hid)
  simp [g', this]⟩
 have hHnone : ∀ o, g.H W.heap.size o = none := by
  intro o
  cases hv : g.H W.heap.size o with
  | none => rfl
  | some v =>
   have := World.block_lt_of_cell? W _ (hsem.sub _ _ _ hv)
   simp at this
 have hsub : Sub g.H { W1 with heap := W.heap.push (.cells (vs ++ rest).toArray E (0, 0)) } := by
  have := Sub_push hsem.sub (.cells (vs ++ rest).toArray E (0, 0))
  exact this
 refine hK g' _ _ (hsem.step (chg := fun _ => False) (g' := g') ⟨hle, fun _ _ _ => rfl, hsub, by simp, fun k hk _ => alloc_heap W _ k hk, e1, e2, e3⟩ _ new hnew (by simp [Act.put]) hsem.defers ?_ (fun _ h => h.elim) ?_ ?_ ?_ ?_)
 ·intro t ht
  have hne : d ≠ t := by intro e; subst e; simp [says] at ht
  simp [Act.put, Array.getElem?_setIfInBounds_ne hne]
 ·intro t u ht
  simp only [says] at ht
  split at ht
  ·rename_i e
   simp only [Key.s.injEq] at e
   simp only [Option.some.injEq, Info.v.injEq] at ht
   subst e; subst ht
   have hval : (a.put (some d) (.slice (some ⟨W.heap.size, 0, none⟩) len cap)).tmps.getD d undef = .slice (some ⟨W.heap.size, 0, none⟩) len cap := by simp [Act.put, hsz]
   show RelC g' _ _
   rw [hval]
   cases capo with
   | some c => have := hcap c rfl; subst this; exact ⟨W.heap.size, by rw [hgn]; rfl, rfl⟩
   | none => exact ⟨rfl, W.heap.size, cap, hgn, rfl, hlen⟩
  ·split at ht
   ·simp at ht
   ·simp at ht
 ·intro id b ht
  simp only [says, reduceCtorEq, if_false] at ht
  split at ht
  ·rename_i e
   simp only [Key.m.injEq] at e
   subst e
   simp only [Option.some.injEq, Info.b.injEq] at ht
   subst ht
   refine ⟨⟨W.heap.size, vs, rest, by rw [hgn]; rfl, by simp, RelL.mono hle hm hr, .inl hsem.below.size, hHnone, fun h0 => ⟨cap, hgn, hszz h0⟩⟩, .inr ⟨rfl, fun k hk => .inl ?_⟩⟩
   rw [hgn] at hk
   simp only [blk, Option.some.injEq] at hk
   omega
  ·simp at ht
 ·intro k y ht
  simp only [says] at ht
  split at ht
  ·simp only [Option.some.injEq] at ht
   subst ht
   intro id hid
   simp [Info.mids, AV.mids, C.mids] at hid
   exact .inr hid
  ·split at ht
   ·simp only [Option.some.injEq] at ht
    subst ht
    exact fun id hid => .inl (hm id hid)
   ·simp at ht
 ·intro id y ht
  simp only [says, reduceCtorEq, if_false] at ht
  split at ht
  ·rename_i e
   simp only [Key.m.injEq] at e
   exact .inr e.symm
  ·simp at ht
theorem makeL_sound (htt : ttB P tt = true) {ops : Array Oper} {i : Nat} {o : Oper} {d : Nat} (ho : ops[i]? = some o) (hg : o.guard = none) (hd : o.dst = some d) {n : Nat} (hdn : d < n) {t : TypeId} {x y : Operand} (hop : o.op = .makeSlice t x y)
  {st : St} {m : Nat} {k k2 : IntKind} (hx : st.ev x = some (.c (.I k (m : Int)))) (hy : st.ev y = some (.c (.I k2 (m : Int)))) {E : Nat} {ti ei : TI} (hti : lookA t tt = some ti) (hk : ti.kind = .sl E) (hei : lookA E tt = some ei) (hpos : 0 < ei.size) (hb : m * ei.bytes ≤ 16777216) (hb2 : m ≤ 16777216) (new : Nat) :
  StepS P n ops i (rdV st o.op) [(.s d, some (.v (.c (.L new 0 m (some m))))), (.m new, some (.b (.box E 0 (flatRep (ei.zero.map ZV.toC) m))))] new := by
 refine newrow_sound ho hg hd hdn _ _ _ _ _ new ?_
 intro F known σ g W a hsem hrd
 have hr : a.eval x = .int k (m : Int) := ev_rel hsem st x _ hx (fun kx hkx => hrd kx (by rw [hop]; simp [rdV, Op.operands, hkx]))
 have hr2 : a.eval y = .int k2 (m : Int) := ev_rel hsem st y _ hy (fun kx hkx => hrd kx (by rw [hop]; simp [rdV, Op.operands, hkx]))
 have hu := (ttB_ok htt hti).kind
 rw [hk] at hu
 let ⟨inf, hinf, hisz, hiby, z, hzz, hzc⟩ := (ttB_ok htt hei).info
 have hzl : (ei.zero.map ZV.toV).length = ei.size := by simpa using (ttB_ok htt hei).zlen
 have hzc' : z.cells = (ei.zero.map ZV.toV).toArray := by rw [← Array.toList_inj]; simpa using hzc
 have hzne : (ei.zero.map ZV.toV) ≠ [] := by
  intro e
  rw [e] at hzl
  simp at hzl
  omega
 have hby : (inf.bytes : Int) * (m : Int) ≤ 281474976710656 := by
  rw [hiby]
  have : (ei.bytes : Int) * (m : Int) = ((m * ei.bytes : Nat) : Int) := by rw [Nat.mul_comm]; simp
  rw [this]
  omega
 have hrun := run_make (P := P) W t E inf z hu hinf hzz k k2 m m (by omega) (by omega) hby (by omega)
 refine ⟨by rw [flatRep_mids (zeros_mids _)]; simp, (List.replicate m (ei.zero.map ZV.toV)).flatten, [], m, W, flatRep_rel (zeros_rel g ei.zero) m, ?_, rfl, rfl, rfl, fun c hc => Option.some.inj hc, by simp, Nat.le_refl _⟩
 rw [execOp, hop]
 have hcells : madeCells z.cells (m * inf.size) = ((List.replicate m (ei.zero.map ZV.toV)).flatten).toArray := by
  rw [hisz, hzc', ← hzl, ← makeCells_eq _ m hzne]
  rfl
 simp only [Int.toNat_natCast] at hrun
 rw [hcells] at hrun
 simp only [hr, hr2, Sem.run_bind, hrun, Result.andThen, List.append_nil]
 rfl
theorem run_bslL (htt : ttB P tt = true) {F : Fix} {known : Nat → Prop} {σ : Kn} {g : Gh} {W : World} {a : Act} (hsem : Hold F known σ g W a) {st : St} {o : Oper} {t len : Nat} {parts : Array (Nat × Operand)} (hop : o.op = .buildSlice t len parts) {E : Nat} {ei : TI} {cs0 : List C} (hpos : 0 < ei.size) (hsmall : len * ei.size ≤ 16777216)
  (hv : bslC tt st t len parts.toList = some (E, ei, cs0)) (hrd : ∀ kx ∈ rdV st o.op, σ kx.1 = some kx.2) :
  ∃ us : List Value, (execOp a.eval o).run P W = .ok (.value (.slice (some ⟨W.heap.size, 0, none⟩) len len)) { W with heap := W.heap.push (.cells us.toArray E (0, 0)) } ∧ RelL g cs0 us ∧ us.length = len * ei.size ∧ ∀ id ∈ midsL cs0, known id := by
 unfold bslC at hv
 split at hv
 ·rename_i ti hti
  split at hv
  ·rename_i E' hk
   split at hv
   ·rename_i ei' hei
    split at hv
    ·rename_i cs hcs
     simp only [Option.some.injEq, Prod.mk.injEq] at hv
     obtain ⟨rfl, rfl, rfl⟩ := hv
     have hu := (ttB_ok htt hti).kind
     rw [hk] at hu
     let ⟨inf, hinf, hisz, _, z, hz, hzc⟩ := (ttB_ok htt hei).info
     have hzc' : z.cells = (ei'.zero.map ZV.toV).toArray := by rw [← Array.toList_inj]; simpa using hzc
     let ⟨us, hu1, hu2, hu3, hu4⟩ := fill_sound hsem st (slPlaces ei'.size 0 len) (fun i => some (i * ei'.size, ei'.size)) (fun i x h => by rw [slPlaces_get _ _ _ _ _ h]; simp) parts.toList _ _ _ hcs (flatRep_rel (zeros_rel g ei'.zero) len) (fun p hp kx hkx => hrd kx (by
      rw [hop]
      refine List.mem_flatMap.2 ⟨p.2, ?_, hkx⟩
      simp only [Op.operands, List.mem_map]
      exact ⟨p, hp, rfl⟩)) (by rw [flatRep_mids (zeros_mids _)]; simp)
     have hzl : (ei'.zero.map ZV.toV).length = ei'.size := by simpa using (ttB_ok htt hei).zlen
     have hul : us.length = len * ei'.size := by rw [hu3, flatten_replicate_length, hzl]
     refine ⟨us, ?_, hu2, hul, hu4⟩
     have hexec : execOp a.eval o = (do pure (.value (← Instr.buildSlice t len (parts.map fun (i, x) => (i, a.eval x))))) := by rw [execOp, hop]
     have hpm : (parts.map fun (i, x) => (i, a.eval x)).toList = parts.toList.map fun p => (p.1, a.eval p.2) := by simp
     have hzv : (zeroValue E').run P W = .ok z W := by simp [zeroValue, typeInfo, hinf, hz]
     have hcells : ((Array.range (len * ei'.size)).map (fun i => (ei'.zero.map ZV.toV).toArray[i % (ei'.zero.map ZV.toV).toArray.size]!)) = ((List.replicate len (ei'.zero.map ZV.toV)).flatten).toArray := by
      have := makeCells_eq (ei'.zero.map ZV.toV) len (by intro e; rw [e] at hzl; simp at hzl; omega)
      rw [hzl] at this
      exact this
     have hb : (Instr.buildSlice t len (parts.map fun (i, x) => (i, a.eval x))).run P W = .ok (.slice (some ⟨W.heap.size, 0, none⟩) len len) { W with heap := W.heap.push (.cells us.toArray E' (0, 0)) } := by
      unfold Instr.buildSlice
      rw [Sem.run_bind, run_underlying hu]
      simp only [Result.andThen]
      rw [Sem.run_bind, run_sizeOf hinf]
      simp only [Result.andThen, hisz]
      rw [if_neg (by omega)]
      by_cases hl0 : len * ei'.size = 0
      ·have hlen0 : len = 0 := by
        rcases Nat.mul_eq_zero.1 hl0 with h | h
        ·exact h
        ·omega
       subst hlen0
       have hus : us = [] := List.eq_nil_of_length_eq_zero (by rw [hul]; simp)
       subst hus
       have hu1' := hu1
       simp only [List.replicate_zero, List.flatten_nil] at hu1'
       have hr0 : ∀ f : Nat → Value, (Array.range 0).map f = #[] := fun f => by simp
       simp only [Nat.zero_mul, if_true, pure_bind, hr0, hpm, hu1']
       rfl
      ·rw [if_neg hl0]
       simp only [pure_bind, Sem.run_bind, hzv, Result.andThen, hzc', hcells, hpm, hu1]
       rfl
     rw [hexec, Sem.run_bind, hb]
     rfl
    ·simp at hv
   ·simp at hv
  ·simp at hv
 ·simp at hv
theorem bslL_sound (htt : ttB P tt = true) {ops : Array Oper} {i : Nat} {o : Oper} {d : Nat} (ho : ops[i]? = some o) (hg : o.guard = none) (hd : o.dst = some d) {n : Nat} (hdn : d < n) {t len : Nat} {parts : Array (Nat × Operand)} (hop : o.op = .buildSlice t len parts)
  {st : St} {E : Nat} {ei : TI} {cs : List C} (hpos : 0 < ei.size) (hsmall : len * ei.size ≤ 16777216) (hv : bslC tt st t len parts.toList = some (E, ei, cs)) (new : Nat) :
  StepS P n ops i (rdV st o.op) [(.s d, some (.v (.c (.L new 0 len (some len))))), (.m new, some (.b (.box E 0 cs)))] new := by
 refine newrow_sound ho hg hd hdn _ _ _ _ _ new ?_
 intro F known σ g W a hsem hrd
 let ⟨us, hrun, hr, hl, hm⟩ := run_bslL htt hsem hop hpos hsmall hv hrd
 exact ⟨hm, us, [], len, W, hr, by simpa using hrun, rfl, rfl, rfl, fun c hc => Option.some.inj hc, by simp, Nat.le_refl _⟩
end
def srcC (st : St) (sz : Nat) : AV → Option (Nat × List C × List Nat)
 | .c (.L id off len _) => (match lookA id st.mem with
  | some (.box _ _ cs) => if off + len * sz ≤ cs.length then some (len, (cs.drop off).take (len * sz), [id]) else none
  | some (.fz _ cs) => if off + len * sz ≤ cs.length then some (len, (cs.drop off).take (len * sz), [id]) else none
  | _ => none)
 | .c (.S T ys) => if T.n = sz then some (ys.length, ys.flatMap (av T), []) else none
 | .c (.V (.slice none 0 0)) => some (0, [], [])
 | _ => none
section
variable {P : Program} {tt : TT}
theorem oneB_cell {u : Value} (h : oneB u = true) : u.oneCell' = true := by
 revert h; cases u <;> simp [oneB, Value.oneCell']
theorem flat_av_ok {T : ET} : ∀ (ys : List T.den), ∀ c ∈ ys.flatMap (av T), okC c = true
 | [], c, h => by simp at h
 | y :: ys, c, h => by
  simp only [List.flatMap_cons, List.mem_append] at h
  rcases h with h | h
  ·exact av_okC T y c h
  ·exact flat_av_ok ys c h
theorem flat_av_mids {T : ET} : ∀ (ys : List T.den), midsL (ys.flatMap (av T)) = []
 | [] => rfl
 | y :: ys => by
  refine List.eq_nil_iff_forall_not_mem.2 fun id hid => ?_
  rw [List.flatMap_cons] at hid
  rcases midsL_append _ _ id hid with h | h
  ·rw [av_mids] at h; cases h
  ·rw [flat_av_mids ys] at h; cases h
theorem chunks_relL {g : Gh} (T : ET) : ∀ (xs : List T.den) (vs : List Value), vs.length = xs.length * T.n → (∀ i (h : i < xs.length), RelD g.H T xs[i] ((vs.drop (i * T.n)).take T.n)) → RelL g (xs.flatMap (av T)) vs
 | [], vs, hl, _ => by
  have : vs = [] := List.eq_nil_of_length_eq_zero (by simpa using hl)
  subst this; rfl
 | x :: xs, vs, hl, h => by
  rw [List.flatMap_cons]
  have h0 := h 0 (by simp)
  simp only [Nat.zero_mul, List.drop_zero, List.getElem_cons_zero] at h0
  have := RelL.append (relD_av (g := g) T x _ h0) (chunks_relL T xs (vs.drop T.n) (by simp at hl ⊢; rw [hl, Nat.add_mul]; omega) (fun i hi => by
   have := h (i + 1) (by simpa using hi)
   simp only [List.getElem_cons_succ] at this
   rw [List.drop_drop]
   rw [show T.n + i * T.n = (i + 1) * T.n by rw [Nat.add_mul]; omega]
   exact this))
  rwa [List.take_append_drop] at this
theorem srcC_sound {F : Fix} {known : Nat → Prop} {σ : Kn} {g : Gh} {W : World} {a : Act} (hsem : Hold F known σ g W a) {st : St} {y : AV} {sz m : Nat} {cs : List C} {ids : List Nat} (h : srcC st sz y = some (m, cs, ids)) {v : Value} (hv : RelV g y v)
  (hrd : ∀ id ∈ ids, ∀ b, lookA id st.mem = some b → σ (.m id) = some (.b b)) {t e : TypeId} (hu : P.underlying t = some (.slice e)) (hok : cs.all okC = true) :
  ∃ us : List Value, Src P sz t v m us W ∧ RelL g cs us ∧ (∀ id ∈ midsL cs, known id) ∧ ∀ u ∈ us, oneB u = true := by
 have hone : ∀ us, RelL g cs us → ∀ u ∈ us, oneB u = true := fun us hr => hr.one (fun c hc => List.all_eq_true.1 hok c hc)
 unfold srcC at h
 split at h
 ·rename_i id off len cap
  split at h
  ·rename_i E bz cs0 hl
   split at h
   ·rename_i hfit
    simp only [Option.some.injEq, Prod.mk.injEq] at h
    obtain ⟨rfl, rfl, rfl⟩ := h
    have hσ := hrd id (by simp) _ hl
    let ⟨b, vs, rest, hγ, hh, hr, hN, hz, hcp⟩ := hsem.blks id _ hσ
    have hv' : ∃ c, v = .slice (some ⟨b, off, none⟩) len c := by
     cases cap with
     | some c =>
      let ⟨b', h1, h2⟩ := hv
      rw [hγ] at h1
      cases h1
      exact ⟨c, h2⟩
     | none =>
      let ⟨h0, b', c, h1, h2, _⟩ := hv
      rw [h1] at hγ
      simp only [blk, Option.some.injEq] at hγ
      subst hγ h0
      exact ⟨c, h2⟩
    obtain ⟨c, rfl⟩ := hv'
    have hrl : RelL g ((cs0.drop off).take (len * sz)) ((vs.drop off).take (len * sz)) := (hr.drop off).take _
    have hvl := hr.length
    have hul : ((vs.drop off).take (len * sz)).length = len * sz := by simp; omega
    refine ⟨_, Src.ofSlice W hu ⟨b, off, none⟩ len c _ hul ?_ (fun u hu' => oneB_cell (hone _ hrl u hu')), hrl, ?_, hone _ hrl⟩
    ·intro j u hj
     let ⟨hj1, hj2⟩ := List.getElem?_eq_some_iff.1 hj
     simp only [List.getElem_take, List.getElem_drop] at hj2
     have hj3 : off + j < vs.length := by rw [hul] at hj1; omega
     simp only [add_none]
     rw [cell_of_block hh (off + j) (by simp; omega), List.getElem_append_left hj3, hj2]
    ·intro id' hid'
     exact hsem.mids _ _ hσ id' (midsL_drop _ _ _ (midsL_take _ _ _ hid'))
   ·simp at h
  ·rename_i E cs0 hl
   split at h
   ·rename_i hfit
    simp only [Option.some.injEq, Prod.mk.injEq] at h
    obtain ⟨rfl, rfl, rfl⟩ := h
    have hσ := hrd id (by simp) _ hl
    let ⟨b, vs, rest, hγ, hh, hr, hN, hz⟩ := hsem.blks id _ hσ
    have hv' : ∃ c, v = .slice (some ⟨b, off, none⟩) len c := by
     cases cap with
     | some c =>
      let ⟨b', h1, h2⟩ := hv
      rw [hγ] at h1
      cases h1
      exact ⟨c, h2⟩
     | none =>
      let ⟨h0, b', c, h1, h2, _⟩ := hv
      rw [h1] at hγ
      simp only [blk, Option.some.injEq] at hγ
      subst hγ h0
      exact ⟨c, h2⟩
    obtain ⟨c, rfl⟩ := hv'
    have hrl : RelL g ((cs0.drop off).take (len * sz)) ((vs.drop off).take (len * sz)) := (hr.drop off).take _
    have hvl := hr.length
    have hul : ((vs.drop off).take (len * sz)).length = len * sz := by simp; omega
    refine ⟨_, Src.ofSlice W hu ⟨b, off, none⟩ len c _ hul ?_ (fun u hu' => oneB_cell (hone _ hrl u hu')), hrl, ?_, hone _ hrl⟩
    ·intro j u hj
     let ⟨hj1, hj2⟩ := List.getElem?_eq_some_iff.1 hj
     simp only [List.getElem_take, List.getElem_drop] at hj2
     have hj3 : off + j < vs.length := by rw [hul] at hj1; omega
     simp only [add_none]
     rw [cell_of_block hh (off + j) (by simp; omega), List.getElem_append_left hj3, hj2]
    ·intro id' hid'
     exact hsem.mids _ _ hσ id' (midsL_drop _ _ _ (midsL_take _ _ _ hid'))
   ·simp at h
  ·simp at h
 ·rename_i T ys
  split at h
  ·rename_i hT
   simp only [Option.some.injEq, Prod.mk.injEq] at h
   obtain ⟨rfl, rfl, rfl⟩ := h
   subst hT
   let ⟨us, h1, h2, h3, h4⟩ := first_S (P := P) hv
   have hlen : ∀ w' : World, (Builtin.lenOf v).run P w' = .ok ys.length w' := by
    obtain ⟨a, cap, rfl, _⟩ := hv
    intro w'; rfl
   exact ⟨us, ⟨.inl ⟨_, hu⟩, hlen, h1 W hsem.sub, h1 W.drew hsem.sub, h2, fun u hu => oneB_cell (h4 u hu)⟩, chunks_relL T ys us h2 h3, by rw [flat_av_mids]; simp, h4⟩
  ·simp at h
 ·simp only [Option.some.injEq, Prod.mk.injEq] at h
  obtain ⟨rfl, rfl, rfl⟩ := h
  have hv' : v = .slice none 0 0 := hv
  subst hv'
  exact ⟨[], Src.ofNil W hu 0, rfl, by simp [midsL], by simp⟩
 ·simp at h
theorem run_app_place {W : World} {t1 t2 ty E : TypeId} {inf : TypeInfo} (hu1 : P.underlying t1 = some (.slice E)) (hi : P.info? E = some inf) {b off sLen sCap : Nat} {y : Value} {m : Nat}
  {us vs : List Value} {Eb : TypeId} (hs : Src P inf.size t2 y m us W) (hh : W.heap[b]? = some (.cells vs.toArray Eb (0, 0))) (hone : ∀ u ∈ us, oneB u = true) (hle : sLen + m ≤ sCap) (hfit : off + sLen * inf.size + us.length ≤ vs.length) :
  (Builtin.append_ #[t1, t2] ty #[.slice (some ⟨b, off, none⟩) sLen sCap, y]).run P W = .ok (.slice (some ⟨b, off, none⟩) (sLen + m) sCap) (setBlk W b (over vs us (off + sLen * inf.size)) Eb) := by
 have hst := run_storeCells (P := P) b us W vs (off + sLen * inf.size) 0 hh (by omega) hone
 simp only [Nat.add_zero] at hst
 rcases hs.kind with ⟨e', hk⟩ | hk <;>
  simp [Builtin.append_, run_underlying hu1, run_underlying hk, sizeOf, typeInfo, hi, hs.len, hle, hs.cells, add_none, hst]
end
section
variable {P : Program} {tt : TT}
structure AppT (P : Program) (t1 t2 E : TypeId) (sz : Nat) (bytes : Nat) : Prop where
 u1 : P.underlying t1 = some (.slice E)
 u2 : ∃ e, P.underlying t2 = some (.slice e)
 info : ∃ inf z, P.info? E = some inf ∧ inf.size = sz ∧ inf.bytes = bytes ∧ inf.zero = some z ∧ z.cells.size = sz
 pos : 0 < sz
def baseC (st : St) (sz : Nat) : AV → Option (Nat × Nat × List C × List Nat)
 | .c (.L id off len (some c)) => (match lookA id st.mem with
  | some (.box _ _ cs) => if off + len * sz ≤ cs.length then some (len, c, (cs.drop off).take (len * sz), [id]) else none
  | _ => none)
 | .c (.V (.slice none 0 0)) => some (0, 0, [], [])
 | _ => none
theorem mrd_mem {st : St} {ids : List Nat} {σ : Kn} (h : ∀ kx ∈ mrd st ids, σ kx.1 = some kx.2) : ∀ id ∈ ids, ∀ b, lookA id st.mem = some b → σ (.m id) = some (.b b) := by
 intro id hid b hb
 exact h (.m id, .b b) (List.mem_flatMap.2 ⟨id, hid, by simp [hb]⟩)
theorem run_app {a : Act} {o : Oper} {x y : Operand} {t1 t2 : TypeId} (hop : o.op = .call ⟨.builtin .append, #[x, y], #[t1, t2]⟩) {W W' : World} {v : Value} (h : (Builtin.append_ #[t1, t2] o.type #[a.eval x, a.eval y]).run P W = .ok v W') : (execOp a.eval o).run P W = .ok (.value v) W' := by
 refine run_callB hop (fun cs => ?_)
 have e : (#[x, y] : Array Operand).map a.eval = #[a.eval x, a.eval y] := by simp
 rw [e]
 simp only [Go.builtin, Sem.run_bind, h, Result.andThen]
 rfl
theorem appG_sound {ops : Array Oper} {i : Nat} {o : Oper} {d : Nat} (ho : ops[i]? = some o) (hg : o.guard = none) (hd : o.dst = some d) {n : Nat} (hdn : d < n) {x y : Operand} {t1 t2 : TypeId} (hop : o.op = .call ⟨.builtin .append, #[x, y], #[t1, t2]⟩)
  {st : St} {E : TypeId} {sz bytes : Nat} (hT : AppT P t1 t2 E sz bytes) {vx vy : AV} (hx : st.ev x = some vx) (hy : st.ev y = some vy) {len c m : Nat} {cb cs : List C} {ib is : List Nat} (hb : baseC st sz vx = some (len, c, cb, ib)) (hs : srcC st sz vy = some (m, cs, is)) (hok : cs.all okC = true)
  (hgt : c < len + m) (hbytes : ((len + m) + (len + m) / 4 + 192) * bytes ≤ 281474976710656) (hlim : len + m ≤ 140737488355328) (new : Nat) :
  StepS P n ops i (opd st x ++ opd st y ++ mrd st (ib ++ is)) [(.s d, some (.v (.c (.L new 0 (len + m) none)))), (.m new, some (.b (.box E sz (cb ++ cs))))] new := by
 refine newrow_sound ho hg hd hdn _ _ _ _ _ new ?_
 intro F known σ g W a hsem hrd
 have hrx := ev_rel hsem st x _ hx (fun kx hkx => hrd kx (by simp [hkx]))
 have hry := ev_rel hsem st y _ hy (fun kx hkx => hrd kx (by simp [hkx]))
 have hmm := mrd_mem (st := st) (ids := ib ++ is) (σ := σ) (fun kx hkx => hrd kx (by simp [hkx]))
 let ⟨e2, hu2⟩ := hT.u2
 let ⟨inf, z, hinf, hisz, hiby, hzz, hzs⟩ := hT.info
 let ⟨us, hsrc, hru, hmu, huo⟩ := srcC_sound (P := P) hsem hs hry (fun id hid b hb => hmm id (List.mem_append_right _ hid) b hb) hu2 hok
 have hbase : ∃ (base : Option Addr) (olds : List Value), a.eval x = .slice base len c ∧ RelL g cb olds ∧ olds.length = len * sz ∧ (∀ id ∈ midsL cb, known id) ∧ (Builtin.firstCells inf.size len (.slice base len c)).run P W.drew = .ok olds.toArray W.drew := by
  unfold baseC at hb
  split at hb
  ·rename_i id off len' c'
   split at hb
   ·rename_i E' bz cs0 hl
    split at hb
    ·rename_i hfit
     simp only [Option.some.injEq, Prod.mk.injEq] at hb
     obtain ⟨rfl, rfl, rfl, rfl⟩ := hb
     have hσ := hmm id (by simp) _ hl
     let ⟨b, vs, rest, hγ, hh, hr, hN, hz, hcp⟩ := hsem.blks id _ hσ
     let ⟨b', h1, h2⟩ := hrx
     rw [hγ] at h1
     cases h1
     have hvl := hr.length
     have hul : ((vs.drop off).take (len' * sz)).length = len' * sz := by simp; omega
     refine ⟨_, (vs.drop off).take (len' * sz), h2, (hr.drop off).take _, hul, ?_, ?_⟩
     ·intro id' hid'
      exact hsem.mids _ _ hσ id' (midsL_drop _ _ _ (midsL_take _ _ _ hid'))
     ·rw [hisz]
      refine run_firstCells_some W.drew sz len' ⟨b, off, none⟩ len' c' _ hul ?_
      intro j u hj
      let ⟨hj1, hj2⟩ := List.getElem?_eq_some_iff.1 hj
      simp only [List.getElem_take, List.getElem_drop] at hj2
      have hj3 : off + j < vs.length := by rw [hul] at hj1; omega
      simp only [add_none]
      have hh' : W.drew.heap[b]? = some (.cells (vs ++ rest).toArray E' (0, 0)) := hh
      rw [cell_of_block hh' (off + j) (by simp; omega), List.getElem_append_left hj3, hj2]
    ·simp at hb
   ·simp at hb
  ·simp only [Option.some.injEq, Prod.mk.injEq] at hb
   obtain ⟨rfl, rfl, rfl, rfl⟩ := hb
   have hv' : a.eval x = .slice none 0 0 := hrx
   exact ⟨none, [], hv', rfl, by simp, by simp [midsL], run_firstCells_none W.drew _ 0 0 0⟩
  ·simp at hb
 let ⟨base, olds, hvx, hro, hol, hmo, hfo⟩ := hbase
 have hr := run_append_grow_src (P := P) W t1 t2 o.type E inf z hT.u1 hinf hzz base len c olds hfo (a.eval y) m us (by rw [hisz]; exact hsrc) hgt (by omega) (growslice_fits_wide hgt (by rw [hiby]; exact hbytes))
 have hcap := grownCap_ge W (len + m) c E
 refine ⟨?_, olds ++ us, (Builtin.zeroCells z.cells (grownCap W (len + m) c E - (len + m))).toList, grownCap W (len + m) c E, W.drew, hro.append hru, ?_, rfl, rfl, rfl, by simp, fun _ => ?_, hcap⟩
 ·intro id hid
  rcases midsL_append _ _ id hid with h | h
  ·exact hmo id h
  ·exact hmu id h
 ·refine run_app hop ?_
  rw [hvx, hr]
  have hcells : (olds ++ us).toArray ++ Builtin.zeroCells z.cells (grownCap W (len + m) c E - (len + m)) = (olds ++ us ++ (Builtin.zeroCells z.cells (grownCap W (len + m) c E - (len + m))).toList).toArray := by
   apply Array.ext'; simp
  rw [hcells]
  rfl
 ·have hul := hsrc.newsLen
  simp only [List.length_append, hol, hul, Array.length_toList, size_zeroCells, hzs, ← Nat.add_mul]
  congr 1
  omega
theorem app0_sound {ops : Array Oper} {i : Nat} {o : Oper} {d : Nat} (ho : ops[i]? = some o) (hg : o.guard = none) (hd : o.dst = some d) {n : Nat} (hdn : d < n) {x y : Operand} {t1 t2 : TypeId} (hop : o.op = .call ⟨.builtin .append, #[x, y], #[t1, t2]⟩)
  {st : St} {E : TypeId} {sz bytes : Nat} (hT : AppT P t1 t2 E sz bytes) {vy : AV} (hx : st.ev x = some (.c (.V (.slice none 0 0)))) (hy : st.ev y = some vy) {cs : List C} {is : List Nat} (hs : srcC st sz vy = some (0, cs, is)) (hok : cs.all okC = true) (new : Nat) :
  StepS P n ops i (opd st x ++ opd st y ++ mrd st is) [(.s d, some (.v (.c (.V (.slice none 0 0)))))] new := by
 refine stepS_val ho hg hd hdn _ _ new ?_
 intro F known σ g W a hsem hrd
 have hrx : a.eval x = .slice none 0 0 := ev_rel hsem st x _ hx (fun kx hkx => hrd kx (by simp [hkx]))
 have hry := ev_rel hsem st y _ hy (fun kx hkx => hrd kx (by simp [hkx]))
 have hmm := mrd_mem (st := st) (ids := is) (σ := σ) (fun kx hkx => hrd kx (by simp [hkx]))
 let ⟨e2, hu2⟩ := hT.u2
 let ⟨inf, z, hinf, hisz, hiby, hzz, hzs⟩ := hT.info
 let ⟨us, hsrc, hru, hmu, huo⟩ := srcC_sound (P := P) hsem hs hry hmm hu2 hok
 refine ⟨by simp [AV.mids, C.mids], .slice none 0 0, run_app hop ?_, rfl⟩
 rw [hrx]
 have hc := hsrc.cells
 rw [← hisz] at hc
 simp [Builtin.append_, run_underlying hT.u1, run_underlying hu2, sizeOf, typeInfo, hinf, hsrc.len]
 rw [hc]
 rfl
end
section
variable {P : Program} {tt : TT}
theorem step_put_d {a : Act} {d t : Nat} {v : Value} {wr : List (Key × Option Info)} {x : Option Info} (ht : says ((.s d, x) :: wr) (.s t) = none) : (a.put (some d) v).tmps.getD t undef = a.tmps.getD t undef := by
 have hne : d ≠ t := by intro e; subst e; simp [says] at ht
 simp [Act.put, Array.getElem?_setIfInBounds_ne hne]
theorem appP_sound {ops : Array Oper} {i : Nat} {o : Oper} {d : Nat} (ho : ops[i]? = some o) (hg : o.guard = none) (hd : o.dst = some d) {n : Nat} (hdn : d < n) {x y : Operand} {t1 t2 : TypeId} (hop : o.op = .call ⟨.builtin .append, #[x, y], #[t1, t2]⟩)
  {st : St} {E : TypeId} {sz bytes : Nat} (hT : AppT P t1 t2 E sz bytes) {id off len c : Nat} {vy : AV} (hx : st.ev x = some (.c (.L id off len (some c)))) (hy : st.ev y = some vy) {Eb : TypeId} {bz : Nat} {cs0 : List C} (hl : lookA id st.mem = some (.box Eb bz cs0)) {m : Nat} {cs : List C} {is : List Nat} (hs : srcC st sz vy = some (m, cs, is)) (hok : cs.all okC = true)
  (hle : len + m ≤ c) (hfit : off + (len + m) * sz ≤ cs0.length) (new : Nat) :
  StepS P n ops i (opd st x ++ opd st y ++ mrd st (id :: is)) [(.s d, some (.v (.c (.L id off (len + m) (some c))))), (.m id, some (.b (.box Eb bz (over cs0 cs (off + len * sz)))))] new := by
 intro F hFn Q known σ g W a K hnew hsem hrd hK
 have hrx := ev_rel hsem st x _ hx (fun kx hkx => hrd kx (by simp [hkx]))
 have hry := ev_rel hsem st y _ hy (fun kx hkx => hrd kx (by simp [hkx]))
 have hmm := mrd_mem (st := st) (ids := id :: is) (σ := σ) (fun kx hkx => hrd kx (by simp only [List.mem_append]; exact .inr hkx))
 let ⟨e2, hu2⟩ := hT.u2
 let ⟨inf, z, hinf, hisz, hiby, hzz, hzs⟩ := hT.info
 let ⟨us, hsrc, hru, hmu, huo⟩ := srcC_sound (P := P) hsem hs hry (fun id hid b hb => hmm id (List.mem_cons_of_mem _ hid) b hb) hu2 hok
 have hσ := hmm id (by simp) _ hl
 let ⟨b, vs, rest, hγ, hh, hr, hN, hz, hcp⟩ := hsem.blks id _ hσ
 let ⟨b', h1, hvx⟩ := hrx
 rw [hγ] at h1
 cases h1
 have hul := hsrc.newsLen
 have hcl := hru.length
 have hvl := hr.length
 have hlm : (len + m) * sz = len * sz + m * sz := Nat.add_mul _ _ _
 have hfit' : off + len * sz + us.length ≤ vs.length := by omega
 have hrun := run_app_place (P := P) (ty := o.type) (W := W) hT.u1 hinf (b := b) (off := off) (sLen := len) (sCap := c) (by rw [hisz]; exact hsrc) hh huo hle (by rw [hisz]; simp; omega)
 rw [hisz] at hrun
 have hov : over (vs ++ rest) us (off + len * sz) = over vs us (off + len * sz) ++ rest := over_app vs rest us _ hfit'
 unfold wpOp
 simp only [ho, Region.wanted, hg, if_true]
 refine .inl ?_
 unfold Oper.wp
 rw [run_app hop (by rw [hvx]; exact hrun)]
 simp only [Oper.upon, hd]
 have hszd : d < a.tmps.size := by rw [hsem.size, hFn]; exact hdn
 have hb : b < W.heap.size := (Array.getElem?_eq_some_iff.1 hh).1
 refine hK g _ _ (hsem.step (chg := fun j => j = id) (g' := g) ⟨⟨FLe.refl _, fun _ _ => rfl⟩, fun _ _ _ => rfl, Sub_setBlk hsem.sub hz, by simp [setBlk], ?_, rfl, rfl, rfl⟩ _ new hnew (by simp [Act.put]) hsem.defers (fun t ht => step_put_d ht) ?_ ?_ ?_ ?_ ?_)
 ·intro k hk hne
  have : b ≠ k := fun e => hne id rfl (by rw [hγ, e])
  exact setBlk_ne this
 ·intro j hj
  subst hj
  exact ⟨by simp [says], _, hσ⟩
 ·intro t u ht
  simp only [says] at ht
  split at ht
  ·rename_i e
   simp only [Key.s.injEq] at e
   simp only [Option.some.injEq, Info.v.injEq] at ht
   subst e; subst ht
   refine ⟨b, hγ, ?_⟩
   simp [Act.put, hszd]
  ·simp at ht
 ·intro j bk hj
  simp only [says, reduceCtorEq, if_false] at hj
  split at hj
  ·rename_i e'
   simp only [Key.m.injEq] at e'
   subst e'
   simp only [Option.some.injEq, Info.b.injEq] at hj
   subst hj
   refine ⟨⟨b, over vs us (off + len * sz), rest, hγ, by rw [setBlk_at hb, hov], hr.over hru _, hN, hz, fun h0 => ?_⟩, .inl ⟨hsem.mkn _ _ hσ, _, hσ⟩⟩
   let ⟨c', e1, e2⟩ := hcp h0
   refine ⟨c', e1, ?_⟩
   rw [← hov, over_length _ _ _ (by simp; omega)]; exact e2
  ·simp at hj
 ·intro k z' hz'
  simp only [says] at hz'
  split at hz'
  ·simp only [Option.some.injEq] at hz'
   subst hz'
   intro j hj
   simp [Info.mids, AV.mids, C.mids] at hj
   subst hj
   exact .inl (hsem.mkn _ _ hσ)
  ·split at hz'
   ·simp only [Option.some.injEq] at hz'
    subst hz'
    intro j hj
    rcases midsL_over _ _ _ j hj with h | h
    ·exact .inl (hsem.mids _ _ hσ j h)
    ·exact .inl (hmu j h)
   ·simp at hz'
 ·intro j z' hz'
  simp only [says, reduceCtorEq, if_false] at hz'
  split at hz'
  ·rename_i e'
   simp only [Key.m.injEq] at e'
   subst e'
   exact .inl (hsem.mkn _ _ hσ)
  ·simp at hz'
theorem appU_sound {ops : Array Oper} {i : Nat} {o : Oper} {d : Nat} (ho : ops[i]? = some o) (hg : o.guard = none) (hd : o.dst = some d) {n : Nat} (hdn : d < n) {x y : Operand} {t1 t2 : TypeId} (hop : o.op = .call ⟨.builtin .append, #[x, y], #[t1, t2]⟩)
  {st : St} {E : TypeId} {sz bytes : Nat} (hT : AppT P t1 t2 E sz bytes) {id off len : Nat} {vy : AV} (hx : st.ev x = some (.c (.L id off len none))) (hy : st.ev y = some vy) {cs0 : List C} (hl : lookA id st.mem = some (.box E sz cs0)) {m : Nat} {cs : List C} {is : List Nat} (hs : srcC st sz vy = some (m, cs, is)) (hok : cs.all okC = true)
  (hfit : len * sz ≤ cs0.length) (hbytes : ((len + m) + (len + m) / 4 + 192) * bytes ≤ 281474976710656) (hlim : len + m ≤ 140737488355328) (new : Nat) :
  StepS P n ops i (opd st x ++ opd st y ++ mrd st (id :: is)) [(.s d, some (.v (.c (.L new 0 (len + m) none)))), (.m new, some (.b (.box E sz (cs0.take (len * sz) ++ cs)))), (.m id, none)] new := by
 intro F hFn Q known σ g W a K hnew hsem hrd hK
 have hrx := ev_rel hsem st x _ hx (fun kx hkx => hrd kx (by simp [hkx]))
 have hry := ev_rel hsem st y _ hy (fun kx hkx => hrd kx (by simp [hkx]))
 have hmm := mrd_mem (st := st) (ids := id :: is) (σ := σ) (fun kx hkx => hrd kx (by simp only [List.mem_append]; exact .inr hkx))
 let ⟨e2, hu2⟩ := hT.u2
 let ⟨inf, z, hinf, hisz, hiby, hzz, hzs⟩ := hT.info
 let ⟨us, hsrc, hru, hmu, huo⟩ := srcC_sound (P := P) hsem hs hry (fun id hid b hb => hmm id (List.mem_cons_of_mem _ hid) b hb) hu2 hok
 have hσ := hmm id (by simp) _ hl
 have hpos := hT.pos
 let ⟨b, vs, rest, hγ, hh, hr, hN, hz, hcp⟩ := hsem.blks id _ hσ
 let ⟨c, hγc, htot⟩ := hcp (by omega)
 let ⟨h0, b', c', h1, hvx, hlc⟩ := hrx
 rw [hγc] at h1
 simp only [Value.slice.injEq, Option.some.injEq, Addr.mk.injEq, and_true, true_and] at h1
 obtain ⟨rfl, rfl⟩ := h1
 have hul := hsrc.newsLen
 have hcl := hru.length
 have hvl := hr.length
 have hidn : id ≠ new := fun e => hnew (e ▸ hsem.mkn _ _ hσ)
 have hHnone : ∀ o, g.H W.heap.size o = none := by
  intro o
  cases hv : g.H W.heap.size o with
  | none => rfl
  | some v =>
   have := World.block_lt_of_cell? W _ (hsem.sub _ _ _ hv)
   simp at this
 have hbW : b < W.heap.size := (Array.getElem?_eq_some_iff.1 hh).1
 have hpre : (vs.take (len * sz)).length = len * sz := by simp; omega
 have hrp : RelL g (cs0.take (len * sz) ++ cs) (vs.take (len * sz) ++ us) := (hr.take _).append hru
 have hmids : ∀ j ∈ midsL (cs0.take (len * sz) ++ cs), known j := by
  intro j hj
  rcases midsL_append _ _ j hj with h | h
  ·exact hsem.mids _ _ hσ j (midsL_take _ _ _ h)
  ·exact hmu j h
 have hres : ∃ (v' : Value) (W' : World) (b' c' : Nat) (rest' : List Value), (Builtin.append_ #[t1, t2] o.type #[a.eval x, a.eval y]).run P W = .ok v' W' ∧ v' = .slice (some ⟨b', 0, none⟩) (len + m) c' ∧ len + m ≤ c' ∧
   W'.heap[b']? = some (.cells (vs.take (len * sz) ++ us ++ rest').toArray E (0, 0)) ∧ (vs.take (len * sz) ++ us ++ rest').length = c' * sz ∧ W.heap.size ≤ W'.heap.size ∧ (∀ k, k < W.heap.size → b ≠ k → W'.heap[k]? = W.heap[k]?) ∧ W'.os = W.os ∧ W'.tape = W.tape ∧ W'.output = W.output ∧ Sub g.H W' ∧ (∀ o, g.H b' o = none) ∧ F.N b' ∧ (W.heap.size ≤ b' ∨ b' = b) := by
  by_cases hroom : len + m ≤ c
  ·have hlm : (len + m) * sz ≤ c * sz := Nat.mul_le_mul_right _ hroom
   rw [Nat.add_mul] at hlm
   have htl : (vs ++ rest).length = vs.length + rest.length := List.length_append
   have hrun := run_app_place (P := P) (ty := o.type) (W := W) hT.u1 hinf (b := b) (off := 0) (sLen := len) (sCap := c) (by rw [hisz]; exact hsrc) hh huo hroom (by rw [hisz]; omega)
   rw [hisz, Nat.zero_add] at hrun
   have hov : over (vs ++ rest) us (len * sz) = vs.take (len * sz) ++ us ++ (vs ++ rest).drop (len * sz + us.length) := by
    unfold over
    rw [List.take_append_of_le_length (by omega)]
   refine ⟨_, _, b, c, (vs ++ rest).drop (len * sz + us.length), by rw [hvx]; exact hrun, rfl, hroom, by rw [setBlk_at hbW, hov], ?_, by simp [setBlk], fun k _ hk => setBlk_ne hk, rfl, rfl, rfl, Sub_setBlk hsem.sub hz, hz, hN, .inr rfl⟩
   rw [← hov, over_length _ _ _ (by omega)]
   exact htot
  ·have hfo : (Builtin.firstCells inf.size len (.slice (some ⟨b, 0, none⟩) len c)).run P W.drew = .ok (vs.take (len * sz)).toArray W.drew := by
    rw [hisz]
    refine run_firstCells_some W.drew sz len ⟨b, 0, none⟩ len c _ hpre ?_
    intro j u hj
    let ⟨hj1, hj2⟩ := List.getElem?_eq_some_iff.1 hj
    simp only [List.getElem_take] at hj2
    have hj3 : j < vs.length := by rw [hpre] at hj1; omega
    simp only [add_none, Nat.zero_add]
    have hh' : W.drew.heap[b]? = some (.cells (vs ++ rest).toArray E (0, 0)) := hh
    rw [cell_of_block hh' j (by simp; omega), List.getElem_append_left hj3, hj2]
   have hgt : c < len + m := by omega
   have hr' := run_append_grow_src (P := P) W t1 t2 o.type E inf z hT.u1 hinf hzz (some ⟨b, 0, none⟩) len c _ hfo (a.eval y) m us (by rw [hisz]; exact hsrc) hgt (by omega) (growslice_fits_wide hgt (by rw [hiby]; exact hbytes))
   have hcap := grownCap_ge W (len + m) c E
   refine ⟨_, _, W.heap.size, grownCap W (len + m) c E, (Builtin.zeroCells z.cells (grownCap W (len + m) c E - (len + m))).toList, by rw [hvx]; exact hr', rfl, hcap, ?_, ?_, by simp, fun k hk _ => heap_alloc_old W.drew _ hk, rfl, rfl, rfl, Sub_push hsem.sub _, hHnone, .inl hsem.below.size, .inl (Nat.le_refl _)⟩
   ·rw [show W.heap.size = W.drew.heap.size from rfl, heap_alloc_new]
    congr 2
    apply Array.ext'; simp
   ·simp only [List.length_append, hpre, hul, Array.length_toList, size_zeroCells, hzs, ← Nat.add_mul]
    congr 1
    omega
 let ⟨v', W', bn, cn, rest', hrun, hv', hcn, hhn, htn, hsz', hheap', ho1, ho2, ho3, hsub', hHn, hNn, hwhere⟩ := hres
 unfold wpOp
 simp only [ho, Region.wanted, hg, if_true]
 refine .inl ?_
 unfold Oper.wp
 rw [run_app hop hrun]
 simp only [Oper.upon, hd]
 have hszd : d < a.tmps.size := by rw [hsem.size, hFn]; exact hdn
 let g' : Gh := ⟨g.H, fun id => if id = new then .slice (some ⟨bn, 0, none⟩) 0 cn else g.γ id⟩
 have hgn : g'.γ new = .slice (some ⟨bn, 0, none⟩) 0 cn := by simp [g']
 have hGle : GLe known g g' := ⟨FLe.refl _, fun id hid => by
  have : id ≠ new := fun e => hnew (e ▸ hid)
  simp [g', this]⟩
 refine hK g' _ _ (hsem.step (chg := fun j => j = id) (g' := g') ⟨hGle, fun _ _ _ => rfl, hsub', hsz', ?_, ho1, ho2, ho3⟩ _ new hnew (by simp [Act.put]) hsem.defers (fun t ht => step_put_d ht) ?_ ?_ ?_ ?_ ?_)
 ·intro k hk hne
  exact hheap' k hk (fun e => hne id rfl (by rw [hγ, e]))
 ·intro j hj
  subst hj
  exact ⟨by simp [says, Ne.symm hidn], _, hσ⟩
 ·intro t u ht
  simp only [says] at ht
  split at ht
  ·rename_i e
   simp only [Key.s.injEq] at e
   simp only [Option.some.injEq, Info.v.injEq] at ht
   subst e; subst ht
   refine ⟨rfl, bn, cn, hgn, ?_, hcn⟩
   simp [Act.put, hszd, hv']
  ·simp at ht
 ·intro j bk hj
  simp only [says, reduceCtorEq, if_false] at hj
  split at hj
  ·rename_i e'
   simp only [Key.m.injEq] at e'
   subst e'
   simp only [Option.some.injEq, Info.b.injEq] at hj
   subst hj
   refine ⟨⟨bn, _, rest', by rw [hgn]; rfl, hhn, RelL.mono hGle hmids hrp, hNn, hHn, fun _ => ⟨cn, hgn, htn⟩⟩, .inr ⟨rfl, fun k hk => ?_⟩⟩
   rw [hgn] at hk
   simp only [blk, Option.some.injEq] at hk
   subst hk
   rcases hwhere with h | h
   ·exact .inl h
   ·refine .inr ⟨id, _, hσ, ?_, by rw [hγ, h]⟩
    simp [says, Ne.symm hidn]
  ·split at hj <;> simp at hj
 ·intro k z' hz'
  simp only [says] at hz'
  split at hz'
  ·simp only [Option.some.injEq] at hz'
   subst hz'
   intro j hj
   simp [Info.mids, AV.mids, C.mids] at hj
   exact .inr hj
  ·split at hz'
   ·simp only [Option.some.injEq] at hz'
    subst hz'
    exact fun j hj => .inl (hmids j hj)
   ·split at hz' <;> simp at hz'
 ·intro j z' hz'
  simp only [says, reduceCtorEq, if_false] at hz'
  split at hz'
  ·rename_i e'
   simp only [Key.m.injEq] at e'
   exact .inr e'.symm
  ·split at hz' <;> simp at hz'
end
section
variable {P : Program} {tt : TT}
theorem copyL_sound {ops : Array Oper} {i : Nat} {o : Oper} {d : Nat} (ho : ops[i]? = some o) (hg : o.guard = none) (hd : o.dst = some d) {n : Nat} (hdn : d < n) {x y : Operand} {t1 t2 : TypeId} (hop : o.op = .call ⟨.builtin .copy, #[x, y], #[t1, t2]⟩)
  {st : St} {E : TypeId} {sz bytes : Nat} (hT : AppT P t1 t2 E sz bytes) {id off len : Nat} {capo : Option Nat} {vy : AV} (hx : st.ev x = some (.c (.L id off len capo))) (hy : st.ev y = some vy) {Eb : TypeId} {bz : Nat} {cs0 : List C} (hl : lookA id st.mem = some (.box Eb bz cs0)) {m : Nat} {cs : List C} {is : List Nat} (hs : srcC st sz vy = some (m, cs, is)) (hok : cs.all okC = true)
  (hle : m ≤ len) (hfit : off + m * sz ≤ cs0.length) (new : Nat) :
  StepS P n ops i (opd st x ++ opd st y ++ mrd st (id :: is)) [(.s d, some (.v (.c (.I .i64 m)))), (.m id, some (.b (.box Eb bz (over cs0 cs off))))] new := by
 intro F hFn Q known σ g W a K hnew hsem hrd hK
 have hrx := ev_rel hsem st x _ hx (fun kx hkx => hrd kx (by simp [hkx]))
 have hry := ev_rel hsem st y _ hy (fun kx hkx => hrd kx (by simp [hkx]))
 have hmm := mrd_mem (st := st) (ids := id :: is) (σ := σ) (fun kx hkx => hrd kx (by simp only [List.mem_append]; exact .inr hkx))
 let ⟨e2, hu2⟩ := hT.u2
 let ⟨inf, z, hinf, hisz, hiby, hzz, hzs⟩ := hT.info
 let ⟨us, hsrc, hru, hmu, huo⟩ := srcC_sound (P := P) hsem hs hry (fun id hid b hb => hmm id (List.mem_cons_of_mem _ hid) b hb) hu2 hok
 have hσ := hmm id (by simp) _ hl
 let ⟨b, vs, rest, hγ, hh, hr, hN, hz, hcp⟩ := hsem.blks id _ hσ
 have hvx : ∃ c, a.eval x = .slice (some ⟨b, off, none⟩) len c := by
  cases capo with
  | some c =>
   let ⟨b', h1, h2⟩ := hrx
   rw [hγ] at h1
   cases h1
   exact ⟨c, h2⟩
  | none =>
   let ⟨h0, b', c, h1, h2, _⟩ := hrx
   rw [h1] at hγ
   simp only [blk, Option.some.injEq] at hγ
   subst hγ h0
   exact ⟨c, h2⟩
 let ⟨c, hvx⟩ := hvx
 have hul := hsrc.newsLen
 have hcl := hru.length
 have hvl := hr.length
 have hfit' : off + us.length ≤ vs.length := by omega
 have hst := run_storeCells (P := P) b us W (vs ++ rest) off 0 hh (by simp; omega) huo
 simp only [Nat.add_zero] at hst
 have hov : over (vs ++ rest) us off = over vs us off ++ rest := over_app vs rest us _ hfit'
 have hrun : (Builtin.copy_ #[t1, t2] o.type #[a.eval x, a.eval y]).run P W = .ok (.int .i64 m) (setBlk W b (over (vs ++ rest) us off) Eb) := by
  rw [hvx]
  have hmin : Nat.min m len = m := Nat.min_eq_left hle
  have hc := hsrc.cells
  simp [Builtin.copy_, run_underlying hT.u1, sizeOf, typeInfo, hinf, hsrc.len, hmin, hisz, hc, hst, goInt, Sem.run, pure]
 have hex : (execOp a.eval o).run P W = .ok (.value (.int .i64 m)) (setBlk W b (over (vs ++ rest) us off) Eb) := by
  refine run_callB hop (fun cs => ?_)
  have e : (#[x, y] : Array Operand).map a.eval = #[a.eval x, a.eval y] := by simp
  rw [e]
  simp only [Go.builtin, Sem.run_bind, hrun, Result.andThen]
  rfl
 unfold wpOp
 simp only [ho, Region.wanted, hg, if_true]
 refine .inl ?_
 unfold Oper.wp
 rw [hex]
 simp only [Oper.upon, hd]
 have hszd : d < a.tmps.size := by rw [hsem.size, hFn]; exact hdn
 have hb : b < W.heap.size := (Array.getElem?_eq_some_iff.1 hh).1
 refine hK g _ _ (hsem.step (chg := fun j => j = id) (g' := g) ⟨⟨FLe.refl _, fun _ _ => rfl⟩, fun _ _ _ => rfl, Sub_setBlk hsem.sub hz, by simp [setBlk], ?_, rfl, rfl, rfl⟩ _ new hnew (by simp [Act.put]) hsem.defers (fun t ht => step_put_d ht) ?_ ?_ ?_ ?_ ?_)
 ·intro k hk hne
  have : b ≠ k := fun e => hne id rfl (by rw [hγ, e])
  exact setBlk_ne this
 ·intro j hj
  subst hj
  exact ⟨by simp [says], _, hσ⟩
 ·intro t u ht
  simp only [says] at ht
  split at ht
  ·rename_i e
   simp only [Key.s.injEq] at e
   simp only [Option.some.injEq, Info.v.injEq] at ht
   subst e; subst ht
   simp [Act.put, hszd, RelV, RelC]
  ·simp at ht
 ·intro j bk hj
  simp only [says, reduceCtorEq, if_false] at hj
  split at hj
  ·rename_i e'
   simp only [Key.m.injEq] at e'
   subst e'
   simp only [Option.some.injEq, Info.b.injEq] at hj
   subst hj
   refine ⟨⟨b, over vs us off, rest, hγ, by rw [setBlk_at hb, hov], hr.over hru _, hN, hz, fun h0 => ?_⟩, .inl ⟨hsem.mkn _ _ hσ, _, hσ⟩⟩
   let ⟨c', e1, e2⟩ := hcp h0
   refine ⟨c', e1, ?_⟩
   rw [← hov, over_length _ _ _ (by simp; omega)]; exact e2
  ·simp at hj
 ·intro k z' hz'
  simp only [says] at hz'
  split at hz'
  ·simp only [Option.some.injEq] at hz'
   subst hz'
   intro j hj
   simp [Info.mids, AV.mids, C.mids] at hj
  ·split at hz'
   ·simp only [Option.some.injEq] at hz'
    subst hz'
    intro j hj
    rcases midsL_over _ _ _ j hj with h | h
    ·exact .inl (hsem.mids _ _ hσ j h)
    ·exact .inl (hmu j h)
   ·simp at hz'
 ·intro j z' hz'
  simp only [says, reduceCtorEq, if_false] at hz'
  split at hz'
  ·rename_i e'
   simp only [Key.m.injEq] at e'
   subst e'
   exact .inl (hsem.mkn _ _ hσ)
  ·simp at hz'
def evT (st : St) : List Operand → Option (List (Bool × List C))
 | [] => some []
 | x :: xs => (match st.ev x with
  | some v => (match toS v, evT st xs with
   | some s, some r => some (s :: r)
   | _, _ => none)
  | none => none)
theorem toS_mids {v : AV} {s : Bool × List C} (h : toS v = some s) : midsL s.2 = v.mids := by
 cases v with
 | c x => simp only [toS, Option.some.injEq] at h; subst h; simp [midsL, AV.mids]
 | a cs => simp only [toS, Option.some.injEq] at h; subst h; rfl
 | t _ => simp [toS] at h
theorem evT_rel {F : Fix} {known : Nat → Prop} {σ : Kn} {g : Gh} {W : World} {a : Act} (h : Hold F known σ g W a) (st : St) : ∀ (xs : List Operand) (ss : List (Bool × List C)), evT st xs = some ss →
  (∀ kx ∈ xs.flatMap (opd st), σ kx.1 = some kx.2) → RelT g ss (xs.map a.eval) ∧ ∀ id ∈ midsT ss, known id
 | [], ss, he, _ => by simp only [evT, Option.some.injEq] at he; subst he; exact ⟨rfl, by simp [midsT]⟩
 | x :: xs, ss, he, hr => by
  simp only [evT] at he
  split at he
  ·rename_i v hv
   split at he
   ·rename_i s r hs hr'
    simp only [Option.some.injEq] at he
    subst he
    have h1 := ev_rel h st x v hv (fun kx hkx => hr kx (by simp [hkx]))
    have h1m := ev_mids h st x v hv (fun kx hkx => hr kx (by simp [hkx]))
    let ⟨h2, h2m⟩ := evT_rel h st xs r hr' (fun kx hkx => hr kx (by simp only [List.flatMap_cons, List.mem_append]; exact .inr hkx))
    refine ⟨⟨_, _, rfl, toS_rel hs h1, h2⟩, ?_⟩
    intro id hid
    simp only [midsT, List.mem_append] at hid
    rcases hid with hid | hid
    ·rw [toS_mids hs] at hid; exact h1m id hid
    ·exact h2m id hid
   ·simp at he
  ·simp at he
theorem clo_sound {ops : Array Oper} {i : Nat} {o : Oper} {d : Nat} (ho : ops[i]? = some o) (hg : o.guard = none) (hd : o.dst = some d) {n : Nat} (hdn : d < n) {f : FuncId} {first caps : Array Operand} (hop : o.op = .makeFunc (.func f) first caps)
  {st : St} {fs cs : List (Bool × List C)} (hf : evT st first.toList = some fs) (hc : evT st caps.toList = some cs) (new : Nat) :
  StepS P n ops i ((first.toList ++ caps.toList).flatMap (opd st)) [(.s d, some (.v (.c (.X new)))), (.m new, some (.b (.clo f fs cs)))] new := by
 intro F hFn Q known σ g W a K hnew hsem hrd hK
 let ⟨hf1, hf2⟩ := evT_rel hsem st _ _ hf (fun kx hkx => hrd kx (by rw [List.flatMap_append]; exact List.mem_append_left _ hkx))
 let ⟨hc1, hc2⟩ := evT_rel hsem st _ _ hc (fun kx hkx => hrd kx (by rw [List.flatMap_append]; exact List.mem_append_right _ hkx))
 have hex : (execOp a.eval o).run P W = .ok (.value (.func (.func f) (first.toList.map a.eval).toArray (caps.toList.map a.eval).toArray)) W := by
  rw [execOp, hop]
  have e1 : first.map a.eval = (first.toList.map a.eval).toArray := by apply Array.ext'; simp
  have e2 : caps.map a.eval = (caps.toList.map a.eval).toArray := by apply Array.ext'; simp
  simp only [Instr.makeFunc, e1, e2]
  rfl
 unfold wpOp
 simp only [ho, Region.wanted, hg, if_true]
 refine .inl ?_
 unfold Oper.wp
 rw [hex]
 simp only [Oper.upon, hd]
 have hszd : d < a.tmps.size := by rw [hsem.size, hFn]; exact hdn
 let v : Value := .func (.func f) (first.toList.map a.eval).toArray (caps.toList.map a.eval).toArray
 let g' : Gh := ⟨g.H, fun id => if id = new then v else g.γ id⟩
 have hgn : g'.γ new = v := by simp [g']
 have hGle : GLe known g g' := ⟨FLe.refl _, fun id hid => by
  have : id ≠ new := fun e => hnew (e ▸ hid)
  simp [g', this]⟩
 refine hK g' _ _ (hsem.step (chg := fun _ => False) (g' := g') ⟨hGle, fun _ _ _ => rfl, hsem.sub, Nat.le_refl _, fun _ _ _ => rfl, rfl, rfl, rfl⟩ _ new hnew (by simp [Act.put]) hsem.defers (fun t ht => step_put_d ht) (fun _ h => h.elim) ?_ ?_ ?_ ?_)
 ·intro t u ht
  simp only [says] at ht
  split at ht
  ·rename_i e
   simp only [Key.s.injEq] at e
   simp only [Option.some.injEq, Info.v.injEq] at ht
   subst e; subst ht
   show _ = g'.γ new
   rw [hgn]
   simp [Act.put, hszd, v]
  ·simp at ht
 ·intro id b ht
  simp only [says, reduceCtorEq, if_false] at ht
  split at ht
  ·rename_i e
   simp only [Key.m.injEq] at e
   subst e
   simp only [Option.some.injEq, Info.b.injEq] at ht
   subst ht
   refine ⟨⟨_, _, hgn, RelT.mono hGle hf2 hf1, RelT.mono hGle hc2 hc1⟩, .inr ⟨rfl, fun k hk => ?_⟩⟩
   rw [hgn] at hk
   simp [blk, v] at hk
  ·simp at ht
 ·intro k y ht
  simp only [says] at ht
  split at ht
  ·simp only [Option.some.injEq] at ht
   subst ht
   intro id hid
   simp [Info.mids, AV.mids, C.mids] at hid
   exact .inr hid
  ·split at ht
   ·simp only [Option.some.injEq] at ht
    subst ht
    intro id hid
    rcases List.mem_append.1 hid with h | h
    ·exact .inl (hf2 id h)
    ·exact .inl (hc2 id h)
   ·simp at ht
 ·intro id y ht
  simp only [says, reduceCtorEq, if_false] at ht
  split at ht
  ·rename_i e
   simp only [Key.m.injEq] at e
   exact .inr e.symm
  ·simp at ht
end
def actN (us : List Value) : Act := { tmps := us.toArray, defers := [] }
structure CX (P : Program) (f : FuncId) (vs : List AV) (fm : List (Nat × Blk)) (k : Nat) (r : AV) (fm' : List (Nat × Blk)) (k' : Nat) : Prop where
 call : callB P f = true
 le : k ≤ k'
 spec : ∀ (F : Fix) (g : Gh) (W : World) (us : List Value), F.n = vs.length → us.length = vs.length → Hold F (· < k) (St.kn ⟨argSl 0 vs, fm, 0, []⟩) g W (actN us) →
  Calls P f us.toArray W (fun e W' => ∃ v g', e = .returned v ∧ Hold { F with n := 1 } (· < k') (St.kn ⟨[(0, r)], fm', 0, []⟩) g' W' (actN [v]))
def wrM (fm' : List (Nat × Blk)) : List (Nat × Blk) → List (Key × Option Info)
 | [] => []
 | (id, _) :: r => (.m id, (lookA id fm').map .b) :: wrM fm' r
def wrN (k : Nat) : List (Nat × Blk) → List (Key × Option Info)
 | [] => []
 | (id, b) :: r => if k ≤ id then (.m id, some (.b b)) :: wrN k r else wrN k r
theorem says_append {u v : List (Key × Option Info)} {k : Key} : says (u ++ v) k = match says u k with | some x => some x | none => says v k := by
 induction u with
 | nil => rfl
 | cons p u ih =>
  let ⟨k', x⟩ := p
  simp only [List.cons_append, says]
  split
  ·rfl
  ·exact ih
theorem says_wrM_s (fm' : List (Nat × Blk)) (t : Nat) : ∀ fm, says (wrM fm' fm) (.s t) = none
 | [] => rfl
 | (id, b) :: r => by simp [wrM, says, says_wrM_s fm' t r]
theorem says_wrN_s (k : Nat) (t : Nat) : ∀ fm, says (wrN k fm) (.s t) = none
 | [] => rfl
 | (id, b) :: r => by
  simp only [wrN]
  split
  ·simp [says, says_wrN_s k t r]
  ·exact says_wrN_s k t r
theorem says_wrM_m (fm' : List (Nat × Blk)) (j : Nat) : ∀ fm : List (Nat × Blk), says (wrM fm' fm) (.m j) = if (lookA j fm).isSome then some ((lookA j fm').map .b) else none
 | [] => rfl
 | (id, b) :: r => by
  simp only [wrM, says, lookA, Key.m.injEq]
  by_cases e : id = j
  ·simp [e]
  ·simp only [e, if_false]
   exact says_wrM_m fm' j r
theorem says_wrN_m (k j : Nat) : ∀ fm : List (Nat × Blk), says (wrN k fm) (.m j) = if k ≤ j then (lookA j fm).map (fun b => some (.b b)) else none
 | [] => by simp [wrN, says, lookA]
 | (id, b) :: r => by
  simp only [wrN, lookA]
  by_cases h : k ≤ id
  ·simp only [h, if_true, says, Key.m.injEq]
   by_cases e : id = j
   ·subst e; simp [h]
   ·simp only [e, if_false]
    exact says_wrN_m k j r
  ·simp only [h, if_false]
   by_cases e : id = j
   ·subst e
    rw [says_wrN_m k id r]
    simp [h]
   ·simp only [e, if_false]
    exact says_wrN_m k j r
def idsB (k : Nat) (fm : List (Nat × Blk)) : List Nat → Bool
 | [] => true
 | id :: r => (Nat.ble k id || (lookA id fm).isSome) && idsB k fm r
def memIdsB (k : Nat) (fm : List (Nat × Blk)) : List (Nat × Blk) → Bool
 | [] => true
 | (id, b) :: r => (Nat.ble k id || (lookA id fm).isSome) && idsB k fm b.mids && memIdsB k fm r
theorem idsB_ok {k : Nat} {fm : List (Nat × Blk)} : ∀ {l : List Nat}, idsB k fm l = true → ∀ id ∈ l, k ≤ id ∨ ∃ b, lookA id fm = some b
 | [], _, _, h => by cases h
 | j :: r, hb, id, h => by
  simp only [idsB, Bool.and_eq_true, Bool.or_eq_true] at hb
  rcases List.mem_cons.1 h with rfl | h
  ·rcases hb.1 with h1 | h1
   ·exact .inl (Nat.le_of_ble_eq_true h1)
   ·exact .inr (Option.isSome_iff_exists.1 h1)
  ·exact idsB_ok hb.2 id h
theorem memIdsB_ok {k : Nat} {fm : List (Nat × Blk)} : ∀ {l : List (Nat × Blk)}, memIdsB k fm l = true → ∀ id b, lookA id l = some b → (k ≤ id ∨ ∃ b, lookA id fm = some b) ∧ ∀ j ∈ b.mids, k ≤ j ∨ ∃ b, lookA j fm = some b
 | [], _, _, _, h => by simp [lookA] at h
 | (j, x) :: r, hb, id, b, h => by
  simp only [memIdsB, Bool.and_eq_true, Bool.or_eq_true] at hb
  simp only [lookA] at h
  split at h
  ·rename_i e
   subst e; cases h
   refine ⟨?_, idsB_ok hb.1.2⟩
   rcases hb.1.1 with h1 | h1
   ·exact .inl (Nat.le_of_ble_eq_true h1)
   ·exact .inr (Option.isSome_iff_exists.1 h1)
  ·exact memIdsB_ok hb.2 id b h
theorem RepB.reN {N N' : Nat → Prop} {g g' : Gh} {W : World} {id : Nat} {b : Blk} (h : RepB N g W id b) (hN : ∀ k, blk (g.γ id) = some k → N' k) (hγ : g'.γ id = g.γ id) (hH : g'.H = g.H) (hl : GLe (fun j => j ∈ b.mids) g g') : RepB N' g' W id b := by
 cases b with
 | box E sz cs =>
  let ⟨b, vs, rest, e, hh, hr, hn, hz, hc⟩ := h
  exact ⟨b, vs, rest, by rw [hγ]; exact e, hh, RelL.mono hl (fun j hj => hj) hr, hN b e, by rw [hH]; exact hz, by rw [hγ]; exact hc⟩
 | vec E T xs =>
  rcases h with ⟨e, h0⟩ | ⟨b, cap, vs, e, hh, h1, h2, h3, h4, hn, hz⟩
  ·exact .inl ⟨by rw [hγ]; exact e, h0⟩
  ·exact .inr ⟨b, cap, vs, by rw [hγ]; exact e, hh, h1, h2, h3, by rw [hH]; exact h4, hN b (by rw [e]; rfl), by rw [hH]; exact hz⟩
 | clo f first caps =>
  let ⟨us, ws, e, h1, h2⟩ := h
  exact ⟨us, ws, by rw [hγ]; exact e, RelT.mono hl (fun j hj => List.mem_append_left _ hj) h1, RelT.mono hl (fun j hj => List.mem_append_right _ hj) h2⟩
 | fz E cs =>
  let ⟨b, vs, rest, e, hh, hr, hn, hz⟩ := h
  exact ⟨b, vs, rest, by rw [hγ]; exact e, hh, RelL.mono hl (fun j hj => hj) hr, hN b e, by rw [hH]; exact hz⟩
 | mp ka va xs =>
  let ⟨r, es, e, hh, hr, hn, hz⟩ := h
  exact ⟨r, es, by rw [hγ]; exact e, hh, RelM.mono hl (fun j hj => hj) hr, hN r (by rw [e]; rfl), by rw [hH]; exact hz⟩
 | it m n seen =>
  let ⟨r, b, e, e1, hh, hn, hz⟩ := h
  exact ⟨r, b, by rw [hγ]; exact e, by rw [hl.γ m (by simp [Blk.mids])]; exact e1, hh, hN r (by rw [e]; rfl), by rw [hH]; exact hz⟩
 | itn m n seen =>
  let ⟨k0, k1, k2, r, b, e, e1, hh, hn, hz⟩ := h
  exact ⟨k0, k1, k2, r, b, by rw [hγ]; exact e, by rw [hl.γ m (by simp [Blk.mids])]; exact e1, hh, hN r (by rw [e]; rfl), by rw [hH]; exact hz⟩
theorem RepB.keep {known : Nat → Prop} {N : Nat → Prop} {g g' : Gh} {W W' : World} {id : Nat} {b : Blk} (h : RepB N g W id b) (hl : GLe known g g') (hid : known id) (hm : ∀ j ∈ b.mids, known j)
  (hh : ∀ k, blk (g.γ id) = some k → W'.heap[k]? = W.heap[k]? ∧ ∀ o, g'.H k o = g.H k o) : RepB N g' W' id b := by
 have hγ := hl.γ id hid
 cases b with
 | box E sz cs =>
  let ⟨b, vs, rest, e, h1, hr, hn, hz, hc⟩ := h
  exact ⟨b, vs, rest, by rw [hγ]; exact e, by rw [(hh b e).1]; exact h1, RelL.mono hl hm hr, hn, fun o => by rw [(hh b e).2]; exact hz o, by rw [hγ]; exact hc⟩
 | vec E T xs =>
  rcases h with ⟨e, h0⟩ | ⟨b, cap, vs, e, h0, h1, h2, h3, h4, hn, hz⟩
  ·exact .inl ⟨by rw [hγ]; exact e, h0⟩
  ·have hb : blk (g.γ id) = some b := by rw [e]; rfl
   exact .inr ⟨b, cap, vs, by rw [hγ]; exact e, by rw [(hh b hb).1]; exact h0, h1, h2, h3, fun i hi => RelD.mono hl.H T _ _ (h4 i hi), hn, fun o => by rw [(hh b hb).2]; exact hz o⟩
 | clo f first caps =>
  let ⟨us, ws, e, h1, h2⟩ := h
  exact ⟨us, ws, by rw [hγ]; exact e, RelT.mono hl (fun j hj => hm j (List.mem_append_left _ hj)) h1, RelT.mono hl (fun j hj => hm j (List.mem_append_right _ hj)) h2⟩
 | fz E cs =>
  let ⟨b, vs, rest, e, h1, hr, hn, hz⟩ := h
  exact ⟨b, vs, rest, by rw [hγ]; exact e, by rw [(hh b e).1]; exact h1, RelL.mono hl hm hr, hn, fun o => by rw [(hh b e).2]; exact hz o⟩
 | mp ka va xs =>
  let ⟨r, es, e, h1, hr, hn, hz⟩ := h
  have hb : blk (g.γ id) = some r := by rw [e]; rfl
  exact ⟨r, es, by rw [hγ]; exact e, by rw [(hh r hb).1]; exact h1, RelM.mono hl hm hr, hn, fun o => by rw [(hh r hb).2]; exact hz o⟩
 | it m n seen =>
  let ⟨r, b, e, e1, h1, hn, hz⟩ := h
  have hb : blk (g.γ id) = some r := by rw [e]; rfl
  exact ⟨r, b, by rw [hγ]; exact e, by rw [hl.γ m (hm m (by simp [Blk.mids]))]; exact e1, by rw [(hh r hb).1]; exact h1, hn, fun o => by rw [(hh r hb).2]; exact hz o⟩
 | itn m n seen =>
  let ⟨k0, k1, k2, r, b, e, e1, h1, hn, hz⟩ := h
  have hb : blk (g.γ id) = some r := by rw [e]; rfl
  exact ⟨k0, k1, k2, r, b, by rw [hγ]; exact e, by rw [hl.γ m (hm m (by simp [Blk.mids]))]; exact e1, by rw [(hh r hb).1]; exact h1, hn, fun o => by rw [(hh r hb).2]; exact hz o⟩
section
variable {P : Program} {tt : TT}
theorem midsVs_mem {st : St} {F : Fix} {known : Nat → Prop} {σ : Kn} {g : Gh} {W : World} {a : Act} (h : Hold F known σ g W a) : ∀ (xs : List Operand) (vs : List AV), evs st xs = some vs → (∀ kx ∈ xs.flatMap (opd st), σ kx.1 = some kx.2) → ∀ id ∈ midsVs vs, known id
 | [], vs, he, _, id, hid => by simp only [evs, Option.some.injEq] at he; subst he; cases hid
 | x :: xs, vs, he, hr, id, hid => by
  simp only [evs] at he
  split at he
  ·rename_i v vs' hv hvs
   simp only [Option.some.injEq] at he
   subst he
   simp only [midsVs, List.mem_append] at hid
   rcases hid with hid | hid
   ·exact ev_mids h st x v hv (fun kx hkx => hr kx (by simp [hkx])) id hid
   ·exact midsVs_mem h xs vs' hvs (fun kx hkx => hr kx (by simp only [List.flatMap_cons, List.mem_append]; exact .inr hkx)) id hid
  ·simp at he
theorem cx_stepP {f : FuncId} {vs : List AV} {fm fm' : List (Nat × Blk)} {k k' : Nat} {r : AV} (hf : CX P f vs fm k r fm' k') (hmv : ∀ id ∈ midsVs vs, id < k) (hmm : ∀ id b, lookA id fm = some b → id < k ∧ ∀ j ∈ b.mids, j < k) (hir : ∀ id ∈ r.mids, k ≤ id ∨ ∃ b, lookA id fm = some b)
  (him : ∀ id b, lookA id fm' = some b → lookA id fm = some b ∨ ∀ j ∈ b.mids, k ≤ j ∨ ∃ b, lookA j fm = some b)
  {Fc : Fix} {known : Nat → Prop} {σ : Kn} {g : Gh} {W : World} {a : Act} (hsem : Hold Fc known σ g W a) (hnew : ∀ id, (k ≤ id ∧ id < k') → ¬ known id) {us : List Value} (hus : RelVs g vs us) (hkv : ∀ id ∈ midsVs vs, known id)
  (hrd : ∀ id b, lookA id fm = some b → σ (.m id) = some (.b b)) {d : Nat} (hd : d < a.tmps.size) :
  Calls P f us.toArray W (fun e W' => ∃ v g', e = .returned v ∧ Hold Fc (fun id => known id ∨ (k ≤ id ∧ id < k')) (upd σ ((.s d, some (.v r)) :: (wrM fm' fm ++ wrN k fm'))) g' W' (a.put (some d) v)) := by
 have hul := relVs_length hus
 let F : Fix := { w0 := W, H0 := g.H, n := vs.length, own := fun b => ∃ id bb, lookA id fm = some bb ∧ blk (g.γ id) = some b, k0 := k, γ0 := g.γ }
 have hN : ∀ b, F.N b → b < W.heap.size → Fc.N b := by
  intro b hb hlt
  rcases hb with hb | ⟨id, bb, h1, h2⟩
  ·exact absurd hb (by show ¬ W.heap.size ≤ b; omega)
  ·exact ((hsem.blks id bb (hrd id bb h1)).block h2).1
 have hN' : ∀ b, F.N b → Fc.N b := by
  intro b hb
  rcases hb with hb | ⟨id, bb, h1, h2⟩
  ·exact .inl (Nat.le_trans hsem.below.size hb)
  ·exact ((hsem.blks id bb (hrd id bb h1)).block h2).1
 have h0 : Hold F (· < k) (St.kn ⟨argSl 0 vs, fm, 0, []⟩) g W (actN us) := by
  refine ⟨by simp [actN, F, hul], rfl, ?_, ?_, ?_, ?_, ?_, hsem.sub, ⟨rfl, rfl, rfl, Nat.le_refl _, fun _ _ _ => rfl⟩, FLe.refl _, fun _ _ _ _ => rfl, fun id hid => ⟨hid, rfl⟩⟩
  ·intro t v ht
   simp only [St.kn, Option.map_eq_some_iff] at ht
   let ⟨x, hx, he⟩ := ht
   cases he
   let ⟨_, u, hu, hr, _⟩ := argSl_look vs us 0 hus t v hx
   have hu' : us[t]? = some u := by simpa using hu
   simp only [actN, Array.getD_eq_getD_getElem?, List.getElem?_toArray, hu', Option.getD_some]
   exact hr
  ·intro id b hb
   simp only [St.kn, Option.map_eq_some_iff] at hb
   let ⟨x, hx, he⟩ := hb
   cases he
   exact (hsem.blks id b (hrd id b hx)).reN (fun kk hkk => .inr ⟨id, b, hx, hkk⟩) rfl rfl ⟨FLe.refl _, fun _ _ => rfl⟩
  ·intro id id' b b' kk hb hb' h1 h2
   simp only [St.kn, Option.map_eq_some_iff] at hb hb'
   let ⟨x, hx, he⟩ := hb
   let ⟨x', hx', he'⟩ := hb'
   cases he; cases he'
   exact hsem.inj id id' b b' kk (hrd id b hx) (hrd id' b' hx') h1 h2
  ·intro key x hx id hid
   cases key with
   | s t =>
    simp only [St.kn, Option.map_eq_some_iff] at hx
    let ⟨y, hy, he⟩ := hx
    subst he
    let ⟨_, _, _, _, h6⟩ := argSl_look vs us 0 hus t y hy
    exact hmv id (h6 id hid)
   | m j =>
    simp only [St.kn, Option.map_eq_some_iff] at hx
    let ⟨y, hy, he⟩ := hx
    subst he
    exact (hmm j y hy).2 id hid
  ·intro id x hx
   simp only [St.kn, Option.map_eq_some_iff] at hx
   let ⟨y, hy, he⟩ := hx
   exact (hmm id y hy).1
 refine (hf.spec F g W us rfl hul h0).mono ?_
 rintro e W' ⟨v, g', rfl, h1⟩
 refine ⟨v, ⟨g'.H, fun id => if k ≤ id ∧ id < k' then g'.γ id else g.γ id⟩, rfl, ?_⟩
 generalize hg2 : (⟨g'.H, fun id => if k ≤ id ∧ id < k' then g'.γ id else g.γ id⟩ : Gh) = g2
 have hgH : g2.H = g'.H := by rw [← hg2]
 have hgγ : ∀ id, g2.γ id = if k ≤ id ∧ id < k' then g'.γ id else g.γ id := by rw [← hg2]; intro id; rfl
 have hlow : ∀ id, id < k' → g2.γ id = g'.γ id := by
  intro id hid
  rw [hgγ]
  split
  ·rfl
  ·rename_i hn
   exact (h1.kfix id (by show id < k; omega)).2.symm
 have hlate : GLe (· < k') g' g2 := ⟨by rw [hgH]; exact FLe.refl _, fun id hid => hlow id hid⟩
 have hearly : GLe known g g2 := ⟨by rw [hgH]; exact h1.le, fun id hid => by
  rw [hgγ, if_neg]
  intro hc
  exact hnew id hc hid⟩
 have hfmk : ∀ id b, lookA id fm = some b → known id := fun id b hb => hsem.mkn _ _ (hrd id b hb)
 have hids : ∀ id, (k ≤ id ∨ ∃ b, lookA id fm = some b) → id < k' → known id ∨ (k ≤ id ∧ id < k') := by
  intro id h h2
  rcases h with h | ⟨b, hb⟩
  ·exact .inr ⟨h, h2⟩
  ·exact .inl (hfmk id b hb)
 have hrmid : ∀ id ∈ r.mids, id < k' := fun id hid => h1.mids (.s 0) (.v r) (by simp [St.kn, lookA]) id hid
 have hnotown : ∀ kk, kk < W.heap.size → ¬ F.own kk → W'.heap[kk]? = W.heap[kk]? ∧ ∀ o, g'.H kk o = g.H kk o := fun kk hk hno => ⟨h1.below.block kk hk hno, fun o => h1.fresh kk o hk hno⟩
 have hsay : ∀ j, says ((.s d, some (.v r)) :: (wrM fm' fm ++ wrN k fm')) (.m j) = if (lookA j fm).isSome then some ((lookA j fm').map .b) else if k ≤ j then (lookA j fm').map (fun b => some (.b b)) else none := by
  intro j
  simp only [says, reduceCtorEq, if_false, says_append, says_wrM_m, says_wrN_m]
  by_cases h : (lookA j fm).isSome = true
  ·simp [h]
  ·simp [h]
 have hcase : ∀ j b, upd σ ((.s d, some (.v r)) :: (wrM fm' fm ++ wrN k fm')) (.m j) = some (.b b) → (lookA j fm' = some b ∧ j < k') ∨ (lookA j fm = none ∧ σ (.m j) = some (.b b) ∧ known j) := by
  intro j b hb
  simp only [upd, hsay] at hb
  by_cases h : (lookA j fm).isSome = true
  ·simp only [h, if_true, Option.map_eq_some_iff] at hb
   let ⟨x, hx, he⟩ := hb
   cases he
   exact .inl ⟨hx, h1.mkn j (.b b) (by simp [St.kn, hx])⟩
  ·have hno : lookA j fm = none := by simpa using h
   simp only [h, if_false, Bool.false_eq_true] at hb
   by_cases hk : k ≤ j
   ·simp only [hk, if_true] at hb
    cases hx : lookA j fm' with
    | none =>
     rw [hx] at hb
     simp only [Option.map_none] at hb
     exact .inr ⟨hno, hb, hsem.mkn _ _ hb⟩
    | some x =>
     rw [hx] at hb
     simp only [Option.map_some, Option.some.injEq, Info.b.injEq] at hb
     subst hb
     exact .inl ⟨rfl, h1.mkn j (.b x) (by simp [St.kn, hx])⟩
   ·simp only [hk, if_false] at hb
    exact .inr ⟨hno, hb, hsem.mkn _ _ hb⟩
 have hold_blk : ∀ j b kk, lookA j fm = none → σ (.m j) = some (.b b) → blk (g.γ j) = some kk → kk < W.heap.size ∧ ¬ F.own kk := by
  intro j b kk h2 h3 h4
  refine ⟨((hsem.blks j b h3).block h4).2, ?_⟩
  rintro ⟨id, bb, h5, h6⟩
  have := hsem.inj j id b bb kk h3 (hrd id bb h5) h4 h6
  subst this
  rw [h2] at h5; cases h5
 refine ⟨by simp [Act.put, hsem.size], hsem.defers, ?_, ?_, ?_, ?_, ?_, by rw [hgH]; exact h1.sub, ?_, by rw [hgH]; exact hsem.le.trans h1.le, ?_, ?_⟩
 ·intro t u ht
  simp only [upd, says, says_append, says_wrM_s, says_wrN_s] at ht
  by_cases e : d = t
  ·subst e
   simp only [if_true, Option.some.injEq, Info.v.injEq] at ht
   subst ht
   have hr := h1.slots 0 r (by simp [St.kn, lookA])
   have hv : (a.put (some d) v).tmps.getD d undef = v := by simp [Act.put, hd]
   rw [hv]
   exact RelV.mono hlate hrmid (by simpa [actN] using hr)
  ·have e' : ¬ (Key.s d = Key.s t) := fun h => e (by simpa using h)
   simp only [e', if_false] at ht
   have hv : (a.put (some d) v).tmps.getD t undef = a.tmps.getD t undef := by simp [Act.put, Array.getElem?_setIfInBounds_ne e]
   rw [hv]
   exact RelV.mono hearly (fun id hid => hsem.mids _ _ ht id hid) (hsem.slots t u ht)
 ·intro j b hb
  rcases hcase j b hb with ⟨h2, h3⟩ | ⟨h2, h3, h4⟩
  ·have hrep := h1.blks j b (by simp [St.kn, h2])
   exact hrep.reN (fun kk hkk => hN' kk (hrep.block hkk).1) (hlow j h3) hgH ⟨hlate.H, fun i hi => hlate.γ i (h1.mids (.m j) (.b b) (by simp [St.kn, h2]) i hi)⟩
  ·refine (hsem.blks j b h3).keep hearly h4 (fun i hi => hsem.mids _ _ h3 i hi) (fun kk hkk => ?_)
   let ⟨h5, h6⟩ := hold_blk j b kk h2 h3 hkk
   rw [hgH]
   exact hnotown kk h5 h6
 ·intro j j' b b' kk hb hb' hk1 hk2
  rcases hcase j b hb with ⟨h2, h3⟩ | ⟨h2, h3, h4⟩ <;> rcases hcase j' b' hb' with ⟨h2', h3'⟩ | ⟨h2', h3', h4'⟩
  ·rw [hlow j h3] at hk1
   rw [hlow j' h3'] at hk2
   exact h1.inj j j' b b' kk (by simp [St.kn, h2]) (by simp [St.kn, h2']) hk1 hk2
  ·exfalso
   rw [hlow j h3] at hk1
   rw [hearly.γ j' h4'] at hk2
   let ⟨h5, h6⟩ := hold_blk j' b' kk h2' h3' hk2
   rcases ((h1.blks j b (by simp [St.kn, h2])).block hk1).1 with h7 | h7
   ·exact absurd h7 (by show ¬ W.heap.size ≤ kk; omega)
   ·exact h6 h7
  ·exfalso
   rw [hlow j' h3'] at hk2
   rw [hearly.γ j h4] at hk1
   let ⟨h5, h6⟩ := hold_blk j b kk h2 h3 hk1
   rcases ((h1.blks j' b' (by simp [St.kn, h2'])).block hk2).1 with h7 | h7
   ·exact absurd h7 (by show ¬ W.heap.size ≤ kk; omega)
   ·exact h6 h7
  ·rw [hearly.γ j h4] at hk1
   rw [hearly.γ j' h4'] at hk2
   exact hsem.inj j j' b b' kk h3 h3' hk1 hk2
 ·intro key x hx id hid
  cases key with
  | s t =>
   simp only [upd, says, says_append, says_wrM_s, says_wrN_s] at hx
   by_cases e : d = t
   ·subst e
    simp only [if_true, Option.some.injEq] at hx
    subst hx
    exact hids id (hir id hid) (hrmid id hid)
   ·have e' : ¬ (Key.s d = Key.s t) := fun h => e (by simpa using h)
    simp only [e', if_false] at hx
    exact .inl (hsem.mids _ _ hx id hid)
  | m j =>
   cases x with
   | v u =>
    simp only [upd, hsay] at hx
    by_cases h : (lookA j fm).isSome = true
    ·simp only [h, if_true, Option.map_eq_some_iff] at hx
     let ⟨_, _, he⟩ := hx; cases he
    ·simp only [h, if_false, Bool.false_eq_true] at hx
     by_cases hk : k ≤ j
     ·simp only [hk, if_true] at hx
      cases hy : lookA j fm' with
      | none => rw [hy] at hx; exact .inl (hsem.mids (.m j) (.v u) (by simpa using hx) id hid)
      | some y => rw [hy] at hx; simp at hx
     ·simp only [hk, if_false] at hx
      exact .inl (hsem.mids _ _ hx id hid)
   | b b =>
    rcases hcase j b hx with ⟨h2, h3⟩ | ⟨h2, h3, h4⟩
    ·rcases him j b h2 with h7 | h7
     ·exact .inl (hsem.mids _ _ (hrd j b h7) id hid)
     ·exact hids id (h7 id hid) (h1.mids (.m j) (.b b) (by simp [St.kn, h2]) id hid)
    ·exact .inl (hsem.mids _ _ h3 id hid)
 ·intro j x hx
  simp only [upd, hsay] at hx
  by_cases h : (lookA j fm).isSome = true
  ·let ⟨b, hb⟩ := Option.isSome_iff_exists.1 h
   exact .inl (hfmk j b hb)
  ·simp only [h, if_false, Bool.false_eq_true] at hx
   by_cases hk : k ≤ j
   ·simp only [hk, if_true] at hx
    cases hy : lookA j fm' with
    | none => rw [hy] at hx; exact .inl (hsem.mkn _ _ (by simpa using hx))
    | some y => exact .inr ⟨hk, h1.mkn j (.b y) (by simp [St.kn, hy])⟩
   ·simp only [hk, if_false] at hx
    exact .inl (hsem.mkn _ _ hx)
 ·refine ⟨h1.below.os.trans hsem.below.os, h1.below.tape.trans hsem.below.tape, h1.below.output.trans hsem.below.output, Nat.le_trans hsem.below.size h1.below.size, fun kk hk hno => ?_⟩
  have hlt : kk < W.heap.size := Nat.lt_of_lt_of_le hk hsem.below.size
  rw [← hsem.below.block kk hk hno]
  refine (hnotown kk hlt (fun ho => ?_)).1
  rcases hN kk (.inr ho) hlt with h2 | h2
  ·omega
  ·exact hno h2
 ·intro kk o hk hno
  have hlt : kk < W.heap.size := Nat.lt_of_lt_of_le hk hsem.below.size
  rw [hgH, (hnotown kk hlt (fun ho => ?_)).2 o]
  ·exact hsem.fresh kk o hk hno
  ·rcases hN kk (.inr ho) hlt with h2 | h2
   ·omega
   ·exact hno h2
 ·intro id hid
  let ⟨h2, h3⟩ := hsem.kfix id hid
  exact ⟨.inl h2, by rw [hearly.γ id h2]; exact h3⟩
theorem cx_step {f : FuncId} {vs : List AV} {fm fm' : List (Nat × Blk)} {k k' : Nat} {r : AV} (hf : CX P f vs fm k r fm' k') (hmv : midsB k (midsVs vs) = true) (hmm : memB k fm = true) (hir : idsB k fm r.mids = true) (him : memIdsB k fm fm' = true)
  {Fc : Fix} {known : Nat → Prop} {σ : Kn} {g : Gh} {W : World} {a : Act} (hsem : Hold Fc known σ g W a) (hnew : ∀ id, (k ≤ id ∧ id < k') → ¬ known id) {us : List Value} (hus : RelVs g vs us) (hkv : ∀ id ∈ midsVs vs, known id)
  (hrd : ∀ id b, lookA id fm = some b → σ (.m id) = some (.b b)) {d : Nat} (hd : d < a.tmps.size) :
  Calls P f us.toArray W (fun e W' => ∃ v g', e = .returned v ∧ Hold Fc (fun id => known id ∨ (k ≤ id ∧ id < k')) (upd σ ((.s d, some (.v r)) :: (wrM fm' fm ++ wrN k fm'))) g' W' (a.put (some d) v)) :=
 cx_stepP hf (midsB_ok hmv) (fun id b h => memB_ok hmm id b h) (idsB_ok hir) (fun id b h => .inr (memIdsB_ok him id b h).2) hsem hnew hus hkv hrd hd
end
def unS : Bool × List C → Option AV
 | (true, cs) => some (.a cs)
 | (false, [c]) => some (.c c)
 | _ => none
def unSs : List (Bool × List C) → Option (List AV)
 | [] => some []
 | s :: r => (match unS s, unSs r with
  | some v, some vs => some (v :: vs)
  | _, _ => none)
def tgtC (st : St) (cf : Operand) (args : List Operand) : Option (FuncId × List AV × List Nat) := match evs st args with
 | some vs => (match st.ev cf with
  | some (.c (.V (.func (.func f) ⟨[]⟩ ⟨[]⟩))) => some (f, vs, [])
  | some (.c (.X id)) => (match lookA id st.mem with
   | some (.clo f first caps) => (match unSs first, unSs caps with
    | some us, some ws => some (f, us ++ (vs ++ ws), [id])
    | _, _ => none)
   | _ => none)
  | _ => none)
 | none => none
theorem unSs_rel {g : Gh} : ∀ {ss : List (Bool × List C)} {vs : List AV} {us : List Value}, unSs ss = some vs → RelT g ss us → RelVs g vs us
 | [], vs, us, h, hr => by simp only [unSs, Option.some.injEq] at h; subst h; exact hr
 | s :: r, vs, us, h, hr => by
  simp only [unSs] at h
  split at h
  ·rename_i v vs' h1 h2
   simp only [Option.some.injEq] at h
   subst h
   obtain ⟨u, us', rfl, h3, h4⟩ := hr
   refine ⟨u, us', rfl, ?_, unSs_rel h2 h4⟩
   match s, h1, h3 with
   | (true, cs), h1, h3 => simp only [unS, Option.some.injEq] at h1; subst h1; exact h3
   | (false, [c]), h1, h3 => simp only [unS, Option.some.injEq] at h1; subst h1; exact h3
  ·simp at h
theorem unSs_mids : ∀ {ss : List (Bool × List C)} {vs : List AV}, unSs ss = some vs → ∀ id ∈ midsVs vs, id ∈ midsT ss
 | [], vs, h, id, hid => by simp only [unSs, Option.some.injEq] at h; subst h; cases hid
 | s :: r, vs, h, id, hid => by
  simp only [unSs] at h
  split at h
  ·rename_i v vs' h1 h2
   simp only [Option.some.injEq] at h
   subst h
   simp only [midsVs, List.mem_append] at hid
   simp only [midsT, List.mem_append]
   rcases hid with hid | hid
   ·left
    match s, h1 with
    | (true, cs), h1 => simp only [unS, Option.some.injEq] at h1; subst h1; exact hid
    | (false, [c]), h1 => simp only [unS, Option.some.injEq] at h1; subst h1; simpa [midsL, AV.mids] using hid
   ·exact .inr (unSs_mids h2 id hid)
  ·simp at h
theorem RelVs.append {g : Gh} : ∀ {xs ys : List AV} {us ws : List Value}, RelVs g xs us → RelVs g ys ws → RelVs g (xs ++ ys) (us ++ ws)
 | [], _, _, _, h, h2 => by simp only [RelVs] at h; subst h; exact h2
 | x :: xs, _, _, _, h, h2 => by
  obtain ⟨u, r, rfl, h1, h3⟩ := h
  exact ⟨u, r ++ _, rfl, h1, RelVs.append h3 h2⟩
theorem midsVs_append (xs ys : List AV) : midsVs (xs ++ ys) = midsVs xs ++ midsVs ys := by
 induction xs with
 | nil => rfl
 | cons x xs ih => simp [midsVs, ih]
section
variable {P : Program} {tt : TT}
theorem enter_run {f : FuncId} {us caps : Array Value} {W : World} (hcb : callB P f = true) : (invoke (.fn (.func f) caps) us).run P W = .ok (.enter f (us ++ caps)) W := by
 unfold callB at hcb
 cases hfn : P.funcs[f]? with
 | none => rw [hfn] at hcb; simp at hcb
 | some fn =>
  rw [hfn] at hcb
  simp only [Bool.and_eq_true, bne_iff_ne, ne_eq] at hcb
  have h2 : fn.body ≠ none := by
   intro hb
   rw [hb] at hcb
   simp at hcb
  simp [invoke, callFunc, hfn, hcb.1, h2]
theorem tgtC_run {F : Fix} {known : Nat → Prop} {σ : Kn} {g : Gh} {W : World} {a : Act} (hsem : Hold F known σ g W a) {st : St} {o : Oper} {cf : Operand} {args : Array Operand} {tys : Array TypeId} (hop : o.op = .call ⟨.value cf, args, tys⟩) {f : FuncId} {vs : List AV} {ids : List Nat} (ht : tgtC st cf args.toList = some (f, vs, ids)) (hcb : callB P f = true)
  (hrd : ∀ kx ∈ opd st cf ++ args.toList.flatMap (opd st) ++ mrd st ids, σ kx.1 = some kx.2) : ∃ us : List Value, (execOp a.eval o).run P W = .ok (.enter f us.toArray) W ∧ RelVs g vs us ∧ ∀ id ∈ midsVs vs, known id := by
 unfold tgtC at ht
 split at ht
 ·rename_i vs0 hvs
  have h1 := evs_rel hsem st _ _ hvs (fun kx hkx => hrd kx (by simp only [List.mem_append]; exact .inl (.inr hkx)))
  have h1m := midsVs_mem hsem _ _ hvs (fun kx hkx => hrd kx (by simp only [List.mem_append]; exact .inl (.inr hkx)))
  have hargs : args.map a.eval = (args.toList.map a.eval).toArray := by apply Array.ext'; simp
  split at ht
  ·rename_i f' hcf
   simp only [Option.some.injEq, Prod.mk.injEq] at ht
   obtain ⟨rfl, rfl, rfl⟩ := ht
   have h2 : a.eval cf = .func (.func f') #[] #[] := ev_rel hsem st cf _ hcf (fun kx hkx => hrd kx (by simp only [List.mem_append]; exact .inl (.inl hkx)))
   refine ⟨args.toList.map a.eval, ?_, h1, h1m⟩
   rw [execOp, hop]
   simp only [resolve, h2, Deferred.ofValue, pure_bind, enter_run hcb, hargs]
   simp
  ·rename_i id hcf
   split at ht
   ·rename_i f' first caps hl
    split at ht
    ·rename_i us ws hus hws
     simp only [Option.some.injEq, Prod.mk.injEq] at ht
     obtain ⟨rfl, rfl, rfl⟩ := ht
     have h2 : a.eval cf = g.γ id := ev_rel hsem st cf _ hcf (fun kx hkx => hrd kx (by simp only [List.mem_append]; exact .inl (.inl hkx)))
     have hσ := mrd_mem (st := st) (ids := [id]) (σ := σ) (fun kx hkx => hrd kx (by simp only [List.mem_append]; exact .inr hkx)) id (by simp) _ hl
     let ⟨fu, fw, hγ, hr1, hr2⟩ := hsem.blks id _ hσ
     refine ⟨fu ++ (args.toList.map a.eval ++ fw), ?_, (unSs_rel hus hr1).append (h1.append (unSs_rel hws hr2)), ?_⟩
     ·rw [execOp, hop]
      simp only [resolve, h2, hγ, Deferred.ofValue, pure_bind, enter_run hcb, hargs]
      simp
     ·intro j hj
      rw [midsVs_append, midsVs_append, List.mem_append, List.mem_append] at hj
      rcases hj with hj | hj | hj
      ·exact hsem.mids _ _ hσ j (List.mem_append_left _ (unSs_mids hus j hj))
      ·exact h1m j hj
      ·exact hsem.mids _ _ hσ j (List.mem_append_right _ (unSs_mids hws j hj))
    ·simp at ht
   ·simp at ht
  ·simp at ht
 ·simp at ht
theorem callX_sound {ops : Array Oper} {i : Nat} {o : Oper} {d : Nat} (ho : ops[i]? = some o) (hg : o.guard = none) (hd : o.dst = some d) {n : Nat} (hdn : d < n) {cf : Operand} {args : Array Operand} {tys : Array TypeId} (hop : o.op = .call ⟨.value cf, args, tys⟩)
  {st : St} {f : FuncId} {vs : List AV} {ids : List Nat} (ht : tgtC st cf args.toList = some (f, vs, ids)) {fm fm' : List (Nat × Blk)} {k k' : Nat} {r : AV} (hf : CX P f vs fm k r fm' k') (hmv : midsB k (midsVs vs) = true) (hmm : memB k fm = true) (hir : idsB k fm r.mids = true) (him : memIdsB k fm fm' = true)
  (hfm : ∀ id b, lookA id fm = some b → lookA id st.mem = some b) :
  StepN P n ops i (opd st cf ++ args.toList.flatMap (opd st) ++ mrd st ids ++ mrd st (fm.map (·.1))) ((.s d, some (.v r)) :: (wrM fm' fm ++ wrN k fm')) (fun id => k ≤ id ∧ id < k') := by
 intro F hFn Q known σ g W a K hnew hsem hrd hK
 let ⟨us, hex, hrel, hkv⟩ := tgtC_run hsem hop ht hf.call (fun kx hkx => hrd kx (List.mem_append_left _ hkx))
 have hmem := mrd_mem (st := st) (ids := fm.map (·.1)) (σ := σ) (fun kx hkx => hrd kx (List.mem_append_right _ hkx))
 have hin : ∀ {l : List (Nat × Blk)} {id : Nat} {b : Blk}, lookA id l = some b → id ∈ l.map (·.1) := by
  intro l
  induction l with
  | nil => intro id b h; simp [lookA] at h
  | cons p l ih =>
   let ⟨j, x⟩ := p
   intro id b h
   simp only [lookA] at h
   split at h
   ·rename_i e; simp [e]
   ·exact List.mem_cons_of_mem _ (ih h)
 have hszd : d < a.tmps.size := by rw [hsem.size, hFn]; exact hdn
 have hc := cx_step hf hmv hmm hir him hsem hnew hrel hkv (fun id b hb => hmem id (hin hb) b (hfm id b hb)) hszd
 unfold wpOp
 simp only [ho, Region.wanted, hg, if_true]
 refine .inl ?_
 unfold Oper.wp
 rw [hex]
 simp only [Oper.upon, hd]
 refine hc.mono ?_
 rintro e W' ⟨v, g', rfl, h'⟩
 exact hK g' W' _ h'
theorem fs_cxM {f : FuncId} {vs : List AV} {r : AV} (h : FnS P f vs r) (hm : midsVs vs = []) (fm : List (Nat × Blk)) (k : Nat) : CX P f vs fm k r fm k := by
 refine ⟨h.call, Nat.le_refl _, ?_⟩
 intro F g W us hn hul hh
 have hrel : RelVs g vs us := by
  have key : ∀ (vs : List AV) (us : List Value) (i : Nat) (all : List Value), us.length = vs.length → (∀ j, j < us.length → all[i + j]? = us[j]?) → (∀ t v, lookA t (argSl i vs) = some v → RelV g v (all.toArray.getD t undef)) → RelVs g vs us := by
   intro vs
   induction vs with
   | nil => intro us i all hl _ _; exact List.eq_nil_of_length_eq_zero (by simpa using hl)
   | cons x vs ih =>
    intro us i all hl hall hr
    cases us with
    | nil => simp at hl
    | cons u us =>
     refine ⟨u, us, rfl, ?_, ih us (i + 1) all (by simpa using hl) ?_ ?_⟩
     ·have h1 := hr i x (by simp [argSl, lookA])
      have h2 := hall 0 (by simp)
      simp only [Nat.add_zero, List.getElem?_cons_zero] at h2
      simpa [h2] using h1
     ·intro j hj
      have := hall (j + 1) (by simpa using hj)
      rw [show i + 1 + j = i + (j + 1) by omega]
      simpa using this
     ·intro t v ht
      refine hr t v ?_
      have hne : ∀ (l : List AV) (i' : Nat), i < i' → ∀ v, lookA i (argSl i' l) = some v → False := by
       intro l
       induction l with
       | nil => intro i' _ v h; simp [argSl, lookA] at h
       | cons y l ihl =>
        intro i' hlt v h
        simp only [argSl, lookA] at h
        split at h
        ·omega
        ·exact ihl (i' + 1) (by omega) v h
      simp only [argSl, lookA]
      split
      ·rename_i e
       subst e
       exact (hne vs (i + 1) (by omega) v ht).elim
      ·exact ht
  exact key vs us 0 us hul (fun j hj => by simp) (fun t v ht => hh.slots t v (by simp [St.kn, ht]))
 refine (h.spec g.H W us hh.sub (hrel.noid hm)).mono ?_
 rintro e W' ⟨v, H', rfl, hr, hle, hfr, hsub, hbl⟩
 refine ⟨v, ⟨H', g.γ⟩, rfl, ⟨rfl, hh.defers, ?_, ?_, ?_, ?_, ?_, hsub, ?_, hh.le.trans hle, ?_, hh.kfix⟩⟩
 ·intro t u ht
  simp only [St.kn, lookA, Option.map_eq_some_iff] at ht
  let ⟨x, hx, he⟩ := ht
  cases he
  split at hx
  ·rename_i e
   subst e
   cases hx
   have := hr.noid h.noid (FLe.refl _) g.γ
   simpa [actN] using this
  ·cases hx
 ·intro id b hb
  have hb0 : St.kn ⟨argSl 0 vs, fm, 0, []⟩ (.m id) = some (.b b) := hb
  have hrep := hh.blks id b hb0
  refine hrep.keep (known := (· < k)) ⟨hle, fun _ _ => rfl⟩ (hh.mkn id _ hb0) (fun j hj => hh.mids _ _ hb0 j hj) (fun kk hkk => ?_)
  have hlt := (hrep.block hkk).2
  exact ⟨hbl.block kk hlt, fun o => hfr kk o hlt⟩
 ·intro id id' b b' kk hb hb' h1 h2
  exact hh.inj id id' b b' kk hb hb' h1 h2
 ·intro key x hx id hid
  cases key with
  | m j => exact hh.mids (.m j) x hx id hid
  | s t =>
   simp only [St.kn, lookA, Option.map_eq_some_iff] at hx
   let ⟨y, hy, he⟩ := hx
   subst he
   split at hy
   ·cases hy
    have : id ∈ r.mids := hid
    rw [h.noid] at this
    cases this
   ·cases hy
 ·intro id x hx; exact hh.mkn id x hx
 ·exact ⟨hbl.os.trans hh.below.os, hbl.tape.trans hh.below.tape, hbl.output.trans hh.below.output, Nat.le_trans hh.below.size hbl.size, fun kk hk hno => by rw [hbl.block kk (Nat.lt_of_lt_of_le hk hh.below.size)]; exact hh.below.block kk hk hno⟩
 ·intro b o hb hno
  show H' b o = F.H0 b o
  rw [hfr b o (Nat.lt_of_lt_of_le hb hh.below.size)]
  exact hh.fresh b o hb hno
end
def putA {α : Type} (t : Nat) (v : α) : List (Nat × α) → List (Nat × α)
 | [] => [(t, v)]
 | (k, x) :: r => if k = t then (t, v) :: r else (k, x) :: putA t v r
theorem lookA_put {α : Type} (t j : Nat) (v : α) : ∀ l : List (Nat × α), lookA j (putA t v l) = if t = j then some v else lookA j l
 | [] => by simp [putA, lookA]
 | (k, x) :: r => by
  simp only [putA]
  split
  ·rename_i e
   subst e
   simp only [lookA]
   split <;> rfl
  ·rename_i e
   simp only [lookA]
   split
   ·rename_i e2
    subst e2
    rw [if_neg (fun h => e h.symm)]
   ·exact lookA_put t j v r
def StepX (P : Program) (n : Nat) (ops : Array Oper) (i : Nat) (st st' : St) (k k' : Nat) (ks : Ks) : Prop :=
 ∃ rd wr, StepN P n ops i rd wr (fun id => k ≤ id ∧ id < k') ∧ (∀ kx ∈ rd, st.kn kx.1 = some kx.2) ∧ st'.kn = upd st.kn wr ∧ k ≤ k' ∧ (∀ key ∈ rkeysOf rd, key ∈ ks.1) ∧ ∀ key ∈ keysOf wr, key ∈ ks.2
section
variable {P : Program} {tt : TT}
theorem StepX.of_ok {n : Nat} {ops : Array Oper} {i : Nat} {st st1 st' : St} {k : Nat} {ks : Ks} (h : StepOk P n ops i st st1 k ks) (hkn : st'.kn = st1.kn) : StepX P n ops i st st' k (k + 1) ks := by
 let ⟨rd, wr, hs, hrd, h1, hk1, hk2⟩ := h
 exact ⟨rd, wr, hs.toN ⟨Nat.le_refl _, by omega⟩, hrd, by rw [hkn, h1], by omega, hk1, hk2⟩
theorem StepX.of_s {n : Nat} {ops : Array Oper} {i : Nat} {st st' : St} {k : Nat} {ks : Ks} {rd : List (Key × Info)} {wr : List (Key × Option Info)} (hs : StepS P n ops i rd wr k) (hrd : ∀ kx ∈ rd, st.kn kx.1 = some kx.2) (hkn : st'.kn = upd st.kn wr) (hk1 : ∀ key ∈ rkeysOf rd, key ∈ ks.1) (hk2 : ∀ key ∈ keysOf wr, key ∈ ks.2) : StepX P n ops i st st' k (k + 1) ks :=
 ⟨rd, wr, hs.toN ⟨Nat.le_refl _, by omega⟩, hrd, hkn, by omega, hk1, hk2⟩
theorem StepX.lift {n : Nat} {ops : Array Oper} {i : Nat} {o : Oper} (ho : ops[i]? = some o) (hg : o.guard = none) {st st' : St} {k k' : Nat} {ks : Ks} (h : StepX P n #[o] 0 st st' k k' ks) : StepX P n ops i st st' k k' ks := by
 let ⟨rd, wr, hs, h2⟩ := h
 refine ⟨rd, wr, ?_, h2⟩
 intro F hFn Q known σ g W a K hnew hsem hr hK
 have h1 := hs F hFn Q known σ g W a K hnew hsem hr hK
 unfold wpOp at h1 ⊢
 simp only [ho, Region.wanted, hg, if_true]
 simp only [List.getElem?_toArray, List.getElem?_cons_zero, Region.wanted, hg, if_true] at h1
 exact h1
theorem StepX.guard {n : Nat} {ops : Array Oper} {i : Nat} {o : Oper} (ho : ops[i]? = some o) {j : Nat} {want : Bool} (hg : o.guard = some (j, want)) {tg : Nat} (hj : gslot ops.toList j = some tg) {st st' : St} (hb : lookA tg st.sl = some (.c (.B want))) {k k' : Nat} {ks : Ks}
  (h : StepX P n #[{ o with guard := none }] 0 st st' k k' ks) : StepX P n ops i st st' k k' (.s tg :: ks.1, ks.2) := by
 let ⟨rd, wr, hs, hrd, hkn, hle, hk1, hk2⟩ := h
 refine ⟨(.s tg, .v (.c (.B want))) :: rd, wr, ?_, ?_, hkn, hle, fun key hk => ?_, hk2⟩
 ·intro F hFn Q known σ g W a K hnew hsem hr hK
  have h1 := hs F hFn Q known σ g W a K hnew hsem (fun kx hkx => hr kx (by simp [hkx])) hK
  have h2 := hsem.slots tg (.c (.B want)) (hr (.s tg, .v (.c (.B want))) (by simp))
  have hw : Region.wanted o (yielded ops a.tmps) = true := by
   simp only [Region.wanted, hg, yielded_of hj h2, beq_self_eq_true]
  unfold wpOp at h1 ⊢
  simp only [ho, hw, if_true]
  simp only [List.getElem?_toArray, List.getElem?_cons_zero, Region.wanted, if_true] at h1
  exact h1
 ·intro kx hkx
  rcases List.mem_cons.1 hkx with rfl | h
  ·simp [St.kn, hb]
  ·exact hrd kx h
 ·simp only [rkeysOf, List.map_cons, List.mem_cons] at hk
  rcases hk with h | h
  ·simp [h]
  ·exact List.mem_cons_of_mem _ (hk1 key h)
theorem kn_putA (st : St) (d : Nat) (x : AV) : (⟨putA d x st.sl, st.mem, st.nx, st.gd⟩ : St).kn = upd st.kn [(.s d, some (.v x))] := by
 funext key
 cases key with
 | s t =>
  by_cases e : d = t
  ·simp [St.kn, lookA_put, upd, says, e]
  ·simp [St.kn, lookA_put, upd, says, e]
 | m id => simp [St.kn, upd, says]
theorem kn_putA_m (st : St) (d id : Nat) (x : AV) (b : Blk) : (⟨putA d x st.sl, (id, b) :: st.mem, st.nx, st.gd⟩ : St).kn = upd st.kn [(.s d, some (.v x)), (.m id, some (.b b))] := by
 funext key
 cases key with
 | s t =>
  by_cases e : d = t
  ·simp [St.kn, lookA_put, upd, says, e]
  ·simp [St.kn, lookA_put, upd, says, e]
 | m j =>
  by_cases e : id = j
  ·simp [St.kn, lookA, upd, says, e]
  ·simp [St.kn, lookA, upd, says, e]
theorem kn_putA_pm (st : St) (d id : Nat) (x : AV) (b : Blk) : (⟨putA d x st.sl, putA id b st.mem, st.nx, st.gd⟩ : St).kn = upd st.kn [(.s d, some (.v x)), (.m id, some (.b b))] := by
 funext key
 cases key with
 | s t =>
  by_cases e : d = t
  ·simp [St.kn, lookA_put, upd, says, e]
  ·simp [St.kn, lookA_put, upd, says, e]
 | m j =>
  by_cases e : id = j
  ·simp [St.kn, lookA_put, upd, says, e]
  ·simp [St.kn, lookA_put, upd, says, e]
theorem kn_appU (st : St) (d id new : Nat) (x : AV) (b : Blk) (hne : id ≠ new) : (⟨putA d x st.sl, (new, b) :: delA id st.mem, st.nx, st.gd⟩ : St).kn = upd st.kn [(.s d, some (.v x)), (.m new, some (.b b)), (.m id, none)] := by
 funext key
 cases key with
 | s t =>
  by_cases e : d = t
  ·simp [St.kn, lookA_put, upd, says, e]
  ·simp [St.kn, lookA_put, upd, says, e]
 | m j =>
  by_cases e : new = j
  ·simp [St.kn, lookA, upd, says, e]
  ·simp only [St.kn, lookA, upd, says, e, reduceCtorEq, Key.m.injEq, if_false, lookA_del]
   split <;> simp
end
abbrev CallF := FuncId → List AV → List (Nat × Blk) → Nat → Option (AV × List (Nat × Blk) × Nat)
def nrmL {α : Type} : List (Nat × α) → List (Nat × α)
 | [] => []
 | (t, v) :: r => putA t v r
def nrm (s m : Bool) (st : St) : St := ⟨cond s (nrmL st.sl) st.sl, cond m (nrmL st.mem) st.mem, st.nx, st.gd⟩
theorem look_nrmL {α : Type} (j : Nat) : ∀ l : List (Nat × α), lookA j (nrmL l) = lookA j l
 | [] => rfl
 | (t, v) :: r => by simp only [nrmL, lookA_put, lookA]
theorem kn_nrm (s m : Bool) (st : St) : (nrm s m st).kn = st.kn := by
 funext key
 cases key with
 | s t => cases s <;> simp [St.kn, nrm, look_nrmL]
 | m id => cases m <;> simp [St.kn, nrm, look_nrmL]
def appI (tt : TT) (t1 t2 : Nat) : Option (Nat × TI) := match lookA t1 tt, lookA t2 tt with
 | some a, some b => (match a.kind, b.kind with
  | .sl E, .sl _ => (match lookA E tt with
   | some ei => if 0 < ei.size then some (E, ei) else none
   | none => none)
  | _, _ => none)
 | _, _ => none
def reach : Nat → List (Nat × Blk) → List Nat → List (Nat × Blk) → List (Nat × Blk)
 | 0, _, _, acc => acc
 | _ + 1, _, [], acc => acc
 | f + 1, mem, id :: todo, acc => match lookA id acc with
  | some _ => reach f mem todo acc
  | none => (match lookA id mem with
   | some b => reach f mem (b.mids ++ todo) ((id, b) :: acc)
   | none => reach f mem todo acc)
def smallB (a len bytes : Nat) : Bool := Nat.ble ((len + len / 4 + 192) * bytes) 281474976710656 && Nat.ble len 16777216 && Nat.ble a 16777216
def delM (fm : List (Nat × Blk)) : List (Nat × Blk) → List (Nat × Blk)
 | [] => []
 | (id, b) :: r => match lookA id fm with
  | some _ => delM fm r
  | none => (id, b) :: delM fm r
def stepApp (tt : TT) (n k d : Nat) (x y : Operand) (t1 t2 : Nat) (st : St) : Option (St × Nat × Ks) := match appI tt t1 t2 with
 | some (E, ei) => (match st.ev x, st.ev y with
  | some vx, some vy => (match srcC st ei.size vy with
   | some (m, cs, is) => if cs.all okC = true then (match vx with
    | .c (.V (.slice none 0 0)) => if m = 0 then some (⟨putA d (.c (.V (.slice none 0 0))) st.sl, st.mem, st.nx, st.gd⟩, k + 1, (okeys [x, y] ++ mkeys is, [.s d]))
     else if smallB 0 m ei.bytes then some (⟨putA d (.c (.L k 0 m none)) st.sl, (k, .box E ei.size cs) :: st.mem, st.nx, st.gd⟩, k + 1, (okeys [x, y] ++ mkeys is, [.s d, .m k])) else none
    | .c (.L id off len (some c)) => (match lookA id st.mem with
     | some (.box Eb bz cs0) => if len + m ≤ c then
       (if off + (len + m) * ei.size ≤ cs0.length then some (⟨putA d (.c (.L id off (len + m) (some c))) st.sl, putA id (.box Eb bz (over cs0 cs (off + len * ei.size))) st.mem, st.nx, st.gd⟩, k + 1, (okeys [x, y] ++ mkeys (id :: is), [.s d, .m id])) else none)
      else (if off + len * ei.size ≤ cs0.length ∧ smallB 0 (len + m) ei.bytes = true then some (⟨putA d (.c (.L k 0 (len + m) none)) st.sl, (k, .box E ei.size ((cs0.drop off).take (len * ei.size) ++ cs)) :: st.mem, st.nx, st.gd⟩, k + 1, (okeys [x, y] ++ mkeys (id :: is), [.s d, .m k])) else none)
     | _ => none)
    | .c (.L id _ len none) => (match lookA id st.mem with
     | some (.box Eb bz cs0) => if Eb = E ∧ bz = ei.size ∧ len * ei.size ≤ cs0.length ∧ id ≠ k ∧ smallB 0 (len + m) ei.bytes = true then
       some (⟨putA d (.c (.L k 0 (len + m) none)) st.sl, (k, .box E ei.size (cs0.take (len * ei.size) ++ cs)) :: delA id st.mem, st.nx, st.gd⟩, k + 1, (okeys [x, y] ++ mkeys (id :: is), [.s d, .m k, .m id])) else none
     | _ => none)
    | _ => none) else none
   | none => none)
  | _, _ => none)
 | none => none
section
variable {P : Program} {tt : TT}
theorem appI_ok (htt : ttB P tt = true) {t1 t2 E : Nat} {ei : TI} (h : appI tt t1 t2 = some (E, ei)) : AppT P t1 t2 E ei.size ei.bytes := by
 unfold appI at h
 split at h
 ·rename_i a b ha hb
  split at h
  ·rename_i E' e2 hka hkb
   split at h
   ·rename_i ei' hei
    split at h
    ·rename_i hpos
     simp only [Option.some.injEq, Prod.mk.injEq] at h
     obtain ⟨rfl, rfl⟩ := h
     have h1 := (ttB_ok htt ha).kind
     rw [hka] at h1
     have h2 := (ttB_ok htt hb).kind
     rw [hkb] at h2
     let ⟨inf, hinf, hisz, hiby, z, hzz, hzc⟩ := (ttB_ok htt hei).info
     have hzl := (ttB_ok htt hei).zlen
     refine ⟨h1, ⟨_, h2⟩, ⟨inf, z, hinf, hisz, hiby, hzz, ?_⟩, hpos⟩
     have : z.cells.toList.length = (ei'.zero.map ZV.toV).length := by rw [hzc]
     simp only [Array.length_toList, List.length_map] at this
     omega
    ·simp at h
   ·simp at h
  ·simp at h
 ·simp at h
theorem smallB_ok {a len bytes : Nat} (h : smallB a len bytes = true) : (len + len / 4 + 192) * bytes ≤ 281474976710656 ∧ len ≤ 140737488355328 := by
 simp only [smallB, Bool.and_eq_true] at h
 have h1 := Nat.le_of_ble_eq_true h.1.1
 have h2 := Nat.le_of_ble_eq_true h.1.2
 exact ⟨h1, by omega⟩
theorem keys3 {st : St} {x y : Operand} {ids : List Nat} : ∀ key ∈ rkeysOf (opd st x ++ opd st y ++ mrd st ids), key ∈ okeys [x, y] ++ mkeys ids := by
 intro k hk
 simp only [rkeysOf, List.map_append, List.mem_append] at hk
 rcases hk with (h | h) | h
 ·exact List.mem_append_left _ (okeys_opd st [x, y] k (by simp only [rkeysOf, List.flatMap_cons, List.map_append, List.mem_append]; exact .inl h))
 ·exact List.mem_append_left _ (okeys_opd st [x, y] k (by simp only [rkeysOf, List.flatMap_cons, List.map_append, List.mem_append]; exact .inr (.inl h)))
 ·exact List.mem_append_right _ (mkeys_mrd st ids k h)
theorem reads3 {st : St} {x y : Operand} {ids : List Nat} : ∀ kx ∈ opd st x ++ opd st y ++ mrd st ids, st.kn kx.1 = some kx.2 := by
 intro kx hkx
 rcases List.mem_append.1 hkx with h | h
 ·rcases List.mem_append.1 h with h | h
  ·exact opd_kn _ x kx h
  ·exact opd_kn _ y kx h
 ·exact mrd_kn _ ids kx h
theorem stepApp_sound (htt : ttB P tt = true) {n k d : Nat} (hdn : d < n) {o : Oper} (hg : o.guard = none) (hd : o.dst = some d) {x y : Operand} {t1 t2 : Nat} (hop : o.op = .call ⟨.builtin .append, #[x, y], #[t1, t2]⟩) {st st' : St} {k' : Nat} {ks : Ks}
  (h : stepApp tt n k d x y t1 t2 st = some (st', k', ks)) : StepX P n #[o] 0 st st' k k' ks := by
 have ho : (#[o] : Array Oper)[0]? = some o := rfl
 unfold stepApp at h
 split at h
 ·rename_i E ei hI
  have hT := appI_ok htt hI
  split at h
  ·rename_i vx vy hx hy
   split at h
   ·rename_i m cs is hs
    split at h
    ·rename_i hok
     split at h
     ·split at h
      ·rename_i hm
       subst hm
       simp only [Option.some.injEq, Prod.mk.injEq] at h
       obtain ⟨rfl, rfl, rfl⟩ := h
       exact .of_s (app0_sound ho hg hd hdn hop hT hx hy hs hok k) reads3 (kn_putA st d _) keys3 (by simp [keysOf])
      ·split at h
       ·rename_i hm hsm
        let ⟨h1, h2⟩ := smallB_ok hsm
        simp only [Option.some.injEq, Prod.mk.injEq] at h
        obtain ⟨rfl, rfl, rfl⟩ := h
        have := appG_sound ho hg hd hdn hop hT hx hy (len := 0) (c := 0) (cb := []) (ib := []) (by rfl) hs hok (by omega) (by simpa using h1) (by simpa using h2) k
        simp only [Nat.zero_add, List.nil_append] at this
        exact .of_s this reads3 (kn_putA_m st d k _ _) keys3 (by simp [keysOf])
       ·simp at h
     ·rename_i id off len c
      split at h
      ·rename_i Eb bz cs0 hl
       split at h
       ·rename_i hle
        split at h
        ·rename_i hfit
         simp only [Option.some.injEq, Prod.mk.injEq] at h
         obtain ⟨rfl, rfl, rfl⟩ := h
         exact .of_s (appP_sound ho hg hd hdn hop hT hx hy hl hs hok hle hfit k) reads3 (kn_putA_pm st d id _ _) keys3 (by simp [keysOf])
        ·simp at h
       ·rename_i hgt
        split at h
        ·rename_i hc
         let ⟨h1, h2⟩ := smallB_ok hc.2
         simp only [Option.some.injEq, Prod.mk.injEq] at h
         obtain ⟨rfl, rfl, rfl⟩ := h
         have := appG_sound ho hg hd hdn hop hT hx hy (len := len) (c := c) (cb := (cs0.drop off).take (len * ei.size)) (ib := [id]) (by simp [baseC, hl, hc.1]) hs hok (by omega) h1 h2 k
         exact .of_s this reads3 (kn_putA_m st d k _ _) keys3 (by simp [keysOf])
        ·simp at h
      ·simp at h
     ·rename_i id off len
      split at h
      ·rename_i Eb bz cs0 hl
       split at h
       ·rename_i hc
        obtain ⟨rfl, rfl, hfit, hne, hsm⟩ := hc
        let ⟨h1, h2⟩ := smallB_ok hsm
        simp only [Option.some.injEq, Prod.mk.injEq] at h
        obtain ⟨rfl, rfl, rfl⟩ := h
        exact .of_s (appU_sound ho hg hd hdn hop hT hx hy hl hs hok hfit h1 h2 k) reads3 (kn_appU st d id k _ _ hne) keys3 (by simp [keysOf])
       ·simp at h
      ·simp at h
     ·simp at h
    ·simp at h
   ·simp at h
  ·simp at h
 ·simp at h
end
def memAfter (fm fm' mem : List (Nat × Blk)) : List (Nat × Blk) := match fm with
 | [] => fm' ++ mem
 | fm => fm' ++ delM fm mem
def stepCall (cal : CallF) (k d : Nat) (cf : Operand) (args : List Operand) (st : St) : Option (St × Nat × Ks) := match tgtC st cf args with
 | some (f, vs, ids) => (match reach 1000 st.mem (midsVs vs) [] with
  | fm => (match cal f vs fm k with
   | some (r, fm', k') => if midsB k (midsVs vs) && memB k fm && idsB k fm r.mids && memIdsB k fm fm' then
     some (⟨putA d r st.sl, memAfter fm fm' st.mem, st.nx, st.gd⟩, k', (okeys (cf :: args) ++ mkeys (ids ++ fm.map (·.1)), .s d :: (mkeys (fm.map (·.1)) ++ mkeys (fm'.map (·.1)))))
    else none
   | none => none))
 | none => none
theorem look_app {α : Type} (j : Nat) : ∀ (l m : List (Nat × α)), lookA j (l ++ m) = match lookA j l with | some x => some x | none => lookA j m
 | [], m => rfl
 | (t, v) :: l, m => by
  simp only [List.cons_append, lookA]
  split
  ·rfl
  ·exact look_app j l m
theorem look_delM (fm : List (Nat × Blk)) (j : Nat) : ∀ l : List (Nat × Blk), lookA j (delM fm l) = if (lookA j fm).isSome then none else lookA j l
 | [] => by simp [delM, lookA]
 | (id, b) :: r => by
  simp only [delM]
  split
  ·rename_i x hx
   rw [look_delM fm j r]
   by_cases e : id = j
   ·subst e; simp [hx]
   ·simp [lookA, e]
  ·rename_i hx
   simp only [lookA]
   by_cases e : id = j
   ·subst e; simp [hx]
   ·simp only [e, if_false]
    exact look_delM fm j r
theorem look_memAfter (fm fm' mem : List (Nat × Blk)) (j : Nat) : lookA j (memAfter fm fm' mem) = match lookA j fm' with | some x => some x | none => if (lookA j fm).isSome then none else lookA j mem := by
 unfold memAfter
 split
 ·rw [look_app]; cases lookA j fm' <;> simp [lookA]
 ·rw [look_app, look_delM]; cases lookA j fm' <;> rfl
theorem reach_in (mem : List (Nat × Blk)) : ∀ (f : Nat) (todo : List Nat) (acc : List (Nat × Blk)), (∀ id b, lookA id acc = some b → lookA id mem = some b) → ∀ id b, lookA id (reach f mem todo acc) = some b → lookA id mem = some b
 | 0, _, acc, h => by simpa [reach] using h
 | f + 1, [], acc, h => by simpa [reach] using h
 | f + 1, id :: todo, acc, h => by
  simp only [reach]
  split
  ·exact reach_in mem f todo acc h
  ·split
   ·rename_i b hb
    refine reach_in mem f _ _ ?_
    intro j b' hj
    simp only [lookA] at hj
    split at hj
    ·rename_i e; subst e; cases hj; exact hb
    ·exact h j b' hj
   ·exact reach_in mem f todo acc h
section
variable {P : Program} {tt : TT}
theorem kn_call (st : St) (d k : Nat) (r : AV) (fm fm' : List (Nat × Blk)) (him : memIdsB k fm fm' = true) : (⟨putA d r st.sl, memAfter fm fm' st.mem, st.nx, st.gd⟩ : St).kn = upd st.kn ((.s d, some (.v r)) :: (wrM fm' fm ++ wrN k fm')) := by
 funext key
 cases key with
 | s t =>
  by_cases e : d = t
  ·simp [St.kn, lookA_put, upd, says, e]
  ·simp [St.kn, lookA_put, upd, says, e, says_append, says_wrM_s, says_wrN_s]
 | m j =>
  simp only [St.kn, upd, says, reduceCtorEq, if_false, says_append, says_wrM_m, says_wrN_m, look_memAfter]
  by_cases h : (lookA j fm).isSome = true
  ·simp only [h, if_true]
   cases lookA j fm' <;> rfl
  ·simp only [h, if_false, Bool.false_eq_true]
   cases hf : lookA j fm' with
   | none => by_cases hk : k ≤ j <;> simp [hk]
   | some b =>
    have hk : k ≤ j := by
     rcases (memIdsB_ok him j b hf).1 with h1 | ⟨b', h1⟩
     ·exact h1
     ·rw [h1] at h; simp at h
    simp [hk]
theorem wrM_keys (fm' : List (Nat × Blk)) : ∀ fm : List (Nat × Blk), keysOf (wrM fm' fm) = mkeys (fm.map (·.1))
 | [] => rfl
 | (id, b) :: r => by
  simp only [wrM, keysOf, List.map_cons, mkeys]
  have := wrM_keys fm' r
  simp only [keysOf] at this
  rw [this]
theorem wrN_keys (k : Nat) : ∀ (fm : List (Nat × Blk)), ∀ key ∈ keysOf (wrN k fm), key ∈ mkeys (fm.map (·.1))
 | [], key, h => by simp [wrN, keysOf] at h
 | (id, b) :: r, key, h => by
  simp only [wrN] at h
  simp only [List.map_cons, mkeys, List.mem_cons]
  split at h
  ·simp only [keysOf, List.map_cons, List.mem_cons] at h
   rcases h with h | h
   ·exact .inl h
   ·exact .inr (wrN_keys k r key h)
  ·exact .inr (wrN_keys k r key h)
theorem stepCall_sound {cal : CallF} (hcal : ∀ f vs fm k r fm' k', cal f vs fm k = some (r, fm', k') → CX P f vs fm k r fm' k') {n k d : Nat} (hdn : d < n) {o : Oper} (hg : o.guard = none) (hd : o.dst = some d) {cf : Operand} {args : Array Operand} {tys : Array TypeId} (hop : o.op = .call ⟨.value cf, args, tys⟩) {st st' : St} {k' : Nat} {ks : Ks}
  (h : stepCall cal k d cf args.toList st = some (st', k', ks)) : StepX P n #[o] 0 st st' k k' ks := by
 have ho : (#[o] : Array Oper)[0]? = some o := rfl
 unfold stepCall at h
 split at h
 ·rename_i f vs ids ht
  generalize hfm : reach 1000 st.mem (midsVs vs) [] = fm at h
  simp only at h
  split at h
  ·rename_i r fm' k1 hc
   split at h
   ·rename_i hb
    simp only [Bool.and_eq_true] at hb
    let ⟨⟨⟨hmv, hmm⟩, hir⟩, him⟩ := hb
    simp only [Option.some.injEq, Prod.mk.injEq] at h
    obtain ⟨rfl, rfl, rfl⟩ := h
    have hcx := hcal _ _ _ _ _ _ _ hc
    refine ⟨_, _, callX_sound ho hg hd hdn hop ht hcx hmv hmm hir him ?_, ?_, kn_call st d k r fm fm' him, hcx.le, ?_, ?_⟩
    ·rw [← hfm]
     exact reach_in st.mem 1000 _ [] (fun id b h => by simp [lookA] at h)
    ·intro kx hkx
     simp only [List.mem_append] at hkx
     rcases hkx with ((h | h) | h) | h
     ·exact opd_kn _ cf kx h
     ·let ⟨x, _, h⟩ := List.mem_flatMap.1 h
      exact opd_kn st x kx h
     ·exact mrd_kn _ ids kx h
     ·exact mrd_kn _ _ kx h
    ·intro key hk
     simp only [rkeysOf, List.map_append, List.mem_append] at hk
     have hm : ∀ (l m : List Nat), mkeys (l ++ m) = mkeys l ++ mkeys m := by
      intro l m
      induction l with
      | nil => rfl
      | cons a l ih => simp only [List.cons_append, mkeys, ih]
     rw [hm]
     simp only [List.mem_append]
     rcases hk with ((h | h) | h) | h
     ·exact .inl (okeys_opd st (cf :: args.toList) key (by simp only [rkeysOf, List.flatMap_cons, List.map_append, List.mem_append]; exact .inl h))
     ·exact .inl (okeys_opd st (cf :: args.toList) key (by simp only [rkeysOf, List.flatMap_cons, List.map_append, List.mem_append]; exact .inr h))
     ·exact .inr (.inl (mkeys_mrd st ids key h))
     ·exact .inr (.inr (mkeys_mrd st _ key h))
    ·intro key hk
     simp only [keysOf, List.map_cons, List.map_append, List.mem_cons, List.mem_append] at hk ⊢
     rcases hk with h | h | h
     ·exact .inl h
     ·refine .inr (.inl ?_)
      rw [← wrM_keys fm' fm]; exact h
     ·exact .inr (.inr (wrN_keys k fm' key h))
   ·simp at h
  ·simp at h
 ·simp at h
end
end Go.El
