/- The engine, part 19: append. Own work; no condition. -/
import Derived.Deep.AppendSrc
import Derived.Deep.DeepAppendWide
import Derived.Test.YtkkccchkmcjcpaaGreatB3
namespace Go.El
open Go Go.RowKit

section
variable {P : Program} {tt : TT} {n : Nat}

/-- The cells of a frozen slice. -/
theorem first_S {g : Gh} {T : ET} {ys : List T.den} {v : Value} (h : RelC g (.S T ys) v) :
    ∃ us : List Value, (∀ W : World, Sub g.H W → (Builtin.firstCells T.n ys.length v).run P W = .ok us.toArray W) ∧ us.length = ys.length * T.n ∧ (∀ i (h : i < ys.length), RelD g.H T ys[i] ((us.drop (i * T.n)).take T.n)) ∧ ∀ u ∈ us, oneB u = true := by
  obtain ⟨a, cap, rfl, h1, h2, h3⟩ := h
  by_cases hy : ys = []
  · subst hy
    refine ⟨[], fun W _ => ?_, by simp, by simp, by simp⟩
    cases a with
    | none => simp [Builtin.firstCells, pure]
    | some a => simp [Builtin.firstCells, loadCells, loadCellsFrom, pure]
  · rcases h3 with h3 | ⟨b, off, rfl, h3⟩
    · exact absurd h3 hy
    · let us := (List.range (ys.length * T.n)).map fun k => (g.H b (off + k)).getD undef
      have hul : us.length = ys.length * T.n := by simp [us]
      have hcell : ∀ i (hi : i < ys.length), ∃ cs, cs.length = T.n ∧ RelD g.H T ys[i] cs ∧ (us.drop (i * T.n)).take T.n = cs ∧ ∀ j (hj : j < cs.length), g.H b (off + (i * T.n + j)) = some cs[j] := by
        intro i hi
        obtain ⟨cs, hl, hr, hc⟩ := h3 i hi
        have hi2 : (i + 1) * T.n ≤ ys.length * T.n := Nat.mul_le_mul_right _ (by omega)
        rw [Nat.add_mul, Nat.one_mul] at hi2
        refine ⟨cs, hl, hr, ?_, fun j hj => by rw [← Nat.add_assoc]; exact hc j hj⟩
        apply List.ext_getElem
        · simp [us]; omega
        · intro j hj1 hj2
          simp only [List.getElem_take, List.getElem_drop, us, List.getElem_map, List.getElem_range]
          rw [← Nat.add_assoc, hc j hj2]
          rfl
      have hall : ∀ k (hk : k < us.length), ∃ v, g.H b (off + k) = some v ∧ us[k] = v ∧ oneB v = true := by
        intro k hk
        have hpos := T.n_pos
        have hk' : k < ys.length * T.n := by omega
        have hq : k / T.n < ys.length := Nat.div_lt_of_lt_mul (by rw [Nat.mul_comm]; exact hk')
        have hm : k % T.n < T.n := Nat.mod_lt _ hpos
        obtain ⟨cs, hl, hr, hch, hc⟩ := hcell (k / T.n) hq
        have hkk : k / T.n * T.n + k % T.n = k := by rw [Nat.mul_comm]; exact Nat.div_add_mod k T.n
        have := hc (k % T.n) (by omega)
        rw [hkk] at this
        refine ⟨_, this, ?_, ?_⟩
        · simp only [us, List.getElem_map, List.getElem_range, this, Option.getD_some]
        · exact (relD_av (g := g) T _ _ hr).one (av_okC T _) _ (List.getElem_mem _)
      refine ⟨us, fun W hsub => ?_, hul, fun i hi => ?_, fun u hu => ?_⟩
      · simp only [Builtin.firstCells, loadCells]
        have := run_loadCellsFrom (P := P) (W := W) b (ys.length * T.n) 0 off us #[] hul (fun j hj => by
          obtain ⟨v, h4, h5, _⟩ := hall j hj
          rw [Nat.add_zero, hsub _ _ _ h4, h5])
        simpa using this
      · obtain ⟨cs, hl, hr, hch, _⟩ := hcell i hi
        rw [hch]; exact hr
      · obtain ⟨k, hk, rfl⟩ := List.getElem_of_mem hu
        obtain ⟨v, _, h5, h6⟩ := hall k hk
        rw [h5]; exact h6

/-- The run of an append in its two cases. -/
theorem run_append_place {W : World} {t1 t2 ty E E2 : TypeId} {inf : TypeInfo} (hu1 : P.underlying t1 = some (.slice E)) (hu2 : P.underlying t2 = some (.slice E2)) (hi : P.info? E = some inf) {b sLen sCap : Nat} {y : Value} {m : Nat} (hm : (Builtin.lenOf y).run P W = .ok m W)
    {us vs : List Value} {Eb : TypeId} (hus : (Builtin.firstCells inf.size m y).run P W = .ok us.toArray W) (hh : W.heap[b]? = some (.cells vs.toArray Eb (0, 0))) (hone : ∀ u ∈ us, oneB u = true) (hle : sLen + m ≤ sCap) (hfit : sLen * inf.size + us.length ≤ vs.length) :
    (Builtin.append_ #[t1, t2] ty #[.slice (some ⟨b, 0, none⟩) sLen sCap, y]).run P W = .ok (.slice (some ⟨b, 0, none⟩) (sLen + m) sCap) (setBlk W b (over vs us (sLen * inf.size)) Eb) := by
  have hst := run_storeCells (P := P) b us W vs (sLen * inf.size) 0 hh (by omega) hone
  simp only [Nat.add_zero] at hst
  unfold Builtin.append_
  simp only [List.getElem?_toArray, List.getElem?_cons_zero, List.getElem?_cons_succ]
  rw [Sem.run_bind, run_underlying hu1]
  simp only [Result.andThen]
  rw [Sem.run_bind, run_sizeOf hi]
  simp only [Result.andThen]
  rw [Sem.run_bind, run_underlying hu2]
  simp only [Result.andThen, pure_bind, Bool.false_eq_true, if_false, Bool.not_false, if_true]
  rw [Sem.run_bind, hm]
  simp only [Result.andThen, hle, if_true]
  rw [Sem.run_bind, hus]
  simp only [Result.andThen, add_none, Nat.zero_add]
  rw [Sem.run_bind, hst]
  rfl


/-- A value that is an owned row of 'xs'. -/
def VecR (N : Nat → Prop) (g : Gh) (W : World) (E : TypeId) (T : ET) (xs : List T.den) (v : Value) : Prop :=
  (v = .slice none 0 0 ∧ xs = []) ∨ ∃ b cap, ∃ vs : List Value, v = .slice (some ⟨b, 0, none⟩) xs.length cap ∧ W.heap[b]? = some (.cells vs.toArray E (0, 0)) ∧
      vs.length = cap * T.n ∧ xs.length ≤ cap ∧ xs.length * T.n ≤ 140737488355328 ∧ (∀ i (h : i < xs.length), RelD g.H T xs[i] ((vs.drop (i * T.n)).take T.n)) ∧ N b ∧ ∀ o, g.H b o = none

theorem chunk_take {α : Type} (vs : List α) (n i m : Nat) (h : i < m) : ((vs.take (m * n)).drop (i * n)).take n = (vs.drop (i * n)).take n := by
  have h1 : (i + 1) * n ≤ m * n := Nat.mul_le_mul_right _ h
  rw [Nat.add_mul, Nat.one_mul] at h1
  rw [List.drop_take, List.take_take]
  congr 1
  omega

theorem chunk_append {α : Type} (us vs : List α) (n m i : Nat) (hl : us.length = m * n) (h : m ≤ i) : ((us ++ vs).drop (i * n)).take n = (vs.drop ((i - m) * n)).take n := by
  have h1 : m * n ≤ i * n := Nat.mul_le_mul_right _ h
  rw [List.drop_append, List.drop_eq_nil_of_le (by omega), List.nil_append, hl, Nat.sub_mul]
theorem chunk_left {α : Type} (us vs : List α) (n m i : Nat) (hl : us.length = m * n) (h : i < m) : ((us ++ vs).drop (i * n)).take n = (us.drop (i * n)).take n := by
  have h1 : (i + 1) * n ≤ m * n := Nat.mul_le_mul_right _ h
  rw [Nat.add_mul, Nat.one_mul] at h1
  rw [List.drop_append_of_le_length (by omega), List.take_append_of_le_length (by simp; omega)]

/-- The cells of both rows make the row of both. -/
theorem rel_both {H : FH} {T : ET} {xs ys : List T.den} {os us rest : List Value} (ho : os.length = xs.length * T.n) (hu : us.length = ys.length * T.n) (h1 : ∀ i (h : i < xs.length), RelD H T xs[i] ((os.drop (i * T.n)).take T.n)) (h2 : ∀ i (h : i < ys.length), RelD H T ys[i] ((us.drop (i * T.n)).take T.n)) :
    ∀ i (h : i < (xs ++ ys).length), RelD H T (xs ++ ys)[i] (((os ++ us ++ rest).drop (i * T.n)).take T.n) := by
  intro i hi
  rw [List.getElem_append]
  split
  · rename_i h
    rw [List.append_assoc, chunk_left os _ T.n xs.length i ho h]
    exact h1 i h
  · rename_i h
    simp only [List.length_append] at hi
    rw [List.append_assoc, chunk_append os _ T.n xs.length i ho (by omega), chunk_left us _ T.n ys.length _ hu (by omega)]
    exact h2 _ (by omega)

theorem append_run {N : Nat → Prop} {g : Gh} {W : World} (hsub : Sub g.H W) {E E2 t1 t2 ty : TypeId} {T : ET} {xs ys : List T.den} {v y : Value} {inf : TypeInfo} {z : Value} (hu1 : P.underlying t1 = some (.slice E)) (hu2 : P.underlying t2 = some (.slice E2)) (hi : P.info? E = some inf) (hz : inf.zero = some z) (hzs : z.cells.size = inf.size) (hT : inf.size = T.n)
    (hv : VecR N g W E T xs v) (hy : RelC g (.S T ys) y) (hb : ((xs.length + ys.length) + (xs.length + ys.length) / 4 + 192) * inf.bytes ≤ 281474976710656) (hb2 : (xs.length + ys.length) * T.n ≤ 140737488355328) (hN : N W.heap.size) :
    ∃ v' W', (Builtin.append_ #[t1, t2] ty #[v, y]).run P W = .ok v' W' ∧ VecR N g W' E T (xs ++ ys) v' ∧ W.heap.size ≤ W'.heap.size ∧ (∀ k, k < W.heap.size → blk v ≠ some k → W'.heap[k]? = W.heap[k]?) ∧ W'.os = W.os ∧ W'.tape = W.tape ∧ W'.output = W.output ∧ Sub g.H W' ∧ (∀ k, blk v' = some k → W.heap.size ≤ k ∨ blk v = some k) := by
  obtain ⟨us, husA, hul, hur, huo⟩ := first_S (P := P) hy
  have hsubD : Sub g.H W.drew := hsub
  have hus := husA W hsub
  have husD := husA W.drew hsubD
  have hHnone : ∀ o, g.H W.heap.size o = none := by
    intro o
    cases hv : g.H W.heap.size o with
    | none => rfl
    | some v =>
      have := World.block_lt_of_cell? W _ (hsub _ _ _ hv)
      simp at this
  have hlen : ∀ w' : World, (Builtin.lenOf y).run P w' = .ok ys.length w' := by
    obtain ⟨a, cap, rfl, _⟩ := hy
    intro w'; rfl
  have hpos := T.n_pos
  -- the growing arm
  have hgrow : ∀ (base : Option Addr) (sCap : Nat) (olds : List Value), v = .slice base xs.length sCap → (Builtin.firstCells inf.size xs.length (.slice base xs.length sCap)).run P W.drew = .ok olds.toArray W.drew → olds.length = xs.length * T.n → (∀ i (h : i < xs.length), RelD g.H T xs[i] ((olds.drop (i * T.n)).take T.n)) → sCap < xs.length + ys.length →
      ∃ v' W', (Builtin.append_ #[t1, t2] ty #[v, y]).run P W = .ok v' W' ∧ VecR N g W' E T (xs ++ ys) v' ∧ W.heap.size ≤ W'.heap.size ∧ (∀ k, k < W.heap.size → blk v ≠ some k → W'.heap[k]? = W.heap[k]?) ∧ W'.os = W.os ∧ W'.tape = W.tape ∧ W'.output = W.output ∧ Sub g.H W' ∧ (∀ k, blk v' = some k → W.heap.size ≤ k ∨ blk v = some k) := by
    intro base sCap olds hv hold hol hor hlt
    subst hv
    have hsrc : Src P inf.size t2 y ys.length us W := ⟨.inl ⟨_, hu2⟩, hlen, by rw [hT]; exact hus, by rw [hT]; exact husD, by rw [hT]; exact hul, fun u hu => by have := huo u hu; revert this; cases u <;> simp [oneB, Value.oneCell']⟩
    have hlt63 : ((xs.length + ys.length : Nat) : Int) ≤ 9223372036854775807 := by
      have : (xs.length + ys.length) * 1 ≤ (xs.length + ys.length) * T.n := Nat.mul_le_mul_left _ hpos
      omega
    have hr := run_append_grow_src (P := P) W t1 t2 ty E inf z hu1 hi hz base xs.length sCap olds hold y ys.length us hsrc hlt hlt63 (growslice_fits_wide hlt hb)
    have hcap := grownCap_ge W (xs.length + ys.length) sCap E
    refine ⟨_, _, hr, .inr ⟨W.heap.size, grownCap W (xs.length + ys.length) sCap E, olds ++ us ++ (Builtin.zeroCells z.cells (grownCap W (xs.length + ys.length) sCap E - (xs.length + ys.length))).toList, by simp, by rw [show W.heap.size = W.drew.heap.size from rfl, heap_alloc_new]; congr 2; apply Array.ext'; simp, ?_, by simpa using hcap, by simpa using hb2, rel_both hol hul hor hur, hN, hHnone⟩, by simp, ?_, rfl, rfl, rfl, ?_, ?_⟩
    · simp only [List.length_append, hol, hul, Array.length_toList, size_zeroCells, hzs, hT, ← Nat.add_mul]
      congr 1
      omega
    · intro k hk _
      exact heap_alloc_old W.drew _ hk
    · exact Sub_push hsubD _
    · intro k hk
      simp only [blk, Option.some.injEq] at hk
      exact .inl (by omega)
  rcases hv with ⟨rfl, rfl⟩ | ⟨b, cap, vs, rfl, hh, hvl, hle, hlen2, hr, hNb, hH⟩
  · by_cases hys : ys = []
    · subst hys
      refine ⟨.slice none 0 0, W, ?_, .inl ⟨rfl, rfl⟩, Nat.le_refl _, fun _ _ _ => rfl, rfl, rfl, rfl, hsub, by simp [blk]⟩
      have h0 : us = [] := List.eq_nil_of_length_eq_zero (by simpa using hul)
      subst h0
      rw [← hT] at hus
      simp [Builtin.append_, run_underlying hu1, run_underlying hu2, sizeOf, typeInfo, hi, hlen]
      have h3 : (Builtin.firstCells inf.size 0 y).run P W = .ok #[] W := by simpa using hus
      rw [h3]; rfl
    · have := List.length_pos_iff.2 hys
      exact hgrow none 0 [] rfl (run_firstCells_none W.drew _ 0 0 0) (by simp) (by simp) (by simpa using this)
  · by_cases hroom : xs.length + ys.length ≤ cap
    · have hb' : b < W.heap.size := (Array.getElem?_eq_some_iff.1 hh).1
      have hfit : xs.length * inf.size + us.length ≤ vs.length := by rw [hul, hvl, hT, ← Nat.add_mul]; exact Nat.mul_le_mul_right _ hroom
      have hrun := run_append_place (P := P) (ty := ty) hu1 hu2 hi (hlen W) (by rw [hT]; exact hus) hh huo hroom hfit
      refine ⟨_, _, hrun, .inr ⟨b, cap, over vs us (xs.length * inf.size), by simp, setBlk_at hb', by rw [over_length _ _ _ hfit]; exact hvl, by simpa using hroom, by simpa using hb2, ?_, hNb, hH⟩, by simp [setBlk], ?_, rfl, rfl, rfl, Sub_setBlk hsub hH, ?_⟩
      · unfold over
        rw [hT]
        refine rel_both ?_ hul (fun i hi => ?_) hur
        · simp only [List.length_take]; rw [hvl]
          have := Nat.mul_le_mul_right T.n hle
          omega
        · rw [chunk_take _ _ _ _ hi]; exact hr i hi
      · intro k _ hk
        exact setBlk_ne (fun e => hk (by simp [blk, e]))
      · intro k hk
        exact .inr hk
    · have hle' := Nat.mul_le_mul_right T.n hle
      have htl : (vs.take (xs.length * T.n)).length = xs.length * T.n := by rw [List.length_take, hvl]; omega
      refine hgrow (some ⟨b, 0, none⟩) cap (vs.take (xs.length * T.n)) rfl ?_ htl (fun i hi => by rw [chunk_take _ _ _ _ hi]; exact hr i hi) (by omega)
      rw [hT]
      refine run_firstCells_some W.drew T.n xs.length ⟨b, 0, none⟩ xs.length cap _ htl ?_
      intro j u hj
      obtain ⟨hj1, hj2⟩ := List.getElem?_eq_some_iff.1 hj
      simp only [List.getElem_take] at hj2
      simp only [add_none, Nat.zero_add]
      have hh' : W.drew.heap[b]? = some (.cells vs.toArray E (0, 0)) := hh
      rw [cell_of_block hh' j (by simp at hj1; omega), hj2]

theorem run_callB {a : Act} {o : Oper} {b : Builtin} {args : Array Operand} {tys : Array TypeId} (hop : o.op = .call ⟨.builtin b, args, tys⟩) {W W' : World} {v : Value} (h : ∀ cs, (Go.builtin b tys o.type cs (args.map a.eval)).run P W = .ok (.value v) W') : (execOp a.eval o).run P W = .ok (.value v) W' := by
  rw [execOp, hop]
  simp only [resolve, pure_bind, invoke]
  exact h _

def drops : List Nat → List (Key × Option Info)
  | [] => []
  | id :: r => (.m id, none) :: drops r
def delAll : List Nat → List (Nat × Blk) → List (Nat × Blk)
  | [], l => l
  | id :: r, l => delAll r (delA id l)
theorem says_drops_s (ids : List Nat) (t : Nat) : says (drops ids) (.s t) = none := by
  induction ids with
  | nil => rfl
  | cons id r ih => simp [drops, says, ih]
theorem says_drops_m (j : Nat) : ∀ (ids : List Nat), says (drops ids) (.m j) = if j ∈ ids then some none else none
  | [] => by simp [drops, says]
  | id :: r => by
    simp only [drops, says, Key.m.injEq, List.mem_cons]
    by_cases h : id = j
    · simp [h]
    · rw [if_neg h, says_drops_m j r]
      by_cases h2 : j ∈ r
      · simp [h2]
      · have : ¬ (j = id ∨ j ∈ r) := by rintro (e | e); exact h e.symm; exact h2 e
        rw [if_neg h2, if_neg this]
theorem look_delAll (j : Nat) : ∀ (ids : List Nat) (l : List (Nat × Blk)), lookA j (delAll ids l) = if j ∈ ids then none else lookA j l
  | [], l => by simp [delAll]
  | id :: r, l => by
    simp only [delAll]
    rw [look_delAll j r, lookA_del]
    by_cases h : id = j
    · simp [h]
    · have : ¬ (j = id) := fun e => h e.symm
      simp [h, this]

theorem kn_app (st : St) (d new : Nat) (ids : List Nat) (x : AV) (b : Blk) : (⟨(d, x) :: st.sl, (new, b) :: delAll ids st.mem, st.nx, st.gd⟩ : St).kn = upd st.kn ((.s d, some (.v x)) :: (.m new, some (.b b)) :: drops ids) := by
  funext k
  cases k with
  | s t =>
    by_cases e : d = t
    · simp [St.kn, lookA, upd, says, e]
    · simp [St.kn, lookA, upd, says, e, says_drops_s]
  | m j =>
    by_cases e : new = j
    · simp [St.kn, lookA, upd, says, e]
    · simp only [St.kn, lookA, upd, says, e, reduceCtorEq, Key.m.injEq, if_false, look_delAll, says_drops_m]
      split <;> simp

/-- 'append(x, ys...)' of an owned row or of nil. -/
theorem app_ok (htt : ttB P tt = true) {ops : Array Oper} {i : Nat} {o : Oper} {d : Nat} (ho : ops[i]? = some o) (hg : o.guard = none) (hd : o.dst = some d) {n : Nat} (hdn : d < n) {x y : Operand} {t1 t2 : TypeId} (hop : o.op = .call ⟨.builtin .append, #[x, y], #[t1, t2]⟩)
    {st : St} {ids : List Nat} {E E2 : TypeId} {T : ET} {xs ys : List T.den} (hx : (∃ id, ids = [id] ∧ st.ev x = some (.c (.X id)) ∧ lookA id st.mem = some (.vec E T xs)) ∨ (ids = [] ∧ st.ev x = some (.c (.V (.slice none 0 0))) ∧ xs = []))
    (hy : st.ev y = some (.c (.S T ys))) {ti ti2 ei : TI} (hti : lookA t1 tt = some ti) (hk : ti.kind = .sl E) (hti2 : lookA t2 tt = some ti2) (hk2 : ti2.kind = .sl E2) (hei : lookA E tt = some ei) (hTn : ei.size = T.n) (hzl : ei.zero.length = T.n)
    (hb : ((xs.length + ys.length) + (xs.length + ys.length) / 4 + 192) * ei.bytes ≤ 281474976710656) (hb2 : (xs.length + ys.length) * T.n ≤ 140737488355328) (new : Nat) :
    StepOk P n ops i st ⟨(d, .c (.X new)) :: st.sl, (new, .vec E T (xs ++ ys)) :: delAll ids st.mem, st.nx, st.gd⟩ new (okeys [x, y] ++ mkeys ids, .s d :: .m new :: mkeys ids) := by
  refine ⟨opd st x ++ opd st y ++ mrd st ids, (.s d, some (.v (.c (.X new)))) :: (.m new, some (.b (.vec E T (xs ++ ys)))) :: drops ids, ?_, ?_, kn_app st d new ids _ _, ?_, ?_⟩
  · intro F hFn Q known σ g W a K hnew hsem hrd hK
    have hry : RelC g (.S T ys) (a.eval y) := ev_rel hsem st y _ hy (fun kx hkx => hrd kx (by simp [hkx]))
    have hv : VecR F.N g W E T xs (a.eval x) ∧ (∀ k, blk (a.eval x) = some k → ∃ id b, ids = [id] ∧ σ (.m id) = some (.b b) ∧ blk (g.γ id) = some k) := by
      rcases hx with ⟨id, rfl, hx, hl⟩ | ⟨rfl, hx, rfl⟩
      · have hrx : a.eval x = g.γ id := ev_rel hsem st x _ hx (fun kx hkx => hrd kx (by simp [hkx]))
        have hσ : σ (.m id) = some (.b (.vec E T xs)) := hrd (.m id, .b (.vec E T xs)) (by simp [mrd, hl])
        rw [hrx]
        exact ⟨hsem.blks id _ hσ, fun k hk => ⟨id, _, rfl, hσ, hk⟩⟩
      · have hrx : a.eval x = .slice none 0 0 := ev_rel hsem st x _ hx (fun kx hkx => hrd kx (by simp [hkx]))
        rw [hrx]
        exact ⟨.inl ⟨rfl, rfl⟩, by simp [blk]⟩
    obtain ⟨hv, hbl⟩ := hv
    have h1 := (ttB_ok htt hti).kind
    rw [hk] at h1
    have h2 := (ttB_ok htt hti2).kind
    rw [hk2] at h2
    obtain ⟨inf, hinf, hisz, hiby, z, hzz, hzc⟩ := (ttB_ok htt hei).info
    have hzs : z.cells.size = inf.size := by
      have : z.cells.toList.length = (ei.zero.map ZV.toV).length := by rw [hzc]
      simp only [Array.length_toList, List.length_map] at this
      omega
    obtain ⟨v', W', hrun, hvec, hsz, hheap, e1, e2, e3, hsub, hblk⟩ := append_run (P := P) (ty := o.type) hsem.sub h1 h2 hinf hzz hzs (by omega) hv hry (by rw [hiby]; exact hb) hb2 (.inl hsem.below.size)
    unfold wpOp
    simp only [ho, Region.wanted, hg, if_true]
    refine .inl ?_
    unfold Oper.wp
    rw [run_callB hop (W' := W') (v := v') (by
      have e : (#[x, y] : Array Operand).map a.eval = #[a.eval x, a.eval y] := by simp
      intro cs
      rw [e]
      simp only [Go.builtin, Sem.run_bind, hrun, Result.andThen]
      rfl)]
    simp only [Oper.upon, hd]
    have hszd : d < a.tmps.size := by rw [hsem.size, hFn]; exact hdn
    let g' : Gh := ⟨g.H, fun id => if id = new then v' else g.γ id⟩
    have hGle : GLe known g g' := ⟨FLe.refl _, fun id hid => by
      have : id ≠ new := fun e => hnew (e ▸ hid)
      simp [g', this]⟩
    have hidk : ∀ id ∈ ids, ∃ b, σ (.m id) = some (.b b) := by
      intro id hid
      rcases hx with ⟨id', rfl, hx, hl⟩ | ⟨rfl, _⟩
      · simp only [List.mem_singleton] at hid; subst hid
        exact ⟨_, hrd (.m id, .b (.vec E T xs)) (by simp [mrd, hl])⟩
      · cases hid
    have hnn : ∀ id ∈ ids, id ≠ new := fun id hid e => by
      obtain ⟨b, hb⟩ := hidk id hid
      exact hnew (e ▸ hsem.mkn _ _ hb)
    refine hK g' _ _ (hsem.step (chg := fun j => j ∈ ids) (g' := g') ⟨hGle, fun _ _ _ => rfl, hsub, hsz, ?_, e1, e2, e3⟩ _ new hnew (by simp [Act.put]) hsem.defers ?_ ?_ ?_ ?_ ?_ ?_)
    · intro k hk hne
      refine hheap k hk (fun e => ?_)
      obtain ⟨id, b, rfl, hσ, hkk⟩ := hbl k e
      exact hne id (by simp) hkk
    · intro t ht
      have hne : d ≠ t := by intro e; subst e; simp [says] at ht
      simp [Act.put, Array.getElem?_setIfInBounds_ne hne]
    · intro id hid
      refine ⟨?_, hidk id hid⟩
      simp only [says, reduceCtorEq, if_false, Key.m.injEq, says_drops_m, hid, if_true]
      split <;> simp
    · intro t u ht
      simp only [says] at ht
      split at ht
      · rename_i e
        simp only [Key.s.injEq] at e
        simp only [Option.some.injEq, Info.v.injEq] at ht
        subst e; subst ht
        simp [Act.put, hszd, RelV, RelC, g']
      · simp [says_drops_s] at ht
    · intro id b ht
      simp only [says, reduceCtorEq, if_false] at ht
      split at ht
      · rename_i e
        simp only [Key.m.injEq] at e
        subst e
        simp only [Option.some.injEq, Info.b.injEq] at ht
        subst ht
        have hr : VecR F.N g' W' E T (xs ++ ys) (g'.γ new) := by
          have e : g'.γ new = v' := by simp [g']
          rw [e]; exact hvec
        refine ⟨hr, .inr ⟨rfl, fun k hk => ?_⟩⟩
        simp only [g', if_true] at hk
        rcases hblk k hk with h | h
        · exact .inl h
        · obtain ⟨id, b, hids, hσ, hkk⟩ := hbl k h
          refine .inr ⟨id, b, hσ, ?_, hkk⟩
          have hne := hnn id (by simp [hids])
          simp only [says, reduceCtorEq, if_false, Key.m.injEq, Ne.symm hne, says_drops_m]
          simp [hids]
      · rw [says_drops_m] at ht
        split at ht <;> simp at ht
    · intro k y ht
      simp only [says] at ht
      split at ht
      · simp only [Option.some.injEq] at ht
        subst ht
        intro id hid
        simp [Info.mids, AV.mids, C.mids] at hid
        exact .inr hid
      · split at ht
        · simp only [Option.some.injEq] at ht
          subst ht
          intro id hid
          simp [Info.mids, Blk.mids] at hid
        · cases k with
          | s t => simp [says_drops_s] at ht
          | m j => rw [says_drops_m] at ht; split at ht <;> simp at ht
    · intro id y ht
      simp only [says, reduceCtorEq, if_false] at ht
      split at ht
      · rename_i e
        simp only [Key.m.injEq] at e
        exact .inr e.symm
      · rw [says_drops_m] at ht; split at ht <;> simp at ht
  · intro kx hkx
    rcases List.mem_append.1 hkx with h | h
    · rcases List.mem_append.1 h with h | h
      · exact opd_kn _ x kx h
      · exact opd_kn _ y kx h
    · exact mrd_kn _ ids kx h
  · intro k hk
    simp only [rkeysOf, List.map_append, List.mem_append] at hk
    rcases hk with (h | h) | h
    · exact List.mem_append_left _ (okeys_opd st [x, y] k (by simp only [rkeysOf, List.flatMap_cons, List.map_append, List.mem_append]; exact .inl h))
    · exact List.mem_append_left _ (okeys_opd st [x, y] k (by simp only [rkeysOf, List.flatMap_cons, List.map_append, List.mem_append]; exact .inr (.inl h)))
    · exact List.mem_append_right _ (mkeys_mrd st ids k h)
  · have hd : ∀ ids : List Nat, keysOf (drops ids) = mkeys ids := by
      intro ids
      induction ids with
      | nil => rfl
      | cons id r ih => simp only [drops, keysOf, List.map_cons, mkeys] at ih ⊢; rw [ih]
    intro k hk
    have : keysOf ((.s d, some (.v (.c (.X new)))) :: (.m new, some (.b (.vec E T (xs ++ ys)))) :: drops ids) = .s d :: .m new :: mkeys ids := by
      rw [← hd ids]; rfl
    rw [← this]; exact hk

theorem rg_app {ops : Array Oper} {draw : Bool} {nx i : Nat} {d : Nat} {x y : Operand} {t1 t2 ty : TypeId} {pos : String} {aft : Array Edge} {os : List Oper} {sl : List (Nat × AV)} {mem : List (Nat × Blk)} {n0 : Nat} {gd : List (Nat × Bool)} {ks : List Ks} {Q : St → Prop} (htt : ttB P tt = true)
    {id : Nat} {E E2 : TypeId} {T : ET} {xs ys : List T.den} (hx : St.ev ⟨sl, mem, n0, gd⟩ x = some (.c (.X id))) (hl : lookA id mem = some (.vec E T xs))
    (hy : St.ev ⟨sl, mem, n0, gd⟩ y = some (.c (.S T ys))) {ti ti2 ei : TI} (hti : lookA t1 tt = some ti) (hk : ti.kind = .sl E) (hti2 : lookA t2 tt = some ti2) (hk2 : ti2.kind = .sl E2) (hei : lookA E tt = some ei) (hTn : ei.size = T.n) (hzl : ei.zero.length = T.n)
    (hb : ((xs.length + ys.length) + (xs.length + ys.length) / 4 + 192) * ei.bytes ≤ 281474976710656) (hb2 : (xs.length + ys.length) * T.n ≤ 140737488355328)
    (h : RG P n ops draw nx (i + 1) os ⟨(d, .c (.X (1000000 * nx + 1000 * i))) :: sl, (1000000 * nx + 1000 * i, .vec E T (xs ++ ys)) :: delA id mem, n0, gd⟩ (addK draw ks (okeys [x, y] ++ mkeys [id], [.s d, .m (1000000 * nx + 1000 * i), .m id])) Q) (hdn : Nat.blt d n = true := by rfl) :
    RG P n ops draw nx i (⟨some d, .call ⟨.builtin .append, #[x, y], #[t1, t2]⟩, ty, pos, aft, none⟩ :: os) ⟨sl, mem, n0, gd⟩ ks Q :=
  rg_ok (fun ho => app_ok htt ho rfl rfl (Nat.le_of_ble_eq_true hdn) rfl (.inl ⟨id, rfl, hx, hl⟩) hy hti hk hti2 hk2 hei hTn hzl hb hb2 _) (rg_addK h)

theorem rg_appN {ops : Array Oper} {draw : Bool} {nx i : Nat} {d : Nat} {x y : Operand} {t1 t2 ty : TypeId} {pos : String} {aft : Array Edge} {os : List Oper} {sl : List (Nat × AV)} {mem : List (Nat × Blk)} {n0 : Nat} {gd : List (Nat × Bool)} {ks : List Ks} {Q : St → Prop} (htt : ttB P tt = true)
    {E E2 : TypeId} {T : ET} {ys : List T.den} (hx : St.ev ⟨sl, mem, n0, gd⟩ x = some (.c (.V (.slice none 0 0))))
    (hy : St.ev ⟨sl, mem, n0, gd⟩ y = some (.c (.S T ys))) {ti ti2 ei : TI} (hti : lookA t1 tt = some ti) (hk : ti.kind = .sl E) (hti2 : lookA t2 tt = some ti2) (hk2 : ti2.kind = .sl E2) (hei : lookA E tt = some ei) (hTn : ei.size = T.n) (hzl : ei.zero.length = T.n)
    (hb : (ys.length + ys.length / 4 + 192) * ei.bytes ≤ 281474976710656) (hb2 : ys.length * T.n ≤ 140737488355328)
    (h : RG P n ops draw nx (i + 1) os ⟨(d, .c (.X (1000000 * nx + 1000 * i))) :: sl, (1000000 * nx + 1000 * i, .vec E T ys) :: mem, n0, gd⟩ (addK draw ks (okeys [x, y], [.s d, .m (1000000 * nx + 1000 * i)])) Q) (hdn : Nat.blt d n = true := by rfl) :
    RG P n ops draw nx i (⟨some d, .call ⟨.builtin .append, #[x, y], #[t1, t2]⟩, ty, pos, aft, none⟩ :: os) ⟨sl, mem, n0, gd⟩ ks Q :=
  rg_ok (fun ho => app_ok (xs := []) (ids := []) htt ho rfl rfl (Nat.le_of_ble_eq_true hdn) rfl (.inr ⟨rfl, hx, rfl⟩) hy hti hk hti2 hk2 hei hTn hzl (by simpa using hb) (by simpa using hb2) _) (rg_addK (by simpa [mkeys, delAll] using h))
end
end Go.El

/- The engine, part 20: slices of boxes, as values. Own work; no condition. -/
namespace Go.El
open Go Go.RowKit

/-- The size of a slice type's elements. -/
def elSz (tt : TT) (t : Nat) : Option Nat := match lookA t tt with
  | some ti => (match ti.kind with
    | .sl e => (match lookA e tt with | some ei => some ei.size | none => none)
    | _ => none)
  | none => none

def idxL (tt : TT) (t : Nat) (x i : AV) : Option (AV × Pr) := match x, i with
  | .c (.L id off len _), .c (.I _ k) => (match elSz tt t with
    | some sz => some (.c (.P id (off + k.toNat * sz)), .and (.le 0 k) (.lt k len))
    | none => none)
  | _, _ => none

/-- A bound of a slice expression: the number, and what it asks for. -/
def bndL (m : Nat) : Option AV → Nat → Option (Nat × Pr)
  | none, d => some (d, .t)
  | some (.c (.I _ k)), _ => some (k.toNat, .and (.le 0 k) (.le k m))
  | _, _ => none

def sliceL (tt : TT) (t : Nat) (x : AV) (lo hi mx : Option AV) : Option (AV × Pr) := match x, elSz tt t with
  | .c (.L id off len (some c)), some sz => (match bndL c mx c with
    | some (m, p1) => (match (if mx.isSome && !hi.isSome then none else bndL m hi len) with
      | some (h, p2) => (match bndL h lo 0 with
        | some (l, p3) => some (.c (.L id (if m = l then off else off + l * sz) (h - l) (some (m - l))), .an p1 (.an p2 p3))
        | none => none)
      | none => none)
    | none => none)
  | .c (.L id off len none), some _ => (match lo, mx with
    | none, none => (match bndL len hi len with
      | some (h, p) => some (.c (.L id off h none), p)
      | none => none)
    | _, _ => none)
  | .c (.V (.slice none 0 0)), some _ => (match mx, bndL 0 hi 0 with
    | none, some (h, p) => (match bndL h lo 0 with
      | some (_, q) => some (.c (.V (.slice none 0 0)), .an p q)
      | none => none)
    | _, _ => none)
  | _, _ => none

def lenL (tt : TT) (t : Nat) (x : AV) : Option AV := match lookA t tt with
  | some ti => (match ti.kind with
    | .sl _ => (match x with
      | .c (.L _ _ len _) => some (.c (.I .i64 len))
      | _ => none)
    | _ => none)
  | none => none

def pickL (c x y : Option AV) : Option (AV × Pr) := match c, x, y with
  | some (.c (.B true)), some v, _ => some (v, .t)
  | some (.c (.B false)), _, some v => some (v, .t)
  | _, _, _ => none

/-- Evaluation where a slice of a box is met. -/
def evalL (tt : TT) (st : St) : Op → Option (AV × Pr)
  | .pick c x y => pickL (st.ev c) (st.ev x) (st.ev y)
  | .indexAddr t x i => (match st.ev x, st.ev i with | some v, some w => idxL tt t v w | _, _ => none)
  | .slice t x lo hi mx => (match st.ev x, optev st lo, optev st hi, optev st mx with | some v, some l, some h, some m => sliceL tt t v l h m | _, _, _, _ => none)
  | .call ⟨.builtin .len, args, tys⟩ => (match args.toList, tys.toList with
    | [x], [t] => (match st.ev x with | some v => (match lenL tt t v with | some u => some (u, .t) | none => none) | none => none)
    | _, _ => none)
  | _ => none

section
variable {P : Program} {tt : TT} {g : Gh} {W : World}

theorem elSz_ok (htt : ttB P tt = true) {t n : Nat} (h : elSz tt t = some n) : ∃ e i, P.underlying t = some (.slice e) ∧ P.info? e = some i ∧ i.size = n := by
  refine slTy_ok htt ?_
  unfold elSz at h
  unfold slTy
  split at h
  · rename_i ti hl
    split at h
    · rename_i e hk
      split at h
      · rename_i ei he
        have h' : ei.size = n := Option.some.inj h
        simp [hl, hk, he, h']
      · simp at h
    · simp at h
  · simp at h

theorem idxL_sound (htt : ttB P tt = true) {t : Nat} {x i y : AV} {p : Pr} (h : idxL tt t x i = some (y, p)) (hp : p) {v u : Value} (hv : RelV g x v) (hu : RelV g i u) : (∃ z, (Instr.indexAt t v u).run P W = .ok z W ∧ RelV g y z) ∧ ∀ id ∈ y.mids, id ∈ x.mids := by
  unfold idxL at h
  split at h
  · rename_i id off len cap k' k
    split at h
    · rename_i sz hsz
      simp only [Option.some.injEq, Prod.mk.injEq] at h
      obtain ⟨rfl, rfl⟩ := h
      obtain ⟨e, i, hue, hi, hs⟩ := elSz_ok htt hsz
      have hu' : u = .int k' k := hu
      subst hu'
      have hcond : 0 ≤ k ∧ k < (len : Int) := hp
      have hv' : ∃ b c, blk (g.γ id) = some b ∧ v = .slice (some ⟨b, off, none⟩) len c := by
        cases cap with
        | some c => obtain ⟨b, h1, h2⟩ := hv; exact ⟨b, c, h1, h2⟩
        | none => obtain ⟨h0, b, c, h1, h2, _⟩ := hv; subst h0; exact ⟨b, c, by rw [h1]; rfl, h2⟩
      obtain ⟨b, c, hb, rfl⟩ := hv'
      refine ⟨⟨.pointer (some ⟨b, off + k.toNat * sz, none⟩), ?_, b, hb, rfl⟩, by simp [AV.mids, C.mids]⟩
      simp only [Instr.indexAt, asIntOf, Sem.run_bind, run_underlying hue, Result.andThen]
      simp [hcond, run_sizeOf hi, hs, add_none]
    · simp at h
  · simp at h

theorem bndL_sound {m : Nat} {x : Option AV} {d h : Nat} {p : Pr} (hb : bndL m x d = some (h, p)) (hp : p) {v : Option Value} (hv : RelO g x v) (code : BoundsCode) :
    (x = none ∧ v = none ∧ h = d) ∨ (∃ u, x.isSome = true ∧ v = some u ∧ h ≤ m ∧ (Instr.sliceBound u m code).run P W = .ok h W) := by
  unfold bndL at hb
  split at hb
  · simp only [Option.some.injEq, Prod.mk.injEq] at hb
    cases v with
    | none => exact .inl ⟨rfl, rfl, hb.1.symm⟩
    | some u => exact hv.elim
  · rename_i k' k
    simp only [Option.some.injEq, Prod.mk.injEq] at hb
    obtain ⟨rfl, rfl⟩ := hb
    cases v with
    | none => exact hv.elim
    | some u =>
      have hv' : u = .int k' k := hv
      subst hv'
      have hp' : 0 ≤ k ∧ k ≤ (m : Int) := hp
      refine .inr ⟨_, rfl, rfl, by omega, ?_⟩
      simp [Instr.sliceBound, asIntOf, hp', Sem.run, pure]
  · simp at hb

theorem sliceL_sound (htt : ttB P tt = true) {t : Nat} {x y : AV} {lo hi mx : Option AV} {p : Pr} (h : sliceL tt t x lo hi mx = some (y, p)) (hp : p) {v : Value} {vl vh vm : Option Value} (hv : RelV g x v)
    (hl : RelO g lo vl) (hh : RelO g hi vh) (hm : RelO g mx vm) :
    (∃ z, (Instr.sliceAt t v vl vh vm).run P W = .ok z W ∧ RelV g y z) ∧ ∀ id ∈ y.mids, id ∈ x.mids := by
  unfold sliceL at h
  split at h
  · rename_i id off len c sz hsz
    obtain ⟨e, i, hue, hie, hs⟩ := elSz_ok htt hsz
    split at h
    · rename_i m p1 hb1
      split at h
      · rename_i hhi p2 hb2
        split at h
        · rename_i l p3 hb3
          simp only [Option.some.injEq, Prod.mk.injEq] at h
          obtain ⟨rfl, rfl⟩ := h
          obtain ⟨hp1, hp23⟩ := Pr.an_h hp
          obtain ⟨hp2, hp3⟩ := Pr.an_h hp23
          obtain ⟨b, hbk, rfl⟩ := hv
          have hcase : ¬ (mx.isSome = true ∧ hi.isSome = false) := by
            intro hc
            rw [if_pos (by simp [hc.1, hc.2])] at hb2
            cases hb2
          have hb2' : bndL m hi len = some (hhi, p2) := by
            rw [if_neg (by intro hc; simp only [Bool.and_eq_true, Bool.not_eq_true'] at hc; exact hcase hc)] at hb2
            exact hb2
          refine ⟨⟨.slice (if m = l then some ⟨b, off, none⟩ else some ⟨b, off + l * sz, none⟩) (hhi - l) (m - l), ?_, b, hbk, ?_⟩, by simp [AV.mids, C.mids]⟩
          · have hsb : (Instr.sliceBounds true len c vl vh vm).run P W = .ok (l, hhi, m) W := by
              unfold Instr.sliceBounds
              rcases bndL_sound (P := P) (W := W) hb1 hp1 hm .slice3Acap with ⟨hx1, rfl, rfl⟩ | ⟨u1, hx1, rfl, _, hr1⟩
              · rcases bndL_sound (P := P) (W := W) hb2' hp2 hh .sliceAcap with ⟨hx2, rfl, rfl⟩ | ⟨u2, hx2, rfl, _, hr2⟩
                · rcases bndL_sound (P := P) (W := W) hb3 hp3 hl .sliceB with ⟨hx3, rfl, rfl⟩ | ⟨u3, hx3, rfl, _, hr3⟩ <;> simp [*]
                · rcases bndL_sound (P := P) (W := W) hb3 hp3 hl .sliceB with ⟨hx3, rfl, rfl⟩ | ⟨u3, hx3, rfl, _, hr3⟩ <;> simp [*]
              · rcases bndL_sound (P := P) (W := W) hb2' hp2 hh .slice3B with ⟨hx2, rfl, rfl⟩ | ⟨u2, hx2, rfl, _, hr2⟩
                · exact absurd ⟨hx1, by simp [hx2]⟩ hcase
                · rcases bndL_sound (P := P) (W := W) hb3 hp3 hl .slice3C with ⟨hx3, rfl, rfl⟩ | ⟨u3, hx3, rfl, _, hr3⟩ <;> simp [*]
            simp only [Instr.sliceAt, Sem.run_bind, run_underlying hue, Result.andThen, Instr.slice, hsb, run_sizeOf hie, hs]
            split <;> simp [pure, add_none]
          · split <;> rfl
        · simp at h
      · simp at h
    · simp at h
  · rename_i id off len sz hsz
    obtain ⟨e, i, hue, hie, hs⟩ := elSz_ok htt hsz
    split at h
    · split at h
      · rename_i hhi p1 hb1
        simp only [Option.some.injEq, Prod.mk.injEq] at h
        obtain ⟨rfl, rfl⟩ := h
        obtain ⟨h0, b, c, hγ, rfl, hle⟩ := hv
        subst h0
        have hvl : vl = none := by cases vl with | none => rfl | some _ => exact hl.elim
        have hvm : vm = none := by cases vm with | none => rfl | some _ => exact hm.elim
        subst hvl hvm
        have hb1' := bndA_sound (P := P) (W := W) (n := len) (x := hi) (d := len) (h := hhi) (p := p1) (by rw [← hb1]; cases hi with | none => rfl | some q => cases q with | c q => cases q <;> rfl | _ => rfl) hp hh c hle .sliceAcap
        have hle2 : hhi ≤ len := by rcases hb1' with ⟨_, _, e⟩ | ⟨_, _, h, _⟩ <;> omega
        refine ⟨⟨.slice (some ⟨b, 0, none⟩) hhi c, ?_, rfl, b, c, hγ, rfl, by omega⟩, by simp [AV.mids, C.mids]⟩
        have hsb : (Instr.sliceBounds true len c none vh none).run P W = .ok (0, hhi, c) W := by
          unfold Instr.sliceBounds
          rcases hb1' with ⟨_, rfl, rfl⟩ | ⟨u, rfl, _, hr1⟩ <;> simp [*]
        simp only [Instr.sliceAt, Sem.run_bind, run_underlying hue, Result.andThen, Instr.slice, hsb, run_sizeOf hie, hs]
        simp [pure, add_none]
      · simp at h
    · simp at h
  · rename_i sz hsz
    obtain ⟨e, i, hue, hie, hs⟩ := elSz_ok htt hsz
    split at h
    · rename_i hhi p1 hb1
      split at h
      · rename_i l p2 hb2
        simp only [Option.some.injEq, Prod.mk.injEq] at h
        obtain ⟨rfl, rfl⟩ := h
        obtain ⟨hp1, hp2⟩ := Pr.an_h hp
        have hv' : v = .slice none 0 0 := hv
        subst hv'
        have hvm : vm = none := by cases vm with | none => rfl | some _ => exact hm.elim
        subst hvm
        refine ⟨⟨.slice none 0 0, ?_, rfl⟩, by simp [AV.mids, C.mids]⟩
        have hsb : (Instr.sliceBounds true 0 0 vl vh none).run P W = .ok (0, 0, 0) W := by
          unfold Instr.sliceBounds
          rcases bndL_sound (P := P) (W := W) hb1 hp1 hh .sliceAcap with ⟨_, rfl, rfl⟩ | ⟨u1, _, rfl, hle1, hr1⟩
          · rcases bndL_sound (P := P) (W := W) hb2 hp2 hl .sliceB with ⟨_, rfl, rfl⟩ | ⟨u2, _, rfl, hle2, hr2⟩
            · simp [*]
            · have : l = 0 := by omega
              subst this
              simp [*]
          · have : hhi = 0 := by omega
            subst this
            rcases bndL_sound (P := P) (W := W) hb2 hp2 hl .sliceB with ⟨_, rfl, rfl⟩ | ⟨u2, _, rfl, hle2, hr2⟩
            · simp [*]
            · have : l = 0 := by omega
              subst this
              simp [*]
        simp only [Instr.sliceAt, Sem.run_bind, run_underlying hue, Result.andThen, Instr.slice, hsb, run_sizeOf hie, hs]
        simp [pure]
      · simp at h
    · simp at h
  · simp at h

theorem lenL_sound (htt : ttB P tt = true) {t r : Nat} {x y : AV} (h : lenL tt t x = some y) {v : Value} (hv : RelV g x v) : (Builtin.len_ #[t] r #[v]).run P W = .ok (match y with | .c (.I k n) => .int k n | _ => undef) W ∧ (∃ n : Int, y = .c (.I .i64 n)) := by
  unfold lenL at h
  split at h
  · rename_i ti hl
    split at h
    · rename_i e hk
      split at h
      · rename_i id off len cap _
        simp only [Option.some.injEq] at h
        subst h
        have h2 := (ttB_ok htt hl).kind
        rw [hk] at h2
        have hv' : ∃ a c, v = .slice a len c := by
          cases cap with
          | some c => obtain ⟨b, h1, h2⟩ := hv; exact ⟨_, c, h2⟩
          | none => obtain ⟨h0, b, c, h1, h2, _⟩ := hv; exact ⟨_, c, h2⟩
        obtain ⟨a, c, rfl⟩ := hv'
        exact ⟨by simp [Builtin.len_, run_underlying h2, goInt, Sem.run, pure], _, rfl⟩
      · simp at h
    · simp at h
  · simp at h

theorem evalL_sound (htt : ttB P tt = true) {ops : Array Oper} {i : Nat} {o : Oper} {d : Nat} (ho : ops[i]? = some o) (hg : o.guard = none) (hd : o.dst = some d) {n : Nat} (hdn : d < n)
    {st : St} {x : AV} {p : Pr} (he : evalL tt st o.op = some (x, p)) (hp : p) (new : Nat) : StepS P n ops i (rdV st o.op) [(.s d, some (.v x))] new := by
  refine stepS_val ho hg hd hdn _ x new ?_
  intro F known σ g W a hsem hrd
  have hrs : ∀ y ∈ o.op.operands, ∀ kx ∈ opd st y, σ kx.1 = some kx.2 := by
    intro y hy kx hkx
    exact hrd kx (List.mem_flatMap.2 ⟨y, by simpa using hy, hkx⟩)
  have hev : ∀ y ∈ o.op.operands, ∀ u, st.ev y = some u → RelV g u (a.eval y) ∧ ∀ id ∈ u.mids, known id := by
    intro y hy u hu
    exact ⟨ev_rel hsem st y u hu (hrs y hy), ev_mids hsem st y u hu (hrs y hy)⟩
  generalize hop : o.op = op at he hev hrs
  unfold evalL at he
  split at he
  · rename_i c y z
    unfold pickL at he
    split at he
    · rename_i v hc hy
      simp only [Option.some.injEq, Prod.mk.injEq] at he
      obtain ⟨rfl, rfl⟩ := he
      have h0 : a.eval c = .bool true := (hev c (by simp [Op.operands]) _ hc).1
      have h1 := hev y (by simp [Op.operands]) _ hy
      exact ⟨h1.2, _, by simp [execOp, hop, h0, asBool, Sem.run, pure], h1.1⟩
    · rename_i v hc hy
      simp only [Option.some.injEq, Prod.mk.injEq] at he
      obtain ⟨rfl, rfl⟩ := he
      have h0 : a.eval c = .bool false := (hev c (by simp [Op.operands]) _ hc).1
      have h1 := hev z (by simp [Op.operands]) _ hy
      exact ⟨h1.2, _, by simp [execOp, hop, h0, asBool, Sem.run, pure], h1.1⟩
    · simp at he
  · rename_i t y z
    split at he
    · rename_i v w hv hw
      have h1 := hev y (by simp [Op.operands]) _ hv
      have h2 := hev z (by simp [Op.operands]) _ hw
      obtain ⟨⟨u, hrun, hrel⟩, hm⟩ := idxL_sound (P := P) (W := W) htt he hp h1.1 h2.1
      exact ⟨fun id hid => h1.2 id (hm id hid), u, by simp [execOp, hop, hrun, Sem.run, pure], hrel⟩
    · simp at he
  · rename_i t y lo hi mx
    split at he
    · rename_i v l h m hv hl hh hm
      have h1 := hev y (by simp [Op.operands]) _ hv
      have h2 := optev_rel hsem st lo l hl (fun q hq => hrs q (by subst hq; simp [Op.operands]))
      have h3 := optev_rel hsem st hi h hh (fun q hq => hrs q (by subst hq; simp [Op.operands]))
      have h4 := optev_rel hsem st mx m hm (fun q hq => hrs q (by subst hq; simp [Op.operands]))
      obtain ⟨⟨u, hrun, hrel⟩, hm⟩ := sliceL_sound (P := P) (W := W) htt he hp h1.1 h2 h3 h4
      exact ⟨fun id hid => h1.2 id (hm id hid), u, by simp [execOp, hop, hrun, Sem.run, pure], hrel⟩
    · simp at he
  · rename_i args tys
    split at he
    · rename_i y t ha ht
      have hargs : args = #[y] := by rw [← Array.toList_inj]; exact ha
      have htys : tys = #[t] := by rw [← Array.toList_inj]; exact ht
      subst hargs htys
      split at he
      · rename_i v hv
        split at he
        · rename_i u hu
          simp only [Option.some.injEq, Prod.mk.injEq] at he
          obtain ⟨rfl, rfl⟩ := he
          have h1 := hev y (by simp [Op.operands, Call.operands]) _ hv
          obtain ⟨hrun, n', rfl⟩ := lenL_sound (P := P) (W := W) (r := o.type) htt hu h1.1
          exact ⟨by simp [AV.mids, C.mids], .int .i64 n', run_callB hop (fun cs => by
            have e : (#[y] : Array Operand).map a.eval = #[a.eval y] := by simp
            rw [e]
            simp only [Go.builtin, Sem.run_bind, hrun, Result.andThen]
            rfl), rfl⟩
        · simp at he
      · simp at he
    · simp at he
  · simp at he

end
end Go.El

/- The engine, part 21: new rows of cells: make, slice literals. Own work; no condition. -/
namespace Go.El
open Go Go.RowKit

section
variable {P : Program} {tt : TT}

/-- A new row of cells. -/
theorem newrow_sound {ops : Array Oper} {i : Nat} {o : Oper} {d : Nat} (ho : ops[i]? = some o) (hg : o.guard = none) (hd : o.dst = some d) {n : Nat} (hdn : d < n) {E : TypeId} (rd : List (Key × Info)) (cs : List C) (sz len : Nat) (capo : Option Nat) (new : Nat)
    (h : ∀ (F : Fix) (known : Nat → Prop) (σ : Kn) (g : Gh) (W : World) (a : Act), Hold F known σ g W a → (∀ kx ∈ rd, σ kx.1 = some kx.2) →
      (∀ id ∈ midsL cs, known id) ∧ ∃ (vs rest : List Value) (cap : Nat) (W1 : World), RelL g cs vs ∧ (execOp a.eval o).run P W = .ok (.value (.slice (some ⟨W.heap.size, 0, none⟩) len cap)) { W1 with heap := W.heap.push (.cells (vs ++ rest).toArray E (0, 0)) } ∧
        W1.os = W.os ∧ W1.tape = W.tape ∧ W1.output = W.output ∧ (∀ c, capo = some c → cap = c) ∧ (sz ≠ 0 → (vs ++ rest).length = cap * sz) ∧ len ≤ cap) :
    StepS P n ops i rd [(.s d, some (.v (.c (.L new 0 len capo)))), (.m new, some (.b (.box E sz cs)))] new := by
  intro F hFn Q known σ g W a K hnew hsem hrd hK
  obtain ⟨hm, vs, rest, cap, W1, hr, hrun, e1, e2, e3, hcap, hszz, hlen⟩ := h F known σ g W a hsem hrd
  unfold wpOp
  simp only [ho, Region.wanted, hg, if_true]
  refine .inl ?_
  unfold Oper.wp
  rw [hrun]
  simp only [Oper.upon, hd]
  have hsz : d < a.tmps.size := by rw [hsem.size, hFn]; exact hdn
  let g' : Gh := ⟨g.H, fun id => if id = new then .slice (some ⟨W.heap.size, 0, none⟩) 0 cap else g.γ id⟩
  have hgn : g'.γ new = .slice (some ⟨W.heap.size, 0, none⟩) 0 cap := by simp [g']
  have hle : GLe known g g' := ⟨FLe.refl _, fun id hid => by
    have : id ≠ new := fun e => hnew (e ▸ hid)
    simp [g', this]⟩
  have hHnone : ∀ o, g.H W.heap.size o = none := by
    intro o
    cases hv : g.H W.heap.size o with
    | none => rfl
    | some v =>
      have := World.block_lt_of_cell? W _ (hsem.sub _ _ _ hv)
      simp at this
  have hsub : Sub g.H { W1 with heap := W.heap.push (.cells (vs ++ rest).toArray E (0, 0)) } := by
    have := Sub_push hsem.sub (.cells (vs ++ rest).toArray E (0, 0))
    exact this
  refine hK g' _ _ (hsem.step (chg := fun _ => False) (g' := g') ⟨hle, fun _ _ _ => rfl, hsub, by simp, fun k hk _ => alloc_heap W _ k hk, e1, e2, e3⟩ _ new hnew (by simp [Act.put]) hsem.defers ?_ (fun _ h => h.elim) ?_ ?_ ?_ ?_)
  · intro t ht
    have hne : d ≠ t := by intro e; subst e; simp [says] at ht
    simp [Act.put, Array.getElem?_setIfInBounds_ne hne]
  · intro t u ht
    simp only [says] at ht
    split at ht
    · rename_i e
      simp only [Key.s.injEq] at e
      simp only [Option.some.injEq, Info.v.injEq] at ht
      subst e; subst ht
      have hval : (a.put (some d) (.slice (some ⟨W.heap.size, 0, none⟩) len cap)).tmps.getD d undef = .slice (some ⟨W.heap.size, 0, none⟩) len cap := by simp [Act.put, hsz]
      show RelC g' _ _
      rw [hval]
      cases capo with
      | some c => have := hcap c rfl; subst this; exact ⟨W.heap.size, by rw [hgn]; rfl, rfl⟩
      | none => exact ⟨rfl, W.heap.size, cap, hgn, rfl, hlen⟩
    · split at ht
      · simp at ht
      · simp at ht
  · intro id b ht
    simp only [says, reduceCtorEq, if_false] at ht
    split at ht
    · rename_i e
      simp only [Key.m.injEq] at e
      subst e
      simp only [Option.some.injEq, Info.b.injEq] at ht
      subst ht
      refine ⟨⟨W.heap.size, vs, rest, by rw [hgn]; rfl, by simp, RelL.mono hle hm hr, .inl hsem.below.size, hHnone, fun h0 => ⟨cap, hgn, hszz h0⟩⟩, .inr ⟨rfl, fun k hk => .inl ?_⟩⟩
      rw [hgn] at hk
      simp only [blk, Option.some.injEq] at hk
      omega
    · simp at ht
  · intro k y ht
    simp only [says] at ht
    split at ht
    · simp only [Option.some.injEq] at ht
      subst ht
      intro id hid
      simp [Info.mids, AV.mids, C.mids] at hid
      exact .inr hid
    · split at ht
      · simp only [Option.some.injEq] at ht
        subst ht
        exact fun id hid => .inl (hm id hid)
      · simp at ht
  · intro id y ht
    simp only [says, reduceCtorEq, if_false] at ht
    split at ht
    · rename_i e
      simp only [Key.m.injEq] at e
      exact .inr e.symm
    · simp at ht

/-- 'make([]E, m)'. -/
theorem makeL_sound (htt : ttB P tt = true) {ops : Array Oper} {i : Nat} {o : Oper} {d : Nat} (ho : ops[i]? = some o) (hg : o.guard = none) (hd : o.dst = some d) {n : Nat} (hdn : d < n) {t : TypeId} {x y : Operand} (hop : o.op = .makeSlice t x y)
    {st : St} {m : Nat} {k k2 : IntKind} (hx : st.ev x = some (.c (.I k (m : Int)))) (hy : st.ev y = some (.c (.I k2 (m : Int)))) {E : Nat} {ti ei : TI} (hti : lookA t tt = some ti) (hk : ti.kind = .sl E) (hei : lookA E tt = some ei) (hpos : 0 < ei.size) (hb : m * ei.bytes ≤ 16777216) (hb2 : m ≤ 16777216) (new : Nat) :
    StepS P n ops i (rdV st o.op) [(.s d, some (.v (.c (.L new 0 m (some m))))), (.m new, some (.b (.box E 0 (flatRep (ei.zero.map ZV.toC) m))))] new := by
  refine newrow_sound ho hg hd hdn _ _ _ _ _ new ?_
  intro F known σ g W a hsem hrd
  have hr : a.eval x = .int k (m : Int) := ev_rel hsem st x _ hx (fun kx hkx => hrd kx (by rw [hop]; simp [rdV, Op.operands, hkx]))
  have hr2 : a.eval y = .int k2 (m : Int) := ev_rel hsem st y _ hy (fun kx hkx => hrd kx (by rw [hop]; simp [rdV, Op.operands, hkx]))
  have hu := (ttB_ok htt hti).kind
  rw [hk] at hu
  obtain ⟨inf, hinf, hisz, hiby, z, hzz, hzc⟩ := (ttB_ok htt hei).info
  have hzl : (ei.zero.map ZV.toV).length = ei.size := by simpa using (ttB_ok htt hei).zlen
  have hzc' : z.cells = (ei.zero.map ZV.toV).toArray := by rw [← Array.toList_inj]; simpa using hzc
  have hzne : (ei.zero.map ZV.toV) ≠ [] := by
    intro e
    rw [e] at hzl
    simp at hzl
    omega
  have hby : (inf.bytes : Int) * (m : Int) ≤ 281474976710656 := by
    rw [hiby]
    have : (ei.bytes : Int) * (m : Int) = ((m * ei.bytes : Nat) : Int) := by rw [Nat.mul_comm]; simp
    rw [this]
    omega
  have hrun := run_make (P := P) W t E inf z hu hinf hzz k k2 m m (by omega) (by omega) hby (by omega)
  refine ⟨by rw [flatRep_mids (zeros_mids _)]; simp, (List.replicate m (ei.zero.map ZV.toV)).flatten, [], m, W, flatRep_rel (zeros_rel g ei.zero) m, ?_, rfl, rfl, rfl, fun c hc => Option.some.inj hc, by simp, Nat.le_refl _⟩
  rw [execOp, hop]
  have hcells : madeCells z.cells (m * inf.size) = ((List.replicate m (ei.zero.map ZV.toV)).flatten).toArray := by
    rw [hisz, hzc', ← hzl, ← makeCells_eq _ m hzne]
    rfl
  simp only [Int.toNat_natCast] at hrun
  rw [hcells] at hrun
  simp only [hr, hr2, Sem.run_bind, hrun, Result.andThen, List.append_nil]
  rfl

theorem run_bslL (htt : ttB P tt = true) {F : Fix} {known : Nat → Prop} {σ : Kn} {g : Gh} {W : World} {a : Act} (hsem : Hold F known σ g W a) {st : St} {o : Oper} {t len : Nat} {parts : Array (Nat × Operand)} (hop : o.op = .buildSlice t len parts) {E : Nat} {ei : TI} {cs0 : List C} (hpos : 0 < ei.size) (hsmall : len * ei.size ≤ 16777216)
    (hv : bslC tt st t len parts.toList = some (E, ei, cs0)) (hrd : ∀ kx ∈ rdV st o.op, σ kx.1 = some kx.2) :
    ∃ us : List Value, (execOp a.eval o).run P W = .ok (.value (.slice (some ⟨W.heap.size, 0, none⟩) len len)) { W with heap := W.heap.push (.cells us.toArray E (0, 0)) } ∧ RelL g cs0 us ∧ us.length = len * ei.size ∧ ∀ id ∈ midsL cs0, known id := by
  unfold bslC at hv
  split at hv
  · rename_i ti hti
    split at hv
    · rename_i E' hk
      split at hv
      · rename_i ei' hei
        split at hv
        · rename_i cs hcs
          simp only [Option.some.injEq, Prod.mk.injEq] at hv
          obtain ⟨rfl, rfl, rfl⟩ := hv
          have hu := (ttB_ok htt hti).kind
          rw [hk] at hu
          obtain ⟨inf, hinf, hisz, _, z, hz, hzc⟩ := (ttB_ok htt hei).info
          have hzc' : z.cells = (ei'.zero.map ZV.toV).toArray := by rw [← Array.toList_inj]; simpa using hzc
          obtain ⟨us, hu1, hu2, hu3, hu4⟩ := fill_sound hsem st (slPlaces ei'.size 0 len) (fun i => some (i * ei'.size, ei'.size)) (fun i x h => by rw [slPlaces_get _ _ _ _ _ h]; simp) parts.toList _ _ _ hcs (flatRep_rel (zeros_rel g ei'.zero) len) (fun p hp kx hkx => hrd kx (by
            rw [hop]
            refine List.mem_flatMap.2 ⟨p.2, ?_, hkx⟩
            simp only [Op.operands, List.mem_map]
            exact ⟨p, hp, rfl⟩)) (by rw [flatRep_mids (zeros_mids _)]; simp)
          have hzl : (ei'.zero.map ZV.toV).length = ei'.size := by simpa using (ttB_ok htt hei).zlen
          have hul : us.length = len * ei'.size := by rw [hu3, flatten_replicate_length, hzl]
          refine ⟨us, ?_, hu2, hul, hu4⟩
          have hexec : execOp a.eval o = (do pure (.value (← Instr.buildSlice t len (parts.map fun (i, x) => (i, a.eval x))))) := by rw [execOp, hop]
          have hpm : (parts.map fun (i, x) => (i, a.eval x)).toList = parts.toList.map fun p => (p.1, a.eval p.2) := by simp
          have hzv : (zeroValue E').run P W = .ok z W := by simp [zeroValue, typeInfo, hinf, hz]
          have hcells : ((Array.range (len * ei'.size)).map (fun i => (ei'.zero.map ZV.toV).toArray[i % (ei'.zero.map ZV.toV).toArray.size]!)) = ((List.replicate len (ei'.zero.map ZV.toV)).flatten).toArray := by
            have := makeCells_eq (ei'.zero.map ZV.toV) len (by intro e; rw [e] at hzl; simp at hzl; omega)
            rw [hzl] at this
            exact this
          have hb : (Instr.buildSlice t len (parts.map fun (i, x) => (i, a.eval x))).run P W = .ok (.slice (some ⟨W.heap.size, 0, none⟩) len len) { W with heap := W.heap.push (.cells us.toArray E' (0, 0)) } := by
            unfold Instr.buildSlice
            rw [Sem.run_bind, run_underlying hu]
            simp only [Result.andThen]
            rw [Sem.run_bind, run_sizeOf hinf]
            simp only [Result.andThen, hisz]
            rw [if_neg (by omega)]
            by_cases hl0 : len * ei'.size = 0
            · have hlen0 : len = 0 := by
                rcases Nat.mul_eq_zero.1 hl0 with h | h
                · exact h
                · omega
              subst hlen0
              have hus : us = [] := List.eq_nil_of_length_eq_zero (by rw [hul]; simp)
              subst hus
              have hu1' := hu1
              simp only [List.replicate_zero, List.flatten_nil] at hu1'
              have hr0 : ∀ f : Nat → Value, (Array.range 0).map f = #[] := fun f => by simp
              simp only [Nat.zero_mul, if_true, pure_bind, hr0, hpm, hu1']
              rfl
            · rw [if_neg hl0]
              simp only [pure_bind, Sem.run_bind, hzv, Result.andThen, hzc', hcells, hpm, hu1]
              rfl
          rw [hexec, Sem.run_bind, hb]
          rfl
        · simp at hv
      · simp at hv
    · simp at hv
  · simp at hv

/-- A slice literal. -/
theorem bslL_sound (htt : ttB P tt = true) {ops : Array Oper} {i : Nat} {o : Oper} {d : Nat} (ho : ops[i]? = some o) (hg : o.guard = none) (hd : o.dst = some d) {n : Nat} (hdn : d < n) {t len : Nat} {parts : Array (Nat × Operand)} (hop : o.op = .buildSlice t len parts)
    {st : St} {E : Nat} {ei : TI} {cs : List C} (hpos : 0 < ei.size) (hsmall : len * ei.size ≤ 16777216) (hv : bslC tt st t len parts.toList = some (E, ei, cs)) (new : Nat) :
    StepS P n ops i (rdV st o.op) [(.s d, some (.v (.c (.L new 0 len (some len))))), (.m new, some (.b (.box E 0 cs)))] new := by
  refine newrow_sound ho hg hd hdn _ _ _ _ _ new ?_
  intro F known σ g W a hsem hrd
  obtain ⟨us, hrun, hr, hl, hm⟩ := run_bslL htt hsem hop hpos hsmall hv hrd
  exact ⟨hm, us, [], len, W, hr, by simpa using hrun, rfl, rfl, rfl, fun c hc => Option.some.inj hc, by simp, Nat.le_refl _⟩

end
end Go.El

/- The engine, part 22: append to slices of boxes. Own work; no condition. -/
namespace Go.El
open Go Go.RowKit

/-- The cells of what is appended or copied: how many elements, the cells, the ids that are read. -/
def srcC (st : St) (sz : Nat) : AV → Option (Nat × List C × List Nat)
  | .c (.L id off len _) => (match lookA id st.mem with
    | some (.box _ _ cs) => if off + len * sz ≤ cs.length then some (len, (cs.drop off).take (len * sz), [id]) else none
    | some (.fz _ cs) => if off + len * sz ≤ cs.length then some (len, (cs.drop off).take (len * sz), [id]) else none
    | _ => none)
  | .c (.S T ys) => if T.n = sz then some (ys.length, ys.flatMap (av T), []) else none
  | .c (.V (.slice none 0 0)) => some (0, [], [])
  | _ => none

section
variable {P : Program} {tt : TT}

theorem oneB_cell {u : Value} (h : oneB u = true) : u.oneCell' = true := by
  revert h; cases u <;> simp [oneB, Value.oneCell']

theorem flat_av_ok {T : ET} : ∀ (ys : List T.den), ∀ c ∈ ys.flatMap (av T), okC c = true
  | [], c, h => by simp at h
  | y :: ys, c, h => by
    simp only [List.flatMap_cons, List.mem_append] at h
    rcases h with h | h
    · exact av_okC T y c h
    · exact flat_av_ok ys c h
theorem flat_av_mids {T : ET} : ∀ (ys : List T.den), midsL (ys.flatMap (av T)) = []
  | [] => rfl
  | y :: ys => by
    refine List.eq_nil_iff_forall_not_mem.2 fun id hid => ?_
    rw [List.flatMap_cons] at hid
    rcases midsL_append _ _ id hid with h | h
    · rw [av_mids] at h; cases h
    · rw [flat_av_mids ys] at h; cases h

theorem chunks_relL {g : Gh} (T : ET) : ∀ (xs : List T.den) (vs : List Value), vs.length = xs.length * T.n → (∀ i (h : i < xs.length), RelD g.H T xs[i] ((vs.drop (i * T.n)).take T.n)) → RelL g (xs.flatMap (av T)) vs
  | [], vs, hl, _ => by
    have : vs = [] := List.eq_nil_of_length_eq_zero (by simpa using hl)
    subst this; rfl
  | x :: xs, vs, hl, h => by
    rw [List.flatMap_cons]
    have h0 := h 0 (by simp)
    simp only [Nat.zero_mul, List.drop_zero, List.getElem_cons_zero] at h0
    have hlen : (vs.take T.n).length = T.n := RelD.length T _ _ h0
    have := RelL.append (relD_av (g := g) T x _ h0) (chunks_relL T xs (vs.drop T.n) (by simp at hl ⊢; rw [hl, Nat.add_mul]; omega) (fun i hi => by
      have := h (i + 1) (by simpa using hi)
      simp only [List.getElem_cons_succ] at this
      rw [List.drop_drop]
      rw [show T.n + i * T.n = (i + 1) * T.n by rw [Nat.add_mul]; omega]
      exact this))
    rwa [List.take_append_drop] at this

/-- What is read of the source. -/
theorem srcC_sound {F : Fix} {known : Nat → Prop} {σ : Kn} {g : Gh} {W : World} {a : Act} (hsem : Hold F known σ g W a) {st : St} {y : AV} {sz m : Nat} {cs : List C} {ids : List Nat} (h : srcC st sz y = some (m, cs, ids)) {v : Value} (hv : RelV g y v)
    (hrd : ∀ id ∈ ids, ∀ b, lookA id st.mem = some b → σ (.m id) = some (.b b)) {t e : TypeId} (hu : P.underlying t = some (.slice e)) (hok : cs.all okC = true) :
    ∃ us : List Value, Src P sz t v m us W ∧ RelL g cs us ∧ (∀ id ∈ midsL cs, known id) ∧ ∀ u ∈ us, oneB u = true := by
  have hone : ∀ us, RelL g cs us → ∀ u ∈ us, oneB u = true := fun us hr => hr.one (fun c hc => List.all_eq_true.1 hok c hc)
  unfold srcC at h
  split at h
  · rename_i id off len cap
    split at h
    · rename_i E bz cs0 hl
      split at h
      · rename_i hfit
        simp only [Option.some.injEq, Prod.mk.injEq] at h
        obtain ⟨rfl, rfl, rfl⟩ := h
        have hσ := hrd id (by simp) _ hl
        obtain ⟨b, vs, rest, hγ, hh, hr, hN, hz, hcp⟩ := hsem.blks id _ hσ
        have hv' : ∃ c, v = .slice (some ⟨b, off, none⟩) len c := by
          cases cap with
          | some c =>
            obtain ⟨b', h1, h2⟩ := hv
            rw [hγ] at h1
            cases h1
            exact ⟨c, h2⟩
          | none =>
            obtain ⟨h0, b', c, h1, h2, _⟩ := hv
            rw [h1] at hγ
            simp only [blk, Option.some.injEq] at hγ
            subst hγ h0
            exact ⟨c, h2⟩
        obtain ⟨c, rfl⟩ := hv'
        have hrl : RelL g ((cs0.drop off).take (len * sz)) ((vs.drop off).take (len * sz)) := (hr.drop off).take _
        have hvl := hr.length
        have hul : ((vs.drop off).take (len * sz)).length = len * sz := by simp; omega
        refine ⟨_, Src.ofSlice W hu ⟨b, off, none⟩ len c _ hul ?_ (fun u hu' => oneB_cell (hone _ hrl u hu')), hrl, ?_, hone _ hrl⟩
        · intro j u hj
          obtain ⟨hj1, hj2⟩ := List.getElem?_eq_some_iff.1 hj
          simp only [List.getElem_take, List.getElem_drop] at hj2
          have hj3 : off + j < vs.length := by rw [hul] at hj1; omega
          simp only [add_none]
          rw [cell_of_block hh (off + j) (by simp; omega), List.getElem_append_left hj3, hj2]
        · intro id' hid'
          exact hsem.mids _ _ hσ id' (midsL_drop _ _ _ (midsL_take _ _ _ hid'))
      · simp at h
    · rename_i E cs0 hl
      split at h
      · rename_i hfit
        simp only [Option.some.injEq, Prod.mk.injEq] at h
        obtain ⟨rfl, rfl, rfl⟩ := h
        have hσ := hrd id (by simp) _ hl
        obtain ⟨b, vs, rest, hγ, hh, hr, hN, hz⟩ := hsem.blks id _ hσ
        have hv' : ∃ c, v = .slice (some ⟨b, off, none⟩) len c := by
          cases cap with
          | some c =>
            obtain ⟨b', h1, h2⟩ := hv
            rw [hγ] at h1
            cases h1
            exact ⟨c, h2⟩
          | none =>
            obtain ⟨h0, b', c, h1, h2, _⟩ := hv
            rw [h1] at hγ
            simp only [blk, Option.some.injEq] at hγ
            subst hγ h0
            exact ⟨c, h2⟩
        obtain ⟨c, rfl⟩ := hv'
        have hrl : RelL g ((cs0.drop off).take (len * sz)) ((vs.drop off).take (len * sz)) := (hr.drop off).take _
        have hvl := hr.length
        have hul : ((vs.drop off).take (len * sz)).length = len * sz := by simp; omega
        refine ⟨_, Src.ofSlice W hu ⟨b, off, none⟩ len c _ hul ?_ (fun u hu' => oneB_cell (hone _ hrl u hu')), hrl, ?_, hone _ hrl⟩
        · intro j u hj
          obtain ⟨hj1, hj2⟩ := List.getElem?_eq_some_iff.1 hj
          simp only [List.getElem_take, List.getElem_drop] at hj2
          have hj3 : off + j < vs.length := by rw [hul] at hj1; omega
          simp only [add_none]
          rw [cell_of_block hh (off + j) (by simp; omega), List.getElem_append_left hj3, hj2]
        · intro id' hid'
          exact hsem.mids _ _ hσ id' (midsL_drop _ _ _ (midsL_take _ _ _ hid'))
      · simp at h
    · simp at h
  · rename_i T ys
    split at h
    · rename_i hT
      simp only [Option.some.injEq, Prod.mk.injEq] at h
      obtain ⟨rfl, rfl, rfl⟩ := h
      subst hT
      obtain ⟨us, h1, h2, h3, h4⟩ := first_S (P := P) hv
      have hlen : ∀ w' : World, (Builtin.lenOf v).run P w' = .ok ys.length w' := by
        obtain ⟨a, cap, rfl, _⟩ := hv
        intro w'; rfl
      exact ⟨us, ⟨.inl ⟨_, hu⟩, hlen, h1 W hsem.sub, h1 W.drew hsem.sub, h2, fun u hu => oneB_cell (h4 u hu)⟩, chunks_relL T ys us h2 h3, by rw [flat_av_mids]; simp, h4⟩
    · simp at h
  · simp only [Option.some.injEq, Prod.mk.injEq] at h
    obtain ⟨rfl, rfl, rfl⟩ := h
    have hv' : v = .slice none 0 0 := hv
    subst hv'
    exact ⟨[], Src.ofNil W hu 0, rfl, by simp [midsL], by simp⟩
  · simp at h

/-- The run of an append where there is room. -/
theorem run_app_place {W : World} {t1 t2 ty E : TypeId} {inf : TypeInfo} (hu1 : P.underlying t1 = some (.slice E)) (hi : P.info? E = some inf) {b off sLen sCap : Nat} {y : Value} {m : Nat}
    {us vs : List Value} {Eb : TypeId} (hs : Src P inf.size t2 y m us W) (hh : W.heap[b]? = some (.cells vs.toArray Eb (0, 0))) (hone : ∀ u ∈ us, oneB u = true) (hle : sLen + m ≤ sCap) (hfit : off + sLen * inf.size + us.length ≤ vs.length) :
    (Builtin.append_ #[t1, t2] ty #[.slice (some ⟨b, off, none⟩) sLen sCap, y]).run P W = .ok (.slice (some ⟨b, off, none⟩) (sLen + m) sCap) (setBlk W b (over vs us (off + sLen * inf.size)) Eb) := by
  have hst := run_storeCells (P := P) b us W vs (off + sLen * inf.size) 0 hh (by omega) hone
  simp only [Nat.add_zero] at hst
  rcases hs.kind with ⟨e', hk⟩ | hk <;>
    simp [Builtin.append_, run_underlying hu1, run_underlying hk, sizeOf, typeInfo, hi, hs.len, hle, hs.cells, add_none, hst]

end
end Go.El

/- The engine, part 23: append to slices of boxes, as steps. Own work; no condition. -/
namespace Go.El
open Go Go.RowKit

section
variable {P : Program} {tt : TT}

/-- What is known of the types of an append. -/
structure AppT (P : Program) (t1 t2 E : TypeId) (sz : Nat) (bytes : Nat) : Prop where
  u1 : P.underlying t1 = some (.slice E)
  u2 : ∃ e, P.underlying t2 = some (.slice e)
  info : ∃ inf z, P.info? E = some inf ∧ inf.size = sz ∧ inf.bytes = bytes ∧ inf.zero = some z ∧ z.cells.size = sz
  pos : 0 < sz

/-- The base of an append that has no room, or is nil. -/
def baseC (st : St) (sz : Nat) : AV → Option (Nat × Nat × List C × List Nat)
  | .c (.L id off len (some c)) => (match lookA id st.mem with
    | some (.box _ _ cs) => if off + len * sz ≤ cs.length then some (len, c, (cs.drop off).take (len * sz), [id]) else none
    | _ => none)
  | .c (.V (.slice none 0 0)) => some (0, 0, [], [])
  | _ => none

theorem mrd_mem {st : St} {ids : List Nat} {σ : Kn} (h : ∀ kx ∈ mrd st ids, σ kx.1 = some kx.2) : ∀ id ∈ ids, ∀ b, lookA id st.mem = some b → σ (.m id) = some (.b b) := by
  intro id hid b hb
  exact h (.m id, .b b) (List.mem_flatMap.2 ⟨id, hid, by simp [hb]⟩)

theorem run_app {a : Act} {o : Oper} {x y : Operand} {t1 t2 : TypeId} (hop : o.op = .call ⟨.builtin .append, #[x, y], #[t1, t2]⟩) {W W' : World} {v : Value} (h : (Builtin.append_ #[t1, t2] o.type #[a.eval x, a.eval y]).run P W = .ok v W') : (execOp a.eval o).run P W = .ok (.value v) W' := by
  refine run_callB hop (fun cs => ?_)
  have e : (#[x, y] : Array Operand).map a.eval = #[a.eval x, a.eval y] := by simp
  rw [e]
  simp only [Go.builtin, Sem.run_bind, h, Result.andThen]
  rfl

/-- A new row. -/
theorem appG_sound {ops : Array Oper} {i : Nat} {o : Oper} {d : Nat} (ho : ops[i]? = some o) (hg : o.guard = none) (hd : o.dst = some d) {n : Nat} (hdn : d < n) {x y : Operand} {t1 t2 : TypeId} (hop : o.op = .call ⟨.builtin .append, #[x, y], #[t1, t2]⟩)
    {st : St} {E : TypeId} {sz bytes : Nat} (hT : AppT P t1 t2 E sz bytes) {vx vy : AV} (hx : st.ev x = some vx) (hy : st.ev y = some vy) {len c m : Nat} {cb cs : List C} {ib is : List Nat} (hb : baseC st sz vx = some (len, c, cb, ib)) (hs : srcC st sz vy = some (m, cs, is)) (hok : cs.all okC = true)
    (hgt : c < len + m) (hbytes : ((len + m) + (len + m) / 4 + 192) * bytes ≤ 281474976710656) (hlim : len + m ≤ 140737488355328) (new : Nat) :
    StepS P n ops i (opd st x ++ opd st y ++ mrd st (ib ++ is)) [(.s d, some (.v (.c (.L new 0 (len + m) none)))), (.m new, some (.b (.box E sz (cb ++ cs))))] new := by
  refine newrow_sound ho hg hd hdn _ _ _ _ _ new ?_
  intro F known σ g W a hsem hrd
  have hrx := ev_rel hsem st x _ hx (fun kx hkx => hrd kx (by simp [hkx]))
  have hry := ev_rel hsem st y _ hy (fun kx hkx => hrd kx (by simp [hkx]))
  have hmm := mrd_mem (st := st) (ids := ib ++ is) (σ := σ) (fun kx hkx => hrd kx (by simp [hkx]))
  obtain ⟨e2, hu2⟩ := hT.u2
  obtain ⟨inf, z, hinf, hisz, hiby, hzz, hzs⟩ := hT.info
  obtain ⟨us, hsrc, hru, hmu, huo⟩ := srcC_sound (P := P) hsem hs hry (fun id hid b hb => hmm id (List.mem_append_right _ hid) b hb) hu2 hok
  have hbase : ∃ (base : Option Addr) (olds : List Value), a.eval x = .slice base len c ∧ RelL g cb olds ∧ olds.length = len * sz ∧ (∀ id ∈ midsL cb, known id) ∧ (Builtin.firstCells inf.size len (.slice base len c)).run P W.drew = .ok olds.toArray W.drew := by
    unfold baseC at hb
    split at hb
    · rename_i id off len' c'
      split at hb
      · rename_i E' bz cs0 hl
        split at hb
        · rename_i hfit
          simp only [Option.some.injEq, Prod.mk.injEq] at hb
          obtain ⟨rfl, rfl, rfl, rfl⟩ := hb
          have hσ := hmm id (by simp) _ hl
          obtain ⟨b, vs, rest, hγ, hh, hr, hN, hz, hcp⟩ := hsem.blks id _ hσ
          obtain ⟨b', h1, h2⟩ := hrx
          rw [hγ] at h1
          cases h1
          have hvl := hr.length
          have hul : ((vs.drop off).take (len' * sz)).length = len' * sz := by simp; omega
          refine ⟨_, (vs.drop off).take (len' * sz), h2, (hr.drop off).take _, hul, ?_, ?_⟩
          · intro id' hid'
            exact hsem.mids _ _ hσ id' (midsL_drop _ _ _ (midsL_take _ _ _ hid'))
          · rw [hisz]
            refine run_firstCells_some W.drew sz len' ⟨b, off, none⟩ len' c' _ hul ?_
            intro j u hj
            obtain ⟨hj1, hj2⟩ := List.getElem?_eq_some_iff.1 hj
            simp only [List.getElem_take, List.getElem_drop] at hj2
            have hj3 : off + j < vs.length := by rw [hul] at hj1; omega
            simp only [add_none]
            have hh' : W.drew.heap[b]? = some (.cells (vs ++ rest).toArray E' (0, 0)) := hh
            rw [cell_of_block hh' (off + j) (by simp; omega), List.getElem_append_left hj3, hj2]
        · simp at hb
      · simp at hb
    · simp only [Option.some.injEq, Prod.mk.injEq] at hb
      obtain ⟨rfl, rfl, rfl, rfl⟩ := hb
      have hv' : a.eval x = .slice none 0 0 := hrx
      exact ⟨none, [], hv', rfl, by simp, by simp [midsL], run_firstCells_none W.drew _ 0 0 0⟩
    · simp at hb
  obtain ⟨base, olds, hvx, hro, hol, hmo, hfo⟩ := hbase
  have hr := run_append_grow_src (P := P) W t1 t2 o.type E inf z hT.u1 hinf hzz base len c olds hfo (a.eval y) m us (by rw [hisz]; exact hsrc) hgt (by omega) (growslice_fits_wide hgt (by rw [hiby]; exact hbytes))
  have hcap := grownCap_ge W (len + m) c E
  refine ⟨?_, olds ++ us, (Builtin.zeroCells z.cells (grownCap W (len + m) c E - (len + m))).toList, grownCap W (len + m) c E, W.drew, hro.append hru, ?_, rfl, rfl, rfl, by simp, fun _ => ?_, hcap⟩
  · intro id hid
    rcases midsL_append _ _ id hid with h | h
    · exact hmo id h
    · exact hmu id h
  · refine run_app hop ?_
    rw [hvx, hr]
    have hcells : (olds ++ us).toArray ++ Builtin.zeroCells z.cells (grownCap W (len + m) c E - (len + m)) = (olds ++ us ++ (Builtin.zeroCells z.cells (grownCap W (len + m) c E - (len + m))).toList).toArray := by
      apply Array.ext'; simp
    rw [hcells]
    rfl
  · have hul := hsrc.newsLen
    simp only [List.length_append, hol, hul, Array.length_toList, size_zeroCells, hzs, ← Nat.add_mul]
    congr 1
    omega

/-- Nothing is appended. -/
theorem app0_sound {ops : Array Oper} {i : Nat} {o : Oper} {d : Nat} (ho : ops[i]? = some o) (hg : o.guard = none) (hd : o.dst = some d) {n : Nat} (hdn : d < n) {x y : Operand} {t1 t2 : TypeId} (hop : o.op = .call ⟨.builtin .append, #[x, y], #[t1, t2]⟩)
    {st : St} {E : TypeId} {sz bytes : Nat} (hT : AppT P t1 t2 E sz bytes) {vy : AV} (hx : st.ev x = some (.c (.V (.slice none 0 0)))) (hy : st.ev y = some vy) {cs : List C} {is : List Nat} (hs : srcC st sz vy = some (0, cs, is)) (hok : cs.all okC = true) (new : Nat) :
    StepS P n ops i (opd st x ++ opd st y ++ mrd st is) [(.s d, some (.v (.c (.V (.slice none 0 0)))))] new := by
  refine stepS_val ho hg hd hdn _ _ new ?_
  intro F known σ g W a hsem hrd
  have hrx : a.eval x = .slice none 0 0 := ev_rel hsem st x _ hx (fun kx hkx => hrd kx (by simp [hkx]))
  have hry := ev_rel hsem st y _ hy (fun kx hkx => hrd kx (by simp [hkx]))
  have hmm := mrd_mem (st := st) (ids := is) (σ := σ) (fun kx hkx => hrd kx (by simp [hkx]))
  obtain ⟨e2, hu2⟩ := hT.u2
  obtain ⟨inf, z, hinf, hisz, hiby, hzz, hzs⟩ := hT.info
  obtain ⟨us, hsrc, hru, hmu, huo⟩ := srcC_sound (P := P) hsem hs hry hmm hu2 hok
  refine ⟨by simp [AV.mids, C.mids], .slice none 0 0, run_app hop ?_, rfl⟩
  rw [hrx]
  have hc := hsrc.cells
  rw [← hisz] at hc
  simp [Builtin.append_, run_underlying hT.u1, run_underlying hu2, sizeOf, typeInfo, hinf, hsrc.len]
  rw [hc]
  rfl

end
end Go.El

/- The engine, part 24: append in place, and where it is not known whether there is room. Own work; no condition. -/
namespace Go.El
open Go Go.RowKit

section
variable {P : Program} {tt : TT}

theorem step_put_d {a : Act} {d t : Nat} {v : Value} {wr : List (Key × Option Info)} {x : Option Info} (ht : says ((.s d, x) :: wr) (.s t) = none) : (a.put (some d) v).tmps.getD t undef = a.tmps.getD t undef := by
  have hne : d ≠ t := by intro e; subst e; simp [says] at ht
  simp [Act.put, Array.getElem?_setIfInBounds_ne hne]

/-- There is room. -/
theorem appP_sound {ops : Array Oper} {i : Nat} {o : Oper} {d : Nat} (ho : ops[i]? = some o) (hg : o.guard = none) (hd : o.dst = some d) {n : Nat} (hdn : d < n) {x y : Operand} {t1 t2 : TypeId} (hop : o.op = .call ⟨.builtin .append, #[x, y], #[t1, t2]⟩)
    {st : St} {E : TypeId} {sz bytes : Nat} (hT : AppT P t1 t2 E sz bytes) {id off len c : Nat} {vy : AV} (hx : st.ev x = some (.c (.L id off len (some c)))) (hy : st.ev y = some vy) {Eb : TypeId} {bz : Nat} {cs0 : List C} (hl : lookA id st.mem = some (.box Eb bz cs0)) {m : Nat} {cs : List C} {is : List Nat} (hs : srcC st sz vy = some (m, cs, is)) (hok : cs.all okC = true)
    (hle : len + m ≤ c) (hfit : off + (len + m) * sz ≤ cs0.length) (new : Nat) :
    StepS P n ops i (opd st x ++ opd st y ++ mrd st (id :: is)) [(.s d, some (.v (.c (.L id off (len + m) (some c))))), (.m id, some (.b (.box Eb bz (over cs0 cs (off + len * sz)))))] new := by
  intro F hFn Q known σ g W a K hnew hsem hrd hK
  have hrx := ev_rel hsem st x _ hx (fun kx hkx => hrd kx (by simp [hkx]))
  have hry := ev_rel hsem st y _ hy (fun kx hkx => hrd kx (by simp [hkx]))
  have hmm := mrd_mem (st := st) (ids := id :: is) (σ := σ) (fun kx hkx => hrd kx (by simp only [List.mem_append]; exact .inr hkx))
  obtain ⟨e2, hu2⟩ := hT.u2
  obtain ⟨inf, z, hinf, hisz, hiby, hzz, hzs⟩ := hT.info
  obtain ⟨us, hsrc, hru, hmu, huo⟩ := srcC_sound (P := P) hsem hs hry (fun id hid b hb => hmm id (List.mem_cons_of_mem _ hid) b hb) hu2 hok
  have hσ := hmm id (by simp) _ hl
  obtain ⟨b, vs, rest, hγ, hh, hr, hN, hz, hcp⟩ := hsem.blks id _ hσ
  obtain ⟨b', h1, hvx⟩ := hrx
  rw [hγ] at h1
  cases h1
  have hul := hsrc.newsLen
  have hcl := hru.length
  have hvl := hr.length
  have hlm : (len + m) * sz = len * sz + m * sz := Nat.add_mul _ _ _
  have hfit' : off + len * sz + us.length ≤ vs.length := by omega
  have hrun := run_app_place (P := P) (ty := o.type) (W := W) hT.u1 hinf (b := b) (off := off) (sLen := len) (sCap := c) (by rw [hisz]; exact hsrc) hh huo hle (by rw [hisz]; simp; omega)
  rw [hisz] at hrun
  have hov : over (vs ++ rest) us (off + len * sz) = over vs us (off + len * sz) ++ rest := over_app vs rest us _ hfit'
  unfold wpOp
  simp only [ho, Region.wanted, hg, if_true]
  refine .inl ?_
  unfold Oper.wp
  rw [run_app hop (by rw [hvx]; exact hrun)]
  simp only [Oper.upon, hd]
  have hszd : d < a.tmps.size := by rw [hsem.size, hFn]; exact hdn
  have hb : b < W.heap.size := (Array.getElem?_eq_some_iff.1 hh).1
  refine hK g _ _ (hsem.step (chg := fun j => j = id) (g' := g) ⟨⟨FLe.refl _, fun _ _ => rfl⟩, fun _ _ _ => rfl, Sub_setBlk hsem.sub hz, by simp [setBlk], ?_, rfl, rfl, rfl⟩ _ new hnew (by simp [Act.put]) hsem.defers (fun t ht => step_put_d ht) ?_ ?_ ?_ ?_ ?_)
  · intro k hk hne
    have : b ≠ k := fun e => hne id rfl (by rw [hγ, e])
    exact setBlk_ne this
  · intro j hj
    subst hj
    exact ⟨by simp [says], _, hσ⟩
  · intro t u ht
    simp only [says] at ht
    split at ht
    · rename_i e
      simp only [Key.s.injEq] at e
      simp only [Option.some.injEq, Info.v.injEq] at ht
      subst e; subst ht
      refine ⟨b, hγ, ?_⟩
      simp [Act.put, hszd]
    · simp at ht
  · intro j bk hj
    simp only [says, reduceCtorEq, if_false] at hj
    split at hj
    · rename_i e'
      simp only [Key.m.injEq] at e'
      subst e'
      simp only [Option.some.injEq, Info.b.injEq] at hj
      subst hj
      refine ⟨⟨b, over vs us (off + len * sz), rest, hγ, by rw [setBlk_at hb, hov], hr.over hru _, hN, hz, fun h0 => ?_⟩, .inl ⟨hsem.mkn _ _ hσ, _, hσ⟩⟩
      obtain ⟨c', e1, e2⟩ := hcp h0
      refine ⟨c', e1, ?_⟩
      rw [← hov, over_length _ _ _ (by simp; omega)]; exact e2
    · simp at hj
  · intro k z' hz'
    simp only [says] at hz'
    split at hz'
    · simp only [Option.some.injEq] at hz'
      subst hz'
      intro j hj
      simp [Info.mids, AV.mids, C.mids] at hj
      subst hj
      exact .inl (hsem.mkn _ _ hσ)
    · split at hz'
      · simp only [Option.some.injEq] at hz'
        subst hz'
        intro j hj
        rcases midsL_over _ _ _ j hj with h | h
        · exact .inl (hsem.mids _ _ hσ j h)
        · exact .inl (hmu j h)
      · simp at hz'
  · intro j z' hz'
    simp only [says, reduceCtorEq, if_false] at hz'
    split at hz'
    · rename_i e'
      simp only [Key.m.injEq] at e'
      subst e'
      exact .inl (hsem.mkn _ _ hσ)
    · simp at hz'

/-- It is not known whether there is room: the old id is gone. -/
theorem appU_sound {ops : Array Oper} {i : Nat} {o : Oper} {d : Nat} (ho : ops[i]? = some o) (hg : o.guard = none) (hd : o.dst = some d) {n : Nat} (hdn : d < n) {x y : Operand} {t1 t2 : TypeId} (hop : o.op = .call ⟨.builtin .append, #[x, y], #[t1, t2]⟩)
    {st : St} {E : TypeId} {sz bytes : Nat} (hT : AppT P t1 t2 E sz bytes) {id off len : Nat} {vy : AV} (hx : st.ev x = some (.c (.L id off len none))) (hy : st.ev y = some vy) {cs0 : List C} (hl : lookA id st.mem = some (.box E sz cs0)) {m : Nat} {cs : List C} {is : List Nat} (hs : srcC st sz vy = some (m, cs, is)) (hok : cs.all okC = true)
    (hfit : len * sz ≤ cs0.length) (hbytes : ((len + m) + (len + m) / 4 + 192) * bytes ≤ 281474976710656) (hlim : len + m ≤ 140737488355328) (new : Nat) :
    StepS P n ops i (opd st x ++ opd st y ++ mrd st (id :: is)) [(.s d, some (.v (.c (.L new 0 (len + m) none)))), (.m new, some (.b (.box E sz (cs0.take (len * sz) ++ cs)))), (.m id, none)] new := by
  intro F hFn Q known σ g W a K hnew hsem hrd hK
  have hrx := ev_rel hsem st x _ hx (fun kx hkx => hrd kx (by simp [hkx]))
  have hry := ev_rel hsem st y _ hy (fun kx hkx => hrd kx (by simp [hkx]))
  have hmm := mrd_mem (st := st) (ids := id :: is) (σ := σ) (fun kx hkx => hrd kx (by simp only [List.mem_append]; exact .inr hkx))
  obtain ⟨e2, hu2⟩ := hT.u2
  obtain ⟨inf, z, hinf, hisz, hiby, hzz, hzs⟩ := hT.info
  obtain ⟨us, hsrc, hru, hmu, huo⟩ := srcC_sound (P := P) hsem hs hry (fun id hid b hb => hmm id (List.mem_cons_of_mem _ hid) b hb) hu2 hok
  have hσ := hmm id (by simp) _ hl
  have hpos := hT.pos
  obtain ⟨b, vs, rest, hγ, hh, hr, hN, hz, hcp⟩ := hsem.blks id _ hσ
  obtain ⟨c, hγc, htot⟩ := hcp (by omega)
  obtain ⟨h0, b', c', h1, hvx, hlc⟩ := hrx
  rw [hγc] at h1
  simp only [Value.slice.injEq, Option.some.injEq, Addr.mk.injEq, and_true, true_and] at h1
  obtain ⟨rfl, rfl⟩ := h1
  have hul := hsrc.newsLen
  have hcl := hru.length
  have hvl := hr.length
  have hidn : id ≠ new := fun e => hnew (e ▸ hsem.mkn _ _ hσ)
  have hHnone : ∀ o, g.H W.heap.size o = none := by
    intro o
    cases hv : g.H W.heap.size o with
    | none => rfl
    | some v =>
      have := World.block_lt_of_cell? W _ (hsem.sub _ _ _ hv)
      simp at this
  have hbW : b < W.heap.size := (Array.getElem?_eq_some_iff.1 hh).1
  have hpre : (vs.take (len * sz)).length = len * sz := by simp; omega
  have hrp : RelL g (cs0.take (len * sz) ++ cs) (vs.take (len * sz) ++ us) := (hr.take _).append hru
  have hmids : ∀ j ∈ midsL (cs0.take (len * sz) ++ cs), known j := by
    intro j hj
    rcases midsL_append _ _ j hj with h | h
    · exact hsem.mids _ _ hσ j (midsL_take _ _ _ h)
    · exact hmu j h
  -- what comes of it
  have hres : ∃ (v' : Value) (W' : World) (b' c' : Nat) (rest' : List Value), (Builtin.append_ #[t1, t2] o.type #[a.eval x, a.eval y]).run P W = .ok v' W' ∧ v' = .slice (some ⟨b', 0, none⟩) (len + m) c' ∧ len + m ≤ c' ∧
      W'.heap[b']? = some (.cells (vs.take (len * sz) ++ us ++ rest').toArray E (0, 0)) ∧ (vs.take (len * sz) ++ us ++ rest').length = c' * sz ∧ W.heap.size ≤ W'.heap.size ∧ (∀ k, k < W.heap.size → b ≠ k → W'.heap[k]? = W.heap[k]?) ∧ W'.os = W.os ∧ W'.tape = W.tape ∧ W'.output = W.output ∧ Sub g.H W' ∧ (∀ o, g.H b' o = none) ∧ F.N b' ∧ (W.heap.size ≤ b' ∨ b' = b) := by
    by_cases hroom : len + m ≤ c
    · have hlm : (len + m) * sz ≤ c * sz := Nat.mul_le_mul_right _ hroom
      rw [Nat.add_mul] at hlm
      have htl : (vs ++ rest).length = vs.length + rest.length := List.length_append
      have hrun := run_app_place (P := P) (ty := o.type) (W := W) hT.u1 hinf (b := b) (off := 0) (sLen := len) (sCap := c) (by rw [hisz]; exact hsrc) hh huo hroom (by rw [hisz]; omega)
      rw [hisz, Nat.zero_add] at hrun
      have hov : over (vs ++ rest) us (len * sz) = vs.take (len * sz) ++ us ++ (vs ++ rest).drop (len * sz + us.length) := by
        unfold over
        rw [List.take_append_of_le_length (by omega)]
      refine ⟨_, _, b, c, (vs ++ rest).drop (len * sz + us.length), by rw [hvx]; exact hrun, rfl, hroom, by rw [setBlk_at hbW, hov], ?_, by simp [setBlk], fun k _ hk => setBlk_ne hk, rfl, rfl, rfl, Sub_setBlk hsem.sub hz, hz, hN, .inr rfl⟩
      rw [← hov, over_length _ _ _ (by omega)]
      exact htot
    · have hfo : (Builtin.firstCells inf.size len (.slice (some ⟨b, 0, none⟩) len c)).run P W.drew = .ok (vs.take (len * sz)).toArray W.drew := by
        rw [hisz]
        refine run_firstCells_some W.drew sz len ⟨b, 0, none⟩ len c _ hpre ?_
        intro j u hj
        obtain ⟨hj1, hj2⟩ := List.getElem?_eq_some_iff.1 hj
        simp only [List.getElem_take] at hj2
        have hj3 : j < vs.length := by rw [hpre] at hj1; omega
        simp only [add_none, Nat.zero_add]
        have hh' : W.drew.heap[b]? = some (.cells (vs ++ rest).toArray E (0, 0)) := hh
        rw [cell_of_block hh' j (by simp; omega), List.getElem_append_left hj3, hj2]
      have hgt : c < len + m := by omega
      have hr' := run_append_grow_src (P := P) W t1 t2 o.type E inf z hT.u1 hinf hzz (some ⟨b, 0, none⟩) len c _ hfo (a.eval y) m us (by rw [hisz]; exact hsrc) hgt (by omega) (growslice_fits_wide hgt (by rw [hiby]; exact hbytes))
      have hcap := grownCap_ge W (len + m) c E
      refine ⟨_, _, W.heap.size, grownCap W (len + m) c E, (Builtin.zeroCells z.cells (grownCap W (len + m) c E - (len + m))).toList, by rw [hvx]; exact hr', rfl, hcap, ?_, ?_, by simp, fun k hk _ => heap_alloc_old W.drew _ hk, rfl, rfl, rfl, Sub_push hsem.sub _, hHnone, .inl hsem.below.size, .inl (Nat.le_refl _)⟩
      · rw [show W.heap.size = W.drew.heap.size from rfl, heap_alloc_new]
        congr 2
        apply Array.ext'; simp
      · simp only [List.length_append, hpre, hul, Array.length_toList, size_zeroCells, hzs, ← Nat.add_mul]
        congr 1
        omega
  obtain ⟨v', W', bn, cn, rest', hrun, hv', hcn, hhn, htn, hsz', hheap', ho1, ho2, ho3, hsub', hHn, hNn, hwhere⟩ := hres
  unfold wpOp
  simp only [ho, Region.wanted, hg, if_true]
  refine .inl ?_
  unfold Oper.wp
  rw [run_app hop hrun]
  simp only [Oper.upon, hd]
  have hszd : d < a.tmps.size := by rw [hsem.size, hFn]; exact hdn
  let g' : Gh := ⟨g.H, fun id => if id = new then .slice (some ⟨bn, 0, none⟩) 0 cn else g.γ id⟩
  have hgn : g'.γ new = .slice (some ⟨bn, 0, none⟩) 0 cn := by simp [g']
  have hGle : GLe known g g' := ⟨FLe.refl _, fun id hid => by
    have : id ≠ new := fun e => hnew (e ▸ hid)
    simp [g', this]⟩
  refine hK g' _ _ (hsem.step (chg := fun j => j = id) (g' := g') ⟨hGle, fun _ _ _ => rfl, hsub', hsz', ?_, ho1, ho2, ho3⟩ _ new hnew (by simp [Act.put]) hsem.defers (fun t ht => step_put_d ht) ?_ ?_ ?_ ?_ ?_)
  · intro k hk hne
    exact hheap' k hk (fun e => hne id rfl (by rw [hγ, e]))
  · intro j hj
    subst hj
    exact ⟨by simp [says, Ne.symm hidn], _, hσ⟩
  · intro t u ht
    simp only [says] at ht
    split at ht
    · rename_i e
      simp only [Key.s.injEq] at e
      simp only [Option.some.injEq, Info.v.injEq] at ht
      subst e; subst ht
      refine ⟨rfl, bn, cn, hgn, ?_, hcn⟩
      simp [Act.put, hszd, hv']
    · simp at ht
  · intro j bk hj
    simp only [says, reduceCtorEq, if_false] at hj
    split at hj
    · rename_i e'
      simp only [Key.m.injEq] at e'
      subst e'
      simp only [Option.some.injEq, Info.b.injEq] at hj
      subst hj
      refine ⟨⟨bn, _, rest', by rw [hgn]; rfl, hhn, RelL.mono hGle hmids hrp, hNn, hHn, fun _ => ⟨cn, hgn, htn⟩⟩, .inr ⟨rfl, fun k hk => ?_⟩⟩
      rw [hgn] at hk
      simp only [blk, Option.some.injEq] at hk
      subst hk
      rcases hwhere with h | h
      · exact .inl h
      · refine .inr ⟨id, _, hσ, ?_, by rw [hγ, h]⟩
        simp [says, Ne.symm hidn]
    · split at hj <;> simp at hj
  · intro k z' hz'
    simp only [says] at hz'
    split at hz'
    · simp only [Option.some.injEq] at hz'
      subst hz'
      intro j hj
      simp [Info.mids, AV.mids, C.mids] at hj
      exact .inr hj
    · split at hz'
      · simp only [Option.some.injEq] at hz'
        subst hz'
        exact fun j hj => .inl (hmids j hj)
      · split at hz' <;> simp at hz'
  · intro j z' hz'
    simp only [says, reduceCtorEq, if_false] at hz'
    split at hz'
    · rename_i e'
      simp only [Key.m.injEq] at e'
      exact .inr e'.symm
    · split at hz' <;> simp at hz'

end
end Go.El

/- The engine, part 25: copy; function values. Own work; no condition. -/
namespace Go.El
open Go Go.RowKit

section
variable {P : Program} {tt : TT}

/-- 'copy(x, y)' into a slice of a box that has all the places. -/
theorem copyL_sound {ops : Array Oper} {i : Nat} {o : Oper} {d : Nat} (ho : ops[i]? = some o) (hg : o.guard = none) (hd : o.dst = some d) {n : Nat} (hdn : d < n) {x y : Operand} {t1 t2 : TypeId} (hop : o.op = .call ⟨.builtin .copy, #[x, y], #[t1, t2]⟩)
    {st : St} {E : TypeId} {sz bytes : Nat} (hT : AppT P t1 t2 E sz bytes) {id off len : Nat} {capo : Option Nat} {vy : AV} (hx : st.ev x = some (.c (.L id off len capo))) (hy : st.ev y = some vy) {Eb : TypeId} {bz : Nat} {cs0 : List C} (hl : lookA id st.mem = some (.box Eb bz cs0)) {m : Nat} {cs : List C} {is : List Nat} (hs : srcC st sz vy = some (m, cs, is)) (hok : cs.all okC = true)
    (hle : m ≤ len) (hfit : off + m * sz ≤ cs0.length) (new : Nat) :
    StepS P n ops i (opd st x ++ opd st y ++ mrd st (id :: is)) [(.s d, some (.v (.c (.I .i64 m)))), (.m id, some (.b (.box Eb bz (over cs0 cs off))))] new := by
  intro F hFn Q known σ g W a K hnew hsem hrd hK
  have hrx := ev_rel hsem st x _ hx (fun kx hkx => hrd kx (by simp [hkx]))
  have hry := ev_rel hsem st y _ hy (fun kx hkx => hrd kx (by simp [hkx]))
  have hmm := mrd_mem (st := st) (ids := id :: is) (σ := σ) (fun kx hkx => hrd kx (by simp only [List.mem_append]; exact .inr hkx))
  obtain ⟨e2, hu2⟩ := hT.u2
  obtain ⟨inf, z, hinf, hisz, hiby, hzz, hzs⟩ := hT.info
  obtain ⟨us, hsrc, hru, hmu, huo⟩ := srcC_sound (P := P) hsem hs hry (fun id hid b hb => hmm id (List.mem_cons_of_mem _ hid) b hb) hu2 hok
  have hσ := hmm id (by simp) _ hl
  obtain ⟨b, vs, rest, hγ, hh, hr, hN, hz, hcp⟩ := hsem.blks id _ hσ
  have hvx : ∃ c, a.eval x = .slice (some ⟨b, off, none⟩) len c := by
    cases capo with
    | some c =>
      obtain ⟨b', h1, h2⟩ := hrx
      rw [hγ] at h1
      cases h1
      exact ⟨c, h2⟩
    | none =>
      obtain ⟨h0, b', c, h1, h2, _⟩ := hrx
      rw [h1] at hγ
      simp only [blk, Option.some.injEq] at hγ
      subst hγ h0
      exact ⟨c, h2⟩
  obtain ⟨c, hvx⟩ := hvx
  have hul := hsrc.newsLen
  have hcl := hru.length
  have hvl := hr.length
  have hfit' : off + us.length ≤ vs.length := by omega
  have hst := run_storeCells (P := P) b us W (vs ++ rest) off 0 hh (by simp; omega) huo
  simp only [Nat.add_zero] at hst
  have hov : over (vs ++ rest) us off = over vs us off ++ rest := over_app vs rest us _ hfit'
  have hrun : (Builtin.copy_ #[t1, t2] o.type #[a.eval x, a.eval y]).run P W = .ok (.int .i64 m) (setBlk W b (over (vs ++ rest) us off) Eb) := by
    rw [hvx]
    have hmin : Nat.min m len = m := Nat.min_eq_left hle
    have hc := hsrc.cells
    simp [Builtin.copy_, run_underlying hT.u1, sizeOf, typeInfo, hinf, hsrc.len, hmin, hisz, hc, hst, goInt, Sem.run, pure]
  have hex : (execOp a.eval o).run P W = .ok (.value (.int .i64 m)) (setBlk W b (over (vs ++ rest) us off) Eb) := by
    refine run_callB hop (fun cs => ?_)
    have e : (#[x, y] : Array Operand).map a.eval = #[a.eval x, a.eval y] := by simp
    rw [e]
    simp only [Go.builtin, Sem.run_bind, hrun, Result.andThen]
    rfl
  unfold wpOp
  simp only [ho, Region.wanted, hg, if_true]
  refine .inl ?_
  unfold Oper.wp
  rw [hex]
  simp only [Oper.upon, hd]
  have hszd : d < a.tmps.size := by rw [hsem.size, hFn]; exact hdn
  have hb : b < W.heap.size := (Array.getElem?_eq_some_iff.1 hh).1
  refine hK g _ _ (hsem.step (chg := fun j => j = id) (g' := g) ⟨⟨FLe.refl _, fun _ _ => rfl⟩, fun _ _ _ => rfl, Sub_setBlk hsem.sub hz, by simp [setBlk], ?_, rfl, rfl, rfl⟩ _ new hnew (by simp [Act.put]) hsem.defers (fun t ht => step_put_d ht) ?_ ?_ ?_ ?_ ?_)
  · intro k hk hne
    have : b ≠ k := fun e => hne id rfl (by rw [hγ, e])
    exact setBlk_ne this
  · intro j hj
    subst hj
    exact ⟨by simp [says], _, hσ⟩
  · intro t u ht
    simp only [says] at ht
    split at ht
    · rename_i e
      simp only [Key.s.injEq] at e
      simp only [Option.some.injEq, Info.v.injEq] at ht
      subst e; subst ht
      simp [Act.put, hszd, RelV, RelC]
    · simp at ht
  · intro j bk hj
    simp only [says, reduceCtorEq, if_false] at hj
    split at hj
    · rename_i e'
      simp only [Key.m.injEq] at e'
      subst e'
      simp only [Option.some.injEq, Info.b.injEq] at hj
      subst hj
      refine ⟨⟨b, over vs us off, rest, hγ, by rw [setBlk_at hb, hov], hr.over hru _, hN, hz, fun h0 => ?_⟩, .inl ⟨hsem.mkn _ _ hσ, _, hσ⟩⟩
      obtain ⟨c', e1, e2⟩ := hcp h0
      refine ⟨c', e1, ?_⟩
      rw [← hov, over_length _ _ _ (by simp; omega)]; exact e2
    · simp at hj
  · intro k z' hz'
    simp only [says] at hz'
    split at hz'
    · simp only [Option.some.injEq] at hz'
      subst hz'
      intro j hj
      simp [Info.mids, AV.mids, C.mids] at hj
    · split at hz'
      · simp only [Option.some.injEq] at hz'
        subst hz'
        intro j hj
        rcases midsL_over _ _ _ j hj with h | h
        · exact .inl (hsem.mids _ _ hσ j h)
        · exact .inl (hmu j h)
      · simp at hz'
  · intro j z' hz'
    simp only [says, reduceCtorEq, if_false] at hz'
    split at hz'
    · rename_i e'
      simp only [Key.m.injEq] at e'
      subst e'
      exact .inl (hsem.mkn _ _ hσ)
    · simp at hz'

/-- The values of operands, as parts of a tuple. -/
def evT (st : St) : List Operand → Option (List (Bool × List C))
  | [] => some []
  | x :: xs => (match st.ev x with
    | some v => (match toS v, evT st xs with
      | some s, some r => some (s :: r)
      | _, _ => none)
    | none => none)

theorem toS_mids {v : AV} {s : Bool × List C} (h : toS v = some s) : midsL s.2 = v.mids := by
  cases v with
  | c x => simp only [toS, Option.some.injEq] at h; subst h; simp [midsL, AV.mids]
  | a cs => simp only [toS, Option.some.injEq] at h; subst h; rfl
  | t _ => simp [toS] at h

theorem evT_rel {F : Fix} {known : Nat → Prop} {σ : Kn} {g : Gh} {W : World} {a : Act} (h : Hold F known σ g W a) (st : St) : ∀ (xs : List Operand) (ss : List (Bool × List C)), evT st xs = some ss →
    (∀ kx ∈ xs.flatMap (opd st), σ kx.1 = some kx.2) → RelT g ss (xs.map a.eval) ∧ ∀ id ∈ midsT ss, known id
  | [], ss, he, _ => by simp only [evT, Option.some.injEq] at he; subst he; exact ⟨rfl, by simp [midsT]⟩
  | x :: xs, ss, he, hr => by
    simp only [evT] at he
    split at he
    · rename_i v hv
      split at he
      · rename_i s r hs hr'
        simp only [Option.some.injEq] at he
        subst he
        have h1 := ev_rel h st x v hv (fun kx hkx => hr kx (by simp [hkx]))
        have h1m := ev_mids h st x v hv (fun kx hkx => hr kx (by simp [hkx]))
        obtain ⟨h2, h2m⟩ := evT_rel h st xs r hr' (fun kx hkx => hr kx (by simp only [List.flatMap_cons, List.mem_append]; exact .inr hkx))
        refine ⟨⟨_, _, rfl, toS_rel hs h1, h2⟩, ?_⟩
        intro id hid
        simp only [midsT, List.mem_append] at hid
        rcases hid with hid | hid
        · rw [toS_mids hs] at hid; exact h1m id hid
        · exact h2m id hid
      · simp at he
    · simp at he

/-- A function value. -/
theorem clo_sound {ops : Array Oper} {i : Nat} {o : Oper} {d : Nat} (ho : ops[i]? = some o) (hg : o.guard = none) (hd : o.dst = some d) {n : Nat} (hdn : d < n) {f : FuncId} {first caps : Array Operand} (hop : o.op = .makeFunc (.func f) first caps)
    {st : St} {fs cs : List (Bool × List C)} (hf : evT st first.toList = some fs) (hc : evT st caps.toList = some cs) (new : Nat) :
    StepS P n ops i ((first.toList ++ caps.toList).flatMap (opd st)) [(.s d, some (.v (.c (.X new)))), (.m new, some (.b (.clo f fs cs)))] new := by
  intro F hFn Q known σ g W a K hnew hsem hrd hK
  obtain ⟨hf1, hf2⟩ := evT_rel hsem st _ _ hf (fun kx hkx => hrd kx (by rw [List.flatMap_append]; exact List.mem_append_left _ hkx))
  obtain ⟨hc1, hc2⟩ := evT_rel hsem st _ _ hc (fun kx hkx => hrd kx (by rw [List.flatMap_append]; exact List.mem_append_right _ hkx))
  have hex : (execOp a.eval o).run P W = .ok (.value (.func (.func f) (first.toList.map a.eval).toArray (caps.toList.map a.eval).toArray)) W := by
    rw [execOp, hop]
    have e1 : first.map a.eval = (first.toList.map a.eval).toArray := by apply Array.ext'; simp
    have e2 : caps.map a.eval = (caps.toList.map a.eval).toArray := by apply Array.ext'; simp
    simp only [Instr.makeFunc, e1, e2]
    rfl
  unfold wpOp
  simp only [ho, Region.wanted, hg, if_true]
  refine .inl ?_
  unfold Oper.wp
  rw [hex]
  simp only [Oper.upon, hd]
  have hszd : d < a.tmps.size := by rw [hsem.size, hFn]; exact hdn
  let v : Value := .func (.func f) (first.toList.map a.eval).toArray (caps.toList.map a.eval).toArray
  let g' : Gh := ⟨g.H, fun id => if id = new then v else g.γ id⟩
  have hgn : g'.γ new = v := by simp [g']
  have hGle : GLe known g g' := ⟨FLe.refl _, fun id hid => by
    have : id ≠ new := fun e => hnew (e ▸ hid)
    simp [g', this]⟩
  refine hK g' _ _ (hsem.step (chg := fun _ => False) (g' := g') ⟨hGle, fun _ _ _ => rfl, hsem.sub, Nat.le_refl _, fun _ _ _ => rfl, rfl, rfl, rfl⟩ _ new hnew (by simp [Act.put]) hsem.defers (fun t ht => step_put_d ht) (fun _ h => h.elim) ?_ ?_ ?_ ?_)
  · intro t u ht
    simp only [says] at ht
    split at ht
    · rename_i e
      simp only [Key.s.injEq] at e
      simp only [Option.some.injEq, Info.v.injEq] at ht
      subst e; subst ht
      show _ = g'.γ new
      rw [hgn]
      simp [Act.put, hszd, v]
    · simp at ht
  · intro id b ht
    simp only [says, reduceCtorEq, if_false] at ht
    split at ht
    · rename_i e
      simp only [Key.m.injEq] at e
      subst e
      simp only [Option.some.injEq, Info.b.injEq] at ht
      subst ht
      refine ⟨⟨_, _, hgn, RelT.mono hGle hf2 hf1, RelT.mono hGle hc2 hc1⟩, .inr ⟨rfl, fun k hk => ?_⟩⟩
      rw [hgn] at hk
      simp [blk, v] at hk
    · simp at ht
  · intro k y ht
    simp only [says] at ht
    split at ht
    · simp only [Option.some.injEq] at ht
      subst ht
      intro id hid
      simp [Info.mids, AV.mids, C.mids] at hid
      exact .inr hid
    · split at ht
      · simp only [Option.some.injEq] at ht
        subst ht
        intro id hid
        rcases List.mem_append.1 hid with h | h
        · exact .inl (hf2 id h)
        · exact .inl (hc2 id h)
      · simp at ht
  · intro id y ht
    simp only [says, reduceCtorEq, if_false] at ht
    split at ht
    · rename_i e
      simp only [Key.m.injEq] at e
      exact .inr e.symm
    · simp at ht

end
end Go.El
