/- The engine, maps 1: make, look up, put in. Own work; no condition. -/
import Derived.MapKept
import Derived.Carry
import Derived.Test.YtjioamjlebpppaaGreatProg
import Derived.KernelRfl
import Derived.Test.YtjioamjlebpppaaGreatG3
import Derived.Test.YtjioamjlebpppaaGreatG2
import Derived.Test.YtjioamjlebpppaaGreatG1
set_option linter.unusedVariables false
set_option linter.unusedSimpArgs false
set_option linter.unnecessarySimpa false
namespace Go.El
open Go Go.RowKit
def intsK (q : IntKind) : List C → Option (List Int)
 | [] => some []
 | .I k n :: r => if k = q then (match intsK q r with
  | some l => some (n :: l)
  | none => none) else none
 | _ :: _ => none
def keyC (ag : Bool) (q : IntKind) (cs : List C) : Option (List Int) := match intsK q cs with
 | some l => (match ag, l with
  | true, l => some l
  | false, [n] => some [n]
  | false, _ => none)
 | none => none
def lookM (ag : Bool) (q : IntKind) (k : List Int) : List (List C × List C) → Option (Option (List C))
 | [] => some none
 | x :: r => match keyC ag q x.1 with
  | some k' => if k' = k then some (some x.2) else lookM ag q k r
  | none => none
def putM (ag : Bool) (q : IntKind) (k : List Int) (kc vc : List C) : List (List C × List C) → Option (List (List C × List C))
 | [] => some [(kc, vc)]
 | x :: r => match keyC ag q x.1 with
  | some k' => if k' = k then some ((kc, vc) :: r) else (match putM ag q k kc vc r with
   | some r' => some (x :: r')
   | none => none)
  | none => none
theorem intsK_rel {g : Gh} {q : IntKind} : ∀ {cs : List C} {l : List Int} {vs : List Value}, intsK q cs = some l → RelL g cs vs → vs = l.map (Value.int q)
 | [], l, vs, h, hr => by
  simp only [intsK, Option.some.injEq] at h
  subst h
  exact hr
 | .I k n :: r, l, vs, h, hr => by
  simp only [intsK] at h
  split at h
  ·rename_i e
   split at h
   ·rename_i l' hl
    cases h
    subst e
    obtain ⟨v, vs', rfl, h1, h2⟩ := hr
    cases h1
    simp [intsK_rel hl h2]
   ·cases h
  ·cases h
 | .any :: _, _, _, h, _ => by cases h
 | .B _ :: _, _, _, h, _ => by cases h
 | .V _ :: _, _, _, h, _ => by cases h
 | .S _ _ :: _, _, _, h, _ => by cases h
 | .P _ _ :: _, _, _, h, _ => by cases h
 | .X _ :: _, _, _, h, _ => by cases h
 | .Y _ _ _ _ :: _, _, _, h, _ => by cases h
 | .E _ _ _ :: _, _, _, h, _ => by cases h
 | .M _ :: _, _, _, h, _ => by cases h
 | .L _ _ _ _ :: _, _, _, h, _ => by cases h
 | .W _ _ _ :: _, _, _, h, _ => by cases h
theorem keyC_one {g : Gh} {q : IntKind} {cs : List C} {l : List Int} {vs : List Value} (h : keyC false q cs = some l) (hr : RelL g cs vs) : ∃ n, l = [n] ∧ vs = [.int q n] := by
 unfold keyC at h
 split at h
 ·rename_i l' hl
  have := intsK_rel hl hr
  split at h
  ·contradiction
  ·rename_i n _
   cases h
   exact ⟨n, rfl, this⟩
  ·cases h
 ·cases h
theorem RelM.length {g : Gh} {ka va : Bool} : ∀ {n : Nat} {xs : List (List C × List C)} {es : List MapEntry}, RelM g ka va n xs es → es.length = xs.length
 | _, [], _, h => by simp only [RelM] at h; subst h; rfl
 | _, _ :: _, _, ⟨e, r, h1, _, _, _, h5⟩ => by subst h1; simp [h5.length]
theorem RelM.snoc {g : Gh} {ka va : Bool} {e : MapEntry} {x : List C × List C} (hk : ∃ ks, e.key = wrapV ka ks ∧ RelL g x.1 ks) (hv : ∃ vs, e.val = wrapV va vs ∧ RelL g x.2 vs) : ∀ {n : Nat} {xs : List (List C × List C)} {es : List MapEntry}, RelM g ka va n xs es → e.born = n + xs.length → RelM g ka va n (xs ++ [x]) (es ++ [e])
 | n, [], _, h, hb => by simp only [RelM] at h; subst h; exact ⟨e, [], rfl, by simpa using hb, hk, hv, rfl⟩
 | n, _ :: xs, _, ⟨e', r, h1, h2, h3, h4, h5⟩, hb => by
  subst h1
  exact ⟨e', _, rfl, h2, h3, h4, RelM.snoc hk hv h5 (by simp only [List.length_cons] at hb; omega)⟩
theorem find_int {g : Gh} {q : IntKind} {va : Bool} {m : Int} : ∀ {n : Nat} {xs : List (List C × List C)} {es : List MapEntry}, RelM g false va n xs es → ∀ {r : Option (List C)}, lookM false q [m] xs = some r → ∀ i : Nat,
  match r with
  | none => Instr.findNow (.int q) (.int q m) es i = some none
  | some vc => ∃ j vs, Instr.findNow (.int q) (.int q m) es i = some (some (i + j, wrapV va vs)) ∧ RelL g vc vs
 | n, [], es, h, r, hr, i => by
  simp only [RelM] at h
  subst h
  simp only [lookM, Option.some.injEq] at hr
  subst hr
  rfl
 | n, x :: xs, es, ⟨e, es', h1, h2, ⟨ks, h3, h3'⟩, ⟨vs, h4, h4'⟩, h5⟩, r, hr, i => by
  subst h1
  simp only [lookM] at hr
  split at hr
  ·rename_i k' hk
   obtain ⟨m', rfl, rfl⟩ := keyC_one hk h3'
   have hkey : e.key = .int q m' := h3
   have hs : Instr.sameNow (.int q) (.int q m) (.int q m') = some (m == m') := by simp [Instr.sameNow]
   split at hr
   ·rename_i e1
    cases e1
    cases hr
    refine ⟨0, vs, ?_, h4'⟩
    simp [Instr.findNow, hkey, hs, h4]
   ·rename_i hne
    have hb : (m == m') = false := by
     simp only [beq_eq_false_iff_ne, ne_eq]
     intro e2
     exact hne (by rw [e2])
    have hf : Instr.findNow (.int q) (.int q m) (e :: es') i = Instr.findNow (.int q) (.int q m) es' (i + 1) := by
     simp [Instr.findNow, hkey, hs, hb]
    have ih := find_int h5 hr (i + 1)
    cases r with
    | none => simp only at ih ⊢; rw [hf]; exact ih
    | some vc =>
     obtain ⟨j, ws, i1, i2⟩ := ih
     exact ⟨j + 1, ws, by rw [hf, i1, show i + 1 + j = i + (j + 1) by omega], i2⟩
  ·cases hr
theorem put_int {g : Gh} {q : IntKind} {va : Bool} {m : Int} {kc vc : List C} {ks vs : List Value} (hkr : RelL g kc ks) (hks : ks = [.int q m]) (hvr : RelL g vc vs) : ∀ {n : Nat} {xs xs' : List (List C × List C)} {es : List MapEntry}, RelM g false va n xs es → putM false q [m] kc vc xs = some xs' → ∀ i : Nat,
  (Instr.findNow (.int q) (.int q m) es i = some none ∧ xs' = xs ++ [(kc, vc)]) ∨
  ∃ j w e, Instr.findNow (.int q) (.int q m) es i = some (some (i + j, w)) ∧ es[j]? = some e ∧ e.key = .int q m ∧ xs'.length = xs.length ∧ RelM g false va n xs' (es.modify j fun e => { e with key := .int q m, val := wrapV va vs })
 | n, [], xs', es, h, hr, i => by
  simp only [RelM] at h
  subst h
  simp only [putM, Option.some.injEq] at hr
  subst hr
  exact .inl ⟨rfl, rfl⟩
 | n, x :: xs, xs', es, ⟨e, es', h1, h2, ⟨ks', h3, h3'⟩, ⟨vs', h4, h4'⟩, h5⟩, hr, i => by
  subst h1
  simp only [putM] at hr
  split at hr
  ·rename_i k' hk
   obtain ⟨m', rfl, rfl⟩ := keyC_one hk h3'
   have hkey : e.key = .int q m' := h3
   have hs : Instr.sameNow (.int q) (.int q m) (.int q m') = some (m == m') := by simp [Instr.sameNow]
   split at hr
   ·rename_i e1
    cases e1
    cases hr
    refine .inr ⟨0, e.val, e, by simp [Instr.findNow, hkey, hs], rfl, hkey, rfl, ?_⟩
    exact ⟨_, es', rfl, h2, ⟨ks, by rw [hks]; rfl, hkr⟩, ⟨vs, rfl, hvr⟩, h5⟩
   ·rename_i hne
    have hb : (m == m') = false := by
     simp only [beq_eq_false_iff_ne, ne_eq]
     intro e2
     exact hne (by rw [e2])
    have hf : Instr.findNow (.int q) (.int q m) (e :: es') i = Instr.findNow (.int q) (.int q m) es' (i + 1) := by
     simp [Instr.findNow, hkey, hs, hb]
    split at hr
    ·rename_i r' hr'
     cases hr
     rcases put_int hkr hks hvr h5 hr' (i + 1) with ⟨i1, rfl⟩ | ⟨j, w, e', i1, i2, i3, i4, i5⟩
     ·exact .inl ⟨by rw [hf]; exact i1, rfl⟩
     ·refine .inr ⟨j + 1, w, e', by rw [hf, i1, show i + 1 + j = i + (j + 1) by omega], i2, i3, by simp [i4], ?_⟩
      exact ⟨e, _, rfl, h2, ⟨_, h3, h3'⟩, ⟨vs', h4, h4'⟩, i5⟩
    ·cases hr
  ·cases hr
theorem midsM_look {ag : Bool} {q : IntKind} {k : List Int} : ∀ {xs : List (List C × List C)} {vc : List C}, lookM ag q k xs = some (some vc) → ∀ id ∈ midsL vc, id ∈ midsM xs
 | [], _, h, _, _ => by simp [lookM] at h
 | x :: r, vc, h, id, hid => by
  simp only [lookM] at h
  split at h
  ·split at h
   ·cases h; simp [midsM, hid]
   ·simp [midsM, midsM_look h id hid]
  ·cases h
theorem midsM_put {ag : Bool} {q : IntKind} {k : List Int} {kc vc : List C} : ∀ {xs xs' : List (List C × List C)}, putM ag q k kc vc xs = some xs' → ∀ id ∈ midsM xs', id ∈ midsM xs ∨ id ∈ midsL kc ∨ id ∈ midsL vc
 | [], _, h, id, hid => by
  simp only [putM, Option.some.injEq] at h
  subst h
  simp only [midsM, List.append_nil, List.mem_append] at hid
  exact .inr hid
 | x :: r, xs', h, id, hid => by
  simp only [putM] at h
  split at h
  ·split at h
   ·cases h
    simp only [midsM, List.mem_append] at hid ⊢
    rcases hid with h | h | h
    ·exact .inr (.inl h)
    ·exact .inr (.inr h)
    ·exact .inl (.inr (.inr h))
   ·split at h
    ·rename_i r' hr'
     cases h
     simp only [midsM, List.mem_append] at hid ⊢
     rcases hid with h | h | h
     ·exact .inl (.inl h)
     ·exact .inl (.inr (.inl h))
     ·rcases midsM_put hr' id h with h | h
      ·exact .inl (.inr (.inr h))
      ·exact .inr h
    ·cases h
  ·cases h
def lookV (ok va : Bool) (cs : List C) (b : Bool) : Option AV := match ok with
 | true => (match va, cs with
  | true, cs => some (.t [(true, cs), (false, [.B b])])
  | false, [c] => some (.t [(false, [c]), (false, [.B b])])
  | false, _ => none)
 | false => (match va, cs with
  | true, cs => some (.a cs)
  | false, [c] => some (.c c)
  | false, _ => none)
theorem lookV_rel {g : Gh} {ok va : Bool} {cs : List C} {b : Bool} {v : AV} {vs : List Value} (h : lookV ok va cs b = some v) (hr : RelL g cs vs) : RelV g v (if ok then .tuple #[wrapV va vs, .bool b] else wrapV va vs) := by
 unfold lookV at h
 split at h
 ·split at h
  ·cases h; exact ⟨[_, _], rfl, _, _, rfl, ⟨vs, rfl, hr⟩, _, _, rfl, rfl, rfl⟩
  ·rename_i c
   cases h
   obtain ⟨u, r, rfl, h1, h2⟩ := hr
   exact ⟨[_, _], rfl, _, _, rfl, h1, _, _, rfl, rfl, rfl⟩
  ·cases h
 ·split at h
  ·cases h; exact ⟨vs, rfl, hr⟩
  ·rename_i c
   cases h
   obtain ⟨u, r, rfl, h1, h2⟩ := hr
   exact h1
  ·cases h
theorem lookV_mids {ok va : Bool} {cs : List C} {b : Bool} {v : AV} (h : lookV ok va cs b = some v) : ∀ id ∈ v.mids, id ∈ midsL cs := by
 unfold lookV at h
 split at h
 ·split at h
  ·cases h; simp [AV.mids, midsT, midsL, C.mids]
  ·cases h; simp [AV.mids, midsT, midsL, C.mids]
  ·cases h
 ·split at h
  ·cases h; simp [AV.mids]
  ·cases h; simp [AV.mids, midsL]
  ·cases h
theorem Sub_setMap {H : FH} {W : World} (h : Sub H W) {r : Nat} {ob : Obj} (hb : ∀ o, H r o = none) : Sub H { W with heap := W.heap.setIfInBounds r ob } := by
 intro b' o v hv
 have h1 := h b' o v hv
 by_cases e : r = b'
 ·subst e; rw [hb o] at hv; cases hv
 ·simp only [World.cell?, Array.getElem?_setIfInBounds_ne e]
  exact h1
section
variable {P : Program} {tt : TT}
theorem mkmap_sound {ops : Array Oper} {i : Nat} {o : Oper} {d : Nat} (ho : ops[i]? = some o) (hg : o.guard = none) (hd : o.dst = some d) {n : Nat} (hdn : d < n) {t : TypeId} (hop : o.op = .makeMap t none) (ka va : Bool) (new : Nat) :
  StepS P n ops i [] [(.s d, some (.v (.c (.X new)))), (.m new, some (.b (.mp ka va [])))] new := by
 intro F hFn Q known σ g W a K hnew hsem hrd hK
 have hex : (execOp a.eval o).run P W = .ok (.value (.map (some W.heap.size))) { W with heap := W.heap.push (.map #[] 0) } := by
  rw [execOp, hop]
  rfl
 unfold wpOp
 simp only [ho, Region.wanted, hg, if_true]
 refine .inl ?_
 unfold Oper.wp
 rw [hex]
 simp only [Oper.upon, hd]
 have hszd : d < a.tmps.size := by rw [hsem.size, hFn]; exact hdn
 let v : Value := .map (some W.heap.size)
 let g' : Gh := ⟨g.H, fun id => if id = new then v else g.γ id⟩
 have hgn : g'.γ new = v := by simp [g']
 have hGle : GLe known g g' := ⟨FLe.refl _, fun id hid => by
  have : id ≠ new := fun e => hnew (e ▸ hid)
  simp [g', this]⟩
 have hHnone : ∀ o, g.H W.heap.size o = none := by
  intro o
  cases hv : g.H W.heap.size o with
  | none => rfl
  | some v =>
   have := World.block_lt_of_cell? W _ (hsem.sub _ _ _ hv)
   simp at this
 refine hK g' _ _ (hsem.step (chg := fun _ => False) (g' := g') ⟨hGle, fun _ _ _ => rfl, Sub_push hsem.sub _, by simp, fun k hk _ => alloc_heap W _ k hk, rfl, rfl, rfl⟩ _ new hnew (by simp [Act.put]) hsem.defers (fun t ht => step_put_d ht) (fun _ h => h.elim) ?_ ?_ ?_ ?_)
 ·intro t u ht
  simp only [says] at ht
  split at ht
  ·rename_i e
   simp only [Key.s.injEq] at e
   simp only [Option.some.injEq, Info.v.injEq] at ht
   subst e; subst ht
   show _ = g'.γ new
   rw [hgn]
   simp [Act.put, hszd, v]
  ·simp at ht
 ·intro id b ht
  simp only [says, reduceCtorEq, if_false] at ht
  split at ht
  ·rename_i e
   simp only [Key.m.injEq] at e
   subst e
   simp only [Option.some.injEq, Info.b.injEq] at ht
   subst ht
   refine ⟨⟨W.heap.size, #[], hgn, by simp, rfl, .inl hsem.below.size, hHnone⟩, .inr ⟨rfl, fun k hk => .inl ?_⟩⟩
   rw [hgn] at hk
   simp only [blk, v, Option.some.injEq] at hk
   omega
  ·simp at ht
 ·intro k y ht
  simp only [says] at ht
  split at ht
  ·simp only [Option.some.injEq] at ht
   subst ht
   intro id hid
   simp [Info.mids, AV.mids, C.mids] at hid
   exact .inr hid
  ·split at ht
   ·simp only [Option.some.injEq] at ht
    subst ht
    intro id hid
    simp [Info.mids, Blk.mids, midsM] at hid
   ·simp at ht
 ·intro id y ht
  simp only [says, reduceCtorEq, if_false] at ht
  split at ht
  ·rename_i e
   simp only [Key.m.injEq] at e
   exact .inr e.symm
  ·simp at ht
theorem look_sound (htt : ttB P tt = true) {ops : Array Oper} {i : Nat} {o : Oper} {d : Nat} (ho : ops[i]? = some o) (hg : o.guard = none) (hd : o.dst = some d) {n : Nat} (hdn : d < n) {t : TypeId} {x y : Operand} {ok : Bool} (hop : o.op = .lookup t x y ok)
  {st : St} {id : Nat} {q : IntKind} {m : Int} (hx : st.ev x = some (.c (.X id))) (hy : st.ev y = some (.c (.I q m))) {kt vt : Nat} {ti ki vi : TI} (hti : lookA t tt = some ti) (hk : ti.kind = .map kt vt) (hki : lookA kt tt = some ki) (hkk : ki.kind = .int q) (hvi : lookA vt tt = some vi)
  {xs : List (List C × List C)} (hl : lookA id st.mem = some (.mp false vi.agg xs)) {r : Option (List C)} (hr : lookM false q [m] xs = some r) {v : AV} (hv : lookV ok vi.agg (r.getD (vi.zero.map ZV.toC)) r.isSome = some v) (new : Nat) :
  StepS P n ops i ([x, y].flatMap (opd st) ++ mrd st [id]) [(.s d, some (.v v))] new := by
 refine stepS_val ho hg hd hdn _ v new ?_
 intro F known σ g W a hsem hrd
 have hrx := ev_rel hsem st x _ hx (fun kx hkx => hrd kx (by simp [hkx]))
 have hry := ev_rel hsem st y _ hy (fun kx hkx => hrd kx (by simp [hkx]))
 have hσ : σ (.m id) = some (.b (.mp false vi.agg xs)) := hrd (.m id, .b (.mp false vi.agg xs)) (by simp [mrd, hl])
 let ⟨b, es, hγ, hh, hrm, hN, hz⟩ := hsem.blks id _ hσ
 have hrx : a.eval x = g.γ id := hrx
 have hry : a.eval y = .int q m := hry
 rw [hγ] at hrx
 have hu := (ttB_ok htt hti).kind
 rw [hk] at hu
 have huk := (ttB_ok htt hki).kind
 rw [hkk] at huk
 have hf := find_int hrm hr 0
 refine ⟨?_, ?_⟩
 ·intro j hj
  have h1 := lookV_mids hv j hj
  cases r with
  | none =>
   rw [Option.getD_none, zeros_mids] at h1
   cases h1
  | some vc => exact hsem.mids _ _ hσ j (midsM_look hr j h1)
 ·have hck := MapKept.run_checkKey (w := W) huk (k := .int q m) rfl es.isEmpty 9999
  cases r with
  | none =>
   have hfk := MapKept.run_findKey (P := P) (w := W) huk hf
   let ⟨inf, hinf, _, _, z, hzz, hzc⟩ := (ttB_ok htt hvi).info
   have hzag := (ttB_ok htt hvi).zag _ _ hinf hzz
   have hzv : (zeroValue vt).run P W = .ok z W := by simp [zeroValue, typeInfo, hinf, hzz]
   refine ⟨_, ?_, lookV_rel hv (zeros_rel g vi.zero)⟩
   rw [execOp, hop]
   simp only [Instr.lookup, hrx, hry, Sem.run_bind, run_underlying hu, Result.andThen, MapKept.run_getObj_map hh, Sem.run_pure, hck, hfk, hzv, hzag]
   rfl
  | some vc =>
   obtain ⟨j, ws, hf, hrw⟩ := hf
   have hfk := MapKept.run_findKey (P := P) (w := W) huk hf
   refine ⟨_, ?_, lookV_rel hv hrw⟩
   rw [execOp, hop]
   simp only [Instr.lookup, hrx, hry, Sem.run_bind, run_underlying hu, Result.andThen, MapKept.run_getObj_map hh, Sem.run_pure, hck, hfk]
   rfl
theorem mapup_sound (htt : ttB P tt = true) {ops : Array Oper} {i : Nat} {o : Oper} (ho : ops[i]? = some o) (hg : o.guard = none) (hd : o.dst = none) {n : Nat} {t : TypeId} {x y z : Operand} (hop : o.op = .mapUpdate t x y z)
  {st : St} {id : Nat} {q : IntKind} {m : Int} {u : AV} {va : Bool} {vc : List C} (hx : st.ev x = some (.c (.X id))) (hy : st.ev y = some (.c (.I q m))) (hzv : st.ev z = some u) (hu1 : toS u = some (va, vc)) {kt vt : Nat} {ti ki : TI} (hti : lookA t tt = some ti) (hk : ti.kind = .map kt vt) (hki : lookA kt tt = some ki) (hkk : ki.kind = .int q)
  {xs xs' : List (List C × List C)} (hl : lookA id st.mem = some (.mp false va xs)) (hp : putM false q [m] [.I q m] vc xs = some xs') (new : Nat) :
  StepS P n ops i ([x, y, z].flatMap (opd st) ++ mrd st [id]) [(.m id, some (.b (.mp false va xs')))] new := by
 intro F hFn Q known σ g W a K hnew hsem hrd hK
 have hrx := ev_rel hsem st x _ hx (fun kx hkx => hrd kx (by simp [hkx]))
 have hry := ev_rel hsem st y _ hy (fun kx hkx => hrd kx (by simp [hkx]))
 have hrz := ev_rel hsem st z _ hzv (fun kx hkx => hrd kx (by simp [hkx]))
 have hmz := ev_mids hsem st z _ hzv (fun kx hkx => hrd kx (by simp [hkx]))
 have hσ : σ (.m id) = some (.b (.mp false va xs)) := hrd (.m id, .b (.mp false va xs)) (by simp [mrd, hl])
 let ⟨b, es, hγ, hh, hrm, hN, hz⟩ := hsem.blks id _ hσ
 have hrx : a.eval x = g.γ id := hrx
 have hry : a.eval y = .int q m := hry
 rw [hγ] at hrx
 have hu := (ttB_ok htt hti).kind
 rw [hk] at hu
 have huk := (ttB_ok htt hki).kind
 rw [hkk] at huk
 have hval : ∃ vs, a.eval z = wrapV va vs ∧ RelL g vc vs := by
  have := toS_rel hu1 hrz
  cases va with
  | true => exact this
  | false =>
   match vc, this with
   | [c], h => exact ⟨[a.eval z], rfl, _, _, rfl, h, rfl⟩
   | [], h => exact h.elim
   | _ :: _ :: _, h => exact h.elim
 let ⟨vs, hvz, hvr⟩ := hval
 have hck := MapKept.run_checkKey (w := W) huk (k := .int q m) rfl false 9999
 have hlen := hrm.length
 have hfin : ∃ es', (execOp a.eval o).run P W = .ok .skip { W with heap := W.heap.setIfInBounds b (.map es' xs'.length) } ∧ RelM g false va 0 xs' es'.toList := by
  rcases put_int (g := g) (kc := [.I q m]) (ks := [.int q m]) ⟨_, _, rfl, rfl, rfl⟩ rfl hvr hrm hp 0 with ⟨hf, rfl⟩ | ⟨j, w, e, hf, he, hke, hle, hrm'⟩
  ·have hfk := MapKept.run_findKey (P := P) (w := W) huk hf
   refine ⟨es.push ⟨.int q m, a.eval z, xs.length⟩, ?_, ?_⟩
   ·rw [execOp, hop]
    simp only [Instr.mapUpdate, hrx, hry, Sem.run_bind, run_underlying hu, Result.andThen, MapKept.run_getObj_map hh, Sem.run_pure, hck, hfk, MapKept.run_setObj_map _ hh, List.length_append, List.length_singleton]
   ·rw [Array.toList_push]
    exact RelM.snoc (x := ([.I q m], vc)) ⟨[.int q m], rfl, _, _, rfl, rfl, rfl⟩ ⟨vs, hvz, hvr⟩ hrm (by simp)
  ·have hfk := MapKept.run_findKey (P := P) (w := W) huk hf
   have he' : es[j]? = some e := by simpa using he
   have hst := MapKept.run_keyThatStays (P := P) (w := W) (d := .int q) (k := .int q m) rfl
   refine ⟨es.modify j fun e => { e with key := .int q m, val := a.eval z }, ?_, by rw [Array.toList_modify, hvz]; exact hrm'⟩
   rw [execOp, hop]
   simp only [Instr.mapUpdate, hrx, hry, Sem.run_bind, run_underlying hu, Result.andThen, MapKept.run_getObj_map hh, Sem.run_pure, hck, hfk, Nat.zero_add, he', Option.map_some, Option.getD_some, hke, hst, MapKept.run_setObj_map _ hh, hle]
 let ⟨es', hex, hrm'⟩ := hfin
 unfold wpOp
 simp only [ho, Region.wanted, hg, if_true]
 refine .inl ?_
 unfold Oper.wp
 rw [hex]
 simp only [Oper.upon, hd, Act.put]
 have hb : b < W.heap.size := (Array.getElem?_eq_some_iff.1 hh).1
 refine hK g _ a (hsem.step (chg := fun j => j = id) (g' := g) ⟨⟨FLe.refl _, fun _ _ => rfl⟩, fun _ _ _ => rfl, Sub_setMap hsem.sub hz, by simp, ?_, rfl, rfl, rfl⟩ _ new hnew rfl hsem.defers (fun _ _ => rfl) ?_ ?_ ?_ ?_ ?_)
 ·intro k hk hne
  have : b ≠ k := fun e => hne id rfl (by rw [hγ, e]; rfl)
  exact Array.getElem?_setIfInBounds_ne this
 ·intro j hj
  subst hj
  exact ⟨by simp [says], _, hσ⟩
 ·intro t' v' ht; simp [says] at ht
 ·intro j bk hj
  simp only [says] at hj
  split at hj
  ·rename_i e
   simp only [Key.m.injEq] at e
   subst e
   simp only [Option.some.injEq, Info.b.injEq] at hj
   subst hj
   exact ⟨⟨b, es', hγ, by simp [hb], hrm', hN, hz⟩, .inl ⟨hsem.mkn _ _ hσ, _, hσ⟩⟩
  ·simp at hj
 ·intro k z' hz'
  simp only [says] at hz'
  split at hz'
  ·simp only [Option.some.injEq] at hz'
   subst hz'
   intro j hj
   rcases midsM_put hp j hj with h | h | h
   ·exact .inl (hsem.mids _ _ hσ j h)
   ·simp [midsL, C.mids] at h
   ·refine .inl (hmz j ?_)
    rw [← toS_mids hu1]; exact h
  ·simp at hz'
 ·intro j z' hz'
  simp only [says] at hz'
  split at hz'
  ·rename_i e
   simp only [Key.m.injEq] at e
   subst e
   exact .inl (hsem.mkn _ _ hσ)
  ·simp at hz'
end
def stepCopy (tt : TT) (k d : Nat) (x y : Operand) (t1 t2 : Nat) (st : St) : Option (St × Nat × Ks) := match appI tt t1 t2 with
 | some (_, ei) => (match st.ev x, st.ev y with
  | some (.c (.L id off len _)), some vy => (match srcC st ei.size vy, lookA id st.mem with
   | some (m, cs, is), some (.box Eb bz cs0) => if cs.all okC = true ∧ m ≤ len ∧ off + m * ei.size ≤ cs0.length then
     some (⟨putA d (.c (.I .i64 m)) st.sl, putA id (.box Eb bz (over cs0 cs off)) st.mem, st.nx, st.gd⟩, k + 1, (okeys [x, y] ++ mkeys (id :: is), [.s d, .m id])) else none
   | _, _ => none)
  | _, _ => none)
 | none => none
def stepMake (tt : TT) (k d : Nat) (t : Nat) (x y : Operand) (st : St) : Option (St × Nat × Ks) := match st.ev x, st.ev y, lookA t tt with
 | some (.c (.I _ a)), some (.c (.I _ b)), some ti => (match ti.kind with
  | .sl E => (match lookA E tt with
   | some ei => if a = b ∧ 0 ≤ a ∧ 0 < ei.size ∧ Nat.ble (a.toNat * ei.bytes) 16777216 = true ∧ Nat.ble a.toNat 16777216 = true then
     some (⟨putA d (.c (.L k 0 a.toNat (some a.toNat))) st.sl, (k, .box E 0 (flatRep (ei.zero.map ZV.toC) a.toNat)) :: st.mem, st.nx, st.gd⟩, k + 1, (okeys (Op.makeSlice t x y).operands.toList, [.s d, .m k])) else none
   | none => none)
  | _ => none)
 | _, _, _ => none
def stepLit (tt : TT) (k d : Nat) (t len : Nat) (parts : Array (Nat × Operand)) (st : St) : Option (St × Nat × Ks) := match bslC tt st t len parts.toList with
 | some (E, ei, cs) => if 0 < ei.size ∧ Nat.ble (len * ei.size) 16777216 = true then
   some (⟨putA d (.c (.L k 0 len (some len))) st.sl, (k, .box E 0 cs) :: st.mem, st.nx, st.gd⟩, k + 1, (okeys (Op.buildSlice t len parts).operands.toList, [.s d, .m k])) else none
 | none => none
def stepClo (k d : Nat) (f : FuncId) (first caps : Array Operand) (st : St) : Option (St × Nat × Ks) := match evT st first.toList, evT st caps.toList with
 | some fs, some cs => some (⟨putA d (.c (.X k)) st.sl, (k, .clo f fs cs) :: st.mem, st.nx, st.gd⟩, k + 1, (okeys (first.toList ++ caps.toList), [.s d, .m k]))
 | _, _ => none
def mapT (tt : TT) (t : Nat) : Option (TI × TI) := match lookA t tt with
 | some ti => (match ti.kind with
  | .map kt vt => (match lookA kt tt, lookA vt tt with
   | some ki, some vi => some (ki, vi)
   | _, _ => none)
  | _ => none)
 | none => none
theorem mapT_ok {tt : TT} {t : Nat} {ki vi : TI} (h : mapT tt t = some (ki, vi)) : ∃ ti kt vt, lookA t tt = some ti ∧ ti.kind = .map kt vt ∧ lookA kt tt = some ki ∧ lookA vt tt = some vi := by
 unfold mapT at h
 split at h
 ·rename_i ti hti
  split at h
  ·rename_i kt vt hk
   split at h
   ·rename_i ki' vi' h1 h2
    cases h
    exact ⟨ti, kt, vt, hti, hk, h1, h2⟩
   ·cases h
  ·cases h
 ·cases h
def stepMk (tt : TT) (k d : Nat) (t : Nat) (st : St) : Option (St × Nat × Ks) := match mapT tt t with
 | some (ki, vi) => some (⟨putA d (.c (.X k)) st.sl, (k, .mp ki.agg vi.agg []) :: st.mem, st.nx, st.gd⟩, k + 1, ([], [.s d, .m k]))
 | none => none
def isIntK (q : IntKind) : TK → Bool
 | .int q' => decide (q = q')
 | _ => false
def stepLook (tt : TT) (k d : Nat) (t : Nat) (x y : Operand) (ok : Bool) (st : St) : Option (St × Nat × Ks) := match mapT tt t, st.ev x, st.ev y with
 | some (ki, vi), some (.c (.X id)), some (.c (.I q m)) => (match isIntK q ki.kind, lookA id st.mem with
  | true, some (.mp false va xs) => (match va == vi.agg, lookM false q [m] xs with
   | true, some r => (match lookV ok vi.agg (r.getD (vi.zero.map ZV.toC)) r.isSome with
    | some v => some (⟨putA d v st.sl, st.mem, st.nx, st.gd⟩, k + 1, (okeys [x, y] ++ mkeys [id], [.s d]))
    | none => none)
   | _, _ => none)
  | _, _ => none)
 | _, _, _ => none
def stepPut (tt : TT) (k : Nat) (t : Nat) (x y z : Operand) (st : St) : Option (St × Nat × Ks) := match mapT tt t, st.ev x, st.ev y, st.ev z with
 | some (ki, _), some (.c (.X id)), some (.c (.I q m)), some u => (match isIntK q ki.kind, lookA id st.mem, toS u with
  | true, some (.mp false va xs), some (va', vc) => (match va == va', putM false q [m] [.I q m] vc xs with
   | true, some xs' => some (⟨st.sl, putA id (.mp false va xs') st.mem, st.nx, st.gd⟩, k + 1, (okeys [x, y, z] ++ mkeys [id], [.m id]))
   | _, _ => none)
  | _, _, _ => none)
 | _, _, _, _ => none
def stepBoxM (k d : Nat) (op : Op) (st : St) : Option (St × Nat × Ks) := match op with
 | .box E x => (match st.ev x with
  | some (.c (.X j)) => (match lookA j st.mem with
   | some (.mp _ _ _) => some (⟨putA d (.c (.P k 0)) st.sl, (k, .box E 0 [.X j]) :: st.mem, st.nx, st.gd⟩, k + 1, (okeys [x] ++ mkeys [j], [.s d, .m k]))
   | _ => none)
  | _ => none)
 | _ => none
def stepU (cal : CallF) (tt : TT) (n k : Nat) (dst : Option Nat) (op : Op) (st : St) : Option (St × Nat × Ks) := match dst with
 | none => (match op with
  | .mapUpdate t x y z => stepPut tt k t x y z st
  | op => (match step0 tt n k none op st with
   | some (st1, p, ks) => if p.b = true then some (nrm false true st1, k + 1, ks) else none
   | none => none))
 | some d => if d < n then (match op with
  | .call ⟨.value cf, args, _⟩ => stepCall cal k d cf args.toList st
  | .call ⟨.builtin .append, ⟨[x, y]⟩, ⟨[t1, t2]⟩⟩ => stepApp tt n k d x y t1 t2 st
  | .call ⟨.builtin .copy, ⟨[x, y]⟩, ⟨[t1, t2]⟩⟩ => stepCopy tt k d x y t1 t2 st
  | .makeSlice t x y => stepMake tt k d t x y st
  | .buildSlice t len parts => stepLit tt k d t len parts st
  | .makeFunc (.func f) first caps => stepClo k d f first caps st
  | .makeMap t none => stepMk tt k d t st
  | .lookup t x y ok => stepLook tt k d t x y ok st
  | op => (match evalL tt st op with
   | some (v, p) => if p.b = true then some (⟨putA d v st.sl, st.mem, st.nx, st.gd⟩, k + 1, (okeys op.operands.toList, [.s d])) else none
   | none => (match step0 tt n k (some d) op st with
    | some (st1, p, ks) => if p.b = true then some (nrm true false st1, k + 1, ks) else none
    | none => stepBoxM k d op st))) else none
theorem isIntK_ok {q : IntKind} {k : TK} (h : isIntK q k = true) : k = .int q := by
 cases k <;> simp [isIntK] at h
 subst h; rfl
theorem kn_putA_id (st : St) (id : Nat) (b : Blk) : St.kn ⟨st.sl, putA id b st.mem, st.nx, st.gd⟩ = upd st.kn [(.m id, some (.b b))] := by
 funext k
 cases k with
 | s t => simp [St.kn, upd, says]
 | m j =>
  simp only [St.kn, upd, says, lookA_put, Key.m.injEq]
  by_cases e : id = j <;> simp [e]
theorem reads4 {st : St} {xs : List Operand} {ids : List Nat} : ∀ kx ∈ xs.flatMap (opd st) ++ mrd st ids, st.kn kx.1 = some kx.2 := by
 intro kx hkx
 rcases List.mem_append.1 hkx with h | h
 ·obtain ⟨x, _, h⟩ := List.mem_flatMap.1 h
  exact opd_kn st x kx h
 ·exact mrd_kn st ids kx h
theorem keys4 {st : St} {xs : List Operand} {ids : List Nat} : ∀ key ∈ rkeysOf (xs.flatMap (opd st) ++ mrd st ids), key ∈ okeys xs ++ mkeys ids := by
 intro key hk
 simp only [rkeysOf, List.map_append, List.mem_append] at hk ⊢
 exact hk.elim (fun h => .inl (okeys_opd st _ key h)) (fun h => .inr (mkeys_mrd st ids key h))
section
variable {P : Program} {tt : TT}
theorem keysV {st : St} {op : Op} : ∀ key ∈ rkeysOf (rdV st op), key ∈ okeys op.operands.toList := fun key hk => okeys_opd st _ key hk
theorem boxM_sound {ops : Array Oper} {i : Nat} {o : Oper} {d : Nat} (ho : ops[i]? = some o) (hg : o.guard = none) (hd : o.dst = some d) {n : Nat} (hdn : d < n) {E : TypeId} {x : Operand} (hop : o.op = .box E x)
  {st : St} {j : Nat} {ka va : Bool} {xs : List (List C × List C)} (hx : st.ev x = some (.c (.X j))) (hj : lookA j st.mem = some (.mp ka va xs)) (new : Nat) :
  StepS P n ops i ([x].flatMap (opd st) ++ mrd st [j]) [(.s d, some (.v (.c (.P new 0)))), (.m new, some (.b (.box E 0 [.X j])))] new := by
 refine newbox_sound ho hg hd hdn _ [.X j] new ?_
 intro F known σ g W a hsem hrd
 have hr := ev_rel hsem st x _ hx (fun kx hkx => hrd kx (by simp [hkx]))
 have hm := ev_mids hsem st x _ hx (fun kx hkx => hrd kx (by simp [hkx]))
 have hσj : σ (.m j) = some (.b (.mp ka va xs)) := hrd (.m j, .b (.mp ka va xs)) (by simp [mrd, hj])
 obtain ⟨r, es, e, _⟩ := hsem.blks j _ hσj
 have hv : a.eval x = .map (some r) := (show a.eval x = g.γ j from hr).trans e
 refine ⟨fun id hid => hm id (by simpa [midsL, AV.mids] using hid), [a.eval x], ⟨_, _, rfl, hr, rfl⟩, ?_⟩
 rw [execOp, hop, hv]
 simp [Instr.box, newVar, newRow, newObj, Value.cells, Sem.run, pure]
 rw [hv]
theorem stepU_sound (htt : ttB P tt = true) {cal : CallF} (hcal : ∀ f vs fm k r fm' k', cal f vs fm k = some (r, fm', k') → CX P f vs fm k r fm' k') {n k : Nat} {o : Oper} (hg : o.guard = none) {st st' : St} {k' : Nat} {ks : Ks}
  (h : stepU cal tt n k o.dst o.op st = some (st', k', ks)) : StepX P n #[o] 0 st st' k k' ks := by
 have ho : (#[o] : Array Oper)[0]? = some o := rfl
 unfold stepU at h
 split at h
 ·rename_i hd
  split at h
  ·rename_i t x y z hop
   unfold stepPut at h
   split at h
   ·rename_i ki vi id q m u hT hx hy hz
    split at h
    ·rename_i va xs va' vc hq hl hu
     split at h
     ·rename_i xs' hva hp
      simp only [Option.some.injEq, Prod.mk.injEq] at h
      obtain ⟨rfl, rfl, rfl⟩ := h
      obtain ⟨ti, kt, vt, e1, e2, e3, _⟩ := mapT_ok hT
      have hva : va = va' := by simpa using hva
      subst hva
      have hkk : ki.kind = .int q := isIntK_ok hq
      exact .of_s (mapup_sound htt ho hg hd hop hx hy hz hu e1 e2 e3 hkk hl hp k) (reads4 (xs := [x, y, z])) (kn_putA_id st id _) (keys4 (xs := [x, y, z])) (by simp [keysOf])
     ·simp at h
    ·simp at h
   ·simp at h
  ·split at h
   ·rename_i st1 p ks1 hs
    split at h
    ·rename_i hp
     simp only [Option.some.injEq, Prod.mk.injEq] at h
     obtain ⟨rfl, rfl, rfl⟩ := h
     exact .of_ok (step0_sound htt ho hg (by rw [hd]; exact hs) (Pr.b_ok hp)) (kn_nrm _ _ _)
    ·simp at h
   ·simp at h
 ·rename_i d hd
  split at h
  ·rename_i hdn
   split at h
   ·rename_i cf args tys hop
    exact stepCall_sound hcal hdn hg hd hop h
   ·rename_i x y t1 t2 hop
    exact stepApp_sound htt hdn hg hd hop h
   ·rename_i x y t1 t2 hop
    unfold stepCopy at h
    split at h
    ·rename_i E ei hI
     have hT := appI_ok htt hI
     split at h
     ·rename_i id off len cap vy hx hy
      split at h
      ·rename_i m cs is Eb bz cs0 hs hl
       split at h
       ·rename_i hc
        simp only [Option.some.injEq, Prod.mk.injEq] at h
        obtain ⟨rfl, rfl, rfl⟩ := h
        exact .of_s (copyL_sound ho hg hd hdn hop hT hx hy hl hs hc.1 hc.2.1 hc.2.2 k) reads3 (kn_putA_pm st d id _ _) keys3 (by simp [keysOf])
       ·simp at h
      ·simp at h
     ·simp at h
    ·simp at h
   ·rename_i t x y hop
    unfold stepMake at h
    split at h
    ·rename_i k1 a k2 b ti hx hy hti
     split at h
     ·rename_i E hk
      split at h
      ·rename_i ei hei
       split at h
       ·rename_i hc
        obtain ⟨rfl, h0, hpos, hb1, hb2⟩ := hc
        simp only [Option.some.injEq, Prod.mk.injEq] at h
        obtain ⟨rfl, rfl, rfl⟩ := h
        have ea : ((a.toNat : Nat) : Int) = a := Int.toNat_of_nonneg h0
        have := makeL_sound (P := P) htt ho hg hd hdn hop (st := st) (m := a.toNat) (by rw [ea]; exact hx) (by rw [ea]; exact hy) hti hk hei hpos (Nat.le_of_ble_eq_true hb1) (Nat.le_of_ble_eq_true hb2) k
        rw [hop] at this
        exact .of_s this (rdV_kn st _) (kn_putA_m st d k _ _) keysV (by simp [keysOf])
       ·simp at h
      ·simp at h
     ·simp at h
    ·simp at h
   ·rename_i t len parts hop
    unfold stepLit at h
    split at h
    ·rename_i E ei cs hv
     split at h
     ·rename_i hc
      simp only [Option.some.injEq, Prod.mk.injEq] at h
      obtain ⟨rfl, rfl, rfl⟩ := h
      have := bslL_sound (P := P) htt ho hg hd hdn hop hc.1 (Nat.le_of_ble_eq_true hc.2) hv k
      rw [hop] at this
      exact .of_s this (rdV_kn st _) (kn_putA_m st d k _ _) keysV (by simp [keysOf])
     ·simp at h
    ·simp at h
   ·rename_i f first caps hop
    unfold stepClo at h
    split at h
    ·rename_i fs cs hf hc
     simp only [Option.some.injEq, Prod.mk.injEq] at h
     obtain ⟨rfl, rfl, rfl⟩ := h
     refine .of_s (clo_sound ho hg hd hdn hop hf hc k) ?_ (kn_putA_m st d k _ _) (fun key hk => okeys_opd st _ key hk) (by simp [keysOf])
     intro kx hkx
     let ⟨x, _, h⟩ := List.mem_flatMap.1 hkx
     exact opd_kn st x kx h
    ·simp at h
   ·rename_i t hop
    unfold stepMk at h
    split at h
    ·rename_i ki vi hT
     simp only [Option.some.injEq, Prod.mk.injEq] at h
     obtain ⟨rfl, rfl, rfl⟩ := h
     exact .of_s (mkmap_sound ho hg hd hdn hop _ _ k) (fun kx hkx => by cases hkx) (kn_putA_m st d k _ _) (fun key hk => by cases hk) (by simp [keysOf])
    ·simp at h
   ·rename_i t x y ok hop
    unfold stepLook at h
    split at h
    ·rename_i ki vi id q m hT hx hy
     split at h
     ·rename_i va xs hq hl
      split at h
      ·rename_i r hva hr
       split at h
       ·rename_i v hv
        simp only [Option.some.injEq, Prod.mk.injEq] at h
        obtain ⟨rfl, rfl, rfl⟩ := h
        obtain ⟨ti, kt, vt, e1, e2, e3, e4⟩ := mapT_ok hT
        have hva : va = vi.agg := by simpa using hva
        subst hva
        exact .of_s (look_sound htt ho hg hd hdn hop hx hy e1 e2 e3 (isIntK_ok hq) e4 hl hr hv k) (reads4 (xs := [x, y])) (kn_putA st d _) (keys4 (xs := [x, y])) (by simp [keysOf])
       ·simp at h
      ·simp at h
     ·simp at h
    ·simp at h
   ·split at h
    ·rename_i v p hv
     split at h
     ·rename_i hp
      simp only [Option.some.injEq, Prod.mk.injEq] at h
      obtain ⟨rfl, rfl, rfl⟩ := h
      exact .of_s (evalL_sound htt ho hg hd hdn hv (Pr.b_ok hp) k) (rdV_kn st _) (kn_putA st d _) keysV (by simp [keysOf])
     ·simp at h
    ·split at h
     ·rename_i st1 p ks1 hs
      split at h
      ·rename_i hp
       simp only [Option.some.injEq, Prod.mk.injEq] at h
       obtain ⟨rfl, rfl, rfl⟩ := h
       exact .of_ok (step0_sound htt ho hg (by rw [hd]; exact hs) (Pr.b_ok hp)) (kn_nrm _ _ _)
      ·simp at h
     ·unfold stepBoxM at h
      split at h
      ·rename_i E x hop
       split at h
       ·rename_i j hx
        split at h
        ·rename_i ka va xs hj
         simp only [Option.some.injEq, Prod.mk.injEq] at h
         obtain ⟨rfl, rfl, rfl⟩ := h
         exact .of_s (boxM_sound ho hg hd hdn hop hx hj k) (reads4 (xs := [x])) (kn_putA_m st d k _ _) (keys4 (xs := [x])) (by simp [keysOf])
        ·cases h
       ·cases h
      ·cases h
  ·simp at h
end
section
variable {P : Program} {tt : TT}
structure Steps (P : Program) (n : Nat) (ops : Array Oper) (i : Nat) (os : List Oper) (st st' : St) (k k' : Nat) (ds : List (List (Key × Info) × List (Key × Option Info))) (cl : List Nat) : Prop where
 len : ds.length = os.length
 clen : cl.length = os.length + 1
 first : cl[0]? = some k
 last : cl[os.length]? = some k'
 mono : ∀ j a b, cl[j]? = some a → cl[j + 1]? = some b → a ≤ b
 step : ∀ j (h : j < ds.length) a b, cl[j]? = some a → cl[j + 1]? = some b → StepN P n ops (i + j) ds[j].1 ds[j].2 (fun id => a ≤ id ∧ id < b)
 reads : ∀ j (h : j < ds.length), ∀ kx ∈ ds[j].1, foldD st.kn (ds.take j) kx.1 = some kx.2
 fin : st'.kn = foldD st.kn ds
end
inductive Ex where
 | nor
 | exi (id : Nat)
 | ret
def Ex.toE : Ex → Exit
 | .nor => .normal
 | .exi id => .exit id
 | .ret => .ret
def noDefO (o : Oper) : Bool := match o.op with
 | .defer _ => false
 | _ => true
def noDef : Code → Bool
 | .region _ ops _ => ops.toList.all noDefO
 | .seq x y => noDef x && noDef y
 | .cond _ x y => noDef x && noDef y
 | .block _ x => noDef x
 | .loop x => noDef x
 | .skip => true
 | .exit _ => true
 | .ret => true
 | _ => false
def ndC (r : Option Nat) (c : Code) : Prop := r = none ∨ noDef c = true
theorem ndC.seq {r : Option Nat} {x y : Code} (h : ndC r (.seq x y)) : ndC r x ∧ ndC r y := by
 rcases h with h | h
 ·exact ⟨.inl h, .inl h⟩
 ·simp only [noDef, Bool.and_eq_true] at h; exact ⟨.inr h.1, .inr h.2⟩
theorem ndC.cond {r : Option Nat} {c : Operand} {x y : Code} (h : ndC r (.cond c x y)) : ndC r x ∧ ndC r y := by
 rcases h with h | h
 ·exact ⟨.inl h, .inl h⟩
 ·simp only [noDef, Bool.and_eq_true] at h; exact ⟨.inr h.1, .inr h.2⟩
theorem ndC.block {r : Option Nat} {id : Nat} {x : Code} (h : ndC r (.block id x)) : ndC r x := h
theorem ndC.loop {r : Option Nat} {x : Code} (h : ndC r (.loop x)) : ndC r x := h
theorem ndC.region {r : Option Nat} {id : Nat} {ops : Array Oper} {d : Bool} (h : ndC r (.region id ops d)) : ndO r ops := by
 intro i o ho
 rcases h with h | h
 ·exact .inl h
 ·refine .inr (fun c hc => ?_)
  simp only [noDef, List.all_eq_true] at h
  have := h o (by rw [← Array.getElem?_toList] at ho; exact List.mem_of_getElem? ho)
  simp [noDefO, hc] at this
def Gone (P : Program) (n : Nat) (c : Code) (st : St) (k : Nat) (e : Ex) (st' : St) (k' : Nat) : Prop :=
 k ≤ k' ∧ ∀ F : Fix, F.n = n → ndC F.rd c → ∀ g W a, Hold F (· < k) st.kn g W a → c.wpIn (fen F.rd) 0 P (fun e' a' W' => e' = e.toE ∧ ∃ g', Hold F (· < k') st'.kn g' W' a') a W
section
variable {P : Program} {tt : TT}
theorem resOne_mids {F : Fix} {known : Nat → Prop} {st : St} {g : Gh} {W : World} {a : Act} (h : Hold F known st.kn g W a) {x : ResultVar} {v : AV} (hv : resOne tt st x = some v) : ∀ id ∈ v.mids, known id := by
 cases x with
 | tmp t =>
  simp only [resOne] at hv
  exact fun id hid => h.mids (.s t) (.v v) (by simp [St.kn, hv]) id hid
 | cell b t =>
  simp only [resOne] at hv
  split at hv
  ·rename_i id off hl
   split at hv
   ·rename_i E bz cs sz ag hm hts
    intro j hj
    exact h.mids (.m id) (.b (.box E bz cs)) (by simp [St.kn, hm]) j (partA_mids hv j hj)
   ·simp at hv
  ·simp at hv
theorem resL_mids {F : Fix} {known : Nat → Prop} {st : St} {g : Gh} {W : World} {a : Act} (h : Hold F known st.kn g W a) : ∀ (rs : List ResultVar) (ss : List (Bool × List C)), resL tt st rs = some ss → ∀ id ∈ midsT ss, known id
 | [], ss, hs, id, hid => by simp only [resL, Option.some.injEq] at hs; subst hs; cases hid
 | x :: xs, ss, hs, id, hid => by
  simp only [resL] at hs
  split at hs
  ·rename_i v hv
   split at hs
   ·rename_i s r h1 h2
    simp only [Option.some.injEq] at hs
    subst hs
    simp only [midsT, List.mem_append] at hid
    rcases hid with hid | hid
    ·rw [toS_mids h1] at hid
     exact resOne_mids (tt := tt) h hv id hid
    ·exact resL_mids h xs r h2 id hid
   ·simp at hs
  ·simp at hs
theorem resAll_mids {F : Fix} {known : Nat → Prop} {st : St} {g : Gh} {W : World} {a : Act} (h : Hold F known st.kn g W a) {rs : List ResultVar} {v : AV} (hv : resAll tt st rs = some v) : ∀ id ∈ v.mids, known id := by
 match rs, hv with
 | [], hv =>
  simp only [resAll, resL, Option.map_some, Option.some.injEq] at hv
  subst hv
  intro id hid; cases hid
 | [x], hv => exact resOne_mids (tt := tt) h hv
 | x :: y :: r, hv =>
  simp only [resAll, Option.map_eq_some_iff] at hv
  obtain ⟨ss, hss, rfl⟩ := hv
  exact resL_mids (tt := tt) h _ ss hss
theorem body_cx (htt : ttB P tt = true) {f : FuncId} {fn : Func} {c : Code} (hf : P.funcs[f]? = some fn) (hb : fn.body = some c) (hname : (fn.name != "runtime.NumGoroutine") = true) {vs : List AV} (hle : vs.length ≤ fn.ntmps) {fm : List (Nat × Blk)} {k : Nat} {e : Ex} {st' : St} {k' : Nat} (he : e = .nor ∨ e = .ret)
  (h : Gone P fn.ntmps c ⟨argSl 0 vs, fm, 0, []⟩ k e st' k') {r : AV} (hr : resAll tt st' fn.results.toList = some r) {fm' : List (Nat × Blk)} (hfm : ∀ id b, lookA id fm' = some b → lookA id st'.mem = some b) : CX P f vs fm k r fm' k' := by
 refine ⟨by simp [callB, hf, hb, hname], h.1, ?_⟩
 intro F g W us hn hul hh
 refine calls_of_wp hf hb ?_
 have hsz : (us.toArray ++ Array.replicate (fn.ntmps - us.toArray.size) undef).size = fn.ntmps := by simp; omega
 have h0 : Hold { F with n := fn.ntmps, rd := none } (· < k) (St.kn ⟨argSl 0 vs, fm, 0, []⟩) g W { tmps := us.toArray ++ Array.replicate (fn.ntmps - us.toArray.size) undef, defers := [] } := by
  refine ⟨hsz, hh.defers, ?_, hh.blks, hh.inj, hh.mids, hh.mkn, hh.sub, hh.below, hh.le, hh.fresh, hh.kfix⟩
  intro t v ht
  have h1 := hh.slots t v ht
  have hlt : t < us.length := by
   have hlook : lookA t (argSl 0 vs) = some v := by
    simp only [St.kn, Option.map_eq_some_iff] at ht
    let ⟨x, hx, he⟩ := ht
    cases he
    exact hx
   have key : ∀ (l : List AV) (i : Nat) (v : AV), lookA t (argSl i l) = some v → t < i + l.length := by
    intro l
    induction l with
    | nil => intro i v h; simp [argSl, lookA] at h
    | cons x l ih =>
     intro i v h
     simp only [argSl, lookA] at h
     split at h
     ·simp; omega
     ·have := ih (i + 1) v h
      simp; omega
   have := key vs 0 v hlook
   omega
  have : (us.toArray ++ Array.replicate (fn.ntmps - us.toArray.size) undef).getD t undef = us.toArray.getD t undef := by
   rw [Array.getD_eq_getD_getElem?, Array.getD_eq_getD_getElem?, Array.getElem?_append_left (by simpa using hlt)]
  show RelV g v ((us.toArray ++ Array.replicate (fn.ntmps - us.toArray.size) undef).getD t undef)
  rw [this]
  exact h1
 refine (wpIn_fen (r := none) rfl).1 (wpIn_mono (h.2 { F with n := fn.ntmps, rd := none } rfl (.inl rfl) g W _ h0) ?_)
 rintro e' a' W' ⟨rfl, g', h'⟩
 let ⟨u, hu, hrel⟩ := run_results (P := P) (tt := tt) (st := st') htt h' (fn := fn) (rs := fn.results.toList) (by simp) hr
 have hfin : ∃ v g'', Ending.returned u = .returned v ∧ Hold { F with n := 1 } (· < k') (St.kn ⟨[(0, r)], fm', 0, []⟩) g'' W' (actN [v]) := by
  have hmr := resAll_mids (tt := tt) h' hr
  refine ⟨u, g', rfl, ⟨rfl, hh.defers, ?_, ?_, ?_, ?_, ?_, h'.sub, h'.below, h'.le, h'.fresh, h'.kfix⟩⟩
  ·intro t x hx
   simp only [St.kn, lookA, Option.map_eq_some_iff] at hx
   let ⟨y, hy, he⟩ := hx
   cases he
   split at hy
   ·rename_i e
    subst e
    cases hy
    simpa [actN] using hrel
   ·cases hy
  ·intro id b hb
   simp only [St.kn, Option.map_eq_some_iff] at hb
   let ⟨x, hx, he⟩ := hb
   cases he
   exact h'.blks id b (by simp [St.kn, hfm id b hx])
  ·intro id id' b b' kk hb hb' h1 h2
   simp only [St.kn, Option.map_eq_some_iff] at hb hb'
   let ⟨x, hx, he⟩ := hb
   let ⟨x', hx', he'⟩ := hb'
   cases he; cases he'
   exact h'.inj id id' b b' kk (by simp [St.kn, hfm id b hx]) (by simp [St.kn, hfm id' b' hx']) h1 h2
  ·intro key x hx id hid
   cases key with
   | s t =>
    simp only [St.kn, lookA, Option.map_eq_some_iff] at hx
    let ⟨y, hy, he⟩ := hx
    subst he
    split at hy
    ·cases hy; exact hmr id hid
    ·cases hy
   | m j =>
    simp only [St.kn, Option.map_eq_some_iff] at hx
    let ⟨y, hy, he⟩ := hx
    subst he
    exact h'.mids (.m j) (.b y) (by simp [St.kn, hfm j y hy]) id hid
  ·intro id x hx
   simp only [St.kn, Option.map_eq_some_iff] at hx
   let ⟨y, hy, he⟩ := hx
   exact h'.mkn id (.b y) (by simp [St.kn, hfm id y hy])
 rcases he with rfl | rfl
 ·exact ⟨h'.defers.trans hh.defers.symm, u, hu, hfin⟩
 ·exact ⟨h'.defers.trans hh.defers.symm, u, hu, hfin⟩
end
end Go.El

namespace Go.El
open Go Go.Proofs
def TTab : TT := [
 (2, ⟨.int .i64, 1, 8, [], [.i .i64]⟩),
 (3, ⟨.int .i64, 1, 8, [], [.i .i64]⟩),
 (4, ⟨.bool, 1, 1, [], [.b]⟩),
 (5, ⟨.int .u8, 1, 1, [], [.i .u8]⟩),
 (6, ⟨.int .u8, 1, 1, [], [.i .u8]⟩),
 (9, ⟨.str, 1, 16, [], [.t]⟩),
 (10, ⟨.str, 1, 16, [], [.t]⟩),
 (11, ⟨.str, 1, 16, [], [.t]⟩),
 (12, ⟨.int .u64, 1, 8, [], [.i .u64]⟩),
 (21, ⟨.int .i32, 1, 4, [], [.i .i32]⟩),
 (22, ⟨.sl 66, 1, 24, [], [.s]⟩),
 (23, ⟨.st, 1, 24, [(0, 1, false)], [.s]⟩),
 (24, ⟨.st, 1, 24, [(0, 1, false)], [.s]⟩),
 (25, ⟨.arr 2 24, 2, 48, [], [.s, .s]⟩),
 (27, ⟨.sl 75, 1, 24, [], [.s]⟩),
 (28, ⟨.sl 75, 1, 24, [], [.s]⟩),
 (31, ⟨.int .i64, 1, 8, [], [.i .i64]⟩),
 (37, ⟨.arr 3 24, 3, 72, [], [.s, .s, .s]⟩),
 (47, ⟨.sl 51, 1, 24, [], [.s]⟩),
 (50, ⟨.st, 2, 32, [(0, 1, false), (1, 1, false)], [.s, .i .i64]⟩),
 (51, ⟨.st, 2, 32, [(0, 1, false), (1, 1, false)], [.s, .i .i64]⟩),
 (52, ⟨.sl 28, 1, 24, [], [.s]⟩),
 (57, ⟨.int .u64, 1, 8, [], [.i .u64]⟩),
 (62, ⟨.arr 8 3, 8, 64, [], [.i .i64, .i .i64, .i .i64, .i .i64, .i .i64, .i .i64, .i .i64, .i .i64]⟩),
 (63, ⟨.arr 8 3, 8, 64, [], [.i .i64, .i .i64, .i .i64, .i .i64, .i .i64, .i .i64, .i .i64, .i .i64]⟩),
 (65, ⟨.int .i8, 1, 1, [], [.i .i8]⟩),
 (66, ⟨.arr 5 65, 5, 5, [], [.i .i8, .i .i8, .i .i8, .i .i8, .i .i8]⟩),
 (68, ⟨.sl 132, 1, 24, [], [.s]⟩),
 (69, ⟨.st, 2, 32, [(0, 1, false), (1, 1, false)], [.b, .s]⟩),
 (70, ⟨.st, 2, 32, [(0, 1, false), (1, 1, false)], [.b, .s]⟩),
 (71, ⟨.st, 4, 64, [(0, 2, true), (2, 2, true)], [.b, .s, .b, .s]⟩),
 (72, ⟨.st, 4, 64, [(0, 2, true), (2, 2, true)], [.b, .s, .b, .s]⟩),
 (74, ⟨.st, 12, 128, [(0, 4, true), (4, 8, true)], [.b, .s, .b, .s, .i .i64, .i .i64, .i .i64, .i .i64, .i .i64, .i .i64, .i .i64, .i .i64]⟩),
 (75, ⟨.st, 12, 128, [(0, 4, true), (4, 8, true)], [.b, .s, .b, .s, .i .i64, .i .i64, .i .i64, .i .i64, .i .i64, .i .i64, .i .i64, .i .i64]⟩),
 (78, ⟨.sl 52, 1, 24, [], [.s]⟩),
 (98, ⟨.map 3 28, 1, 8, [], [.m]⟩),
 (101, ⟨.sl 3, 1, 24, [], [.s]⟩),
 (118, ⟨.map 63 72, 1, 8, [], [.m]⟩),
 (124, ⟨.int .u64, 1, 8, [], [.i .u64]⟩),
 (132, ⟨.int .u32, 1, 4, [], [.i .u32]⟩),
 (161, ⟨.sl 70, 1, 24, [], [.s]⟩),
 (166, ⟨.sl 124, 1, 24, [], [.s]⟩),
 (171, ⟨.int .i64, 1, 8, [], [.i .i64]⟩),
 (191, ⟨.int .u64, 1, 8, [], [.i .u64]⟩),
 (209, ⟨.st, 4, 40, [(0, 1, false), (1, 1, false), (2, 1, false), (3, 1, false)], [.p, .p, .p, .t]⟩),
 (210, ⟨.st, 4, 40, [(0, 1, false), (1, 1, false), (2, 1, false), (3, 1, false)], [.p, .p, .p, .t]⟩),
 (211, ⟨.arr 0 16, 0, 0, [], []⟩),
 (215, ⟨.int .u8, 1, 1, [], [.i .u8]⟩),
 (216, ⟨.int .u8, 1, 1, [], [.i .u8]⟩),
 (219, ⟨.int .i32, 1, 4, [], [.i .i32]⟩),
 (220, ⟨.int .i32, 1, 4, [], [.i .i32]⟩),
 (221, ⟨.st, 11, 48, [(0, 1, false), (1, 1, false), (2, 1, false), (3, 1, false), (4, 1, false), (5, 1, false), (6, 1, false), (7, 1, false), (8, 1, false), (9, 1, false), (10, 1, false)], [.i .u64, .i .u64, .i .u32, .i .u8, .i .u8, .i .u8, .i .u8, .f, .p, .i .i32, .i .i32]⟩)]
theorem TT_ok : ttB Tryz.prog TTab = true := by kernel_rfl
theorem MX : Tryz.prog.follows .mixedOrders = true := by kernel_rfl
abbrev U32 : ET := .int .u32
abbrev I64 : ET := .int .i64
abbrev I8 : ET := .int .i8
abbrev cI (n : Int) : AV := .c (.I .i64 n)
abbrev cU (n : Int) : AV := .c (.I .u64 n)
abbrev cW (n : Int) : AV := .c (.I .u32 n)
abbrev cB (b : Bool) : AV := .c (.B b)
abbrev cS (T : ET) (xs : List T.den) : AV := .c (.S T xs)
abbrev aZ (z : Int) : AV := .a (av .z z)
abbrev aQ (q : Rat) : AV := .a (av .q q)
section
variable {n : Nat} {Q : Post} {sl sl' : List (Nat × AV)} {mem mem' : List (Nat × Blk)} {nx : Nat} {gd gd' : List (Nat × Bool)} {id : Nat} {ops : Array Oper} {draw : Bool} {y : Code} {p : Pr} {ks ks' : List Ks} {i i' n0 n0' : Nat}
theorem rr (h : runs TTab n nx draw ops.toList ops.toList 0 ⟨sl, mem, nx, gd⟩ .t [] = ([], i', ⟨sl', mem', n0, gd'⟩, p, ks)) (hk : TR Tryz.prog n y ⟨sl', mem', nx + 1, []⟩ Q)
  (hp : p := by exact dfpT) (ho : (!draw || ordB ops.toList ks) = true := by kernel_rfl) (hsz : Nat.ble ops.size 1000 = true := by rfl) : TR Tryz.prog n (.seq (.region id ops draw) y) ⟨sl, mem, nx, gd⟩ Q :=
 tr_seq (tr_region MX (rg_run TT_ok h hp (rg_nil hk ho hsz)))
theorem rt (h : runs TTab n nx draw ops.toList ops.toList 0 ⟨sl, mem, nx, gd⟩ .t [] = ([], i', ⟨sl', mem', n0, gd'⟩, p, ks)) (hk : AtQ n .normal ⟨sl', mem', nx + 1, []⟩ Q)
  (hp : p := by exact dfpT) (ho : (!draw || ordB ops.toList ks) = true := by kernel_rfl) (hsz : Nat.ble ops.size 1000 = true := by rfl) : TR Tryz.prog n (.region id ops draw) ⟨sl, mem, nx, gd⟩ Q :=
 tr_region MX (rg_run TT_ok h hp (rg_nil hk ho hsz))
theorem rb (h : RG Tryz.prog n ops draw nx 0 ops.toList ⟨sl, mem, nx, gd⟩ [] (fun st' => TR Tryz.prog n y st' Q)) : TR Tryz.prog n (.seq (.region id ops draw) y) ⟨sl, mem, nx, gd⟩ Q := tr_seq (tr_region MX h)
theorem rbt (h : RG Tryz.prog n ops draw nx 0 ops.toList ⟨sl, mem, nx, gd⟩ [] (fun st' => AtQ n .normal st' Q)) : TR Tryz.prog n (.region id ops draw) ⟨sl, mem, nx, gd⟩ Q := tr_region MX h
variable {R : St → Prop} {os : List Oper} {d f : Nat} {args : Array Operand} {tys : Array TypeId} {ty : TypeId} {pos : String} {aft : Array Edge} {os' : List Oper} {vs : List AV} {r : AV}
theorem rc (h : runs TTab n nx draw ops.toList os i ⟨sl, mem, n0, gd⟩ .t ks = (⟨some d, .call ⟨.value (.func f), args, tys⟩, ty, pos, aft, none⟩ :: os', i', ⟨sl', mem', n0', gd'⟩, p, ks')) (hv : evs ⟨sl', mem', n0', gd'⟩ args.toList = some vs) (hf : FnS Tryz.prog f vs r)
  (hk : RG Tryz.prog n ops draw nx (i' + 1) os' ⟨(d, r) :: sl', mem', n0', gd'⟩ (addK draw ks' (okeys args.toList, [.s d])) R)
  (hp : p := by exact dfpT) (hm : midsVs vs = [] := by rfl) (hdn : Nat.blt d n = true := by rfl) : RG Tryz.prog n ops draw nx i os ⟨sl, mem, n0, gd⟩ ks R :=
 rg_run TT_ok h hp (rg_call hv hf hk hm hdn)
theorem rcg {j tg : Nat} {want b : Bool} (h : runs TTab n nx draw ops.toList os i ⟨sl, mem, n0, gd⟩ .t ks = (⟨some d, .call ⟨.value (.func f), args, tys⟩, ty, pos, aft, some (j, want)⟩ :: os', i', ⟨sl', mem', n0', gd'⟩, p, ks')) (hj : gslot ops.toList j = some tg) (hb : lookA tg sl' = some (.c (.B b))) (hbw : b = want) (hv : evs ⟨sl', mem', n0', gd'⟩ args.toList = some vs) (hf : FnS Tryz.prog f vs r)
  (hk : RG Tryz.prog n ops draw nx (i' + 1) os' ⟨(d, r) :: sl', mem', n0', gd'⟩ (addK draw ks' (.s tg :: okeys args.toList, [.s d])) R)
  (hp : p := by exact dfpT) (hm : midsVs vs = [] := by rfl) (hdn : Nat.blt d n = true := by rfl) : RG Tryz.prog n ops draw nx i os ⟨sl, mem, n0, gd⟩ ks R :=
 rg_run TT_ok h hp (rg_callG hj hb hbw hv hf hk hm hdn)
theorem re (h : runs TTab n nx draw ops.toList os i ⟨sl, mem, n0, gd⟩ .t ks = ([], i', ⟨sl', mem', n0', gd'⟩, p, ks')) (hk : R ⟨sl', mem', nx + 1, []⟩)
  (hp : p := by exact dfpT) (ho : (!draw || ordB ops.toList ks') = true := by kernel_rfl) (hsz : Nat.ble ops.size 1000 = true := by rfl) : RG Tryz.prog n ops draw nx i os ⟨sl, mem, n0, gd⟩ ks R :=
 rg_run TT_ok h hp (rg_nil hk ho hsz)
theorem rg (t : Nat) {b : Bool} {o : Oper} (h : runs TTab n nx draw ops.toList os i ⟨sl, mem, n0, gd⟩ .t ks = (o :: os', i', ⟨sl', mem', n0', gd'⟩, p, ks')) (hb : lookA t sl' = some (.c (.B b)))
  (ht : b = true → RG Tryz.prog n ops draw nx i' (o :: os') ⟨(t, .c (.B true)) :: sl', mem', n0', (t, true) :: gd'⟩ ks' R) (hf : b = false → RG Tryz.prog n ops draw nx i' (o :: os') ⟨(t, .c (.B false)) :: sl', mem', n0', (t, false) :: gd'⟩ ks' R)
  (hp : p := by exact dfpT) : RG Tryz.prog n ops draw nx i os ⟨sl, mem, n0, gd⟩ ks R :=
 rg_run TT_ok h hp (rg_split t hb ht hf)
theorem rm {t : Nat} {x : Operand} (T : ET) (m : Nat) (h : runs TTab n nx draw ops.toList os i ⟨sl, mem, n0, gd⟩ .t ks = (⟨some d, .makeSlice t x x, ty, pos, aft, none⟩ :: os', i', ⟨sl', mem', n0', gd'⟩, p, ks')) {k : IntKind} {v : Int} (hx : St.ev ⟨sl', mem', n0', gd'⟩ x = some (.c (.I k v))) {E : Nat} {ti ei : TI} (hti : lookA t TTab = some ti) (hkd : ti.kind = .sl E) (hei : lookA E TTab = some ei) (hTn : ei.size = T.n)
  (hz : ∀ g : Gh, RelL g (av T T.dflt) (ei.zero.map ZV.toV)) (hv : v = (m : Int)) (hb : m * ei.bytes ≤ 281474976710656) (hb2 : m * T.n ≤ 140737488355328)
  (hk : RG Tryz.prog n ops draw nx (i' + 1) os' ⟨(d, .c (.X (1000000 * nx + 1000 * i'))) :: sl', (1000000 * nx + 1000 * i', .vec E T (List.replicate m T.dflt)) :: mem', n0', gd'⟩ (addK draw ks' (okeys [x, x], [.s d, .m (1000000 * nx + 1000 * i')])) R)
  (hp : p := by exact dfpT) (hdn : Nat.blt d n = true := by rfl) : RG Tryz.prog n ops draw nx i os ⟨sl, mem, n0, gd⟩ ks R :=
 rg_run TT_ok h hp (rg_make TT_ok T m hx hv hti hkd hei hTn hz hb hb2 hk hdn)
end
theorem zr_int (k : IntKind) (g : Gh) : RelL g (av (.int k) (ET.dflt (.int k))) ([ZV.i k].map ZV.toV) := ⟨_, _, rfl, rfl, rfl⟩
theorem nilW (H : FH) : RelW H [] (.slice none 0 0) := ⟨none, 0, rfl, Nat.le_refl _, by simp, .inl rfl⟩
section
variable {n : Nat} {Q : Post} {sl sl' : List (Nat × AV)} {mem mem' : List (Nat × Blk)} {nx : Nat} {gd gd' : List (Nat × Bool)} {id : Nat} {ops : Array Oper} {draw : Bool} {y y0 : Code} {p q : Pr} {ks ks' ks1 : List Ks} {i i' n0 n0' : Nat} {st : St} {fn : Func} {rs : List ResultVar} {r r' : AV}
variable {R : St → Prop} {os : List Oper} {d f : Nat} {args : Array Operand} {tys : Array TypeId} {ty : TypeId} {pos : String} {aft : Array Edge} {os' : List Oper} {vs : List AV}
theorem atR (hr : resAll TTab st rs = some r) (hrs : fn.results = rs.toArray := by rfl) (hm : r.mids = [] := by rfl) : AtQ n .ret st (RetQ Tryz.prog fn r) := at_ret TT_ok hr (AVle.refl _) hrs hm
theorem atE (hr : resAll TTab st rs = some r') (e : r' = r) (hrs : fn.results = rs.toArray := by rfl) (hm : r.mids = [] := by rfl) : AtQ n .ret st (RetQ Tryz.prog fn r) := at_ret TT_ok hr (AVle.of_eq e) hrs hm
theorem rtR (hr : resAll TTab st rs = some r) (hrs : fn.results = rs.toArray := by rfl) (hm : r.mids = [] := by rfl) : TR Tryz.prog n .ret st (RetQ Tryz.prog fn r) := tr_ret (atR hr hrs hm)
theorem rtE (hr : resAll TTab st rs = some r') (e : r' = r) (hrs : fn.results = rs.toArray := by rfl) (hm : r.mids = [] := by rfl) : TR Tryz.prog n .ret st (RetQ Tryz.prog fn r) := tr_ret (atE hr e hrs hm)
theorem xlE {α : Type} {stI : α → St} {φ : α → Prop} {μ : α → Nat} {x : α} (h : AtQ n .normal st Q) : TR Tryz.prog n (.exit id) st (thenQ Tryz.prog y0 (loopQ stI φ μ x (blockQ id Q))) := tr_exit (at_then_exit (at_loop_exit (at_block_exit h)))
theorem skT (h : TR Tryz.prog n y st Q) : TR Tryz.prog n .skip st (thenQ Tryz.prog y Q) := tr_skip (at_then h)
theorem bkT (h : TR Tryz.prog n y st Q) : AtQ n .normal st (blockQ id (thenQ Tryz.prog y Q)) := at_block (at_then h)
theorem rbc (h : runs TTab n nx draw ops.toList ops.toList 0 ⟨sl, mem, nx, gd⟩ .t [] = (⟨some d, .call ⟨.value (.func f), args, tys⟩, ty, pos, aft, none⟩ :: os', i', ⟨sl', mem', n0', gd'⟩, p, ks')) (hv : evs ⟨sl', mem', n0', gd'⟩ args.toList = some vs) (hf : FnS Tryz.prog f vs r)
  {sl2 : List (Nat × AV)} {mem2 : List (Nat × Blk)} {n2 i2 : Nat} {gd2 : List (Nat × Bool)} (h2 : runs TTab n nx draw ops.toList os' (i' + 1) ⟨(d, r) :: sl', mem', n0', gd'⟩ .t (addK draw ks' (okeys args.toList, [.s d])) = ([], i2, ⟨sl2, mem2, n2, gd2⟩, q, ks1)) (hk : TR Tryz.prog n y ⟨sl2, mem2, nx + 1, []⟩ Q)
  (hp : p := by exact dfpT) (hm : midsVs vs = [] := by rfl) (hdn : Nat.blt d n = true := by rfl) (hq : q := by first | trivial | (simp only [Pr.an, Pr.h, num, i64r, true_and, and_true]; first | done | omega) | (simp [Pr.an, Pr.h, num, i64r]; done) | (simp [Pr.an, Pr.h, num, i64r]; omega)) (ho : (!draw || ordB ops.toList ks1) = true := by kernel_rfl) (hsz : Nat.ble ops.size 1000 = true := by rfl) : TR Tryz.prog n (.seq (.region id ops draw) y) ⟨sl, mem, nx, gd⟩ Q :=
 rb (rc h hv hf (re h2 hk hq ho hsz) hp hm hdn)
theorem fsI {f : FuncId} {fn : Func} {c : Code} {args : List AV} {r : AV} (hf : Tryz.prog.funcs[f]? = some fn) (h : TR Tryz.prog n c ⟨argSl 0 args, [], 0, []⟩ (RetQ Tryz.prog fn r)) (hb : fn.body = some c := by exact rfl) (hN : fn.ntmps = n := by exact rfl) (hle : Nat.ble args.length n = true := by exact rfl) (hma : midsVs args = [] := by exact rfl) (hmr : r.mids = [] := by exact rfl) (hname : (fn.name != "runtime.NumGoroutine") = true := by decide) : FnS Tryz.prog f args r := fs_intro hf hb hN hle hma hmr hname h
end
section
variable {n : Nat} {sl sl' : List (Nat × AV)} {mem mem' : List (Nat × Blk)} {nx : Nat} {gd gd' : List (Nat × Bool)} {ops : Array Oper} {draw : Bool} {p : Pr} {ks ks' : List Ks} {i i' n0 n0' : Nat}
variable {R : St → Prop} {os : List Oper} {d : Nat} {ty : TypeId} {pos : String} {aft : Array Edge} {os' : List Oper}
theorem rl (T : ET) (xs : List T.den) {t len : Nat} {parts : Array (Nat × Operand)} (h : runs TTab n nx draw ops.toList os i ⟨sl, mem, n0, gd⟩ .t ks = (⟨some d, .buildSlice t len parts, ty, pos, aft, none⟩ :: os', i', ⟨sl', mem', n0', gd'⟩, p, ks')) {E : Nat} {ei : TI} (hv : bslC TTab ⟨sl', mem', n0', gd'⟩ t len parts.toList = some (E, ei, xs.flatMap (av T)))
  (hk : RG Tryz.prog n ops draw nx (i' + 1) os' ⟨(d, .c (.S T xs)) :: sl', mem', n0', gd'⟩ (addK draw ks' (okeys (Op.buildSlice t len parts).operands.toList, [.s d])) R) (hT : ei.size = T.n := by rfl) (hlx : xs.length = len := by rfl) (hsmall : Nat.ble (len * T.n) 16777216 = true := by rfl)
  (hp : p := by exact dfpT) (hdn : Nat.blt d n = true := by rfl) : RG Tryz.prog n ops draw nx i os ⟨sl, mem, n0, gd⟩ ks R :=
 rg_run TT_ok h hp (rg_bsl TT_ok T xs hv hT hlx hsmall hk hdn)
theorem rlv (T : ET) (xs : List T.den) {t len : Nat} {parts : Array (Nat × Operand)} (h : runs TTab n nx draw ops.toList os i ⟨sl, mem, n0, gd⟩ .t ks = (⟨some d, .buildSlice t len parts, ty, pos, aft, none⟩ :: os', i', ⟨sl', mem', n0', gd'⟩, p, ks')) {E : Nat} {ei : TI} (hv : bslC TTab ⟨sl', mem', n0', gd'⟩ t len parts.toList = some (E, ei, xs.flatMap (av T)))
  (hk : RG Tryz.prog n ops draw nx (i' + 1) os' ⟨(d, .c (.X (1000000 * nx + 1000 * i'))) :: sl', (1000000 * nx + 1000 * i', .vec E T xs) :: mem', n0', gd'⟩ (addK draw ks' (okeys (Op.buildSlice t len parts).operands.toList, [.s d, .m (1000000 * nx + 1000 * i')])) R) (hT : ei.size = T.n := by rfl) (hlx : xs.length = len := by rfl) (hsmall : Nat.ble (len * T.n) 16777216 = true := by rfl)
  (hp : p := by exact dfpT) (hdn : Nat.blt d n = true := by rfl) : RG Tryz.prog n ops draw nx i os ⟨sl, mem, n0, gd⟩ ks R :=
 rg_run TT_ok h hp (rg_bslV TT_ok T xs hv hT hlx hsmall hk hdn)
theorem rsv {t : Nat} {x y : Operand} {id m k : Nat} {E : TypeId} {T : ET} {xs : List T.den} {vy : AV} {ag : Bool} (e : T.den) (h : runs TTab n nx draw ops.toList os i ⟨sl, mem, n0, gd⟩ .t ks = (⟨none, .store t x y, ty, pos, aft, none⟩ :: os', i', ⟨sl', mem', n0', gd'⟩, p, ks'))
  (hx : St.ev ⟨sl', mem', n0', gd'⟩ x = some (.c (.Y id m k 0))) (hl : lookA id mem' = some (.vec E T xs)) (hy : St.ev ⟨sl', mem', n0', gd'⟩ y = some vy) (hcs : cellsAV vy = some (av T e)) (hk : k < xs.length)
  (hr : RG Tryz.prog n ops draw nx (i' + 1) os' ⟨sl', (id, .vec E T (xs.set k e)) :: mem', n0', gd'⟩ (addK draw ks' (okeys [x, y] ++ mkeys [id], [.m id])) R) (hm : T.n = m := by rfl) (hts : tySz TTab t = some (m, ag) := by rfl)
  (hp : p := by exact dfpT) : RG Tryz.prog n ops draw nx i os ⟨sl, mem, n0, gd⟩ ks R :=
 rg_run TT_ok h hp (rg_storeV TT_ok hx hl hy hm hts e hcs hk hr)
theorem ra {x y : Operand} {t1 t2 : TypeId} {id : Nat} {E E2 : TypeId} {T : ET} {xs ys : List T.den} {ti ti2 ei : TI} (h : runs TTab n nx draw ops.toList os i ⟨sl, mem, n0, gd⟩ .t ks = (⟨some d, .call ⟨.builtin .append, #[x, y], #[t1, t2]⟩, ty, pos, aft, none⟩ :: os', i', ⟨sl', mem', n0', gd'⟩, p, ks'))
  (hx : St.ev ⟨sl', mem', n0', gd'⟩ x = some (.c (.X id))) (hl : lookA id mem' = some (.vec E T xs)) (hy : St.ev ⟨sl', mem', n0', gd'⟩ y = some (.c (.S T ys))) (hti : lookA t1 TTab = some ti) (hk : ti.kind = .sl E) (hti2 : lookA t2 TTab = some ti2) (hk2 : ti2.kind = .sl E2) (hei : lookA E TTab = some ei)
  (hb : ((xs.length + ys.length) + (xs.length + ys.length) / 4 + 192) * ei.bytes ≤ 281474976710656) (hb2 : (xs.length + ys.length) * T.n ≤ 140737488355328)
  (hr : RG Tryz.prog n ops draw nx (i' + 1) os' ⟨(d, .c (.X (1000000 * nx + 1000 * i'))) :: sl', (1000000 * nx + 1000 * i', .vec E T (xs ++ ys)) :: delA id mem', n0', gd'⟩ (addK draw ks' (okeys [x, y] ++ mkeys [id], [.s d, .m (1000000 * nx + 1000 * i'), .m id])) R) (hTn : ei.size = T.n := by rfl) (hzl : ei.zero.length = T.n := by rfl)
  (hp : p := by exact dfpT) (hdn : Nat.blt d n = true := by rfl) : RG Tryz.prog n ops draw nx i os ⟨sl, mem, n0, gd⟩ ks R :=
 rg_run TT_ok h hp (rg_app TT_ok hx hl hy hti hk hti2 hk2 hei hTn hzl hb hb2 hr hdn)
theorem ran {x y : Operand} {t1 t2 : TypeId} {E E2 : TypeId} {T : ET} {ys : List T.den} {ti ti2 ei : TI} (h : runs TTab n nx draw ops.toList os i ⟨sl, mem, n0, gd⟩ .t ks = (⟨some d, .call ⟨.builtin .append, #[x, y], #[t1, t2]⟩, ty, pos, aft, none⟩ :: os', i', ⟨sl', mem', n0', gd'⟩, p, ks'))
  (hx : St.ev ⟨sl', mem', n0', gd'⟩ x = some (.c (.V (.slice none 0 0)))) (hy : St.ev ⟨sl', mem', n0', gd'⟩ y = some (.c (.S T ys))) (hti : lookA t1 TTab = some ti) (hk : ti.kind = .sl E) (hti2 : lookA t2 TTab = some ti2) (hk2 : ti2.kind = .sl E2) (hei : lookA E TTab = some ei)
  (hb : (ys.length + ys.length / 4 + 192) * ei.bytes ≤ 281474976710656) (hb2 : ys.length * T.n ≤ 140737488355328)
  (hr : RG Tryz.prog n ops draw nx (i' + 1) os' ⟨(d, .c (.X (1000000 * nx + 1000 * i'))) :: sl', (1000000 * nx + 1000 * i', .vec E T ys) :: mem', n0', gd'⟩ (addK draw ks' (okeys [x, y], [.s d, .m (1000000 * nx + 1000 * i')])) R) (hTn : ei.size = T.n := by rfl) (hzl : ei.zero.length = T.n := by rfl)
  (hp : p := by exact dfpT) (hdn : Nat.blt d n = true := by rfl) : RG Tryz.prog n ops draw nx i os ⟨sl, mem, n0, gd⟩ ks R :=
 rg_run TT_ok h hp (rg_appN TT_ok hx hy hti hk hti2 hk2 hei hTn hzl hb hb2 hr hdn)
end
end Go.El

namespace Go.El
open Go Go.RowKit
def nilS : AV → Option Bool
 | .c (.V (.slice none 0 0)) => some true
 | .c (.L _ _ _ _) => some false
 | .c (.S _ (_ :: _)) => some false
 | _ => none
def slKind (tt : TT) (t : Nat) : Bool := match lookA t tt with
 | some ti => (match ti.kind with | .sl _ => true | _ => false)
 | none => false
def strAt (s : ByteArray) (i : Int) : Option Int := match s[i.toNat]? with
 | some b => some b.toNat
 | none => none
def nilT (tt : TT) (op : BinOp) (t : Nat) (v w : AV) : Option AV := match w with
 | .c (.V (.slice none 0 0)) => (match slKind tt t, nilS v with
  | true, some b => (match op with
   | .eql => some (.c (.B b))
   | .neq => some (.c (.B (!b)))
   | _ => none)
  | _, _ => none)
 | _ => none
def evalM (tt : TT) (st : St) : Op → Option (AV × Pr)
 | .build t parts => (match lookA t tt with
  | some ti => (match ti.kind with
   | .arr len E => (match lookA E tt with
    | some ei => (match fillC (slPlaces ei.size 0 len) st (ti.zero.map ZV.toC) parts.toList with
     | some cs => some (.a cs, .t)
     | none => none)
    | none => none)
   | _ => none)
  | none => none)
 | .index t x i => (match st.ev x, st.ev i with
  | some (.a cs), some (.c (.I _ j)) => (match lookA t tt with
   | some ti => (match ti.kind with
    | .arr len E => (match tySz tt E with
     | some (sz, ag) => (match partA cs (j.toNat * sz) sz ag with
      | some u => some (u, .and (.le 0 j) (.lt j len))
      | none => none)
     | none => none)
    | _ => none)
   | none => none)
  | some (.c (.V (.string s))), some (.c (.I _ j)) => (match lookA t tt with
   | some ti => (match ti.kind, strAt s j with
    | .str, some b => some (.c (.I .u8 b), .le 0 j)
    | _, _ => none)
   | none => none)
  | _, _ => none)
 | .binOp op t x y _ => (match st.ev x, st.ev y with
  | some v, some w => (match nilT tt op t v w with
   | some u => some (u, .t)
   | none => none)
  | _, _ => none)
 | _ => none
section
variable {P : Program} {tt : TT} {g : Gh} {W : World}
theorem nilS_ok {v : AV} {b : Bool} (h : nilS v = some b) {u : Value} (hu : RelV g v u) : ∃ a l c, u = .slice a l c ∧ a.isNone = b := by
 unfold nilS at h
 split at h
 ·cases h
  have hu' : u = .slice none 0 0 := hu
  exact ⟨none, 0, 0, hu', rfl⟩
 ·rename_i id off len cap
  cases h
  cases cap with
  | some c => obtain ⟨b, _, rfl⟩ := hu; exact ⟨_, _, _, rfl, rfl⟩
  | none => obtain ⟨_, b, c, _, rfl, _⟩ := hu; exact ⟨_, _, _, rfl, rfl⟩
 ·rename_i T x xs
  cases h
  obtain ⟨a, cap, rfl, _, _, h1⟩ := hu
  rcases h1 with h1 | ⟨b, off, rfl, _⟩
  ·cases h1
  ·exact ⟨_, _, _, rfl, rfl⟩
 ·cases h
theorem run_equal_nil {t e : TypeId} (hu : P.underlying t = some (.slice e)) (a : Option Addr) (l c : Nat) : (Op.equal t (.slice a l c) (.slice none 0 0)).run P W = .ok a.isNone W := by
 rw [Op.equal, show Op.maxDepth = 9999 + 1 from rfl, Op.equalIn]
 cases a <;> simp [run_underlying hu]
theorem nil_fin (htt : ttB P tt = true) {F : Fix} {known : Nat → Prop} {σ : Kn} {g : Gh} {W : World} {a : Act} (hsem : Hold F known σ g W a) {o : Oper} {bo : BinOp} {t : TypeId} {y z : Operand} {ty : TypeId} (hop : o.op = .binOp bo t y z ty) {v : AV} {b : Bool} (hsk : slKind tt t = true) (hn : nilS v = some b) {x : AV}
  (he : (bo = .eql ∧ x = AV.c (.B b)) ∨ (bo = .neq ∧ x = AV.c (.B (!b)))) (h1 : RelV g v (a.eval y) ∧ ∀ id ∈ v.mids, known id) (hzv : a.eval z = .slice none 0 0) :
  (∀ id ∈ x.mids, known id) ∧ ∃ v, (execOp a.eval o).run P W = .ok (.value v) W ∧ RelV g x v := by
 let ⟨ad, l, c, hyv, hb⟩ := nilS_ok hn h1.1
 have hund : ∃ e, P.underlying t = some (.slice e) := by
  unfold slKind at hsk
  split at hsk
  ·rename_i ti hti
   split at hsk
   ·rename_i e hk
    have h2 := (ttB_ok htt hti).kind
    rw [hk] at h2
    exact ⟨e, h2⟩
   ·cases hsk
  ·cases hsk
 let ⟨e, hund⟩ := hund
 have hexec : execOp a.eval o = (do pure (.value (← (do eqGuard bo t y z (a.eval y) (a.eval z); binOp bo t (a.eval y) (a.eval z) : Go.Sem Value)))) := by rw [execOp, hop]
 have heq := run_equal_nil (P := P) (W := W) hund ad l c
 rcases he with ⟨rfl, rfl⟩ | ⟨rfl, rfl⟩
 ·refine ⟨fun id hid => by simp [AV.mids, C.mids] at hid, .bool b, ?_, rfl⟩
  rw [hexec, hyv, hzv]
  simp [eqGuard, binOp, heq, Result.andThen, hb]
 ·refine ⟨fun id hid => by simp [AV.mids, C.mids] at hid, .bool (!b), ?_, rfl⟩
  rw [hexec, hyv, hzv]
  simp [eqGuard, binOp, heq, Result.andThen, hb]
theorem evalM_sound (htt : ttB P tt = true) {ops : Array Oper} {i : Nat} {o : Oper} {d : Nat} (ho : ops[i]? = some o) (hg : o.guard = none) (hd : o.dst = some d) {n : Nat} (hdn : d < n)
  {st : St} {x : AV} {p : Pr} (he : evalM tt st o.op = some (x, p)) (hp : p) (new : Nat) : StepS P n ops i (rdV st o.op) [(.s d, some (.v x))] new := by
 refine stepS_val ho hg hd hdn _ x new ?_
 intro F known σ g W a hsem hrd
 have hrs : ∀ y ∈ o.op.operands, ∀ kx ∈ opd st y, σ kx.1 = some kx.2 := by
  intro y hy kx hkx
  exact hrd kx (List.mem_flatMap.2 ⟨y, by simpa using hy, hkx⟩)
 have hev : ∀ y ∈ o.op.operands, ∀ u, st.ev y = some u → RelV g u (a.eval y) ∧ ∀ id ∈ u.mids, known id := by
  intro y hy u hu
  exact ⟨ev_rel hsem st y u hu (hrs y hy), ev_mids hsem st y u hu (hrs y hy)⟩
 generalize hop : o.op = op at he hev hrs hrd
 unfold evalM at he
 split at he
 ·rename_i t parts
  split at he
  ·rename_i ti hti
   split at he
   ·rename_i len E hk
    split at he
    ·rename_i ei hei
     split at he
     ·rename_i cs hcs
      cases he
      have h2 := (ttB_ok htt hti).kind
      rw [hk] at h2
      have hu : P.underlying t = some (.array len E) := h2
      let ⟨inf, hinf, hsz, _, z, hz, hzc⟩ := (ttB_ok htt hti).info
      let ⟨ie, hie, hse, _⟩ := (ttB_ok htt hei).info
      have hzr : RelL g (ti.zero.map ZV.toC) (ti.zero.map ZV.toV) := zeros_rel g ti.zero
      let ⟨us, hfill, hrel, hlen, hmid⟩ := fill_sound hsem st (slPlaces ei.size 0 len) (fun i => some (i * ei.size, ei.size)) (fun i y hy => by
        have := slPlaces_get ei.size len 0 i y hy
        rw [this, Nat.zero_add]) parts.toList _ cs _ hcs hzr (fun q hq kx hkx => hrd kx (List.mem_flatMap.2 ⟨q.2, by simp only [Op.operands]; simp only [List.mem_map]; exact ⟨q, hq, rfl⟩, hkx⟩)) (by rw [zeros_mids]; intro _ h; cases h)
      refine ⟨hmid, .agg us.toArray, ?_, us, rfl, hrel⟩
      have hzv : (zeroValue t).run P W = .ok z W := by
       simp [zeroValue, typeInfo, hinf, hz]
      have hzc' : z.cells = (ti.zero.map ZV.toV).toArray := by rw [← Array.toList_inj]; simpa using hzc
      have hexec : execOp a.eval o = (do pure (.value (← Instr.build t (parts.map fun (i, x) => (i, a.eval x))))) := by rw [execOp, hop]
      have hpm : (parts.map fun (i, x) => (i, a.eval x)).toList = parts.toList.map fun p => (p.1, a.eval p.2) := by simp
      have hb : (Instr.build t (parts.map fun (i, x) => (i, a.eval x))).run P W = .ok (.agg us.toArray) W := by
       unfold Instr.build
       rw [Sem.run_bind, hzv]
       simp only [Result.andThen]
       rw [Sem.run_bind, run_underlying hu]
       simp only [Result.andThen]
       rw [Sem.run_bind, run_sizeOf hie]
       simp only [Result.andThen, hpm, hzc', hse, hfill]
       rfl
      rw [hexec, Sem.run_bind, hb]
      rfl
     ·cases he
    ·cases he
   ·cases he
  ·cases he
 ·rename_i t y j
  have hexec : execOp a.eval o = (do pure (.value (← Instr.index t (a.eval y) (a.eval j)))) := by rw [execOp, hop]
  split at he
  ·rename_i cs k jj hy hj
   split at he
   ·rename_i ti hti
    split at he
    ·rename_i len E hk
     split at he
     ·rename_i sz ag hts
      split at he
      ·rename_i u hu
       cases he
       obtain ⟨hb1, hb2⟩ : 0 ≤ jj ∧ jj < (len : Int) := hp
       have h2 := (ttB_ok htt hti).kind
       rw [hk] at h2
       have hund : P.underlying t = some (.array len E) := h2
       let ⟨vs, hvs, hrel⟩ := (hev y (by simp [Op.operands]) _ hy).1
       have hjv : a.eval j = .int k jj := (hev j (by simp [Op.operands]) _ hj).1
       let ⟨hag, ⟨inf, hinf, hsz⟩, _⟩ := tySz_ok htt hts
       let ⟨v, hv, hvr⟩ := partA_sound (P := P) hrel hu hag hinf hsz W
       refine ⟨fun id hid => (hev y (by simp [Op.operands]) _ hy).2 id (partA_mids hu id hid), v, ?_, hvr⟩
       have hrun : (Instr.index t (a.eval y) (a.eval j)).run P W = .ok v W := by
        rw [hvs, hjv]
        unfold Instr.index
        simp only [asIntOf, Sem.run_bind, Sem.run_pure, Result.andThen, run_underlying hund, hb1, hb2, and_self, if_true, run_sizeOf hinf, hsz]
        exact hv
       rw [hexec, Sem.run_bind, hrun]
       rfl
      ·cases he
     ·cases he
    ·cases he
   ·cases he
  ·rename_i s k jj hy hj
   split at he
   ·rename_i ti hti
    split at he
    ·rename_i b hk hb
     cases he
     have hb1 : 0 ≤ jj := hp
     have h2 := (ttB_ok htt hti).kind
     rw [hk] at h2
     have hund : P.underlying t = some .string := h2
     have hyv : a.eval y = .string s := (hev y (by simp [Op.operands]) _ hy).1
     have hjv : a.eval j = .int k jj := (hev j (by simp [Op.operands]) _ hj).1
     refine ⟨fun id hid => by simp [AV.mids, C.mids] at hid, .int .u8 b, ?_, rfl⟩
     have hrun : (Instr.index t (a.eval y) (a.eval j)).run P W = .ok (.int .u8 b) W := by
      rw [hyv, hjv]
      unfold strAt at hb
      unfold Instr.index
      simp only [asIntOf, Sem.run_bind, Sem.run_pure, Result.andThen, run_underlying hund, hb1, if_true]
      split at hb
      ·rename_i bb hbb
       cases hb
       rw [hbb]
       rfl
      ·cases hb
     rw [hexec, Sem.run_bind, hrun]
     rfl
    ·cases he
   ·cases he
  ·cases he
 ·rename_i bo t y z ty
  split at he
  ·rename_i v w hy hz
   split at he
   ·rename_i u0 hnt
    cases he
    unfold nilT at hnt
    split at hnt
    ·split at hnt
     ·rename_i b hsk hn
      have hnt' : (bo = .eql ∧ x = AV.c (.B b)) ∨ (bo = .neq ∧ x = AV.c (.B (!b))) := by
       split at hnt
       ·cases hnt; exact .inl ⟨rfl, rfl⟩
       ·cases hnt; exact .inr ⟨rfl, rfl⟩
       ·cases hnt
      exact nil_fin htt hsem hop hsk hn hnt' (hev y (by simp [Op.operands]) _ hy) (hev z (by simp [Op.operands]) _ hz).1
     ·cases hnt
    ·cases hnt
   ·cases he
  ·cases he
 ·cases he
end
def RetV (W : World) (H : FH) (E : TypeId) (T : ET) (xs : List T.den) (e : Ending) (W' : World) : Prop :=
 ∃ v H', e = .returned v ∧ RepB (fun b => W.heap.size ≤ b) ⟨H', fun _ => v⟩ W' 0 (.vec E T xs) ∧ FLe H H' ∧ (∀ b o, b < W.heap.size → H' b o = H b o) ∧ Sub H' W' ∧ Below W.heap.size W W'
structure FnV (P : Program) (f : FuncId) (args : List AV) (E : TypeId) (T : ET) (xs : List T.den) : Prop where
 call : callB P f = true
 spec : ∀ H W vs, Sub H W → RelVs ⟨H, noγ⟩ args vs → Calls P f vs.toArray W (RetV W H E T xs)
def RetQV (P : Program) (fn : Func) (E : TypeId) (T : ET) (xs : List T.den) : Post := fun F e a W => (∀ b, ¬ F.own b) → bodyPost P fn (RetV F.w0 F.H0 E T xs) e a W
section
variable {P : Program} {tt : TT} {n : Nat} {st : St}
theorem at_retV (htt : ttB P tt = true) {fn : Func} {t id : Nat} {E : TypeId} {T : ET} {xs : List T.den} (hl : lookA t st.sl = some (.c (.X id))) (hm : lookA id st.mem = some (.vec E T xs)) (hrs : fn.results = #[.tmp t] := by rfl) : AtQ n .ret st (RetQV P fn E T xs) := by
 intro F hF g W a h hown
 let ⟨u, hu, hrel⟩ := run_results (rs := [.tmp t]) (v := .c (.X id)) htt h hrs (by simp [resAll, resOne, hl])
 have hrep := h.blks id (.vec E T xs) (by simp [St.kn, hm])
 have hux : u = g.γ id := hrel
 refine ⟨h.defers.trans hF.ds, u, hu, u, g.H, rfl, ?_, h.le, fun b o hb => h.fresh b o hb (hown b), h.sub, ⟨h.below.os, h.below.tape, h.below.output, h.below.size, fun k hk => h.below.block k hk (hown k)⟩⟩
 rcases hrep with ⟨e1, e2⟩ | ⟨b, cap, vs, e1, e2, e3, e4, e5, e6, e7, e8⟩
 ·exact .inl ⟨by rw [hux]; exact e1, e2⟩
 ·refine .inr ⟨b, cap, vs, by rw [hux]; exact e1, e2, e3, e4, e5, e6, ?_, e8⟩
  rcases e7 with e7 | e7
  ·exact e7
  ·exact (hown b e7).elim
theorem fv_intro {f : FuncId} {fn : Func} {c : Code} {args : List AV} {E : TypeId} {T : ET} {xs : List T.den} (hf : P.funcs[f]? = some fn) (hb : fn.body = some c) (hN : fn.ntmps = n) (hle : Nat.ble args.length n = true) (hma : midsVs args = []) (hname : (fn.name != "runtime.NumGoroutine") = true)
  (h : TR P n c ⟨argSl 0 args, [], 0, []⟩ (RetQV P fn E T xs)) : FnV P f args E T xs := by
 refine ⟨by simp [callB, hf, hb, hname], ?_⟩
 intro H W vs hsub hrel
 refine calls_of_wp hf hb ?_
 have hlen := relVs_length hrel
 have hle := Nat.le_of_ble_eq_true hle
 refine wp_mono (h { w0 := W, H0 := H, n := n } ⟨rfl, Nat.zero_le _, rfl, rfl⟩ ⟨H, noγ⟩ W _ ⟨?_, rfl, ?_, ?_, ?_, ?_, ?_, hsub, ⟨rfl, rfl, rfl, Nat.le_refl _, fun _ _ _ => rfl⟩, FLe.refl _, fun _ _ _ _ => rfl, fun _ h => absurd h (Nat.not_lt_zero _)⟩) (fun e a W' hq => hq (fun _ h => h))
 ·simp [hN]; omega
 ·intro t v ht
  simp only [St.kn, Option.map_eq_some_iff] at ht
  let ⟨x, hx, he⟩ := ht
  cases he
  let ⟨_, u, hu, hr, _⟩ := argSl_look args vs 0 hrel t v hx
  have hu' : vs[t]? = some u := by simpa using hu
  have hlt : t < vs.length := (List.getElem?_eq_some_iff.1 hu').1
  have : (vs.toArray ++ Array.replicate (fn.ntmps - vs.toArray.size) undef).getD t undef = u := by
   rw [Array.getD_eq_getD_getElem?, Array.getElem?_append_left (by simpa using hlt)]
   simp [hu']
  rw [this]
  exact hr
 ·intro id b e; simp [St.kn, lookA] at e
 ·intro id id' b b' k e; simp [St.kn, lookA] at e
 ·intro k x e id hid
  cases k with
  | m j => simp [St.kn, lookA] at e
  | s t =>
   simp only [St.kn, Option.map_eq_some_iff] at e
   let ⟨y, hy, he⟩ := e
   subst he
   let ⟨_, u, _, _, h6⟩ := argSl_look args vs 0 hrel t y hy
   have := h6 id hid
   rw [hma] at this
   cases this
 ·intro id x e; simp [St.kn, lookA] at e
theorem callV_ok {n new : Nat} {ops : Array Oper} {i : Nat} {o : Oper} (ho : ops[i]? = some o) (hg : o.guard = none) {d : Nat} (hd : o.dst = some d) (hdn : d < n) {f : FuncId} {args : Array Operand} {tys : Array TypeId} (hop : o.op = .call ⟨.value (.func f), args, tys⟩)
  {st : St} {vs : List AV} {E : TypeId} {T : ET} {xs : List T.den} (hv : evs st args.toList = some vs) (hm : midsVs vs = []) (hf : FnV P f vs E T xs) : StepOk P n ops i st ((st.pm new (.vec E T xs)).put d (.c (.X new))) new (okeys args.toList, [.s d, .m new]) := by
 refine ⟨args.toList.flatMap (opd st), [(.s d, some (.v (.c (.X new)))), (.m new, some (.b (.vec E T xs)))], ?_, ?_, kn_put_pm st d new _ _, okeys_opd st _, fun k hk => by simpa [keysOf] using hk⟩
 ·intro F hFn Q known σ g W a K hnew hsem hrd hK
  have hargs := (evs_rel hsem st _ _ hv hrd).noid (γ := noγ) hm
  have hc := hf.spec g.H W _ hsem.sub hargs
  unfold wpOp
  simp only [ho, Region.wanted, hg, if_true]
  refine .inl ?_
  unfold Oper.wp
  have hex : (execOp a.eval o).run P W = .ok (.enter f (args.map a.eval)) W := by
   have hcb := hf.call
   unfold callB at hcb
   rw [execOp, hop]
   cases hfn : P.funcs[f]? with
   | none => rw [hfn] at hcb; simp at hcb
   | some fn =>
    rw [hfn] at hcb
    simp only [Bool.and_eq_true, bne_iff_ne, ne_eq] at hcb
    have h2 : fn.body ≠ none := by
     intro hb
     rw [hb] at hcb
     simp at hcb
    simp [resolve, Act.eval, Deferred.ofValue, invoke, callFunc, hfn, hcb.1, h2]
  rw [hex]
  simp only [Oper.upon]
  have harr : (args.map a.eval) = (args.toList.map a.eval).toArray := by apply Array.ext'; simp
  rw [harr]
  refine hc.mono ?_
  rintro e W' ⟨v, H', rfl, hrep, hle, hfr, hsub, hbl⟩
  simp only [hd]
  have hsz : d < a.tmps.size := by rw [hsem.size, hFn]; exact hdn
  let g' : Gh := ⟨H', fun id => if id = new then v else g.γ id⟩
  have hGle : GLe known g g' := ⟨hle, fun id hid => by
   have : id ≠ new := fun e => hnew (e ▸ hid)
   simp [g', this]⟩
  refine hK g' W' _ (hsem.step (chg := fun _ => False) (g' := g') ⟨hGle, hfr, hsub, hbl.size, fun k hk _ => hbl.block k hk, hbl.os, hbl.tape, hbl.output⟩ _ new hnew (by simp [Act.put]) hsem.defers ?_ (fun _ h => h.elim) ?_ ?_ ?_ ?_)
  ·intro t ht
   have hne : d ≠ t := by intro e; subst e; simp [says] at ht
   simp [Act.put, Array.getElem?_setIfInBounds_ne hne]
  ·intro t u ht
   simp only [says] at ht
   split at ht
   ·rename_i e
    simp only [Key.s.injEq] at e
    simp only [Option.some.injEq, Info.v.injEq] at ht
    subst e; subst ht
    simp [Act.put, hsz, RelV, RelC, g']
   ·split at ht
    ·simp at ht
    ·simp at ht
  ·intro id b ht
   simp only [says, reduceCtorEq, if_false] at ht
   split at ht
   ·rename_i e
    simp only [Key.m.injEq] at e
    simp only [Option.some.injEq, Info.b.injEq] at ht
    subst e; subst ht
    have hs0 := hsem.below.size
    rcases hrep with ⟨e1, e2⟩ | ⟨b, cap, ws, e1, e2, e3, e4, e5, e6, e7, e8⟩
    ·refine ⟨.inl ⟨by simpa [g'] using e1, e2⟩, .inr ⟨rfl, fun k hk => ?_⟩⟩
     have e1 : v = .slice none 0 0 := e1
     simp [g', e1, blk] at hk
    ·have e1 : v = .slice (some ⟨b, 0, none⟩) xs.length cap := e1
     refine ⟨.inr ⟨b, cap, ws, by simpa [g'] using e1, e2, e3, e4, e5, e6, .inl (by omega), e8⟩, .inr ⟨rfl, fun k hk => ?_⟩⟩
     simp [g', e1, blk] at hk
     exact .inl (by omega)
   ·simp at ht
  ·intro k y ht
   simp only [says] at ht
   split at ht
   ·simp only [Option.some.injEq] at ht
    subst ht
    intro id hid
    simp [Info.mids, AV.mids, C.mids] at hid
    exact .inr hid
   ·split at ht
    ·simp only [Option.some.injEq] at ht
     subst ht
     intro id hid
     simp [Info.mids, Blk.mids] at hid
    ·simp at ht
  ·intro id y ht
   simp only [says, reduceCtorEq, if_false] at ht
   split at ht
   ·rename_i e
    simp only [Key.m.injEq] at e
    exact .inr e.symm
   ·simp at ht
 ·intro kx hkx
  let ⟨x, _, h⟩ := List.mem_flatMap.1 hkx
  exact opd_kn st x kx h
theorem rg_callV {n : Nat} {ops : Array Oper} {draw : Bool} {nx i : Nat} {d f : Nat} {args : Array Operand} {tys : Array TypeId} {ty : TypeId} {pos : String} {aft : Array Edge} {os : List Oper} {sl : List (Nat × AV)} {mem : List (Nat × Blk)} {n0 : Nat} {gd : List (Nat × Bool)} {ks : List Ks} {Q : St → Prop} {vs : List AV} {E : TypeId} {T : ET} {xs : List T.den}
  (hv : evs ⟨sl, mem, n0, gd⟩ args.toList = some vs) (hf : FnV P f vs E T xs) (h : RG P n ops draw nx (i + 1) os ⟨(d, .c (.X (1000000 * nx + 1000 * i))) :: sl, (1000000 * nx + 1000 * i, .vec E T xs) :: mem, n0, gd⟩ (addK draw ks (okeys args.toList, [.s d, .m (1000000 * nx + 1000 * i)])) Q) (hm : midsVs vs = [] := by rfl) (hdn : Nat.blt d n = true := by rfl) :
  RG P n ops draw nx i (⟨some d, .call ⟨.value (.func f), args, tys⟩, ty, pos, aft, none⟩ :: os) ⟨sl, mem, n0, gd⟩ ks Q :=
 rg_ok (fun ho => callV_ok ho rfl rfl (Nat.le_of_ble_eq_true hdn) rfl hv hm hf) (rg_addK h)
end
end Go.El

namespace Go.El
open Go Go.RowKit Go.Proofs
section
variable {P : Program} {tt : TT}
theorem evalM_ok (htt : ttB P tt = true) {n new : Nat} {ops : Array Oper} {i : Nat} {o : Oper} (ho : ops[i]? = some o) (hg : o.guard = none) {d : Nat} (hd : o.dst = some d) (hdn : d < n) {st : St} {x : AV} {p : Pr} (he : evalM tt st o.op = some (x, p)) (hp : p) : StepOk P n ops i st (st.put d x) new (okeys o.op.operands.toList, [.s d]) := by
 refine ⟨rdV st o.op, [(.s d, some (.v x))], evalM_sound htt ho hg hd hdn he hp new, ?_, kn_put st d x, okeys_opd st _, fun k hk => by simpa [keysOf] using hk⟩
 intro kx hkx
 let ⟨x, _, h⟩ := List.mem_flatMap.1 hkx
 exact opd_kn st x kx h
theorem rg_evalM {n : Nat} {ops : Array Oper} {draw : Bool} {nx i : Nat} {d : Nat} {op : Op} {ty : TypeId} {pos : String} {aft : Array Edge} {os : List Oper} {sl : List (Nat × AV)} {mem : List (Nat × Blk)} {n0 : Nat} {gd : List (Nat × Bool)} {ks : List Ks} {Q : St → Prop} (htt : ttB P tt = true) {x : AV} {p : Pr} (he : evalM tt ⟨sl, mem, n0, gd⟩ op = some (x, p)) (hp : p)
  (h : RG P n ops draw nx (i + 1) os ⟨(d, x) :: sl, mem, n0, gd⟩ (addK draw ks (okeys op.operands.toList, [.s d])) Q) (hdn : Nat.blt d n = true := by rfl) :
  RG P n ops draw nx i (⟨some d, op, ty, pos, aft, none⟩ :: os) ⟨sl, mem, n0, gd⟩ ks Q :=
 rg_ok (fun ho => evalM_ok htt ho rfl rfl (Nat.le_of_ble_eq_true hdn) he hp) (rg_addK h)
end
section
variable {n : Nat} {Q : Post} {sl sl' : List (Nat × AV)} {mem mem' : List (Nat × Blk)} {nx : Nat} {gd gd' : List (Nat × Bool)} {ops : Array Oper} {draw : Bool} {p : Pr} {ks ks' : List Ks} {i i' n0 n0' : Nat} {os os' : List Oper} {d : Nat} {ty : TypeId} {pos : String} {aft : Array Edge} {R : St → Prop}
theorem rx {op : Op} {x : AV} {pm : Pr} (h : runs TTab n nx draw ops.toList os i ⟨sl, mem, n0, gd⟩ .t ks = (⟨some d, op, ty, pos, aft, none⟩ :: os', i', ⟨sl', mem', n0', gd'⟩, p, ks')) (he : evalM TTab ⟨sl', mem', n0', gd'⟩ op = some (x, pm)) (hpm : pm)
  (hk : RG Tryz.prog n ops draw nx (i' + 1) os' ⟨(d, x) :: sl', mem', n0', gd'⟩ (addK draw ks' (okeys op.operands.toList, [.s d])) R)
  (hp : p := by exact dfpT) (hdn : Nat.blt d n = true := by rfl) : RG Tryz.prog n ops draw nx i os ⟨sl, mem, n0, gd⟩ ks R :=
 rg_run TT_ok h hp (rg_evalM TT_ok he hpm hk hdn)
theorem rcv {f : FuncId} {args : Array Operand} {tys : Array TypeId} {vs : List AV} {E : TypeId} {T : ET} {xs : List T.den} (h : runs TTab n nx draw ops.toList os i ⟨sl, mem, n0, gd⟩ .t ks = (⟨some d, .call ⟨.value (.func f), args, tys⟩, ty, pos, aft, none⟩ :: os', i', ⟨sl', mem', n0', gd'⟩, p, ks')) (hv : evs ⟨sl', mem', n0', gd'⟩ args.toList = some vs) (hf : FnV Tryz.prog f vs E T xs)
  (hk : RG Tryz.prog n ops draw nx (i' + 1) os' ⟨(d, .c (.X (1000000 * nx + 1000 * i'))) :: sl', (1000000 * nx + 1000 * i', .vec E T xs) :: mem', n0', gd'⟩ (addK draw ks' (okeys args.toList, [.s d, .m (1000000 * nx + 1000 * i')])) R)
  (hp : p := by exact dfpT) (hm : midsVs vs = [] := by rfl) (hdn : Nat.blt d n = true := by rfl) : RG Tryz.prog n ops draw nx i os ⟨sl, mem, n0, gd⟩ ks R :=
 rg_run TT_ok h hp (rg_callV hv hf hk hm hdn)
end
end Go.El

namespace Go.El
open Go Go.RowKit
def renA (i j : Nat) : AV → AV
 | .c (.X k) => if k = j then .c (.X i) else .c (.X k)
 | v => v
def renS (i j : Nat) : List (Nat × AV) → List (Nat × AV)
 | [] => []
 | (t, v) :: r => (t, renA i j v) :: renS i j r
def renM (i j : Nat) : List (Nat × Blk) → List (Nat × Blk)
 | [] => []
 | (k, b) :: r => (if k = j then i else k, b) :: renM i j r
def okA2 (i j : Nat) : AV → Bool
 | .c (.X k) => !(k == i)
 | v => v.mids.all fun k => !(k == i) && !(k == j)
def okS (i j : Nat) : List (Nat × AV) → Bool
 | [] => true
 | (_, v) :: r => okA2 i j v && okS i j r
def okM (i j : Nat) : List (Nat × Blk) → Bool
 | [] => true
 | (k, b) :: r => !(k == i) && (b.mids.all fun k => !(k == i) && !(k == j)) && okM i j r
theorem look_renS (i j t : Nat) : ∀ l : List (Nat × AV), lookA t (renS i j l) = (lookA t l).map (renA i j)
 | [] => rfl
 | (k, v) :: r => by
  simp only [renS, lookA, look_renS i j t r]
  split <;> rfl
theorem okS_get {i j t : Nat} {v : AV} : ∀ {l : List (Nat × AV)}, okS i j l = true → lookA t l = some v → okA2 i j v = true
 | [], _, h => by simp [lookA] at h
 | (k, x) :: r, h, hl => by
  simp only [okS, Bool.and_eq_true] at h
  simp only [lookA] at hl
  split at hl
  ·cases hl; exact h.1
  ·exact okS_get h.2 hl
theorem okM_get {i j t : Nat} {b : Blk} : ∀ {l : List (Nat × Blk)}, okM i j l = true → lookA t l = some b → t ≠ i ∧ ∀ k ∈ b.mids, k ≠ i ∧ k ≠ j
 | [], _, h => by simp [lookA] at h
 | (k, x) :: r, h, hl => by
  simp only [okM, Bool.and_eq_true, List.all_eq_true] at h
  simp only [lookA] at hl
  split at hl
  ·rename_i e
   cases hl
   subst e
   exact ⟨by simpa using h.1.1, fun k hk => by simpa using h.1.2 k hk⟩
  ·exact okM_get h.2 hl
theorem look_renM {i j : Nat} (t : Nat) {b : Blk} : ∀ {l : List (Nat × Blk)}, okM i j l = true → lookA t (renM i j l) = some b → (t = i ∧ lookA j l = some b) ∨ (t ≠ i ∧ t ≠ j ∧ lookA t l = some b)
 | [], _, h => by simp [renM, lookA] at h
 | (k, x) :: r, h, hl => by
  simp only [okM, Bool.and_eq_true] at h
  have hki : k ≠ i := by simpa using h.1.1
  simp only [renM, lookA] at hl
  by_cases hkj : k = j
  ·rw [if_pos hkj] at hl
   subst hkj
   split at hl
   ·rename_i e; cases hl; exact .inl ⟨e.symm, by simp [lookA]⟩
   ·rename_i hne
    rcases look_renM t h.2 hl with ⟨rfl, _⟩ | ⟨h1, h2, h3⟩
    ·exact absurd rfl hne
    ·exact .inr ⟨h1, h2, by simp only [lookA]; rw [if_neg (fun (e : k = t) => h2 e.symm)]; exact h3⟩
  ·rw [if_neg hkj] at hl
   split at hl
   ·rename_i e; cases hl; subst e; exact .inr ⟨hki, hkj, by simp [lookA]⟩
   ·rename_i hne
    rcases look_renM t h.2 hl with ⟨rfl, h2⟩ | ⟨h1, h2, h3⟩
    ·exact .inl ⟨rfl, by simp only [lookA, if_neg hkj]; exact h2⟩
    ·exact .inr ⟨h1, h2, by simp only [lookA, if_neg hne]; exact h3⟩
theorem wk_ren (i j : Nat) {sl : List (Nat × AV)} {mem : List (Nat × Blk)} {nx : Nat} {gd : List (Nat × Bool)} (hi : Nat.blt i (1000000 * nx) = true) (hs : okS i j sl = true) (hm : okM i j mem = true) (hi0 : Nat.ble 1 i = true := by rfl) : Wk ⟨sl, mem, nx, gd⟩ ⟨renS i j sl, renM i j mem, nx, gd⟩ := by
 intro F hk0 g W a h
 have hi : i < 1000000 * nx := by simpa [Nat.blt_eq] using hi
 let g' : Gh := ⟨g.H, fun id => if id = i then g.γ j else g.γ id⟩
 have hle : GLe (fun id => id ≠ i) g g' := ⟨FLe.refl _, fun id hid => if_neg hid⟩
 have hgi : g'.γ i = g.γ j := if_pos rfl
 have hgn : ∀ id, id ≠ i → g'.γ id = g.γ id := fun id hid => if_neg hid
 have hS : ∀ t v', St.kn ⟨renS i j sl, renM i j mem, nx, gd⟩ (.s t) = some (.v v') → ∃ v, lookA t sl = some v ∧ v' = renA i j v := by
  intro t v' e
  simp only [St.kn, look_renS, Option.map_map, Option.map_eq_some_iff] at e
  let ⟨v, hv, he⟩ := e
  cases he
  exact ⟨v, hv, rfl⟩
 have hM : ∀ t b, St.kn ⟨renS i j sl, renM i j mem, nx, gd⟩ (.m t) = some (.b b) → (t = i ∧ lookA j mem = some b) ∨ (t ≠ i ∧ t ≠ j ∧ lookA t mem = some b) := by
  intro t b e
  simp only [St.kn, Option.map_eq_some_iff] at e
  let ⟨v, hv, he⟩ := e
  cases he
  exact look_renM t hm hv
 have keepB : ∀ t u b, lookA t mem = some b → RepB F.N g W t b → g'.γ u = g.γ t → RepB F.N g' W u b := by
  intro t u b hb hr hγ
  have hmid := (okM_get hm hb).2
  cases b with
  | box E bz cs =>
   let ⟨k, vs, rest, e1, e2, e3, e4, e5, e6⟩ := hr
   exact ⟨k, vs, rest, by rw [hγ]; exact e1, e2, RelL.mono hle (fun id hid => (hmid id hid).1) e3, e4, e5, by rw [hγ]; exact e6⟩
  | vec E T ys =>
   rcases hr with ⟨e1, e2⟩ | ⟨k, cap, vs, e1, e2⟩
   ·exact .inl ⟨by rw [hγ]; exact e1, e2⟩
   ·exact .inr ⟨k, cap, vs, by rw [hγ]; exact e1, e2⟩
  | clo f first caps =>
   let ⟨us, ws, e1, e2, e3⟩ := hr
   exact ⟨us, ws, by rw [hγ]; exact e1, RelT.mono hle (fun id hid => (hmid id (List.mem_append_left _ hid)).1) e2, RelT.mono hle (fun id hid => (hmid id (List.mem_append_right _ hid)).1) e3⟩
  | fz E cs =>
   let ⟨k, vs, rest, e1, e2, e3, e4, e5⟩ := hr
   exact ⟨k, vs, rest, by rw [hγ]; exact e1, e2, RelL.mono hle (fun id hid => (hmid id hid).1) e3, e4, e5⟩
  | mp ka va ys =>
   let ⟨k, es, e1, e2, e3, e4⟩ := hr
   exact ⟨k, es, by rw [hγ]; exact e1, e2, RelM.mono hle (fun id hid => (hmid id hid).1) e3, e4⟩
  | it m n seen =>
   let ⟨k, b, e1, e0, e2⟩ := hr
   exact ⟨k, b, by rw [hγ]; exact e1, by rw [hle.γ m (hmid m (by simp [Blk.mids])).1]; exact e0, e2⟩
  | itn m n seen =>
   let ⟨k0, k1, k2, k, b, e1, e0, e2⟩ := hr
   exact ⟨k0, k1, k2, k, b, by rw [hγ]; exact e1, by rw [hle.γ m (hmid m (by simp [Blk.mids])).1]; exact e0, e2⟩
 have old : ∀ t b, lookA t mem = some b → St.kn ⟨sl, mem, nx, gd⟩ (.m t) = some (.b b) := fun t b hb => by simp [St.kn, hb]
 refine ⟨g', h.size, h.defers, ?_, ?_, ?_, ?_, ?_, h.sub, h.below, h.le, h.fresh, fun id hid => ⟨(h.kfix id hid).1, by have := Nat.le_of_ble_eq_true hi0; rw [hgn id (by omega)]; exact (h.kfix id hid).2⟩⟩
 ·intro t v' e
  obtain ⟨v, hv, rfl⟩ := hS t v' e
  have hr := h.slots t v (by simp [St.kn, hv])
  have hok := okS_get hs hv
  unfold renA
  split
  ·rename_i k
   have hki : k ≠ i := by simpa [okA2] using hok
   have hr' : a.tmps.getD t undef = g.γ k := hr
   split
   ·rename_i e'; subst e'; show _ = g'.γ i; rw [hgi]; exact hr'
   ·show _ = g'.γ k; rw [hgn k hki]; exact hr'
  ·rename_i hne
   refine RelV.mono hle (fun id hid => ?_) hr
   unfold okA2 at hok
   split at hok
   ·rename_i k; exact absurd rfl (hne k)
   ·have := (List.all_eq_true.1 hok) id hid
    simp at this
    exact this.1
 ·intro t b e
  rcases hM t b e with ⟨rfl, hb⟩ | ⟨h1, h2, hb⟩
  ·exact keepB j t b hb (h.blks j b (old j b hb)) hgi
  ·exact keepB t t b hb (h.blks t b (old t b hb)) (hgn t h1)
 ·intro t u b b' k e e' hk hk'
  rcases hM t b e with ⟨rfl, hb⟩ | ⟨h1, h2, hb⟩ <;> rcases hM u b' e' with ⟨rfl, hb'⟩ | ⟨h1', h2', hb'⟩
  ·rfl
  ·rw [hgi] at hk; rw [hgn u h1'] at hk'
   exact absurd (h.inj j u b b' k (old _ _ hb) (old _ _ hb') hk hk') (fun e => h2' e.symm)
  ·rw [hgi] at hk'; rw [hgn t h1] at hk
   exact absurd (h.inj t j b b' k (old _ _ hb) (old _ _ hb') hk hk') h2
  ·rw [hgn t h1] at hk; rw [hgn u h1'] at hk'
   exact h.inj t u b b' k (old _ _ hb) (old _ _ hb') hk hk'
 ·intro key x e id hid
  cases key with
  | s t =>
   cases x with
   | b b' => simp only [St.kn, Option.map_eq_some_iff] at e; let ⟨_, _, he⟩ := e; cases he
   | v v' =>
    obtain ⟨v, hv, rfl⟩ := hS t v' e
    have hm0 := h.mids (.s t) (.v v) (by simp [St.kn, hv])
    have hid : id ∈ (renA i j v).mids := hid
    unfold renA at hid
    split at hid
    ·split at hid
     ·simp only [AV.mids, C.mids, List.mem_singleton] at hid; subst hid; exact hi
     ·exact hm0 id hid
    ·exact hm0 id hid
  | m t =>
   cases x with
   | v v' => simp only [St.kn, Option.map_eq_some_iff] at e; let ⟨_, _, he⟩ := e; cases he
   | b b' =>
    rcases hM t b' e with ⟨rfl, hb⟩ | ⟨h1, h2, hb⟩
    ·exact h.mids (.m j) (.b b') (old j b' hb) id hid
    ·exact h.mids (.m t) (.b b') (old t b' hb) id hid
 ·intro t x e
  cases x with
  | v v' => simp only [St.kn, Option.map_eq_some_iff] at e; let ⟨_, _, he⟩ := e; cases he
  | b b' =>
   rcases hM t b' e with ⟨rfl, hb⟩ | ⟨h1, h2, hb⟩
   ·exact hi
   ·exact h.mkn t _ (old t b' hb)
theorem Wk.trans {a b c : St} (h : Wk a b) (k : Wk b c) : Wk a c := fun F hk g W ac hh => by
 let ⟨g', h'⟩ := h F hk g W ac hh
 exact k F hk g' W ac h'
def RetM (g : Gh) (W : World) (E : TypeId) (T : ET) (r : AV) (xs' : List T.den) (e : Ending) (W' : World) : Prop :=
 ∃ v g', e = .returned v ∧ RelV ⟨g'.H, noγ⟩ r v ∧ RepB (fun _ => True) g' W' 0 (.vec E T xs') ∧ g'.γ 0 = g.γ 0 ∧ FLe g.H g'.H ∧ (∀ b o, b < W.heap.size → ¬ blk (g.γ 0) = some b → g'.H b o = g.H b o) ∧ Sub g'.H W' ∧ BelowX (fun b => blk (g.γ 0) = some b) W W'
structure FnM (P : Program) (f : FuncId) (args : List AV) (E : TypeId) (T : ET) (xs : List T.den) (r : AV) (xs' : List T.den) : Prop where
 call : callB P f = true
 noid : r.mids = []
 spec : ∀ g W vs, Sub g.H W → RelVs g args vs → RepB (fun _ => True) g W 0 (.vec E T xs) → Calls P f vs.toArray W (RetM g W E T r xs')
def RetQM (P : Program) (fn : Func) (E : TypeId) (T : ET) (r : AV) (xs' : List T.den) : Post := fun F e a W => F.k0 = 1 → bodyPost P fn (fun e W' => ∃ v g', e = .returned v ∧ RelV ⟨g'.H, noγ⟩ r v ∧ RepB F.N g' W' 0 (.vec E T xs') ∧ g'.γ 0 = F.γ0 0 ∧ FLe F.H0 g'.H ∧ (∀ b o, b < F.w0.heap.size → ¬ F.own b → g'.H b o = F.H0 b o) ∧ Sub g'.H W' ∧ BelowX F.own F.w0 W') e a W
section
variable {P : Program} {tt : TT} {n : Nat} {st : St}
theorem at_retM (htt : ttB P tt = true) {fn : Func} {rs : List ResultVar} {r' r : AV} {E : TypeId} {T : ET} {xs' : List T.den} (hr : resAll tt st rs = some r') (hle : AVle r' r) (hm0 : lookA 0 st.mem = some (.vec E T xs')) (hrs : fn.results = rs.toArray := by rfl) (hm : r.mids = [] := by rfl) : AtQ n .ret st (RetQM P fn E T r xs') := by
 intro F hF g W a h hk
 let ⟨u, hu, hrel⟩ := run_results htt h hrs hr
 exact ⟨h.defers.trans hF.ds, u, hu, u, g, rfl, (hle.1 _ _ hrel).noid hm (FLe.refl _) noγ, h.blks 0 _ (by simp [St.kn, hm0]), (h.kfix 0 (by omega)).2, h.le, h.fresh, h.sub, h.below⟩
theorem at_endM (htt : ttB P tt = true) {fn : Func} {rs : List ResultVar} {r' r : AV} {E : TypeId} {T : ET} {xs' : List T.den} (hr : resAll tt st rs = some r') (hle : AVle r' r) (hm0 : lookA 0 st.mem = some (.vec E T xs')) (hrs : fn.results = rs.toArray := by rfl) (hm : r.mids = [] := by rfl) : AtQ n .normal st (RetQM P fn E T r xs') :=
 fun F hF g W a h => at_retM htt hr hle hm0 hrs hm F hF g W a h
def all0 : List Nat → Bool
 | [] => true
 | id :: r => Nat.beq id 0 && all0 r
theorem all0_ok : ∀ {l : List Nat}, all0 l = true → ∀ id ∈ l, id = 0
 | [], _, _, h => by cases h
 | j :: r, hb, id, h => by
  simp only [all0, Bool.and_eq_true] at hb
  rcases List.mem_cons.1 h with rfl | h
  ·exact Nat.eq_of_beq_eq_true hb.1
  ·exact all0_ok hb.2 id h
theorem fm_intro {f : FuncId} {fn : Func} {c : Code} {args : List AV} {E : TypeId} {T : ET} {xs xs' : List T.den} {r : AV} (hf : P.funcs[f]? = some fn) (hb : fn.body = some c) (hN : fn.ntmps = n) (hle : Nat.ble args.length n = true) (hma : all0 (midsVs args) = true) (hmr : r.mids = []) (hname : (fn.name != "runtime.NumGoroutine") = true)
  (h : TR P n c ⟨argSl 0 args, [(0, .vec E T xs)], 1, []⟩ (RetQM P fn E T r xs')) : FnM P f args E T xs r xs' := by
 refine ⟨by simp [callB, hf, hb, hname], hmr, ?_⟩
 intro g W vs hsub hrel hrep
 refine calls_of_wp hf hb ?_
 have hlen := relVs_length hrel
 have hle := Nat.le_of_ble_eq_true hle
 have hmem : ∀ id b, St.kn ⟨argSl 0 args, [(0, .vec E T xs)], 1, []⟩ (.m id) = some (.b b) → id = 0 ∧ b = .vec E T xs := by
  intro id b e
  simp only [St.kn, lookA, Option.map_eq_some_iff] at e
  let ⟨x, hx, he⟩ := e
  cases he
  split at hx
  ·rename_i e0; cases hx; exact ⟨e0.symm, rfl⟩
  ·cases hx
 let F : Fix := { w0 := W, H0 := g.H, n := n, own := fun b => blk (g.γ 0) = some b, k0 := 1, γ0 := g.γ }
 refine wp_mono (h F ⟨rfl, Nat.le_refl _, rfl, rfl⟩ g W _ ⟨?_, rfl, ?_, ?_, ?_, ?_, ?_, hsub, ⟨rfl, rfl, rfl, Nat.le_refl _, fun _ _ _ => rfl⟩, FLe.refl _, fun _ _ _ _ => rfl, ?_⟩) ?_
 ·simp [hN, F]; omega
 ·intro t v ht
  simp only [St.kn, Option.map_eq_some_iff] at ht
  let ⟨x, hx, he⟩ := ht
  cases he
  let ⟨_, u, hu, hr, _⟩ := argSl_look args vs 0 hrel t v hx
  have hu' : vs[t]? = some u := by simpa using hu
  have hlt : t < vs.length := (List.getElem?_eq_some_iff.1 hu').1
  have : (vs.toArray ++ Array.replicate (fn.ntmps - vs.toArray.size) undef).getD t undef = u := by
   rw [Array.getD_eq_getD_getElem?, Array.getElem?_append_left (by simpa using hlt)]
   simp [hu']
  rw [this]
  exact hr
 ·intro id b e
  obtain ⟨rfl, rfl⟩ := hmem id b e
  exact hrep.reN (fun k hk => .inr hk) rfl rfl ⟨FLe.refl _, fun _ _ => rfl⟩
 ·intro id id' b b' k e e' _ _
  rw [(hmem id b e).1, (hmem id' b' e').1]
 ·intro k x e id hid
  cases k with
  | m j =>
   cases x with
   | v y => simp only [St.kn, Option.map_eq_some_iff] at e; let ⟨_, _, he⟩ := e; cases he
   | b b => obtain ⟨_, rfl⟩ := hmem j b e; simp [Info.mids, Blk.mids] at hid
  | s t =>
   simp only [St.kn, Option.map_eq_some_iff] at e
   let ⟨y, hy, he⟩ := e
   subst he
   let ⟨_, u, _, _, h6⟩ := argSl_look args vs 0 hrel t y hy
   have := all0_ok hma id (h6 id hid)
   subst this
   show 0 < 1000000 * 1
   decide
 ·intro id x e
  cases x with
  | v y => simp only [St.kn, Option.map_eq_some_iff] at e; let ⟨_, _, he⟩ := e; cases he
  | b b => rw [(hmem id b e).1]; show 0 < 1000000 * 1; decide
 ·intro id hid
  have : id = 0 := by have : id < 1 := hid; omega
  subst this
  exact ⟨by show 0 < 1000000 * 1; decide, rfl⟩
 ·intro e a W' hq
  have hq := hq rfl
  have key : ∀ e W', (∃ v g', e = Ending.returned v ∧ RelV ⟨g'.H, noγ⟩ r v ∧ RepB F.N g' W' 0 (.vec E T xs') ∧ g'.γ 0 = F.γ0 0 ∧ FLe F.H0 g'.H ∧ (∀ b o, b < F.w0.heap.size → ¬ F.own b → g'.H b o = F.H0 b o) ∧ Sub g'.H W' ∧ BelowX F.own F.w0 W') → RetM g W E T r xs' e W' := by
   rintro e W' ⟨v, g', h1, h2, h3, h4⟩
   exact ⟨v, g', h1, h2, h3.reN (fun _ _ => trivial) rfl rfl ⟨FLe.refl _, fun _ _ => rfl⟩, h4⟩
  cases e with
  | normal => let ⟨h1, v, h2, h3⟩ := hq; exact ⟨h1, v, h2, key _ _ h3⟩
  | ret => let ⟨h1, v, h2, h3⟩ := hq; exact ⟨h1, v, h2, key _ _ h3⟩
  | panic c => let ⟨h1, h3⟩ := hq; exact ⟨h1, key _ _ h3⟩
  | outgrown => exact key _ _ hq
  | exit _ => exact hq
  | goto _ => exact hq
def mvC (id : Nat) : C → C
 | .P _ o => .P id o
 | .X _ => .X id
 | .Y _ n i o => .Y id n i o
 | .L _ o l c => .L id o l c
 | .W _ o l => .W id o l
 | c => c
def mvA (id : Nat) : AV → AV
 | .c x => .c (mvC id x)
 | .a cs => .a (cs.map (mvC id))
 | .t ss => .t (ss.map fun s => (s.1, s.2.map (mvC id)))
theorem mvC_rel {g : Gh} {id : Nat} : ∀ {c : C} {v : Value}, RelC g (mvC id c) v → RelC ⟨g.H, fun _ => g.γ id⟩ c v
 | .any, _, h => h
 | .B _, _, h => h
 | .I _ _, _, h => h
 | .V _, _, h => h
 | .S _ _, _, h => h
 | .P _ _, _, h => h
 | .X _, _, h => h
 | .Y _ _ _ _, _, h => h
 | .E _ _ _, _, h => h
 | .M _, _, h => h
 | .L _ _ _ (some _), _, h => h
 | .L _ _ _ none, _, h => h
 | .W _ _ _, _, h => h
theorem mvL_rel {g : Gh} {id : Nat} : ∀ {cs : List C} {vs : List Value}, RelL g (cs.map (mvC id)) vs → RelL ⟨g.H, fun _ => g.γ id⟩ cs vs
 | [], _, h => h
 | _ :: _, _, h => by
  let ⟨v, r, e, h1, h2⟩ := h
  exact ⟨v, r, e, mvC_rel h1, mvL_rel h2⟩
theorem mvT_rel {g : Gh} {id : Nat} : ∀ {cs : List (Bool × List C)} {vs : List Value}, RelT g (cs.map fun s => (s.1, s.2.map (mvC id))) vs → RelT ⟨g.H, fun _ => g.γ id⟩ cs vs
 | [], _, h => h
 | (b, c) :: _, _, h => by
  let ⟨v, r, e, h1, h2⟩ := h
  refine ⟨v, r, e, ?_, mvT_rel h2⟩
  match b, c, h1 with
  | true, c, h1 => let ⟨vs, e, h⟩ := h1; exact ⟨vs, e, mvL_rel h⟩
  | false, [c], h1 => exact mvC_rel h1
  | false, [], h1 => exact h1.elim
  | false, _ :: _ :: _, h1 => exact h1.elim
theorem mvA_rel {g : Gh} {id : Nat} {x : AV} {v : Value} (h : RelV g (mvA id x) v) : RelV ⟨g.H, fun _ => g.γ id⟩ x v := by
 cases x with
 | c y => exact mvC_rel h
 | a cs => let ⟨vs, e, h⟩ := h; exact ⟨vs, e, mvL_rel h⟩
 | t ss => let ⟨vs, e, h⟩ := h; exact ⟨vs, e, mvT_rel h⟩
theorem mvVs_rel {g : Gh} {id : Nat} : ∀ {xs : List AV} {vs : List Value}, RelVs g (xs.map (mvA id)) vs → RelVs ⟨g.H, fun _ => g.γ id⟩ xs vs
 | [], _, h => h
 | _ :: _, _, h => by
  let ⟨v, r, e, h1, h2⟩ := h
  exact ⟨v, r, e, mvA_rel h1, mvVs_rel h2⟩
theorem callM_ok {n new : Nat} {ops : Array Oper} {i : Nat} {o : Oper} (ho : ops[i]? = some o) (hg : o.guard = none) {d : Nat} (hd : o.dst = some d) (hdn : d < n) {f : FuncId} {args : Array Operand} {tys : Array TypeId} (hop : o.op = .call ⟨.value (.func f), args, tys⟩)
  {st : St} {vs : List AV} {id : Nat} {E : TypeId} {T : ET} {xs xs' : List T.den} {r : AV} (hv : evs st args.toList = some (vs.map (mvA id))) (hl : lookA id st.mem = some (.vec E T xs)) (hf : FnM P f vs E T xs r xs') : StepOk P n ops i st ((st.pm id (.vec E T xs')).put d r) new (okeys args.toList ++ mkeys [id], [.s d, .m id]) := by
 refine ⟨args.toList.flatMap (opd st) ++ mrd st [id], [(.s d, some (.v r)), (.m id, some (.b (.vec E T xs')))], ?_, ?_, kn_put_pm st d id _ _, ?_, fun k hk => by simpa [keysOf] using hk⟩
 ·intro F hFn Q known σ g W a K hnew hsem hrd hK
  have hargs := evs_rel hsem st _ _ hv (fun kx hkx => hrd kx (List.mem_append_left _ hkx))
  have hσ : σ (.m id) = some (.b (.vec E T xs)) := hrd (.m id, .b (.vec E T xs)) (by simp [mrd, hl])
  have hrep := hsem.blks id _ hσ
  have hrep0 : RepB (fun _ => True) ⟨g.H, fun _ => g.γ id⟩ W 0 (.vec E T xs) := by
   rcases hrep with ⟨e1, e2⟩ | ⟨b, cap, ws, e1, e2, e3, e4, e5, e6, e7, e8⟩
   ·exact .inl ⟨e1, e2⟩
   ·exact .inr ⟨b, cap, ws, e1, e2, e3, e4, e5, e6, trivial, e8⟩
  have hc := hf.spec ⟨g.H, fun _ => g.γ id⟩ W _ hsem.sub (mvVs_rel hargs) hrep0
  unfold wpOp
  simp only [ho, Region.wanted, hg, if_true]
  refine .inl ?_
  unfold Oper.wp
  have hex : (execOp a.eval o).run P W = .ok (.enter f (args.map a.eval)) W := by
   have hcb := hf.call
   unfold callB at hcb
   rw [execOp, hop]
   cases hfn : P.funcs[f]? with
   | none => rw [hfn] at hcb; simp at hcb
   | some fn =>
    rw [hfn] at hcb
    simp only [Bool.and_eq_true, bne_iff_ne, ne_eq] at hcb
    have h2 : fn.body ≠ none := by
     intro hb
     rw [hb] at hcb
     simp at hcb
    simp [resolve, Act.eval, Deferred.ofValue, invoke, callFunc, hfn, hcb.1, h2]
  rw [hex]
  simp only [Oper.upon]
  have harr : (args.map a.eval) = (args.toList.map a.eval).toArray := by apply Array.ext'; simp
  rw [harr]
  refine hc.mono ?_
  rintro e W' ⟨v, g', rfl, hrv, hrep', hγ', hle, hfr, hsub, hbl⟩
  simp only [hd]
  have hsz : d < a.tmps.size := by rw [hsem.size, hFn]; exact hdn
  let g2 : Gh := ⟨g'.H, g.γ⟩
  have hGle : GLe known g g2 := ⟨hle, fun _ _ => rfl⟩
  have hγ' : g'.γ 0 = g.γ id := hγ'
  have hfr' : ∀ b o, b < W.heap.size → g2.H b o = g.H b o := by
   intro b o hb
   by_cases hbb : blk (g.γ id) = some b
   ·rcases hrep with ⟨e1, _⟩ | ⟨b1, cap, ws, e1, e2, e3, e4, e5, e6, e7, e8⟩
    ·rw [e1] at hbb; simp [blk] at hbb
    ·rcases hrep' with ⟨e1', _⟩ | ⟨b2, cap', ws', e1', e2', e3', e4', e5', e6', e7', e8'⟩
     ·rw [hγ', e1] at e1'; simp at e1'
     ·have h1 : b1 = b := by rw [e1] at hbb; simpa [blk] using hbb
      have h2 : b2 = b := by rw [← hγ', e1'] at hbb; simpa [blk] using hbb
      subst h1
      rw [e8 o]
      subst h2
      exact e8' o
   ·exact hfr b o hb hbb
  refine hK g2 W' _ (hsem.step (chg := fun j => j = id) (g' := g2) ⟨hGle, hfr', hsub, hbl.size, ?_, hbl.os, hbl.tape, hbl.output⟩ _ new hnew (by simp [Act.put]) hsem.defers ?_ ?_ ?_ ?_ ?_ ?_)
  ·intro k hk hne
   exact hbl.block k hk (hne id rfl)
  ·intro t ht
   have hne : d ≠ t := by intro e; subst e; simp [says] at ht
   simp [Act.put, Array.getElem?_setIfInBounds_ne hne]
  ·intro j hj
   subst hj
   exact ⟨by simp [says], _, hσ⟩
  ·intro t u ht
   simp only [says] at ht
   split at ht
   ·rename_i e
    simp only [Key.s.injEq] at e
    simp only [Option.some.injEq, Info.v.injEq] at ht
    subst e; subst ht
    have := hrv.noid hf.noid (FLe.refl _) g.γ
    simpa [Act.put, hsz, g2] using this
   ·split at ht
    ·simp at ht
    ·simp at ht
  ·intro j b ht
   simp only [says, reduceCtorEq, if_false] at ht
   split at ht
   ·rename_i e
    simp only [Key.m.injEq] at e
    simp only [Option.some.injEq, Info.b.injEq] at ht
    subst e; subst ht
    refine ⟨?_, .inl ⟨hsem.mkn _ _ hσ, _, hσ⟩⟩
    rcases hrep' with ⟨e1', e2'⟩ | ⟨b2, cap', ws', e1', e2', e3', e4', e5', e6', e7', e8'⟩
    ·exact .inl ⟨by show g.γ id = _; rw [← hγ', e1'], e2'⟩
    ·refine .inr ⟨b2, cap', ws', by show g.γ id = _; rw [← hγ', e1'], e2', e3', e4', e5', e6', ?_, e8'⟩
     exact (hrep.block (k := b2) (by rw [← hγ', e1']; rfl)).1
   ·simp at ht
  ·intro k y ht
   simp only [says] at ht
   split at ht
   ·simp only [Option.some.injEq] at ht
    subst ht
    intro id hid
    simp only [Info.mids] at hid
    rw [hf.noid] at hid
    cases hid
   ·split at ht
    ·simp only [Option.some.injEq] at ht
     subst ht
     intro id hid
     simp [Info.mids, Blk.mids] at hid
    ·simp at ht
  ·intro j y ht
   simp only [says, reduceCtorEq, if_false] at ht
   split at ht
   ·rename_i e
    simp only [Key.m.injEq] at e
    exact .inl (e ▸ hsem.mkn _ _ hσ)
   ·simp at ht
 ·intro kx hkx
  rcases List.mem_append.1 hkx with hkx | hkx
  ·let ⟨x, _, h⟩ := List.mem_flatMap.1 hkx
   exact opd_kn st x kx h
  ·exact mrd_kn st [id] kx hkx
 ·intro k hk
  simp only [rkeysOf, List.map_append, List.mem_append] at hk
  rcases hk with h | h
  ·exact List.mem_append_left _ (okeys_opd st _ k h)
  ·exact List.mem_append_right _ (mkeys_mrd st [id] k h)
theorem rg_callM {n : Nat} {ops : Array Oper} {draw : Bool} {nx i : Nat} {d f : Nat} {args : Array Operand} {tys : Array TypeId} {ty : TypeId} {pos : String} {aft : Array Edge} {os : List Oper} {sl : List (Nat × AV)} {mem : List (Nat × Blk)} {n0 : Nat} {gd : List (Nat × Bool)} {ks : List Ks} {Q : St → Prop} {vs : List AV} {id : Nat} {E : TypeId} {T : ET} {xs xs' : List T.den} {r : AV}
  (hv : evs ⟨sl, mem, n0, gd⟩ args.toList = some (vs.map (mvA id))) (hl : lookA id mem = some (.vec E T xs)) (hf : FnM P f vs E T xs r xs') (h : RG P n ops draw nx (i + 1) os ⟨(d, r) :: sl, (id, .vec E T xs') :: mem, n0, gd⟩ (addK draw ks (okeys args.toList ++ mkeys [id], [.s d, .m id])) Q) (hdn : Nat.blt d n = true := by rfl) :
  RG P n ops draw nx i (⟨some d, .call ⟨.value (.func f), args, tys⟩, ty, pos, aft, none⟩ :: os) ⟨sl, mem, n0, gd⟩ ks Q :=
 rg_ok (fun ho => callM_ok ho rfl rfl (Nat.le_of_ble_eq_true hdn) rfl hv hl hf) (rg_addK h)
theorem win_ok (htt : ttB P tt = true) {n new : Nat} {ops : Array Oper} {i : Nat} {o : Oper} (ho : ops[i]? = some o) (hg : o.guard = none) {d : Nat} (hd : o.dst = some d) (hdn : d < n) {t : TypeId} {x lo hi : Operand} (hop : o.op = .slice t x (some lo) (some hi) none)
  {st : St} {id : Nat} {E : TypeId} {T : ET} {xs : List T.den} {k1 k2 : IntKind} {a b : Int} (hx : st.ev x = some (.c (.X id))) (hl : lookA id st.mem = some (.vec E T xs)) (hlo : st.ev lo = some (.c (.I k1 a))) (hhi : st.ev hi = some (.c (.I k2 b))) (hT : T.n = 1) (hst : slTy tt t 1 = true)
  {u v : Nat} (ea : a = (u : Int)) (eb : b = (v : Int)) (huv : u < v) (hv : v ≤ xs.length) : StepOk P n ops i st (st.put d (.c (.W id u (v - u)))) new (okeys [x, lo, hi] ++ mkeys [id], [.s d]) := by
 refine ⟨(opd st x ++ (opd st lo ++ opd st hi)) ++ mrd st [id], [(.s d, some (.v (.c (.W id u (v - u)))))], ?_, ?_, kn_put st d _, ?_, fun k hk => by simpa [keysOf] using hk⟩
 ·refine stepS_val ho hg hd hdn _ _ new ?_
  intro F known σ g W a' hsem hrd
  have hrx : a'.eval x = g.γ id := ev_rel hsem st x _ hx (fun kx hkx => hrd kx (by simp [hkx]))
  have hrl : a'.eval lo = .int k1 a := ev_rel hsem st lo _ hlo (fun kx hkx => hrd kx (by simp [hkx]))
  have hrh : a'.eval hi = .int k2 b := ev_rel hsem st hi _ hhi (fun kx hkx => hrd kx (by simp [hkx]))
  have hmx := ev_mids hsem st x _ hx (fun kx hkx => hrd kx (by simp [hkx]))
  have hσ : σ (.m id) = some (.b (.vec E T xs)) := hrd (.m id, .b (.vec E T xs)) (by simp [mrd, hl])
  let ⟨e, i', hue, hi', hs⟩ := slTy_ok htt hst
  rcases hsem.blks id _ hσ with ⟨_, h0⟩ | ⟨bb, cap, vs, hγ, _, _, hcap, _⟩
  ·subst h0; simp at hv; omega
  ·refine ⟨fun j hj => hmx j (by simpa [AV.mids, C.mids] using hj), .slice (some ⟨bb, u, none⟩) (v - u) (cap - u), ?_, bb, cap - u, by rw [hγ]; rfl, rfl, by omega⟩
   have hexec : execOp a'.eval o = (do pure (.value (← Instr.sliceAt t (a'.eval x) ((some lo).map a'.eval) ((some hi).map a'.eval) (none.map a'.eval)))) := by rw [execOp, hop]
   have hsb : (Instr.sliceBounds true xs.length cap (some (.int k1 a)) (some (.int k2 b)) none).run P W = .ok (u, v, cap) W := by
    have c1 : v ≤ cap := by omega
    have c2 : u ≤ v := by omega
    subst ea eb
    simp [Instr.sliceBounds, Instr.sliceBound, asIntOf, c1, c2, Sem.run, pure]
   have hne : ¬ cap = u := by omega
   rw [hexec]
   simp only [Option.map_some, Option.map_none, hrx, hrl, hrh, hγ, Instr.sliceAt, Sem.run_bind, run_underlying hue, Result.andThen, Instr.slice, hsb, run_sizeOf hi', hs]
   simp [hne, add_none, Sem.run, pure]
 ·intro kx hkx
  rcases List.mem_append.1 hkx with h | h
  ·rcases List.mem_append.1 h with h | h
   ·exact opd_kn _ x kx h
   ·rcases List.mem_append.1 h with h | h
    ·exact opd_kn _ lo kx h
    ·exact opd_kn _ hi kx h
  ·exact mrd_kn _ [id] kx h
 ·intro k hk
  simp only [rkeysOf, List.map_append, List.mem_append] at hk
  rcases hk with (h | h | h) | h
  ·exact List.mem_append_left _ (okeys_opd st [x, lo, hi] k (by simp only [rkeysOf, List.flatMap_cons, List.map_append, List.mem_append]; exact .inl h))
  ·exact List.mem_append_left _ (okeys_opd st [x, lo, hi] k (by simp only [rkeysOf, List.flatMap_cons, List.map_append, List.mem_append]; exact .inr (.inl h)))
  ·exact List.mem_append_left _ (okeys_opd st [x, lo, hi] k (by simp only [rkeysOf, List.flatMap_cons, List.map_append, List.mem_append]; exact .inr (.inr (.inl h))))
  ·exact List.mem_append_right _ (mkeys_mrd st [id] k h)
theorem relL_chunks2 {g : Gh} (T : ET) : ∀ (xs : List T.den) (vs : List Value), RelL g (xs.flatMap (av T)) vs → vs.length = xs.length * T.n ∧ ∀ i (h : i < xs.length), RelD g.H T xs[i] ((vs.drop (i * T.n)).take T.n)
 | [], vs, h => by
  have h : vs = [] := h
  subst h
  exact ⟨by simp, fun i h => by simp at h⟩
 | x :: xs, vs, h => by
  rw [List.flatMap_cons] at h
  obtain ⟨a, b, rfl, h1, h2⟩ := relL_append_split h
  have hd := av_relD T x a h1
  have ha := RelD.length T _ _ hd
  let ⟨hl, hc⟩ := relL_chunks2 T xs b h2
  refine ⟨by simp [ha, hl, Nat.add_mul]; omega, fun i hi => ?_⟩
  cases i with
  | zero =>
   simp only [Nat.zero_mul, List.drop_zero, List.getElem_cons_zero]
   rw [← ha, List.take_left']
   ·exact hd
   ·rfl
  | succ i =>
   simp only [List.getElem_cons_succ]
   have := hc i (by simpa using hi)
   rw [show (i + 1) * T.n = a.length + i * T.n by rw [Nat.add_mul, ha]; omega, ← List.drop_drop, List.drop_left']
   ·exact this
   ·rfl
theorem copyV_ok (htt : ttB P tt = true) {n new : Nat} {ops : Array Oper} {i : Nat} {o : Oper} (ho : ops[i]? = some o) (hg : o.guard = none) {d : Nat} (hd : o.dst = some d) (hdn : d < n) {x y : Operand} {t1 t2 : TypeId} (hop : o.op = .call ⟨.builtin .copy, #[x, y], #[t1, t2]⟩)
  {st : St} {id : Nat} {E E1 : TypeId} {T : ET} {xs ys : List T.den} {ei : TI} (hx : st.ev x = some (.c (.X id))) (hl : lookA id st.mem = some (.vec E T xs)) (hy : st.ev y = some (.c (.S T ys))) (hT : appI tt t1 t2 = some (E1, ei)) (hTn : ei.size = T.n) (hle : ys.length ≤ xs.length) (hne : xs ≠ []) :
  StepOk P n ops i st ((st.pm id (.vec E T (ys ++ xs.drop ys.length))).put d (.c (.I .i64 ys.length))) new (okeys [x, y] ++ mkeys [id], [.s d, .m id]) := by
 refine ⟨(opd st x ++ opd st y) ++ mrd st [id], [(.s d, some (.v (.c (.I .i64 ys.length)))), (.m id, some (.b (.vec E T (ys ++ xs.drop ys.length))))], ?_, ?_, kn_put_pm st d id _ _, ?_, fun k hk => by simpa [keysOf] using hk⟩
 ·intro F hFn Q known σ g W a K hnew hsem hrd hK
  have hT := appI_ok htt hT
  rw [hTn] at hT
  have hrx : a.eval x = g.γ id := ev_rel hsem st x _ hx (fun kx hkx => hrd kx (by simp [hkx]))
  have hry := ev_rel hsem st y _ hy (fun kx hkx => hrd kx (by simp [hkx]))
  have hσ : σ (.m id) = some (.b (.vec E T xs)) := hrd (.m id, .b (.vec E T xs)) (by simp [mrd, hl])
  let ⟨e2, hu2⟩ := hT.u2
  let ⟨inf, z, hinf, hisz, hiby, hzz, hzs⟩ := hT.info
  let ⟨us, hsrc, hru, hmu, huo⟩ := srcC_sound (P := P) (st := st) (sz := T.n) (y := .c (.S T ys)) (m := ys.length) (cs := ys.flatMap (av T)) (ids := []) hsem (by simp [srcC]) hry (fun id hid => by cases hid) hu2 (List.all_eq_true.2 (flat_av_ok ys))
  let ⟨hul, huc⟩ := relL_chunks2 T ys us hru
  rcases hsem.blks id _ hσ with ⟨_, h0⟩ | ⟨b, cap, vs, hγ, hh, hvl, hcap, hlen, hr, hN, hz⟩
  ·exact absurd h0 hne
  have hfit : us.length ≤ vs.length := by rw [hul, hvl]; exact Nat.mul_le_mul_right _ (by omega)
  have hst := run_storeCells (P := P) b us W vs 0 0 hh (by omega) huo
  simp only [Nat.add_zero] at hst
  have hrun : (Builtin.copy_ #[t1, t2] o.type #[a.eval x, a.eval y]).run P W = .ok (.int .i64 ys.length) (setBlk W b (over vs us 0) E) := by
   rw [hrx, hγ]
   have hmin : Nat.min ys.length xs.length = ys.length := Nat.min_eq_left hle
   have hc := hsrc.cells
   simp [Builtin.copy_, run_underlying hT.u1, sizeOf, typeInfo, hinf, hsrc.len, hmin, hisz, hc, hst, goInt, Sem.run, pure]
  have hex : (execOp a.eval o).run P W = .ok (.value (.int .i64 ys.length)) (setBlk W b (over vs us 0) E) := by
   refine run_callB hop (fun cs => ?_)
   have e : (#[x, y] : Array Operand).map a.eval = #[a.eval x, a.eval y] := by simp
   rw [e]
   simp only [Go.builtin, Sem.run_bind, hrun, Result.andThen]
   rfl
  unfold wpOp
  simp only [ho, Region.wanted, hg, if_true]
  refine .inl ?_
  unfold Oper.wp
  rw [hex]
  simp only [Oper.upon, hd]
  have hsz : d < a.tmps.size := by rw [hsem.size, hFn]; exact hdn
  have hb : b < W.heap.size := (Array.getElem?_eq_some_iff.1 hh).1
  have hxl : (ys ++ xs.drop ys.length).length = xs.length := by simp; omega
  refine hK g _ _ (hsem.step (chg := fun j => j = id) (g' := g) ⟨⟨FLe.refl _, fun _ _ => rfl⟩, fun _ _ _ => rfl, Sub_setBlk hsem.sub hz, by simp [setBlk], ?_, rfl, rfl, rfl⟩ _ new hnew (by simp [Act.put]) hsem.defers ?_ ?_ ?_ ?_ ?_ ?_)
  ·intro k' hk' hne
   have : b ≠ k' := fun e => hne id rfl (by rw [hγ, e]; rfl)
   exact setBlk_ne this
  ·intro t ht
   have hne : d ≠ t := by intro e; subst e; simp [says] at ht
   simp [Act.put, Array.getElem?_setIfInBounds_ne hne]
  ·intro j hj
   subst hj
   exact ⟨by simp [says], _, hσ⟩
  ·intro t u ht
   simp only [says] at ht
   split at ht
   ·rename_i e
    simp only [Key.s.injEq] at e
    simp only [Option.some.injEq, Info.v.injEq] at ht
    subst e; subst ht
    simp [Act.put, hsz, RelV, RelC]
   ·split at ht
    ·simp at ht
    ·simp at ht
  ·intro j bk hj
   simp only [says, reduceCtorEq, if_false] at hj
   split at hj
   ·rename_i e'
    simp only [Key.m.injEq] at e'
    subst e'
    simp only [Option.some.injEq, Info.b.injEq] at hj
    subst hj
    refine ⟨.inr ⟨b, cap, over vs us 0, by rw [hxl]; exact hγ, setBlk_at hb, ?_, by rw [hxl]; exact hcap, by rw [hxl]; exact hlen, fun j hj => ?_, hN, hz⟩, .inl ⟨hsem.mkn _ _ hσ, _, hσ⟩⟩
    ·rw [over_length _ _ _ (by omega)]; exact hvl
    ·have hov : over vs us 0 = us ++ vs.drop us.length := by simp [over]
     rw [hov]
     by_cases hj2 : j < ys.length
     ·rw [List.getElem_append_left hj2]
      have h1 := huc j hj2
      have h2 : j * T.n + T.n ≤ us.length := by rw [hul, show j * T.n + T.n = (j + 1) * T.n by rw [Nat.add_mul]; omega]; exact Nat.mul_le_mul_right _ (by omega)
      rw [List.drop_append_of_le_length (by omega), List.take_append_of_le_length (by simp; omega)]
      exact h1
     ·have hj3 : j < xs.length := by omega
      rw [List.getElem_append_right (by omega), List.getElem_drop]
      have h1 := hr j hj3
      have e1 : ys.length + (j - ys.length) = j := by omega
      have h3 : us.length ≤ j * T.n := by rw [hul]; exact Nat.mul_le_mul_right _ (by omega)
      have e2 : (us ++ vs.drop us.length).drop (j * T.n) = vs.drop (j * T.n) := by
       rw [List.drop_append, List.drop_eq_nil_of_le h3, List.nil_append, List.drop_drop, show us.length + (j * T.n - us.length) = j * T.n by omega]
      rw [e2]
      simp only [e1]
      exact h1
   ·simp at hj
  ·intro k y ht
   simp only [says] at ht
   split at ht
   ·simp only [Option.some.injEq] at ht
    subst ht
    intro id hid
    simp [Info.mids, AV.mids, C.mids] at hid
   ·split at ht
    ·simp only [Option.some.injEq] at ht
     subst ht
     intro id hid
     simp [Info.mids, Blk.mids] at hid
    ·simp at ht
  ·intro j y ht
   simp only [says, reduceCtorEq, if_false] at ht
   split at ht
   ·rename_i e
    simp only [Key.m.injEq] at e
    exact .inl (e ▸ hsem.mkn _ _ hσ)
   ·simp at ht
 ·intro kx hkx
  rcases List.mem_append.1 hkx with h | h
  ·rcases List.mem_append.1 h with h | h
   ·exact opd_kn _ x kx h
   ·exact opd_kn _ y kx h
  ·exact mrd_kn _ [id] kx h
 ·intro k hk
  simp only [rkeysOf, List.map_append, List.mem_append] at hk
  rcases hk with (h | h) | h
  ·exact List.mem_append_left _ (okeys_opd st [x, y] k (by simp only [rkeysOf, List.flatMap_cons, List.map_append, List.mem_append]; exact .inl h))
  ·exact List.mem_append_left _ (okeys_opd st [x, y] k (by simp only [rkeysOf, List.flatMap_cons, List.map_append, List.mem_append]; exact .inr (.inl h)))
  ·exact List.mem_append_right _ (mkeys_mrd st [id] k h)
end
end Go.El

namespace Go.El
open Go Go.RowKit Go.Proofs
section
variable {n : Nat} {sl sl' : List (Nat × AV)} {mem mem' : List (Nat × Blk)} {nx : Nat} {gd gd' : List (Nat × Bool)} {ops : Array Oper} {draw : Bool} {p : Pr} {ks ks' : List Ks} {i i' n0 n0' : Nat} {os os' : List Oper} {d : Nat} {ty : TypeId} {pos : String} {aft : Array Edge} {R : St → Prop}
theorem rcm (id : Nat) {f : FuncId} {args : Array Operand} {tys : Array TypeId} {vs : List AV} {E : TypeId} {T : ET} {xs xs' : List T.den} {r : AV} (h : runs TTab n nx draw ops.toList os i ⟨sl, mem, n0, gd⟩ .t ks = (⟨some d, .call ⟨.value (.func f), args, tys⟩, ty, pos, aft, none⟩ :: os', i', ⟨sl', mem', n0', gd'⟩, p, ks')) (hf : FnM Tryz.prog f vs E T xs r xs') (hv : evs ⟨sl', mem', n0', gd'⟩ args.toList = some (vs.map (mvA id))) (hl : lookA id mem' = some (.vec E T xs))
  (hk : RG Tryz.prog n ops draw nx (i' + 1) os' ⟨(d, r) :: sl', (id, .vec E T xs') :: mem', n0', gd'⟩ (addK draw ks' (okeys args.toList ++ mkeys [id], [.s d, .m id])) R)
  (hp : p := by exact dfpT) (hdn : Nat.blt d n = true := by rfl) : RG Tryz.prog n ops draw nx i os ⟨sl, mem, n0, gd⟩ ks R :=
 rg_run TT_ok h hp (rg_callM hv hl hf hk hdn)
theorem rw_ (u v : Nat) {t : TypeId} {x lo hi : Operand} {id : Nat} {E : TypeId} {T : ET} {xs : List T.den} {k1 k2 : IntKind} {a b : Int} (h : runs TTab n nx draw ops.toList os i ⟨sl, mem, n0, gd⟩ .t ks = (⟨some d, .slice t x (some lo) (some hi) none, ty, pos, aft, none⟩ :: os', i', ⟨sl', mem', n0', gd'⟩, p, ks'))
  (hx : St.ev ⟨sl', mem', n0', gd'⟩ x = some (.c (.X id))) (hl : lookA id mem' = some (.vec E T xs)) (hlo : St.ev ⟨sl', mem', n0', gd'⟩ lo = some (.c (.I k1 a))) (hhi : St.ev ⟨sl', mem', n0', gd'⟩ hi = some (.c (.I k2 b))) (ea : a = (u : Int)) (eb : b = (v : Int)) (huv : u < v) (hv : v ≤ xs.length)
  (hk : RG Tryz.prog n ops draw nx (i' + 1) os' ⟨(d, .c (.W id u (v - u))) :: sl', mem', n0', gd'⟩ (addK draw ks' (okeys [x, lo, hi] ++ mkeys [id], [.s d])) R) (hT : T.n = 1 := by rfl) (hst : slTy TTab t 1 = true := by rfl)
  (hp : p := by exact dfpT) (hdn : Nat.blt d n = true := by rfl) : RG Tryz.prog n ops draw nx i os ⟨sl, mem, n0, gd⟩ ks R :=
 rg_run TT_ok h hp (rg_ok (fun ho => win_ok TT_ok ho rfl rfl (Nat.le_of_ble_eq_true hdn) rfl hx hl hlo hhi hT hst ea eb huv hv) (rg_addK hk))
theorem rcp {x y : Operand} {t1 t2 : TypeId} {id : Nat} {E E1 : TypeId} {T : ET} {xs ys : List T.den} {ei : TI} (h : runs TTab n nx draw ops.toList os i ⟨sl, mem, n0, gd⟩ .t ks = (⟨some d, .call ⟨.builtin .copy, #[x, y], #[t1, t2]⟩, ty, pos, aft, none⟩ :: os', i', ⟨sl', mem', n0', gd'⟩, p, ks'))
  (hx : St.ev ⟨sl', mem', n0', gd'⟩ x = some (.c (.X id))) (hl : lookA id mem' = some (.vec E T xs)) (hy : St.ev ⟨sl', mem', n0', gd'⟩ y = some (.c (.S T ys))) (hT : appI TTab t1 t2 = some (E1, ei)) (hle : ys.length ≤ xs.length) (hne : xs ≠ [])
  (hk : RG Tryz.prog n ops draw nx (i' + 1) os' ⟨(d, .c (.I .i64 ys.length)) :: sl', (id, .vec E T (ys ++ xs.drop ys.length)) :: mem', n0', gd'⟩ (addK draw ks' (okeys [x, y] ++ mkeys [id], [.s d, .m id])) R) (hTn : ei.size = T.n := by rfl)
  (hp : p := by exact dfpT) (hdn : Nat.blt d n = true := by rfl) : RG Tryz.prog n ops draw nx i os ⟨sl, mem, n0, gd⟩ ks R :=
 rg_run TT_ok h hp (rg_ok (fun ho => copyV_ok TT_ok ho rfl rfl (Nat.le_of_ble_eq_true hdn) rfl hx hl hy hT hTn hle hne) (rg_addK hk))
end
end Go.El

namespace Go.El
open Go Go.Proofs
theorem trim_s (ws : List Int) : FnS Tryz.prog 101 [cS U32 ws] (cS U32 (trimW ws)) := by
 refine fsI Tryz.func101 (tr_len 0 rfl fun hb => ?_)
 simp only [ET.n, Nat.mul_one] at hb
 refine rr rfl (rr rfl ?_)
 refine tr_seq (tr_block (tr_loop (α := Nat) (fun k => ⟨[(0, cS U32 ws), (3, cI k)], [], 2, []⟩) (fun k => k ≤ ws.length ∧ trimN ws k = trimN ws ws.length) (fun k => k) ws.length ⟨Nat.le_refl _, rfl⟩ wkA ?_))
 rintro k ⟨hk, hrec⟩
 have fin : ∀ v, k = 0 ∨ ws.getD (k - 1) 0 ≠ 0 → v = List.take k ws → AVle (cS U32 v) (cS U32 (trimW ws)) := by
  intro v h1 h2
  refine AVle.of_eq ?_
  subst h2
  unfold trimW
  rw [← hrec]
  cases k with
  | zero => rfl
  | succ k =>
   rcases h1 with h1 | h1
   ·omega
   ·simp only [Nat.add_sub_cancel] at h1
    simp only [trimN, h1, if_false]
 refine tr_seq (rb ?_)
 refine rg 8 rfl rfl (fun h => ?_) (fun h => ?_)
 ·simp at h
  refine re rfl (tr_cond rfl (fun h2 => ?_) (fun h2 => ?_))
  ·refine skT (tr_block (rt rfl (at_block (at_loop (k - 1) ⟨by omega, ?_⟩ (by show k - 1 < k; omega) (wk ⟨sR rfl, sE rfl ?_, trivial⟩ trivial)))))
   ·rw [← hrec]
    obtain ⟨j, rfl⟩ : ∃ j, k = j + 1 := ⟨k - 1, by omega⟩
    have h3 : ws.getD j 0 = 0 := by
     have : (((j + 1 : Nat) : Int) - 1).toNat = j := by omega
     simpa [this] using h2
    simp only [Nat.add_sub_cancel, trimN, h3, if_true]
   ·congr 2; omega
  ·refine xlE (at_then (rr rfl (tr_ret (at_ret TT_ok rfl (fin _ (.inr ?_) ?_)))))
   ·have : ((k : Int) - 1).toNat = k - 1 := by omega
    simpa [this] using h2
   ·simp
 ·simp at h
  subst h
  refine re rfl (tr_cond rfl (fun h2 => by simp at h2) (fun _ => ?_))
  exact xlE (at_then (rr rfl (tr_ret (at_ret TT_ok rfl (fin _ (.inl rfl) rfl)))))
theorem rtrim_s (ws : List Int) : FnS Tryz.prog 161 [cS U32 ws] (cS U32 (trimW ws)) := by
 refine fsI Tryz.func161 (tr_len 0 rfl fun hb => ?_)
 simp only [ET.n, Nat.mul_one] at hb
 refine rr rfl (rr rfl ?_)
 refine tr_seq (tr_block (tr_loop (α := Nat) (fun k => ⟨[(0, cS U32 ws), (3, cI k)], [], 2, []⟩) (fun k => k ≤ ws.length ∧ trimN ws k = trimN ws ws.length) (fun k => k) ws.length ⟨Nat.le_refl _, rfl⟩ wkA ?_))
 rintro k ⟨hk, hrec⟩
 have fin : ∀ v, k = 0 ∨ ws.getD (k - 1) 0 ≠ 0 → v = List.take k ws → AVle (cS U32 v) (cS U32 (trimW ws)) := by
  intro v h1 h2
  refine AVle.of_eq ?_
  subst h2
  unfold trimW
  rw [← hrec]
  cases k with
  | zero => rfl
  | succ k =>
   rcases h1 with h1 | h1
   ·omega
   ·simp only [Nat.add_sub_cancel] at h1
    simp only [trimN, h1, if_false]
 refine tr_seq (rb ?_)
 refine rg 8 rfl rfl (fun h => ?_) (fun h => ?_)
 ·simp at h
  refine re rfl (tr_cond rfl (fun h2 => ?_) (fun h2 => ?_))
  ·refine skT (tr_block (rt rfl (at_block (at_loop (k - 1) ⟨by omega, ?_⟩ (by show k - 1 < k; omega) (wk ⟨sR rfl, sE rfl ?_, trivial⟩ trivial)))))
   ·rw [← hrec]
    obtain ⟨j, rfl⟩ : ∃ j, k = j + 1 := ⟨k - 1, by omega⟩
    have h3 : ws.getD j 0 = 0 := by
     have : (((j + 1 : Nat) : Int) - 1).toNat = j := by omega
     simpa [this] using h2
    simp only [Nat.add_sub_cancel, trimN, h3, if_true]
   ·congr 2; omega
  ·refine xlE (at_then (rr rfl (tr_ret (at_ret TT_ok rfl (fin _ (.inr ?_) ?_)))))
   ·have : ((k : Int) - 1).toNat = k - 1 := by omega
    simpa [this] using h2
   ·simp
 ·simp at h
  subst h
  refine re rfl (tr_cond rfl (fun h2 => by simp at h2) (fun _ => ?_))
  exact xlE (at_then (rr rfl (tr_ret (at_ret TT_ok rfl (fin _ (.inl rfl) rfl)))))
theorem wrap_u32 (n : Int) (h0 : 0 ≤ n) (h1 : n < 4294967296) : IntKind.wrap .u32 n = n := by
 simp [IntKind.wrap, IntKind.bits, IntKind.signed]; omega
theorem wrap_u64 (n : Int) (h0 : 0 ≤ n) (h1 : n < 18446744073709551616) : IntKind.wrap .u64 n = n := by
 simp [IntKind.wrap, IntKind.bits, IntKind.signed]; omega
theorem two_words (m : Nat) (hm : m < 18446744073709551616) : trimW [((m % 4294967296 : Nat) : Int), ((m / 4294967296 : Nat) : Int)] = wordsN m := by
 have hr : rng [((m % 4294967296 : Nat) : Int), ((m / 4294967296 : Nat) : Int)] := rng_cons.mpr ⟨by omega, rng_cons.mpr ⟨by omega, rng_nil⟩⟩
 rw [trimW_eq hr]
 congr 1
 simp only [val]; omega
theorem rwords_s (m : Nat) (hm : m < 18446744073709551616) : FnS Tryz.prog 131 [cU m] (cS U32 (wordsN m)) := by
 refine fsI Tryz.func131 ?_
 refine rr rfl (rb ?_)
 have e1 : IntKind.wrap .u32 ((m : Int).tmod 4294967296) = ((m % 4294967296 : Nat) : Int) := by rw [wrap_u32] <;> (rw [Int.tmod_eq_emod_of_nonneg (by omega)]; omega)
 have e2 : IntKind.wrap .u32 (IntKind.wrap .u64 ((m : Int).tdiv 4294967296)) = ((m / 4294967296 : Nat) : Int) := by
  have : (m : Int).tdiv 4294967296 = ((m / 4294967296 : Nat) : Int) := by rw [Int.tdiv_eq_ediv_of_nonneg (by omega)]; omega
  rw [this, wrap_u64 _ (by omega) (by omega), wrap_u32 _ (by omega) (by omega)]
 refine rl U32 [_, _] rfl rfl ?_
 refine rc rfl rfl (rtrim_s _) ?_
 refine re rfl (rtE rfl ?_)
 rw [e1, e2, two_words m hm]
theorem rmade_s (neg : Bool) (ws : List Int) : FnS Tryz.prog 130 [cB neg, cS U32 ws] (.a [.B (neg && decide (0 < (trimW ws).length)), .S U32 (trimW ws)]) := by
 refine fsI Tryz.func130 ?_
 refine rr rfl (rb ?_)
 refine rc rfl rfl (rtrim_s _) ?_
 refine re rfl (rb ?_)
 refine rg 9 rfl rfl (fun h => ?_) (fun h => ?_)
 ·refine re rfl (rtE rfl ?_)
  subst h
  have e : decide (((trimW ws).length : Int) > 0) = (true && decide (0 < (trimW ws).length)) := by simp
  exact congrArg (fun b => AV.a [C.B b, C.S U32 (trimW ws)]) e
 ·refine re rfl (rtE rfl ?_)
  subst h
  rfl
theorem rword_s (ws : List Int) (i : Nat) (hr : rng ws) : FnS Tryz.prog 182 [cS U32 ws, cI i] (cU (ws.getD i 0)) := by
 refine fsI Tryz.func182 ?_
 refine rr rfl (tr_seq (rr rfl ?_))
 have := rng_get hr i
 refine tr_cond rfl (fun h => ?_) (fun h => ?_)
 ·simp at h
  refine rr rfl (tr_ret (at_then_ret (atE rfl ?_)))
  have e : IntKind.wrap .u64 (ws.getD (i : Int).toNat 0) = ws.getD i 0 := by
   rw [Int.toNat_natCast, wrap_u64 _ this.1 (by omega)]
  exact cgU e
 ·simp at h
  refine skT (rr rfl (rtE rfl ?_))
  have e : ws.getD i 0 = 0 := by simp [List.getD_eq_getElem?_getD, List.getElem?_eq_none h]
  rw [e]; rfl
def cmpN (a b : Int) : Int := if a < b then -1 else if b < a then 1 else 0
theorem rcompared_s (a b : List Int) (ha : rng a) (hb : rng b) (ca : can a) (cb : can b) : FnS Tryz.prog 158 [cS U32 a, cS U32 b] (cI (cmpN (val a) (val b))) := by
 refine fsI Tryz.func158 (tr_len 0 rfl fun hba => tr_len 1 rfl fun hbb => ?_)
 simp only [ET.n, Nat.mul_one] at hba hbb
 refine rr rfl (tr_seq (rr rfl ?_))
 refine tr_cond rfl (fun h => ?_) (fun h => ?_)
 ·simp at h
  refine rr rfl (tr_ret (at_then_ret (atE rfl ?_)))
  rw [cmpN, if_pos (can_len_lt ha hb cb h)]; rfl
 ·simp at h
  refine skT (tr_seq (rr rfl ?_))
  refine tr_cond rfl (fun h2 => ?_) (fun h2 => ?_)
  ·simp at h2
   refine rr rfl (tr_ret (at_then_ret (atE rfl ?_)))
   have := can_len_lt hb ha ca h2
   rw [cmpN, if_neg (by omega), if_pos this]; rfl
  ·simp at h2
   have hl : a.length = b.length := by omega
   refine skT (tr_seq (rr rfl ?_))
   refine tr_block (tr_loop (α := Nat) (fun k => ⟨[(0, cS U32 a), (1, cS U32 b), (5, cI ((k : Int) - 1))], [], 4, []⟩) (fun k => k ≤ a.length ∧ a.drop k = b.drop k) (fun k => k) a.length ⟨Nat.le_refl _, by simp [hl]⟩ wkA ?_)
   rintro k ⟨hk, hd⟩
   refine tr_seq (rr rfl ?_)
   refine tr_cond rfl (fun h3 => ?_) (fun h3 => ?_)
   ·simp at h3
    obtain ⟨j, rfl⟩ : ∃ j, k = j + 1 := ⟨k - 1, by omega⟩
    have hj : (((j + 1 : Nat) : Int) - 1) = j := by omega
    have hlt : j < a.length := by omega
    rw [hj]
    refine skT (tr_seq (tr_block (tr_seq (rr rfl ?_))))
    refine tr_cond rfl (fun h4 => ?_) (fun h4 => ?_)
    ·simp at h4
     refine rr rfl (tr_ret ?_)
     repeat (first | refine at_then_ret ?_ | refine at_block_ret ?_ | refine at_loop_ret ?_)
     refine atE rfl ?_
     rw [cmpN, if_pos (val_lt_at ha hb j hd hl hlt h4)]; rfl
    ·have h4 : ¬ (a.getD j 0 < b.getD j 0) := by simpa using h4
     refine skT (rr rfl ?_)
     refine tr_cond rfl (fun h5 => ?_) (fun h5 => ?_)
     ·simp at h5
      refine rr rfl (tr_ret ?_)
      repeat (first | refine at_then_ret ?_ | refine at_block_ret ?_ | refine at_loop_ret ?_)
      refine atE rfl ?_
      have := val_lt_at hb ha j hd.symm hl.symm (by omega) h5
      rw [cmpN, if_neg (by omega), if_pos this]; rfl
     ·have h5 : ¬ (a.getD j 0 > b.getD j 0) := by simpa using h5
      refine tr_skip (bkT (rt rfl (at_loop j ⟨by omega, ?_⟩ (by show j < j + 1; omega) wkA)))
      have e : a.getD j 0 = b.getD j 0 := by omega
      have hltb : j < b.length := by omega
      rw [List.drop_eq_getElem_cons hlt, List.drop_eq_getElem_cons hltb, hd]
      simp only [List.getD_eq_getElem?_getD, List.getElem?_eq_getElem hlt, List.getElem?_eq_getElem hltb, Option.getD_some] at e
      rw [e]
   ·simp at h3
    have : k = 0 := by omega
    subst this
    refine xlE (at_then (rr rfl (tr_ret ?_)))
    repeat (first | refine at_then_ret ?_ | refine at_block_ret ?_ | refine at_loop_ret ?_)
    refine atE rfl ?_
    simp only [List.drop_zero] at hd
    rw [hd, cmpN, if_neg (by omega), if_neg (by omega)]; rfl
theorem getD_set_eq (o : List Int) (i j : Nat) (w : Int) (h : i < o.length) : (o.set i w).getD j 0 = if i = j then w else o.getD j 0 := by
 simp only [List.getD_eq_getElem?_getD, List.getElem?_set]
 by_cases e : i = j
 ·subst e; simp [h]
 ·simp [e]
theorem val_put (o : List Int) (i : Nat) (w : Int) (h : i < o.length) (hz : o.getD i 0 = 0) : val (o.set i w) = val o + w * 4294967296 ^ i := by
 rw [val_set o i w h, hz]; simp
structure AddI (a b : List Int) (m : Nat) (x : Nat × List Int × Int) : Prop where
 i : x.1 ≤ m
 len : x.2.1.length = m
 r : rng x.2.1
 z : ∀ j, x.1 ≤ j → x.2.1.getD j 0 = 0
 c0 : 0 ≤ x.2.2
 c1 : x.2.2 ≤ 1
 v : val x.2.1 + x.2.2 * 4294967296 ^ x.1 = val (a.take x.1) + val (b.take x.1)
theorem AddI.next {a b : List Int} {m : Nat} {x : Nat × List Int × Int} (h : AddI a b m x) (hi : x.1 < m) (ha : rng a) (hb : rng b) : AddI a b m (x.1 + 1, x.2.1.set x.1 ((a.getD x.1 0 + b.getD x.1 0 + x.2.2) % 4294967296), (a.getD x.1 0 + b.getD x.1 0 + x.2.2) / 4294967296) := by
 have h1 := rng_get ha x.1
 have h2 := rng_get hb x.1
 have h3 := h.c0
 have h4 := h.c1
 refine ⟨hi, by simp [h.len], rng_set h.r _ ⟨by omega, by omega⟩, ?_, (by show 0 ≤ _ / _; omega), (by show _ / _ ≤ 1; omega), ?_⟩
 ·intro j hj
  simp only at hj
  rw [getD_set_eq _ _ _ _ (by rw [h.len]; exact hi), if_neg (by omega)]
  exact h.z j (by omega)
 ·simp only
  rw [val_put _ _ _ (by rw [h.len]; exact hi) (h.z _ (Nat.le_refl _)), val_take_succ', val_take_succ', Int.pow_succ]
  have hv := h.v
  generalize (4294967296 : Int) ^ x.1 = q at hv ⊢
  generalize ht : a.getD x.1 0 + b.getD x.1 0 + x.2.2 = s
  have hs : s % 4294967296 + s / 4294967296 * 4294967296 = s := by omega
  have : val x.2.1 = val (a.take x.1) + val (b.take x.1) - x.2.2 * q := by omega
  rw [this]
  have e : s % 4294967296 * q + s / 4294967296 * (q * 4294967296) = s * q := by
   rw [show s / 4294967296 * (q * 4294967296) = s / 4294967296 * 4294967296 * q by grind, ← Int.add_mul, hs]
  have e2 : s * q = a.getD x.1 0 * q + b.getD x.1 0 * q + x.2.2 * q := by rw [← ht]; grind
  omega
theorem max_if (x y : Nat) : (if (y : Int) > x then (y : Int) else x) = ((max x y : Nat) : Int) := by
 by_cases h : (y : Int) > x
 ·rw [if_pos h]; omega
 ·rw [if_neg h]; omega
theorem radded_s (a b : List Int) (ha : rng a) (hb : rng b) (la : a.length ≤ 1099511627776) (lb : b.length ≤ 1099511627776) : FnS Tryz.prog 157 [cS U32 a, cS U32 b] (cS U32 (wordsN (val a + val b).toNat)) := by
 refine fsI Tryz.func157 ?_
 refine rr rfl (rr rfl (rb ?_))
 refine rm U32 (max a.length b.length + 1) rfl rfl rfl rfl rfl rfl (zr_int .u32) ?_ ?_ ?_ ?_
 ·rw [max_if]; rfl
 ·show _ * 4 ≤ _; omega
 ·show _ * 1 ≤ _; omega
 refine re rfl (rr rfl (tr_seq (rr rfl ?_)))
 generalize hM : max a.length b.length + 1 = M
 refine tr_block (tr_loop (α := Nat × List Int × Int) (fun x => ⟨[(0, cS U32 a), (1, cS U32 b), (5, cI M), (6, .c (.X 2001000)), (7, cU x.2.2), (8, cI x.1)], [(2001000, .vec 132 U32 x.2.1)], 5, []⟩) (AddI a b M) (fun x => M - x.1) (0, List.replicate M 0, 0) ?_ ?_ ?_)
 ·refine ⟨Nat.zero_le _, by simp, rng_rep M, ?_, Int.le_refl _, (by show (0 : Int) ≤ 1; decide), by simp [val_rep, val]⟩
  intro j _
  simp only [List.getD_eq_getElem?_getD, List.getElem?_replicate]
  split <;> rfl
 ·refine wk ⟨sR rfl, sR rfl, sE rfl ?_, sR rfl, sR rfl, sR rfl, trivial⟩ ⟨bR rfl, trivial⟩
  rw [max_if, ← hM]; congr 2
 ·rintro ⟨i, o, c⟩ hI
  have hlen : o.length = M := hI.len
  have hc0 : 0 ≤ c := hI.c0
  have hc1 : c ≤ 1 := hI.c1
  have ga := rng_get ha i
  have gb := rng_get hb i
  refine tr_seq (rr rfl ?_)
  refine tr_cond rfl (fun h => ?_) (fun h => ?_)
  ·have h : i < M := by simpa using h
   refine skT (tr_seq (tr_block (rb ?_)))
   refine rc rfl rfl (rword_s a i ha) (rc rfl rfl (rword_s b i hb) (re rfl ?_))
   have e0 : IntKind.wrap .u64 (IntKind.wrap .u64 (a.getD i 0 + b.getD i 0) + c) = a.getD i 0 + b.getD i 0 + c := by
    rw [wrap_u64 (a.getD i 0 + b.getD i 0) (by omega) (by omega), wrap_u64 _ (by omega) (by omega)]
   rw [e0]
   generalize ht : a.getD i 0 + b.getD i 0 + c = s
   have e1 : IntKind.wrap .u32 (s.tmod 4294967296) = s % 4294967296 := by
    rw [Int.tmod_eq_emod_of_nonneg (by omega), wrap_u32 _ (by omega) (by omega)]
   have e2 : IntKind.wrap .u64 (s.tdiv 4294967296) = s / 4294967296 := by
    rw [Int.tdiv_eq_ediv_of_nonneg (by omega), wrap_u64 _ (by omega) (by omega)]
   have hn := hI.next h ha hb
   simp only [ht] at hn
   refine rr rfl (rt rfl (bkT (rt rfl (at_loop (i + 1, o.set i (s % 4294967296), s / 4294967296) hn (by show M - (i + 1) < M - i; omega) (wk ⟨sR rfl, sR rfl, sR rfl, sR rfl, sE rfl ?_, sE rfl ?_, trivial⟩ ⟨bE rfl ?_, trivial⟩)))))
   ·exact cgU e2
   ·rfl
   ·rw [e1, Int.toNat_natCast]
  ·have h : ¬ i < M := by simpa using h
   have hi : i = M := by have := hI.i; simp only at this; omega
   refine xlE (at_then (tr_frz 2001000 rfl rfl rfl (rb ?_)))
   refine rc rfl rfl (rtrim_s _) (re rfl (rtE rfl ?_))
   have hv := hI.v
   simp only at hv
   have hr : rng o := hI.r
   have hb1 := val_lt hr
   have hnn := val_nonneg hr
   have hva : val (a.take i) = val a := val_take_ge a i (by omega)
   have hvb : val (b.take i) = val b := val_take_ge b i (by omega)
   have hla := val_lt ha
   have hlb := val_lt hb
   have pa : (4294967296 : Int) ^ a.length ≤ 4294967296 ^ (M - 1) := powB_le (by omega)
   have pb : (4294967296 : Int) ^ b.length ≤ 4294967296 ^ (M - 1) := powB_le (by omega)
   have pm : (4294967296 : Int) ^ M = 4294967296 ^ (M - 1) * 4294967296 := by rw [← Int.pow_succ]; congr 1; omega
   have hpos := powB_pos (M - 1)
   have hc : c = 0 := by
    rw [hva, hvb, hi, pm] at hv
    rcases Int.lt_or_le c 1 with hlt | hge
    ·omega
    ·have : c = 1 := by omega
     subst this
     omega
   rw [trimW_eq hr]
   subst hc
   rw [hva, hvb] at hv
   simp only [Int.zero_mul, Int.add_zero] at hv
   rw [hv]
structure SubI (a b : List Int) (m : Nat) (x : Nat × List Int × Int) : Prop where
 i : x.1 ≤ m
 len : x.2.1.length = m
 r : rng x.2.1
 z : ∀ j, x.1 ≤ j → x.2.1.getD j 0 = 0
 c0 : 0 ≤ x.2.2
 c1 : x.2.2 ≤ 1
 v : val x.2.1 - x.2.2 * 4294967296 ^ x.1 = val (a.take x.1) - val (b.take x.1)
theorem SubI.next {a b : List Int} {m : Nat} {x : Nat × List Int × Int} (h : SubI a b m x) (hi : x.1 < m) (ha : rng a) (hb : rng b) : SubI a b m (x.1 + 1, x.2.1.set x.1 ((4294967296 + a.getD x.1 0 - b.getD x.1 0 - x.2.2) % 4294967296), 1 - (4294967296 + a.getD x.1 0 - b.getD x.1 0 - x.2.2) / 4294967296) := by
 have h1 := rng_get ha x.1
 have h2 := rng_get hb x.1
 have h3 := h.c0
 have h4 := h.c1
 refine ⟨hi, by simp [h.len], rng_set h.r _ ⟨by omega, by omega⟩, ?_, (by show 0 ≤ 1 - _ / _; omega), (by show 1 - _ / _ ≤ 1; omega), ?_⟩
 ·intro j hj
  simp only at hj
  rw [getD_set_eq _ _ _ _ (by rw [h.len]; exact hi), if_neg (by omega)]
  exact h.z j (by omega)
 ·simp only
  rw [val_put _ _ _ (by rw [h.len]; exact hi) (h.z _ (Nat.le_refl _)), val_take_succ', val_take_succ', Int.pow_succ]
  have hv := h.v
  generalize (4294967296 : Int) ^ x.1 = q at hv ⊢
  generalize ht : 4294967296 + a.getD x.1 0 - b.getD x.1 0 - x.2.2 = s
  have hs : s % 4294967296 + s / 4294967296 * 4294967296 = s := by omega
  have : val x.2.1 = val (a.take x.1) - val (b.take x.1) + x.2.2 * q := by omega
  rw [this]
  have e : s % 4294967296 * q + s / 4294967296 * (q * 4294967296) = s * q := by
   rw [show s / 4294967296 * (q * 4294967296) = s / 4294967296 * 4294967296 * q by grind, ← Int.add_mul, hs]
  have e2 : s * q = 4294967296 * q + a.getD x.1 0 * q - b.getD x.1 0 * q - x.2.2 * q := by rw [← ht]; grind
  have e3 : (1 - s / 4294967296) * (q * 4294967296) = 4294967296 * q - s / 4294967296 * (q * 4294967296) := by grind
  omega
theorem rtaken_s (a b : List Int) (ha : rng a) (hb : rng b) (hl : b.length ≤ a.length) (hle : val b ≤ val a) (la : a.length ≤ 1099511627776) : FnS Tryz.prog 159 [cS U32 a, cS U32 b] (cS U32 (wordsN (val a - val b).toNat)) := by
 refine fsI Tryz.func159 ?_
 refine rr rfl (rb ?_)
 refine rm U32 a.length rfl rfl rfl rfl rfl rfl (zr_int .u32) rfl ?_ ?_ ?_
 ·show _ * 4 ≤ _; omega
 ·show _ * 1 ≤ _; omega
 refine re rfl (rr rfl (tr_seq (rr rfl ?_)))
 generalize hM : a.length = M
 refine tr_block (tr_loop (α := Nat × List Int × Int) (fun x => ⟨[(0, cS U32 a), (1, cS U32 b), (5, .c (.X 1002000)), (6, cU x.2.2), (7, cI x.1)], [(1002000, .vec 132 U32 x.2.1)], 4, []⟩) (SubI a b M) (fun x => M - x.1) (0, List.replicate M 0, 0) ?_ ?_ ?_)
 ·refine ⟨Nat.zero_le _, by simp, rng_rep M, ?_, Int.le_refl _, (by show (0 : Int) ≤ 1; decide), by simp [val_rep, val]⟩
  intro j _
  simp only [List.getD_eq_getElem?_getD, List.getElem?_replicate]
  split <;> rfl
 ·exact wk (wkSr rfl) ⟨bR rfl, trivial⟩
 ·rintro ⟨i, o, c⟩ hI
  have hlen : o.length = M := hI.len
  have hc0 : 0 ≤ c := hI.c0
  have hc1 : c ≤ 1 := hI.c1
  have ga := rng_get ha i
  have gb := rng_get hb i
  refine tr_seq (rr rfl ?_)
  refine tr_cond rfl (fun h => ?_) (fun h => ?_)
  ·have h : i < M := by simpa [hM] using h
   refine skT (tr_seq (tr_block (rb ?_)))
   refine rc rfl rfl (rword_s b i hb) (re rfl ?_)
   have e0 : IntKind.wrap .u64 (IntKind.wrap .u64 (IntKind.wrap .u64 (4294967296 + IntKind.wrap .u64 (a.getD (i : Int).toNat 0)) - b.getD i 0) - c) = 4294967296 + a.getD i 0 - b.getD i 0 - c := by
    rw [Int.toNat_natCast, wrap_u64 (a.getD i 0) (by omega) (by omega), wrap_u64 (4294967296 + a.getD i 0) (by omega) (by omega), wrap_u64 (4294967296 + a.getD i 0 - b.getD i 0) (by omega) (by omega), wrap_u64 _ (by omega) (by omega)]
   simp only [e0]
   generalize ht : 4294967296 + a.getD i 0 - b.getD i 0 - c = s
   have e1 : IntKind.wrap .u32 (s.tmod 4294967296) = s % 4294967296 := by
    rw [Int.tmod_eq_emod_of_nonneg (by omega), wrap_u32 _ (by omega) (by omega)]
   have e2 : IntKind.wrap .u64 (1 - IntKind.wrap .u64 (s.tdiv 4294967296)) = 1 - s / 4294967296 := by
    rw [Int.tdiv_eq_ediv_of_nonneg (by omega), wrap_u64 (s / 4294967296) (by omega) (by omega), wrap_u64 _ (by omega) (by omega)]
   have hn := hI.next h ha hb
   simp only [ht] at hn
   refine rr rfl (rt rfl (bkT (rt rfl (at_loop (i + 1, o.set i (s % 4294967296), 1 - s / 4294967296) hn (by show M - (i + 1) < M - i; omega) (wk ⟨sR rfl, sR rfl, sR rfl, sE rfl ?_, sE rfl ?_, trivial⟩ ⟨bE rfl ?_, trivial⟩)))))
   ·exact cgU e2
   ·rfl
   ·rw [e1, Int.toNat_natCast]
  ·have h : ¬ i < M := by simpa [hM] using h
   have hi : i = M := by have := hI.i; simp only at this; omega
   refine xlE (at_then (tr_frz 1002000 rfl rfl rfl (rb ?_)))
   refine rc rfl rfl (rtrim_s _) (re rfl (rtE rfl ?_))
   have hv := hI.v
   simp only at hv
   have hr : rng o := hI.r
   have hb1 := val_lt hr
   have hnn := val_nonneg hr
   have hva : val (a.take i) = val a := val_take_ge a i (by omega)
   have hvb : val (b.take i) = val b := val_take_ge b i (by omega)
   have hpos := powB_pos M
   rw [hlen] at hb1
   have hc : c = 0 := by
    rw [hva, hvb, hi] at hv
    rcases Int.lt_or_le c 1 with hlt | hge
    ·omega
    ·have : c = 1 := by omega
     subst this
     omega
   rw [trimW_eq hr]
   subst hc
   rw [hva, hvb] at hv
   simp only [Int.zero_mul, Int.sub_zero] at hv
   rw [hv]
end Go.El
