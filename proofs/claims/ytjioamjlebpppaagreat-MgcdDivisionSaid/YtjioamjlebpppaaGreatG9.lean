/- The engine: which entry an iterator has just shown. Own work; no condition. -/
import Derived.DeepKeys3
import Derived.Test.YtjioamjlebpppaaGreatG8
import Derived.Test.YtjioamjlebpppaaGreatG2
import Derived.Test.YtjioamjlebpppaaGreatG4
import Derived.Test.YtjioamjlebpppaaGreatG6
import Derived.Test.YtjioamjlebpppaaGreatG5
set_option linter.unusedVariables false
set_option linter.unusedSimpArgs false
set_option linter.unnecessarySimpa false
namespace Go.El
open Go Go.RowKit
section
variable {P : Program} {n : Nat} {st : St} {Q : Post}
theorem itn_hold {F : Fix} {kn : Nat → Prop} {g : Gh} {W : World} {a : Act} {id m N j : Nat} {seen : List Nat} (hh : Hold F kn st.kn g W a) (hl : lookA id st.mem = some (.itn m N seen)) (hr : RepB F.N g W id (.it m N (seen ++ [j]))) :
  Hold F kn (St.kn { st with mem := (id, .it m N (seen ++ [j])) :: st.mem }) g W a := by
 have hσ : st.kn (.m id) = some (.b (.itn m N seen)) := by simp [St.kn, hl]
 have hs : ∀ t, St.kn { st with mem := (id, .it m N (seen ++ [j])) :: st.mem } (.s t) = st.kn (.s t) := fun _ => rfl
 have hm : ∀ i, St.kn { st with mem := (id, .it m N (seen ++ [j])) :: st.mem } (.m i) = if id = i then some (.b (.it m N (seen ++ [j]))) else st.kn (.m i) := fun i => by
  simp only [St.kn, lookA]
  by_cases e : id = i
  ·simp [e]
  ·have e' : ¬ i = id := fun h => e h.symm
   simp [e, e']
 have hin : ∀ i b, St.kn { st with mem := (id, .it m N (seen ++ [j])) :: st.mem } (.m i) = some (.b b) → ∃ b', st.kn (.m i) = some (.b b') := fun i b h => by
  rw [hm] at h
  split at h
  ·rename_i e; subst e; exact ⟨_, hσ⟩
  ·exact ⟨_, h⟩
 refine ⟨hh.size, hh.defers, fun t v h => hh.slots t v h, fun i b h => ?_, fun i i' b b' k h h' => ?_, fun k x h => ?_, fun i x h => ?_, hh.sub, hh.below, hh.le, hh.fresh, hh.kfix⟩
 ·rw [hm] at h
  split at h
  ·rename_i e
   subst e
   cases h
   exact hr
  ·exact hh.blks i b h
 ·let ⟨c, hc⟩ := hin i b h
  let ⟨c', hc'⟩ := hin i' b' h'
  exact hh.inj i i' c c' k hc hc'
 ·cases k with
  | s t => exact hh.mids (.s t) x h
  | m i =>
   rw [hm] at h
   split at h
   ·rename_i e
    subst e
    cases h
    exact fun y hy => hh.mids _ _ hσ y hy
   ·exact hh.mids (.m i) x h
 ·rw [hm] at h
  split at h
  ·rename_i e; subst e; exact hh.mkn _ _ hσ
  ·exact hh.mkn i x h
theorem tr_itn {c : Code} {id m N : Nat} {seen : List Nat} (hl : lookA id st.mem = some (.itn m N seen)) (h : ∀ j, j < N → j ∉ seen → TR P n c { st with mem := (id, .it m N (seen ++ [j])) :: st.mem } Q) : TR P n c st Q := by
 intro F hF g W a hh
 have hσ : st.kn (.m id) = some (.b (.itn m N seen)) := by simp [St.kn, hl]
 let ⟨j, h1, h2, h3⟩ := hh.blks id _ hσ
 exact h j h1 h2 F hF g W a (itn_hold hh hl h3)
end
def vK (q : IntKind) (l : List Int) : Value := .agg (l.map (Value.int q)).toArray
def wfK (len : Nat) (q : IntKind) (l : List Int) : Prop := l.length = len ∧ ∀ x ∈ l, (Lit.int q x).wf = true
structure ArrK (P : Program) (k : TypeId) (len : Nat) (q : IntKind) : Prop where
 eq : ∀ (w : World) (l l' : List Int), wfK len q l → wfK len q l' → (Op.equal k (vK q l) (vK q l')).run P w = .ok (decide (l = l')) w
 chk : ∀ (w : World) (em : Bool) (l : List Int), wfK len q l → (Instr.checkKey em 10000 k (vK q l)).run P w = .ok () w
 stay : ∀ (w : World) (l : List Int), wfK len q l → (Instr.keyThatStays (vK q l) (vK q l)).run P w = .ok (vK q l) w
 wide : ∀ (w : World) (x : Value) (es : List MapEntry), (Instr.findKey k x es).run P w = (Instr.findAsking k x es).run P w
theorem mapM_some {α β : Type} {f : α → Option β} {h : α → β} : ∀ {l : List α}, (∀ x ∈ l, f x = some (h x)) → l.mapM f = some (l.map h)
 | [], _ => rfl
 | x :: l, H => by
  rw [List.mapM_cons, H x (by simp), mapM_some (f := f) (h := h) (l := l) fun y hy => H y (by simp [hy])]
  rfl
theorem vK_inj {q : IntKind} {l l' : List Int} (h : vK q l = vK q l') : l = l' := by
 unfold vK at h
 have h1 : l.map (Value.int q) = l'.map (Value.int q) := by simpa using h
 have key : ∀ (l l' : List Int), l.map (Value.int q) = l'.map (Value.int q) → l = l' := by
  intro l
  induction l with
  | nil => intro l' h; cases l' with | nil => rfl | cons => simp at h
  | cons x l ih =>
   intro l' h
   cases l' with
   | nil => simp at h
   | cons y l' =>
    simp only [List.map_cons, List.cons.injEq, Value.int.injEq, true_and] at h
    rw [h.1, ih l' h.2]
 exact key l l' h1
section
variable {P : Program} {tt : TT}
theorem keyOf_ints {k et : TypeId} {len : Nat} {q : IntKind} (hu : P.underlying k = some (.array len et)) (he : P.underlying et = some (.int q)) (hc : P.cellsOf k = len) (hce : P.cellsOf et = 1) {T : Nat} (hts : P.types.size = T + 1) {l : List Int} (hl : wfK len q l) : ∃ lx, keyOf P k (vK q l) = some lx := by
 have hk : P.keyType k = true := by
  unfold Program.keyType
  rw [hts]
  simp [Program.keyTypeAt, hu, he]
 have hf : (vK q l).formed P k = true := by
  simp [vK, Value.formed, hu, hc, hl.1]
 unfold keyOf
 simp only [hu, hk, hf, Bool.and_self, if_true]
 have hcells : (vK q l).cells.toList = l.map (Value.int q) := by simp [vK, Value.cells]
 rw [hcells]
 unfold Program.keyLits
 simp only [hu, List.length_map, hl.1, hc, if_true, hce, Nat.mul_one]
 have hm : (List.range len).mapM (fun i => P.keyLits P.types.size et ((List.drop i (l.map (Value.int q))).take 1)) = some ((List.range len).map fun i => [Lit.int q (l.getD i 0)]) := by
  refine mapM_some fun i hi => ?_
  have hi : i < l.length := by rw [hl.1]; exact List.mem_range.1 hi
  have e : (List.drop i (l.map (Value.int q))).take 1 = [Value.int q l[i]] := by
   rw [← List.map_drop, List.drop_eq_getElem_cons hi, List.map_cons]; rfl
  rw [e, hts]
  unfold Program.keyLits
  simp only [he, hl.2 _ (List.getElem_mem hi), and_self, if_true]
  rw [List.getD_eq_getElem?_getD, List.getElem?_eq_getElem hi]; rfl
 rw [hm]
 exact ⟨_, rfl⟩
theorem arrK_of {k et : TypeId} {len : Nat} {q : IntKind} (hu : P.underlying k = some (.array len et)) (he : P.underlying et = some (.int q)) (hc : P.cellsOf k = len) (hce : P.cellsOf et = 1) {T : Nat} (hts : P.types.size = T + 1) : ArrK P k len q := by
 have hk2 : P.keyTypeAt 2 k = true := by simp [Program.keyTypeAt, hu, he]
 have ht2 : P.tiled 2 k = true := by simp [Program.tiled, hu, he, hc, hce]
 have hw : (match P.underlying k with | some (.array _ _) | some (.struct _) => true | _ => false) = true := by rw [hu]
 have law := deep_law (P := P) (m := 2) (by decide) hk2 ht2 hw
 have key := fun l hl => keyOf_ints (l := l) hu he hc hce hts hl
 refine ⟨fun w l l' h h' => ?_, fun w em l h => ?_, fun w l h => ?_, fun w x es => run_findKey_eq w hw x es⟩
 ·let ⟨lx, h1⟩ := key l h
  let ⟨ly, h2⟩ := key l' h'
  let ⟨r, h3, h4⟩ := run_equal_deep w (m := 2) (by decide) hk2 hw h1 h2
  rw [h3]
  congr 1
  by_cases e : l = l'
  ·subst e
   rw [h1] at h2
   cases h2
   rw [h4.2 rfl, decide_eq_true rfl]
  ·rw [decide_eq_false e]
   cases r with
   | false => rfl
   | true =>
    have := h4.1 rfl
    subst this
    exact absurd (vK_inj (law.inj h1 h2)) e
 ·let ⟨lx, h1⟩ := key l h
  exact law.check w em h1
 ·let ⟨lx, h1⟩ := key l h
  exact law.stays w h1
def KeysA (len : Nat) (q : IntKind) (xs : List (List C × List C)) : Prop := ∀ x ∈ xs, ∃ k', keyC true q x.1 = some k' ∧ wfK len q k'
theorem keyC_arr {g : Gh} {q : IntKind} {cs : List C} {l : List Int} {vs : List Value} (h : keyC true q cs = some l) (hr : RelL g cs vs) : wrapV true vs = vK q l := by
 unfold keyC at h
 split at h
 ·rename_i l' hl
  cases h
  rw [intsK_rel hl hr]; rfl
 ·cases h
theorem ask_arr {k : TypeId} {len : Nat} {q : IntKind} (A : ArrK P k len q) {g : Gh} {va : Bool} {kk : List Int} (hkk : wfK len q kk) (w : World) : ∀ {n : Nat} {xs : List (List C × List C)} {es : List MapEntry}, RelM g true va n xs es → KeysA len q xs → ∀ {r : Option (List C)}, lookM true q kk xs = some r → ∀ i : Nat,
  match r with
  | none => (Instr.findAsking k (vK q kk) es i).run P w = .ok none w
  | some vc => ∃ j vs, (Instr.findAsking k (vK q kk) es i).run P w = .ok (some (i + j, wrapV va vs)) w ∧ RelL g vc vs
 | n, [], es, h, _, r, hr, i => by
  simp only [RelM] at h
  subst h
  simp only [lookM, Option.some.injEq] at hr
  subst hr
  rfl
 | n, x :: xs, es, ⟨e, es', h1, h2, ⟨ks, h3, h3'⟩, ⟨vs, h4, h4'⟩, h5⟩, hK, r, hr, i => by
  subst h1
  let ⟨k', hk, hw⟩ := hK x (by simp)
  simp only [lookM, hk] at hr
  have hkey : e.key = vK q k' := by rw [h3]; exact keyC_arr hk h3'
  have he := A.eq w kk k' hkk hw
  split at hr
  ·rename_i e1
   subst e1
   cases hr
   refine ⟨0, vs, ?_, h4'⟩
   rw [decide_eq_true rfl] at he
   simp [Instr.findAsking, hkey, he, Result.andThen, h4]
  ·rename_i hne
   rw [decide_eq_false fun e => hne e.symm] at he
   have hf : (Instr.findAsking k (vK q kk) (e :: es') i).run P w = (Instr.findAsking k (vK q kk) es' (i + 1)).run P w := by
    simp [Instr.findAsking, hkey, he, Result.andThen]
   have ih := ask_arr A hkk w h5 (fun y hy => hK y (by simp [hy])) hr (i + 1)
   cases r with
   | none => simp only at ih ⊢; rw [hf]; exact ih
   | some vc =>
    obtain ⟨j, ws, i1, i2⟩ := ih
    exact ⟨j + 1, ws, by rw [hf, i1, show i + 1 + j = i + (j + 1) by omega], i2⟩
theorem put_arr {k : TypeId} {len : Nat} {q : IntKind} (A : ArrK P k len q) {g : Gh} {va : Bool} {kk : List Int} (hkk : wfK len q kk) (w : World) {kc vc : List C} {ks vs : List Value} (hkr : RelL g kc ks) (hks : wrapV true ks = vK q kk) (hvr : RelL g vc vs) : ∀ {n : Nat} {xs xs' : List (List C × List C)} {es : List MapEntry}, RelM g true va n xs es → KeysA len q xs → putM true q kk kc vc xs = some xs' → ∀ i : Nat,
  ((Instr.findAsking k (vK q kk) es i).run P w = .ok none w ∧ xs' = xs ++ [(kc, vc)]) ∨
  ∃ j v e, (Instr.findAsking k (vK q kk) es i).run P w = .ok (some (i + j, v)) w ∧ es[j]? = some e ∧ e.key = vK q kk ∧ xs'.length = xs.length ∧ RelM g true va n xs' (es.modify j fun e => { e with key := vK q kk, val := wrapV va vs })
 | n, [], xs', es, h, _, hr, i => by
  simp only [RelM] at h
  subst h
  simp only [putM, Option.some.injEq] at hr
  subst hr
  exact .inl ⟨rfl, rfl⟩
 | n, x :: xs, xs', es, ⟨e, es', h1, h2, ⟨ks', h3, h3'⟩, ⟨vs', h4, h4'⟩, h5⟩, hK, hr, i => by
  subst h1
  let ⟨k', hk, hw⟩ := hK x (by simp)
  simp only [putM, hk] at hr
  have hkey : e.key = vK q k' := by rw [h3]; exact keyC_arr hk h3'
  have he := A.eq w kk k' hkk hw
  split at hr
  ·rename_i e1
   subst e1
   cases hr
   rw [decide_eq_true rfl] at he
   refine .inr ⟨0, e.val, e, by simp [Instr.findAsking, hkey, he, Result.andThen], rfl, hkey, rfl, ?_⟩
   exact ⟨_, es', rfl, h2, ⟨ks, hks.symm, hkr⟩, ⟨vs, rfl, hvr⟩, h5⟩
  ·rename_i hne
   rw [decide_eq_false fun e => hne e.symm] at he
   have hf : (Instr.findAsking k (vK q kk) (e :: es') i).run P w = (Instr.findAsking k (vK q kk) es' (i + 1)).run P w := by
    simp [Instr.findAsking, hkey, he, Result.andThen]
   split at hr
   ·rename_i r' hr'
    cases hr
    rcases put_arr A hkk w hkr hks hvr h5 (fun y hy => hK y (by simp [hy])) hr' (i + 1) with ⟨i1, rfl⟩ | ⟨j, v, e', i1, i2, i3, i4, i5⟩
    ·exact .inl ⟨by rw [hf]; exact i1, rfl⟩
    ·refine .inr ⟨j + 1, v, e', by rw [hf, i1, show i + 1 + j = i + (j + 1) by omega], i2, i3, by simp [i4], ?_⟩
     exact ⟨e, _, rfl, h2, ⟨_, h3, h3'⟩, ⟨vs', h4, h4'⟩, i5⟩
   ·cases hr
theorem lookA_sound (htt : ttB P tt = true) {ops : Array Oper} {i : Nat} {o : Oper} {d : Nat} (ho : ops[i]? = some o) (hg : o.guard = none) (hd : o.dst = some d) {n : Nat} (hdn : d < n) {t : TypeId} {x y : Operand} {ok : Bool} (hop : o.op = .lookup t x y ok)
  {st : St} {id : Nat} {q : IntKind} {len : Nat} {kk : List Int} {kc : List C} (hx : st.ev x = some (.c (.X id))) (hy : st.ev y = some (.a kc)) (hkc : keyC true q kc = some kk) (hkk : wfK len q kk) {kt vt : Nat} {ti vi : TI} (hti : lookA t tt = some ti) (hk : ti.kind = .map kt vt) (A : ArrK P kt len q) (hvi : lookA vt tt = some vi)
  {xs : List (List C × List C)} (hl : lookA id st.mem = some (.mp true vi.agg xs)) (hK : KeysA len q xs) {r : Option (List C)} (hr : lookM true q kk xs = some r) {v : AV} (hv : lookV ok vi.agg (r.getD (vi.zero.map ZV.toC)) r.isSome = some v) (new : Nat) :
  StepS P n ops i ([x, y].flatMap (opd st) ++ mrd st [id]) [(.s d, some (.v v))] new := by
 refine stepS_val ho hg hd hdn _ v new ?_
 intro F known σ g W a hsem hrd
 have hrx := ev_rel hsem st x _ hx (fun kx hkx => hrd kx (by simp [hkx]))
 have hry := ev_rel hsem st y _ hy (fun kx hkx => hrd kx (by simp [hkx]))
 have hσ : σ (.m id) = some (.b (.mp true vi.agg xs)) := hrd (.m id, .b (.mp true vi.agg xs)) (by simp [mrd, hl])
 let ⟨b, es, hγ, hh, hrm, hN, hz⟩ := hsem.blks id _ hσ
 have hrx : a.eval x = g.γ id := hrx
 obtain ⟨ks, hry, hks⟩ := hry
 have hry : a.eval y = vK q kk := hry.trans (keyC_arr hkc hks)
 rw [hγ] at hrx
 have hu := (ttB_ok htt hti).kind
 rw [hk] at hu
 have hf := ask_arr A hkk W hrm hK hr 0
 refine ⟨?_, ?_⟩
 ·intro j hj
  have h1 := lookV_mids hv j hj
  cases r with
  | none =>
   rw [Option.getD_none, zeros_mids] at h1
   cases h1
  | some vc => exact hsem.mids _ _ hσ j (midsM_look hr j h1)
 ·have hck := A.chk W es.isEmpty kk hkk
  cases r with
  | none =>
   have hfk := (A.wide W (vK q kk) es.toList).trans hf
   let ⟨inf, hinf, _, _, z, hzz, hzc⟩ := (ttB_ok htt hvi).info
   have hzag := (ttB_ok htt hvi).zag _ _ hinf hzz
   have hzv : (zeroValue vt).run P W = .ok z W := by simp [zeroValue, typeInfo, hinf, hzz]
   refine ⟨_, ?_, lookV_rel hv (zeros_rel g vi.zero)⟩
   rw [execOp, hop]
   simp only [Instr.lookup, hrx, hry, Sem.run_bind, run_underlying hu, Result.andThen, MapKept.run_getObj_map hh, Sem.run_pure, hck, hfk, hzv, hzag]
   rfl
  | some vc =>
   obtain ⟨j, ws, hf, hrw⟩ := hf
   have hfk := (A.wide W (vK q kk) es.toList).trans hf
   refine ⟨_, ?_, lookV_rel hv hrw⟩
   rw [execOp, hop]
   simp only [Instr.lookup, hrx, hry, Sem.run_bind, run_underlying hu, Result.andThen, MapKept.run_getObj_map hh, Sem.run_pure, hck, hfk]
   rfl
theorem mapupA_sound (htt : ttB P tt = true) {ops : Array Oper} {i : Nat} {o : Oper} (ho : ops[i]? = some o) (hg : o.guard = none) (hd : o.dst = none) {n : Nat} {t : TypeId} {x y z : Operand} (hop : o.op = .mapUpdate t x y z)
  {st : St} {id : Nat} {q : IntKind} {len : Nat} {kk : List Int} {kc : List C} {u : AV} {va : Bool} {vc : List C} (hx : st.ev x = some (.c (.X id))) (hy : st.ev y = some (.a kc)) (hkc : keyC true q kc = some kk) (hkk : wfK len q kk) (hzv : st.ev z = some u) (hu1 : toS u = some (va, vc)) {kt vt : Nat} {ti : TI} (hti : lookA t tt = some ti) (hk : ti.kind = .map kt vt) (A : ArrK P kt len q)
  {xs xs' : List (List C × List C)} (hl : lookA id st.mem = some (.mp true va xs)) (hKs : KeysA len q xs) (hp : putM true q kk kc vc xs = some xs') (new : Nat) :
  StepS P n ops i ([x, y, z].flatMap (opd st) ++ mrd st [id]) [(.m id, some (.b (.mp true va xs')))] new := by
 intro F hFn Q known σ g W a K hnew hsem hrd hK
 have hrx := ev_rel hsem st x _ hx (fun kx hkx => hrd kx (by simp [hkx]))
 have hry := ev_rel hsem st y _ hy (fun kx hkx => hrd kx (by simp [hkx]))
 have hrz := ev_rel hsem st z _ hzv (fun kx hkx => hrd kx (by simp [hkx]))
 have hmz := ev_mids hsem st z _ hzv (fun kx hkx => hrd kx (by simp [hkx]))
 have hmy := ev_mids hsem st y _ hy (fun kx hkx => hrd kx (by simp [hkx]))
 have hσ : σ (.m id) = some (.b (.mp true va xs)) := hrd (.m id, .b (.mp true va xs)) (by simp [mrd, hl])
 let ⟨b, es, hγ, hh, hrm, hN, hz⟩ := hsem.blks id _ hσ
 have hrx : a.eval x = g.γ id := hrx
 obtain ⟨ks, hry, hks⟩ := hry
 have hkv : wrapV true ks = vK q kk := keyC_arr hkc hks
 have hry : a.eval y = vK q kk := hry.trans hkv
 rw [hγ] at hrx
 have hu := (ttB_ok htt hti).kind
 rw [hk] at hu
 have hval : ∃ vs, a.eval z = wrapV va vs ∧ RelL g vc vs := by
  have := toS_rel hu1 hrz
  cases va with
  | true => exact this
  | false =>
   match vc, this with
   | [c], h => exact ⟨[a.eval z], rfl, _, _, rfl, h, rfl⟩
   | [], h => exact h.elim
   | _ :: _ :: _, h => exact h.elim
 let ⟨vs, hvz, hvr⟩ := hval
 have hck := A.chk W false kk hkk
 have hlen := hrm.length
 have hfin : ∃ es', (execOp a.eval o).run P W = .ok .skip { W with heap := W.heap.setIfInBounds b (.map es' xs'.length) } ∧ RelM g true va 0 xs' es'.toList := by
  rcases put_arr A hkk W hks hkv hvr hrm hKs hp 0 with ⟨hf, rfl⟩ | ⟨j, w, e, hf, he, hke, hle, hrm'⟩
  ·have hfk := (A.wide W (vK q kk) es.toList).trans hf
   refine ⟨es.push ⟨vK q kk, a.eval z, xs.length⟩, ?_, ?_⟩
   ·rw [execOp, hop]
    simp only [Instr.mapUpdate, hrx, hry, Sem.run_bind, run_underlying hu, Result.andThen, MapKept.run_getObj_map hh, Sem.run_pure, hck, hfk, MapKept.run_setObj_map _ hh, List.length_append, List.length_singleton]
   ·rw [Array.toList_push]
    exact RelM.snoc (x := (kc, vc)) ⟨ks, hkv.symm, hks⟩ ⟨vs, hvz, hvr⟩ hrm (by simp)
  ·have hfk := (A.wide W (vK q kk) es.toList).trans hf
   have he' : es[j]? = some e := by simpa using he
   have hst := A.stay W kk hkk
   refine ⟨es.modify j fun e => { e with key := vK q kk, val := a.eval z }, ?_, by rw [Array.toList_modify, hvz]; exact hrm'⟩
   rw [execOp, hop]
   simp only [Instr.mapUpdate, hrx, hry, Sem.run_bind, run_underlying hu, Result.andThen, MapKept.run_getObj_map hh, Sem.run_pure, hck, hfk, Nat.zero_add, he', Option.map_some, Option.getD_some, hke, hst, MapKept.run_setObj_map _ hh, hle]
 let ⟨es', hex, hrm'⟩ := hfin
 unfold wpOp
 simp only [ho, Region.wanted, hg, if_true]
 refine .inl ?_
 unfold Oper.wp
 rw [hex]
 simp only [Oper.upon, hd, Act.put]
 have hb : b < W.heap.size := (Array.getElem?_eq_some_iff.1 hh).1
 refine hK g _ a (hsem.step (chg := fun j => j = id) (g' := g) ⟨⟨FLe.refl _, fun _ _ => rfl⟩, fun _ _ _ => rfl, Sub_setMap hsem.sub hz, by simp, ?_, rfl, rfl, rfl⟩ _ new hnew rfl hsem.defers (fun _ _ => rfl) ?_ ?_ ?_ ?_ ?_)
 ·intro k hk hne
  have : b ≠ k := fun e => hne id rfl (by rw [hγ, e]; rfl)
  exact Array.getElem?_setIfInBounds_ne this
 ·intro j hj
  subst hj
  exact ⟨by simp [says], _, hσ⟩
 ·intro t' v' ht; simp [says] at ht
 ·intro j bk hj
  simp only [says] at hj
  split at hj
  ·rename_i e
   simp only [Key.m.injEq] at e
   subst e
   simp only [Option.some.injEq, Info.b.injEq] at hj
   subst hj
   exact ⟨⟨b, es', hγ, by simp [hb], hrm', hN, hz⟩, .inl ⟨hsem.mkn _ _ hσ, _, hσ⟩⟩
  ·simp at hj
 ·intro k z' hz'
  simp only [says] at hz'
  split at hz'
  ·simp only [Option.some.injEq] at hz'
   subst hz'
   intro j hj
   rcases midsM_put hp j hj with h | h | h
   ·exact .inl (hsem.mids _ _ hσ j h)
   ·exact .inl (hmy j h)
   ·refine .inl (hmz j ?_)
    rw [← toS_mids hu1]; exact h
  ·simp at hz'
 ·intro j z' hz'
  simp only [says] at hz'
  split at hz'
  ·rename_i e
   simp only [Key.m.injEq] at e
   subst e
   exact .inl (hsem.mkn _ _ hσ)
  ·simp at hz'
end
end Go.El

namespace Go.El
open Go Go.RowKit Go.Proofs
section
variable {n : Nat} {sl sl' : List (Nat × AV)} {mem mem' : List (Nat × Blk)} {nx : Nat} {gd gd' : List (Nat × Bool)} {ops : Array Oper} {draw : Bool} {p : Pr} {ks ks' : List Ks} {i i' n0 n0' : Nat}
variable {R : St → Prop} {os : List Oper} {d t : Nat} {ty : TypeId} {pos : String} {aft : Array Edge} {os' : List Oper}
theorem rd_kn1 {st : St} (x : Operand) (ids : List Nat) : ∀ kx ∈ opd st x ++ mrd st ids, st.kn kx.1 = some kx.2 := by simpa using rd_kn (st := st) [x] ids
theorem reads1 {st : St} (x : Operand) (ids : List Nat) : ∀ k ∈ rkeysOf (opd st x ++ mrd st ids), k ∈ okeys [x] ++ mkeys ids := by simpa using reads_of (st := st) [x] ids
theorem rlkA {x y : Operand} {ok : Bool} {id : Nat} {q : IntKind} {len : Nat} {kk : List Int} {kc : List C} {kt vt : Nat} (A : ArrK Tryz.prog kt len q) (h : runs TTab n nx draw ops.toList os i ⟨sl, mem, n0, gd⟩ .t ks = (⟨some d, .lookup t x y ok, ty, pos, aft, none⟩ :: os', i', ⟨sl', mem', n0', gd'⟩, p, ks'))
  (hx : St.ev ⟨sl', mem', n0', gd'⟩ x = some (.c (.X id))) (hy : St.ev ⟨sl', mem', n0', gd'⟩ y = some (.a kc)) (hkc : keyC true q kc = some kk) (hw : wfK len q kk) {ti vi : TI} (hti : lookA t TTab = some ti) (hk : ti.kind = .map kt vt) (hvi : lookA vt TTab = some vi)
  {xs : List (List C × List C)} (hl : lookA id mem' = some (.mp true vi.agg xs)) (hK : KeysA len q xs) {r : Option (List C)} (hr : lookM true q kk xs = some r) {v : AV} (hv : lookV ok vi.agg (r.getD (vi.zero.map ZV.toC)) r.isSome = some v)
  (hc : RG Tryz.prog n ops draw nx (i' + 1) os' ⟨(d, v) :: sl', mem', n0', gd'⟩ (addK draw ks' (okeys [x, y] ++ mkeys [id], [.s d])) R)
  (hp : p := by exact dfpS) (hdn : Nat.blt d n = true := by rfl) : RG Tryz.prog n ops draw nx i os ⟨sl, mem, n0, gd⟩ ks R :=
 rg_run TT_ok h hp (rg_ok (fun ho => ⟨_, _, lookA_sound TT_ok ho rfl rfl (Nat.le_of_ble_eq_true hdn) rfl hx hy hkc hw hti hk A hvi hl hK hr hv _, rd_kn [x, y] [id], kn_put ⟨sl', mem', n0', gd'⟩ d v, reads_of [x, y] [id], fun _ h => by simpa [keysOf] using h⟩) (rg_addK hc))
theorem rmuA {x y z : Operand} {id : Nat} {q : IntKind} {len : Nat} {kk : List Int} {kc : List C} {u : AV} {va : Bool} {vc : List C} {kt vt : Nat} (A : ArrK Tryz.prog kt len q) (h : runs TTab n nx draw ops.toList os i ⟨sl, mem, n0, gd⟩ .t ks = (⟨none, .mapUpdate t x y z, ty, pos, aft, none⟩ :: os', i', ⟨sl', mem', n0', gd'⟩, p, ks'))
  (hx : St.ev ⟨sl', mem', n0', gd'⟩ x = some (.c (.X id))) (hy : St.ev ⟨sl', mem', n0', gd'⟩ y = some (.a kc)) (hkc : keyC true q kc = some kk) (hw : wfK len q kk) (hz : St.ev ⟨sl', mem', n0', gd'⟩ z = some u) (hu : toS u = some (va, vc)) {ti : TI} (hti : lookA t TTab = some ti) (hk : ti.kind = .map kt vt)
  {xs xs' : List (List C × List C)} (hl : lookA id mem' = some (.mp true va xs)) (hK : KeysA len q xs) (hpm : putM true q kk kc vc xs = some xs')
  (hc : RG Tryz.prog n ops draw nx (i' + 1) os' ⟨sl', (id, .mp true va xs') :: mem', n0', gd'⟩ (addK draw ks' (okeys [x, y, z] ++ mkeys [id], [.m id])) R)
  (hp : p := by exact dfpS) : RG Tryz.prog n ops draw nx i os ⟨sl, mem, n0, gd⟩ ks R :=
 rg_run TT_ok h hp (rg_ok (fun ho => ⟨_, _, mapupA_sound TT_ok ho rfl rfl rfl hx hy hkc hw hz hu hti hk A hl hK hpm _, rd_kn [x, y, z] [id], by
  funext key
  cases key with
  | s j => simp [St.kn, upd, says]
  | m j =>
   simp only [St.kn, lookA, upd, says, Key.m.injEq]
   by_cases e : id = j <;> simp [e], reads_of [x, y, z] [id], fun _ h => by simpa [keysOf] using h⟩) (rg_addK hc))
theorem rmr {x : Operand} {id : Nat} {ka va : Bool} {xs : List (List C × List C)} (h : runs TTab n nx draw ops.toList os i ⟨sl, mem, n0, gd⟩ .t ks = (⟨some d, .range t x, ty, pos, aft, none⟩ :: os', i', ⟨sl', mem', n0', gd'⟩, p, ks'))
  (hx : St.ev ⟨sl', mem', n0', gd'⟩ x = some (.c (.X id))) {ti : TI} {kt vt : Nat} (hti : lookA t TTab = some ti) (hk : ti.kind = .map kt vt) (hl : lookA id mem' = some (.mp ka va xs))
  (hc : RG Tryz.prog n ops draw nx (i' + 1) os' ⟨(d, .c (.X (1000000 * nx + 1000 * i'))) :: sl', (1000000 * nx + 1000 * i', .it id xs.length []) :: mem', n0', gd'⟩ (addK draw ks' (okeys [x] ++ mkeys [id], [.s d, .m (1000000 * nx + 1000 * i')])) R)
  (hp : p := by exact dfpS) (hdn : Nat.blt d n = true := by rfl) : RG Tryz.prog n ops draw nx i os ⟨sl, mem, n0, gd⟩ ks R :=
 rg_run TT_ok h hp (rg_ok (fun ho => ⟨_, _, mrange_sound TT_ok ho rfl rfl (Nat.le_of_ble_eq_true hdn) rfl hx hti hk hl _, rd_kn1 x [id], by
  funext key
  cases key with
  | s j =>
   simp only [St.kn, lookA, upd, says, Key.s.injEq, reduceCtorEq, if_false]
   by_cases e : d = j <;> simp [e]
  | m j =>
   simp only [St.kn, lookA, upd, says, Key.m.injEq, reduceCtorEq, if_false]
   by_cases e : 1000000 * nx + 1000 * i' = j <;> simp [e], reads1 x [id], fun _ h => by simpa [keysOf] using h⟩) (rg_addK hc))
theorem rne {x : Operand} {id m N : Nat} {seen : List Nat} {ka va : Bool} {xs : List (List C × List C)} (h : runs TTab n nx draw ops.toList os i ⟨sl, mem, n0, gd⟩ .t ks = (⟨some d, .next x false, ty, pos, aft, none⟩ :: os', i', ⟨sl', mem', n0', gd'⟩, p, ks'))
  (hx : St.ev ⟨sl', mem', n0', gd'⟩ x = some (.c (.X id))) (hl : lookA id mem' = some (.it m N seen)) (hm : lookA m mem' = some (.mp ka va xs)) (hN : xs.length = N) (hall : ∀ j, j < N → j ∈ seen)
  (hc : RG Tryz.prog n ops draw nx (i' + 1) os' ⟨(d, .t [(false, [.B false])]) :: sl', mem', n0', gd'⟩ (addK draw ks' (okeys [x] ++ mkeys [id, m], [.s d])) R)
  (hp : p := by exact dfpS) (hdn : Nat.blt d n = true := by rfl) : RG Tryz.prog n ops draw nx i os ⟨sl, mem, n0, gd⟩ ks R :=
 rg_run TT_ok h hp (rg_ok (fun ho => ⟨_, _, mnext_end ho rfl rfl (Nat.le_of_ble_eq_true hdn) rfl hx hl hm hN hall _, rd_kn1 x [id, m], kn_put ⟨sl', mem', n0', gd'⟩ d _, reads1 x [id, m], fun _ h => by simpa [keysOf] using h⟩) (rg_addK hc))
theorem rns {x : Operand} {id m N : Nat} {seen : List Nat} {ka va : Bool} {xs : List (List C × List C)} (kl vl : Nat) (h : runs TTab n nx draw ops.toList os i ⟨sl, mem, n0, gd⟩ .t ks = (⟨some d, .next x false, ty, pos, aft, none⟩ :: os', i', ⟨sl', mem', n0', gd'⟩, p, ks'))
  (hx : St.ev ⟨sl', mem', n0', gd'⟩ x = some (.c (.X id))) (hl : lookA id mem' = some (.it m N seen)) (hm : lookA m mem' = some (.mp ka va xs)) (hN : xs.length = N) (hex : ∃ j, j < N ∧ j ∉ seen) (hsh : ∀ x ∈ xs, x.1.length = kl ∧ x.2.length = vl) (hk1 : ka = false → kl = 1) (hv1 : va = false → vl = 1)
  (hc : RG Tryz.prog n ops draw nx (i' + 1) os' ⟨(d, .t [(false, [.B true]), anyS ka kl, anyS va vl]) :: sl', (id, .itn m N seen) :: mem', n0', gd'⟩ (addK draw ks' (okeys [x] ++ mkeys [id, m], [.s d, .m id])) R)
  (hp : p := by exact dfpS) (hdn : Nat.blt d n = true := by rfl) : RG Tryz.prog n ops draw nx i os ⟨sl, mem, n0, gd⟩ ks R :=
 rg_run TT_ok h hp (rg_ok (fun ho => ⟨_, _, mnext_some ho rfl rfl (Nat.le_of_ble_eq_true hdn) rfl hx hl hm hN hex hsh hk1 hv1 _, rd_kn1 x [id, m], by
  funext key
  cases key with
  | s j =>
   simp only [St.kn, lookA, upd, says, Key.s.injEq, reduceCtorEq, if_false]
   by_cases e : d = j <;> simp [e]
  | m j =>
   simp only [St.kn, lookA, upd, says, Key.m.injEq, reduceCtorEq, if_false]
   by_cases e : id = j <;> simp [e], reads1 x [id, m], fun _ h => by simpa [keysOf] using h⟩) (rg_addK hc))
theorem ren {x : Operand} {id m N j : Nat} {seen : List Nat} {ka va : Bool} {xs : List (List C × List C)} {kv : List C × List C} (h : runs TTab n nx draw ops.toList os i ⟨sl, mem, n0, gd⟩ .t ks = (⟨some d, .entry x, ty, pos, aft, none⟩ :: os', i', ⟨sl', mem', n0', gd'⟩, p, ks'))
  (hx : St.ev ⟨sl', mem', n0', gd'⟩ x = some (.c (.X id))) (hl : lookA id mem' = some (.it m N (seen ++ [j]))) (hm : lookA m mem' = some (.mp ka va xs)) (hN : xs.length = N) (hj : xs[j]? = some kv) (h1 : ka = false → kv.1.length = 1) (h2 : va = false → kv.2.length = 1)
  (hc : RG Tryz.prog n ops draw nx (i' + 1) os' ⟨(d, .t [(ka, kv.1), (va, kv.2)]) :: sl', mem', n0', gd'⟩ (addK draw ks' (okeys [x] ++ mkeys [id, m], [.s d])) R)
  (hp : p := by exact dfpS) (hdn : Nat.blt d n = true := by rfl) : RG Tryz.prog n ops draw nx i os ⟨sl, mem, n0, gd⟩ ks R :=
 rg_run TT_ok h hp (rg_ok (fun ho => ⟨_, _, mentry_sound ho rfl rfl (Nat.le_of_ble_eq_true hdn) rfl hx hl hm hN hj h1 h2 _, rd_kn1 x [id, m], kn_put ⟨sl', mem', n0', gd'⟩ d _, reads1 x [id, m], fun _ h => by simpa [keysOf] using h⟩) (rg_addK hc))
end
section
variable {P : Program} {tt : TT}
theorem eqA_sound {k yt : TypeId} {len : Nat} {q : IntKind} (A : ArrK P k len q) (hgd : P.eqGuardType P.depth k = false) {ops : Array Oper} {i : Nat} {o : Oper} {d : Nat} (ho : ops[i]? = some o) (hg : o.guard = none) (hd : o.dst = some d) {n : Nat} (hdn : d < n) {x y : Operand} (hop : o.op = .binOp .eql k x y yt)
  {st : St} {kc kc' : List C} {l l' : List Int} (hx : st.ev x = some (.a kc)) (hy : st.ev y = some (.a kc')) (h1 : keyC true q kc = some l) (h2 : keyC true q kc' = some l') (w1 : wfK len q l) (w2 : wfK len q l') (new : Nat) :
  StepS P n ops i ([x, y].flatMap (opd st) ++ mrd st []) [(.s d, some (.v (.c (.B (decide (l = l'))))))] new := by
 refine stepS_val ho hg hd hdn _ _ new ?_
 intro F known σ g W a hsem hrd
 obtain ⟨vs, e1, r1⟩ := ev_rel hsem st x _ hx (fun kx hkx => hrd kx (by simp [hkx]))
 obtain ⟨vs', e2, r2⟩ := ev_rel hsem st y _ hy (fun kx hkx => hrd kx (by simp [hkx]))
 have e1 : a.eval x = vK q l := e1.trans (keyC_arr h1 r1)
 have e2 : a.eval y = vK q l' := e2.trans (keyC_arr h2 r2)
 refine ⟨fun j hj => by simp [AV.mids, C.mids] at hj, .bool (decide (l = l')), ?_, rfl⟩
 have hgu : (eqGuard .eql k x y (vK q l) (vK q l')).run P W = .ok () W := by
  simp [eqGuard, vK, Sem.run, program, hgd]
 have he := A.eq W l l' w1 w2
 rw [execOp, hop]
 simp only [e1, e2, Sem.run_bind, hgu, Result.andThen]
 simp [binOp, vK] at he ⊢
 simp [he, Result.andThen]
end
section
variable {n : Nat} {sl sl' : List (Nat × AV)} {mem mem' : List (Nat × Blk)} {nx : Nat} {gd gd' : List (Nat × Bool)} {ops : Array Oper} {draw : Bool} {p : Pr} {ks ks' : List Ks} {i i' n0 n0' : Nat}
variable {R : St → Prop} {os : List Oper} {d t : Nat} {ty : TypeId} {pos : String} {aft : Array Edge} {os' : List Oper}
theorem rqa {x y : Operand} {k yt : TypeId} {len : Nat} {q : IntKind} (A : ArrK Tryz.prog k len q) (hgd : Program.eqGuardType Tryz.prog (Program.depth Tryz.prog) k = false) (h : runs TTab n nx draw ops.toList os i ⟨sl, mem, n0, gd⟩ .t ks = (⟨some d, .binOp .eql k x y yt, ty, pos, aft, none⟩ :: os', i', ⟨sl', mem', n0', gd'⟩, p, ks'))
  {kc kc' : List C} {l l' : List Int} (hx : St.ev ⟨sl', mem', n0', gd'⟩ x = some (.a kc)) (hy : St.ev ⟨sl', mem', n0', gd'⟩ y = some (.a kc')) (h1 : keyC true q kc = some l) (h2 : keyC true q kc' = some l') (w1 : wfK len q l) (w2 : wfK len q l')
  (hc : RG Tryz.prog n ops draw nx (i' + 1) os' ⟨(d, .c (.B (decide (l = l')))) :: sl', mem', n0', gd'⟩ (addK draw ks' (okeys [x, y] ++ mkeys [], [.s d])) R)
  (hp : p := by exact dfpS) (hdn : Nat.blt d n = true := by rfl) : RG Tryz.prog n ops draw nx i os ⟨sl, mem, n0, gd⟩ ks R :=
 rg_run TT_ok h hp (rg_ok (fun ho => ⟨_, _, eqA_sound A hgd ho rfl rfl (Nat.le_of_ble_eq_true hdn) rfl hx hy h1 h2 w1 w2 _, rd_kn [x, y] [], kn_put ⟨sl', mem', n0', gd'⟩ d _, reads_of [x, y] [], fun _ h => by simpa [keysOf] using h⟩) (rg_addK hc))
end
theorem arrMO : ArrK Tryz.prog 63 8 .i64 := arrK_of (et := 3) (T := ((Tryz.prog).types).size - 1) (by kernel_rfl) (by kernel_rfl) (by kernel_rfl) (by kernel_rfl) (by kernel_rfl)
theorem eqgMO : (Tryz.prog).eqGuardType (Tryz.prog).depth 63 = false := by kernel_rfl
def moL (x : MO.den) : List Int := [x.1, x.2.1, x.2.2.1, x.2.2.2.1, x.2.2.2.2.1, x.2.2.2.2.2.1, x.2.2.2.2.2.2.1, x.2.2.2.2.2.2.2]
theorem moL_key (x : MO.den) : keyC true .i64 (av MO x) = some (moL x) := rfl
theorem moL_inj {x y : MO.den} (h : moL x = moL y) : x = y := by
 obtain ⟨x0, x1, x2, x3, x4, x5, x6, x7⟩ := x
 obtain ⟨y0, y1, y2, y3, y4, y5, y6, y7⟩ := y
 simp only [moL, List.cons.injEq, and_true] at h
 obtain ⟨rfl, rfl, rfl, rfl, rfl, rfl, rfl, rfl⟩ := h
 rfl
theorem wf_i64 {z : Int} (h : -9223372036854775808 ≤ z ∧ z ≤ 9223372036854775807) : (Lit.int .i64 z).wf = true := by
 have e : (Lit.int .i64 z).wf = (decide ((-9223372036854775808 : Int) ≤ z) && decide (z ≤ 9223372036854775807)) := rfl
 rw [e, decide_eq_true h.1, decide_eq_true h.2]; rfl
theorem moL_wf {x : MO.den} (h : bM 65535 x) : wfK 8 .i64 (moL x) := by
 refine ⟨rfl, fun z hz => wf_i64 ?_⟩
 have h0 := h 0 (by decide)
 have h1 := h 1 (by decide)
 have h2 := h 2 (by decide)
 have h3 := h 3 (by decide)
 have h4 := h 4 (by decide)
 have h5 := h 5 (by decide)
 have h6 := h 6 (by decide)
 have h7 := h 7 (by decide)
 simp only [mx] at h0 h1 h2 h3 h4 h5 h6 h7
 simp only [moL, List.mem_cons, List.not_mem_nil, or_false] at hz
 rcases hz with rfl | rfl | rfl | rfl | rfl | rfl | rfl | rfl <;> omega
theorem cmM_at {x y : MO.den} : ∀ {n k i : Nat}, k ≤ i → i < k + n → (∀ j, k ≤ j → j < i → mx x j = mx y j) → mx x i ≠ mx y i → cmM x y n k = if mx x i < mx y i then -1 else 1
 | 0, k, i, h1, h2, _, _ => absurd h2 (by omega)
 | n + 1, k, i, h1, h2, h3, h4 => by
  rw [cmM]
  by_cases e : k = i
  ·subst e
   by_cases h : mx x k < mx y k
   ·rw [if_pos h, if_pos h]
   ·rw [if_neg h, if_neg h, if_pos (by omega)]
  ·have h5 := h3 k (Nat.le_refl _) (by omega)
   rw [if_neg (by omega), if_neg (by omega)]
   exact cmM_at (by omega) (by omega) (fun j a b => h3 j (by omega) b) h4
theorem cmp4_self (x : MO.den) : cmp4 x x = 0 := by
 have key : ∀ n i, cmM x x n i = 0 := by
  intro n
  induction n with
  | zero => intro i; rfl
  | succ n ih => intro i; rw [cmM, if_neg (Int.lt_irrefl _), if_neg (Int.lt_irrefl _), ih]
 exact key 8 0
set_option maxRecDepth 100000 in
set_option maxHeartbeats 8000000 in
theorem pCmp_s {x y : MO.den} (hx : bM 65535 x) (hy : bM 65535 y) : FnS Tryz.prog 112 [aM x, aM y] (cI (cmp4 x y)) := by
 refine fsI Tryz.func112 ?_
 refine rr rfl (tr_seq (rb (rqa arrMO eqgMO rfl rfl rfl (moL_key x) (moL_key y) (moL_wf hx) (moL_wf hy) (re rfl (tr_cond rfl (fun h => ?_) (fun h => skT ?_))))))
 ·have h := moL_inj (of_decide_eq_true h)
  subst h
  exact rr rfl (tr_ret (at_then_ret (atE rfl (congrArg cI (cmp4_self x).symm))))
 ·have hne : x ≠ y := fun e => of_decide_eq_false h (by rw [e])
  refine rr rfl (tr_seq (tr_block (tr_loop (α := Nat) (fun i => ⟨[(2, .c (.P 0 0)), (3, .c (.P 1000 0)), (5, cI i)], [(1000, .box 63 0 (av MO y)), (0, .box 63 0 (av MO x))], 10, []⟩) (fun i => i < 8 ∧ ∀ j, j < i → mx x j = mx y j) (fun i => 8 - i) 0 ⟨by decide, fun j h => absurd h (Nat.not_lt_zero _)⟩ wkA ?_)))
  rintro i ⟨hi, hc⟩
  have hlast : ∀ j, j < 8 → (∀ k, k < 8 → k ≠ j → mx x k = mx y k) → mx x j ≠ mx y j := fun j hj hk e => hne (mx_ext fun k hk8 => by
   by_cases ek : k = j
   ·rw [ek]; exact e
   ·exact hk k hk8 ek)
  have hcm := fun (hd : mx x i ≠ mx y i) => cmM_at (x := x) (y := y) (n := 8) (k := 0) (Nat.zero_le i) (by omega) (fun j _ hj => hc j hj) hd
  have hstep : mx x i = mx y i → i + 1 < 8 ∧ ∀ j, j < i + 1 → mx x j = mx y j := fun e => by
   have h1 : ∀ j, j < i + 1 → mx x j = mx y j := fun j hj => by
    by_cases ej : j = i
    ·rw [ej]; exact e
    ·exact hc j (by omega)
   refine ⟨Classical.byContradiction fun h8 => hne (mx_ext fun k hk => h1 k (by omega)), h1⟩
  rcases lt8 hi with rfl | rfl | rfl | rfl | rfl | rfl | rfl | rfl
  all_goals
   refine tr_seq (rr rfl (tr_cond rfl (fun h2 => ?_) (fun h2 => ?_)))
   ·have h2 := eq_of_beq h2
    let ⟨s1, s2⟩ := hstep h2
    exact skT (tr_block (rt rfl (hp := by simp only [Pr.an, Pr.h, num, i64r, true_and, and_true]; first | done | omega) (at_block (at_loop _ ⟨s1, s2⟩ (by decide) wkA))))
   ·have h2 := ne_of_beq_false h2
    have hcm := hcm h2
    refine xlE (at_then ?_)
    refine tr_seq (rr rfl (tr_cond rfl (fun h3 => ?_) (fun h3 => skT ?_)))
    ·have h3 := of_decide_eq_true h3
     exact rr rfl (tr_ret (at_then_ret (atE rfl (congrArg cI (hcm.trans (if_pos h3)).symm))))
    ·have h3 := of_decide_eq_false h3
     exact rr rfl (rtE rfl (congrArg cI (hcm.trans (if_neg h3)).symm))
section
variable {P : Program} {tt : TT}
theorem makeC_ok (htt : ttB P tt = true) {ops : Array Oper} {i : Nat} {o : Oper} {d : Nat} (ho : ops[i]? = some o) (hg : o.guard = none) (hd : o.dst = some d) {n : Nat} (hdn : d < n) {t : TypeId} {x y : Operand} (hop : o.op = .makeSlice t x y)
  {st : St} {m : Nat} {k k2 : IntKind} (hx : st.ev x = some (.c (.I k2 0))) (hy : st.ev y = some (.c (.I k (m : Int)))) {E : Nat} {ti ei : TI} (hti : lookA t tt = some ti) (hk : ti.kind = .sl E) (hei : lookA E tt = some ei) (T : ET) (hTn : ei.size = T.n) (hzn : ei.zero.length = T.n)
  (hb : m * ei.bytes ≤ 281474976710656) (hb2 : m * T.n ≤ 140737488355328) (new : Nat) :
  StepOk P n ops i st ((st.pm new (.vec E T [])).put d (.c (.X new))) new (okeys o.op.operands.toList, [.s d, .m new]) := by
 refine newvec_ok ho hg hd hdn new (by simp) ?_
 intro F known σ g W a hsem hrd
 have hrx : a.eval x = .int k2 0 := ev_rel hsem st x _ hx (fun kx hkx => hrd kx (by rw [hop]; simp [rdV, Op.operands, hkx]))
 have hry : a.eval y = .int k (m : Int) := ev_rel hsem st y _ hy (fun kx hkx => hrd kx (by rw [hop]; simp [rdV, Op.operands, hkx]))
 have hu := (ttB_ok htt hti).kind
 rw [hk] at hu
 let ⟨inf, hinf, hisz, hiby, z, hzz, hzc⟩ := (ttB_ok htt hei).info
 have hzsl : (ei.zero.map ZV.toV).length = T.n := by simpa using hzn
 have hzc' : z.cells = (ei.zero.map ZV.toV).toArray := by rw [← Array.toList_inj]; simpa using hzc
 have hzne : (ei.zero.map ZV.toV) ≠ [] := by
  intro e
  rw [e] at hzsl
  have := T.n_pos
  simp at hzsl
  omega
 have hm1 : m * 1 ≤ m * T.n := Nat.mul_le_mul_left m T.n_pos
 have hby : (inf.bytes : Int) * (m : Int) ≤ 281474976710656 := by
  rw [hiby]
  have : (ei.bytes : Int) * (m : Int) = ((m * ei.bytes : Nat) : Int) := by rw [Nat.mul_comm]; simp
  rw [this]
  omega
 have hrun := run_make (P := P) W t E inf z hu hinf hzz k2 k 0 m (by omega) (by omega) hby (by omega)
 refine ⟨(List.replicate m (ei.zero.map ZV.toV)).flatten, m, W, ?_, rfl, rfl, rfl, ?_, by simp, ?_⟩
 ·rw [execOp, hop]
  have hcells : madeCells z.cells (m * inf.size) = ((List.replicate m (ei.zero.map ZV.toV)).flatten).toArray := by
   rw [hisz, hTn, hzc', ← hzsl, ← makeCells_eq _ m hzne]
   rfl
  simp only [Int.toNat_natCast] at hrun
  rw [hcells] at hrun
  simp only [hrx, hry, Sem.run_bind, hrun, Result.andThen]
  rfl
 ·rw [flatten_replicate_length, hzsl]
 ·intro j hj
  exact absurd hj (Nat.not_lt_zero _)
end
section
variable {n : Nat} {sl sl' : List (Nat × AV)} {mem mem' : List (Nat × Blk)} {nx : Nat} {gd gd' : List (Nat × Bool)} {ops : Array Oper} {draw : Bool} {p : Pr} {ks ks' : List Ks} {i i' n0 n0' : Nat}
variable {R : St → Prop} {os : List Oper} {d t : Nat} {ty : TypeId} {pos : String} {aft : Array Edge} {os' : List Oper}
theorem rmc {x y : Operand} (T : ET) (m : Nat) (h : runs TTab n nx draw ops.toList os i ⟨sl, mem, n0, gd⟩ .t ks = (⟨some d, .makeSlice t x y, ty, pos, aft, none⟩ :: os', i', ⟨sl', mem', n0', gd'⟩, p, ks')) {k k2 : IntKind} {v : Int} (hx : St.ev ⟨sl', mem', n0', gd'⟩ x = some (.c (.I k2 0))) (hy : St.ev ⟨sl', mem', n0', gd'⟩ y = some (.c (.I k v))) {E : Nat} {ti ei : TI} (hti : lookA t TTab = some ti) (hkd : ti.kind = .sl E) (hei : lookA E TTab = some ei) (hTn : ei.size = T.n) (hzn : ei.zero.length = T.n)
  (hv : v = (m : Int)) (hb : m * ei.bytes ≤ 281474976710656) (hb2 : m * T.n ≤ 140737488355328)
  (hk : RG Tryz.prog n ops draw nx (i' + 1) os' ⟨(d, .c (.X (1000000 * nx + 1000 * i'))) :: sl', (1000000 * nx + 1000 * i', .vec E T []) :: mem', n0', gd'⟩ (addK draw ks' (okeys [x, y], [.s d, .m (1000000 * nx + 1000 * i')])) R)
  (hp : p := by exact dfpS) (hdn : Nat.blt d n = true := by rfl) : RG Tryz.prog n ops draw nx i os ⟨sl, mem, n0, gd⟩ ks R := by
 subst hv
 exact rg_run TT_ok h hp (rg_ok (fun ho => makeC_ok TT_ok ho rfl rfl (Nat.le_of_ble_eq_true hdn) rfl hx hy hti hkd hei T hTn hzn hb hb2 _) (rg_addK hk))
end
theorem nodup_le : ∀ (N : Nat) (l : List Nat), l.Nodup → (∀ j ∈ l, j < N) → l.length ≤ N
 | 0, l, _, h => by
  cases l with
  | nil => exact Nat.le_refl _
  | cons x l => exact absurd (h x (by simp)) (Nat.not_lt_zero _)
 | N + 1, l, hn, h => by
  by_cases hm : N ∈ l
  ·have h1 := nodup_le N (l.erase N) (hn.erase N) fun j hj => by
    have h2 := h j (List.mem_of_mem_erase hj)
    have h3 : j ≠ N := fun e => by
     subst e
     exact (List.Nodup.not_mem_erase hn) hj
    omega
   rw [List.length_erase_of_mem hm] at h1
   omega
  ·have h1 := nodup_le N l hn fun j hj => by
    have h2 := h j hj
    have h3 : j ≠ N := fun e => hm (e ▸ hj)
    omega
   omega
theorem nodup_all {N : Nat} {l : List Nat} (hn : l.Nodup) (h : ∀ j ∈ l, j < N) (he : l.length = N) : ∀ j, j < N → j ∈ l := fun j hj => Classical.byContradiction fun hm => by
 have := nodup_le N (j :: l) (List.nodup_cons.2 ⟨hm, hn⟩) (fun i hi => by rcases List.mem_cons.1 hi with rfl | hi; exact hj; exact h i hi)
 rw [List.length_cons] at this
 omega
theorem nodup_ex {N : Nat} {l : List Nat} (hn : l.Nodup) (h : ∀ j ∈ l, j < N) (he : l.length < N) : ∃ j, j < N ∧ j ∉ l := Classical.byContradiction fun hx => by
 have h1 : ∀ j, j < N → j ∈ l := fun j hj => Classical.byContradiction fun hm => hx ⟨j, hj, hm⟩
 have h2 := nodup_le l.length (List.range N) List.nodup_range
 have key : ∀ (M : Nat), M ≤ N → M ≤ l.length := by
  intro M
  induction M generalizing l with
  | zero => intro _; exact Nat.zero_le _
  | succ M ih =>
   intro hM
   exact Classical.byContradiction fun hc => by
    have h3 : ((List.range (M + 1)).filter fun j => decide (j ∈ l)) = List.range (M + 1) := List.filter_eq_self.2 fun j hj => by
     have := List.mem_range.1 hj
     exact decide_eq_true (h1 j (by omega))
    have h4 : (List.range (M + 1)).length ≤ l.length := by
     have sub : ∀ (a b : List Nat), a.Nodup → (∀ x ∈ a, x ∈ b) → a.length ≤ b.length := by
      intro a
      induction a with
      | nil => intro b _ _; exact Nat.zero_le _
      | cons x a iha =>
       intro b hna hs
       let ⟨x1, x2⟩ := List.nodup_cons.1 hna
       have hxb := hs x (by simp)
       have := iha (b.erase x) x2 fun y hy => by
        have hyx : y ≠ x := fun e => x1 (e ▸ hy)
        exact (List.mem_erase_of_ne hyx).2 (hs y (by simp [hy]))
       rw [List.length_erase_of_mem hxb] at this
       have := List.length_pos_of_mem hxb
       rw [List.length_cons]
       omega
     exact sub _ _ List.nodup_range fun j hj => h1 j (by have := List.mem_range.1 hj; omega)
    rw [List.length_range] at h4
    omega
 have := key N (Nat.le_refl _)
 omega
end Go.El

namespace Go.El
end Go.El

namespace Go.El
open Go Go.RowKit
def mw (A B id : Nat) : Nat := cond (Nat.beq id A) B id
theorem mw_ne {A B id : Nat} (h : id ≠ A) : mw A B id = id := by
 unfold mw
 cases e : Nat.beq id A with
 | true => exact absurd (Nat.eq_of_beq_eq_true e) h
 | false => rfl
theorem mw_eq (A B : Nat) : mw A B A = B := by unfold mw; rw [Nat.beq_refl]; rfl
theorem mw_inj {α : Type} {A B : Nat} {m : List (Nat × α)} (hB : lookA B m = none) : ∀ id id', (lookA id m).isSome = true → (lookA id' m).isSome = true → mw A B id = mw A B id' → id = id' := by
 intro id id' h h' e
 by_cases h1 : id = A <;> by_cases h2 : id' = A
 ·rw [h1, h2]
 ·subst h1
  rw [mw_eq, mw_ne h2] at e
  subst e
  rw [hB] at h'; cases h'
 ·subst h2
  rw [mw_eq, mw_ne h1] at e
  subst e
  rw [hB] at h; cases h
 ·rwa [mw_ne h1, mw_ne h2] at e
end Go.El

namespace Go.El
open Go Go.Proofs
abbrev fnV (f : Nat) : AV := .c (.V (.func (.func f) ⟨[]⟩ ⟨[]⟩))
end Go.El

namespace Go.El
section
variable {α : Type} {d : α} {cm : α → α → Int}
def gSw (d : α) (xs : List (α)) (j : Nat) : List (α) := (xs.set (j + 1) (xs.getD j d)).set j (xs.getD (j + 1) d)
def gIn (d : α) (cm : α → α → Int) : Nat → List (α) → List (α)
 | 0, xs => xs
 | j + 1, xs => if cm (xs.getD (j + 1) d) (xs.getD j d) < 0 then gIn d cm j (gSw d xs j) else xs
def gIS (d : α) (cm : α → α → Int) (xs : List (α)) : Nat → List (α)
 | 0 => xs
 | i + 1 => gIn d cm (i + 1) (gIS d cm xs i)
theorem gSw_len (xs : List (α)) (j : Nat) : (gSw d xs j).length = xs.length := by simp [gSw]
theorem gIn_len : ∀ (j : Nat) (xs : List (α)), (gIn d cm j xs).length = xs.length
 | 0, _ => rfl
 | j + 1, xs => by
  rw [gIn]
  split
  ·rw [gIn_len j, gSw_len]
  ·rfl
theorem gIS_len (xs : List (α)) : ∀ i, (gIS d cm xs i).length = xs.length
 | 0 => rfl
 | i + 1 => by rw [gIS, gIn_len, gIS_len xs i]
theorem getG {xs : List (α)} {i : Nat} (h : i < xs.length) : xs.getD i d = xs[i] := by
 rw [List.getD_eq_getElem?_getD, List.getElem?_eq_getElem h]; rfl
theorem gSw_perm {xs : List (α)} {j : Nat} (h : j + 1 < xs.length) : (gSw d xs j).Perm xs := by
 have e1 : xs = xs.take j ++ (xs[j] :: xs[j + 1] :: xs.drop (j + 2)) := by
  rw [← List.drop_eq_getElem_cons h, ← List.drop_eq_getElem_cons (show j < xs.length by omega), List.take_append_drop]
 have e2 : gSw d xs j = xs.take j ++ (xs[j + 1] :: xs[j] :: xs.drop (j + 2)) := by
  unfold gSw
  rw [getG h, getG (show j < xs.length by omega)]
  generalize xs[j] = a at *
  generalize xs[j + 1] = b at *
  generalize hA : xs.take j = A at *
  generalize xs.drop (j + 2) = B at *
  have hl : A.length = j := by rw [← hA, List.length_take]; omega
  rw [e1, List.set_append_right _ _ (by omega), List.set_append_right _ _ (by omega), hl, Nat.sub_self, show j + 1 - j = 1 by omega]
  rfl
 rw [e2]
 conv => rhs; rw [e1]
 exact (List.Perm.swap _ _ _).append_left _
theorem gIn_perm : ∀ (j : Nat) (xs : List (α)), j < xs.length → (gIn d cm j xs).Perm xs
 | 0, _, _ => List.Perm.refl _
 | j + 1, xs, h => by
  rw [gIn]
  split
  ·exact (gIn_perm j _ (by rw [gSw_len]; omega)).trans (gSw_perm h)
  ·exact List.Perm.refl _
theorem gIS_perm (xs : List (α)) : ∀ i, i < xs.length → (gIS d cm xs i).Perm xs
 | 0, _ => List.Perm.refl _
 | i + 1, h => (gIn_perm (i + 1) _ (by rw [gIS_len]; exact h)).trans (gIS_perm xs i (by omega))
theorem gIS_mem {xs : List (α)} {i : Nat} (h : i = 0 ∨ i < xs.length) {x : α} (hx : x ∈ gIS d cm xs i) : x ∈ xs := by
 rcases h with rfl | h
 ·exact hx
 ·exact (gIS_perm xs i h).mem_iff.1 hx
theorem gSw_get {xs : List (α)} {j : Nat} (h : j + 1 < xs.length) (t : Nat) : (gSw d xs j).getD t d = if t = j then xs.getD (j + 1) d else if t = j + 1 then xs.getD j d else xs.getD t d := by
 have hs : ∀ (l : List (α)) (i c : Nat) (x : α), i < l.length → (l.set i x).getD c d = if i = c then x else l.getD c d := by
  intro l i c x h
  rw [List.getD_eq_getElem?_getD, List.getElem?_set]
  by_cases e : i = c
  ·subst e; rw [if_pos rfl, if_pos rfl, if_pos h]; rfl
  ·rw [if_neg e, if_neg e, List.getD_eq_getElem?_getD]
 unfold gSw
 rw [hs _ _ _ _ (by rw [List.length_set]; omega), hs _ _ _ _ h]
 by_cases e : j = t
 ·subst e; rw [if_pos rfl, if_pos rfl]
 ·have e' : ¬ t = j := fun q => e q.symm
  rw [if_neg e, if_neg e']
  by_cases e2 : j + 1 = t
  ·subst e2; rw [if_pos rfl]; first | done | rw [if_pos rfl]
  ·have e3 : ¬ t = j + 1 := fun q => e2 q.symm
   rw [if_neg e2, if_neg e3]
def gAd (d : α) (cm : α → α → Int) (xs : List (α)) (k : Nat) : Prop := ∀ t, t < k → 0 ≤ cm (xs.getD (t + 1) d) (xs.getD t d)
theorem gIn_adj (hneg : ∀ a b, cm a b = -cm b a) {n : Nat} : ∀ (j : Nat) (xs : List (α)), n < xs.length → j ≤ n → (∀ t, t + 1 < j → 0 ≤ cm (xs.getD (t + 1) d) (xs.getD t d)) → (∀ t, j ≤ t → t < n → 0 ≤ cm (xs.getD (t + 1) d) (xs.getD t d)) → (j < n → 0 < j → 0 ≤ cm (xs.getD (j + 1) d) (xs.getD (j - 1) d)) → gAd d cm (gIn d cm j xs) n
 | 0, xs, _, _, _, h2, _ => fun t ht => h2 t (Nat.zero_le _) ht
 | j + 1, xs, hn, hj, h1, h2, h3 => by
  rw [gIn]
  split
  ·rename_i hlt
   have hg := fun t => gSw_get (d := d) (xs := xs) (j := j) (by omega) t
   refine gIn_adj hneg j (gSw d xs j) (by rw [gSw_len]; exact hn) (by omega) (fun t ht => ?_) (fun t ht1 ht2 => ?_) (fun _ hj0 => ?_)
   ·rw [hg, hg, if_neg (by omega), if_neg (by omega), if_neg (by omega), if_neg (by omega)]
    exact h1 t (by omega)
   ·rw [hg, hg]
    by_cases e : t = j
    ·subst e
     rw [if_neg (by omega), if_pos rfl, if_pos rfl, hneg]; omega
    ·rw [if_neg (by omega), if_neg (by omega)]
     by_cases e2 : t = j + 1
     ·subst e2
      rw [if_neg (by omega), if_pos rfl]
      exact h3 (by omega) (by omega)
     ·rw [if_neg (by omega), if_neg e2]
      exact h2 t (by omega) ht2
   ·rw [hg, hg, if_neg (by omega), if_pos rfl, if_neg (by omega), if_neg (by omega)]
    have := h1 (j - 1) (by omega)
    rwa [show j - 1 + 1 = j by omega] at this
  ·rename_i hge
   intro t ht
   by_cases e : t < j
   ·exact h1 t (by omega)
   ·by_cases e2 : t = j
    ·subst e2; omega
    ·exact h2 t (by omega) ht
theorem gIS_adj (hneg : ∀ a b, cm a b = -cm b a) (xs : List (α)) : ∀ i, i < xs.length → gAd d cm (gIS d cm xs i) i
 | 0, _ => fun t ht => by omega
 | i + 1, h => by
  have ih := gIS_adj hneg xs i (by omega)
  rw [gIS]
  exact gIn_adj hneg (i + 1) _ (by rw [gIS_len]; exact h) (Nat.le_refl _) (fun t ht => ih t (by omega)) (fun t h1 h2 => by omega) (fun h1 => by omega)
end
end Go.El

namespace Go.El
open Go Go.RowKit Go.Proofs
def cmT (a b : TE.den) : Int := cmp4 b.2 a.2
set_option maxRecDepth 100000 in
set_option maxHeartbeats 4000000 in
theorem pTc_s {a b : TE.den} (ha : bM 65535 a.2) (hb : bM 65535 b.2) : FnS Tryz.prog 137 [.a (av TE a), .a (av TE b)] (cI (cmT a b)) := by
 refine fsI Tryz.func137 ?_
 exact rr rfl (rb (rc rfl rfl (pCmp_s hb ha) (re rfl (rtR rfl))))
theorem cellsT (x : TE.den) : cellsAV (.a (List.take 12 (List.drop 0 (av TE x)))) = some (av TE x) := rfl
set_option maxRecDepth 100000 in
set_option maxHeartbeats 4000000 in
theorem tinsort_s (xs : List TE.den) (hl : xs.length ≤ 12) (hx : ∀ x ∈ xs, bM 65535 x.2) : FnM Tryz.prog 183 [.c (.X 0), cI 0, cI xs.length, fnV 137] 75 TE xs (.t []) (gIS TE.dflt cmT xs (xs.length - 1)) := by
 refine fm_intro Tryz.func183 rfl rfl rfl rfl rfl (by decide) ?_
 refine rr rfl ?_
 refine tr_block (tr_loop (α := Nat) (fun i => ⟨[(0, .c (.X 0)), (1, cI 0), (2, cI xs.length), (3, fnV 137), (8, cI i)], [(0, .vec 75 TE (gIS TE.dflt cmT xs (i - 1)))], 2, []⟩) (fun i => 1 ≤ i ∧ i - 1 ≤ xs.length - 1) (fun i => xs.length - i) 1 ⟨Nat.le_refl _, Nat.zero_le _⟩ (wk (wkSr rfl) ⟨bE rfl rfl, trivial⟩) ?_)
 rintro i ⟨hi1, hi⟩
 refine tr_seq (rr rfl (tr_cond rfl (fun h => ?_) (fun h => ?_)))
 ·have h : i < xs.length := by
   have h : (i : Int) < (xs.length : Int) := of_decide_eq_true h
   omega
  have hS : gIS TE.dflt cmT xs i = gIn TE.dflt cmT i (gIS TE.dflt cmT xs (i - 1)) := by
   obtain ⟨q, rfl⟩ : ∃ q, i = q + 1 := ⟨i - 1, by omega⟩
   rfl
  refine skT (tr_seq (tr_block (rr rfl ?_)))
  refine tr_block (tr_loop (α := Nat × List TE.den) (fun x => ⟨[(0, .c (.X 0)), (1, cI 0), (2, cI xs.length), (3, fnV 137), (8, cI i), (9, cI x.1)], [(0, .vec 75 TE x.2)], 4, []⟩) (fun x => gIn TE.dflt cmT x.1 x.2 = gIS TE.dflt cmT xs i ∧ x.1 ≤ i ∧ x.2.length = xs.length ∧ ∀ y ∈ x.2, bM 65535 y.2) (fun x => x.1) (i, gIS TE.dflt cmT xs (i - 1)) ⟨hS.symm, Nat.le_refl _, gIS_len xs _, fun y hy => hx y (gIS_mem (by omega) hy)⟩ wkA ?_)
  rintro ⟨j, ys⟩ ⟨hj1, hj2, hj3, hj4⟩
  simp only at hj1 hj2 hj3 hj4
  refine tr_seq (rb (rg 21 rfl rfl (fun h1 => ?_) (fun h1 => ?_)))
  ·have h1 : 0 < j := by
    have h1 : (j : Int) > 0 := of_decide_eq_true h1
    omega
   obtain ⟨j, rfl⟩ : ∃ q, j = q + 1 := ⟨j - 1, by omega⟩
   have e1 : (((j + 1 : Nat) : Int)).toNat = j + 1 := Int.toNat_natCast _
   have e2 : (((j + 1 : Nat) : Int) - 1).toNat = j := by omega
   have g1 : ys.getD (j + 1) TE.dflt ∈ ys := by rw [getG (by omega)]; exact List.getElem_mem _
   have g2 : ys.getD j TE.dflt ∈ ys := by rw [getG (by omega)]; exact List.getElem_mem _
   have hc : FnS Tryz.prog 137 ([] ++ ([.a (av TE (ys.getD (((j + 1 : Nat) : Int)).toNat TE.dflt)), .a (av TE (ys.getD (((j + 1 : Nat) : Int) - 1).toNat TE.dflt))] ++ [])) (cI (cmT (ys.getD (j + 1) TE.dflt) (ys.getD j TE.dflt))) := by
    rw [e1, e2]
    exact pTc_s (hj4 _ g1) (hj4 _ g2)
   rw [gIn] at hj1
   refine rcsg rfl rfl rfl rfl rfl (.inl ⟨rfl, rfl, rfl⟩) rfl hc (re rfl (tr_cond rfl (fun h2 => ?_) (fun h2 => ?_))) (hp := by simp only [Pr.an, Pr.h, num, i64r, true_and, and_true]; first | done | omega)
   ·have h2 : cmT (ys.getD (j + 1) TE.dflt) (ys.getD j TE.dflt) < 0 := of_decide_eq_true h2
    rw [if_pos h2] at hj1
    refine skT (tr_seq (tr_block (rbt (rsv (ys.getD j TE.dflt) rfl rfl rfl rfl ?_ ?_ (rsv (ys.getD (j + 1) TE.dflt) rfl rfl rfl rfl ?_ ?_ (re rfl ?_) (hp := ?_)) (hp := ?_)))))
    ·show cellsAV (.a (List.take 12 (List.drop 0 (av TE (ys.getD (((j + 1 : Nat) : Int) - 1).toNat TE.dflt))))) = _
     rw [e2]; exact cellsT _
    ·show (((j + 1 : Nat) : Int)).toNat < ys.length
     omega
    ·show cellsAV (.a (List.take 12 (List.drop 0 (av TE (ys.getD (((j + 1 : Nat) : Int)).toNat TE.dflt))))) = _
     rw [e1]; exact cellsT _
    ·show (((j + 1 : Nat) : Int) - 1).toNat < (ys.set _ _).length
     rw [List.length_set]; omega
    ·refine bkT (rt rfl (hp := by simp only [Pr.an, Pr.h, num, i64r, true_and, and_true]; first | done | omega) (at_loop (j, gSw TE.dflt ys j) ⟨hj1, by show j ≤ i; omega, by rw [gSw_len]; exact hj3, fun y hy => hj4 y ((gSw_perm (by omega)).mem_iff.1 hy)⟩ (by show j < j + 1; omega) (wk ⟨sR rfl, sR rfl, sR rfl, sR rfl, sR rfl, ⟨_, rfl, ?_⟩, trivial⟩ ⟨bE rfl ?_, trivial⟩)))
     ·exact AVle.of_eq (cgJ (show ((j + 1 : Nat) : Int) - 1 = (j : Int) by omega))
     ·show Blk.vec 75 TE ((ys.set (((j + 1 : Nat) : Int)).toNat _).set (((j + 1 : Nat) : Int) - 1).toNat _) = _
      rw [e1, e2]; rfl
    ·show 0 ≤ ((j + 1 : Nat) : Int) - 1 ∧ ((j + 1 : Nat) : Int) - 1 < ((ys.set _ _).length : Int)
     rw [List.length_set]; omega
    ·simp only [Pr.an, Pr.h, num, i64r, true_and, and_true]; omega
   ·have h2 : ¬ cmT (ys.getD (j + 1) TE.dflt) (ys.getD j TE.dflt) < 0 := of_decide_eq_false h2
    rw [if_neg h2] at hj1
    subst hj1
    exact xlE (bkT (rt rfl (hp := by simp only [Pr.an, Pr.h, num, i64r, true_and, and_true]; first | done | omega) (at_loop (i + 1) ⟨by omega, by omega⟩ (by show xs.length - (i + 1) < xs.length - i; omega) (wk ⟨sR rfl, sR rfl, sR rfl, sR rfl, sE rfl rfl, trivial⟩ ⟨bR rfl, trivial⟩))))
  ·have h1 : j = 0 := by
    have h1 : ¬ (j : Int) > 0 := of_decide_eq_false h1
    omega
   subst h1
   have hj1 : ys = gIS TE.dflt cmT xs i := hj1
   subst hj1
   exact re rfl (tr_cond rfl (fun h2 => by cases h2) (fun _ => xlE (bkT (rt rfl (hp := by simp only [Pr.an, Pr.h, num, i64r, true_and, and_true]; first | done | omega) (at_loop (i + 1) ⟨by omega, by omega⟩ (by show xs.length - (i + 1) < xs.length - i; omega) (wk ⟨sR rfl, sR rfl, sR rfl, sR rfl, sE rfl rfl, trivial⟩ ⟨bR rfl, trivial⟩))))))
 ·have h : i - 1 = xs.length - 1 := by
   have h : ¬ (i : Int) < (xs.length : Int) := of_decide_eq_false h
   omega
  rw [h]
  exact xlE (at_endM TT_ok rfl (AVle.refl _) rfl)
set_option maxRecDepth 100000 in
set_option maxHeartbeats 4000000 in
theorem tpdq_s (xs : List TE.den) (hl : xs.length ≤ 12) (hx : ∀ x ∈ xs, bM 65535 x.2) (t : Int) : FnM Tryz.prog 163 [.c (.X 0), cI 0, cI xs.length, cI t, fnV 137] 75 TE xs (.t []) (gIS TE.dflt cmT xs (xs.length - 1)) := by
 refine fm_intro Tryz.func163 rfl rfl rfl rfl rfl (by decide) ?_
 refine rr rfl (rr rfl ?_)
 refine tr_block (tr_loop (α := Unit) (fun _ => ⟨[(0, .c (.X 0)), (1, cI 0), (2, cI xs.length), (3, cI t), (4, fnV 137)], [(0, .vec 75 TE xs)], 3, []⟩) (fun _ => True) (fun _ => 0) () trivial wkA ?_)
 rintro - -
 refine tr_block (rr rfl (tr_seq (rr rfl (tr_cond rfl (fun h => ?_) (fun h => ?_)))))
 ·exact rb (rcm 0 rfl (tinsort_s xs hl hx) rfl rfl (re rfl (tr_ret (at_then_ret (at_block_ret (at_loop_ret (at_block_ret (at_retM TT_ok rfl (AVle.refl _) rfl))))))))
 ·have h : ¬ ((xs.length : Int) - 0 ≤ 12) := of_decide_eq_false h
  omega
theorem tsort_s (xs : List TE.den) (hl : xs.length ≤ 12) (hx : ∀ x ∈ xs, bM 65535 x.2) : FnM Tryz.prog 136 [.c (.X 0), fnV 137] 75 TE xs (.t []) (gIS TE.dflt cmT xs (xs.length - 1)) := by
 refine fm_intro Tryz.func136 rfl rfl rfl rfl rfl (by decide) ?_
 refine rr rfl ?_
 have hlen : FnS Tryz.prog 149 [AV.c (num .u64 (xs.length : Int)).1] (cI (lenN xs.length)) := by
  rw [show (AV.c (num .u64 (xs.length : Int)).1) = cU (xs.length : Int) from cgU (wrap_u64 _ (by omega) (by omega))]
  exact ilen_s _ hl
 refine rbt (rc rfl rfl hlen (rcm 0 rfl (tpdq_s xs hl hx _) rfl rfl (re rfl (at_endM TT_ok rfl (AVle.refl _) rfl))))
theorem cm_neg (x y : MO.den) : ∀ n i, cmM x y n i = -cmM y x n i
 | 0, _ => rfl
 | n + 1, i => by
  rw [cmM, cmM, cm_neg x y n (i + 1)]
  by_cases h1 : mx x i < mx y i
  ·rw [if_pos h1, if_neg (by omega), if_pos h1]
  ·by_cases h2 : mx y i < mx x i
   ·rw [if_neg h1, if_pos h2, if_pos h2]; rfl
   ·rw [if_neg h1, if_neg h2, if_neg h2, if_neg h1]
theorem cm_trans {x y z : MO.den} : ∀ n i, 0 < cmM x y n i → 0 < cmM y z n i → 0 < cmM x z n i
 | 0, _, h, _ => h
 | n + 1, i, h1, h2 => by
  rw [cmM] at h1 h2 ⊢
  by_cases a : mx x i < mx y i
  ·rw [if_pos a] at h1; omega
  ·rw [if_neg a] at h1
   by_cases b : mx y i < mx z i
   ·rw [if_pos b] at h2; omega
   ·rw [if_neg b] at h2
    rw [if_neg (by omega)]
    by_cases c : mx x i > mx y i
    ·rw [if_pos (by omega)]; decide
    ·rw [if_neg c] at h1
     by_cases e : mx y i > mx z i
     ·rw [if_pos (by omega)]; decide
     ·rw [if_neg e] at h2
      rw [if_neg (by omega)]
      exact cm_trans n (i + 1) h1 h2
theorem cmp4_neg (x y : MO.den) : cmp4 x y = -cmp4 y x := cm_neg x y 8 0
theorem cmp4_tr {x y z : MO.den} (h : 0 < cmp4 x y) (k : 0 < cmp4 y z) : 0 < cmp4 x z := cm_trans 8 0 h k
theorem cmp4_ne {x y : MO.den} (h : x ≠ y) : cmp4 x y ≠ 0 := fun e => h (cmp4_z e)
theorem cmp4_irr {x y : MO.den} (h : 0 < cmp4 x y) : x ≠ y := fun e => by subst e; rw [cmp4_self] at h; exact absurd h (by decide)
abbrev DecT (p : List TE.den) : Prop := p.Pairwise fun a b => 0 < cmp4 a.2 b.2
theorem radd_inj {a b c : Rat} (h : a + b = a + c) : b = c := by grind
structure Cn (p : List TE.den) : Prop where
 dec : DecT p
 ne : ∀ x ∈ p, x.1 ≠ 0
theorem Cn.nil : Cn [] := ⟨List.Pairwise.nil, by simp⟩
theorem Cn.tail {x : TE.den} {p : List TE.den} (h : Cn (x :: p)) : Cn p := ⟨(List.pairwise_cons.1 h.dec).2, fun y hy => h.ne y (List.mem_cons_of_mem _ hy)⟩
def cfT : List TE.den → MO.den → Rat
 | [], _ => 0
 | x :: p, m => (if cmp4 x.2 m = 0 then x.1 else 0) + cfT p m
theorem cfT_e {x : TE.den} {p : List TE.den} {m : MO.den} (h : x.2 = m) : cfT (x :: p) m = x.1 + cfT p m := by rw [cfT, if_pos (by rw [h]; exact cmp4_self m)]
theorem cfT_d {x : TE.den} {p : List TE.den} {m : MO.den} (h : x.2 ≠ m) : cfT (x :: p) m = cfT p m := by rw [cfT, if_neg (cmp4_ne h), Rat.zero_add]
theorem cfT_app (a b : List TE.den) (m : MO.den) : cfT (a ++ b) m = cfT a m + cfT b m := by
 induction a with
 | nil => rw [List.nil_append, cfT, Rat.zero_add]
 | cons x a ih => rw [List.cons_append, cfT, cfT, ih, Rat.add_assoc]
theorem cfT_perm {a b : List TE.den} (h : a.Perm b) (m : MO.den) : cfT a m = cfT b m := by
 induction h with
 | nil => rfl
 | cons x _ ih => rw [cfT, cfT, ih]
 | swap x y l => rw [cfT, cfT, cfT, cfT, ← Rat.add_assoc, ← Rat.add_assoc, Rat.add_comm (if cmp4 y.2 m = 0 then y.1 else 0)]
 | trans _ _ h1 h2 => exact h1.trans h2
theorem cfT_no {p : List TE.den} {m : MO.den} (h : ∀ x ∈ p, x.2 ≠ m) : cfT p m = 0 := by
 induction p with
 | nil => rfl
 | cons x p ih => rw [cfT_d (h x (by simp)), ih fun y hy => h y (by simp [hy])]
theorem cfT_head {x : TE.den} {p : List TE.den} (h : DecT (x :: p)) : cfT (x :: p) x.2 = x.1 := by
 rw [cfT_e rfl, cfT_no fun y hy e => cmp4_irr ((List.pairwise_cons.1 h).1 y hy) e.symm, Rat.add_zero]
theorem cfT_gt {x : TE.den} {p : List TE.den} (h : DecT (x :: p)) {m : MO.den} (hm : 0 < cmp4 m x.2) : cfT (x :: p) m = 0 := cfT_no fun y hy e => by
 rcases List.mem_cons.1 hy with rfl | hy
 ·exact cmp4_irr hm e.symm
 ·exact cmp4_irr (cmp4_tr hm ((List.pairwise_cons.1 h).1 y hy)) e.symm
theorem cfT_mem {p : List TE.den} (h : DecT p) {x : TE.den} (hx : x ∈ p) : cfT p x.2 = x.1 := by
 induction p with
 | nil => cases hx
 | cons y p ih =>
  rcases List.mem_cons.1 hx with rfl | hx
  ·exact cfT_head h
  ·rw [cfT_d (cmp4_irr ((List.pairwise_cons.1 h).1 x hx))]
   exact ih (List.pairwise_cons.1 h).2 hx
theorem cfT_ne {p : List TE.den} {m : MO.den} (h : cfT p m ≠ 0) : ∃ x ∈ p, x.2 = m := Classical.byContradiction fun hc => h (cfT_no fun x hx e => hc ⟨x, hx, e⟩)
theorem Cn.ext : ∀ {p q : List TE.den}, Cn p → Cn q → (∀ m, cfT p m = cfT q m) → p = q
 | [], [], _, _, _ => rfl
 | [], y :: q, _, hq, h => by
  have := h y.2
  rw [cfT_head hq.dec] at this
  exact absurd this.symm (hq.ne y (by simp))
 | x :: p, [], hp, _, h => by
  have := h x.2
  rw [cfT_head hp.dec] at this
  exact absurd this (hp.ne x (by simp))
 | x :: p, y :: q, hp, hq, h => by
  have hm : x.2 = y.2 := Classical.byContradiction fun e => by
   have h1 := cmp4_ne e
   rcases Int.lt_trichotomy (cmp4 x.2 y.2) 0 with h2 | h2 | h2
   ·have h3 : 0 < cmp4 y.2 x.2 := by rw [cmp4_neg]; omega
    have := h y.2
    rw [cfT_gt hp.dec h3, cfT_head hq.dec] at this
    exact hq.ne y (by simp) this.symm
   ·exact h1 h2
   ·have := h x.2
    rw [cfT_gt hq.dec h2, cfT_head hp.dec] at this
    exact hp.ne x (by simp) this
  have hc : x.1 = y.1 := by
   have := h x.2
   rw [cfT_head hp.dec, hm, cfT_head hq.dec] at this
   exact this
  have hxy : x = y := Prod.ext hc hm
  subst hxy
  rw [Cn.ext hp.tail hq.tail fun m => by
   have := h m
   rw [cfT, cfT] at this
   exact (radd_inj this)]
theorem Cn.nil_of {p : List TE.den} (h : Cn p) (k : ∀ m, cfT p m = 0) : p = [] := h.ext Cn.nil k
abbrev srtT (xs : List TE.den) : List TE.den := gIS TE.dflt cmT xs (xs.length - 1)
theorem srtT_perm (xs : List TE.den) : (srtT xs).Perm xs := by
 cases xs with
 | nil => exact List.Perm.refl _
 | cons x xs => exact gIS_perm _ _ (by simp)
theorem cmT_neg (a b : TE.den) : cmT a b = -cmT b a := cmp4_neg _ _
theorem srtT_dec {xs : List TE.den} (h : (xs.map (·.2)).Nodup) : DecT (srtT xs) := by
 have hp := srtT_perm xs
 have hn : ((srtT xs).map (·.2)).Nodup := (hp.map _).nodup_iff.2 h
 have ha : gAd TE.dflt cmT (srtT xs) (xs.length - 1) := by
  cases xs with
  | nil => exact fun t ht => absurd ht (Nat.not_lt_zero _)
  | cons x xs => exact gIS_adj cmT_neg _ _ (by simp)
 generalize hl : srtT xs = l at *
 have hlen := hp.length_eq
 have hg : ∀ {t} (ht : t < l.length), l.getD t TE.dflt = l[t] := fun ht => getG ht
 have hadj : ∀ t (ht : t + 1 < l.length), 0 < cmp4 l[t].2 l[t + 1].2 := fun t ht => by
  have h1 := ha t (by omega)
  rw [hg ht, hg (show t < l.length by omega)] at h1
  have h2 : l[t].2 ≠ l[t + 1].2 := fun e => by
   have h3 := (List.nodup_iff_pairwise_ne.1 hn)
   have h4 := List.pairwise_iff_getElem.1 h3 t (t + 1) (by simp; omega) (by simp; omega) (by omega)
   simp at h4
   exact h4 e
  have h3 := cmp4_ne h2
  have h1 : 0 ≤ cmp4 l[t].2 l[t + 1].2 := h1
  omega
 refine List.pairwise_iff_getElem.2 fun i j hi hj hij => ?_
 obtain ⟨k, rfl⟩ : ∃ k, j = i + 1 + k := ⟨j - (i + 1), by omega⟩
 induction k with
 | zero => exact hadj i hj
 | succ k ih => exact cmp4_tr (ih (by omega) (by omega)) (hadj (i + 1 + k) hj)
def nzT (xs : List TE.den) : List TE.den := xs.filter fun x => x.1 != 0
theorem nzT_ne {xs : List TE.den} : ∀ x ∈ nzT xs, x.1 ≠ 0 := fun x hx => by
 have := (List.mem_filter.1 hx).2
 simpa using this
theorem cfT_nzT (xs : List TE.den) (m : MO.den) : cfT (nzT xs) m = cfT xs m := by
 induction xs with
 | nil => rfl
 | cons x xs ih =>
  unfold nzT at ih ⊢
  rw [List.filter_cons, cfT]
  by_cases h : x.1 = 0
  ·rw [if_neg (by simp [h]), ih, h]; simp [Rat.zero_add]
  ·rw [if_pos (by simp [h]), cfT, ih]
theorem srt_cn {xs : List TE.den} (h : (xs.map (·.2)).Nodup) : Cn (srtT (nzT xs)) := by
 refine ⟨srtT_dec (List.Sublist.nodup (List.Sublist.map _ List.filter_sublist) h), fun x hx => nzT_ne x ((srtT_perm _).mem_iff.1 hx)⟩
theorem cfT_srt (xs : List TE.den) (m : MO.den) : cfT (srtT (nzT xs)) m = cfT xs m := by
 rw [cfT_perm (srtT_perm _), cfT_nzT]
section
variable {P : Program} {tt : TT}
theorem mlen_sound (htt : ttB P tt = true) {ops : Array Oper} {i : Nat} {o : Oper} {d : Nat} (ho : ops[i]? = some o) (hg : o.guard = none) (hd : o.dst = some d) {n : Nat} (hdn : d < n) {t : TypeId} {x : Operand} {args : Array Operand} {tys : Array TypeId} (hop : o.op = .call ⟨.builtin .len, args, tys⟩) (hargs : args.toList = [x]) (htys : tys.toList = [t])
  {st : St} {m : Nat} (hx : st.ev x = some (.c (.X m))) {ti : TI} {kt vt : Nat} (hti : lookA t tt = some ti) (hk : ti.kind = .map kt vt) {ka va : Bool} {xs : List (List C × List C)} (hm : lookA m st.mem = some (.mp ka va xs)) (new : Nat) :
  StepS P n ops i (opd st x ++ mrd st [m]) [(.s d, some (.v (.c (.I .i64 (xs.length : Int)))))] new := by
 refine stepS_val ho hg hd hdn _ _ new ?_
 intro F known σ g W a hsem hrd
 have hrx := ev_rel hsem st x _ hx (fun kx hkx => hrd kx (by simp [hkx]))
 have hσ : σ (.m m) = some (.b (.mp ka va xs)) := hrd (.m m, .b (.mp ka va xs)) (by simp [mrd, hm])
 let ⟨b, es, f1, f2, f3, _, _⟩ := hsem.blks m _ hσ
 have hrx : a.eval x = g.γ m := hrx
 rw [f1] at hrx
 have hu := (ttB_ok htt hti).kind
 rw [hk] at hu
 have hl := f3.length
 refine ⟨fun j hj => by simp [AV.mids, C.mids] at hj, .int .i64 (xs.length : Int), ?_, rfl⟩
 have hs : es.size = xs.length := by rw [← hl, Array.length_toList]
 have e1 : args = #[x] := by apply Array.ext'; simpa using hargs
 have e2 : tys = #[t] := by apply Array.ext'; simpa using htys
 subst e1 e2
 have hrun : (Builtin.len_ #[t] o.type #[a.eval x]).run P W = .ok (.int .i64 (xs.length : Int)) W := by
  simp [Builtin.len_, hrx, run_underlying hu, MapKept.run_getObj_map f2, goInt, Result.andThen, hs]
 exact run_callB hop (fun cs => by
  have e : (#[x] : Array Operand).map a.eval = #[a.eval x] := by simp
  rw [e]
  simp only [Go.builtin, Sem.run_bind, hrun, Result.andThen]
  rfl)
end
section
variable {n : Nat} {sl sl' : List (Nat × AV)} {mem mem' : List (Nat × Blk)} {nx : Nat} {gd gd' : List (Nat × Bool)} {ops : Array Oper} {draw : Bool} {p : Pr} {ks ks' : List Ks} {i i' n0 n0' : Nat}
variable {R : St → Prop} {os : List Oper} {d t : Nat} {ty : TypeId} {pos : String} {aft : Array Edge} {os' : List Oper}
theorem rml {x : Operand} {m : Nat} {ka va : Bool} {xs : List (List C × List C)} (h : runs TTab n nx draw ops.toList os i ⟨sl, mem, n0, gd⟩ .t ks = (⟨some d, .call ⟨.builtin .len, #[x], #[t]⟩, ty, pos, aft, none⟩ :: os', i', ⟨sl', mem', n0', gd'⟩, p, ks'))
  (hx : St.ev ⟨sl', mem', n0', gd'⟩ x = some (.c (.X m))) {ti : TI} {kt vt : Nat} (hti : lookA t TTab = some ti) (hk : ti.kind = .map kt vt) (hl : lookA m mem' = some (.mp ka va xs))
  (hc : RG Tryz.prog n ops draw nx (i' + 1) os' ⟨(d, cI xs.length) :: sl', mem', n0', gd'⟩ (addK draw ks' (okeys [x] ++ mkeys [m], [.s d])) R)
  (hp : p := by exact dfpS) (hdn : Nat.blt d n = true := by rfl) : RG Tryz.prog n ops draw nx i os ⟨sl, mem, n0, gd⟩ ks R :=
 rg_run TT_ok h hp (rg_ok (fun ho => ⟨_, _, mlen_sound TT_ok ho rfl rfl (Nat.le_of_ble_eq_true hdn) rfl rfl rfl hx hti hk hl _, rd_kn1 x [m], kn_put ⟨sl', mem', n0', gd'⟩ d _, reads1 x [m], fun _ h => by simpa [keysOf] using h⟩) (rg_addK hc))
end
def mpT (L : List TE.den) : List (List C × List C) := L.map fun x => (av MO x.2, av .q x.1)
def pkT (L : List TE.den) (seen : List Nat) : List TE.den := nzT (seen.filterMap fun j => L[j]?)
theorem pkT_app (L : List TE.den) (a : List Nat) {j : Nat} (h : j < L.length) : pkT L (a ++ [j]) = if L[j].1 = 0 then pkT L a else pkT L a ++ [L[j]] := by
 unfold pkT nzT
 rw [List.filterMap_append, List.filter_append]
 simp only [List.filterMap_cons, List.getElem?_eq_getElem h, List.filterMap_nil, List.filter_cons, List.filter_nil]
 by_cases e : L[j].1 = 0 <;> simp [e]
theorem pkT_len (L : List TE.den) (a : List Nat) : (pkT L a).length ≤ a.length := Nat.le_trans (List.length_filter_le _ _) (List.length_filterMap_le _ _)
theorem pkT_perm {L : List TE.den} {seen : List Nat} (hn : seen.Nodup) (hb : ∀ j ∈ seen, j < L.length) (ha : ∀ j, j < L.length → j ∈ seen) : (pkT L seen).Perm (nzT L) := by
 have h1 : seen.Perm (List.range L.length) := (List.perm_ext_iff_of_nodup hn List.nodup_range).2 fun j => ⟨fun h => List.mem_range.2 (hb j h), fun h => ha j (List.mem_range.1 h)⟩
 have h2 : (List.range L.length).filterMap (fun j => L[j]?) = L := by
  have key : ∀ (k : Nat), k ≤ L.length → (List.range k).filterMap (fun j => L[j]?) = L.take k := by
   intro k
   induction k with
   | zero => intro _; rfl
   | succ k ih =>
    intro hk
    rw [List.range_succ, List.filterMap_append, ih (by omega), List.take_add_one]
    simp [List.getElem?_eq_getElem (show k < L.length by omega)]
  rw [key _ (Nat.le_refl _), List.take_length]
 unfold pkT nzT
 rw [show L.filter (fun x => x.1 != 0) = ((List.range L.length).filterMap (fun j => L[j]?)).filter (fun x => x.1 != 0) by rw [h2]]
 exact (h1.filterMap _).filter _
theorem pkT_mem {L : List TE.den} {seen : List Nat} {x : TE.den} (h : x ∈ pkT L seen) : x ∈ L := by
 have := (List.mem_filter.1 h).1
 let ⟨j, _, e⟩ := List.mem_filterMap.1 this
 exact List.mem_of_getElem? e
theorem srt_eq {L : List TE.den} {seen : List Nat} (hk : (L.map (·.2)).Nodup) (hp : (pkT L seen).Perm (nzT L)) : srtT (pkT L seen) = srtT (nzT L) := by
 have h1 : ((nzT L).map (·.2)).Nodup := List.Sublist.nodup (List.Sublist.map _ List.filter_sublist) hk
 have h2 : ((pkT L seen).map (·.2)).Nodup := (hp.map _).nodup_iff.2 h1
 have c1 : Cn (srtT (pkT L seen)) := ⟨srtT_dec h2, fun x hx => nzT_ne x (hp.mem_iff.1 ((srtT_perm _).mem_iff.1 hx))⟩
 exact c1.ext (srt_cn hk) fun m => by rw [cfT_perm (srtT_perm _), cfT_perm hp, cfT_srt, cfT_nzT]
theorem mpT_get {L : List TE.den} {j : Nat} (h : j < L.length) : (mpT L)[j]? = some (av MO L[j].2, av .q L[j].1) := by
 unfold mpT
 rw [List.getElem?_map, List.getElem?_eq_getElem h]; rfl
theorem mpT_sh (L : List TE.den) : ∀ x ∈ mpT L, x.1.length = 8 ∧ x.2.length = 4 := fun x hx => by
 let ⟨y, _, e⟩ := List.mem_map.1 hx
 subst e
 exact ⟨rfl, rfl⟩
theorem mpT_mids (L : List TE.den) : midsM (mpT L) = [] := by
 induction L with
 | nil => rfl
 | cons x L ih =>
  show midsL (av MO x.2) ++ midsL (av .q x.1) ++ midsM (mpT L) = []
  rw [ih]; rfl
theorem mpT_mp (ρ : Nat → Nat) (L : List TE.den) : mpB ρ (.mp true true (mpT L)) = .mp true true (mpT L) := by
 show Blk.mp true true ((mpT L).map _) = _
 refine congrArg (Blk.mp true true) ?_
 unfold mpT
 rw [List.map_map]
 rfl
theorem wkT (A B : Nat) (L : List TE.den) {sl sl' : List (Nat × AV)} {mem rest : List (Nat × Blk)} {nx nx' : Nat} {gd gd' : List (Nat × Bool)} (hs : WkS2 (mw A B) sl sl') (hm : WkM2 (mw A B) mem rest) (hl : lookA 1000000 mem = some (.mp true true (mpT L))) (hA : Nat.beq 1000000 A = false := by rfl) (hA0 : Nat.beq 0 A = false := by rfl) (hB : Nat.beq 1000000 B = false := by rfl) (hBr : (lookA B rest).isNone = true := by rfl) (hb : memB (1000000 * nx') rest = true := by rfl) (hbs : slB (1000000 * nx') sl' = true := by rfl) (hnx : Nat.ble 2 nx' = true := by rfl) : Wk ⟨sl, mem, nx, gd⟩ ⟨sl', (1000000, .mp true true (mpT L)) :: rest, nx', gd'⟩ := by
 have h2 := Nat.le_of_ble_eq_true hnx
 have hA := Nat.ne_of_beq_eq_false hA
 have hA0 := Nat.ne_of_beq_eq_false hA0
 have hB := Nat.ne_of_beq_eq_false hB
 refine wk_map (mw A B) hs ⟨⟨_, by rw [mw_ne hA]; exact hl, BLe.of_eq (mpT_mp _ L).symm⟩, hm⟩ (mw_ne hA0) (mw_inj ?_) ?_ hbs (Nat.ble_eq_true_of_le (show 1 ≤ nx' by omega))
 ·rw [lookA_skip hB]
  cases h : lookA B rest with
  | none => rfl
  | some x => rw [h] at hBr; cases hBr
 ·intro t v h
  simp only [lookA] at h
  split at h
  ·rename_i e
   subst e
   cases h
   refine ⟨(show 1000000 < 1000000 * nx' by omega), fun id hid => ?_⟩
   have : id ∈ midsM (mpT L) := hid
   rw [mpT_mids] at this
   cases this
  ·exact memB_ok hb t v h
theorem memT (L : List TE.den) : MemP (1000000 * 2) [(1000000, .mp true true (mpT L))] := by
 intro t v h
 simp only [lookA] at h
 split at h
 ·rename_i e
  subst e
  cases h
  refine ⟨by decide, fun id hid => ?_⟩
  have : id ∈ midsM (mpT L) := hid
  rw [mpT_mids] at this
  cases this
 ·cases h
theorem tr_itnS {P : Program} {n : Nat} {Q : Post} {c : Code} {sl : List (Nat × AV)} {mem : List (Nat × Blk)} {nx : Nat} {gd : List (Nat × Bool)} (id m N : Nat) {seen : List Nat} (hl : lookA id mem = some (.itn m N seen)) (h : ∀ j, j < N → j ∉ seen → TR P n c ⟨sl, (id, .it m N (seen ++ [j])) :: mem, nx, gd⟩ Q) : TR P n c ⟨sl, mem, nx, gd⟩ Q := tr_itn hl h
set_option maxRecDepth 100000 in
set_option maxHeartbeats 16000000 in
theorem psorted_s {L : List TE.den} (hl : L.length ≤ 100000) (hk : (L.map (·.2)).Nodup) (hb : ∀ x ∈ L, bM 65535 x.2) (h12 : (nzT L).length ≤ 12) :
  FnC Tryz.prog 96 [.c (.X 1000000)] [(1000000, .mp true true (mpT L))] (cS TE (srtT (nzT L))) := by
 have hN : (mpT L).length = L.length := List.length_map _
 refine fc_intro 2 Tryz.func96 rfl rfl rfl (fun id hid => by simp [midsVs, AV.mids, C.mids] at hid; omega) (memT L) rfl (by decide) ?_
 refine rr rfl (rb (rml rfl rfl rfl rfl rfl (rmc TE (mpT L).length rfl rfl rfl rfl rfl rfl rfl rfl rfl ?_ ?_ (re rfl ?_))))
 ·show (mpT L).length * 128 ≤ _
  omega
 ·show (mpT L).length * 12 ≤ _
  omega
 refine tr_seq (rb (rmr rfl rfl rfl rfl rfl (re rfl ?_)))
 refine tr_block (tr_loop (α := List Nat) (fun seen => ⟨[(0, .c (.X 1000000)), (3, .c (.X 3002000)), (10, .c (.X 4001000))], [(1000000, .mp true true (mpT L)), (3002000, .vec 75 TE (pkT L seen)), (4001000, .it 1000000 (mpT L).length seen)], 5, []⟩) (fun seen => seen.Nodup ∧ ∀ j ∈ seen, j < L.length) (fun seen => L.length - seen.length) [] ⟨List.nodup_nil, by simp⟩ (wkT 7 7 L ⟨sR rfl, sR rfl, sR rfl, trivial⟩ ⟨bR rfl, bR rfl, trivial⟩ rfl) ?_)
 rintro seen ⟨hn, hbd⟩
 by_cases hfull : seen.length < L.length
 ·refine rb (rns 8 4 rfl rfl rfl rfl rfl ?_ (mpT_sh L) (fun h => by cases h) (fun h => by cases h) (re rfl ?_))
  ·rw [hN]; exact nodup_ex hn hbd hfull
  refine tr_seq (tr_cond rfl (fun _ => skT ?_) (fun h => by cases h))
  refine tr_itnS 4001000 1000000 (mpT L).length (seen := seen) rfl (fun j hj hs => ?_)
  rw [hN] at hj
  have hj' := mpT_get hj
  refine tr_block (rb (ren (kv := (av MO L[j].2, av .q L[j].1)) rfl rfl rfl rfl rfl hj' (fun h => by cases h) (fun h => by cases h) (re rfl ?_)))
  refine rb (rc rfl rfl (qSign_s L[j].1) (re rfl ?_))
  have hpk := pkT_app L seen hj
  have hx : L[j] ∈ L := List.getElem_mem hj
  have hnd : (seen ++ [j]).Nodup := List.nodup_append.2 ⟨hn, by simp, fun a ha b hb e => hs (by simp at hb; subst hb; subst e; exact ha)⟩
  have hbd' : ∀ i ∈ seen ++ [j], i < L.length := fun i hi => by
   rcases List.mem_append.1 hi with h | h
   ·exact hbd i h
   ·rw [List.mem_singleton.1 h]; exact hj
  have hms : L.length - (seen ++ [j]).length < L.length - seen.length := by
   rw [List.length_append, List.length_singleton]; omega
  refine tr_cond rfl (fun h => ?_) (fun h => ?_)
  ·have h0 : L[j].1 ≠ 0 := fun e => by rw [e] at h; cases h
   rw [if_neg h0] at hpk
   have hlen := pkT_len L seen
   refine rbt (rl TE [L[j]] rfl rfl (ra rfl rfl rfl rfl rfl rfl rfl rfl rfl ?_ ?_ (re rfl ?_)))
   ·show ((pkT L seen).length + 1 + ((pkT L seen).length + 1) / 4 + 192) * 128 ≤ _
    omega
   ·show ((pkT L seen).length + 1) * 12 ≤ _
    omega
   refine at_block (at_loop (seen ++ [j]) ⟨hnd, hbd'⟩ hms (wkT 3002000 8005000 L ⟨sR rfl, sR rfl, sR rfl, trivial⟩ ⟨bE rfl ?_, bR rfl, trivial⟩ rfl))
   rw [hpk]; rfl
  ·have h0 : L[j].1 = 0 := by
    have h : sgn L[j].1.num = 0 := Classical.byContradiction fun c => by simp [c] at h
    exact Rat.num_eq_zero.1 (sgn_zero.1 h)
   rw [if_pos h0] at hpk
   refine tr_skip (at_block (at_loop (seen ++ [j]) ⟨hnd, hbd'⟩ hms (wkT 7 7 L ⟨sR rfl, sR rfl, sR rfl, trivial⟩ ⟨bE rfl ?_, bR rfl, trivial⟩ rfl)))
   rw [hpk]; rfl
 ·refine rb (rne rfl rfl rfl rfl rfl ?_ (re rfl ?_))
  ·rw [hN]
   exact nodup_all hn hbd (by have := nodup_le _ _ hn hbd; omega)
  refine tr_seq (tr_cond rfl (fun h => by cases h) (fun _ => xlE (at_then ?_)))
  have hperm := pkT_perm hn hbd (nodup_all hn hbd (by have := nodup_le _ _ hn hbd; omega))
  refine rb (rcm 3002000 rfl (tsort_s (pkT L seen) (by rw [hperm.length_eq]; exact h12) (fun x hx => hb x (pkT_mem hx))) rfl rfl (re rfl ?_))
  have hs := srt_eq hk hperm
  refine tr_frz 3002000 rfl rfl rfl ?_
  refine rr rfl (tr_ret (at_retC TT_ok rfl ?_))
  rw [← hs]
  exact AVle.refl _
section
variable {n : Nat} {sl sl' : List (Nat × AV)} {mem mem' : List (Nat × Blk)} {nx n0 n0' i i' : Nat} {gd gd' : List (Nat × Bool)} {ops : Array Oper} {draw : Bool} {os os' : List Oper} {ks ks' : List Ks} {p : Pr} {R : St → Prop} {d : Nat} {ty : TypeId} {pos : String} {aft : Array Edge}
theorem rcXd {cf : Operand} {args : Array Operand} {tys : Array TypeId} {f : FuncId} {vs : List AV} {ids : List Nat} {fm fm' : List (Nat × Blk)} {r : AV} (h : runs TTab n nx draw ops.toList os i ⟨sl, mem, n0, gd⟩ .t ks = (⟨some d, .call ⟨.value cf, args, tys⟩, ty, pos, aft, none⟩ :: os', i', ⟨sl', mem', n0', gd'⟩, p, ks'))
  (ht : tgtC ⟨sl', mem', n0', gd'⟩ cf args.toList = some (f, vs, ids)) (hf : CX Tryz.prog f vs fm (1000000 * nx + 1000 * i') r fm' (1000000 * nx + 1000 * i')) (hfm : SubM fm mem') (hs : fm'.map (·.1) = fm.map (·.1))
  (hk : RG Tryz.prog n ops draw nx (i' + 1) os' ⟨(d, r) :: sl', fm' ++ mem', n0', gd'⟩ (ks' ++ [(okeys (cf :: args.toList) ++ (mkeys ids ++ mkeys (fm.map (·.1))), keysOf ((Key.s d, some (Info.v r)) :: (wrM fm' fm ++ wrN (1000000 * nx + 1000 * i') fm')))]) R)
  (hmv : midsB (1000000 * nx + 1000 * i') (midsVs vs) = true := by rfl) (hmm : memB (1000000 * nx + 1000 * i') fm = true := by rfl) (hir : idsB (1000000 * nx + 1000 * i') fm r.mids = true := by rfl) (him : memIdsB (1000000 * nx + 1000 * i') fm fm' = true := by rfl)
  (hp : p := by exact dfpS) (hdn : Nat.blt d n = true := by rfl) : RG Tryz.prog n ops draw nx i os ⟨sl, mem, n0, gd⟩ ks R :=
 rg_run TT_ok h hp (rg_okN (fun ho => by
  have h1 := callX_sound ho rfl rfl (Nat.le_of_ble_eq_true hdn) rfl ht hf hmv hmm hir him hfm.get
  intro F hFn Q known σ g W a K hnew hsem hrd hK
  refine h1 F hFn Q known σ g W a K (fun id hid => ?_) hsem hrd (fun g' W' a' h' => hK g' W' a' (h'.weaken (fun id hid => ?_)))
  ·omega
  ·rcases hid with hid | hid
   ·exact .inl hid
   ·omega) rdsX (kn_X hs) (fun x hx => by
   simp only [rkeysOf, List.map_append, List.mem_append] at hx
   rcases hx with ((h | h) | h) | h
   ·exact List.mem_append_left _ (okeys_opd _ (cf :: args.toList) x (by simp only [rkeysOf, List.flatMap_cons, List.map_append, List.mem_append]; exact .inl h))
   ·exact List.mem_append_left _ (okeys_opd _ (cf :: args.toList) x (by simp only [rkeysOf, List.flatMap_cons, List.map_append, List.mem_append]; exact .inr h))
   ·exact List.mem_append_right _ (List.mem_append_left _ (mkeys_mrd _ ids x h))
   ·exact List.mem_append_right _ (List.mem_append_right _ (mkeys_mrd _ _ x h))) (fun _ h => h) hk)
end
def fndT : List TE.den → MO.den → Option Rat
 | [], _ => none
 | x :: L, m => if cmp4 x.2 m = 0 then some x.1 else fndT L m
def putT : List TE.den → Rat → MO.den → List TE.den
 | [], c, m => [(c, m)]
 | x :: L, c, m => if cmp4 x.2 m = 0 then (c, m) :: L else x :: putT L c m
def colT (L : List TE.den) (c : Rat) (m : MO.den) : List TE.den := putT L (match fndT L m with | some o => o + c | none => c) m
theorem cmp4_i0 {x y : MO.den} : cmp4 x y = 0 ↔ x = y := ⟨cmp4_z, fun e => by subst e; exact cmp4_self _⟩
theorem look_mpT (m : MO.den) : ∀ L, lookM true .i64 (moL m) (mpT L) = some ((fndT L m).map fun c => av .q c)
 | [] => rfl
 | x :: L => by
  show (match keyC true .i64 (av MO x.2) with | some k' => if k' = moL m then some (some (av .q x.1)) else lookM true .i64 (moL m) (mpT L) | none => none) = _
  rw [moL_key, fndT]
  show (if moL x.2 = moL m then _ else _) = _
  by_cases h : x.2 = m
  ·rw [if_pos (by rw [h]), if_pos (cmp4_i0.2 h)]; rfl
  ·rw [if_neg fun e => h (moL_inj e), if_neg (cmp4_ne h), look_mpT m L]
theorem put_mpT (c : Rat) (m : MO.den) : ∀ L, putM true .i64 (moL m) (av MO m) (av .q c) (mpT L) = some (mpT (putT L c m))
 | [] => rfl
 | x :: L => by
  show (match keyC true .i64 (av MO x.2) with | some k' => if k' = moL m then some ((av MO m, av .q c) :: mpT L) else (match putM true .i64 (moL m) (av MO m) (av .q c) (mpT L) with | some r' => some ((av MO x.2, av .q x.1) :: r') | none => none) | none => none) = _
  rw [moL_key, putT]
  show (if moL x.2 = moL m then _ else _) = _
  by_cases h : x.2 = m
  ·rw [if_pos (by rw [h]), if_pos (cmp4_i0.2 h)]; rfl
  ·rw [if_neg fun e => h (moL_inj e), if_neg (cmp4_ne h), put_mpT c m L]; rfl
theorem keys_mpT {L : List TE.den} (h : ∀ x ∈ L, bM 65535 x.2) : KeysA 8 .i64 (mpT L) := fun x hx => by
 let ⟨y, hy, e⟩ := List.mem_map.1 hx
 subst e
 exact ⟨_, moL_key y.2, moL_wf (h y hy)⟩
theorem fndT_mem {L : List TE.den} {m : MO.den} {o : Rat} (h : fndT L m = some o) : (o, m) ∈ L := by
 induction L with
 | nil => cases h
 | cons x L ih =>
  rw [fndT] at h
  split at h
  ·rename_i e
   cases h
   have := cmp4_z e
   subst this
   exact List.mem_cons_self ..
  ·exact List.mem_cons_of_mem _ (ih h)
theorem putT_mem {L : List TE.den} {c : Rat} {m : MO.den} {x : TE.den} (h : x ∈ putT L c m) : x = (c, m) ∨ x ∈ L := by
 induction L with
 | nil => exact .inl (List.mem_singleton.1 h)
 | cons y L ih =>
  rw [putT] at h
  split at h
  ·rcases List.mem_cons.1 h with h | h
   ·exact .inl h
   ·exact .inr (List.mem_cons_of_mem _ h)
  ·rcases List.mem_cons.1 h with h | h
   ·exact .inr (h ▸ List.mem_cons_self ..)
   ·rcases ih h with h | h
    ·exact .inl h
    ·exact .inr (List.mem_cons_of_mem _ h)
theorem colT_key {L : List TE.den} {c : Rat} {m : MO.den} {x : TE.den} (h : x ∈ colT L c m) : x.2 = m ∨ x ∈ L := by
 rcases putT_mem h with h | h
 ·exact .inl (by rw [h])
 ·exact .inr h
theorem putT_nd {L : List TE.den} (c : Rat) (m : MO.den) (h : (L.map (·.2)).Nodup) : ((putT L c m).map (·.2)).Nodup := by
 induction L with
 | nil => simp [putT]
 | cons y L ih =>
  rw [List.map_cons] at h
  let ⟨h1, h2⟩ := List.nodup_cons.1 h
  rw [putT]
  split
  ·rename_i e
   rw [List.map_cons]
   show (m :: L.map (·.2)).Nodup
   rw [← cmp4_z e]; exact h
  ·rename_i e
   rw [List.map_cons]
   refine List.nodup_cons.2 ⟨fun hm => ?_, ih h2⟩
   let ⟨z, hz, e2⟩ := List.mem_map.1 hm
   rcases putT_mem hz with hz | hz
   ·exact e (cmp4_i0.2 (by rw [← e2, hz]))
   ·exact h1 (List.mem_map.2 ⟨z, hz, e2⟩)
theorem putT_len (c : Rat) (m : MO.den) : ∀ L, (putT L c m).length ≤ L.length + 1
 | [] => Nat.le_refl _
 | x :: L => by
  rw [putT]
  split
  ·simp
  ·have := putT_len c m L
   simp only [List.length_cons]; omega
theorem putT_cf {L : List TE.den} (c : Rat) (m : MO.den) (h : (L.map (·.2)).Nodup) (k : MO.den) : cfT (putT L c m) k = if cmp4 m k = 0 then c else cfT L k := by
 induction L with
 | nil =>
  show (if cmp4 m k = 0 then c else 0) + (0 : Rat) = if cmp4 m k = 0 then c else 0
  rw [Rat.add_zero]
 | cons y L ih =>
  rw [List.map_cons] at h
  let ⟨h1, h2⟩ := List.nodup_cons.1 h
  rw [putT]
  split
  ·rename_i e
   have e := cmp4_z e
   rw [cfT, cfT, ← e]
   by_cases hk : y.2 = k
   ·rw [if_pos (cmp4_i0.2 hk), if_pos (cmp4_i0.2 hk), cfT_no fun z hz ez => h1 (List.mem_map.2 ⟨z, hz, ez.trans hk.symm⟩), Rat.add_zero]
   ·rw [if_neg (cmp4_ne hk), if_neg (cmp4_ne hk), if_neg (cmp4_ne hk), Rat.zero_add]
  ·rename_i e
   rw [cfT, cfT, ih h2]
   by_cases hk : m = k
   ·rw [if_pos (cmp4_i0.2 hk), if_pos (cmp4_i0.2 hk), if_neg fun q => e (cmp4_i0.2 ((cmp4_z q).trans hk.symm)), Rat.zero_add]
   ·rw [if_neg (cmp4_ne hk), if_neg (cmp4_ne hk)]
theorem fndT_cf {L : List TE.den} (m : MO.den) (h : (L.map (·.2)).Nodup) : cfT L m = (fndT L m).getD 0 := by
 induction L with
 | nil => rfl
 | cons y L ih =>
  rw [List.map_cons] at h
  let ⟨h1, h2⟩ := List.nodup_cons.1 h
  rw [cfT, fndT]
  by_cases hk : y.2 = m
  ·rw [if_pos (cmp4_i0.2 hk), if_pos (cmp4_i0.2 hk), cfT_no fun z hz ez => h1 (List.mem_map.2 ⟨z, hz, ez.trans hk.symm⟩), Rat.add_zero]; rfl
  ·rw [if_neg (cmp4_ne hk), if_neg (cmp4_ne hk), Rat.zero_add, ih h2]
theorem colT_cf {L : List TE.den} (c : Rat) (m : MO.den) (h : (L.map (·.2)).Nodup) (k : MO.den) : cfT (colT L c m) k = cfT L k + if cmp4 m k = 0 then c else 0 := by
 unfold colT
 rw [putT_cf _ _ h]
 by_cases hk : m = k
 ·rw [if_pos (cmp4_i0.2 hk), if_pos (cmp4_i0.2 hk), ← hk, fndT_cf m h]
  cases fndT L m with
  | none => exact (Rat.zero_add c).symm
  | some o => rfl
 ·rw [if_neg (cmp4_ne hk), if_neg (cmp4_ne hk), Rat.add_zero]
theorem wkG (L : List TE.den) {sl : List (Nat × AV)} {mem : List (Nat × Blk)} {nx : Nat} {gd : List (Nat × Bool)} (h0 : lookA 0 mem = some (ghK [2]).2) (h2 : lookA 2 mem = some (.mp true true (mpT L))) : Wk ⟨sl, mem, nx, gd⟩ ⟨[], [ghK [2], (2, .mp true true (mpT L))], 3, []⟩ := by
 refine wk trivial ⟨⟨_, h0, BLe.refl _⟩, ⟨_, h2, BLe.refl _⟩, trivial⟩ ?_
 show (true && (_ && (_ && midsB _ (midsM (mpT L)) && true)) && _) = true
 rw [mpT_mids]
 rfl
set_option maxRecDepth 100000 in
set_option maxHeartbeats 16000000 in
theorem pcollect_x {L : List TE.den} {c : Rat} {m : MO.den} {w : Nat} (hb : ∀ x ∈ L, bM 65535 x.2) (hm : bM 65535 m) (hc : QS w c) (ho : ∀ o, fndT L m = some o → QS w o) (hw : w ≤ 100000000000) {i k : Nat} (hi : i < k) :
  CX Tryz.prog 95 [.c (.X i), aQ c, aM m] [(i, .mp true true (mpT L))] k (.t []) [(i, .mp true true (mpT (colT L c m)))] k := by
 have hlk := look_mpT m L
 refine cx_keep (fun _ => i) (fm0 := [(2, .mp true true (mpT L))]) (fm0' := [(2, .mp true true (mpT (colT L c m)))]) (vs0 := [.c (.X 2), aQ c, aM m]) Tryz.func95 rfl rfl ?_ rfl ?_ ?_ ?_ ?_ ?_ ?_ rfl ?_ rfl (by decide : ([2] : List Nat).Nodup)
 ·refine rr rfl ?_
  cases hf : fndT L m with
  | none =>
   rw [hf] at hlk
   have hcol : colT L c m = putT L c m := by unfold colT; rw [hf]
   rw [hcol]
   refine tr_seq (rb (rlkA arrMO rfl rfl rfl (moL_key m) (moL_wf hm) rfl rfl rfl rfl (keys_mpT hb) hlk rfl (re rfl (rr rfl (tr_cond rfl (fun h => by cases h) (fun _ => skT ?_))))))
   refine rbt (rmuA arrMO rfl rfl rfl (moL_key m) (moL_wf hm) rfl rfl rfl rfl rfl (keys_mpT hb) (put_mpT c m L) (re rfl ?_))
   exact at_wk (wkG _ rfl rfl) (at_endX TT_ok rfl)
  | some o =>
   rw [hf] at hlk
   have hcol : colT L c m = putT L (o + c) m := by unfold colT; rw [hf]
   rw [hcol]
   refine tr_seq (rb (rlkA arrMO rfl rfl rfl (moL_key m) (moL_wf hm) rfl rfl rfl rfl (keys_mpT hb) hlk rfl (re rfl (rr rfl (tr_cond rfl (fun _ => ?_) (fun h => by cases h))))))
   refine rbt (rc rfl rfl (qAdd_s (k := w) o c (ho o hf) hc (by omega)) (re rfl (at_then ?_)))
   refine rbt (rmuA arrMO rfl rfl rfl (moL_key m) (moL_wf hm) rfl rfl rfl rfl rfl (keys_mpT hb) (put_mpT (o + c) m L) (re rfl ?_))
   exact at_wk (wkG _ rfl rfl) (at_endX TT_ok rfl)
 ·show [_] = [(i, mpB (fun _ => i) _)]
  rw [mpT_mp]
 ·show [_] = [(i, mpB (fun _ => i) _)]
  rw [mpT_mp]
 ·intro id hid
  have : id = 2 := by simpa using hid
  subst this
  exact ⟨by decide, by simpa using hi⟩
 ·intro a ha b hb _
  have ha : a = 2 := by simpa using ha
  have hb : b = 2 := by simpa using hb
  rw [ha, hb]
 ·intro id hid
  have hid : id ∈ [2] := hid
  exact hid
 ·intro id b h j hj
  have h := List.mem_singleton.1 h
  cases h
  have : j ∈ midsM (mpT L) := hj
  rw [mpT_mids] at this
  cases this
 ·intro id b h j hj
  have h := List.mem_singleton.1 h
  cases h
  have : j ∈ midsM (mpT (colT L c m)) := hj
  rw [mpT_mids] at this
  cases this
set_option maxRecDepth 100000 in
set_option maxHeartbeats 4000000 in
theorem pValid4_s {x : MO.den} (hx : bM 65535 x) : FnS Tryz.prog 135 [aM x] (cB true) := by
 refine fsI Tryz.func135 ?_
 refine rr rfl (tr_seq (rr rfl (tr_block (tr_loop (α := Nat) (fun i => ⟨[(5, aM x), (6, cI i)], [], 3, []⟩) (fun i => i ≤ 8) (fun i => 8 - i) 0 (by decide) wkA ?_))))
 rintro i hi
 refine rr rfl (tr_seq (tr_cond rfl (fun h2 => ?_) (fun h2 => ?_)))
 ·have h2 : i < 8 := by
   have h2 : (i : Int) < 8 := of_decide_eq_true h2
   omega
  have hb := hx i h2
  rcases lt8 h2 with rfl | rfl | rfl | rfl | rfl | rfl | rfl | rfl
  all_goals
   simp only [mx] at hb
   refine skT (tr_seq (tr_block (rb (rix rfl rfl rfl rfl rfl rfl rfl (by decide) (by decide) (re rfl (rb (rg 11 rfl rfl (fun h3 => ?_) (fun h3 => ?_))))))))
   ·have h3 := of_decide_eq_true h3
    exact absurd h3 (by omega)
   ·refine re rfl (tr_cond rfl (fun h4 => ?_) (fun h4 => tr_skip (bkT ?_)))
    ·have h4 := of_decide_eq_true h4
     exact absurd h4 (by omega)
    ·refine rt rfl (at_loop _ ?_ ?_ wkA)
     ·decide
     ·decide
 ·exact xlE (at_then (rr rfl (rtR rfl)))
set_option maxRecDepth 100000 in
set_option maxHeartbeats 8000000 in
theorem pMul4_s {x y : MO.den} (hx : bM 30000 x) (hy : bM 30000 y) : FnS Tryz.prog 94 [aM x, aM y] (.t [(true, av MO (aM' x y)), (false, [.I .i64 0])]) := by
 have hv := pValid4_s ((hx.add hy).le (by decide))
 refine fsI Tryz.func94 ?_
 refine rr rfl ?_
 refine tr_mid1 ⟨[(2, .c (.P 0 0)), (3, .c (.P 1000 0)), (4, .c (.P 2000 0)), (5, cI 0)], [(2000, .box 63 0 (av MO MO.dflt)), (1000, .box 63 0 (av MO y)), (0, .box 63 0 (av MO (aM' x y)))], 8, []⟩ ?_ (fun mid => rr rfl ?_)
 rotate_left
 ·refine tr_block (tr_loop (α := Nat) (fun i => ⟨[(2, .c (.P 0 0)), (3, .c (.P 1000 0)), (4, .c (.P 2000 0)), (5, cI 0), (7, cI i)], [(2000, .box 63 0 (av MO MO.dflt)), (1000, .box 63 0 (av MO y)), (0, .box 63 0 (av MO (adM x y i)))], 3, []⟩) (fun i => i ≤ 8) (fun i => 8 - i) 0 (by decide) (wk (wkSr rfl) ⟨bR rfl, bR rfl, bE rfl rfl, trivial⟩) ?_)
  rintro i hi
  refine rr rfl (tr_seq (tr_cond rfl (fun h2 => ?_) (fun h2 => ?_)))
  ·have h2 : i < 8 := by
    have h2 : (i : Int) < 8 := of_decide_eq_true h2
    omega
   have hb := hx i h2
   have hc := hy i h2
   rcases lt8 h2 with rfl | rfl | rfl | rfl | rfl | rfl | rfl | rfl
   all_goals
    simp only [mx] at hb hc
    refine skT (tr_seq (tr_block (rr rfl (rt rfl (bkT (rt rfl (at_loop _ ?_ ?_ (wk (wkSr rfl) ⟨bR rfl, bR rfl, bE rfl rfl, trivial⟩)))) (hp := ?_)))))
    ·decide
    ·decide
    simp [Pr.an, Pr.h, num, i64r, adM, adS]
    omega
  ·have h2 : i = 8 := by
    have h2 : ¬ (i : Int) < 8 := of_decide_eq_false h2
    omega
   subst h2
   exact xlE (at_mid mid (wk (wkSr rfl) ⟨bR rfl, bR rfl, bE rfl rfl, trivial⟩))
 refine tr_seq (rb (rc rfl rfl hv (re rfl (tr_cond rfl (fun h => by cases h) (fun _ => skT ?_)))))
 exact rr rfl (rtR rfl)
def mxI (a b : Int) : Int := if b > a then b else a
theorem mxI_l (a b : Int) : a ≤ mxI a b := by unfold mxI; split <;> omega
theorem mxI_r (a b : Int) : b ≤ mxI a b := by unfold mxI; split <;> omega
theorem mxI_le {a b k : Int} (h1 : a ≤ k) (h2 : b ≤ k) : mxI a b ≤ k := by unfold mxI; split <;> omega
def mxS (i j : Nat) (a b : Int) : Int := if j < i then mxI a b else a
def mxM (x y : MO.den) (i : Nat) : MO.den := (mxS i 0 x.1 y.1, mxS i 1 x.2.1 y.2.1, mxS i 2 x.2.2.1 y.2.2.1, mxS i 3 x.2.2.2.1 y.2.2.2.1, mxS i 4 x.2.2.2.2.1 y.2.2.2.2.1, mxS i 5 x.2.2.2.2.2.1 y.2.2.2.2.2.1, mxS i 6 x.2.2.2.2.2.2.1 y.2.2.2.2.2.2.1, mxS i 7 x.2.2.2.2.2.2.2 y.2.2.2.2.2.2.2)
def lcM (x y : MO.den) : MO.den := (mxI x.1 y.1, mxI x.2.1 y.2.1, mxI x.2.2.1 y.2.2.1, mxI x.2.2.2.1 y.2.2.2.1, mxI x.2.2.2.2.1 y.2.2.2.2.1, mxI x.2.2.2.2.2.1 y.2.2.2.2.2.1, mxI x.2.2.2.2.2.2.1 y.2.2.2.2.2.2.1, mxI x.2.2.2.2.2.2.2 y.2.2.2.2.2.2.2)
theorem mx_lc {x y : MO.den} {j : Nat} (hj : j < 8) : mx (lcM x y) j = mxI (mx x j) (mx y j) := by
 rcases lt8 hj with rfl | rfl | rfl | rfl | rfl | rfl | rfl | rfl <;> rfl
set_option maxRecDepth 100000 in
set_option maxHeartbeats 8000000 in
theorem pLcm4_s (x y : MO.den) : FnS Tryz.prog 110 [aM x, aM y] (aM (lcM x y)) := by
 refine fsI Tryz.func110 ?_
 refine rr rfl ?_
 refine tr_mid1 ⟨[(2, .c (.P 0 0)), (4, .c (.P 2000 0))], [(2000, .box 63 0 (av MO MO.dflt)), (0, .box 63 0 (av MO (lcM x y)))], 8, []⟩ ?_ (fun mid => rr rfl ?_)
 rotate_left
 ·refine tr_block (tr_loop (α := Nat) (fun i => ⟨[(2, .c (.P 0 0)), (3, .c (.P 1000 0)), (4, .c (.P 2000 0)), (6, cI i)], [(2000, .box 63 0 (av MO MO.dflt)), (1000, .box 63 0 (av MO y)), (0, .box 63 0 (av MO (mxM x y i)))], 3, []⟩) (fun i => i ≤ 8) (fun i => 8 - i) 0 (by decide) (wk (wkSr rfl) ⟨bR rfl, bR rfl, bE rfl rfl, trivial⟩) ?_)
  rintro i hi
  refine rr rfl (tr_seq (tr_cond rfl (fun h2 => ?_) (fun h2 => ?_)))
  ·have h2 : i < 8 := by
    have h2 : (i : Int) < 8 := of_decide_eq_true h2
    omega
   rcases lt8 h2 with rfl | rfl | rfl | rfl | rfl | rfl | rfl | rfl
   all_goals
    refine skT (tr_seq (tr_block (rr rfl (rt rfl (bkT (rt rfl (at_loop _ ?_ ?_ (wk (wkSr rfl) ⟨bR rfl, bR rfl, bE rfl rfl, trivial⟩))))))))
    ·decide
    ·decide
  ·have h2 : i = 8 := by
    have h2 : ¬ (i : Int) < 8 := of_decide_eq_false h2
    omega
   subst h2
   exact xlE (at_mid mid (wk (wkSr rfl) ⟨bR rfl, bE rfl rfl, trivial⟩))
 exact rr rfl (rtR rfl)
def dvN (x y : MO.den) : Nat → Nat → Bool
 | 0, _ => true
 | n + 1, i => if mx x i > mx y i then false else dvN x y n (i + 1)
abbrev dv4 (x y : MO.den) : Bool := dvN x y 8 0
theorem dvN_t {x y : MO.den} : ∀ {n i : Nat}, dvN x y n i = true → ∀ j, i ≤ j → j < i + n → mx x j ≤ mx y j
 | 0, i, _, j, h1, h2 => absurd h2 (by omega)
 | n + 1, i, h, j, h1, h2 => by
  rw [dvN] at h
  split at h
  ·cases h
  ·by_cases e : j = i
   ·subst e; omega
   ·exact dvN_t h j (by omega) (by omega)
theorem dvN_f {x y : MO.den} : ∀ {n i : Nat}, (∀ j, i ≤ j → j < i + n → mx x j ≤ mx y j) → dvN x y n i = true
 | 0, _, _ => rfl
 | n + 1, i, h => by
  have := h i (Nat.le_refl _) (by omega)
  rw [dvN, if_neg (by omega)]
  exact dvN_f fun j h1 h2 => h j (by omega) (by omega)
theorem dv4_iff {x y : MO.den} : dv4 x y = true ↔ ∀ j, j < 8 → mx x j ≤ mx y j := ⟨fun h j hj => dvN_t h j (Nat.zero_le _) (by omega), fun h => dvN_f fun j _ hj => h j (by omega)⟩
set_option maxRecDepth 100000 in
set_option maxHeartbeats 8000000 in
theorem pDivides4_s (x y : MO.den) : FnS Tryz.prog 109 [aM x, aM y] (cB (dv4 x y)) := by
 refine fsI Tryz.func109 ?_
 refine rr rfl (tr_seq (rr rfl (tr_block (tr_loop (α := Nat) (fun i => ⟨[(2, .c (.P 0 0)), (3, .c (.P 1000 0)), (6, cI i)], [(1000, .box 63 0 (av MO y)), (0, .box 63 0 (av MO x))], 3, []⟩) (fun i => i ≤ 8 ∧ dvN x y (8 - i) i = dv4 x y) (fun i => 8 - i) 0 ⟨by decide, rfl⟩ wkA ?_))))
 rintro i ⟨hi, hc⟩
 refine rr rfl (tr_seq (tr_cond rfl (fun h2 => ?_) (fun h2 => ?_)))
 ·have h2 : i < 8 := by
   have h2 : (i : Int) < 8 := of_decide_eq_true h2
   omega
  rcases lt8 h2 with rfl | rfl | rfl | rfl | rfl | rfl | rfl | rfl
  all_goals
   refine skT (tr_seq (tr_block (rr rfl (rr rfl (tr_cond rfl (fun h3 => ?_) (fun h3 => tr_skip (bkT ?_)))))))
   ·have h3 := of_decide_eq_true h3
    refine rr rfl (tr_ret ?_)
    repeat (first | refine at_then_ret ?_ | refine at_block_ret ?_ | refine at_loop_ret ?_)
    refine atE rfl (congrArg cB ?_)
    rw [← hc]
    exact (if_pos h3).symm
   ·have h3 := of_decide_eq_false h3
    refine rt rfl (at_loop _ ⟨?_, ?_⟩ ?_ wkA)
    ·decide
    ·rw [← hc]
     exact (if_neg h3).symm
    ·decide
 ·have h2 : i = 8 := by
   have h2 : ¬ (i : Int) < 8 := of_decide_eq_false h2
   omega
  subst h2
  exact xlE (at_then (rr rfl (rtE rfl (congrArg cB (by rw [← hc])))))
def sbM' (x y : MO.den) : MO.den := (x.1 - y.1, x.2.1 - y.2.1, x.2.2.1 - y.2.2.1, x.2.2.2.1 - y.2.2.2.1, x.2.2.2.2.1 - y.2.2.2.2.1, x.2.2.2.2.2.1 - y.2.2.2.2.2.1, x.2.2.2.2.2.2.1 - y.2.2.2.2.2.2.1, x.2.2.2.2.2.2.2 - y.2.2.2.2.2.2.2)
theorem mx_sub {x y : MO.den} {j : Nat} (hj : j < 8) : mx (sbM' x y) j = mx x j - mx y j := by
 rcases lt8 hj with rfl | rfl | rfl | rfl | rfl | rfl | rfl | rfl <;> rfl
def sbS (i j : Nat) (a b : Int) : Int := if j < i then a - b else a
def sbN (x y : MO.den) (i : Nat) : MO.den := (sbS i 0 x.1 y.1, sbS i 1 x.2.1 y.2.1, sbS i 2 x.2.2.1 y.2.2.1, sbS i 3 x.2.2.2.1 y.2.2.2.1, sbS i 4 x.2.2.2.2.1 y.2.2.2.2.1, sbS i 5 x.2.2.2.2.2.1 y.2.2.2.2.2.1, sbS i 6 x.2.2.2.2.2.2.1 y.2.2.2.2.2.2.1, sbS i 7 x.2.2.2.2.2.2.2 y.2.2.2.2.2.2.2)
set_option maxRecDepth 100000 in
set_option maxHeartbeats 8000000 in
theorem pQuo4_s {x y : MO.den} (hx : bM 65535 x) (hy : bM 65535 y) : FnS Tryz.prog 58 [aM x, aM y] (.t [(true, av MO (if dv4 y x then sbM' x y else MO.dflt)), (false, [.B (dv4 y x)])]) := by
 refine fsI Tryz.func58 ?_
 have hdv := pDivides4_s y x
 cases hd : dv4 y x with
 | false =>
  rw [hd] at hdv
  refine rr rfl (tr_seq (rb (rc rfl rfl hdv (re rfl (tr_cond rfl (fun _ => ?_) (fun h => by cases h))))))
  exact rb (rx rfl rfl trivial (re rfl (tr_ret (at_then_ret (atE rfl rfl)))))
 | true =>
  rw [hd] at hdv
  refine rr rfl (tr_seq (rb (rc rfl rfl hdv (re rfl (tr_cond rfl (fun h => by cases h) (fun _ => skT ?_))))))
  refine tr_mid1 ⟨[(2, .c (.P 0 0)), (4, .c (.P 2000 0))], [(2000, .box 63 0 (av MO MO.dflt)), (0, .box 63 0 (av MO (sbM' x y)))], 8, []⟩ ?_ (fun mid => rr rfl ?_)
  rotate_left
  ·refine tr_block (tr_loop (α := Nat) (fun i => ⟨[(2, .c (.P 0 0)), (3, .c (.P 1000 0)), (4, .c (.P 2000 0)), (12, cI i)], [(2000, .box 63 0 (av MO MO.dflt)), (1000, .box 63 0 (av MO y)), (0, .box 63 0 (av MO (sbN x y i)))], 4, []⟩) (fun i => i ≤ 8) (fun i => 8 - i) 0 (by decide) (wk (wkSr rfl) ⟨bR rfl, bR rfl, bE rfl rfl, trivial⟩) ?_)
   rintro i hi
   refine rr rfl (tr_seq (tr_cond rfl (fun h2 => ?_) (fun h2 => ?_)))
   ·have h2 : i < 8 := by
     have h2 : (i : Int) < 8 := of_decide_eq_true h2
     omega
    have hb := hx i h2
    have hc := hy i h2
    rcases lt8 h2 with rfl | rfl | rfl | rfl | rfl | rfl | rfl | rfl
    all_goals
     simp only [mx] at hb hc
     refine skT (tr_seq (tr_block (rr rfl (rt rfl (bkT (rt rfl (at_loop _ ?_ ?_ (wk (wkSr rfl) ⟨bR rfl, bR rfl, bE rfl rfl, trivial⟩)))) (hp := ?_)))))
     ·decide
     ·decide
     simp [Pr.an, Pr.h, num, i64r, sbN, sbS]
     omega
   ·have h2 : i = 8 := by
     have h2 : ¬ (i : Int) < 8 := of_decide_eq_false h2
     omega
    subst h2
    exact xlE (at_mid mid (wk (wkSr rfl) ⟨bR rfl, bE rfl rfl, trivial⟩))
  exact rr rfl (rtR rfl)
def mlA (L : List TE.den) (x : TE.den) : List TE.den → List TE.den
 | [] => L
 | y :: q => mlA (colT L (x.1 * y.1) (aM' x.2 y.2)) x q
def mlP (L : List TE.den) (q : List TE.den) : List TE.den → List TE.den
 | [] => L
 | x :: p => mlP (mlA L x q) q p
def mulT (p q : List TE.den) : List TE.den := srtT (nzT (mlP [] q p))
theorem mlA_app (x : TE.den) (b : List TE.den) : ∀ (a L : List TE.den), mlA L x (a ++ b) = mlA (mlA L x a) x b
 | [], _ => rfl
 | y :: a, L => mlA_app x b a _
theorem mlP_app (q b : List TE.den) : ∀ (a L : List TE.den), mlP L q (a ++ b) = mlP (mlP L q a) q b
 | [], _ => rfl
 | y :: a, L => mlP_app q b a _
theorem take_one {α : Type} (d : α) {l : List α} {i : Nat} (h : i < l.length) : l.take (i + 1) = l.take i ++ [l.getD i d] := by
 rw [List.take_add_one, List.getElem?_eq_getElem h, List.getD_eq_getElem?_getD, List.getElem?_eq_getElem h]; rfl
structure MlI (L : List TE.den) (k : Nat) : Prop where
 nd : (L.map (·.2)).Nodup
 bd : ∀ x ∈ L, bM 60000 x.2
 ln : L.length ≤ k
theorem MlI.nil : MlI [] 0 := ⟨List.nodup_nil, by simp, Nat.le_refl _⟩
theorem MlI.col {L : List TE.den} {k : Nat} (h : MlI L k) (c : Rat) {m : MO.den} (hm : bM 60000 m) : MlI (colT L c m) (k + 1) := ⟨putT_nd _ _ h.nd, fun x hx => by
 rcases colT_key hx with e | hx
 ·rw [e]; exact hm
 ·exact h.bd x hx, Nat.le_trans (putT_len _ m L) (by have := h.ln; omega)⟩
theorem MlI.row {x : TE.den} (hx : bM 30000 x.2) : ∀ {q L : List TE.den} {k : Nat}, (∀ y ∈ q, bM 30000 y.2) → MlI L k → MlI (mlA L x q) (k + q.length)
 | [], _, _, _, h => h
 | y :: q, L, k, hq, h => by
  have := MlI.row hx (q := q) (fun z hz => hq z (by simp [hz])) (h.col (x.1 * y.1) ((hx.add (hq y (by simp))).le (by decide)))
  rw [List.length_cons, show k + (q.length + 1) = k + 1 + q.length by omega]
  exact this
theorem MlI.all {q : List TE.den} (hq : ∀ y ∈ q, bM 30000 y.2) : ∀ {p L : List TE.den} {k : Nat}, (∀ x ∈ p, bM 30000 x.2) → MlI L k → MlI (mlP L q p) (k + p.length * q.length)
 | [], _, _, _, h => by rw [List.length_nil, Nat.zero_mul]; exact h
 | x :: p, L, k, hp, h => by
  have := MlI.all hq (p := p) (fun z hz => hp z (by simp [hz])) (MlI.row (hp x (by simp)) hq h)
  rw [List.length_cons, Nat.add_mul, show k + (p.length * q.length + 1 * q.length) = k + q.length + p.length * q.length by omega]
  exact this
theorem hmmT {K : Nat} (h : Nat.blt 1000000 K = true) (L : List TE.den) : memB K [(1000000, .mp true true (mpT L))] = true := by
 show (Nat.blt 1000000 K && midsB K (midsM (mpT L)) && true) = true
 rw [mpT_mids, h]; rfl
theorem himT {K : Nat} (L L' : List TE.den) : memIdsB K [(1000000, .mp true true (mpT L))] [(1000000, .mp true true (mpT L'))] = true := by
 show ((Nat.ble K 1000000 || true) && idsB K _ (midsM (mpT L')) && true) = true
 rw [mpT_mids, Bool.or_true]; rfl
set_option maxRecDepth 100000 in
set_option maxHeartbeats 32000000 in
theorem pMul_s {p q : List TE.den} {w : Nat} (hp : ∀ x ∈ p, bM 30000 x.2 ∧ QS w x.1) (hq : ∀ x ∈ q, bM 30000 x.2 ∧ QS w x.1) (hw : w ≤ 1000000) (hn : p.length * q.length ≤ 100000) (hpn : p.length ≤ 100000)
  (hW : ∀ i, i < p.length → ∀ j, j < q.length → ∀ x ∈ mlA (mlP [] q (p.take i)) (p.getD i TE.dflt) (q.take j), QS (2 * w) x.1) (h12 : (mulT p q).length ≤ 12) :
  FnS Tryz.prog 48 [cS TE p, cS TE q] (.t [(false, [.S TE (mulT p q)]), (false, [.I .i64 0])]) := by
 have hpb : ∀ x ∈ p, bM 30000 x.2 := fun x hx => (hp x hx).1
 have hqb : ∀ x ∈ q, bM 30000 x.2 := fun x hx => (hq x hx).1
 have hI : ∀ i, MlI (mlP [] q (p.take i)) ((p.take i).length * q.length) := fun i => by
  have := MlI.all hqb (p := p.take i) (fun x hx => hpb x (List.mem_of_mem_take hx)) MlI.nil
  rwa [Nat.zero_add] at this
 refine fsI Tryz.func48 ?_
 refine rr rfl (rb (rmk true true rfl (re rfl ?_)))
 refine tr_seq (rr rfl ?_)
 refine tr_block (tr_loop (α := Nat) (fun i => ⟨[(0, cS TE p), (1, cS TE q), (6, .c (.X 1000000)), (14, cS TE p), (15, cI p.length), (16, cI i)], [(1000000, .mp true true (mpT (mlP [] q (p.take i))))], 3, []⟩) (fun i => i ≤ p.length) (fun i => p.length - i) 0 (Nat.zero_le _) (wkT 7 7 [] ⟨sR rfl, sR rfl, sR rfl, sR rfl, sR rfl, sR rfl, trivial⟩ trivial rfl) ?_)
 intro i hi
 refine rr rfl (tr_seq (tr_cond rfl (fun h2 => ?_) (fun h2 => ?_)))
 ·have h2 : i < p.length := by
   have h2 : (i : Int) < (p.length : Int) := of_decide_eq_true h2
   omega
  have ei : ((i : Int)).toNat = i := Int.toNat_natCast i
  have hx := getD_in (d := TE.dflt) hp h2
  have hT := take_one TE.dflt h2
  generalize hxe : p.getD i TE.dflt = x at *
  have hrow : ∀ j, MlI (mlA (mlP [] q (p.take i)) x (q.take j)) ((p.take i).length * q.length + (q.take j).length) := fun j => MlI.row hx.1 (fun y hy => hqb y (List.mem_of_mem_take hy)) (hI i)
  refine skT (tr_seq (tr_block (rr rfl (rr rfl ?_))))
  refine tr_block (tr_loop (α := Nat) (fun j => ⟨[(0, cS TE p), (1, cS TE q), (6, .c (.X 1000000)), (8, .c (.P 4002000 0)), (14, cS TE p), (15, cI p.length), (16, cI i), (20, cS TE q), (21, cI q.length), (22, cI j)], [(1000000, .mp true true (mpT (mlA (mlP [] q (p.take i)) x (q.take j)))), (4002000, .box 75 0 (av TE x))], 6, []⟩) (fun j => j ≤ q.length) (fun j => q.length - j) 0 (Nat.zero_le _) (wkT 7 7 _ ⟨sR rfl, sR rfl, sR rfl, sR rfl, sR rfl, sR rfl, sR rfl, sR rfl, sR rfl, sR rfl, trivial⟩ ⟨bE rfl ?_, trivial⟩ rfl) ?_)
  ·show _ = Blk.box 75 0 (av TE x)
   rw [← hxe, ← ei]
   rfl
  intro j hj
  refine rr rfl (tr_seq (tr_cond rfl (fun h3 => ?_) (fun h3 => ?_)))
  ·have h3 : j < q.length := by
    have h3 : (j : Int) < (q.length : Int) := of_decide_eq_true h3
    omega
   have ej : ((j : Int)).toNat = j := Int.toNat_natCast j
   have hy := getD_in (d := TE.dflt) hq h3
   have hTq := take_one TE.dflt h3
   have hMI := hrow j
   have hWj := hW i h2 j h3
   rw [hxe] at hWj
   have hmul : FnS Tryz.prog 94 [aM x.2, aM (q.getD ((j : Int)).toNat TE.dflt).2] (.t [(true, av MO (aM' x.2 (q.getD ((j : Int)).toNat TE.dflt).2)), (false, [.I .i64 0])]) := by
    rw [ej]; exact pMul4_s hx.1 hy.1
   have hqm : FnS Tryz.prog 61 [aQ x.1, aQ (q.getD ((j : Int)).toNat TE.dflt).1] (aQ (x.1 * (q.getD ((j : Int)).toNat TE.dflt).1)) := by
    rw [ej]; exact qMul_s (k := w) _ _ hx.2 hy.2 (by omega)
   rw [← ej] at hTq hy
   have hstep : mlA (mlP [] q (p.take i)) x (q.take (((j : Int)).toNat + 1)) = colT (mlA (mlP [] q (p.take i)) x (q.take j)) (x.1 * (q.getD ((j : Int)).toNat TE.dflt).1) (aM' x.2 (q.getD ((j : Int)).toNat TE.dflt).2) := by
    rw [hTq, mlA_app, ej]; rfl
   have hcx := fun (k : Nat) (hk : 1000000 < k) => pcollect_x (L := mlA (mlP [] q (p.take i)) x (q.take j)) (c := x.1 * (q.getD ((j : Int)).toNat TE.dflt).1) (m := aM' x.2 (q.getD ((j : Int)).toNat TE.dflt).2) (w := 2 * w) (fun z hz => (hMI.bd z hz).le (by decide)) ((hx.1.add hy.1).le (by decide)) (hx.2.mul hy.2) (fun o ho => hWj _ (fndT_mem ho)) (by omega) (i := 1000000) (k := k) hk
   refine skT (tr_seq (tr_block (rr rfl ?_)))
   refine rb (rc rfl rfl hmul (re rfl (tr_seq (rr rfl (tr_cond rfl (fun h => by cases h) (fun _ => skT ?_))))))
   refine rbt (rc rfl rfl hqm (rcXd rfl rfl (hcx _ ?_) ⟨rfl, trivial⟩ rfl (re rfl ?_) (hmm := hmmT rfl _) (him := himT _ _)))
   ·decide
   ·have hjl : j ≤ 100000 := by
     have : q.length ≤ 100000 := Nat.le_trans (Nat.le_mul_of_pos_left _ (by omega)) hn
     omega
    refine bkT (rt rfl (hp := by simp only [Pr.an, Pr.h, num, i64r, true_and, and_true]; first | done | omega) ?_)
    rw [ej] at hstep
    refine at_loop (j + 1) ?_ ?_ (wkT 7 7 _ ⟨sR rfl, sR rfl, sR rfl, sR rfl, sR rfl, sR rfl, sR rfl, sR rfl, sR rfl, sE rfl ?_, trivial⟩ ⟨bE rfl rfl, trivial⟩ (congrArg (fun l => some (Blk.mp true true (mpT l))) hstep.symm))
    ·omega
    ·show q.length - (j + 1) < q.length - j; omega
    ·rfl
  ·have h3 : j = q.length := by
    have h3 : ¬ (j : Int) < (q.length : Int) := of_decide_eq_false h3
    omega
   subst h3
   have hMI := hrow q.length
   rw [List.take_length] at hMI ⊢
   have hstep : mlA (mlP [] q (p.take i)) x q = mlP [] q (p.take (i + 1)) := by
    rw [hT, mlP_app]; rfl
   refine xlE (bkT (rt rfl (hp := by simp only [Pr.an, Pr.h, num, i64r, true_and, and_true]; first | done | omega) (at_loop (i + 1) ?_ ?_ (wkT 7 7 _ ⟨sR rfl, sR rfl, sR rfl, sR rfl, sR rfl, sE rfl ?_, trivial⟩ trivial (congrArg (fun l => some (Blk.mp true true (mpT l))) hstep)))))
   ·omega
   ·show p.length - (i + 1) < p.length - i; omega
   ·rfl
 ·have h2 : i = p.length := by
   have h2 : ¬ (i : Int) < (p.length : Int) := of_decide_eq_false h2
   omega
  subst h2
  rw [List.take_length]
  have hF := hI p.length
  rw [List.take_length] at hF
  refine xlE (at_then ?_)
  have hln := hF.ln
  have hlen : (nzT (mlP [] q p)).length ≤ 12 := by
   have := (srtT_perm (nzT (mlP [] q p))).length_eq
   unfold mulT at h12
   omega
  refine rb (rcc (conc := []) (fm := [(1000000, .mp true true (mpT (mlP [] q p)))]) rfl rfl (psorted_s (by omega) hF.nd (fun x hx => (hF.bd x hx).le (by decide)) hlen) (fun id b h => rfl) (re rfl (rtR rfl)))
set_option maxRecDepth 100000 in
set_option maxHeartbeats 8000000 in
theorem pTimes_s {c : Rat} {m : MO.den} {p : List TE.den} {w : Nat} (h0 : c ≠ 0) (lp : p.length ≤ 100000) (hc : QS w c) (hp : ∀ x ∈ p, bM 30000 x.2 ∧ QS w x.1) (hm : bM 30000 m) (hw : w ≤ 1000000) :
  FnS Tryz.prog 57 [aQ c, aM m, cS TE p] (.t [(false, [.S TE (p.map (tE1 c m))]), (false, [.I .i64 0])]) := by
 refine fsI Tryz.func57 ?_
 refine rr rfl (tr_seq (rb (rc rfl rfl (qSign_s c) (re rfl (tr_cond rfl (fun h => ?_) (fun h => skT ?_))))))
 ·have h : sgn c.num = 0 := eq_of_beq h
  exact absurd (Rat.num_eq_zero.1 (sgn_zero.1 h)) h0
 ·refine rb (rmc TE p.length rfl rfl rfl rfl rfl rfl rfl rfl rfl ?_ ?_ (re rfl ?_))
  ·show p.length * 128 ≤ _
   omega
  ·show p.length * 12 ≤ _
   omega
  refine tr_mid1 ⟨[(8, .c (.X 2002000))], [(2002000, .vec 75 TE (p.map (tE1 c m)))], 20, []⟩ ?_ (fun mid => ?_)
  rotate_left
  ·refine rr rfl ?_
   refine tr_block (tr_loop (α := Nat) (fun i => ⟨[(3, .c (.P 0 0)), (4, .c (.P 1000 0)), (8, .c (.X 2002000)), (19, cS TE p), (20, cI p.length), (21, cI i)], [(2002000, .vec 75 TE ((p.take i).map (tE1 c m))), (1000, .box 63 0 (av MO m)), (0, .box 72 0 (av .q c))], 4, []⟩) (fun i => i ≤ p.length) (fun i => p.length - i) 0 (Nat.zero_le _) wkA ?_)
   intro i hi
   refine rr rfl (tr_seq (tr_cond rfl (fun h2 => ?_) (fun h2 => ?_)))
   ·have h2 : i < p.length := by
     have h2 : (i : Int) < (p.length : Int) := of_decide_eq_true h2
     omega
    have hx := getD_in (d := TE.dflt) hp h2
    have ei : ((i : Int)).toNat = i := Int.toNat_natCast i
    have hmul : FnS Tryz.prog 94 [aM m, aM (p.getD ((i : Int)).toNat TE.dflt).2] (.t [(true, av MO (aM' m (p.getD ((i : Int)).toNat TE.dflt).2)), (false, [.I .i64 0])]) := by
     rw [ei]; exact pMul4_s hm hx.1
    have hq : FnS Tryz.prog 61 [aQ c, aQ (p.getD ((i : Int)).toNat TE.dflt).1] (aQ (c * (p.getD ((i : Int)).toNat TE.dflt).1)) := by
     rw [ei]; exact qMul_s (k := w) _ _ hc hx.2 (by omega)
    have hmap := take_map_one (tE1 c m) TE.dflt p i h2
    rw [show p.getD i TE.dflt = p.getD (i : Int).toNat TE.dflt by rw [Int.toNat_natCast]] at hmap
    refine skT (tr_seq (tr_block (rr rfl ?_)))
    refine rb (rc rfl rfl hmul (re rfl (tr_seq (rr rfl (tr_cond rfl (fun h => by cases h) (fun _ => skT ?_))))))
    refine rbt (rc rfl rfl hq (rl TE [tE1 c m (p.getD (i : Int).toNat TE.dflt)] rfl rfl (ra rfl rfl rfl rfl rfl rfl rfl rfl rfl ?_ ?_ (re rfl ?_))))
    ·show (_ + 1 + (_ + 1) / 4 + 192) * 128 ≤ _
     simp only [List.length_map, List.length_take]; omega
    ·show (_ + 1) * 12 ≤ _
     simp only [List.length_map, List.length_take]; omega
    refine bkT (rt rfl (at_loop (i + 1) h2 (by show p.length - (i + 1) < p.length - i; omega) (Wk.trans (wk (st' := ⟨[(3, .c (.P 0 0)), (4, .c (.P 1000 0)), (8, .c (.X 8008000)), (19, cS TE p), (20, cI p.length), (21, cI ((i + 1 : Nat) : Int))], [(8008000, .vec 75 TE ((p.take (i + 1)).map (tE1 c m))), (1000, .box 63 0 (av MO m)), (0, .box 72 0 (av .q c))], 20, []⟩) ⟨sR rfl, sR rfl, sR rfl, sR rfl, sR rfl, sE rfl ?_, trivial⟩ ⟨bE rfl ?_, bR rfl, bR rfl, trivial⟩) (Wk.trans (wk_ren 2002000 8008000 rfl rfl rfl) wkA))))
    ·rfl
    ·rw [hmap]
   ·have h2 : i = p.length := by
     have h2 : ¬ (i : Int) < (p.length : Int) := of_decide_eq_false h2
     omega
    subst h2
    exact xlE (at_mid mid (wk ⟨sR rfl, trivial⟩ ⟨⟨_, rfl, BLe.of_eq (by rw [List.take_length])⟩, trivial⟩))
  ·refine tr_frz 2002000 rfl rfl rfl ?_
   exact rr rfl (rtR rfl)
def gT (g : Rat → Rat) (y : TE.den) : TE.den := (g y.1, y.2)
theorem aE6_lp : ∀ {n : Nat} {p : List TE.den}, p.length ≤ n → aE6 n p [] = p
 | 0, [], _ => rfl
 | 0, _ :: _, h => absurd h (by simp)
 | _ + 1, [], _ => rfl
 | n + 1, x :: p, h => by rw [aE6_r, aE6_lp (by simpa using h)]
theorem aE6_lq : ∀ {n : Nat} {q : List TE.den}, q.length ≤ n → aE6 n [] q = q
 | 0, [], _ => rfl
 | 0, _ :: _, h => absurd h (by simp)
 | _ + 1, [], _ => rfl
 | n + 1, x :: q, h => by rw [aE6_l, aE6_lq (by simpa using h)]
theorem hd_tl {l : List TE.den} (h : 0 < l.length) : l = l.getD 0 TE.dflt :: l.drop 1 := by
 cases l with
 | nil => cases h
 | cons a l => rfl
theorem cmM_3 (x y : MO.den) : ∀ n i, cmM x y n i = 1 ∨ cmM x y n i = -1 ∨ cmM x y n i = 0
 | 0, _ => .inr (.inr rfl)
 | n + 1, i => by
  unfold cmM
  split
  ·exact .inr (.inl rfl)
  ·split
   ·exact .inl rfl
   ·exact cmM_3 x y n (i + 1)
set_option maxRecDepth 100000 in
set_option maxHeartbeats 32000000 in
theorem pmerge_s {F : Nat} {g : Rat → Rat} {p q : List TE.den} {w : Nat} (lp : p.length ≤ 100000) (lq : q.length ≤ 100000) (hp : ∀ x ∈ p, bM 65535 x.2 ∧ QS w x.1) (hq : ∀ x ∈ q, bM 65535 x.2 ∧ QS w (g x.1)) (hg : ∀ x ∈ q, FnS Tryz.prog F [aQ x.1] (aQ (g x.1))) (hw : w ≤ 1000000) :
  FnS Tryz.prog 63 [cS TE p, cS TE q, fnV F] (cS TE (aT6 p (q.map (gT g)))) := by
 refine fsI Tryz.func63 ?_
 refine rr rfl (rb (rmc TE (p.length + q.length) rfl rfl rfl rfl rfl rfl rfl rfl ?_ ?_ ?_ (re rfl ?_)))
 ·show (p.length : Int) + (q.length : Int) = _
  omega
 ·show (p.length + q.length) * 128 ≤ _
  omega
 ·show (p.length + q.length) * 12 ≤ _
  omega
 refine tr_mid (α := List TE.den × List TE.den × List TE.den) (fun s => ⟨[(0, cS TE s.1), (1, cS TE s.2.1), (2, fnV F), (7, .c (.X 1005000))], [(1005000, .vec 75 TE s.2.2)], 20, []⟩) (fun s => s.1.length + s.2.1.length + s.2.2.length ≤ 200000 ∧ s.2.2 ++ (s.1 ++ s.2.1.map (gT g)) = aT6 p (q.map (gT g)) ∧ ∀ x ∈ s.2.1, x ∈ q) ?_ (fun mid => ?_)
 rotate_left
 ·refine tr_block (tr_loop (α := List TE.den × List TE.den × List TE.den) (fun s => ⟨[(0, cS TE s.1), (1, cS TE s.2.1), (2, fnV F), (7, .c (.X 1005000))], [(1005000, .vec 75 TE s.2.2)], 2, []⟩) (fun s => s.1.length + s.2.1.length + s.2.2.length ≤ 200000 ∧ (∃ n, s.1.length + s.2.1.length ≤ n ∧ s.2.2 ++ aE6 n s.1 (s.2.1.map (gT g)) = aT6 p (q.map (gT g))) ∧ (∀ x ∈ s.1, x ∈ p) ∧ ∀ x ∈ s.2.1, x ∈ q) (fun s => s.1.length + s.2.1.length) (p, q, []) ⟨by simp only [List.length_nil]; omega, ⟨p.length + (q.map (gT g)).length, by rw [List.length_map]; exact Nat.le_refl _, rfl⟩, fun x hx => hx, fun x hx => hx⟩ wkA ?_)
  rintro ⟨a, b, out⟩ ⟨hl, ⟨n, hn, he⟩, ha, hb⟩
  simp only at hl hn he ha hb ⊢
  refine tr_seq (rb (rg 20 rfl rfl (fun h => ?_) (fun h => ?_)))
  ·have h1 : 0 < a.length := by
    have h : (a.length : Int) > 0 := of_decide_eq_true h
    omega
   refine re rfl (tr_cond rfl (fun h2 => skT ?_) (fun h2 => ?_))
   ·have h2 : 0 < b.length := by
     have h2 : (b.length : Int) > 0 := of_decide_eq_true h2
     omega
    have hx := getD_in (d := TE.dflt) (fun x hx => hp x (ha x hx)) h1
    have hy := getD_in (d := TE.dflt) (fun x hx => hq x (hb x hx)) h2
    have hcm : FnS Tryz.prog 112 [aM (a.getD ((0 : Int)).toNat TE.dflt).2, aM (b.getD ((0 : Int)).toNat TE.dflt).2] (cI (cmp4 (a.getD 0 TE.dflt).2 (b.getD 0 TE.dflt).2)) := pCmp_s hx.1 hy.1
    have hgc : FnS Tryz.prog F ([] ++ ([aQ (b.getD ((0 : Int)).toNat TE.dflt).1] ++ [])) (aQ (g (b.getD ((0 : Int)).toNat TE.dflt).1)) := by
     have h := getD_in (p := fun x : TE.den => FnS Tryz.prog F [aQ x.1] (aQ (g x.1))) (d := TE.dflt) (fun x hx => hg x (hb x hx)) h2
     exact h
    have hadd : FnS Tryz.prog 113 [aQ (a.getD ((0 : Int)).toNat TE.dflt).1, aQ (g (b.getD ((0 : Int)).toNat TE.dflt).1)] (aQ ((a.getD 0 TE.dflt).1 + g (b.getD 0 TE.dflt).1)) := qAdd_s (k := w) _ _ hx.2 hy.2 (by omega)
    have da := hd_tl h1
    have db : b.map (gT g) = gT g (b.getD 0 TE.dflt) :: (b.drop 1).map (gT g) := congrArg (List.map (gT g)) (hd_tl h2)
    have hn1 : n - 1 + 1 = n := by omega
    have he' : out ++ aE6 (n - 1 + 1) (a.getD 0 TE.dflt :: a.drop 1) (gT g (b.getD 0 TE.dflt) :: (b.drop 1).map (gT g)) = aT6 p (q.map (gT g)) := by rw [← da, ← db, hn1]; exact he
    have e2 : (gT g (b.getD 0 TE.dflt)).2 = (b.getD 0 TE.dflt).2 := rfl
    have e1 : (gT g (b.getD 0 TE.dflt)).1 = g (b.getD 0 TE.dflt).1 := rfl
    have la : (a.drop 1).length = a.length - 1 := List.length_drop
    have lb : (b.drop 1).length = b.length - 1 := List.length_drop
    have ma : ∀ x ∈ a.drop 1, x ∈ p := fun x hx => ha x (List.mem_of_mem_drop hx)
    have mb : ∀ x ∈ b.drop 1, x ∈ q := fun x hx => hb x (List.mem_of_mem_drop hx)
    have sa : AV.c (C.S TE (List.drop ((1 : Int)).toNat (List.take a.length a))) = cS TE (a.drop 1) := by rw [List.take_length]; rfl
    have sb : AV.c (C.S TE (List.drop ((1 : Int)).toNat (List.take b.length b))) = cS TE (b.drop 1) := by rw [List.take_length]; rfl
    have k1 : (a.drop 1).length + b.length ≤ n - 1 := by rw [la]; omega
    have k2 : a.length + (b.drop 1).length ≤ n - 1 := by rw [lb]; omega
    have k3 : (a.drop 1).length + (b.drop 1).length ≤ n - 1 := by rw [la, lb]; omega
    have n1 : n - 1 < n := by omega
    rw [aE6_b, e2, e1] at he'
    refine tr_block (rb (rc rfl rfl hcm (re rfl ?_)))
    refine tr_block (rr rfl (tr_cond rfl (fun h3 => ?_) (fun h3 => ?_)))
    ·have h3 : cmp4 (a.getD 0 TE.dflt).2 (b.getD 0 TE.dflt).2 = 1 := eq_of_beq h3
     rw [if_pos (by omega), ← db] at he'
     refine rb (rl TE [a.getD ((0 : Int)).toNat TE.dflt] rfl rfl (ra rfl rfl rfl rfl rfl rfl rfl rfl rfl (by show (out.length + 1 + (out.length + 1) / 4 + 192) * 128 ≤ _; omega) (by show (out.length + 1) * 12 ≤ _; omega) (re rfl (rt rfl ?_))))
     refine at_block (at_block (at_loop (a.drop 1, b, out ++ [a.getD ((0 : Int)).toNat TE.dflt]) ⟨by show (a.drop 1).length + b.length + (out ++ [_]).length ≤ _; rw [List.length_append, List.length_singleton, la]; omega, ⟨n - 1, k1, by rw [List.append_assoc]; exact he'⟩, ma, hb⟩ (by show (a.drop 1).length + b.length < a.length + b.length; rw [la]; omega) (Wk.trans (wk (st' := ⟨[(0, cS TE (a.drop 1)), (1, cS TE b), (2, fnV F), (7, .c (.X 5005000))], [(5005000, .vec 75 TE (out ++ [a.getD ((0 : Int)).toNat TE.dflt]))], 7, []⟩) ⟨sE rfl ?_, sR rfl, sR rfl, sR rfl, trivial⟩ ⟨bR rfl, trivial⟩) (Wk.trans (wk_ren 1005000 5005000 rfl rfl rfl) wkA))))
     exact sa
    ·have h3 : cmp4 (a.getD 0 TE.dflt).2 (b.getD 0 TE.dflt).2 ≠ 1 := ne_of_beq_false h3
     refine rr rfl (tr_cond rfl (fun h4 => ?_) (fun h4 => ?_))
     ·have h4 : cmp4 (a.getD 0 TE.dflt).2 (b.getD 0 TE.dflt).2 = -1 := eq_of_beq h4
      rw [if_neg (by omega), if_pos (by omega), ← da] at he'
      refine rb (rcs rfl rfl (.inl ⟨rfl, rfl, rfl⟩) rfl hgc (rl TE [gT g (b.getD ((0 : Int)).toNat TE.dflt)] rfl rfl (ra rfl rfl rfl rfl rfl rfl rfl rfl rfl (by show (out.length + 1 + (out.length + 1) / 4 + 192) * 128 ≤ _; omega) (by show (out.length + 1) * 12 ≤ _; omega) (re rfl (rt rfl ?_)))))
      refine at_block (at_block (at_loop (a, b.drop 1, out ++ [gT g (b.getD ((0 : Int)).toNat TE.dflt)]) ⟨by show a.length + (b.drop 1).length + (out ++ [_]).length ≤ _; rw [List.length_append, List.length_singleton, lb]; omega, ⟨n - 1, k2, by rw [List.append_assoc]; exact he'⟩, ha, mb⟩ (by show a.length + (b.drop 1).length < a.length + b.length; rw [lb]; omega) (Wk.trans (wk (st' := ⟨[(0, cS TE a), (1, cS TE (b.drop 1)), (2, fnV F), (7, .c (.X 6013000))], [(6013000, .vec 75 TE (out ++ [gT g (b.getD ((0 : Int)).toNat TE.dflt)]))], 8, []⟩) ⟨sR rfl, sE rfl ?_, sR rfl, sR rfl, trivial⟩ ⟨bR rfl, trivial⟩) (Wk.trans (wk_ren 1005000 6013000 rfl rfl rfl) wkA))))
      exact sb
     ·have h4 : cmp4 (a.getD 0 TE.dflt).2 (b.getD 0 TE.dflt).2 ≠ -1 := ne_of_beq_false h4
      have h5 : cmp4 (a.getD 0 TE.dflt).2 (b.getD 0 TE.dflt).2 = 0 := by
       rcases cmM_3 (a.getD 0 TE.dflt).2 (b.getD 0 TE.dflt).2 8 0 with h | h | h
       ·exact absurd h h3
       ·exact absurd h h4
       ·exact h
      rw [if_neg (by omega), if_neg (by omega)] at he'
      refine tr_seq (rb (rcs rfl rfl (.inl ⟨rfl, rfl, rfl⟩) rfl hgc (rc rfl rfl hadd (re rfl ?_))))
      refine rb (rc rfl rfl (qSign_s _) (re rfl (tr_cond rfl (fun h6 => ?_) (fun h6 => tr_skip (at_then ?_)))))
      ·have h6 : (a.getD 0 TE.dflt).1 + g (b.getD 0 TE.dflt).1 ≠ 0 := fun e => by
        have h6 : sgn ((a.getD 0 TE.dflt).1 + g (b.getD 0 TE.dflt).1).num ≠ 0 := by simpa using h6
        rw [e] at h6; exact h6 rfl
       rw [if_pos h6] at he'
       refine rbt (rl TE [((a.getD 0 TE.dflt).1 + g (b.getD 0 TE.dflt).1, (a.getD ((0 : Int)).toNat TE.dflt).2)] rfl rfl (ra rfl rfl rfl rfl rfl rfl rfl rfl rfl (by show (out.length + 1 + (out.length + 1) / 4 + 192) * 128 ≤ _; omega) (by show (out.length + 1) * 12 ≤ _; omega) (re rfl (at_then (rt rfl ?_)))))
       refine at_block (at_block (at_loop (a.drop 1, b.drop 1, out ++ [((a.getD 0 TE.dflt).1 + g (b.getD 0 TE.dflt).1, (a.getD ((0 : Int)).toNat TE.dflt).2)]) ⟨by show (a.drop 1).length + (b.drop 1).length + (out ++ [_]).length ≤ _; rw [List.length_append, List.length_singleton, la, lb]; omega, ⟨n - 1, k3, by rw [List.append_assoc]; exact he'⟩, ma, mb⟩ (by show (a.drop 1).length + (b.drop 1).length < a.length + b.length; rw [la, lb]; omega) (Wk.trans (wk (st' := ⟨[(0, cS TE (a.drop 1)), (1, cS TE (b.drop 1)), (2, fnV F), (7, .c (.X 8008000))], [(8008000, .vec 75 TE (out ++ [((a.getD 0 TE.dflt).1 + g (b.getD 0 TE.dflt).1, (a.getD ((0 : Int)).toNat TE.dflt).2)]))], 10, []⟩) ⟨sE rfl ?_, sE rfl ?_, sR rfl, sR rfl, trivial⟩ ⟨bR rfl, trivial⟩) (Wk.trans (wk_ren 1005000 8008000 rfl rfl rfl) wkA))))
       ·exact sa
       ·exact sb
      ·have h6 : (a.getD 0 TE.dflt).1 + g (b.getD 0 TE.dflt).1 = 0 := by
        have h6 : sgn ((a.getD 0 TE.dflt).1 + g (b.getD 0 TE.dflt).1).num = 0 := by simpa using h6
        exact Rat.num_eq_zero.1 (sgn_zero.1 h6)
       rw [if_neg (fun h => h h6)] at he'
       refine rt rfl ?_
       refine at_block (at_block (at_loop (a.drop 1, b.drop 1, out) ⟨by show (a.drop 1).length + (b.drop 1).length + out.length ≤ _; rw [la, lb]; omega, ⟨n - 1, k3, he'⟩, ma, mb⟩ (by show (a.drop 1).length + (b.drop 1).length < a.length + b.length; rw [la, lb]; omega) (wk ⟨sE rfl ?_, sE rfl ?_, sR rfl, sR rfl, trivial⟩ ⟨bR rfl, trivial⟩)))
       ·exact sa
       ·exact sb
   ·have h2 : b = [] := List.eq_nil_of_length_eq_zero (by
     have h2 : ¬ (b.length : Int) > 0 := of_decide_eq_false h2
     omega)
    subst h2
    rw [List.map_nil, aE6_lp (by simpa using hn)] at he
    refine xlE (at_mid (mid (a, [], out) ⟨hl, by rw [List.map_nil, List.append_nil]; exact he, hb⟩) wkA)
  ·have h1 : a = [] := List.eq_nil_of_length_eq_zero (by
    have h : ¬ (a.length : Int) > 0 := of_decide_eq_false h
    omega)
   subst h1
   rw [aE6_lq (by rw [List.length_map]; simpa using hn)] at he
   exact re rfl (tr_cond rfl (fun h => by cases h) (fun _ => xlE (at_mid (mid ([], b, out) ⟨hl, he, hb⟩) wkA)))
 ·rintro ⟨a, b, out⟩ ⟨hl, he, hb⟩
  simp only at hl he hb ⊢
  refine rb (ra rfl rfl rfl rfl rfl rfl rfl rfl rfl (by show (out.length + a.length + (out.length + a.length) / 4 + 192) * 128 ≤ _; omega) (by show (out.length + a.length) * 12 ≤ _; omega) (re rfl ?_))
  refine tr_mid1 ⟨[(7, .c (.X 20002000))], [(20002000, .vec 75 TE (aT6 p (q.map (gT g))))], 40, []⟩ ?_ (fun mid => ?_)
  rotate_left
  ·refine rr rfl (tr_block (tr_loop (α := Nat) (fun i => ⟨[(2, fnV F), (7, .c (.X 20002000)), (92, cS TE b), (93, cI b.length), (94, cI i)], [(20002000, .vec 75 TE (out ++ a ++ (b.take i).map (gT g)))], 22, []⟩) (fun i => i ≤ b.length) (fun i => b.length - i) 0 (Nat.zero_le _) (wk (wkSr rfl) ⟨bE rfl ?_, trivial⟩) ?_))
   ·show Blk.vec 75 TE (out ++ a) = Blk.vec 75 TE (out ++ a ++ [])
    rw [List.append_nil]
   intro i hi
   refine rr rfl (tr_seq (tr_cond rfl (fun h2 => ?_) (fun h2 => ?_)))
   ·have h2 : i < b.length := by
     have h2 : (i : Int) < (b.length : Int) := of_decide_eq_true h2
     omega
    have ei : ((i : Int)).toNat = i := Int.toNat_natCast i
    have hgc : FnS Tryz.prog F ([] ++ ([aQ (b.getD ((i : Int)).toNat TE.dflt).1] ++ [])) (aQ (g (b.getD ((i : Int)).toNat TE.dflt).1)) := by
     have h := getD_in (p := fun x : TE.den => FnS Tryz.prog F [aQ x.1] (aQ (g x.1))) (d := TE.dflt) (fun x hx => hg x (hb x hx)) h2
     rw [ei]; exact h
    have hmap := take_map_one (gT g) TE.dflt b i h2
    rw [show b.getD i TE.dflt = b.getD (i : Int).toNat TE.dflt by rw [Int.toNat_natCast]] at hmap
    refine skT (tr_seq (tr_block (rr rfl ?_)))
    refine rbt (rcs rfl rfl (.inl ⟨rfl, rfl, rfl⟩) rfl hgc (rl TE [gT g (b.getD (i : Int).toNat TE.dflt)] rfl rfl (ra rfl rfl rfl rfl rfl rfl rfl rfl rfl ?_ ?_ (re rfl ?_))))
    ·show ((out ++ a ++ _).length + 1 + ((out ++ a ++ _).length + 1) / 4 + 192) * 128 ≤ _
     simp only [List.length_append, List.length_map, List.length_take]; omega
    ·show ((out ++ a ++ _).length + 1) * 12 ≤ _
     simp only [List.length_append, List.length_map, List.length_take]; omega
    refine bkT (rt rfl (hp := by simp only [Pr.an, Pr.h, num, i64r, true_and, and_true]; first | done | omega) (at_loop (i + 1) h2 (by show b.length - (i + 1) < b.length - i; omega) (Wk.trans (wk (st' := ⟨[(2, fnV F), (7, .c (.X 24009000)), (92, cS TE b), (93, cI b.length), (94, cI ((i + 1 : Nat) : Int))], [(24009000, .vec 75 TE (out ++ a ++ (b.take (i + 1)).map (gT g)))], 26, []⟩) ⟨sR rfl, sR rfl, sR rfl, sR rfl, sE rfl ?_, trivial⟩ ⟨bE rfl ?_, trivial⟩) (Wk.trans (wk_ren 20002000 24009000 rfl rfl rfl) wkA))))
    ·rfl
    ·rw [hmap, ← List.append_assoc]
   ·have h2 : i = b.length := by
     have h2 : ¬ (i : Int) < (b.length : Int) := of_decide_eq_false h2
     omega
    subst h2
    exact xlE (at_mid mid (wk ⟨sR rfl, trivial⟩ ⟨⟨_, rfl, BLe.of_eq (by rw [List.take_length, List.append_assoc, he])⟩, trivial⟩))
  ·refine tr_frz 20002000 rfl rfl rfl ?_
   exact rr rfl (rtR rfl)
theorem pAdd1_s (c : Rat) : FnS Tryz.prog 64 [aQ c] (aQ c) := by
 refine fsI Tryz.func64 ?_
 refine rr rfl ?_
 refine rr rfl ?_
 exact rtR rfl
theorem pAdd_s {p q : List TE.den} {w : Nat} (lp : p.length ≤ 100000) (lq : q.length ≤ 100000) (hp : ∀ x ∈ p, bM 65535 x.2 ∧ QS w x.1) (hq : ∀ x ∈ q, bM 65535 x.2 ∧ QS w x.1) (hw : w ≤ 1000000) :
  FnS Tryz.prog 24 [cS TE p, cS TE q] (cS TE (aT6 p q)) := by
 have h := pmerge_s (F := 64) (g := fun c => c) lp lq hp hq (fun x _ => pAdd1_s x.1) hw
 rw [show q.map (gT fun c => c) = q from List.map_id q] at h
 refine fsI Tryz.func24 ?_
 refine rr rfl ?_
 refine rb (rc rfl rfl h (re rfl ?_))
 exact rtR rfl
theorem pSub_s {p q : List TE.den} {w : Nat} (lp : p.length ≤ 100000) (lq : q.length ≤ 100000) (hp : ∀ x ∈ p, bM 65535 x.2 ∧ QS w x.1) (hq : ∀ x ∈ q, bM 65535 x.2 ∧ QS w x.1) (hw : w ≤ 1000000) :
  FnS Tryz.prog 26 [cS TE p, cS TE q] (cS TE (aT6 p (q.map (gT fun c => -c)))) := by
 have h := pmerge_s (F := 65) (g := fun c => -c) lp lq hp (fun x hx => ⟨(hq x hx).1, (hq x hx).2.neg⟩) (fun x hx => qNeg_s x.1 ((hq x hx).2.n.sm (by omega))) hw
 refine fsI Tryz.func26 ?_
 refine rr rfl ?_
 refine rb (rc rfl rfl h (re rfl ?_))
 exact rtR rfl
def scopeQ (Q : Post) : Post := fun F => Exit.noGoto (Q F)
section
variable {P : Program} {n : Nat} {Q : Post} {st : St}
theorem tr_scope {c : Code} (h : TR P n c st (scopeQ Q)) : TR P n (.scope c) st Q := fun F hF g W a hh => wp_scope_straight (h F hF g W a hh)
theorem tr_label {l : Nat} (h : AtQ n .normal st Q) : TR P n (.label l) st Q := fun F hF g W a hh => wp_label (h F hF g W a hh)
theorem at_scope_ret (h : AtQ n .ret st Q) : AtQ n .ret st (scopeQ Q) := h
end
def dgT (p : List TE.den) : MO.den := p.foldl (fun d x => lcM d x.2) MO.dflt
theorem dgT_app (p : List TE.den) (x : TE.den) : dgT (p ++ [x]) = lcM (dgT p) x.2 := by
 unfold dgT; rw [List.foldl_append]; rfl
set_option maxRecDepth 100000 in
set_option maxHeartbeats 8000000 in
theorem pDegs_s {p : List TE.den} (lp : p.length ≤ 100000) : FnS Tryz.prog 59 [cS TE p] (aM (dgT p)) := by
 refine fsI Tryz.func59 ?_
 refine rr rfl (rr rfl ?_)
 refine tr_mid1 ⟨[(2, .c (.P 0 0)), (3, .c (.P 1000000 0))], [(0, .box 63 0 (av MO MO.dflt)), (1000000, .box 63 0 (av MO (dgT p)))], 20, []⟩ ?_ (fun mid => ?_)
 rotate_left
 ·refine rr rfl (tr_block (tr_loop (α := Nat) (fun i => ⟨[(2, .c (.P 0 0)), (3, .c (.P 1000000 0)), (6, cS TE p), (7, cI p.length), (8, cI i)], [(0, .box 63 0 (av MO MO.dflt)), (1000000, .box 63 0 (av MO (dgT (p.take i))))], 3, []⟩) (fun i => i ≤ p.length) (fun i => p.length - i) 0 (Nat.zero_le _) (wk (wkSr rfl) ⟨bE rfl ?_, bE rfl ?_, trivial⟩) ?_))
  ·rfl
  ·rfl
  intro i hi
  refine rr rfl (tr_seq (tr_cond rfl (fun h2 => ?_) (fun h2 => ?_)))
  ·have h2 : i < p.length := by
    have h2 : (i : Int) < (p.length : Int) := of_decide_eq_true h2
    omega
   have ei : ((i : Int)).toNat = i := Int.toNat_natCast i
   have hT := take_one TE.dflt h2
   have hl := pLcm4_s (dgT (p.take i)) (p.getD ((i : Int)).toNat TE.dflt).2
   refine skT (tr_seq (tr_block (rr rfl ?_)))
   refine rbt (rc rfl rfl hl (re rfl ?_))
   refine bkT (rt rfl (hp := by simp only [Pr.an, Pr.h, num, i64r, true_and, and_true]; first | done | omega) (at_loop (i + 1) h2 (by show p.length - (i + 1) < p.length - i; omega) (wk ⟨sR rfl, sR rfl, sR rfl, sR rfl, sE rfl ?_, trivial⟩ ⟨bR rfl, bE rfl ?_, trivial⟩)))
   ·rfl
   ·rw [hT, dgT_app, ei]; rfl
  ·have h2 : i = p.length := by
    have h2 : ¬ (i : Int) < (p.length : Int) := of_decide_eq_false h2
    omega
   subst h2
   exact xlE (at_mid mid (wk (wkSr rfl) ⟨bR rfl, ⟨_, rfl, BLe.of_eq (by rw [List.take_length])⟩, trivial⟩))
 ·exact rr rfl (rtR rfl)
end Go.El
