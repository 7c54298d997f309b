/- Ranges over functions, part 5: the statement, and the function that holds it. Own work; no condition. -/
import Derived.Test.YtkkccchkmcjcpaaGreatM9
set_option linter.unusedVariables false
set_option linter.unusedSimpArgs false
namespace Go.El
open Go Go.RowKit
def markD (D : Nat) : Deferred := { target := .collected D, args := #[] }
structure SR where
 t : Tr
 ms : Ms
 k : Nat
noncomputable def finR (s : SR) (s' : SY) : Res SR := match s'.pd with
 | none => .nor ⟨s.t, s'.ms, s'.k⟩
 | some (.exit id) => .exi id ⟨s.t, s'.ms, s'.k⟩
 | some .ret => .ret ⟨s.t, s'.ms, s'.k⟩
 | _ => .no
noncomputable def leafR3 (P : Program) (tt : TT) (con : FuncId → List AV → Ms → Option (List AV × AV)) (fu fy dep n p : Nat) (asg bd : Code) (ws : List AV) (fn : Func) (cb : Code) (s : SR) : Res SR :=
 match fn.name != "runtime.NumGoroutine" && Nat.ble (ws.length + 1) fn.ntmps && Nat.ble fn.ntmps 4096 && fn.results.isEmpty with
 | true => (match gen (leafY P tt con fu (depOf fn.ntmps) fn.ntmps s.k (rndF P tt con fu dep n s.t p asg bd)) (evY (depOf fn.ntmps) fn.ntmps) fy cb ⟨argT (depOf fn.ntmps) (.c (.X s.k) :: ws) 0 .e, s.ms, s.k + 1, none⟩ with
  | .nor s' => finR s s'
  | .ret s' => finR s s'
  | _ => .no)
 | false => .no
noncomputable def leafR2 (P : Program) (tt : TT) (con : FuncId → List AV → Ms → Option (List AV × AV)) (fu fy dep n p : Nat) (asg bd : Code) (id : Nat) (s : SR) : Res SR :=
 match lookS id s.ms with
 | some (.clo f [] caps) => (match unSs caps with
  | some ws => (match P.funcs[f]? with
   | some fn => (match fn.body with
    | some cb => leafR3 P tt con fu fy dep n p asg bd ws fn cb s
    | none => .no)
   | none => .no)
  | none => .no)
 | _ => .no
noncomputable def leafR (P : Program) (tt : TT) (con : FuncId → List AV → Ms → Option (List AV × AV)) (fu fy dep n : Nat) (c : Code) (s : SR) : Res SR := match c with
 | .region id ops draw => (match runF P tt con fu dep n 0 (.region id ops draw) s.t s.ms s.k [] with
  | .nor t' ms' k' _ => .nor ⟨t', ms', k'⟩
  | _ => .no)
 | .rangeFunc g ⟨[p]⟩ asg bd => (match Nat.blt p n && noDef asg && noDef bd with
  | true => (match compP dep n g with
   | some pg => (match evP s.t pg with
    | some (.c (.X id)) => leafR2 P tt con fu fy dep n p asg bd id s
    | _ => .no)
   | none => .no)
  | false => .no)
 | _ => .no
noncomputable def evR (dep n : Nat) (c : Operand) (s : SR) : Option Bool := match compP dep n c with
 | some p => (match evP s.t p with
  | some (.c (.B b)) => some b
  | _ => none)
 | none => none
def IR (F : Fix) (dep n : Nat) (s : SR) (a : Act) (W : World) : Prop :=
 ∃ (g : Gh) (mk : List Nat), wfT dep n s.t s.k ∧ wfM s.ms s.k ∧ Hold { F with n := n, ds := mk.map markD, rd := none } (· < s.k) (absS dep n s.t s.ms.flatten).kn g W a ∧
  (∀ D ∈ mk, W.heap[D]? = some (.deferred (some [])) ∧ F.w0.heap.size ≤ D) ∧ mk.Nodup
section
variable {P : Program} {tt : TT} {con : FuncId → List AV → Ms → Option (List AV × AV)} {F : Fix}
theorem Hold.args {nn dep n k dep' n' : Nat} {t : Tr} {m : Mem} {g : Gh} {W : World} {a : Act} {ds : List Deferred} {rd : Option Nat} (h : Hold { F with n := nn, ds := ds, rd := rd } (· < k) (absS dep n t m).kn g W a) {vs : List AV} {us : List Value} (hr : RelVs g vs us) (hid : ∀ id ∈ midsVs vs, id < k) (hle : vs.length ≤ n') (hn' : n' ≤ 4 ^ dep') :
  Hold { F with n := n', ds := [], rd := none } (· < k) (absS dep' n' (argT dep' vs 0 .e) m).kn g W { tmps := us.toArray ++ Array.replicate (n' - us.toArray.size) undef, defers := [] } := by
 have hul := relVs_length hr
 have hsl : ∀ j v, (absS dep' n' (argT dep' vs 0 .e) m).kn (.s j) = some (.v v) → lookA j (argSl 0 vs) = some v := by
  intro j v hj
  rw [abs_kn] at hj
  simp only at hj
  by_cases hjn : j < n'
  ·rw [if_pos hjn, get_argT _ vs 0 .e j (by omega) (by omega), get_e] at hj
   cases hl : lookA j (argSl 0 vs) with
   | none => rw [hl] at hj; simp at hj
   | some x => rw [hl] at hj; simp only [Option.map_some, Option.some.injEq, Info.v.injEq] at hj; rw [hj]
  ·rw [if_neg hjn] at hj; simp at hj
 refine ⟨by simp; omega, rfl, fun j v hj => ?_, h.blks, h.inj, fun key x hx id hid' => ?_, h.mkn, h.sub, h.below, h.le, h.fresh, h.kfix⟩
 ·obtain ⟨_, u, hu, hrv, _⟩ := argSl_look vs us 0 hr j v (hsl j v hj)
  have hu' : us[j]? = some u := by simpa using hu
  have hlt : j < us.length := (List.getElem?_eq_some_iff.1 hu').1
  rw [Array.getD_eq_getD_getElem?, Array.getElem?_append_left (by simpa using hlt)]
  simpa [hu'] using hrv
 ·cases key with
  | m j => exact h.mids (.m j) x hx id hid'
  | s j =>
   cases x with
   | b _ => simp [absS, St.kn] at hx
   | v y => exact hid id ((argSl_lt vs 0 j y (hsl j y hx)).2 id hid')
theorem evR_ok {dep n : Nat} : ∀ c s b, evR dep n c s = some b → ∀ a W, IR F dep n s a W → a.eval c = .bool b := by
 intro c s b h a W hI
 obtain ⟨g, mk, _, _, hh, _⟩ := hI
 unfold evR at h
 split at h
 ·rename_i q hq
  split at h
  ·rename_i b' hb
   cases h
   have hev := compP_ev (m := s.ms.flatten) hq hb
   exact ev_rel hh _ c _ hev (opd_kn _ c)
  ·cases h
 ·cases h
theorem leafR_ok (hmx : P.follows .mixedOrders = true) (htt : ttB P tt = true) (hcon : ∀ f vs ms vs' r, con f vs ms = some (vs', r) → FnS P f vs' r) (fu fy : Nat) {dep n : Nat} (hn : n ≤ 4 ^ dep) :
  ∀ c s r, leafR P tt con fu fy dep n c s = r → r ≠ .no → ∀ a W, IR F dep n s a W → c.wpIn (fen none) 0 P (r.post (IR F dep n)) a W := by
 intro c s r h hr a W hI
 unfold leafR at h
 split at h
 ·rename_i id ops draw
  obtain ⟨g, mk, hwT, hwM, hh, hmk, hnd⟩ := hI
  split at h
  ·rename_i t' ms' k' wl' h1
   subst h
   have g1 := runF_sound hmx htt hcon fu dep n 0 _ s.t s.ms s.k [] .nor t' ms' k' wl' hn (Nat.zero_le _) hwT hwM h1
   refine wpIn_mono (F := fen none) (g1.2.keep (F := { F with n := n, ds := mk.map markD, rd := none }) rfl (.inl rfl) hh) ?_
   rintro e1 a1 W1 ⟨rfl, ga, ha, hka, hga⟩
   exact ⟨rfl, ga, mk, g1.1.wfT, g1.1.wfM, ha, fun D hD => ⟨hka.same _ _ (hmk D hD).1 rfl, (hmk D hD).2⟩, hnd⟩
  ·exact absurd h.symm hr
 ·rename_i gop p asg bd
  obtain ⟨g, mk, hwT, hwM, hh, hmk, hnd⟩ := hI
  split at h
  ·rename_i hchk
   simp only [Bool.and_eq_true, Nat.blt_eq] at hchk
   obtain ⟨⟨hp, hnda⟩, hndb⟩ := hchk
   split at h
   ·rename_i pg hpg
    split at h
    ·rename_i id hid
     unfold leafR2 at h
     split at h
     ·rename_i f caps hlk
      split at h
      ·rename_i ws hws
       split at h
       ·rename_i fn hfn
        split at h
        ·rename_i cb hcb
         unfold leafR3 at h
         split at h
         ·rename_i hchk2
          simp only [Bool.and_eq_true] at hchk2
          obtain ⟨⟨⟨hname, hlen⟩, hsz⟩, hres⟩ := hchk2
          have hlen : ws.length + 1 ≤ fn.ntmps := Nat.le_of_ble_eq_true hlen
          have hn' : fn.ntmps ≤ 4 ^ depOf fn.ntmps := depOf_ok (Nat.le_of_ble_eq_true hsz)
          have hcallB : callB P f = true := by simp [callB, hfn, hcb, hname]
          -- the closure
          have hev : a.eval gop = g.γ id := ev_rel hh _ gop _ (compP_ev (m := s.ms.flatten) hpg hid) (opd_kn _ gop)
          have hmem : (absS dep n s.t s.ms.flatten).kn (.m id) = some (.b (.clo f [] caps)) := by
           show (lookA id s.ms.flatten).map Info.b = _
           rw [look_flat, hlk]; rfl
          obtain ⟨us0, wv, hγ, hus0, hwv⟩ := hh.blks id _ hmem
          have hus0 : us0 = [] := hus0
          subst hus0
          have hwr := unSs_rel hws hwv
          have hwid : ∀ j ∈ midsVs ws, j < s.k := fun j hj => hh.mids (.m id) _ hmem j (List.mem_append_right _ (unSs_mids hws j hj))
          refine wpIn_rangeFunc (F := fen none) (fun fnid _ => ?_)
          obtain ⟨W1, hW1⟩ : ∃ W1, (W.alloc (.deferred (some []))).alloc (.loop { state := .ready, pending := none, fn := fnid, tmps := a.tmps, params := #[p], assign := asg, body := bd, defers := W.heap.size }) = W1 := ⟨_, rfl⟩
          refine ⟨W.heap.size + 1, [markD W.heap.size], W1, { target := .fn (.func f) wv.toArray, args := #[.func (.yield (W.heap.size + 1)) #[] #[]] }, W1, f, #[.func (.yield (W.heap.size + 1)) #[] #[]] ++ wv.toArray, W1, ?_, ?_, fun _ _ => trivial, enter_run hcallB, fun hh => by simp [fen, Fence.wide] at hh, ?_⟩
          ·rw [← hW1]; exact run_enterLoop_outer fnid a.tmps #[p] asg bd
          ·simp only [resolve, hev, hγ, Deferred.ofValue]
           simp [Act.eval]
          ·have hx1 : WX F.w0.heap.size W W1 := by rw [← hW1]; exact (WX.alloc _ _ _).trans (WX.alloc _ _ _)
           have hB : F.w0.heap.size ≤ W.heap.size := hh.below.size
           have hD1 : W1.heap[W.heap.size]? = some (.deferred (some [])) := by
            rw [← hW1]; exact (Below.heap_alloc _ _ _ (by simp)).trans (World.alloc_heap_new W _)
           have hL1 : W1.heap[W.heap.size + 1]? = some (.loop (recL fnid a.tmps p asg bd W.heap.size none)) := by
            rw [← hW1]; have := World.alloc_heap_new (w := W.alloc (.deferred (some []))) (.loop { state := .ready, pending := none, fn := fnid, tmps := a.tmps, params := #[p], assign := asg, body := bd, defers := W.heap.size }); rwa [World.size_alloc] at this
           have hmk1 : ∀ D ∈ W.heap.size :: mk, W1.heap[D]? = some (.deferred (some [])) := by
            intro D hD
            rcases List.mem_cons.1 hD with rfl | hD
            ·exact hD1
            ·have h1 := (hmk D hD).1
             rw [← hW1]
             exact (Below.heap_alloc _ _ _ (by have := (Array.getElem?_eq_some_iff.1 h1).1; simp; omega)).trans ((Below.heap_alloc _ _ _ (Array.getElem?_eq_some_iff.1 h1).1).trans h1)
           have hlm : W.heap.size + 1 ∉ W.heap.size :: mk := by
            intro hc
            have := hmk1 _ hc
            rw [hL1] at this
            cases this
           have hC1 := (hh.newId (.func (.yield (W.heap.size + 1)) #[] #[])).wx hx1
           have htok : (g.new s.k (.func (.yield (W.heap.size + 1)) #[] #[])).γ s.k = .func (.yield (W.heap.size + 1)) #[] #[] := by simp [Gh.new]
           have hgl : GLe (· < s.k) g (g.new s.k (.func (.yield (W.heap.size + 1)) #[] #[])) := ⟨FLe.refl _, fun j hj => by have : j ≠ s.k := Nat.ne_of_lt hj; simp [Gh.new, this]⟩
           have hrv : RelVs (g.new s.k (.func (.yield (W.heap.size + 1)) #[] #[])) (.c (.X s.k) :: ws) (.func (.yield (W.heap.size + 1)) #[] #[] :: wv) := by
            refine ⟨_, _, rfl, htok.symm, ?_⟩
            have key : ∀ {xs : List AV} {vv : List Value}, RelVs g xs vv → (∀ j ∈ midsVs xs, j < s.k) → RelVs (g.new s.k (.func (.yield (W.heap.size + 1)) #[] #[])) xs vv := by
             intro xs
             induction xs with
             | nil => intro vv h _; exact h
             | cons x xs ih =>
              rintro vv ⟨u, r, rfl, h1, h2⟩ hb
              exact ⟨u, r, rfl, RelV.mono hgl (fun j hj => hb j (List.mem_append_left _ hj)) h1, ih h2 (fun j hj => hb j (List.mem_append_right _ hj))⟩
            exact key hwr hwid
           have hvid : ∀ j ∈ midsVs (.c (.X s.k) :: ws), j < s.k + 1 := by
            intro j hj
            simp only [midsVs, List.mem_append] at hj
            rcases hj with hj | hj
            ·have : j = s.k := by simpa [AV.mids, C.mids] using hj
             omega
            ·exact Nat.lt_succ_of_lt (hwid j hj)
           have hA1 := hC1.args hrv hvid (by simpa using hlen) hn'
           have hwTi : wfT (depOf fn.ntmps) fn.ntmps (argT (depOf fn.ntmps) (.c (.X s.k) :: ws) 0 .e) (s.k + 1) := by
            intro j v hj hv i hi
            rw [get_argT _ _ 0 .e j (by simp; omega) (by omega), get_e] at hv
            split at hv
            ·rename_i u hu
             cases hv
             exact hvid i ((argSl_lt _ 0 j v hu).2 i hi)
            ·cases hv
           have hI0 : IY F (depOf fn.ntmps) fn.ntmps dep n s.t a (mk.map markD) s.k (W.heap.size + 1) (recL fnid a.tmps p asg bd W.heap.size) (W.heap.size :: mk) ⟨argT (depOf fn.ntmps) (.c (.X s.k) :: ws) 0 .e, s.ms, s.k + 1, none⟩ { tmps := (.func (.yield (W.heap.size + 1)) #[] #[] :: wv).toArray ++ Array.replicate (fn.ntmps - (.func (.yield (W.heap.size + 1)) #[] #[] :: wv).toArray.size) undef, defers := [] } W1 :=
            ⟨_, hwTi, hwM.le (Nat.le_succ _), hwT.le (Nat.le_succ _), hA1, hC1, Nat.lt_succ_self _, htok, hL1, hmk1⟩
           have hargs : (#[.func (.yield (W.heap.size + 1)) #[] #[]] ++ wv.toArray : Array Value) = (.func (.yield (W.heap.size + 1)) #[] #[] :: wv).toArray := by simp
           rw [hargs]
           refine callsIn_of_wp (F := fen none) hfn hcb trivial ?_
           have hgen := genR_sound (P := P) (Fe := fen none) (leafY_ok (F := F) (t0 := s.t) (mk := W.heap.size :: mk) (ds0 := mk.map markD) (a0 := a) (kt := s.k) (l := W.heap.size + 1) (fnid := fnid) (D := W.heap.size) hmx htt hcon fu hn' hn hp hnda hndb (by omega : F.w0.heap.size ≤ W.heap.size + 1) hlm) evY_ok fy cb
           have hfin : ∀ (s' : SY) (a' : Act) (W' : World), finR s s' = r → IY F (depOf fn.ntmps) fn.ntmps dep n s.t a (mk.map markD) s.k (W.heap.size + 1) (recL fnid a.tmps p asg bd W.heap.size) (W.heap.size :: mk) s' a' W' →
             a'.defers = [] ∧ ∃ v, (results fn a'.tmps).run P W' = .ok v W' ∧ rangePost (fen none) 0 P (W.heap.size + 1) (r.post (IR F dep n)) { a with defers := [markD W.heap.size] ++ a.defers } (.returned v) W' := by
            intro s' a' W' hf hI'
            obtain ⟨g', hwT', hwM', hw0', hA', hC', hkt', htok', hrec', hmk'⟩ := hI'
            refine ⟨hA'.defers, .tuple #[], ?_, ?_⟩
            ·have hre : fn.results = #[] := by simpa using hres
             simp [results, hre]
            ·have hlt : W.heap.size + 1 < W'.heap.size := (Array.getElem?_eq_some_iff.1 hrec').1
             refine ⟨s'.pd, _, run_endLoop (P := P) hrec' (by cases s'.pd <;> simp [recL]), ?_⟩
             have hw4 : WX F.w0.heap.size W' (W'.putObj (W.heap.size + 1) (.loop { recL fnid a.tmps p asg bd W.heap.size s'.pd with state := .exhausted })) := WX.putObj _ hrec' rfl (by omega)
             have hIR : IR F dep n ⟨s.t, s'.ms, s'.k⟩ { a with defers := [markD W.heap.size] ++ a.defers } (W'.putObj (W.heap.size + 1) (.loop { recL fnid a.tmps p asg bd W.heap.size s'.pd with state := .exhausted })) := by
              refine ⟨g', W.heap.size :: mk, hw0', hwM', ?_, fun D hD => ⟨?_, ?_⟩, ?_⟩
              ·have h5 := ((hC'.wx hw4).defer (markD W.heap.size :: mk.map markD) none)
               have h6 : a.defers = mk.map markD := hh.defers
               rw [h6]
               exact h5
              ·have hne : D ≠ W.heap.size + 1 := fun e => hlm (e ▸ hD)
               rw [World.putObj_heap_other hne]
               exact hmk' D hD
              ·rcases List.mem_cons.1 hD with rfl | hD
               ·exact hB
               ·exact (hmk D hD).2
              ·refine List.nodup_cons.2 ⟨fun hc => ?_, hnd⟩
               have := (Array.getElem?_eq_some_iff.1 (hmk _ hc).1).1
               omega
             unfold finR at hf
             split at hf
             ·rename_i hpd; rw [hpd] at hIR ⊢; subst hf; exact ⟨rfl, hIR⟩
             ·rename_i id' hpd; rw [hpd] at hIR ⊢; subst hf; exact wpIn_exit ⟨rfl, hIR⟩
             ·rename_i hpd; rw [hpd] at hIR ⊢; subst hf; exact wpIn_ret ⟨rfl, hIR⟩
             ·exact absurd hf.symm hr
           split at h
           ·rename_i s' hg
            refine wpIn_mono (F := fen none) (hgen _ _ hg (by simp) _ _ hI0) ?_
            rintro e a' W' ⟨rfl, hI'⟩
            exact hfin s' a' W' h hI'
           ·rename_i s' hg
            refine wpIn_mono (F := fen none) (hgen _ _ hg (by simp) _ _ hI0) ?_
            rintro e a' W' ⟨rfl, hI'⟩
            exact hfin s' a' W' h hI'
           ·exact absurd h.symm hr
         ·exact absurd h.symm hr
        ·exact absurd h.symm hr
       ·exact absurd h.symm hr
      ·exact absurd h.symm hr
     ·exact absurd h.symm hr
    ·exact absurd h.symm hr
   ·exact absurd h.symm hr
  ·exact absurd h.symm hr
 ·exact absurd h.symm hr
end
end Go.El

/- Ranges over functions, part 6: a contract out of a run. Own work; no condition. -/
namespace Go.El
open Go Go.RowKit
noncomputable def endR (tt : TT) (fn : Func) (dep : Nat) (r' : AV) : Res SR → Bool
 | .nor s => (match resAllF tt dep fn.ntmps s.t s.ms fn.results.toList with
  | some r => matA (fun id => lookA id s.ms.flatten) r r'
  | none => false)
 | .ret s => (match resAllF tt dep fn.ntmps s.t s.ms fn.results.toList with
  | some r => matA (fun id => lookA id s.ms.flatten) r r'
  | none => false)
 | _ => false
noncomputable def runRF (P : Program) (tt : TT) (con : FuncId → List AV → Ms → Option (List AV × AV)) (fu fy fr : Nat) (f : FuncId) (vs : List AV) (r' : AV) : Bool := match P.funcs[f]? with
 | some fn => (match fn.body with
  | some c => (match fn.name != "runtime.NumGoroutine" && Nat.ble vs.length fn.ntmps && Nat.ble fn.ntmps 4096 with
   | true => endR tt fn (depOf fn.ntmps) r' (gen (leafR P tt con fu fy (depOf fn.ntmps) fn.ntmps) (evR (depOf fn.ntmps) fn.ntmps) fr c ⟨argT (depOf fn.ntmps) vs 0 .e, [[]], 0⟩)
   | false => false)
  | none => false)
 | none => false
section
variable {P : Program} {tt : TT} {con : FuncId → List AV → Ms → Option (List AV × AV)}
theorem leaves_marks {fn : Func} {tmps : Array Value} {R : Ending → World → Prop} {B : Nat} : ∀ (mk : List Nat) (W : World), (∀ D ∈ mk, W.heap[D]? = some (.deferred (some [])) ∧ B ≤ D) → mk.Nodup →
  (∀ W', WX B W W' → ∃ v, (results fn tmps).run P W' = .ok v W' ∧ R (.returned v) W') → LeavesInM (fen none) 0 P fn tmps R (mk.map markD) .returning W
 | [], W, _, _, h => h W (WX.refl _ _)
 | D :: mk, W, hm, hnd, h => by
  have h0 := hm D (by simp)
  have hx := WX.putObj (B := B) (.deferred none) h0.1 rfl h0.2
  refine ⟨by simp, .inl ⟨D, _, rfl, run_takeDeferred h0.1, ?_⟩⟩
  refine leaves_marks mk _ (fun D' hD' => ⟨?_, (hm D' (by simp [hD'])).2⟩) (List.nodup_cons.1 hnd).2 (fun W' hx' => h W' (hx.trans hx'))
  have hne : D' ≠ D := fun e => (List.nodup_cons.1 hnd).1 (e ▸ hD')
  rw [World.putObj_heap_other hne]
  exact (hm D' (by simp [hD'])).1
theorem rf_cx (hmx : P.follows .mixedOrders = true) (htt : ttB P tt = true) (hcon : ∀ f vs ms vs' r, con f vs ms = some (vs', r) → FnS P f vs' r) (fu fy fr : Nat) {f : FuncId} {fn : Func} {c : Code} (hf : P.funcs[f]? = some fn) (hb : fn.body = some c) (hname : (fn.name != "runtime.NumGoroutine") = true) {vs : List AV} (hle : vs.length ≤ fn.ntmps) (hsz : fn.ntmps ≤ 4096)
  {s : SR} {rr : Res SR} (hrun : gen (leafR P tt con fu fy (depOf fn.ntmps) fn.ntmps) (evR (depOf fn.ntmps) fn.ntmps) fr c ⟨argT (depOf fn.ntmps) vs 0 .e, [[]], 0⟩ = rr) (hrr : rr = .nor s ∨ rr = .ret s) {r : AV} (hr : resAllF tt (depOf fn.ntmps) fn.ntmps s.t s.ms fn.results.toList = some r) (hm : midsVs vs = []) : CX P f vs [] 0 r s.ms.flatten s.k := by
 refine ⟨by simp [callB, hf, hb, hname], Nat.zero_le _, ?_⟩
 intro F g W us hn hul hh
 have hn4 : fn.ntmps ≤ 4 ^ depOf fn.ntmps := depOf_ok hsz
 refine callsIn_wide.1 (callsIn_of_wp_marks (n := 0) (F := fen none) hf hb trivial ?_)
 have hds : F.ds = [] := hh.defers.symm
 -- the frame
 have hsz' : (us.toArray ++ Array.replicate (fn.ntmps - us.toArray.size) undef).size = fn.ntmps := by simp; omega
 have hsl : ∀ j v, (absS (depOf fn.ntmps) fn.ntmps (argT (depOf fn.ntmps) vs 0 .e) []).kn (.s j) = some (.v v) → lookA j (argSl 0 vs) = some v := by
  intro j v hj
  rw [abs_kn] at hj
  simp only at hj
  by_cases hjn : j < fn.ntmps
  ·rw [if_pos hjn, get_argT _ vs 0 .e j (by omega) (by omega), get_e] at hj
   cases hl : lookA j (argSl 0 vs) with
   | none => rw [hl] at hj; simp at hj
   | some x => rw [hl] at hj; simp only [Option.map_some, Option.some.injEq, Info.v.injEq] at hj; rw [hj]
  ·rw [if_neg hjn] at hj; simp at hj
 have h0 : Hold { F with n := fn.ntmps, ds := [].map markD, rd := none } (· < 0) (absS (depOf fn.ntmps) fn.ntmps (argT (depOf fn.ntmps) vs 0 .e) ([[]] : Ms).flatten).kn g W { tmps := us.toArray ++ Array.replicate (fn.ntmps - us.toArray.size) undef, defers := [] } := by
  refine ⟨hsz', rfl, fun j v hj => ?_, fun id b hb => ?_, fun id id' b b' kk h1 => ?_, fun key x hx id hid => ?_, fun id x hx => ?_, hh.sub, hh.below, hh.le, hh.fresh, hh.kfix⟩
  ·have hl := hsl j v hj
   have h1 := hh.slots j v (by simp [St.kn, hl])
   have hlt := (argSl_lt vs 0 j v hl).1
   have : (us.toArray ++ Array.replicate (fn.ntmps - us.toArray.size) undef).getD j undef = us.toArray.getD j undef := by
    rw [Array.getD_eq_getD_getElem?, Array.getD_eq_getD_getElem?, Array.getElem?_append_left (by simp; omega)]
   rw [this]
   exact h1
  ·simp [absS, St.kn, lookA] at hb
  ·simp [absS, St.kn, lookA] at h1
  ·cases key with
   | m j => simp [absS, St.kn, lookA] at hx
   | s j =>
    cases x with
    | b _ => simp [absS, St.kn] at hx
    | v y =>
     have := (argSl_lt vs 0 j y (hsl j y hx)).2 id hid
     rw [hm] at this
     cases this
  ·simp [absS, St.kn, lookA] at hx
 have hwT0 : wfT (depOf fn.ntmps) fn.ntmps (argT (depOf fn.ntmps) vs 0 .e) 0 := by
  intro j v hj hv id hid
  rw [get_argT _ vs 0 .e j (by omega) (by omega), get_e] at hv
  split at hv
  ·rename_i u hu
   cases hv
   have := (argSl_lt vs 0 j v hu).2 id hid
   rw [hm] at this
   cases this
  ·cases hv
 have hI0 : IR F (depOf fn.ntmps) fn.ntmps ⟨argT (depOf fn.ntmps) vs 0 .e, [[]], 0⟩ { tmps := us.toArray ++ Array.replicate (fn.ntmps - us.toArray.size) undef, defers := [] } W :=
  ⟨g, [], hwT0, fun id b hb => (by simp [lookS, lookF] at hb), h0, fun D hD => (by cases hD), List.nodup_nil⟩
 have hfin : ∀ (a' : Act) (W' : World), IR F (depOf fn.ntmps) fn.ntmps s a' W' → LeavesInM (fen none) 0 P fn a'.tmps (fun e W' => ∃ v g', e = .returned v ∧ Hold { F with n := 1 } (· < s.k) (St.kn ⟨[(0, r)], s.ms.flatten, 0, []⟩) g' W' (actN [v])) a'.defers .returning W' := by
  intro a' W' hI
  obtain ⟨g', mk, hwT, hwM, h', hmk, hnd⟩ := hI
  have hd : a'.defers = mk.map markD := h'.defers
  rw [hd]
  refine leaves_marks (B := F.w0.heap.size) mk W' hmk hnd ?_
  intro W2 hx
  have h2 := h'.wx hx
  have hra := resAllF_eq hr
  obtain ⟨u, hu, hrel⟩ := run_results (P := P) (tt := tt) (st := absS (depOf fn.ntmps) fn.ntmps s.t s.ms.flatten) htt h2 (fn := fn) (rs := fn.results.toList) (by simp) hra
  have hmr := resAll_mids (tt := tt) h2 hra
  refine ⟨u, hu, u, g', rfl, ⟨rfl, hds.symm, ?_, ?_, ?_, ?_, ?_, h2.sub, h2.below, h2.le, h2.fresh, h2.kfix⟩⟩
  ·intro t x hx
   simp only [St.kn, lookA, Option.map_eq_some_iff] at hx
   obtain ⟨y, hy, he⟩ := hx
   cases he
   split at hy
   ·rename_i e
    subst e
    cases hy
    simpa [actN] using hrel
   ·cases hy
  ·intro id b hb; exact h2.blks id b hb
  ·intro id id' b b' kk hb hb' h1 h3; exact h2.inj id id' b b' kk hb hb' h1 h3
  ·intro key x hx id hid
   cases key with
   | s t =>
    simp only [St.kn, lookA, Option.map_eq_some_iff] at hx
    obtain ⟨y, hy, he⟩ := hx
    subst he
    split at hy
    ·cases hy; exact hmr id hid
    ·cases hy
   | m j => exact h2.mids (.m j) x hx id hid
  ·intro id x hx; exact h2.mkn id x hx
 have hgen := genR_sound (P := P) (Fe := fen none) (leafR_ok (F := F) hmx htt hcon fu fy hn4) evR_ok fr c _ rr hrun (by rcases hrr with e | e <;> rw [e] <;> simp) _ W hI0
 refine wpIn_mono (F := fen none) hgen ?_
 intro e a' W' hp
 rcases hrr with e1 | e1
 ·rw [e1] at hp
  obtain ⟨rfl, hI⟩ := hp
  exact hfin a' W' hI
 ·rw [e1] at hp
  obtain ⟨rfl, hI⟩ := hp
  exact hfin a' W' hI
theorem fs_rf (hmx : P.follows .mixedOrders = true) (htt : ttB P tt = true) (hcon : ∀ f vs ms vs' r, con f vs ms = some (vs', r) → FnS P f vs' r) (fu fy fr : Nat) {f : FuncId} {vs : List AV} {r' : AV}
  (h : runRF P tt con fu fy fr f vs r' = true) (hm : midsVs vs = []) (hr : r'.mids = []) : FnS P f vs r' := by
 unfold runRF at h
 split at h
 ·rename_i fn hf
  split at h
  ·rename_i c hb
   split at h
   ·rename_i hchk
    simp only [Bool.and_eq_true] at hchk
    obtain ⟨⟨hname, hlen⟩, hsz⟩ := hchk
    unfold endR at h
    split at h
    ·rename_i s hrun
     split at h
     ·rename_i r hrr
      exact cx_fz (rf_cx hmx htt hcon fu fy fr hf hb hname (Nat.le_of_ble_eq_true hlen) (Nat.le_of_ble_eq_true hsz) hrun (.inl rfl) hrr hm) hm hr h
     ·cases h
    ·rename_i s hrun
     split at h
     ·rename_i r hrr
      exact cx_fz (rf_cx hmx htt hcon fu fy fr hf hb hname (Nat.le_of_ble_eq_true hlen) (Nat.le_of_ble_eq_true hsz) hrun (.inr rfl) hrr hm) hm hr h
     ·cases h
    ·cases h
   ·cases h
  ·cases h
 ·cases h
end
end Go.El

/- Closed calls as a table. Own work; no condition. -/
namespace Go.El
open Go Go.Proofs
abbrev Cl := FuncId × List AV × AV
noncomputable def conL (l : List Cl) (f : FuncId) (vs : List AV) (ms : Ms) : Option (List AV × AV) := List.rec (motive := fun _ => Option (List AV × AV)) (conP f vs ms)
 (fun e _ ih => match Nat.beq f e.1 with
  | true => (match matVs (fun id => lookS id ms) vs e.2.1 with
   | true => some (e.2.1, e.2.2)
   | false => ih)
  | false => ih) l
def AllS : List Cl → Prop
 | [] => True
 | e :: r => FnS Tryz.prog e.1 e.2.1 e.2.2 ∧ AllS r
theorem conL_ok : ∀ {l : List Cl}, AllS l → ∀ f vs ms vs' r, conL l f vs ms = some (vs', r) → FnS Tryz.prog f vs' r
 | [], _, f, vs, ms, vs', r, h => conP_ok f vs ms vs' r h
 | e :: l, hl, f, vs, ms, vs', r, h => by
  have h' : (match Nat.beq f e.1 with
   | true => (match matVs (fun id => lookS id ms) vs e.2.1 with
    | true => some (e.2.1, e.2.2)
    | false => conL l f vs ms)
   | false => conL l f vs ms) = some (vs', r) := h
  split at h'
  ·rename_i hf
   have hf := Nat.eq_of_beq_eq_true hf
   split at h'
   ·simp only [Option.some.injEq, Prod.mk.injEq] at h'
    obtain ⟨rfl, rfl⟩ := h'
    rw [hf]
    exact hl.1
   ·exact conL_ok hl.2 f vs ms vs' r h'
  ·exact conL_ok hl.2 f vs ms vs' r h'
theorem cl_fz {l : List Cl} (hl : AllS l) {f : FuncId} {vs : List AV} {r' : AV} (h : endIs r' (callF Tryz.prog TTab (conL l) (runF Tryz.prog TTab (conL l) 100000) f vs [] 0) = true) (hm : midsVs vs = []) (hr : r'.mids = []) : FnS Tryz.prog f vs r' :=
 fs_fz MX TT_ok (conL_ok hl) 100000 h hm hr
theorem cl_rf {l : List Cl} (hl : AllS l) {f : FuncId} {vs : List AV} {r' : AV} (h : runRF Tryz.prog TTab (conL l) 100000 200 200 f vs r' = true) (hm : midsVs vs = []) (hr : r'.mids = []) : FnS Tryz.prog f vs r' :=
 fs_rf MX TT_ok (conL_ok hl) 100000 200 200 h hm hr
def qI (n : Int) : Rat := Rat.ofInt n
abbrev uP (l : List Rat) : AV := .c (.S .q l)
abbrev zP (l : List Int) : AV := .c (.S .z l)
abbrev zzP (l : List (List Int)) : AV := .c (.S (.sl .z) l)
abbrev pL (l : List (List Int × Int)) : AV := .c (.S (.pr (.sl U64) U64) l)
abbrev PQ : Int := 1073741827
end Go.El
