/- The fast interpreter, part 10: code is gone through soundly; contracts out of runs. Own work; no condition. -/
import Derived.Test.YtkkccchkmcjcpaaGreatB9
import Derived.Test.YtkkccchkmcjcpaaGreatB7
import Derived.Test.YtkkccchkmcjcpaaGreatB3
import Derived.Test.YtkkccchkmcjcpaaGreatB6
namespace Go.El
open Go Go.RowKit

section
variable {P : Program} {tt : TT} {con : FuncId → List AV → Ms → Option (List AV × AV)}

theorem wpIn_loop_x {Fe : Fence} {n : Nat} {c : Code} {α : Type} (I : α → Act → World → Prop) (μ : α → Nat) {Q : Exit → Act → World → Prop} (x : α) {a : Act} {w : World} (h₀ : I x a w)
    (round : ∀ x a w, I x a w → c.wpIn Fe n P (Exit.then (fun a' w' => ∃ x', I x' a' w' ∧ μ x' < μ x) Q) a w) : (Code.loop c).wpIn Fe n P Q a w := by
  intro b k cs hro hb hr
  have key : ∀ j x a w, μ x = j → I x a w →
      ∃ e a' w', Q e a' w' ∧ ArrivesIn (Machine.fenced P Fe) P (lone (b.atR a (.code c :: .inLoop c :: k)) cs w) b k cs e a' w' := by
    intro j
    induction j using Nat.strongRecOn with
    | _ j ih =>
      intro x a w hn hI
      obtain ⟨e, a₁, w₁, hq, harr⟩ := round x a w hI b (.inLoop c :: k) cs hro hb hr
      cases e with
      | normal =>
        obtain ⟨x', hI₁, hlt⟩ := hq
        obtain ⟨e₂, a₂, w₂, hq₂, harr₂⟩ := ih (μ x') (hn ▸ hlt) x' a₁ w₁ rfl hI₁
        exact ⟨e₂, a₂, w₂, hq₂, .of_steps (StepsIn.trans harr (.one (fenced_calm hb hr rfl) stepR_inLoop)) harr₂⟩
      | exit id => exact ⟨_, a₁, w₁, hq, .pass (x := .inLoop c) rfl (fun _ _ => .inl (by simp)) harr⟩
      | goto l => exact ⟨_, a₁, w₁, hq, .pass (x := .inLoop c) rfl (fun _ _ => .inl (by simp)) harr⟩
      | ret => exact ⟨_, a₁, w₁, hq, .pass (x := .inLoop c) rfl (fun _ _ => .inl (by simp)) harr⟩
      | panic ch => exact ⟨_, a₁, w₁, hq, .pass (x := .inLoop c) rfl (fun _ _ => .inl (by simp)) harr⟩
      | outgrown => exact ⟨_, a₁, w₁, hq, .pass (x := .inLoop c) rfl (fun _ _ => .inl (by simp)) harr⟩
  obtain ⟨e, a', w', hq, harr⟩ := key _ x a w rfl h₀
  exact ⟨e, a', w', hq, .of_steps (.one (fenced_calm hb hr rfl) stepR_loop) harr⟩

theorem regF_gone (hmx : P.follows .mixedOrders = true) (htt : ttB P tt = true) {cal : CallG} (hcal : CalOk P cal) {dep n ke : Nat} (hn : n ≤ 4 ^ dep) {ops : Array Oper} {draw : Bool} {gs : List GI} {ps : Option (List (Nat × Nat))} (hc : compReg dep n ops.toList draw = some (gs, ps)) {t : Tr} {ms : Ms} {k : Nat} {wl : List Nat} (hke : ke ≤ k) (hwT : wfT dep n t k) (hwM : wfM ms k) {t' : Tr} {ms' : Ms} {k' : Nat} {wl' : List Nat} {fs : List Ft}
    (h : regD cal tt n ke gs t ms k wl [] = .ok t' ms' k' wl' fs) (hp : ∀ l, ps = some l → pairOk fs.reverse l = true) (id : Nat) : GoneF P dep n ke (.region id ops draw) t ms k wl .nor t' ms' k' wl' := by
  unfold compReg at hc
  split at hc
  · rename_i gs' hgs
    have hgg : gs' = gs := by
      split at hc
      · cases hc; rfl
      · split at hc
        · cases hc; rfl
        · cases hc
    subst hgg
    obtain ⟨ds, cl, kk, fk, hS, ⟨hc1, hc2⟩, hfs, hfl, hcov, hL⟩ := regD_steps htt hcal hn ops.toList 0 h hgs (by simp) hke hwT hwM
    refine ⟨hL, hL.le, fun F hF hnd g W a hh => ?_⟩
    subst hF
    refine steps_wp hmx hS ?_ (fun g W a h' => ⟨rfl, g, h'⟩) hh hnd.region
    intro hd
    subst hd
    simp only at hc
    split at hc
    · rename_i hord
      cases hc
      have ho := ordB_spec hord
      refine ⟨ho.1, ?_⟩
      have hpk := hp _ rfl
      rw [hfs] at hpk
      simp only [List.append_nil, List.reverse_reverse] at hpk
      intro i j hij hj key hkey
      have hds : ds.length = ops.size := by simpa using hS.len
      have hkl : kk.length = ops.size := by omega
      have hfl' : fk.length = ops.size := by simpa using hfl
      have get : ∀ x, x < ops.size → ∃ o a f, ops.toList[x]? = some o ∧ kk[x]? = some a ∧ fk[x]? = some f ∧ (∀ key ∈ rkeysOf (ds.getD x ([], [])).1, key ∈ a.1) ∧ (∀ key ∈ keysOf (ds.getD x ([], [])).2, key ∈ a.2) := by
        intro x hx
        have h1 : x < kk.length := by omega
        have h2 : x < ds.length := by omega
        have h3 : x < ops.toList.length := by simpa using hx
        have h4 : x < fk.length := by omega
        refine ⟨_, _, _, List.getElem?_eq_getElem h3, List.getElem?_eq_getElem h1, List.getElem?_eq_getElem h4, ?_⟩
        rw [getD_map_range ds _ x h2]
        exact hc2 x h2 h1
      obtain ⟨oi, ai, fi, hoi, hai, hfi, hri, hwi⟩ := get i (by omega)
      obtain ⟨oj, aj, fj, hoj, haj, hfj, hrj, hwj⟩ := get j hj
      obtain ⟨⟨ci1, ci2⟩, hti⟩ := hcov i ai oi fi hai hoi hfi
      obtain ⟨⟨cj1, cj2⟩, htj⟩ := hcov j aj oj fj haj hoj hfj
      have hslot : clash (slotK ops.toList oi) (slotK ops.toList oj) = true → Anc ops i j := by
        intro hcl
        refine ho.2 i j _ _ hij hj ?_ ?_ hcl
        · rw [List.getElem?_map, hoi]; rfl
        · rw [List.getElem?_map, hoj]; rfl
      have hmem : ∀ x, ((FtW fi x ∧ FtW fj x) ∨ (FtW fi x ∧ FtR fj x) ∨ (FtR fi x ∧ FtW fj x)) → Anc ops i j := by
        intro x hx
        obtain ⟨hml, hms⟩ := masks_spec (ops := ops) ops.toList [] (by simp) (by simp) (fun k hk => by simp at hk)
        have hjm : j < (masks ops.toList []).length := by omega
        by_cases hb : (masks ops.toList [])[j].testBit i = true
        · exact hms j hjm i hb
        · exfalso
          have hti' : touches oi = true := by
            cases hh : touches oi with
            | true => rfl
            | false => rw [hti hh] at hx; simp [FtW, FtR] at hx
          have htj' : touches oj = true := by
            cases hh : touches oj with
            | true => rfl
            | false => rw [htj hh] at hx; simp [FtW, FtR] at hx
          have hpm := pairsA_mem (opsL := ops.toList) hoi hti' (ml := masks ops.toList []) (os := ops.toList) (j0 := 0) (a := j) (m := (masks ops.toList [])[j]) (List.getElem?_eq_getElem hjm) hoj htj' (by omega) (by simpa using hb)
          have hcf := pairOk_mem hpk i (0 + j) hpm
          have e1 : fk.getD i .n = fi := by rw [List.getD_eq_getElem?_getD, hfi]; rfl
          have e2 : fk.getD (0 + j) .n = fj := by rw [Nat.zero_add, List.getD_eq_getElem?_getD, hfj]; rfl
          rw [e1, e2] at hcf
          obtain ⟨n1, n2, n3⟩ := cfl_no hcf x
          rcases hx with hx | hx | hx
          · exact n1 hx
          · exact n2 hx
          · exact n3 hx
      cases key with
      | s x =>
        refine hslot ?_
        rcases hkey with ⟨k1, k2⟩ | ⟨k1, k2⟩ | ⟨k1, k2⟩
        · have a1 := ci2 _ (hwi _ k1)
          have a2 := cj2 _ (hwj _ k2)
          simp only [clash, meetB_of a1 a2, Bool.true_or]
        · have a1 := ci2 _ (hwi _ k1)
          have a2 := cj1 _ (hrj _ k2)
          simp only [clash, meetB_of a1 a2, Bool.true_or, Bool.or_true]
        · have a1 := ci1 _ (hri _ k1)
          have a2 := cj2 _ (hwj _ k2)
          simp only [clash, meetB_of a1 a2, Bool.or_true]
      | m x =>
        refine hmem x ?_
        rcases hkey with ⟨k1, k2⟩ | ⟨k1, k2⟩ | ⟨k1, k2⟩
        · exact .inl ⟨ci2 _ (hwi _ k1), cj2 _ (hwj _ k2)⟩
        · exact .inr (.inl ⟨ci2 _ (hwi _ k1), cj1 _ (hrj _ k2)⟩)
        · exact .inr (.inr ⟨ci1 _ (hri _ k1), cj2 _ (hwj _ k2)⟩)
    · cases hc
  · cases hc

theorem runF_zero (dep n ke : Nat) (c : Code) (t : Tr) (ms : Ms) (k : Nat) (wl : List Nat) : runF P tt con 0 dep n ke c t ms k wl = .no := rfl
theorem RcIs_no {e : Ex} {t : Tr} {ms : Ms} {k : Nat} {wl : List Nat} (h : RcIs .no e t ms k wl) : False := by cases e <;> simp [RcIs] at h
theorem RcIs.inj {r : Rc} {e e' : Ex} {t t' : Tr} {ms ms' : Ms} {k k' : Nat} {wl wl' : List Nat} (h : RcIs r e t ms k wl) (h' : RcIs r e' t' ms' k' wl') : e = e' ∧ t = t' ∧ ms = ms' ∧ k = k' ∧ wl = wl' := by
  cases e <;> cases e' <;> simp only [RcIs] at h h' <;> rw [h] at h' <;> simp at h' <;> simp [h']
theorem RcIs.get {r : Rc} : r = .no ∨ ∃ e t ms k wl, RcIs r e t ms k wl := by
  cases r with
  | no => exact .inl rfl
  | nor t ms k wl => exact .inr ⟨.nor, t, ms, k, wl, rfl⟩
  | exi id t ms k wl => exact .inr ⟨.exi id, t, ms, k, wl, rfl⟩
  | ret t ms k wl => exact .inr ⟨.ret, t, ms, k, wl, rfl⟩

theorem runF_sound (hmx : P.follows .mixedOrders = true) (htt : ttB P tt = true) (hcon : ∀ f vs ms vs' r, con f vs ms = some (vs', r) → FnS P f vs' r) :
    ∀ (f dep n ke : Nat) (c : Code) (t : Tr) (ms : Ms) (k : Nat) (wl : List Nat) (e : Ex) (t' : Tr) (ms' : Ms) (k' : Nat) (wl' : List Nat), n ≤ 4 ^ dep → ke ≤ k → wfT dep n t k → wfM ms k → RcIs (runF P tt con f dep n ke c t ms k wl) e t' ms' k' wl' → GoneF P dep n ke c t ms k wl e t' ms' k' wl' := by
  intro f
  induction f using Nat.strongRecOn with
  | _ f0 ihs =>
  cases f0 with
  | zero => intro dep n ke c t ms k wl e t' ms' k' wl' _ _ _ _ h; exact (RcIs_no h).elim
  | succ f =>
    have ih := ihs f (by omega)
    intro dep n ke c t ms k wl e t' ms' k' wl' hn hke hwT hwM h
    cases c with
    | skip =>
      have h0 : RcIs (.nor t ms k wl) .nor t ms k wl := rfl
      obtain ⟨rfl, rfl, rfl, rfl, rfl⟩ := RcIs.inj h0 h
      exact ⟨Left.refl hwT hwM, Nat.le_refl _, fun F hF hnd g W a hh => wpIn_skip ⟨rfl, g, hh⟩⟩
    | exit id =>
      have h0 : RcIs (.exi id t ms k wl) (.exi id) t ms k wl := rfl
      obtain ⟨rfl, rfl, rfl, rfl, rfl⟩ := RcIs.inj h0 h
      exact ⟨Left.refl hwT hwM, Nat.le_refl _, fun F hF hnd g W a hh => wpIn_exit ⟨rfl, g, hh⟩⟩
    | ret =>
      have h0 : RcIs (.ret t ms k wl) .ret t ms k wl := rfl
      obtain ⟨rfl, rfl, rfl, rfl, rfl⟩ := RcIs.inj h0 h
      exact ⟨Left.refl hwT hwM, Nat.le_refl _, fun F hF hnd g W a hh => wpIn_ret ⟨rfl, g, hh⟩⟩
    | seq x y =>
      have h1 : RcIs (match runF P tt con f dep n ke x t ms k wl with | .nor t1 ms1 k1 wl1 => runF P tt con f dep n ke y t1 ms1 k1 wl1 | r => r) e t' ms' k' wl' := h
      rcases RcIs.get (r := runF P tt con f dep n ke x t ms k wl) with hr | ⟨e1, t1, ms1, k1, wl1, hr⟩
      · rw [hr] at h1; exact (RcIs_no h1).elim
      · have g1 := ih _ _ _ _ _ _ _ _ _ _ _ _ _ hn hke hwT hwM hr
        cases e1 with
        | nor =>
          simp only [RcIs] at hr
          rw [hr] at h1
          have g2 := ih _ _ _ _ _ _ _ _ _ _ _ _ _ hn (Nat.le_trans hke g1.1.le) g1.1.wfT g1.1.wfM h1
          refine ⟨g1.1.trans g2.1, Nat.le_trans g1.2.1 g2.2.1, fun F hF hnd g W a hh => wpIn_seq (wpIn_mono (g1.2.2 F hF hnd.seq.1 g W a hh) ?_)⟩
          rintro e' a' W' ⟨rfl, g', h'⟩
          exact g2.2.2 F hF hnd.seq.2 g' W' a' h'
        | exi id =>
          simp only [RcIs] at hr
          rw [hr] at h1
          obtain ⟨rfl, rfl, rfl, rfl, rfl⟩ := RcIs.inj (e := .exi id) rfl h1
          refine ⟨g1.1, g1.2.1, fun F hF hnd g W a hh => wpIn_seq (wpIn_mono (g1.2.2 F hF hnd.seq.1 g W a hh) ?_)⟩
          rintro e' a' W' ⟨rfl, g', h'⟩
          exact ⟨rfl, g', h'⟩
        | ret =>
          simp only [RcIs] at hr
          rw [hr] at h1
          obtain ⟨rfl, rfl, rfl, rfl, rfl⟩ := RcIs.inj (e := .ret) rfl h1
          refine ⟨g1.1, g1.2.1, fun F hF hnd g W a hh => wpIn_seq (wpIn_mono (g1.2.2 F hF hnd.seq.1 g W a hh) ?_)⟩
          rintro e' a' W' ⟨rfl, g', h'⟩
          exact ⟨rfl, g', h'⟩
    | cond cnd x y =>
      have h1 : RcIs (match compP dep n cnd with
        | some p => (match evP t p with
          | some (.c (.B b)) => (match b with
            | true => runF P tt con f dep n ke x t ms k wl
            | false => runF P tt con f dep n ke y t ms k wl)
          | _ => .no)
        | none => .no) e t' ms' k' wl' := h
      split at h1
      · rename_i p hp
        split at h1
        · rename_i b hb
          have hev := compP_ev (m := ms.flatten) hp hb
          split at h1
          · have g1 := ih _ _ _ _ _ _ _ _ _ _ _ _ _ hn hke hwT hwM h1
            refine ⟨g1.1, g1.2.1, fun F hF hnd g W a hh => ?_⟩
            have hr : RelV g (.c (.B true)) (a.eval cnd) := ev_rel hh _ cnd _ hev (opd_kn _ cnd)
            exact wpIn_cond_split hr (fun _ => g1.2.2 F hF hnd.cond.1 g W a hh) (fun e => by cases e)
          · have g1 := ih _ _ _ _ _ _ _ _ _ _ _ _ _ hn hke hwT hwM h1
            refine ⟨g1.1, g1.2.1, fun F hF hnd g W a hh => ?_⟩
            have hr : RelV g (.c (.B false)) (a.eval cnd) := ev_rel hh _ cnd _ hev (opd_kn _ cnd)
            exact wpIn_cond_split hr (fun e => by cases e) (fun _ => g1.2.2 F hF hnd.cond.2 g W a hh)
        · exact (RcIs_no h1).elim
      · exact (RcIs_no h1).elim
    | block id x =>
      have h1 : RcIs (match runF P tt con f dep n ke x t ms k wl with
        | .exi id' t1 ms1 k1 wl1 => (match Nat.beq id' id with | true => .nor t1 ms1 k1 wl1 | false => .exi id' t1 ms1 k1 wl1)
        | r => r) e t' ms' k' wl' := h
      rcases RcIs.get (r := runF P tt con f dep n ke x t ms k wl) with hr | ⟨e1, t1, ms1, k1, wl1, hr⟩
      · rw [hr] at h1; exact (RcIs_no h1).elim
      · have g1 := ih _ _ _ _ _ _ _ _ _ _ _ _ _ hn hke hwT hwM hr
        cases e1 with
        | nor =>
          simp only [RcIs] at hr
          rw [hr] at h1
          obtain ⟨rfl, rfl, rfl, rfl, rfl⟩ := RcIs.inj (e := .nor) rfl h1
          refine ⟨g1.1, g1.2.1, fun F hF hnd g W a hh => wpIn_block (wpIn_mono (g1.2.2 F hF hnd.block g W a hh) ?_)⟩
          rintro e' a' W' ⟨rfl, g', h'⟩
          exact ⟨rfl, g', h'⟩
        | exi id' =>
          simp only [RcIs] at hr
          rw [hr] at h1
          dsimp only at h1
          split at h1
          · rename_i hid
            have hid : id' = id := Nat.eq_of_beq_eq_true hid
            subst hid
            obtain ⟨rfl, rfl, rfl, rfl, rfl⟩ := RcIs.inj (e := .nor) rfl h1
            refine ⟨g1.1, g1.2.1, fun F hF hnd g W a hh => wpIn_block (wpIn_mono (g1.2.2 F hF hnd.block g W a hh) ?_)⟩
            rintro e' a' W' ⟨rfl, g', h'⟩
            simp only [Ex.toE, Exit.inBlock, if_true]
            exact ⟨trivial, g', h'⟩
          · rename_i hid
            have hne : id' ≠ id := by intro e'; subst e'; rw [Nat.beq_refl] at hid; cases hid
            obtain ⟨rfl, rfl, rfl, rfl, rfl⟩ := RcIs.inj (e := .exi id') rfl h1
            refine ⟨g1.1, g1.2.1, fun F hF hnd g W a hh => wpIn_block (wpIn_mono (g1.2.2 F hF hnd.block g W a hh) ?_)⟩
            rintro e' a' W' ⟨rfl, g', h'⟩
            simp only [Ex.toE, Exit.inBlock, hne, if_false]
            exact ⟨trivial, g', h'⟩
        | ret =>
          simp only [RcIs] at hr
          rw [hr] at h1
          obtain ⟨rfl, rfl, rfl, rfl, rfl⟩ := RcIs.inj (e := .ret) rfl h1
          refine ⟨g1.1, g1.2.1, fun F hF hnd g W a hh => wpIn_block (wpIn_mono (g1.2.2 F hF hnd.block g W a hh) ?_)⟩
          rintro e' a' W' ⟨rfl, g', h'⟩
          exact ⟨rfl, g', h'⟩
    | loop x =>
      have step : ∀ f' t0 ms0 k0 wl0, RcIs (runF P tt con (f' + 1) dep n ke (.loop x) t0 ms0 k0 wl0) e t' ms' k' wl' → RcIs (match runF P tt con f' dep n ke x t0 ms0 k0 wl0 with | .nor t1 ms1 k1 wl1 => runF P tt con f' dep n ke (.loop x) t1 ms1 k1 wl1 | r => r) e t' ms' k' wl' := fun _ _ _ _ _ h => h
      have hleft : ∀ f', f' ≤ f + 1 → ∀ t0 ms0 k0 wl0, ke ≤ k0 → wfT dep n t0 k0 → wfM ms0 k0 → RcIs (runF P tt con f' dep n ke (.loop x) t0 ms0 k0 wl0) e t' ms' k' wl' → Left ke dep n t0 ms0 k0 wl0 t' ms' k' wl' := by
        intro f'
        induction f' with
        | zero => intro _ t0 ms0 k0 wl0 _ _ _ h0; exact (RcIs_no h0).elim
        | succ f' ihf =>
          intro hf t0 ms0 k0 wl0 hk0 hT0 hM0 h0
          have h1 := step f' t0 ms0 k0 wl0 h0
          rcases RcIs.get (r := runF P tt con f' dep n ke x t0 ms0 k0 wl0) with hr | ⟨e1, t1, ms1, k1, wl1, hr⟩
          · rw [hr] at h1; exact (RcIs_no h1).elim
          · have g1 := ihs f' (by omega) _ _ _ _ _ _ _ _ _ _ _ _ _ hn hk0 hT0 hM0 hr
            cases e1 with
            | nor =>
              simp only [RcIs] at hr
              rw [hr] at h1
              exact g1.1.trans (ihf (by omega) t1 ms1 k1 wl1 (Nat.le_trans hk0 g1.1.le) g1.1.wfT g1.1.wfM h1)
            | exi id =>
              simp only [RcIs] at hr
              rw [hr] at h1
              obtain ⟨rfl, rfl, rfl, rfl, rfl⟩ := RcIs.inj (e := .exi id) rfl h1
              exact g1.1
            | ret =>
              simp only [RcIs] at hr
              rw [hr] at h1
              obtain ⟨rfl, rfl, rfl, rfl, rfl⟩ := RcIs.inj (e := .ret) rfl h1
              exact g1.1
      have hL := hleft (f + 1) (Nat.le_refl _) t ms k wl hke hwT hwM h
      refine ⟨hL, hL.le, fun F hF hnd g W a hh => ?_⟩
      refine wpIn_loop_x (fun (y : Nat × (Tr × Ms) × Nat × List Nat) a W => y.1 ≤ f + 1 ∧ ke ≤ y.2.2.1 ∧ wfT dep n y.2.1.1 y.2.2.1 ∧ wfM y.2.1.2 y.2.2.1 ∧ RcIs (runF P tt con y.1 dep n ke (.loop x) y.2.1.1 y.2.1.2 y.2.2.1 y.2.2.2) e t' ms' k' wl' ∧ ∃ g, Hold F (· < y.2.2.1) (absS dep n y.2.1.1 y.2.1.2.flatten).kn g W a) (fun y => y.1) (f + 1, (t, ms), k, wl) ⟨Nat.le_refl _, hke, hwT, hwM, h, g, hh⟩ ?_
      rintro ⟨f', ⟨t0, ms0⟩, k0, wl0⟩ a W ⟨hf, hk0, hT0, hM0, h0, g, hh⟩
      simp only at hf hk0 hT0 hM0 h0 hh ⊢
      cases f' with
      | zero => exact (RcIs_no h0).elim
      | succ f' =>
        have h1 := step f' t0 ms0 k0 wl0 h0
        rcases RcIs.get (r := runF P tt con f' dep n ke x t0 ms0 k0 wl0) with hr | ⟨e1, t1, ms1, k1, wl1, hr⟩
        · rw [hr] at h1; exact (RcIs_no h1).elim
        · have g1 := ihs f' (by omega) _ _ _ _ _ _ _ _ _ _ _ _ _ hn hk0 hT0 hM0 hr
          refine wpIn_mono (g1.2.2 F hF hnd.loop g W a hh) ?_
          rintro e' a' W' ⟨rfl, g', h'⟩
          cases e1 with
          | nor =>
            simp only [RcIs] at hr
            rw [hr] at h1
            exact ⟨(f', (t1, ms1), k1, wl1), ⟨by simp only; omega, Nat.le_trans hk0 g1.1.le, g1.1.wfT, g1.1.wfM, h1, g', h'⟩, by simp⟩
          | exi id =>
            simp only [RcIs] at hr
            rw [hr] at h1
            obtain ⟨rfl, rfl, rfl, rfl, rfl⟩ := RcIs.inj (e := .exi id) rfl h1
            exact ⟨rfl, g', h'⟩
          | ret =>
            simp only [RcIs] at hr
            rw [hr] at h1
            obtain ⟨rfl, rfl, rfl, rfl, rfl⟩ := RcIs.inj (e := .ret) rfl h1
            exact ⟨rfl, g', h'⟩
    | region id ops draw =>
      have hcal : CalOk P (callF P tt con (runF P tt con f)) := callF_ok htt hcon ih
      have h1 : RcIs (match compReg dep n ops.toList draw with
        | some (gs, none) => (match regT (callF P tt con (runF P tt con f)) tt n ke gs t ms k wl with
          | .ok t1 ms1 k1 wl1 _ => .nor t1 ms1 k1 wl1
          | .no => .no)
        | some (gs, some ps) => (match regD (callF P tt con (runF P tt con f)) tt n ke gs t ms k wl [] with
          | .ok t1 ms1 k1 wl1 fs => (match pairOk fs.reverse ps with
            | true => .nor t1 ms1 k1 wl1
            | false => .no)
          | .no => .no)
        | none => .no) e t' ms' k' wl' := h
      split at h1
      · rename_i gs hc
        split at h1
        · rename_i t1 ms1 k1 wl1 ft hrt
          obtain ⟨rfl, rfl, rfl, rfl, rfl⟩ := RcIs.inj (e := .nor) rfl h1
          obtain ⟨fs', hrd⟩ := regT_D hrt []
          exact regF_gone hmx htt hcal hn hc hke hwT hwM hrd (fun l hl => by cases hl) id
        · exact (RcIs_no h1).elim
      · rename_i gs ps hc
        split at h1
        · rename_i t1 ms1 k1 wl1 fs hrd
          split at h1
          · rename_i hpk
            obtain ⟨rfl, rfl, rfl, rfl, rfl⟩ := RcIs.inj (e := .nor) rfl h1
            exact regF_gone hmx htt hcal hn hc hke hwT hwM hrd (fun l hl => by cases hl; exact hpk) id
          · exact (RcIs_no h1).elim
        · exact (RcIs_no h1).elim
      · exact (RcIs_no h1).elim
    | rangeFunc _ _ _ _ => exact (RcIs_no h).elim
    | scope _ => exact (RcIs_no h).elim
    | label _ => exact (RcIs_no h).elim
    | goto _ => exact (RcIs_no h).elim
    | refuse _ => exact (RcIs_no h).elim

/-- Whatever the interpreter finds is a contract. -/
theorem fs_run (hmx : P.follows .mixedOrders = true) (htt : ttB P tt = true) (hcon : ∀ f vs ms vs' r, con f vs ms = some (vs', r) → FnS P f vs' r) (fuel : Nat) {f : FuncId} {vs : List AV} {r : AV} {ms' : Ms} {k' : Nat} {wl : List Nat}
    (h : callF P tt con (runF P tt con fuel) f vs [] 0 = .ok r ms' k' wl) (hm : midsVs vs = []) (hr : r.mids = []) : FnS P f vs r := by
  have hok := (callF_ok htt hcon (runF_sound hmx htt hcon fuel)).ok h (fun id b hb => by simp [lookS] at hb) (fun id hid => by rw [hm] at hid; cases hid)
  exact cx_fs hok.1 hm hr
end
end Go.El

/- Contracts: integers of the program: products, powers of at most 12. Own work; no condition. -/
namespace Go.El
open Go Go.Proofs

set_option maxHeartbeats 2000000 in
theorem iproduct_s (a b : List Int) (ha : rng a) (hb : rng b) (la : a.length ≤ 1099511627776) (lb : b.length ≤ 1099511627776) : FnS Tryz.prog 175 [cS U32 a, cS U32 b] (cS U32 (wordsN (val a * val b).toNat)) := by
  refine fs_intro Tryz.func175 rfl rfl rfl rfl rfl (by decide) ?_
  refine rr rfl (rb ?_)
  refine rm U32 (a.length + b.length) rfl rfl rfl rfl rfl rfl (zr_int .u32) rfl ?_ ?_ ?_
  · show _ * 4 ≤ _; omega
  · show _ * 1 ≤ _; omega
  refine re rfl (tr_seq (rr rfl ?_))
  refine tr_block (tr_loop (α := Nat × List Int) (fun x => ⟨[(0, cS U32 a), (1, cS U32 b), (5, .c (.X 1005000)), (18, cI a.length), (19, cI x.1)], [(1005000, .vec 23 U32 x.2)], 3, []⟩) (MulO a b) (fun x => a.length - x.1) (0, List.replicate (a.length + b.length) 0) ?_ ?_ ?_)
  · refine ⟨Nat.zero_le _, by simp, rng_rep _, ?_, by simp [val_rep, val]⟩
    intro j _
    simp only [List.getD_eq_getElem?_getD, List.getElem?_replicate]
    split <;> rfl
  · exact wk ⟨⟨_, rfl, AVle.refl _⟩, ⟨_, rfl, AVle.refl _⟩, ⟨_, rfl, AVle.refl _⟩, ⟨_, rfl, AVle.refl _⟩, ⟨_, rfl, AVle.refl _⟩, trivial⟩ ⟨⟨_, rfl, BLe.refl _⟩, trivial⟩
  · rintro ⟨i, o⟩ hO
    have hlen : o.length = a.length + b.length := hO.len
    refine rr rfl (tr_seq ?_)
    refine tr_cond rfl (fun h => ?_) (fun h => ?_)
    · have h : i < a.length := by simpa using h
      have ga := rng_get ha i
      refine tr_skip (at_then (tr_seq (tr_block (rr rfl (rr rfl (rr rfl (tr_seq (rr rfl ?_))))))))
      have ea : IntKind.wrap .u64 (a.getD (i : Int).toNat 0) = a.getD i 0 := by rw [Int.toNat_natCast, wrap_u64 _ (by omega) (by omega)]
      refine tr_block (tr_loop (α := Nat × List Int × Int) (fun x => ⟨[(0, cS U32 a), (1, cS U32 b), (5, .c (.X 1005000)), (6, cI i), (7, cU x.2.2), (8, cU (a.getD i 0)), (18, cI a.length), (19, cI i), (28, cI b.length), (29, cI x.1)], [(1005000, .vec 23 U32 x.2.1)], 8, []⟩) (MulI a b i) (fun x => b.length - x.1) (0, o, 0) ?_ ?_ ?_)
      · refine ⟨Nat.zero_le _, hlen, hO.r, hO.z, Int.le_refl _, (by show (0 : Int) < _; decide), ?_⟩
        have := hO.v
        simp only at this
        simp [this, val]
      · exact wk ⟨⟨_, rfl, AVle.refl _⟩, ⟨_, rfl, AVle.refl _⟩, ⟨_, rfl, AVle.refl _⟩, ⟨_, rfl, AVle.refl _⟩, ⟨_, rfl, AVle.refl _⟩, ⟨_, rfl, AVle.of_eq (congrArg (fun x => AV.c (C.I .u64 x)) ea)⟩, ⟨_, rfl, AVle.refl _⟩, ⟨_, rfl, AVle.refl _⟩, ⟨_, rfl, AVle.refl _⟩, ⟨_, rfl, AVle.refl _⟩, trivial⟩ ⟨⟨_, rfl, BLe.refl _⟩, trivial⟩
      · rintro ⟨k, o, c⟩ hI
        have hlen : o.length = a.length + b.length := hI.len
        have hc0 : 0 ≤ c := hI.c0
        have hc1 : c < 4294967296 := hI.c1
        refine rr rfl (tr_seq ?_)
        refine tr_cond rfl (fun h2 => ?_) (fun h2 => ?_)
        · have h2 : k < b.length := by simpa using h2
          have gb := rng_get hb k
          have go := rng_get hI.r (i + k)
          simp only at go
          have gm := mul_lt_sq ga.1 (by omega) gb.1 (by omega)
          refine tr_skip (at_then (tr_seq (tr_block (rr rfl (rr rfl ?_ (hp := by simp only [Pr.an, Pr.h, num, i64r, true_and, and_true]; omega))))))
          have eik : ((i : Int) + (k : Int)).toNat = i + k := by omega
          have e0 : IntKind.wrap .u64 (IntKind.wrap .u64 (IntKind.wrap .u64 (a.getD i 0 * IntKind.wrap .u64 (b.getD (k : Int).toNat 0)) + IntKind.wrap .u64 (o.getD ((i : Int) + (k : Int)).toNat 0)) + c) = a.getD i 0 * b.getD k 0 + o.getD (i + k) 0 + c := by
            rw [eik, Int.toNat_natCast, wrap_u64 (b.getD k 0) (by omega) (by omega), wrap_u64 (o.getD (i + k) 0) (by omega) (by omega), wrap_u64 (a.getD i 0 * b.getD k 0) (by omega) (by omega), wrap_u64 (a.getD i 0 * b.getD k 0 + o.getD (i + k) 0) (by omega) (by omega), wrap_u64 _ (by omega) (by omega)]
          have hn := hI.next h h2 ha hb
          simp only at hn
          generalize ht : a.getD i 0 * b.getD k 0 + o.getD (i + k) 0 + c = s at hn e0
          have e1 : IntKind.wrap .u32 s = s % 4294967296 := by
            simp [IntKind.wrap, IntKind.bits, IntKind.signed]
          have e2 : s.fdiv (2 ^ (min (32 : Int).toNat (IntKind.bits .u64))) = s / 4294967296 := by
            rw [Int.fdiv_eq_ediv_of_nonneg _ (by decide)]; rfl
          refine tr_wk (st' := ⟨[(0, cS U32 a), (1, cS U32 b), (5, .c (.X 1005000)), (6, cI i), (8, cU (a.getD i 0)), (9, cI k), (10, cU s), (18, cI a.length), (19, cI i), (28, cI b.length), (29, cI k)], [(1005000, .vec 23 U32 o)], 12, []⟩) (wk ⟨⟨_, rfl, AVle.refl _⟩, ⟨_, rfl, AVle.refl _⟩, ⟨_, rfl, AVle.refl _⟩, ⟨_, rfl, AVle.refl _⟩, ⟨_, rfl, AVle.refl _⟩, ⟨_, rfl, AVle.refl _⟩, ⟨_, rfl, AVle.of_eq ?_⟩, ⟨_, rfl, AVle.refl _⟩, ⟨_, rfl, AVle.refl _⟩, ⟨_, rfl, AVle.refl _⟩, ⟨_, rfl, AVle.refl _⟩, trivial⟩ ⟨⟨_, rfl, BLe.refl _⟩, trivial⟩) ?_
          · exact congrArg (fun x => AV.c (C.I .u64 x)) e0
          refine rr rfl (rt rfl (at_block (at_then (rt rfl (at_loop (k + 1, o.set (i + k) (s % 4294967296), s / 4294967296) hn (by show b.length - (k + 1) < b.length - k; omega) (wk ⟨⟨_, rfl, AVle.refl _⟩, ⟨_, rfl, AVle.refl _⟩, ⟨_, rfl, AVle.refl _⟩, ⟨_, rfl, AVle.refl _⟩, ⟨_, rfl, AVle.of_eq ?_⟩, ⟨_, rfl, AVle.refl _⟩, ⟨_, rfl, AVle.refl _⟩, ⟨_, rfl, AVle.refl _⟩, ⟨_, rfl, AVle.refl _⟩, ⟨_, rfl, AVle.of_eq ?_⟩, trivial⟩ ⟨⟨_, rfl, BLe.of_eq ?_⟩, trivial⟩))))))
          · exact congrArg (fun x => AV.c (C.I .u64 x)) e2
          · rfl
          · rw [e1, eik]
        · have h2 : ¬ k < b.length := by simpa using h2
          have hk : k = b.length := by have := hI.k; simp only at this; omega
          subst hk
          have hd := hI.done h
          have eik : ((i : Int) + (b.length : Int)).toNat = i + b.length := by omega
          have e1 : IntKind.wrap .u32 c = c := wrap_u32 c hc0 hc1
          refine tr_exit (at_then_exit (at_loop_exit (at_block_exit (at_then (rt rfl (at_block (at_then (rt rfl (at_loop (i + 1, o.set (i + b.length) c) hd (by show a.length - (i + 1) < a.length - i; omega) (wk ⟨⟨_, rfl, AVle.refl _⟩, ⟨_, rfl, AVle.refl _⟩, ⟨_, rfl, AVle.refl _⟩, ⟨_, rfl, AVle.refl _⟩, ⟨_, rfl, AVle.of_eq ?_⟩, trivial⟩ ⟨⟨_, rfl, BLe.of_eq ?_⟩, trivial⟩))))))))))
          · rfl
          · rw [e1, eik]
    · have h : ¬ i < a.length := by simpa using h
      have hi : i = a.length := by have := hO.i; simp only at this; omega
      subst hi
      refine tr_exit (at_then_exit (at_loop_exit (at_block_exit (at_then (tr_frz 1005000 rfl rfl rfl (rb ?_))))))
      refine rc rfl rfl (trim_s _) (re rfl (tr_ret (at_ret TT_ok rfl (AVle.of_eq ?_))))
      have hv := hO.v
      simp only [List.take_length] at hv
      rw [trimW_eq hO.r]
      simp only [hv]
theorem isum_z (m k : Nat) (hm : (wordsN m).length ≤ 1099511627776) (hk : (wordsN k).length ≤ 1099511627776) : FnS Tryz.prog 171 [cS U32 (wordsN m), cS U32 (wordsN k)] (cS U32 (wordsN (m + k))) := by
  have := isum_s (wordsN m) (wordsN k) (rng_words m) (rng_words k) hm hk
  rw [val_words, val_words, show ((m : Int) + (k : Int)).toNat = m + k by omega] at this
  exact this
theorem iproduct_z (m k : Nat) (hm : (wordsN m).length ≤ 1099511627776) (hk : (wordsN k).length ≤ 1099511627776) : FnS Tryz.prog 175 [cS U32 (wordsN m), cS U32 (wordsN k)] (cS U32 (wordsN (m * k))) := by
  have := iproduct_s (wordsN m) (wordsN k) (rng_words m) (rng_words k) hm hk
  rw [val_words, val_words, show ((m : Int) * (k : Int)).toNat = m * k by rw [← Int.natCast_mul]; rfl] at this
  exact this
theorem iMul_s (a b : Int) (ha : Sm a) (hb : Sm b) : FnS Tryz.prog 105 [aZ a, aZ b] (aZ (a * b)) := by
  refine fs_intro Tryz.func105 rfl rfl rfl rfl rfl (by decide) ?_
  refine rr rfl (rb ?_)
  refine rc rfl rfl (iproduct_z _ _ ha hb) (rc rfl rfl (isigned_z _ _) (re rfl (tr_ret (at_ret TT_ok rfl (AVle.of_eq ?_)))))
  have e2 : sg (zneg a != zneg b) (a.natAbs * b.natAbs) = a * b := by
    have ea := sg_self a
    have eb := sg_self b
    generalize a.natAbs = x at ea ⊢
    generalize b.natAbs = y at eb ⊢
    cases hza : zneg a <;> cases hzb : zneg b <;> rw [hza] at ea <;> rw [hzb] at eb <;> simp only [sg, if_true, if_false, Bool.false_eq_true] at ea eb <;> rw [← ea, ← eb] <;> simp [sg] <;> grind
  exact congrArg aZ e2
/-- The sum of two numbers of one sign. -/
theorem iAdd1_s (a b : Int) (ha : Sm a) (hb : Sm b) (hs : zneg a = zneg b) : FnS Tryz.prog 103 [aZ a, aZ b] (aZ (a + b)) := by
  refine fs_intro Tryz.func103 rfl rfl rfl rfl rfl (by decide) ?_
  refine rr rfl (tr_seq (rr rfl ?_))
  refine tr_cond rfl (fun h => ?_) (fun h => by simp [hs] at h)
  refine rb (rc rfl rfl (isum_z _ _ ha hb) (rc rfl rfl (isigned_z _ _) (re rfl (tr_ret (at_then_ret (at_ret TT_ok rfl (AVle.of_eq ?_)))))))
  have e2 : sg (zneg a) (a.natAbs + b.natAbs) = a + b := by
    unfold zneg sg at *
    by_cases h1 : a < 0 <;> by_cases h2 : b < 0 <;> simp [h1, h2] at hs ⊢ <;> omega
  exact congrArg aZ e2

def con0 : FuncId → List AV → Ms → Option (List AV × AV) := fun _ _ _ => none
theorem con0_ok {P : Program} : ∀ f vs ms vs' r, con0 f vs ms = some (vs', r) → FnS P f vs' r := fun _ _ _ _ _ h => by cases h
def runI (m : Int) : Cr → Bool
  | .ok (.c (.I .i64 n)) _ _ _ => decide (n = m)
  | _ => false
theorem runI_ok {x : Cr} {m : Int} (h : runI m x = true) : ∃ ms k wl, x = .ok (.c (.I .i64 m)) ms k wl := by
  unfold runI at h
  split at h
  · rename_i n ms k wl
    have : n = m := by simpa using h
    subst this
    exact ⟨ms, k, wl, rfl⟩
  · cases h
def lenN (n : Nat) : Nat := if n = 0 then 0 else Nat.log2 n + 1
theorem ilen_run : ((List.range 13).all fun n => runI (lenN n) (callF Tryz.prog TTab con0 (runF Tryz.prog TTab con0 1000) 130 [cU (n : Nat)] [] 0)) = true := by kernel_rfl
theorem ilen_s (n : Nat) (hn : n ≤ 12) : FnS Tryz.prog 130 [cU n] (cI (lenN n)) := by
  obtain ⟨ms, k, wl, h⟩ := runI_ok (List.all_eq_true.1 ilen_run n (by simp; omega))
  exact fs_run MX TT_ok con0_ok 1000 h rfl rfl
theorem shr_and : ∀ n : Fin 13, ∀ j : Fin 4, IntKind.wrap .i64 ((BitVec.ofInt (IntKind.bits .i64) (((n : Nat) : Int).fdiv (2 ^ (min ((j : Nat) : Int).toNat (IntKind.bits .i64)))) &&& BitVec.ofInt (IntKind.bits .i64) 1).toNat : Int) = (((n : Nat) / 2 ^ (j : Nat) % 2 : Nat) : Int) := by decide
theorem log_le : ∀ n : Fin 13, lenN n ≤ 4 ∧ (n : Nat) / 2 ^ lenN n = 0 := by decide
theorem half_step (n j : Nat) : n / 2 ^ j = 2 * (n / 2 ^ (j + 1)) + n / 2 ^ j % 2 := by
  rw [Nat.pow_succ, ← Nat.div_div_eq_div_mul]; omega
set_option maxHeartbeats 2000000 in
theorem ipower_s (m n : Nat) (hm : m ≤ 2) (hn : n ≤ 12) : FnS Tryz.prog 174 [cS U32 (wordsN m), cI n] (cS U32 (wordsN (m ^ n))) := by
  refine fs_intro Tryz.func174 rfl rfl rfl rfl rfl (by decide) ?_
  have hpw : ∀ k, k ≤ 12 → m ^ k < 18446744073709551616 := by
    intro k hk
    have h1 : m ^ k ≤ 2 ^ k := Nat.pow_le_pow_left hm k
    have h2 : 2 ^ k ≤ 2 ^ 12 := Nat.pow_le_pow_right (by decide) hk
    omega
  have hlen : ∀ k, k ≤ 12 → (wordsN (m ^ k)).length ≤ 1099511627776 := fun k hk => Nat.le_trans (words_len2 (hpw k hk)) (by decide)
  have hml : (wordsN m).length ≤ 1099511627776 := by have := hlen 1 (by decide); simpa using this
  have hL := log_le ⟨n, by omega⟩
  simp only at hL
  have hlenn : FnS Tryz.prog 130 [AV.c (num .u64 (n : Int)).1] (cI (lenN n)) := by
    rw [show (AV.c (num .u64 (n : Int)).1) = cU (n : Int) from congrArg (fun x => AV.c (C.I .u64 x)) (wrap_u64 _ (by omega) (by omega))]
    exact ilen_s n hn
  refine rr rfl (rb (rl U32 [_] rfl rfl (re rfl (tr_seq (rb (rc rfl rfl hlenn (re rfl ?_)))))))
  refine tr_block (tr_loop (α := Nat) (fun k => ⟨[(0, cS U32 (wordsN m)), (1, cI n), (5, cS U32 (wordsN (m ^ (n / 2 ^ k)))), (6, cI ((k : Int) - 1))], [], 3, []⟩) (fun k => k ≤ lenN n) (fun k => k) (lenN n) (Nat.le_refl _) (wk ⟨⟨_, rfl, AVle.refl _⟩, ⟨_, rfl, AVle.refl _⟩, ⟨_, rfl, AVle.of_eq ?_⟩, ⟨_, rfl, AVle.refl _⟩, trivial⟩ trivial) ?_)
  · rw [hL.2]; rfl
  intro k hk
  refine tr_seq (rr rfl ?_)
  refine tr_cond rfl (fun h => ?_) (fun h => ?_)
  · have h : (k : Int) - 1 ≥ 0 := by simpa using h
    obtain ⟨j, rfl⟩ : ∃ j, k = j + 1 := ⟨k - 1, by omega⟩
    have hle : n / 2 ^ (j + 1) ≤ 12 := Nat.le_trans (Nat.div_le_self _ _) hn
    have hle2 : n / 2 ^ j ≤ 12 := Nat.le_trans (Nat.div_le_self _ _) hn
    have hst := half_step n j
    have ej : (((j + 1 : Nat) : Int) - 1) = (j : Int) := by omega
    have esq : m ^ (n / 2 ^ (j + 1)) * m ^ (n / 2 ^ (j + 1)) = m ^ (2 * (n / 2 ^ (j + 1))) := by rw [← Nat.pow_add]; congr 1; omega
    have hp := iproduct_z _ _ (hlen _ hle) (hlen _ hle)
    rw [esq] at hp
    refine tr_skip (at_then (tr_seq (tr_block (rb (rc rfl rfl hp (re rfl ?_))))))
    rw [ej]
    have hbit := shr_and ⟨n, by omega⟩ ⟨j, by omega⟩
    simp only at hbit
    refine rr rfl ?_
    refine tr_cond rfl (fun h2 => ?_) (fun h2 => ?_)
    · have h2 : n / 2 ^ j % 2 = 1 := by
        have h2 := eq_of_beq h2
        rw [hbit] at h2
        omega
      have hp2 := iproduct_z (m ^ (2 * (n / 2 ^ (j + 1)))) m (hlen _ (by omega)) hml
      rw [← Nat.pow_succ, show (2 * (n / 2 ^ (j + 1))).succ = n / 2 ^ j by omega] at hp2
      refine rbt (rc rfl rfl hp2 (re rfl (at_block (at_then (rt rfl (at_loop j (by omega) (by show j < j + 1; omega) (wk ⟨⟨_, rfl, AVle.refl _⟩, ⟨_, rfl, AVle.refl _⟩, ⟨_, rfl, AVle.refl _⟩, ⟨_, rfl, AVle.refl _⟩, trivial⟩ trivial)))))))
    · have h2 : n / 2 ^ j % 2 = 0 := by
        rw [hbit] at h2
        have h2 : ¬ ((n / 2 ^ j % 2 : Nat) : Int) = 1 := fun e => by rw [e] at h2; cases h2
        omega
      refine tr_skip (at_block (at_then (rt rfl (at_loop j (by omega) (by show j < j + 1; omega) (wk ⟨⟨_, rfl, AVle.refl _⟩, ⟨_, rfl, AVle.refl _⟩, ⟨_, rfl, AVle.of_eq ?_⟩, ⟨_, rfl, AVle.refl _⟩, trivial⟩ trivial)))))
      rw [show 2 * (n / 2 ^ (j + 1)) = n / 2 ^ j by omega]
  · have h : ¬ ((k : Int) - 1 ≥ 0) := by simpa using h
    have : k = 0 := by omega
    subst this
    refine tr_exit (at_then_exit (at_loop_exit (at_block_exit (at_then (rr rfl (tr_ret (at_ret TT_ok rfl (AVle.of_eq ?_))))))))
    rw [Nat.pow_zero, Nat.div_one]
theorem iPow_s (n : Nat) (hn : n ≤ 12) : FnS Tryz.prog 104 [aZ 2, cI n] (.t [(true, av .z ((2 ^ n : Nat) : Int)), (false, [.I .i64 0])]) := by
  refine fs_intro Tryz.func104 rfl rfl rfl rfl rfl (by decide) ?_
  refine rr rfl (tr_seq (rb ?_))
  refine rg 8 rfl rfl (fun h => ?_) (fun h => ?_)
  · exfalso
    have h : (n : Int) < 0 := by simpa using h
    omega
  · refine re rfl (tr_cond rfl (fun h2 => ?_) (fun h2 => ?_))
    · exfalso
      have h2 : (n : Int) > 4096 := by simpa using h2
      omega
    · refine tr_skip (at_then (rb ?_))
      refine rg 15 rfl rfl (fun h3 => by simp [zneg] at h3) (fun h3 => ?_)
      refine rc rfl rfl (ipower_s 2 n (by decide) hn) (rc rfl rfl (isigned_z _ _) (re rfl (tr_ret (at_ret TT_ok rfl (AVle.of_eq ?_)))))
      rfl
end Go.El

/- Contract: the bound. Own work; no condition. -/
namespace Go.El
open Go Go.Proofs

/-- The sum of the absolute values. -/
def absS2 (a : List Int) : Nat → Nat
  | 0 => 0
  | i + 1 => absS2 a i + (a.getD i 0).natAbs
def boundN (a : List Int) : Nat := absS2 a a.length * 2 ^ (a.length - 1)
theorem absS2_small (a : List Int) (ha : ∀ i, (a.getD i 0).natAbs ≤ 4294967295) : ∀ i, absS2 a i ≤ i * 4294967295
  | 0 => by simp [absS2]
  | i + 1 => by
    have := absS2_small a ha i
    have := ha i
    simp only [absS2]; omega
theorem zneg_nat (m : Nat) : zneg (m : Int) = false := by simp [zneg]
theorem Sm_nat {m : Nat} (h : m < 18446744073709551616) : Sm (m : Int) := Sm.of (by omega)
theorem sgn_neg {a : Int} (h : sgn a < 0) : a < 0 := by
  unfold sgn at h; split at h <;> first | assumption | (split at h <;> omega)
theorem sgn_of_neg {a : Int} (h : a < 0) : sgn a = -1 := by
  unfold sgn; simp [h]
set_option maxHeartbeats 2000000 in
theorem bound_s (a : List Int) (la : a.length ≤ 13) (ha : ∀ i, (a.getD i 0).natAbs ≤ 4294967295) : FnS Tryz.prog 33 [cS .z a] (aZ (boundN a : Nat)) := by
  refine fs_intro Tryz.func33 rfl rfl rfl rfl rfl (by decide) ?_
  refine rr rfl (rb (rc rfl rfl (iOf_s 0 (by decide) (by decide)) (re rfl (tr_seq (rr rfl ?_)))))
  refine tr_block (tr_loop (α := Nat) (fun i => ⟨[(0, cS .z a), (2, .c (.P 0 0)), (3, .c (.P 1001000 0)), (11, cS .z a), (12, cI a.length), (13, cI i)], [(0, .box 44 0 [.B false, .V (.slice none 0 0)]), (1001000, .box 44 0 (av .z ((absS2 a i : Nat) : Int)))], 3, []⟩) (fun i => i ≤ a.length) (fun i => a.length - i) 0 (Nat.zero_le _) (wk ⟨⟨_, rfl, AVle.refl _⟩, ⟨_, rfl, AVle.refl _⟩, ⟨_, rfl, AVle.refl _⟩, ⟨_, rfl, AVle.refl _⟩, ⟨_, rfl, AVle.refl _⟩, ⟨_, rfl, AVle.refl _⟩, trivial⟩ ⟨⟨_, rfl, BLe.of_eq rfl⟩, ⟨_, rfl, BLe.of_eq rfl⟩, trivial⟩) ?_)
  intro i hi
  refine rr rfl (tr_seq ?_)
  refine tr_cond rfl (fun h => ?_) (fun h => ?_)
  · have h : i < a.length := by simpa using h
    have hai := ha i
    have hs := absS2_small a ha i
    have hs2 : absS2 a i < 18446744073709551616 := by
      have : i * 4294967295 ≤ 13 * 4294967295 := Nat.mul_le_mul_right _ (by omega)
      omega
    refine tr_skip (at_then (tr_seq (tr_block (rr rfl (tr_seq (rb (rc rfl rfl (iSign_s (a.getD (i : Int).toNat 0)) (re rfl ?_))))))))
    rw [Int.toNat_natCast]
    refine tr_cond rfl (fun h2 => ?_) (fun h2 => ?_)
    · have h2 : a.getD i 0 < 0 := sgn_neg (by simpa using h2)
      have en : (((a.getD i 0).natAbs : Nat) : Int) = -(a.getD i 0) := by omega
      have hadd := iAdd1_s ((absS2 a i : Nat) : Int) (((a.getD i 0).natAbs : Nat) : Int) (Sm_nat hs2) (Sm_nat (by omega)) (by rw [zneg_nat, zneg_nat])
      rw [en] at hadd
      refine rbt (rc rfl rfl (iNeg_s (a.getD i 0) (Sm.of (by omega))) (re rfl (at_then (rbt (rc rfl rfl hadd (re rfl ?_))))))
      refine at_block (at_then (rt rfl (at_loop (i + 1) h (by show a.length - (i + 1) < a.length - i; omega) (wk ⟨⟨_, rfl, AVle.refl _⟩, ⟨_, rfl, AVle.refl _⟩, ⟨_, rfl, AVle.refl _⟩, ⟨_, rfl, AVle.refl _⟩, ⟨_, rfl, AVle.refl _⟩, ⟨_, rfl, AVle.of_eq ?_⟩, trivial⟩ ⟨⟨_, rfl, BLe.of_eq rfl⟩, ⟨_, rfl, BLe.of_eq ?_⟩, trivial⟩))))
      · exact congrArg cI (by omega)
      · rw [← en]; rfl
    · have h2 : ¬ a.getD i 0 < 0 := fun e => by rw [sgn_of_neg e] at h2; cases h2
      have en : (((a.getD i 0).natAbs : Nat) : Int) = a.getD i 0 := by omega
      have hadd := iAdd1_s ((absS2 a i : Nat) : Int) (((a.getD i 0).natAbs : Nat) : Int) (Sm_nat hs2) (Sm_nat (by omega)) (by rw [zneg_nat, zneg_nat])
      rw [en] at hadd
      refine tr_skip (at_then (rbt (rc rfl rfl hadd (re rfl ?_))))
      refine at_block (at_then (rt rfl (at_loop (i + 1) h (by show a.length - (i + 1) < a.length - i; omega) (wk ⟨⟨_, rfl, AVle.refl _⟩, ⟨_, rfl, AVle.refl _⟩, ⟨_, rfl, AVle.refl _⟩, ⟨_, rfl, AVle.refl _⟩, ⟨_, rfl, AVle.refl _⟩, ⟨_, rfl, AVle.of_eq ?_⟩, trivial⟩ ⟨⟨_, rfl, BLe.of_eq rfl⟩, ⟨_, rfl, BLe.of_eq ?_⟩, trivial⟩))))
      · exact congrArg cI (by omega)
      · rw [← en]; rfl
  · have h : ¬ i < a.length := by simpa using h
    have hi : i = a.length := by omega
    subst hi
    have hs := absS2_small a ha a.length
    have hs2 : absS2 a a.length ≤ 55834574835 := by
      have : a.length * 4294967295 ≤ 13 * 4294967295 := Nat.mul_le_mul_right _ (by omega)
      omega
    refine tr_exit (at_then_exit (at_loop_exit (at_block_exit (at_then (rb (rc rfl rfl (iOf_s 2 (by decide) (by decide)) (re rfl (tr_seq (rr rfl ?_)))))))))
    refine tr_block (tr_loop (α := Nat) (fun k => ⟨[(0, cS .z a), (2, .c (.P 0 0)), (3, .c (.P 1001000 0)), (6, .c (.P 4001000 0)), (7, cI (if k = 0 then (a.length : Int) - 1 else (a.length : Int) - 1 - 4096))], [(0, .box 44 0 [.B false, .V (.slice none 0 0)]), (1001000, .box 44 0 (av .z ((if k = 0 then absS2 a a.length else boundN a : Nat) : Int))), (4001000, .box 44 0 (av .z 2))], 6, []⟩) (fun k => k ≤ 1) (fun k => 1 - k) 0 (Nat.zero_le _) (wk ⟨⟨_, rfl, AVle.refl _⟩, ⟨_, rfl, AVle.refl _⟩, ⟨_, rfl, AVle.refl _⟩, ⟨_, rfl, AVle.refl _⟩, ⟨_, rfl, AVle.refl _⟩, trivial⟩ ⟨⟨_, rfl, BLe.of_eq rfl⟩, ⟨_, rfl, BLe.of_eq rfl⟩, ⟨_, rfl, BLe.of_eq rfl⟩, trivial⟩) ?_)
    intro k hk
    refine tr_seq (rr rfl ?_)
    refine tr_cond rfl (fun h3 => ?_) (fun h3 => ?_)
    · have h3 : (if k = 0 then (a.length : Int) - 1 else (a.length : Int) - 1 - 4096) > 0 := by simpa using h3
      have hk0 : k = 0 := by
        refine Decidable.by_contra (fun e => ?_)
        rw [if_neg e] at h3
        omega
      subst hk0
      rw [if_pos rfl] at h3
      obtain ⟨n, hn⟩ : ∃ n : Nat, a.length = n + 1 := ⟨a.length - 1, by omega⟩
      refine tr_skip (at_then (tr_seq (tr_block ?_)))
      have hmul := iMul_s ((absS2 a a.length : Nat) : Int) ((2 ^ n : Nat) : Int) (Sm.of (by omega)) (Sm.of (by
        have : 2 ^ n ≤ 2 ^ 12 := Nat.pow_le_pow_right (by decide) (by omega)
        rw [Int.natAbs_natCast]
        exact Nat.lt_of_le_of_lt this (by decide)))
      have hpow : FnS Tryz.prog 104 [aZ 2, .c (.I .i64 (if (4096 : Int) < n then 4096 else n))] (.t [(true, av .z ((2 ^ n : Nat) : Int)), (false, [.I .i64 0])]) := by
        rw [if_neg (by omega)]
        exact iPow_s n (by omega)
      refine tr_wk (st' := ⟨[(0, cS .z a), (2, .c (.P 0 0)), (3, .c (.P 1001000 0)), (6, .c (.P 4001000 0)), (7, cI n)], [(0, .box 44 0 [.B false, .V (.slice none 0 0)]), (1001000, .box 44 0 (av .z ((absS2 a a.length : Nat) : Int))), (4001000, .box 44 0 (av .z 2))], 7, []⟩) (wk ⟨⟨_, rfl, AVle.refl _⟩, ⟨_, rfl, AVle.refl _⟩, ⟨_, rfl, AVle.refl _⟩, ⟨_, rfl, AVle.refl _⟩, ⟨_, rfl, AVle.of_eq ?_⟩, trivial⟩ ⟨⟨_, rfl, BLe.of_eq rfl⟩, ⟨_, rfl, BLe.of_eq rfl⟩, ⟨_, rfl, BLe.of_eq rfl⟩, trivial⟩) ?_
      · exact congrArg cI (by rw [if_pos rfl, hn]; omega)
      · refine rb (rc rfl rfl hpow (re rfl (rbt (rc rfl rfl hmul (re rfl (at_block (at_then (rt rfl (at_loop 1 (Nat.le_refl _) (by decide) (wk ⟨⟨_, rfl, AVle.refl _⟩, ⟨_, rfl, AVle.refl _⟩, ⟨_, rfl, AVle.refl _⟩, ⟨_, rfl, AVle.refl _⟩, ⟨_, rfl, AVle.of_eq ?_⟩, trivial⟩ ⟨⟨_, rfl, BLe.of_eq rfl⟩, ⟨_, rfl, BLe.of_eq ?_⟩, ⟨_, rfl, BLe.of_eq rfl⟩, trivial⟩))))))))))
        · exact congrArg cI (by rw [if_neg (by decide), hn]; omega)
        · rw [if_neg (by decide), boundN, hn, Nat.add_sub_cancel]; rfl
    · have h3 : ¬ (if k = 0 then (a.length : Int) - 1 else (a.length : Int) - 1 - 4096) > 0 := by simpa using h3
      refine tr_exit (at_then_exit (at_loop_exit (at_block_exit (at_then (rr rfl (tr_ret (at_ret TT_ok rfl (AVle.of_eq ?_))))))))
      refine congrArg (fun x : Nat => aZ (x : Int)) ?_
      split
      · rename_i e
        rw [if_pos e] at h3
        rw [boundN, show a.length - 1 = 0 by omega, Nat.pow_zero, Nat.mul_one]
      · rfl
end Go.El

/- The plain law of FactorBounds, for the lists that the program makes. Own work; no condition. -/
namespace Go.El
open Go Go.Proofs

theorem cf_ok (x : Int) : (cf x).num.natAbs ≤ 6 ∧ ((cf x).den = 1 ∨ (cf x).den = 3) := by
  have h7 := tmod7 x
  unfold cf
  split
  · generalize x.tmod 7 = t at h7
    have h : t = -6 ∨ t = -5 ∨ t = -4 ∨ t = -3 ∨ t = -2 ∨ t = -1 ∨ t = 0 ∨ t = 1 ∨ t = 2 ∨ t = 3 ∨ t = 4 ∨ t = 5 ∨ t = 6 := by omega
    rcases h with h | h | h | h | h | h | h | h | h | h | h | h | h <;> subst h <;> decide +kernel
  · refine ⟨?_, .inl rfl⟩
    show (x.tmod 7).natAbs ≤ 6
    omega
theorem trimQN_le (l : List Rat) : ∀ n, trimQN l n ≤ n
  | 0 => Nat.le_refl _
  | n + 1 => by
    simp only [trimQN]
    split
    · exact Nat.le_succ_of_le (trimQN_le l n)
    · exact Nat.le_refl _
theorem trimQN_last (l : List Rat) : ∀ n, trimQN l n = 0 ∨ (l.getD (trimQN l n - 1) 0).num ≠ 0
  | 0 => .inl rfl
  | n + 1 => by
    simp only [trimQN]
    split
    · exact trimQN_last l n
    · rename_i h; exact .inr h
theorem getD_take {α : Type} (l : List α) (n i : Nat) (d : α) : (l.take n).getD i d = if i < n then l.getD i d else d := by
  simp only [List.getD_eq_getElem?_getD, List.getElem?_take]
  split <;> rfl
theorem upoly_ok (l : List Int) (most : Nat) : (upolyL l most).length ≤ most + 1 ∧ (∀ i, ((upolyL l most).getD i 0).num.natAbs ≤ 6) ∧ (∀ i, ((upolyL l most).getD i 0).den = 1 ∨ ((upolyL l most).getD i 0).den = 3) ∧ (upolyL l most = [] ∨ ((upolyL l most).getD ((upolyL l most).length - 1) 0).num ≠ 0) := by
  unfold upolyL trimQ
  generalize hL : (l.take (most + 1)).map cf = L
  have hlen : L.length ≤ most + 1 := by rw [← hL]; simp; omega
  have hel : ∀ i, (L.getD i 0).num.natAbs ≤ 6 ∧ ((L.getD i 0).den = 1 ∨ (L.getD i 0).den = 3) := by
    intro i
    rw [← hL, List.getD_eq_getElem?_getD, List.getElem?_map]
    cases (l.take (most + 1))[i]? with
    | none => exact ⟨by decide, .inl rfl⟩
    | some x => exact cf_ok x
  have hn := trimQN_le L L.length
  refine ⟨by simp; omega, fun i => ?_, fun i => ?_, ?_⟩
  · rw [getD_take]
    split
    · exact (hel i).1
    · decide
  · rw [getD_take]
    split
    · exact (hel i).2
    · exact .inl rfl
  · rcases trimQN_last L L.length with h | h
    · rw [h]; exact .inl rfl
    · by_cases h0 : trimQN L L.length = 0
      · rw [h0]; exact .inl rfl
      · refine .inr ?_
        rw [List.length_take, Nat.min_eq_left hn, getD_take, if_pos (by omega)]
        exact h

section
variable (cs : List Rat) (hnum : ∀ i, (cs.getD i 0).num.natAbs ≤ 6) (hden : ∀ i, (cs.getD i 0).den = 1 ∨ (cs.getD i 0).den = 3) (hlast : cs = [] ∨ (cs.getD (cs.length - 1) 0).num ≠ 0)
theorem gN_dvd : ∀ i j, j < i → gN cs i ∣ xN cs j
  | 0, j, h => by omega
  | i + 1, j, h => by
    simp only [gN]
    rcases Nat.lt_succ_iff_lt_or_eq.1 h with h | rfl
    · exact Int.dvd_trans (Int.gcd_dvd_left ..) (gN_dvd i j h)
    · exact Int.gcd_dvd_right ..
theorem gF_dvd (j : Nat) (h : j < cs.length) : gF cs ∣ xN cs j := by
  unfold gF
  split
  · exact Int.neg_dvd.2 (gN_dvd cs _ j h)
  · exact gN_dvd cs _ j h
theorem integral_getD (i : Nat) : (integralL cs).getD i 0 = if i < cs.length then xN cs i / gF cs else 0 := by
  unfold integralL
  rw [List.getD_eq_getElem?_getD, List.getElem?_map]
  by_cases h : i < cs.length
  · simp [h]
  · simp [h]
theorem integral_len : (integralL cs).length = cs.length := by simp [integralL]
include hnum hden
theorem integral_small (i : Nat) : ((integralL cs).getD i 0).natAbs ≤ 18 := by
  rw [integral_getD]
  split
  · have h1 := xN_small cs hnum hden i
    have h2 := Int.natAbs_ediv_le_natAbs (xN cs i) (gF cs)
    omega
  · decide
include hlast
theorem integral_last (h : integralL cs ≠ []) : (integralL cs).getD ((integralL cs).length - 1) 0 ≠ 0 := by
  have hl : 0 < cs.length := by
    rw [← integral_len cs]; exact List.length_pos_iff.2 h
  rw [integral_len, integral_getD, if_pos (by omega)]
  have hx : xN cs (cs.length - 1) ≠ 0 := (xN_eq cs hden _).2.1 (hlast.resolve_left (by intro h; rw [h] at hl; simp at hl))
  obtain ⟨c, hc⟩ := gF_dvd cs (cs.length - 1) (by omega)
  have hg := (gF_ok cs hnum hden hlast hl).1
  rw [hc, Int.mul_ediv_cancel_left _ hg]
  intro h0
  rw [h0] at hc
  simp at hc
  exact hx hc
end

theorem convS_18 {A B : Nat → Int} (hA : ∀ i, (A i).natAbs ≤ 18) (hB : ∀ i, (B i).natAbs ≤ 18) (n : Nat) : ∀ k, (convS A B n k).natAbs ≤ k * 324
  | 0 => by simp [convS]
  | k + 1 => by
    have := convS_18 hA hB n k
    have h2 : (A k * B (n - k)).natAbs ≤ 18 * 18 := small_mul (hA k) (hB (n - k))
    simp only [convS]
    omega
theorem imul_getD (a b : List Int) (i : Nat) : (imulL a b).getD i 0 = if i < a.length + b.length - 1 then conv (fun i => a.getD i 0) (fun i => b.getD i 0) i else 0 := by
  unfold imulL
  rw [List.getD_eq_getElem?_getD, List.getElem?_map]
  by_cases h : i < a.length + b.length - 1
  · simp [h]
  · simp [h]
theorem imul_len (a b : List Int) : (imulL a b).length = a.length + b.length - 1 := by simp [imulL]
theorem product_ok {a b : List Int} (la : a.length ≤ 7) (lb : b.length ≤ 7) (ha : ∀ i, (a.getD i 0).natAbs ≤ 18) (hb : ∀ i, (b.getD i 0).natAbs ≤ 18) :
    (trimW (imulL a b)).length ≤ 13 ∧ ∀ i, ((trimW (imulL a b)).getD i 0).natAbs ≤ 4294967295 := by
  unfold trimW
  have h0 := imul_len a b
  refine ⟨by simp; omega, fun i => ?_⟩
  rw [getD_take]
  split
  · rw [imul_getD]
    split
    · have := convS_18 (A := fun i => a.getD i 0) (B := fun i => b.getD i 0) ha hb i (i + 1)
      unfold conv
      omega
    · decide
  · decide

theorem absS2_le (a : List Int) : ∀ n k, k < n → (a.getD k 0).natAbs ≤ absS2 a n
  | 0, k, h => by omega
  | n + 1, k, h => by
    simp only [absS2]
    rcases Nat.lt_succ_iff_lt_or_eq.1 h with h | rfl
    · have := absS2_le a n k h; omega
    · omega
theorem absS2_two (a : List Int) : ∀ n j k, j < k → k < n → (a.getD j 0).natAbs + (a.getD k 0).natAbs ≤ absS2 a n
  | 0, j, k, _, h => by omega
  | n + 1, j, k, hj, h => by
    simp only [absS2]
    rcases Nat.lt_succ_iff_lt_or_eq.1 h with h | rfl
    · have := absS2_two a n j k hj h; omega
    · have := absS2_le a k j hj; omega
theorem trimN_top (ws : List Int) (n : Nat) (h : ws.getD n 0 ≠ 0) : trimN ws (n + 1) = n + 1 := by
  simp only [trimN]
  rw [if_neg h]
theorem law_core {a b : List Int} (ha0 : a ≠ []) (hb0 : b ≠ []) (ha : ∀ i, (a.getD i 0).natAbs ≤ 18) (hal : a.getD (a.length - 1) 0 ≠ 0) (hbl : b.getD (b.length - 1) 0 ≠ 0) :
    ∀ i, (a.getD i 0).natAbs ≤ boundN (trimW (imulL a b)) := by
  have la : 0 < a.length := List.length_pos_iff.2 ha0
  have lb : 0 < b.length := List.length_pos_iff.2 hb0
  have hA : ∀ i, a.length - 1 < i → (fun i => a.getD i 0) i = 0 := fun i hi => by
    show a.getD i 0 = 0
    rw [List.getD_eq_getElem?_getD, List.getElem?_eq_none (by omega)]; rfl
  have hB : ∀ i, b.length - 1 < i → (fun i => b.getD i 0) i = 0 := fun i hi => by
    show b.getD i 0 = 0
    rw [List.getD_eq_getElem?_getD, List.getElem?_eq_none (by omega)]; rfl
  have hlen := imul_len a b
  have hlen' : (imulL a b).length = (a.length - 1 + (b.length - 1)) + 1 := by omega
  have htop : (imulL a b).getD (a.length - 1 + (b.length - 1)) 0 ≠ 0 := by
    rw [imul_getD, if_pos (by omega), conv_top hA hB]
    intro h0
    rcases Int.mul_eq_zero.1 h0 with h | h
    · exact hal h
    · exact hbl h
  have htr : trimW (imulL a b) = imulL a b := by
    unfold trimW
    rw [hlen', trimN_top _ _ htop, ← hlen', List.take_length]
  rw [htr]
  have hcv : ∀ k, k ≤ a.length - 1 + (b.length - 1) → (imulL a b).getD k 0 = conv (fun i => a.getD i 0) (fun i => b.getD i 0) k := fun k hk => by rw [imul_getD, if_pos (by omega)]
  unfold boundN
  rw [hlen', Nat.add_sub_cancel]
  refine core (A := fun i => a.getD i 0) (B := fun i => b.getD i 0) (da := a.length - 1) (db := b.length - 1) hA hB hal hbl (S := absS2 (imulL a b) (a.length - 1 + (b.length - 1) + 1)) ?_ ha ?_
  · intro k hk
    rw [← hcv k hk]
    exact absS2_le _ _ k (by omega)
  · intro hs k hk
    rw [← hcv k (by omega)]
    have := absS2_two (imulL a b) (a.length - 1 + (b.length - 1) + 1) k (a.length - 1 + (b.length - 1)) hk (by omega)
    have h1 := Int.natAbs_pos.2 htop
    omega
end Go.El

/- The fast interpreter, part 11: results that lie in memory are frozen when the call ends. Own work; no condition. -/
namespace Go.El
open Go Go.RowKit

/-- What was frozen, and all that is new. -/
def HN (s : Nat) (H0 : FH) (W : World) : FH := fun b o => if b < s then H0 b o else W.cell? ⟨b, o, none⟩

section
variable {P : Program} {tt : TT}

theorem cx_fz {f : FuncId} {vs : List AV} {r r' : AV} {fm' : List (Nat × Blk)} {k' : Nat} (h : CX P f vs [] 0 r fm' k') (hm : midsVs vs = []) (hr : r'.mids = []) (ha : matA (fun id => lookA id fm') r r' = true) : FnS P f vs r' := by
  refine ⟨h.call, hr, ?_⟩
  intro H W us hsub hrel
  have hul := relVs_length hrel
  have h0 : Hold { w0 := W, H0 := H, n := vs.length } (· < 0) (St.kn ⟨argSl 0 vs, [], 0, []⟩) ⟨H, noγ⟩ W (actN us) := by
    refine ⟨by simp [actN, hul], rfl, ?_, ?_, ?_, ?_, ?_, hsub, ⟨rfl, rfl, rfl, Nat.le_refl _, fun _ _ _ => rfl⟩, FLe.refl _, fun _ _ _ _ => rfl, fun _ h => absurd h (Nat.not_lt_zero _)⟩
    · intro t v ht
      simp only [St.kn, Option.map_eq_some_iff] at ht
      obtain ⟨x, hx, he⟩ := ht
      cases he
      obtain ⟨_, u, hu, hr, _⟩ := argSl_look vs us 0 hrel t v hx
      have hu' : us[t]? = some u := by simpa using hu
      simp only [actN, Array.getD_eq_getD_getElem?, List.getElem?_toArray, hu', Option.getD_some]
      exact hr
    · intro id b hb; simp [St.kn, lookA] at hb
    · intro id id' b b' kk hb; simp [St.kn, lookA] at hb
    · intro key x hx id hid
      cases key with
      | m j => simp [St.kn, lookA] at hx
      | s t =>
        simp only [St.kn, Option.map_eq_some_iff] at hx
        obtain ⟨y, hy, he⟩ := hx
        subst he
        obtain ⟨_, _, _, _, h6⟩ := argSl_look vs us 0 hrel t y hy
        have := h6 id hid
        rw [hm] at this
        cases this
    · intro id x hx; simp [St.kn, lookA] at hx
  refine (h.spec _ _ W us rfl hul h0).mono ?_
  rintro e W' ⟨v, g', rfl, h1⟩
  have hfr : ∀ b o, b < W.heap.size → g'.H b o = H b o := fun b o hb => h1.fresh b o hb (fun h => h)
  have ok : FzOk (HN W.heap.size H W') g' W' (fun id => lookA id fm') := by
    refine ⟨?_, ?_⟩
    · intro b o u hu
      unfold HN
      split
      · rename_i hb; rw [← hfr b o hb]; exact hu
      · exact h1.sub b o u hu
    · intro id E cs hl
      have hx : ∃ b, ∃ vs rest : List Value, blk (g'.γ id) = some b ∧ W'.heap[b]? = some (.cells (vs ++ rest).toArray E (0, 0)) ∧ RelL g' cs vs ∧ W.heap.size ≤ b := by
        rcases hl with ⟨sz, hl⟩ | hl
        · obtain ⟨b, ws, rest, e1, e2, e3, e4, _⟩ := h1.blks id (.box E sz cs) (by simp [St.kn, hl])
          exact ⟨b, ws, rest, e1, e2, e3, by rcases e4 with e4 | e4; exact e4; exact e4.elim⟩
        · obtain ⟨b, ws, rest, e1, e2, e3, e4, _⟩ := h1.blks id (.fz E cs) (by simp [St.kn, hl])
          exact ⟨b, ws, rest, e1, e2, e3, by rcases e4 with e4 | e4; exact e4; exact e4.elim⟩
      obtain ⟨b, ws, rest, e1, e2, e3, hs⟩ := hx
      exact ⟨b, ws, rest, e1, fun o => by simp only [HN, Nat.not_lt.2 hs, if_false], e2, e3⟩
  have hs := h1.slots 0 r (by simp [St.kn, lookA])
  have h2 : RelV g' r v := by simpa [actN] using hs
  refine ⟨v, HN W.heap.size H W', rfl, matA_rel ok ha h2, fun b o u hu => ok.le b o u (h1.le b o u hu), fun b o hb => by simp [HN, hb], ?_, ⟨h1.below.os, h1.below.tape, h1.below.output, h1.below.size, fun kk hk => h1.below.block kk hk (fun h => h)⟩⟩
  intro b o u hu
  unfold HN at hu
  split at hu
  · rename_i hb; rw [← hfr b o hb] at hu; exact h1.sub b o u hu
  · exact hu

/-- The end of a run, read as a contract's result. -/
def endIs (r' : AV) : Cr → Bool
  | .ok r ms _ _ => matA (fun id => lookA id ms.flatten) r r'
  | _ => false

/-- Whatever the interpreter finds is a contract, with slices frozen at the end. -/
theorem fs_fz {con : FuncId → List AV → Ms → Option (List AV × AV)} (hmx : P.follows .mixedOrders = true) (htt : ttB P tt = true) (hcon : ∀ f vs ms vs' r, con f vs ms = some (vs', r) → FnS P f vs' r) (fuel : Nat) {f : FuncId} {vs : List AV} {r' : AV}
    (h : endIs r' (callF P tt con (runF P tt con fuel) f vs [] 0) = true) (hm : midsVs vs = []) (hr : r'.mids = []) : FnS P f vs r' := by
  cases hx : callF P tt con (runF P tt con fuel) f vs [] 0 with
  | ok r ms k wl =>
    rw [hx] at h
    have hok := (callF_ok htt hcon (runF_sound hmx htt hcon fuel)).ok hx (fun id b hb => by simp [lookS] at hb) (fun id hid => by rw [hm] at hid; cases hid)
    exact cx_fz hok.1 hm hr h
  | _ => rw [hx] at h; cases h
end
end Go.El

/- Closed runs that the sanity check reaches: factors modulo a prime. Own work; no condition. -/
namespace Go.El
open Go Go.Proofs

theorem modular_s : FnS Tryz.prog 12 [cS U64 [1, 0, 1], cU 5] (.t [(false, [.S (.pr (.sl U64) I64) [([2, 1], 1), ([3, 1], 1)]]), (false, [.I .i64 0])]) :=
  fs_fz MX TT_ok con0_ok 100000 (by kernel_rfl) rfl rfl
end Go.El

/- Contracts: powers and inverses modulo p. Own work; no condition. -/
namespace Go.El
open Go Go.Proofs

def powL : Nat → Nat → Nat → Nat → Nat → Nat
  | 0, r, _, _, _ => r
  | f + 1, r, a, n, p => if n = 0 then r else powL f (if n % 2 = 1 then r * a % p else r) (a * a % p) (n / 2) p
def powM (a n p : Nat) : Nat := powL 64 (1 % p) (a % p) n p
def invM (a p : Nat) : Nat := powM a (p - 2) p
theorem powL_lt : ∀ (f r a n p : Nat), 0 < p → r < p → powL f r a n p < p
  | 0, r, _, _, _, _, h => h
  | f + 1, r, a, n, p, hp, h => by
    unfold powL
    split
    · exact h
    · refine powL_lt f _ _ _ _ hp ?_
      split
      · exact Nat.mod_lt _ hp
      · exact h
theorem powM_lt (a n p : Nat) (hp : 0 < p) : powM a n p < p := powL_lt _ _ _ _ _ hp (Nat.mod_lt _ hp)
theorem tmod_nat (x y : Nat) : (x : Int).tmod (y : Int) = ((x % y : Nat) : Int) := by rw [Int.tmod_eq_emod_of_nonneg (by omega)]; omega
theorem mulmod_nat (x y p : Nat) (hx : x < p) (hy : y < p) (hp : p ≤ 4294967296) : (IntKind.wrap .u64 ((x : Int) * (y : Int))).tmod (p : Int) = ((x * y % p : Nat) : Int) := by
  have h : x * y < 18446744073709551616 := Nat.lt_of_lt_of_le (Nat.mul_lt_mul'' hx hy) (Nat.le_trans (Nat.mul_le_mul hp hp) (by decide))
  rw [← Int.natCast_mul, wrap_u64 _ (by omega) (by omega), tmod_nat]
theorem half_nat (x : Nat) (hx : x < 18446744073709551616) : (IntKind.wrap .u64 ((x : Int).tdiv 2)) = ((x / 2 : Nat) : Int) := by
  have e : (x : Int).tdiv 2 = ((x / 2 : Nat) : Int) := by rw [Int.tdiv_eq_ediv_of_nonneg (by omega)]; omega
  rw [e, wrap_u64 _ (by omega) (by omega)]
set_option maxHeartbeats 2000000 in
theorem mpow_s (a n p : Nat) (ha : a < 18446744073709551616) (hn : n < 18446744073709551616) (hp0 : 0 < p) (hp : p ≤ 4294967296) : FnS Tryz.prog 180 [cU a, cU n, cU p] (cU (powM a n p)) := by
  refine fs_intro Tryz.func180 rfl rfl rfl rfl rfl (by decide) ?_
  refine rr rfl (tr_seq (rr rfl ?_))
  refine tr_cond rfl (fun h => ?_) (fun h => ?_)
  · exfalso
    have h : (p : Int) = 0 := by simpa using h
    omega
  · have hpz : (p : Int) ≠ 0 := by omega
    refine tr_skip (at_then (rr rfl (tr_seq (rr rfl (tr_block (tr_loop (α := Nat × Nat × Nat × Nat) (fun x => ⟨[(0, cU x.2.2.1), (1, cU x.2.2.2), (2, cU p), (7, cU x.2.1)], [], 4, []⟩) (fun x => powL x.1 x.2.1 x.2.2.1 x.2.2.2 p = powM a n p ∧ x.2.2.2 < 2 ^ x.1 ∧ x.2.1 < p ∧ x.2.2.1 < p ∧ x.2.2.2 < 18446744073709551616) (fun x => x.2.2.2) (64, 1 % p, a % p, n) ⟨rfl, hn, Nat.mod_lt _ hp0, Nat.mod_lt _ hp0, hn⟩ (wk ⟨⟨_, rfl, AVle.of_eq ?_⟩, ⟨_, rfl, AVle.refl _⟩, ⟨_, rfl, AVle.refl _⟩, ⟨_, rfl, AVle.of_eq ?_⟩, trivial⟩ trivial) ?_)))))) 
    · exact congrArg (fun z => AV.c (C.I .u64 z)) (tmod_nat a p)
    · exact congrArg (fun z => AV.c (C.I .u64 z)) (tmod_nat 1 p)
    · rintro ⟨f, r, b, m⟩ ⟨hL, hm, hr, hb, hmm⟩
      simp only at hL hm hr hb hmm
      refine tr_seq (rr rfl ?_)
      refine tr_cond rfl (fun h2 => ?_) (fun h2 => ?_)
      · have h2 : (m : Int) > 0 := by simpa using h2
        cases f with
        | zero => rw [Nat.pow_zero] at hm; omega
        | succ f =>
          have hm2 : m / 2 < 2 ^ f := by rw [Nat.pow_succ] at hm; omega
          rw [powL, if_neg (by omega)] at hL
          refine tr_skip (at_then (tr_seq (tr_block (tr_seq (rr rfl ?_)))))
          refine tr_cond rfl (fun h3 => ?_) (fun h3 => ?_)
          · have h3 : m % 2 = 1 := by
              have h3 := eq_of_beq h3
              have e : (m : Int).tmod 2 = ((m % 2 : Nat) : Int) := tmod_nat m 2
              have h4 : (m : Int).tmod 2 = 1 := h3
              omega
            rw [if_pos h3] at hL
            refine rt rfl (at_then (rt rfl (at_block (at_then (rt rfl (at_loop (f, r * b % p, b * b % p, m / 2) ⟨hL, hm2, Nat.mod_lt _ hp0, Nat.mod_lt _ hp0, by show m / 2 < 18446744073709551616; omega⟩ (by show m / 2 < m; omega) (wk ⟨⟨_, rfl, AVle.of_eq ?_⟩, ⟨_, rfl, AVle.of_eq ?_⟩, ⟨_, rfl, AVle.refl _⟩, ⟨_, rfl, AVle.of_eq ?_⟩, trivial⟩ trivial)))))))
            · exact congrArg (fun z => AV.c (C.I .u64 z)) (mulmod_nat b b p hb hb hp)
            · exact congrArg (fun z => AV.c (C.I .u64 z)) (half_nat m hmm)
            · exact congrArg (fun z => AV.c (C.I .u64 z)) (mulmod_nat r b p hr hb hp)
          · have h3 : ¬ m % 2 = 1 := by
              intro e
              have e2 : (m : Int).tmod 2 = ((m % 2 : Nat) : Int) := tmod_nat m 2
              have h4 : ((m : Int).tmod 2 == 1) = false := h3
              rw [show (m : Int).tmod 2 = 1 by omega] at h4
              cases h4
            rw [if_neg h3] at hL
            refine tr_skip (at_then (rt rfl (at_block (at_then (rt rfl (at_loop (f, r, b * b % p, m / 2) ⟨hL, hm2, hr, Nat.mod_lt _ hp0, by show m / 2 < 18446744073709551616; omega⟩ (by show m / 2 < m; omega) (wk ⟨⟨_, rfl, AVle.of_eq ?_⟩, ⟨_, rfl, AVle.of_eq ?_⟩, ⟨_, rfl, AVle.refl _⟩, ⟨_, rfl, AVle.refl _⟩, trivial⟩ trivial)))))))
            · exact congrArg (fun z => AV.c (C.I .u64 z)) (mulmod_nat b b p hb hb hp)
            · exact congrArg (fun z => AV.c (C.I .u64 z)) (half_nat m hmm)
      · have h2 : ¬ (m : Int) > 0 := by simpa using h2
        have : m = 0 := by omega
        subst this
        refine tr_exit (at_then_exit (at_loop_exit (at_block_exit (at_then (rr rfl (tr_ret (at_ret TT_ok rfl (AVle.of_eq ?_))))))))
        rw [← hL]
        cases f with
        | zero => rfl
        | succ f => rw [powL, if_pos rfl]
theorem minv_s (a p : Nat) (ha : a < 18446744073709551616) (hz : a % p ≠ 0) (hp0 : 2 ≤ p) (hp : p ≤ 4294967296) : FnS Tryz.prog 124 [cU a, cU p] (.t [(false, [.I .u64 (invM a p)]), (false, [.I .i64 0])]) := by
  refine fs_intro Tryz.func124 rfl rfl rfl rfl rfl (by decide) ?_
  have hpz : (p : Int) ≠ 0 := by omega
  refine rr rfl (tr_seq (rb ?_))
  refine rg 8 rfl rfl (fun h => ?_) (fun h => ?_)
  · exfalso
    have h : (p : Int) < 2 := by simpa using h
    omega
  · refine re rfl (tr_cond rfl (fun h2 => ?_) (fun h2 => ?_))
    · exfalso
      have h2 : (a : Int).tmod (p : Int) = 0 := by simpa using h2
      rw [tmod_nat] at h2
      omega
    · have e : FnS Tryz.prog 180 [cU a, .c (num .u64 ((p : Int) - 2)).1, cU p] (cU (powM a (p - 2) p)) := by
        rw [show (AV.c (num .u64 ((p : Int) - 2)).1) = cU ((p - 2 : Nat) : Int) from congrArg (fun x => AV.c (C.I .u64 x)) ((wrap_u64 _ (by omega) (by omega)).trans (by omega))]
        exact mpow_s a (p - 2) p ha (by omega) (by omega) hp
      exact tr_skip (at_then (rb (rc rfl rfl e (re rfl (tr_ret (at_ret TT_ok rfl (AVle.refl _)))))))
end Go.El

/- Contracts: polynomials modulo p: trim, times. Own work; no condition. -/
namespace Go.El
open Go Go.Proofs

/-- A polynomial modulo p. -/
def aP (xs : List Int) (p : Int) : AV := .a [.S U64 xs, .I .u64 p]
theorem trim_fin {ws : List Int} {k : Nat} (hrec : trimN ws k = trimN ws ws.length) (h1 : k = 0 ∨ ws.getD (k - 1) 0 ≠ 0) : ws.take k = trimW ws := by
  unfold trimW
  rw [← hrec]
  cases k with
  | zero => rfl
  | succ k =>
    rcases h1 with h1 | h1
    · omega
    · simp only [Nat.add_sub_cancel] at h1
      simp only [trimN, h1, if_false]
set_option maxHeartbeats 1000000 in
theorem ptrim_s (ws : List Int) (p : Int) (hb : ws.length ≤ 1000000) : FnS Tryz.prog 123 [aP ws p] (aP (trimW ws) p) := by
  refine fs_intro Tryz.func123 rfl rfl rfl rfl rfl (by decide) ?_
  refine rr rfl (rr rfl ?_)
  refine tr_seq (tr_block (tr_loop (α := Nat) (fun k => ⟨[(1, .c (.P 0 0)), (2, .c (.P 1000 0)), (3, cI k)], [(0, .box 101 0 [.S U64 ws, .I .u64 p]), (1000, .box 101 0 [.V (.slice none 0 0), .I .u64 0])], 2, []⟩) (fun k => k ≤ ws.length ∧ trimN ws k = trimN ws ws.length) (fun k => k) ws.length ⟨Nat.le_refl _, rfl⟩ (wk ⟨⟨_, rfl, AVle.refl _⟩, ⟨_, rfl, AVle.refl _⟩, ⟨_, rfl, AVle.refl _⟩, trivial⟩ ⟨⟨_, rfl, BLe.of_eq rfl⟩, ⟨_, rfl, BLe.of_eq rfl⟩, trivial⟩) ?_))
  rintro k ⟨hk, hrec⟩
  refine tr_seq (rb ?_)
  refine rg 9 rfl rfl (fun h => ?_) (fun h => ?_)
  · simp at h
    refine re rfl (tr_cond rfl (fun h2 => ?_) (fun h2 => ?_))
    · refine tr_skip (at_then (tr_block (rt rfl (at_block (at_loop (k - 1) ⟨by omega, ?_⟩ (by show k - 1 < k; omega) (wk ⟨⟨_, rfl, AVle.refl _⟩, ⟨_, rfl, AVle.refl _⟩, ⟨_, rfl, AVle.of_eq ?_⟩, trivial⟩ ⟨⟨_, rfl, BLe.of_eq rfl⟩, ⟨_, rfl, BLe.of_eq rfl⟩, trivial⟩))))))
      · rw [← hrec]
        obtain ⟨j, rfl⟩ : ∃ j, k = j + 1 := ⟨k - 1, by omega⟩
        have h3 : ws.getD j 0 = 0 := by
          have : (((j + 1 : Nat) : Int) - 1).toNat = j := by omega
          simpa [this] using h2
        simp only [Nat.add_sub_cancel, trimN, h3, if_true]
      · congr 2; omega
    · refine tr_exit (at_then_exit (at_loop_exit (at_block_exit (at_then (rr rfl (tr_ret (at_ret TT_ok rfl (AVle.of_eq ?_))))))))
      refine congrArg (aP · p) ?_
      rw [← trim_fin hrec (.inr ?_)]
      · simp
      · have : ((k : Int) - 1).toNat = k - 1 := by omega
        simpa [this] using h2
  · simp at h
    subst h
    refine re rfl (tr_cond rfl (fun h2 => by simp at h2) (fun _ => ?_))
    refine tr_exit (at_then_exit (at_loop_exit (at_block_exit (at_then (rr rfl (tr_ret (at_ret TT_ok rfl (AVle.of_eq ?_))))))))
    exact congrArg (aP · p) (trim_fin hrec (.inl rfl))

/-- All coefficients lie between 0 and p. -/
def rp (p : Int) (r : List Int) : Prop := ∀ i, 0 ≤ r.getD i 0 ∧ r.getD i 0 < p
theorem rp_set {p : Int} {r : List Int} (h : rp p r) (i : Nat) {x : Int} (h0 : 0 ≤ x) (h1 : x < p) : rp p (r.set i x) := by
  intro j
  have := h j
  simp only [List.getD_eq_getElem?_getD, List.getElem?_set] at this ⊢
  split
  · split
    · exact ⟨h0, h1⟩
    · rename_i e1 e2
      simp only [Option.getD_none]
      exact ⟨Int.le_refl _, by omega⟩
  · exact this
theorem rp_rep {p : Int} (hp : 0 < p) (n : Nat) : rp p (List.replicate n 0) := by
  intro j
  simp only [List.getD_eq_getElem?_getD, List.getElem?_replicate]
  split
  · exact ⟨Int.le_refl _, hp⟩
  · exact ⟨Int.le_refl _, hp⟩
def tRow (a b : List Int) (p : Int) (i : Nat) : Nat → List Int → List Int
  | 0, r => r
  | j + 1, r => (tRow a b p i j r).set (i + j) (((tRow a b p i j r).getD (i + j) 0 + a.getD i 0 * b.getD j 0) % p)
def tAll (a b : List Int) (p : Int) : Nat → List Int
  | 0 => List.replicate (a.length + b.length - 1) 0
  | i + 1 => tRow a b p i b.length (tAll a b p i)
theorem tRow_len (a b : List Int) (p : Int) (i : Nat) (r : List Int) : ∀ j, (tRow a b p i j r).length = r.length
  | 0 => rfl
  | j + 1 => by rw [tRow, List.length_set, tRow_len a b p i r j]
theorem tAll_len (a b : List Int) (p : Int) : ∀ i, (tAll a b p i).length = a.length + b.length - 1
  | 0 => by simp [tAll]
  | i + 1 => by rw [tAll, tRow_len, tAll_len a b p i]
theorem tRow_rp {a b : List Int} {p : Int} (hp : 0 < p) (i : Nat) {r : List Int} (h : rp p r) : ∀ j, rp p (tRow a b p i j r)
  | 0 => h
  | j + 1 => rp_set (tRow_rp hp i h j) _ (Int.emod_nonneg _ (by omega)) (Int.emod_lt_of_pos _ hp)
theorem tAll_rp (a b : List Int) {p : Int} (hp : 0 < p) : ∀ i, rp p (tAll a b p i)
  | 0 => rp_rep hp _
  | i + 1 => tRow_rp hp i (tAll_rp a b hp i) _
/-- The product modulo p. -/
def ptimes (a b : List Int) (p : Int) : List Int := if a = [] ∨ b = [] then [] else trimW (tAll a b p a.length)
theorem muladd_mod (x y z p : Int) (hx : 0 ≤ x ∧ x < p) (hy : 0 ≤ y ∧ y < p) (hz : 0 ≤ z ∧ z < p) (hp : p ≤ 2147483648) : (IntKind.wrap .u64 (x + IntKind.wrap .u64 (y * z))).tmod p = (x + y * z) % p := by
  have h0 : 0 ≤ y * z := Int.mul_nonneg hy.1 hz.1
  have h1 : y * z ≤ 2147483648 * 2147483648 := Int.mul_le_mul (by omega) (by omega) hz.1 (by omega)
  rw [wrap_u64 (y * z) h0 (by omega), wrap_u64 _ (by omega) (by omega), Int.tmod_eq_emod_of_nonneg (by omega)]
theorem AVle.trans {x y z : AV} (h : AVle x y) (k : AVle y z) : AVle x z := ⟨fun g v e => k.1 g v (h.1 g v e), fun id e => h.2 id (k.2 id e)⟩
theorem AVle.a2 {x x' y : C} (h : AVle (.c x) (.c x')) : AVle (.a [x, y]) (.a [x', y]) := by
  refine ⟨?_, ?_⟩
  · rintro g v ⟨vs, rfl, v1, r, rfl, h1, h2⟩
    exact ⟨_, rfl, v1, r, rfl, h.1 g v1 h1, h2⟩
  · intro id hid
    have h2 := h.2 id
    simp only [AV.mids, midsL, List.append_nil, List.mem_append] at hid h2 ⊢
    exact hid.elim (fun h => .inl (h2 h)) .inr
set_option maxHeartbeats 2000000 in
theorem ptimes_s (a b : List Int) (p : Int) (la : a.length ≤ 1000) (lb : b.length ≤ 1000) (hp0 : 0 < p) (hp : p ≤ 2147483648) (ha : rp p a) (hb : rp p b) : FnS Tryz.prog 94 [aP a p, aP b p] (aP (ptimes a b p) p) := by
  refine fs_intro Tryz.func94 rfl rfl rfl rfl rfl (by decide) ?_
  have hpz : p ≠ 0 := by omega
  refine rr rfl (tr_seq (rb ?_))
  have fin : a = [] ∨ b = [] → aP [] p = aP (ptimes a b p) p := fun h => by rw [ptimes, if_pos h]
  refine rg 12 rfl rfl (fun h => ?_) (fun h => ?_)
  · have h : a = [] := by simpa using h
    refine re rfl (tr_cond rfl (fun h2 => ?_) (fun h2 => by simp at h2))
    exact rr rfl (tr_ret (at_then_ret (at_ret TT_ok rfl (AVle.trans (AVle.a2 (AVle.nil U64)) (AVle.of_eq (fin (.inl h)))))))
  · have h : a ≠ [] := by simpa using h
    refine re rfl (tr_cond rfl (fun h2 => ?_) (fun h2 => ?_))
    · have h2 : b = [] := by simpa using h2
      exact rr rfl (tr_ret (at_then_ret (at_ret TT_ok rfl (AVle.trans (AVle.a2 (AVle.nil U64)) (AVle.of_eq (fin (.inr h2)))))))
    · have h2 : b ≠ [] := by simpa using h2
      have pa := List.length_pos_iff.2 h
      have pb := List.length_pos_iff.2 h2
      refine tr_skip (at_then (rb ?_))
      refine rm U64 (a.length + b.length - 1) rfl rfl rfl rfl rfl rfl (zr_int .u64) (by omega) ?_ ?_ ?_
      · show _ * 8 ≤ _; omega
      · show _ * 1 ≤ _; omega
      refine re rfl (tr_seq (rr rfl ?_))
      refine tr_block (tr_loop (α := Nat) (fun i => ⟨[(2, .c (.P 0 0)), (3, .c (.P 1000 0)), (4, .c (.P 2000 0)), (5, .c (.X 2008000)), (32, cI a.length), (33, cI i)], [(0, .box 101 0 [.S U64 a, .I .u64 p]), (1000, .box 101 0 [.S U64 b, .I .u64 p]), (2000, .box 101 0 [.V (.slice none 0 0), .I .u64 0]), (2008000, .vec 25 U64 (tAll a b p i))], 4, []⟩) (fun i => i ≤ a.length) (fun i => a.length - i) 0 (Nat.zero_le _) (wk ⟨⟨_, rfl, AVle.refl _⟩, ⟨_, rfl, AVle.refl _⟩, ⟨_, rfl, AVle.refl _⟩, ⟨_, rfl, AVle.refl _⟩, ⟨_, rfl, AVle.refl _⟩, ⟨_, rfl, AVle.refl _⟩, trivial⟩ ⟨⟨_, rfl, BLe.of_eq rfl⟩, ⟨_, rfl, BLe.of_eq rfl⟩, ⟨_, rfl, BLe.of_eq rfl⟩, ⟨_, rfl, BLe.of_eq rfl⟩, trivial⟩) ?_)
      intro i hi
      have hli := tAll_len a b p i
      refine rr rfl (tr_seq ?_)
      refine tr_cond rfl (fun h3 => ?_) (fun h3 => ?_)
      · have h3 : i < a.length := by simpa using h3
        refine tr_skip (at_then (tr_seq (tr_block (rr rfl (rr rfl ?_)))))
        refine tr_block (tr_loop (α := Nat) (fun j => ⟨[(2, .c (.P 0 0)), (3, .c (.P 1000 0)), (4, .c (.P 2000 0)), (5, .c (.X 2008000)), (6, cI i), (32, cI a.length), (33, cI i), (38, cI b.length), (39, cI j)], [(0, .box 101 0 [.S U64 a, .I .u64 p]), (1000, .box 101 0 [.S U64 b, .I .u64 p]), (2000, .box 101 0 [.V (.slice none 0 0), .I .u64 0]), (2008000, .vec 25 U64 (tRow a b p i j (tAll a b p i)))], 7, []⟩) (fun j => j ≤ b.length) (fun j => b.length - j) 0 (Nat.zero_le _) (wk ⟨⟨_, rfl, AVle.refl _⟩, ⟨_, rfl, AVle.refl _⟩, ⟨_, rfl, AVle.refl _⟩, ⟨_, rfl, AVle.refl _⟩, ⟨_, rfl, AVle.refl _⟩, ⟨_, rfl, AVle.refl _⟩, ⟨_, rfl, AVle.refl _⟩, ⟨_, rfl, AVle.refl _⟩, ⟨_, rfl, AVle.refl _⟩, trivial⟩ ⟨⟨_, rfl, BLe.of_eq rfl⟩, ⟨_, rfl, BLe.of_eq rfl⟩, ⟨_, rfl, BLe.of_eq rfl⟩, ⟨_, rfl, BLe.of_eq rfl⟩, trivial⟩) ?_)
        intro j hj
        have hlj := tRow_len a b p i (tAll a b p i) j
        refine rr rfl (tr_seq ?_)
        refine tr_cond rfl (fun h4 => ?_) (fun h4 => ?_)
        · have h4 : j < b.length := by simpa using h4
          have ga := ha i
          have gb := hb j
          have gr := tRow_rp hp0 (a := a) (b := b) i (tAll_rp a b hp0 i) j (i + j)
          have eij : ((i : Int) + (j : Int)).toNat = i + j := by omega
          refine tr_skip (at_then (tr_seq (tr_block (rr rfl (rt rfl ?_ (hp := by simp only [Pr.an, Pr.h, num, i64r, true_and, and_true]; omega))))))
          refine at_block (at_then (rt rfl (at_loop (j + 1) h4 (by show b.length - (j + 1) < b.length - j; omega) (wk ⟨⟨_, rfl, AVle.refl _⟩, ⟨_, rfl, AVle.refl _⟩, ⟨_, rfl, AVle.refl _⟩, ⟨_, rfl, AVle.refl _⟩, ⟨_, rfl, AVle.refl _⟩, ⟨_, rfl, AVle.refl _⟩, ⟨_, rfl, AVle.refl _⟩, ⟨_, rfl, AVle.refl _⟩, ⟨_, rfl, AVle.refl _⟩, trivial⟩ ⟨⟨_, rfl, BLe.of_eq rfl⟩, ⟨_, rfl, BLe.of_eq rfl⟩, ⟨_, rfl, BLe.of_eq rfl⟩, ⟨_, rfl, BLe.of_eq ?_⟩, trivial⟩))))
          rw [tRow, eij, ← muladd_mod _ _ _ p gr ga gb hp]; rfl
        · have h4 : ¬ j < b.length := by simpa using h4
          have e : j = b.length := by omega
          subst e
          refine tr_exit (at_then_exit (at_loop_exit (at_block_exit (at_block (at_then (rt rfl (at_loop (i + 1) h3 (by show a.length - (i + 1) < a.length - i; omega) (wk ⟨⟨_, rfl, AVle.refl _⟩, ⟨_, rfl, AVle.refl _⟩, ⟨_, rfl, AVle.refl _⟩, ⟨_, rfl, AVle.refl _⟩, ⟨_, rfl, AVle.refl _⟩, ⟨_, rfl, AVle.refl _⟩, trivial⟩ ⟨⟨_, rfl, BLe.of_eq rfl⟩, ⟨_, rfl, BLe.of_eq rfl⟩, ⟨_, rfl, BLe.of_eq rfl⟩, ⟨_, rfl, BLe.of_eq rfl⟩, trivial⟩))))))))
      · have h3 : ¬ i < a.length := by simpa using h3
        have e : i = a.length := by omega
        subst e
        refine tr_exit (at_then_exit (at_loop_exit (at_block_exit (at_then (tr_frz 2008000 rfl rfl rfl (rb (rc rfl rfl (ptrim_s (tAll a b p a.length) p (by omega)) (re rfl (tr_ret (at_ret TT_ok rfl (AVle.of_eq ?_)))))))))))
        rw [ptimes, if_neg (fun e => e.elim h h2)]; rfl
end Go.El

/- The engine, part 41: contracts of functions that return a slice of their own. Own work; no condition. -/
namespace Go.El
open Go Go.RowKit

/-- The end of a call that returns a slice that it made. -/
def RetV (W : World) (H : FH) (E : TypeId) (T : ET) (xs : List T.den) (e : Ending) (W' : World) : Prop :=
  ∃ v H', e = .returned v ∧ RepB (fun b => W.heap.size ≤ b) ⟨H', fun _ => v⟩ W' 0 (.vec E T xs) ∧ FLe H H' ∧ (∀ b o, b < W.heap.size → H' b o = H b o) ∧ Sub H' W' ∧ Below W.heap.size W W'
structure FnV (P : Program) (f : FuncId) (args : List AV) (E : TypeId) (T : ET) (xs : List T.den) : Prop where
  call : callB P f = true
  spec : ∀ H W vs, Sub H W → RelVs ⟨H, noγ⟩ args vs → Calls P f vs.toArray W (RetV W H E T xs)
def RetQV (P : Program) (fn : Func) (E : TypeId) (T : ET) (xs : List T.den) : Post := fun F => bodyPost P fn (RetV F.w0 F.H0 E T xs)

section
variable {P : Program} {tt : TT} {n : Nat} {st : St}

theorem at_retV (htt : ttB P tt = true) {fn : Func} {t id : Nat} {E : TypeId} {T : ET} {xs : List T.den} (hl : lookA t st.sl = some (.c (.X id))) (hm : lookA id st.mem = some (.vec E T xs)) (hrs : fn.results = #[.tmp t] := by rfl) : AtQ n .ret st (RetQV P fn E T xs) := by
  intro F hF g W a h
  obtain ⟨u, hu, hrel⟩ := run_results (rs := [.tmp t]) (v := .c (.X id)) htt h hrs (by simp [resAll, resOne, hl])
  have hrep := h.blks id (.vec E T xs) (by simp [St.kn, hm])
  have hux : u = g.γ id := hrel
  refine ⟨h.defers.trans hF.ds, u, hu, u, g.H, rfl, ?_, h.le, fun b o hb => h.fresh b o hb (hF.own b), h.sub, ⟨h.below.os, h.below.tape, h.below.output, h.below.size, fun k hk => h.below.block k hk (hF.own k)⟩⟩
  rcases hrep with ⟨e1, e2⟩ | ⟨b, cap, vs, e1, e2, e3, e4, e5, e6, e7, e8⟩
  · exact .inl ⟨by rw [hux]; exact e1, e2⟩
  · refine .inr ⟨b, cap, vs, by rw [hux]; exact e1, e2, e3, e4, e5, e6, ?_, e8⟩
    rcases e7 with e7 | e7
    · exact e7
    · exact (hF.own b e7).elim

theorem fv_intro {f : FuncId} {fn : Func} {c : Code} {args : List AV} {E : TypeId} {T : ET} {xs : List T.den} (hf : P.funcs[f]? = some fn) (hb : fn.body = some c) (hN : fn.ntmps = n) (hle : Nat.ble args.length n = true) (hma : midsVs args = []) (hname : (fn.name != "runtime.NumGoroutine") = true)
    (h : TR P n c ⟨argSl 0 args, [], 0, []⟩ (RetQV P fn E T xs)) : FnV P f args E T xs := by
  refine ⟨by simp [callB, hf, hb, hname], ?_⟩
  intro H W vs hsub hrel
  refine calls_of_wp hf hb ?_
  have hlen := relVs_length hrel
  have hle := Nat.le_of_ble_eq_true hle
  refine h { w0 := W, H0 := H, n := n } ⟨rfl, rfl, fun _ h => h, rfl, rfl⟩ ⟨H, noγ⟩ W _ ⟨?_, rfl, ?_, ?_, ?_, ?_, ?_, hsub, ⟨rfl, rfl, rfl, Nat.le_refl _, fun _ _ _ => rfl⟩, FLe.refl _, fun _ _ _ _ => rfl, fun _ h => absurd h (Nat.not_lt_zero _)⟩
  · simp [hN]; omega
  · intro t v ht
    simp only [St.kn, Option.map_eq_some_iff] at ht
    obtain ⟨x, hx, he⟩ := ht
    cases he
    obtain ⟨_, u, hu, hr, _⟩ := argSl_look args vs 0 hrel t v hx
    have hu' : vs[t]? = some u := by simpa using hu
    have hlt : t < vs.length := (List.getElem?_eq_some_iff.1 hu').1
    have : (vs.toArray ++ Array.replicate (fn.ntmps - vs.toArray.size) undef).getD t undef = u := by
      rw [Array.getD_eq_getD_getElem?, Array.getElem?_append_left (by simpa using hlt)]
      simp [hu']
    rw [this]
    exact hr
  · intro id b e; simp [St.kn, lookA] at e
  · intro id id' b b' k e; simp [St.kn, lookA] at e
  · intro k x e id hid
    cases k with
    | m j => simp [St.kn, lookA] at e
    | s t =>
      simp only [St.kn, Option.map_eq_some_iff] at e
      obtain ⟨y, hy, he⟩ := e
      subst he
      obtain ⟨_, u, _, _, h6⟩ := argSl_look args vs 0 hrel t y hy
      have := h6 id hid
      rw [hma] at this
      cases this
  · intro id x e; simp [St.kn, lookA] at e

theorem callV_ok {n new : Nat} {ops : Array Oper} {i : Nat} {o : Oper} (ho : ops[i]? = some o) (hg : o.guard = none) {d : Nat} (hd : o.dst = some d) (hdn : d < n) {f : FuncId} {args : Array Operand} {tys : Array TypeId} (hop : o.op = .call ⟨.value (.func f), args, tys⟩)
    {st : St} {vs : List AV} {E : TypeId} {T : ET} {xs : List T.den} (hv : evs st args.toList = some vs) (hm : midsVs vs = []) (hf : FnV P f vs E T xs) : StepOk P n ops i st ((st.pm new (.vec E T xs)).put d (.c (.X new))) new (okeys args.toList, [.s d, .m new]) := by
  refine ⟨args.toList.flatMap (opd st), [(.s d, some (.v (.c (.X new)))), (.m new, some (.b (.vec E T xs)))], ?_, ?_, kn_put_pm st d new _ _, okeys_opd st _, fun k hk => by simpa [keysOf] using hk⟩
  · intro F hFn Q known σ g W a K hnew hsem hrd hK
    have hargs := (evs_rel hsem st _ _ hv hrd).noid (γ := noγ) hm
    have hc := hf.spec g.H W _ hsem.sub hargs
    unfold wpOp
    simp only [ho, Region.wanted, hg, if_true]
    refine .inl ?_
    unfold Oper.wp
    have hex : (execOp a.eval o).run P W = .ok (.enter f (args.map a.eval)) W := by
      have hcb := hf.call
      unfold callB at hcb
      rw [execOp, hop]
      cases hfn : P.funcs[f]? with
      | none => rw [hfn] at hcb; simp at hcb
      | some fn =>
        rw [hfn] at hcb
        simp only [Bool.and_eq_true, bne_iff_ne, ne_eq] at hcb
        have h2 : fn.body ≠ none := by
          intro hb
          rw [hb] at hcb
          simp at hcb
        simp [resolve, Act.eval, Deferred.ofValue, invoke, callFunc, hfn, hcb.1, h2]
    rw [hex]
    simp only [Oper.upon]
    have harr : (args.map a.eval) = (args.toList.map a.eval).toArray := by apply Array.ext'; simp
    rw [harr]
    refine hc.mono ?_
    rintro e W' ⟨v, H', rfl, hrep, hle, hfr, hsub, hbl⟩
    simp only [hd]
    have hsz : d < a.tmps.size := by rw [hsem.size, hFn]; exact hdn
    let g' : Gh := ⟨H', fun id => if id = new then v else g.γ id⟩
    have hGle : GLe known g g' := ⟨hle, fun id hid => by
      have : id ≠ new := fun e => hnew (e ▸ hid)
      simp [g', this]⟩
    refine hK g' W' _ (hsem.step (chg := fun _ => False) (g' := g') ⟨hGle, hfr, hsub, hbl.size, fun k hk _ => hbl.block k hk, hbl.os, hbl.tape, hbl.output⟩ _ new hnew (by simp [Act.put]) hsem.defers ?_ (fun _ h => h.elim) ?_ ?_ ?_ ?_)
    · intro t ht
      have hne : d ≠ t := by intro e; subst e; simp [says] at ht
      simp [Act.put, Array.getElem?_setIfInBounds_ne hne]
    · intro t u ht
      simp only [says] at ht
      split at ht
      · rename_i e
        simp only [Key.s.injEq] at e
        simp only [Option.some.injEq, Info.v.injEq] at ht
        subst e; subst ht
        simp [Act.put, hsz, RelV, RelC, g']
      · split at ht
        · simp at ht
        · simp at ht
    · intro id b ht
      simp only [says, reduceCtorEq, if_false] at ht
      split at ht
      · rename_i e
        simp only [Key.m.injEq] at e
        simp only [Option.some.injEq, Info.b.injEq] at ht
        subst e; subst ht
        have hs0 := hsem.below.size
        rcases hrep with ⟨e1, e2⟩ | ⟨b, cap, ws, e1, e2, e3, e4, e5, e6, e7, e8⟩
        · refine ⟨.inl ⟨by simpa [g'] using e1, e2⟩, .inr ⟨rfl, fun k hk => ?_⟩⟩
          have e1 : v = .slice none 0 0 := e1
          simp [g', e1, blk] at hk
        · have e1 : v = .slice (some ⟨b, 0, none⟩) xs.length cap := e1
          have e7 : W.heap.size ≤ b := e7
          refine ⟨.inr ⟨b, cap, ws, by simpa [g'] using e1, e2, e3, e4, e5, e6, .inl (by omega), e8⟩, .inr ⟨rfl, fun k hk => ?_⟩⟩
          simp [g', e1, blk] at hk
          exact .inl (by omega)
      · simp at ht
    · intro k y ht
      simp only [says] at ht
      split at ht
      · simp only [Option.some.injEq] at ht
        subst ht
        intro id hid
        simp [Info.mids, AV.mids, C.mids] at hid
        exact .inr hid
      · split at ht
        · simp only [Option.some.injEq] at ht
          subst ht
          intro id hid
          simp [Info.mids, Blk.mids] at hid
        · simp at ht
    · intro id y ht
      simp only [says, reduceCtorEq, if_false] at ht
      split at ht
      · rename_i e
        simp only [Key.m.injEq] at e
        exact .inr e.symm
      · simp at ht
  · intro kx hkx
    obtain ⟨x, _, h⟩ := List.mem_flatMap.1 hkx
    exact opd_kn st x kx h

theorem rg_callV {n : Nat} {ops : Array Oper} {draw : Bool} {nx i : Nat} {d f : Nat} {args : Array Operand} {tys : Array TypeId} {ty : TypeId} {pos : String} {aft : Array Edge} {os : List Oper} {sl : List (Nat × AV)} {mem : List (Nat × Blk)} {n0 : Nat} {gd : List (Nat × Bool)} {ks : List Ks} {Q : St → Prop} {vs : List AV} {E : TypeId} {T : ET} {xs : List T.den}
    (hv : evs ⟨sl, mem, n0, gd⟩ args.toList = some vs) (hf : FnV P f vs E T xs) (h : RG P n ops draw nx (i + 1) os ⟨(d, .c (.X (1000000 * nx + 1000 * i))) :: sl, (1000000 * nx + 1000 * i, .vec E T xs) :: mem, n0, gd⟩ (addK draw ks (okeys args.toList, [.s d, .m (1000000 * nx + 1000 * i)])) Q) (hm : midsVs vs = [] := by rfl) (hdn : Nat.blt d n = true := by rfl) :
    RG P n ops draw nx i (⟨some d, .call ⟨.value (.func f), args, tys⟩, ty, pos, aft, none⟩ :: os) ⟨sl, mem, n0, gd⟩ ks Q :=
  rg_ok (fun ho => callV_ok ho rfl rfl (Nat.le_of_ble_eq_true hdn) rfl hv hm hf) (rg_addK h)
end
end Go.El

/- Short rules: an operation that only the wider evaluation covers. Own work; no condition. -/
namespace Go.El
open Go Go.RowKit Go.Proofs

section
variable {P : Program} {tt : TT}
theorem evalM_ok (htt : ttB P tt = true) {n new : Nat} {ops : Array Oper} {i : Nat} {o : Oper} (ho : ops[i]? = some o) (hg : o.guard = none) {d : Nat} (hd : o.dst = some d) (hdn : d < n) {st : St} {x : AV} {p : Pr} (he : evalM tt st o.op = some (x, p)) (hp : p) : StepOk P n ops i st (st.put d x) new (okeys o.op.operands.toList, [.s d]) := by
  refine ⟨rdV st o.op, [(.s d, some (.v x))], evalM_sound htt ho hg hd hdn he hp new, ?_, kn_put st d x, okeys_opd st _, fun k hk => by simpa [keysOf] using hk⟩
  intro kx hkx
  obtain ⟨x, _, h⟩ := List.mem_flatMap.1 hkx
  exact opd_kn st x kx h
theorem rg_evalM {n : Nat} {ops : Array Oper} {draw : Bool} {nx i : Nat} {d : Nat} {op : Op} {ty : TypeId} {pos : String} {aft : Array Edge} {os : List Oper} {sl : List (Nat × AV)} {mem : List (Nat × Blk)} {n0 : Nat} {gd : List (Nat × Bool)} {ks : List Ks} {Q : St → Prop} (htt : ttB P tt = true) {x : AV} {p : Pr} (he : evalM tt ⟨sl, mem, n0, gd⟩ op = some (x, p)) (hp : p)
    (h : RG P n ops draw nx (i + 1) os ⟨(d, x) :: sl, mem, n0, gd⟩ (addK draw ks (okeys op.operands.toList, [.s d])) Q) (hdn : Nat.blt d n = true := by rfl) :
    RG P n ops draw nx i (⟨some d, op, ty, pos, aft, none⟩ :: os) ⟨sl, mem, n0, gd⟩ ks Q :=
  rg_ok (fun ho => evalM_ok htt ho rfl rfl (Nat.le_of_ble_eq_true hdn) he hp) (rg_addK h)
end

section
variable {n : Nat} {Q : Post} {sl sl' : List (Nat × AV)} {mem mem' : List (Nat × Blk)} {nx : Nat} {gd gd' : List (Nat × Bool)} {ops : Array Oper} {draw : Bool} {p : Pr} {ks ks' : List Ks} {i i' n0 n0' : Nat} {os os' : List Oper} {d : Nat} {ty : TypeId} {pos : String} {aft : Array Edge} {R : St → Prop}
theorem rx {op : Op} {x : AV} {pm : Pr} (h : runs TTab n nx draw ops.toList os i ⟨sl, mem, n0, gd⟩ .t ks = (⟨some d, op, ty, pos, aft, none⟩ :: os', i', ⟨sl', mem', n0', gd'⟩, p, ks')) (he : evalM TTab ⟨sl', mem', n0', gd'⟩ op = some (x, pm)) (hpm : pm)
    (hk : RG Tryz.prog n ops draw nx (i' + 1) os' ⟨(d, x) :: sl', mem', n0', gd'⟩ (addK draw ks' (okeys op.operands.toList, [.s d])) R)
    (hp : p := by first | trivial | (simp only [Pr.an, Pr.h, num, i64r, true_and, and_true]; first | done | omega) | (simp [Pr.an, Pr.h, num, i64r]; done) | (simp [Pr.an, Pr.h, num, i64r]; omega)) (hdn : Nat.blt d n = true := by rfl) : RG Tryz.prog n ops draw nx i os ⟨sl, mem, n0, gd⟩ ks R :=
  rg_run TT_ok h hp (rg_evalM TT_ok he hpm hk hdn)
/-- Up to a call that returns a slice of its own. -/
theorem rcv {f : FuncId} {args : Array Operand} {tys : Array TypeId} {vs : List AV} {E : TypeId} {T : ET} {xs : List T.den} (h : runs TTab n nx draw ops.toList os i ⟨sl, mem, n0, gd⟩ .t ks = (⟨some d, .call ⟨.value (.func f), args, tys⟩, ty, pos, aft, none⟩ :: os', i', ⟨sl', mem', n0', gd'⟩, p, ks')) (hv : evs ⟨sl', mem', n0', gd'⟩ args.toList = some vs) (hf : FnV Tryz.prog f vs E T xs)
    (hk : RG Tryz.prog n ops draw nx (i' + 1) os' ⟨(d, .c (.X (1000000 * nx + 1000 * i'))) :: sl', (1000000 * nx + 1000 * i', .vec E T xs) :: mem', n0', gd'⟩ (addK draw ks' (okeys args.toList, [.s d, .m (1000000 * nx + 1000 * i')])) R)
    (hp : p := by first | trivial | (simp only [Pr.an, Pr.h, num, i64r, true_and, and_true]; first | done | omega) | (simp [Pr.an, Pr.h, num, i64r]; done) | (simp [Pr.an, Pr.h, num, i64r]; omega)) (hm : midsVs vs = [] := by rfl) (hdn : Nat.blt d n = true := by rfl) : RG Tryz.prog n ops draw nx i os ⟨sl, mem, n0, gd⟩ ks R :=
  rg_run TT_ok h hp (rg_callV hv hf hk hm hdn)
end
end Go.El
