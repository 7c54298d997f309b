/- The fast interpreter, part 4: one operation is sound. Own work; no condition. -/
import Derived.Test.YtkkccchkmcjcpaaGreatM4
set_option linter.unusedVariables false
set_option linter.unusedSimpArgs false
namespace Go.El
open Go Go.RowKit
def FtR : Ft → Nat → Prop
 | .n, _ => False
 | .m rd _, id => id ∈ rd
 | .c k _ _, id => id < k
def FtW : Ft → Nat → Prop
 | .n, _ => False
 | .m _ wr, id => id ∈ wr
 | .c k k' wl, id => (id ∈ wl ∧ id < k) ∨ (k ≤ id ∧ id < k')
def CovK (ks sk : Ks) (f : Ft) : Prop := (∀ key ∈ ks.1, match key with | .s t => Key.s t ∈ sk.1 | .m id => FtR f id) ∧ ∀ key ∈ ks.2, match key with | .s t => Key.s t ∈ sk.2 | .m id => FtW f id
def wfM (ms : Ms) (k : Nat) : Prop := ∀ id b, lookS id ms = some b → id < k ∧ ∀ j ∈ b.mids, j < k
def wfT (dep n : Nat) (t : Tr) (k : Nat) : Prop := ∀ j v, j < n → getT (pth dep j) t = some v → ∀ id ∈ v.mids, id < k
def Tails (ms ms' : Ms) : Prop := ∀ i j b, 1 ≤ i → lookS j (ms'.drop i) = some b → ∃ b0, lookS j (ms.drop i) = some b0
theorem Tails.refl (ms : Ms) : Tails ms ms := fun _ _ b _ h => ⟨b, h⟩
theorem Tails.trans {a b c : Ms} (h : Tails a b) (g : Tails b c) : Tails a c := fun i j x hi hx => by
 obtain ⟨y, hy⟩ := g i j x hi hx
 exact h i j y hi hy
theorem tails_put (id : Nat) (b : Blk) (ms : Ms) : Tails ms (putS id b ms) := by
 intro i j x _ hx
 have key : ∀ (ms : Ms) (i : Nat) (x : Blk), lookS j ((putS id b ms).drop i) = some x → ∃ y, lookS j (ms.drop i) = some y := by
  intro ms
  induction ms with
  | nil => intro i x hx; exact ⟨x, hx⟩
  | cons m r ih =>
   intro i x hx
   have e2 : putS id b (m :: r) = match lookF id m with | some _ => putF id b m :: r | none => m :: putS id b r := rfl
   cases i with
   | zero =>
    simp only [List.drop_zero] at hx ⊢
    rw [lookS_put] at hx
    split at hx
    ·rename_i y hy
     split at hx
     ·rename_i e; subst e; exact ⟨y, hy⟩
     ·exact ⟨x, hx⟩
    ·exact ⟨x, hx⟩
   | succ i =>
    rw [e2] at hx
    split at hx
    ·exact ⟨x, by simpa using hx⟩
    ·exact ih i x (by simpa using hx)
 exact key ms i x hx
theorem tails_del (id : Nat) (ms : Ms) : Tails ms (delS id ms) := by
 intro i j x _ hx
 have key : ∀ (ms : Ms) (i : Nat), (delS id ms).drop i = delS id (ms.drop i) := by
  intro ms
  induction ms with
  | nil => intro i; simp [delS]
  | cons m r ih => intro i; cases i with
   | zero => rfl
   | succ i => simpa [delS] using ih i
 rw [key, lookS_del] at hx
 split at hx
 ·cases hx
 ·exact ⟨x, hx⟩
theorem tails_cons (k : Nat) (b : Blk) (ms : Ms) : Tails ms (consS k b ms) := by
 intro i j x hi hx
 obtain ⟨i, rfl⟩ : ∃ i', i = i' + 1 := ⟨i - 1, by omega⟩
 cases ms with
 | nil => exact ⟨x, by simpa [consS] using hx⟩
 | cons m r => exact ⟨x, by simpa [consS] using hx⟩
structure CalOk (P : Program) (cal : CallG) : Prop where
 ok : ∀ {f vs ms k r ms' k' wl}, cal f vs ms k = .ok r ms' k' wl → wfM ms k → (∀ id ∈ midsVs vs, id < k) →
  CX P f vs ms.flatten k r ms'.flatten k' ∧ (∀ id ∈ r.mids, k ≤ id ∨ ∃ b, lookS id ms = some b) ∧ (∀ id b, lookS id ms' = some b → lookS id ms = some b ∨ ∀ j ∈ b.mids, k ≤ j ∨ ∃ b, lookS j ms = some b) ∧
   (∀ id, id < k → id ∉ wl → lookS id ms' = lookS id ms) ∧ (∀ id b, lookS id ms' = some b → k ≤ id ∨ ∃ b0, lookS id ms = some b0) ∧ wfM ms' k' ∧ (∀ id ∈ r.mids, id < k') ∧ Tails ms ms'
section
variable {P : Program} {tt : TT} {dep n : Nat} {t : Tr} {ms : Ms} {k : Nat}
theorem wfM.le {k' : Nat} (h : wfM ms k) (hk : k ≤ k') : wfM ms k' := fun id b hb => ⟨Nat.lt_of_lt_of_le (h id b hb).1 hk, fun j hj => Nat.lt_of_lt_of_le ((h id b hb).2 j hj) hk⟩
theorem wfT.le {k' : Nat} (h : wfT dep n t k) (hk : k ≤ k') : wfT dep n t k' := fun j v hj hv id hid => Nat.lt_of_lt_of_le (h j v hj hv id hid) hk
theorem wfT.set (h : wfT dep n t k) (hn : n ≤ 4 ^ dep) {d : Nat} (hd : d < n) {v : AV} (hv : ∀ id ∈ v.mids, id < k) : wfT dep n (setT (pth dep d) v t) k := by
 intro j u hj hu
 by_cases e : d = j
 ·subst e; rw [get_set] at hu; cases hu; exact hv
 ·rw [get_set_ne _ _ _ _ (by rw [pth_length, pth_length]) (fun e' => e (pth_inj dep (by omega) (by omega) e'))] at hu
  exact h j u hj hu
theorem wfT.del (h : wfT dep n t k) (hn : n ≤ 4 ^ dep) {d : Nat} (hd : d < n) : wfT dep n (delT (pth dep d) t) k := by
 intro j u hj hu
 by_cases e : d = j
 ·subst e; rw [get_del] at hu; cases hu
 ·rw [get_del_ne _ _ _ (by rw [pth_length, pth_length]) (fun e' => e (pth_inj dep (by omega) (by omega) e'))] at hu
  exact h j u hj hu
theorem blt_lt {a b : Nat} (h : Nat.blt a b = true) : a < b := by simpa [Nat.blt_eq] using h
theorem compP_ev {m : Mem} {x : Operand} {p : Pd} (h : compP dep n x = some p) {v : AV} (he : evP t p = some v) : (absS dep n t m).ev x = some v := by
 cases x with
 | tmp j =>
  simp only [compP] at h
  split at h
  ·rename_i hj
   cases h
   simp only [St.ev, absS, look_slots, if_pos (blt_lt hj)]
   exact he
  ·cases h
 | const u => simp only [compP, Option.some.injEq] at h; subst h; exact he
 | func f => simp only [compP, Option.some.injEq] at h; subst h; exact he
 | global g => simp [compP] at h
theorem compPs_ev {m : Mem} : ∀ {xs : List Operand} {ps : List Pd}, compPs dep n xs = some ps → ∀ {vs : List AV}, evPs t ps = some vs → evs (absS dep n t m) xs = some vs
 | [], ps, h, vs, he => by simp only [compPs, Option.some.injEq] at h; subst h; exact he
 | x :: xs, ps, h, vs, he => by
  simp only [compPs] at h
  split at h
  ·rename_i p qs h1 h2
   cases h
   have e : evPs t (p :: qs) = match evP t p with
    | some v => (match evPs t qs with | some vs => some (v :: vs) | none => none)
    | none => none := rfl
   rw [e] at he
   split at he
   ·rename_i v hv
    split at he
    ·rename_i us hus
     cases he
     simp only [evs, compP_ev h1 hv, compPs_ev h2 hus]
    ·cases he
   ·cases he
  ·cases h
theorem ev_low {m : Mem} (hw : wfT dep n t k) {x : Operand} {p : Pd} (h : compP dep n x = some p) {v : AV} (he : evP t p = some v) : ∀ id ∈ v.mids, id < k := by
 cases x with
 | tmp j =>
  simp only [compP] at h
  split at h
  ·rename_i hj
   cases h
   exact hw j v (blt_lt hj) he
  ·cases h
 | const u =>
  simp only [compP, Option.some.injEq] at h; subst h
  have : constAV u = v := by simpa [evP] using he
  subst this
  intro id hid
  cases u <;> simp [constAV, AV.mids, C.mids] at hid
 | func f =>
  simp only [compP, Option.some.injEq] at h; subst h
  have : AV.c (.V (.func (.func f) #[] #[])) = v := by simpa [evP] using he
  subst this
  intro id hid
  simp [AV.mids, C.mids] at hid
 | global g => simp [compP] at h
theorem evs_low (hw : wfT dep n t k) : ∀ {xs : List Operand} {ps : List Pd}, compPs dep n xs = some ps → ∀ {vs : List AV}, evPs t ps = some vs → ∀ id ∈ midsVs vs, id < k
 | [], ps, h, vs, he => by
  simp only [compPs, Option.some.injEq] at h; subst h
  have : vs = [] := by simpa [evPs] using he.symm
  subst this
  simp [midsVs]
 | x :: xs, ps, h, vs, he => by
  simp only [compPs] at h
  split at h
  ·rename_i p qs h1 h2
   cases h
   have e : evPs t (p :: qs) = match evP t p with
    | some v => (match evPs t qs with | some vs => some (v :: vs) | none => none)
    | none => none := rfl
   rw [e] at he
   split at he
   ·rename_i v hv
    split at he
    ·rename_i us hus
     cases he
     intro id hid
     simp only [midsVs, List.mem_append] at hid
     rcases hid with hid | hid
     ·exact ev_low (m := []) hw h1 hv id hid
     ·exact evs_low hw h2 hus id hid
    ·cases he
   ·cases he
  ·cases h
theorem sx_V (htt : ttB P tt = true) {o : Oper} (hg : o.guard = none) {d : Nat} (hd : o.dst = some d) (hdn : d < n) (hn : n ≤ 4 ^ dep) {m : Mem} {v : AV} {p : Pr} (he : evalV tt (absS dep n t m) o.op = some (v, p)) (hp : p.h) :
  StepX P n #[o] 0 (absS dep n t m) (absS dep n (setT (pth dep d) v t) m) k (k + 1) (okeys o.op.operands.toList, [.s d]) :=
 StepX.of_s (evalV_sound htt (ops := #[o]) (i := 0) rfl hg hd hdn he hp k) (rdV_kn _ _) (abs_set dep n t m d v hn hdn) keysV (by simp [keysOf])
theorem sx_L (htt : ttB P tt = true) {o : Oper} (hg : o.guard = none) {d : Nat} (hd : o.dst = some d) (hdn : d < n) (hn : n ≤ 4 ^ dep) {m : Mem} {v : AV} {p : Pr} (he : evalL tt (absS dep n t m) o.op = some (v, p)) (hp : p.h) :
  StepX P n #[o] 0 (absS dep n t m) (absS dep n (setT (pth dep d) v t) m) k (k + 1) (okeys o.op.operands.toList, [.s d]) :=
 StepX.of_s (evalL_sound htt (ops := #[o]) (i := 0) rfl hg hd hdn he hp k) (rdV_kn _ _) (abs_set dep n t m d v hn hdn) keysV (by simp [keysOf])
theorem sx_M (htt : ttB P tt = true) {o : Oper} (hg : o.guard = none) {d : Nat} (hd : o.dst = some d) (hdn : d < n) (hn : n ≤ 4 ^ dep) {m : Mem} {v : AV} {p : Pr} (he : evalM tt (absS dep n t m) o.op = some (v, p)) (hp : p.h) :
  StepX P n #[o] 0 (absS dep n t m) (absS dep n (setT (pth dep d) v t) m) k (k + 1) (okeys o.op.operands.toList, [.s d]) :=
 StepX.of_s (evalM_sound htt (ops := #[o]) (i := 0) rfl hg hd hdn he hp k) (rdV_kn _ _) (abs_set dep n t m d v hn hdn) keysV (by simp [keysOf])
theorem sx_ld (htt : ttB P tt = true) {o : Oper} (hg : o.guard = none) {d : Nat} (hd : o.dst = some d) (hdn : d < n) (hn : n ≤ 4 ^ dep) {ty : TypeId} {x : Operand} (hop : o.op = .load ty x) {v u : AV} {ids : List Nat} (hx : (absS dep n t ms.flatten).ev x = some v) (he : ldF tt ms ty v = some (u, ids)) :
  StepX P n #[o] 0 (absS dep n t ms.flatten) (absS dep n (setT (pth dep d) u t) ms.flatten) k (k + 1) (okeys [x] ++ mkeys ids, [.s d]) := by
 have hl : ldA tt (absS dep n t ms.flatten) ty v = some (u, .t, ids) := by
  unfold ldF at he
  unfold ldA
  split at he
  ·cases he
  ·rename_i sz ag hnz hts
   have hnz' : sz ≠ 0 := hnz
   simp only [hts]
   split at he
   ·rename_i id off
    have e : lookA id (absS dep n t ms.flatten).mem = lookS id ms := look_flat id ms
    simp only [e]
    split at he
    ·rename_i E bz cs hb
     simp only [hb]
     split at he
     ·rename_i y hy
      cases he
      simp only [partF_eq hy (fun e => absurd e hnz')]
     ·cases he
    ·rename_i E cs hb
     simp only [hb]
     split at he
     ·rename_i y hy
      cases he
      simp only [partF_eq hy (fun e => absurd e hnz')]
     ·cases he
    ·cases he
   ·rename_i T e off
    split at he
    ·rename_i y hy
     cases he
     simp only [partF_eq hy (fun e => absurd e hnz')]
    ·cases he
   ·cases he
  ·cases he
 refine StepX.of_s (ld_sound htt (ops := #[o]) (i := 0) rfl hg hd hdn hop hx hl trivial k) ?_ (abs_set dep n t ms.flatten d u hn hdn) ?_ (by simp [keysOf])
 ·intro kx hkx
  rcases List.mem_append.1 hkx with h | h
  ·exact opd_kn _ _ kx h
  ·exact mrd_kn _ _ kx h
 ·intro key hk
  simp only [rkeysOf, List.map_append, List.mem_append] at hk ⊢
  rcases hk with h | h
  ·exact .inl (okeys_opd (absS dep n t ms.flatten) [x] key (by simpa [rkeysOf] using h))
  ·exact .inr (mkeys_mrd _ _ key h)
theorem sx_st (htt : ttB P tt = true) {o : Oper} (hg : o.guard = none) (hd : o.dst = none) {ty : TypeId} {x y : Operand} (hop : o.op = .store ty x y) {v w : AV} {id : Nat} {b : Blk} {us : List C} (hx : (absS dep n t ms.flatten).ev x = some v) (hy : (absS dep n t ms.flatten).ev y = some w) (he : stF tt ms ty v w = some (id, b, us)) :
  StepX P n #[o] 0 (absS dep n t ms.flatten) (absS dep n t (putS id b ms).flatten) k (k + 1) (okeys [x, y] ++ mkeys [id], [.m id]) ∧ (∃ b0, lookS id ms = some b0 ∧ ∀ j ∈ b.mids, j ∈ b0.mids ∨ j ∈ midsL us) := by
 have hl : stA tt (absS dep n t ms.flatten) ty v w = some (id, b) ∧ ∃ b0, lookS id ms = some b0 ∧ ∀ j ∈ b.mids, j ∈ b0.mids ∨ j ∈ midsL us := by
  unfold stF at he
  unfold stA
  split at he
  ·rename_i sz ag id' off us' hts hc
   simp only [hts, hc]
   have e : lookA id' (absS dep n t ms.flatten).mem = lookS id' ms := look_flat id' ms
   simp only [e]
   unfold stF1 at he
   split at he
   ·rename_i E bz cs hb
    split at he
    ·rename_i hif
     simp only [Bool.and_eq_true] at hif
     split at he
     ·rename_i x hx
      cases he
      obtain ⟨h1, rfl⟩ := ovF_eq us off cs x hx
      have hlen : us.length = sz := Nat.eq_of_beq_eq_true hif.1
      simp only [hb]
      rw [if_pos ⟨hlen, by omega, okA_eq hif.2⟩]
      exact ⟨rfl, _, rfl, fun j hj => midsL_over cs us off j hj⟩
     ·cases he
    ·cases he
   ·cases he
  ·cases he
 refine ⟨?_, hl.2⟩
 obtain ⟨hl, b0, hb0, _⟩ := hl
 refine StepX.of_s (store_sound htt (ops := #[o]) (i := 0) rfl hg hd hop hx hy hl k) ?_ ?_ ?_ (by simp [keysOf])
 ·intro kx hkx
  rcases List.mem_append.1 hkx with h | h
  ·rcases List.mem_append.1 h with h | h
   ·exact opd_kn _ _ kx h
   ·exact opd_kn _ _ kx h
  ·exact mrd_kn _ _ kx h
 ·refine abs_mem dep n t ms.flatten _ _ (fun j => ?_) (fun j => by simp [says])
  rw [look_flat, lookS_put, hb0]
  simp only [upd, says, Key.m.injEq]
  by_cases e : id = j
  ·simp [e]
  ·simp [e, absS, St.kn, look_flat]
 ·exact keys3
end
end Go.El

/- The fast interpreter, part 5: operations by the slow step; calls. Own work; no condition. -/
namespace Go.El
open Go Go.RowKit
theorem okeys_s : ∀ {l : List Operand} {key : Key}, key ∈ okeys l → ∃ j, key = .s j
 | [], key, h => by simp [okeys] at h
 | .tmp j :: r, key, h => by
  simp only [okeys, List.mem_cons] at h
  exact h.elim (fun e => ⟨j, e⟩) okeys_s
 | .const _ :: r, key, h => okeys_s (l := r) (by simpa [okeys] using h)
 | .func _ :: r, key, h => okeys_s (l := r) (by simpa [okeys] using h)
 | .global _ :: r, key, h => okeys_s (l := r) (by simpa [okeys] using h)
theorem slotsOf_okeys {j : Nat} : ∀ {l : List Operand}, j ∈ slotsOf l ↔ Key.s j ∈ okeys l
 | [] => by simp [slotsOf, okeys]
 | .tmp i :: r => by simp [slotsOf, okeys, slotsOf_okeys (l := r)]
 | .const _ :: r => by simp [slotsOf, okeys, slotsOf_okeys (l := r)]
 | .func _ :: r => by simp [slotsOf, okeys, slotsOf_okeys (l := r)]
 | .global _ :: r => by simp [slotsOf, okeys, slotsOf_okeys (l := r)]
section
variable {P : Program} {tt : TT} {dep n : Nat} {t : Tr} {ms : Ms} {k : Nat}
theorem slP_mem : ∀ {l : List Nat} {sl : List (Nat × List D4)}, slP dep n l = some sl → ∀ x ∈ sl, x.2 = pth dep x.1 ∧ x.1 < n ∧ x.1 ∈ l
 | [], sl, h, x, hx => by simp only [slP, Option.some.injEq] at h; subst h; cases hx
 | j :: r, sl, h, x, hx => by
  simp only [slP] at h
  split at h
  ·rename_i l hj hl
   cases h
   rcases List.mem_cons.1 hx with rfl | hx
   ·exact ⟨rfl, blt_lt hj, by simp⟩
   ·obtain ⟨h1, h2, h3⟩ := slP_mem hl x hx
    exact ⟨h1, h2, by simp [h3]⟩
  ·cases h
theorem mini_sub : ∀ {sl : List (Nat × List D4)}, (∀ x ∈ sl, x.2 = pth dep x.1 ∧ x.1 < n) → ∀ {j : Nat} {v : AV}, lookA j (mini sl t) = some v → j < n ∧ getT (pth dep j) t = some v
 | [], _, j, v, h => by simp [mini, lookA] at h
 | x :: r, hs, j, v, h => by
  have e : mini (x :: r) t = match getT x.2 t with | some v => (x.1, v) :: mini r t | none => mini r t := rfl
  rw [e] at h
  obtain ⟨h1, h2⟩ := hs x (by simp)
  have ih := mini_sub (sl := r) (fun y hy => hs y (by simp [hy])) (j := j) (v := v)
  split at h
  ·rename_i u hu
   simp only [lookA] at h
   split at h
   ·rename_i ej
    cases h
    subst ej
    exact ⟨h2, by rw [← h1]; exact hu⟩
   ·exact ih h
  ·exact ih h
theorem miniM_sub : ∀ {ids : List Nat} {id : Nat} {b : Blk}, lookA id (miniM ids ms) = some b → lookS id ms = some b
 | [], id, b, h => by simp [miniM, lookA] at h
 | i :: r, id, b, h => by
  have e : miniM (i :: r) ms = match lookS i ms with | some b => (i, b) :: miniM r ms | none => miniM r ms := rfl
  rw [e] at h
  split at h
  ·rename_i u hu
   simp only [lookA] at h
   split at h
   ·rename_i ej; cases h; subst ej; exact hu
   ·exact miniM_sub h
  ·exact miniM_sub h
theorem mK_mem {id : Nat} : ∀ {l : List Key}, id ∈ mK l ↔ Key.m id ∈ l
 | [] => by simp [mK]
 | .m j :: r => by simp [mK, mK_mem (l := r)]
 | .s j :: r => by simp [mK, mK_mem (l := r)]
theorem wS_none : ∀ {l : List Key}, wS none l = true → ∀ j, Key.s j ∉ l
 | [], _, j => by simp
 | .m i :: r, h, j => by simp only [wS] at h; simpa using wS_none h j
 | .s i :: r, h, j => by simp [wS] at h
theorem wS_some {d : Nat} : ∀ {l : List Key}, wS (some d) l = true → ∀ j, Key.s j ∈ l → j = d
 | [], _, j, hj => by simp at hj
 | .m i :: r, h, j, hj => by simp only [wS] at h; exact wS_some h j (by simpa using hj)
 | .s i :: r, h, j, hj => by
  simp only [wS] at h
  split at h
  ·rename_i hb
   rcases List.mem_cons.1 hj with e | hj
   ·cases e; exact (Nat.eq_of_beq_eq_true hb).symm
   ·exact wS_some h j hj
  ·cases h
theorem memN_mem {j : Nat} : ∀ {l : List Nat}, memN j l = true ↔ j ∈ l
 | [] => by simp [memN]
 | x :: r => by
  simp only [memN]
  cases hb : Nat.beq x j with
  | true => simp [(Nat.eq_of_beq_eq_true hb).symm]
  | false =>
   have hne : j ≠ x := by intro e; subst e; simp [Nat.beq_refl] at hb
   simp [memN_mem (l := r), hne]
theorem rS_ok {sl : List Nat} : ∀ {l : List Key}, rS sl l = true → ∀ j, Key.s j ∈ l → j ∈ sl
 | [], _, j, hj => by simp at hj
 | .m i :: r, h, j, hj => by simp only [rS] at h; exact rS_ok h j (by simpa using hj)
 | .s i :: r, h, j, hj => by
  simp only [rS] at h
  split at h
  ·rename_i hb
   rcases List.mem_cons.1 hj with e | hj
   ·cases e; exact memN_mem.1 hb
   ·exact rS_ok h j hj
  ·cases h
theorem logW_ok {ke id : Nat} {wl : List Nat} {j : Nat} (hj : j < ke) (h : j ∉ logW ke id wl) : j ∉ wl ∧ j ≠ id := by
 unfold logW at h
 split at h
 ·simp only [List.mem_cons, not_or] at h; exact ⟨h.2, h.1⟩
 ·rename_i hb
  refine ⟨h, ?_⟩
  intro e; subst e
  have : Nat.blt j ke = true := by simpa [Nat.blt_eq] using hj
  rw [this] at hb; cases hb
structure AppOk (k ke : Nat) (mm mem' : Mem) (ids : List Nat) (ms : Ms) (wl : List Nat) (ms' : Ms) (wl' : List Nat) : Prop where
 out : ∀ j, j ∉ ids → lookS j ms' = lookS j ms
 inn : ∀ j, j ∈ ids → lookS j ms' = lookA j mem'
 gone : ∀ j, j ∈ ids → lookA j mem' = none → ∃ b, lookA j mm = some b
 log : ∀ j, j < ke → j ∉ wl' → j ∉ wl ∧ lookS j ms' = lookS j ms
 old : ∀ j b, j < ke → lookS j ms' = some b → ∃ b0, lookS j ms = some b0
 wf : wfM ms (k + 1) → wfM ms' (k + 1)
 tl : Tails ms ms'
theorem applyW_ok {ke : Nat} (hke : ke ≤ k) {mm mem' : Mem} : ∀ {ids : List Nat} {ms : Ms} {wl : List Nat} {ms' : Ms} {wl' : List Nat}, applyW k ke mm mem' ids ms wl = some (ms', wl') → AppOk k ke mm mem' ids ms wl ms' wl'
 | [], ms, wl, ms', wl', h => by
  have : ms = ms' ∧ wl = wl' := by simpa [applyW] using h
  obtain ⟨rfl, rfl⟩ := this
  exact ⟨fun _ _ => rfl, fun _ h => (by cases h), fun _ h => (by cases h), fun _ _ h => ⟨h, rfl⟩, fun _ b _ h => ⟨b, h⟩, id, Tails.refl _⟩
 | i :: r, ms, wl, ms', wl', h => by
  have e : applyW k ke mm mem' (i :: r) ms wl = match lookF i mem' with
   | some b => (match lowB (k + 1) b with
    | true => (match Nat.beq i k with
     | true => applyW k ke mm mem' r (consS k b ms) wl
     | false => (match lookS i ms with
      | some _ => applyW k ke mm mem' r (putS i b ms) (logW ke i wl)
      | none => none))
    | false => none)
   | none => (match lookF i mm with
    | some _ => applyW k ke mm mem' r (delS i ms) (logW ke i wl)
    | none => none) := rfl
  rw [e] at h
  simp only [lookF_eq] at h
  split at h
  ·rename_i b hb
   split at h
   ·rename_i hlow
    split at h
    ·rename_i hik
     have hik : i = k := Nat.eq_of_beq_eq_true hik
     have ih := applyW_ok hke h
     refine ⟨?_, ?_, ?_, ?_, ?_, ?_, (tails_cons k b ms).trans ih.tl⟩
     ·intro j hj
      simp only [List.mem_cons, not_or] at hj
      rw [ih.out j hj.2, lookS_cons, if_neg (by rw [← hik]; exact fun e => hj.1 e.symm)]
     ·intro j hj
      by_cases hr : j ∈ r
      ·exact ih.inn j hr
      ·have : j = i := by simpa [hr] using hj
       subst this
       rw [ih.out j hr, lookS_cons, if_pos hik.symm, hb]
     ·intro j hj hn
      rcases List.mem_cons.1 hj with rfl | hj
      ·rw [hb] at hn; cases hn
      ·exact ih.gone j hj hn
     ·intro j hj hw
      obtain ⟨h1, h2⟩ := ih.log j hj hw
      exact ⟨h1, by rw [h2, lookS_cons, if_neg (by omega)]⟩
     ·intro j b' hj hb'
      obtain ⟨b0, h0⟩ := ih.old j b' hj hb'
      rw [lookS_cons, if_neg (by omega)] at h0
      exact ⟨b0, h0⟩
     ·intro hw
      refine ih.wf ?_
      intro id bb hbb
      rw [lookS_cons] at hbb
      split at hbb
      ·rename_i e'; cases hbb; exact ⟨by omega, lowB_ok hlow⟩
      ·exact hw id bb hbb
    ·split at h
     ·rename_i b0 hb0
      have ih := applyW_ok hke h
      have hput : ∀ j, lookS j (putS i b ms) = if i = j then some b else lookS j ms := by
       intro j; rw [lookS_put, hb0]
      refine ⟨?_, ?_, ?_, ?_, ?_, ?_, (tails_put i b ms).trans ih.tl⟩
      ·intro j hj
       simp only [List.mem_cons, not_or] at hj
       rw [ih.out j hj.2, hput, if_neg (fun e => hj.1 e.symm)]
      ·intro j hj
       by_cases hr : j ∈ r
       ·exact ih.inn j hr
       ·have : j = i := by simpa [hr] using hj
        subst this
        rw [ih.out j hr, hput, if_pos rfl, hb]
      ·intro j hj hn
       rcases List.mem_cons.1 hj with rfl | hj
       ·rw [hb] at hn; cases hn
       ·exact ih.gone j hj hn
      ·intro j hj hw
       obtain ⟨h1, h2⟩ := ih.log j hj hw
       obtain ⟨h3, h4⟩ := logW_ok hj h1
       exact ⟨h3, by rw [h2, hput, if_neg (fun e => h4 e.symm)]⟩
      ·intro j b' hj hb'
       obtain ⟨b1, h1⟩ := ih.old j b' hj hb'
       rw [hput] at h1
       split at h1
       ·rename_i e'; subst e'; exact ⟨b0, hb0⟩
       ·exact ⟨b1, h1⟩
      ·intro hw
       refine ih.wf ?_
       intro id bb hbb
       rw [hput] at hbb
       split at hbb
       ·rename_i e'; cases hbb; subst e'; exact ⟨(hw _ _ hb0).1, lowB_ok hlow⟩
       ·exact hw id bb hbb
     ·cases h
   ·cases h
  ·rename_i hb
   split at h
   ·rename_i b0 hb0
    have ih := applyW_ok hke h
    refine ⟨?_, ?_, ?_, ?_, ?_, ?_, (tails_del i ms).trans ih.tl⟩
    ·intro j hj
     simp only [List.mem_cons, not_or] at hj
     rw [ih.out j hj.2, lookS_del, if_neg (fun e => hj.1 e.symm)]
    ·intro j hj
     by_cases hr : j ∈ r
     ·exact ih.inn j hr
     ·have : j = i := by simpa [hr] using hj
      subst this
      rw [ih.out j hr, lookS_del, if_pos rfl, hb]
    ·intro j hj hn
     rcases List.mem_cons.1 hj with rfl | hj
     ·exact ⟨b0, hb0⟩
     ·exact ih.gone j hj hn
    ·intro j hj hw
     obtain ⟨h1, h2⟩ := ih.log j hj hw
     obtain ⟨h3, h4⟩ := logW_ok hj h1
     exact ⟨h3, by rw [h2, lookS_del, if_neg (fun e => h4 e.symm)]⟩
    ·intro j b' hj hb'
     obtain ⟨b1, h1⟩ := ih.old j b' hj hb'
     rw [lookS_del] at h1
     split at h1
     ·cases h1
     ·exact ⟨b1, h1⟩
    ·intro hw
     refine ih.wf ?_
     intro id bb hbb
     rw [lookS_del] at hbb
     split at hbb
     ·cases hbb
     ·exact hw id bb hbb
   ·cases h
structure Left (ke : Nat) (dep n : Nat) (t : Tr) (ms : Ms) (k : Nat) (wl : List Nat) (t' : Tr) (ms' : Ms) (k' : Nat) (wl' : List Nat) : Prop where
 le : k ≤ k'
 wfT : wfT dep n t' k'
 wfM : wfM ms' k'
 log : ∀ j, j < ke → j ∉ wl' → j ∉ wl ∧ lookS j ms' = lookS j ms
 old : ∀ j b, j < ke → lookS j ms' = some b → ∃ b0, lookS j ms = some b0
 tl : Tails ms ms'
theorem setV_ok {d : List D4} {v : AV} {k1 : Nat} {wl : List Nat} {f : Ft} {t' : Tr} {ms' : Ms} {k' : Nat} {wl' : List Nat} {f' : Ft} (h : setV d v t ms k1 wl f = .ok t' ms' k' wl' f') : t' = setT d v t ∧ ms' = ms ∧ k' = k1 ∧ wl' = wl ∧ f' = f ∧ ∀ id ∈ v.mids, id < k1 := by
 unfold setV at h
 split at h
 ·rename_i hl
  simp only [Rs.ok.injEq] at h
  obtain ⟨h1, h2, h3, h4, h5⟩ := h
  exact ⟨h1.symm, h2.symm, h3.symm, h4.symm, h5.symm, lowV_ok hl⟩
 ·cases h
theorem gen_sound (htt : ttB P tt = true) {ke : Nat} (hke : ke ≤ k) (hn : n ≤ 4 ^ dep) {o : Oper} (hg : o.guard = none) {d : Option (Nat × List D4)} (hd : o.dst = d.map (·.1)) (hdp : ∀ x, d = some x → x.2 = pth dep x.1 ∧ x.1 < n) {sl : List (Nat × List D4)} (hsl : slP dep n (slotsOf o.op.operands.toList) = some sl)
  (hwT : wfT dep n t k) (hwM : wfM ms k) {wl : List Nat} {t' : Tr} {ms' : Ms} {k' : Nat} {wl' : List Nat} {f : Ft} (h : genR tt n ke d sl o.op t ms k wl (mini sl t) (miniM (midsSl (mini sl t)) ms) = .ok t' ms' k' wl' f) :
  ∃ ks, StepX P n #[o] 0 (absS dep n t ms.flatten) (absS dep n t' ms'.flatten) k k' ks ∧ (∀ j, Key.s j ∈ ks.1 → j ∈ slotsOf o.op.operands.toList) ∧ (∀ j, Key.s j ∈ ks.2 → o.dst = some j) ∧ (∀ id, Key.m id ∈ ks.1 → FtR f id) ∧ (∀ id, Key.m id ∈ ks.2 → FtW f id) ∧ Left ke dep n t ms k wl t' ms' k' wl' := by
 have hslm := slP_mem hsl
 have hsub : ∀ key x, St.kn ⟨mini sl t, miniM (midsSl (mini sl t)) ms, 0, []⟩ key = some x → (absS dep n t ms.flatten).kn key = some x := by
  intro key x hx
  cases key with
  | s j =>
   simp only [St.kn, Option.map_eq_some_iff] at hx
   obtain ⟨v, hv, rfl⟩ := hx
   obtain ⟨h1, h2⟩ := mini_sub (dep := dep) (n := n) (fun y hy => ⟨(hslm y hy).1, (hslm y hy).2.1⟩) hv
   simp [absS, St.kn, look_slots, h1, h2]
  | m id =>
   simp only [St.kn, Option.map_eq_some_iff] at hx
   obtain ⟨v, hv, rfl⟩ := hx
   simp [absS, St.kn, look_flat, miniM_sub hv]
 unfold genR at h
 split at h
 ·rename_i st' k1 ks hs
  split at h
  ·rename_i hchk
   simp only [Bool.and_eq_true] at hchk
   obtain ⟨⟨hk1, hws⟩, hrs⟩ := hchk
   have hk1 : k1 = k + 1 := Nat.eq_of_beq_eq_true hk1
   subst hk1
   split at h
   ·rename_i ms2 wl2 ha
    have hA := applyW_ok hke ha
    rw [← hd] at hs hws
    obtain ⟨rd, wr, hst, hrd, hkn, hle, hr1, hr2⟩ := stepU_sound htt (fun _ _ _ _ _ _ _ h => by simp [cal0] at h) (o := o) hg hs
    have hsays : ∀ key, key ∉ ks.2 → says wr key = none := by
     intro key hk
     cases hsy : says wr key with
     | none => rfl
     | some x => exact absurd (hr2 key (wrt_mem (by simp [wrt, hsy]))) hk
    -- memory
    have hmem : ∀ id, (lookA id ms2.flatten).map Info.b = upd (absS dep n t ms.flatten).kn wr (.m id) := by
     intro id
     rw [look_flat]
     by_cases hin : id ∈ mK ks.2
     ·rw [hA.inn id hin]
      have h1 : (lookA id st'.mem).map Info.b = upd (St.kn ⟨mini sl t, miniM (midsSl (mini sl t)) ms, 0, []⟩) wr (.m id) := by rw [← hkn]; rfl
      rw [h1]
      simp only [upd]
      cases hsy : says wr (.m id) with
      | some x => rfl
      | none =>
       simp only
       have h2 : (lookA id st'.mem).map Info.b = (lookA id (miniM (midsSl (mini sl t)) ms)).map Info.b := by
        rw [h1]; simp only [upd, hsy]; rfl
       cases hm : lookA id st'.mem with
       | none =>
        obtain ⟨b, hb⟩ := hA.gone id hin hm
        rw [hm, hb] at h2
        simp at h2
       | some b =>
        rw [hm] at h2
        simp only [Option.map_some] at h2
        rw [show St.kn ⟨mini sl t, miniM (midsSl (mini sl t)) ms, 0, []⟩ (.m id) = some (Info.b b) from h2.symm]
        exact (hsub (.m id) (.b b) h2.symm).symm
     ·rw [hA.out id hin]
      simp only [upd, hsays (.m id) (fun hc => hin (mK_mem.2 hc))]
      simp [absS, St.kn, look_flat]
    have hL : ∀ {t'' : Tr}, wfT dep n t'' (k + 1) → Left ke dep n t ms k wl t'' ms2 (k + 1) wl2 := fun hw => ⟨by omega, hw, hA.wf (hwM.le (by omega)), hA.log, hA.old, hA.tl⟩
    cases d with
    | none =>
     simp only [Rs.ok.injEq] at h
     obtain ⟨rfl, rfl, rfl, rfl, rfl⟩ := h
     have hd' : o.dst = none := hd
     rw [hd'] at hws
     refine ⟨ks, ⟨rd, wr, hst, fun kx hkx => hsub _ _ (hrd kx hkx), ?_, hle, hr1, hr2⟩, ?_, ?_, ?_, ?_, hL (hwT.le (by omega))⟩
     ·exact abs_mem dep n t ms.flatten _ wr hmem (fun j => hsays _ (wS_none hws j))
     ·intro j hj
      obtain ⟨x, hx, e⟩ := List.mem_map.1 (rS_ok hrs j hj)
      rw [← e]; exact (hslm x hx).2.2
     ·intro j hj; exact absurd hj (wS_none hws j)
     ·intro id hid; exact mK_mem.2 hid
     ·intro id hid; exact mK_mem.2 hid
    | some x =>
     obtain ⟨dn, dp⟩ := x
     obtain ⟨hdp1, hdn⟩ := hdp (dn, dp) rfl
     simp only at hdp1 hdn
     have hd' : o.dst = some dn := hd
     rw [hd'] at hws
     simp only at h
     split at h
     ·rename_i v hv
      obtain ⟨rfl, rfl, rfl, rfl, rfl, hlow⟩ := setV_ok h
      subst hdp1
      refine ⟨ks, ⟨rd, wr, hst, fun kx hkx => hsub _ _ (hrd kx hkx), ?_, hle, hr1, hr2⟩, ?_, ?_, ?_, ?_, hL ((hwT.le (by omega)).set hn hdn hlow)⟩
      ·funext key
       cases key with
       | m id => exact hmem id
       | s j =>
        rw [abs_kn]
        simp only
        by_cases e : j = dn
        ·subst e
         rw [if_pos hdn, get_set]
         have h1 : upd (St.kn ⟨mini sl t, miniM (midsSl (mini sl t)) ms, 0, []⟩) wr (.s j) = some (.v v) := by rw [← hkn]; simp [St.kn, hv]
         simp only [upd] at h1 ⊢
         cases hsy : says wr (.s j) with
         | some y => rw [hsy] at h1; simp only at h1 ⊢; rw [h1]; rfl
         | none => rw [hsy] at h1; simp only at h1 ⊢; rw [hsub _ _ h1]; rfl
        ·have hno : says wr (.s j) = none := hsays _ (fun hc => e (wS_some hws j hc))
         simp only [upd, hno, absS, St.kn, look_slots]
         by_cases hj : j < n
         ·rw [if_pos hj, if_pos hj, get_set_ne _ _ _ _ (by rw [pth_length, pth_length]) (fun e' => e (pth_inj dep (by omega) (by omega) e').symm)]
         ·rw [if_neg hj, if_neg hj]
      ·intro j hj
       obtain ⟨x, hx, e⟩ := List.mem_map.1 (rS_ok hrs j hj)
       rw [← e]; exact (hslm x hx).2.2
      ·intro j hj; rw [hd', wS_some hws j hj]
      ·intro id hid; exact mK_mem.2 hid
      ·intro id hid; exact mK_mem.2 hid
     ·cases h
   ·cases h
  ·cases h
 ·cases d with
  | none => cases h
  | some x =>
   obtain ⟨dn, dp⟩ := x
   obtain ⟨hdp1, hdn⟩ := hdp (dn, dp) rfl
   simp only at hdp1 hdn
   subst hdp1
   have hd' : o.dst = some dn := hd
   dsimp only at h
   unfold pureV at h
   split at h
   ·rename_i v p he
    split at h
    ·rename_i hpr
     obtain ⟨rfl, rfl, rfl, rfl, rfl, hlow⟩ := setV_ok h
     have hst := evalM_sound (P := P) htt (ops := #[o]) (i := 0) rfl hg hd' hdn he (prF_ok hpr) k
     refine ⟨(okeys o.op.operands.toList, [.s dn]), StepX.of_s hst (fun kx hkx => hsub _ _ (rdV_kn _ _ kx hkx)) (abs_set dep n t _ dn v hn hdn) keysV (by simp [keysOf]), ?_, ?_, ?_, ?_, ⟨by omega, (hwT.le (by omega)).set hn hdn hlow, hwM.le (by omega), fun _ _ h => ⟨h, rfl⟩, fun _ b _ h => ⟨b, h⟩, Tails.refl _⟩⟩
     ·intro j hj; exact slotsOf_okeys.2 hj
     ·intro j hj; simp only [List.mem_singleton, Key.s.injEq] at hj; rw [hd', hj]
     ·intro id hid; obtain ⟨j, hj⟩ := okeys_s hid; cases hj
     ·intro id hid; simp at hid
    ·cases h
   ·cases h
end
end Go.El

/- The fast interpreter, part 6: calls, and any operation. Own work; no condition. -/
namespace Go.El
open Go Go.RowKit
section
variable {P : Program} {tt : TT} {dep n : Nat} {t : Tr} {ms : Ms} {k : Nat}
theorem says_map_m (g : Nat → Option Info) (j : Nat) : ∀ l : List Nat, says (l.map fun id => (Key.m id, g id)) (.m j) = if j ∈ l then some (g j) else none
 | [] => rfl
 | i :: l => by
  simp only [List.map_cons, says, Key.m.injEq, says_map_m g j l, List.mem_cons]
  by_cases e : i = j
  ·subst e; simp
  ·simp [e, show j ≠ i from fun h => e h.symm]
theorem says_map_s (g : Nat → Option Info) (j : Nat) : ∀ l : List Nat, says (l.map fun id => (Key.m id, g id)) (.s j) = none
 | [] => rfl
 | i :: l => by simp only [List.map_cons, says, reduceCtorEq, if_false, says_map_s g j l]
theorem in_fst : ∀ {l : List (Nat × Blk)} {id : Nat} {b : Blk}, lookA id l = some b → id ∈ l.map (·.1)
 | [], id, b, h => by simp [lookA] at h
 | (j, x) :: l, id, b, h => by
  simp only [lookA] at h
  split at h
  ·rename_i e; simp [e]
  ·exact List.mem_cons_of_mem _ (in_fst h)
theorem fst_in : ∀ {l : List (Nat × Blk)} {id : Nat}, id ∈ l.map (·.1) → ∃ b, lookA id l = some b
 | [], id, h => by simp at h
 | (j, x) :: l, id, h => by
  simp only [lookA]
  split
  ·exact ⟨_, rfl⟩
  ·rename_i e
   rcases List.mem_cons.1 h with h | h
   ·exact absurd h.symm e
   ·exact fst_in h
theorem sx_call {cal : CallG} (hcal : CalOk P cal) (hn : n ≤ 4 ^ dep) {o : Oper} (hg : o.guard = none) {d : Nat} (hd : o.dst = some d) (hdn : d < n) {cf : Operand} {args : Array Operand} {tys : Array TypeId} (hop : o.op = .call ⟨.value cf, args, tys⟩) {f : FuncId} {vs : List AV} {ids : List Nat}
  (ht : tgtC (absS dep n t ms.flatten) cf args.toList = some (f, vs, ids)) (hids : ∀ id ∈ ids, id < k) (hvs : ∀ id ∈ midsVs vs, id < k) (hwM : wfM ms k) {r : AV} {ms' : Ms} {k' : Nat} {wlc : List Nat} (hc : cal f vs ms k = .ok r ms' k' wlc) :
  ∃ ks, StepX P n #[o] 0 (absS dep n t ms.flatten) (absS dep n (setT (pth dep d) r t) ms'.flatten) k k' ks ∧ (∀ j, Key.s j ∈ ks.1 → Key.s j ∈ okeys (cf :: args.toList)) ∧ (∀ j, Key.s j ∈ ks.2 → j = d) ∧ (∀ id, Key.m id ∈ ks.1 → id < k) ∧ (∀ id, Key.m id ∈ ks.2 → (id ∈ wlc ∧ id < k) ∨ (k ≤ id ∧ id < k')) := by
 obtain ⟨hCX, hrm, hmm, hun, hold, hwf', hrl, _⟩ := hcal.ok hc hwM hvs
 have hfmk : ∀ id b, lookA id ms.flatten = some b → id < k ∧ ∀ j ∈ b.mids, j < k := fun id b hb => hwM id b (by rw [← look_flat]; exact hb)
 let st : St := absS dep n t ms.flatten
 let wrL : List (Key × Option Info) := (wlc.filter (fun id => (lookA id ms.flatten).isSome)).map (fun id => (Key.m id, (lookA id ms'.flatten).map Info.b))
 let wr : List (Key × Option Info) := (.s d, some (.v r)) :: (wrL ++ wrN k ms'.flatten)
 let rd := opd st cf ++ args.toList.flatMap (opd st) ++ mrd st ids ++ mrd st (ms.flatten.map (·.1))
 have hsm : ∀ j, says wr (.m j) = if j ∈ wlc ∧ (lookA j ms.flatten).isSome = true then some ((lookA j ms'.flatten).map Info.b) else if k ≤ j then (lookA j ms'.flatten).map (fun b => some (.b b)) else none := by
  intro j
  simp only [wr, wrL, says, reduceCtorEq, if_false, says_append, says_map_m (fun id => (lookA id ms'.flatten).map Info.b) j, says_wrN_m, List.mem_filter]
  by_cases h : j ∈ wlc ∧ (lookA j ms.flatten).isSome = true
  ·simp [h]
  ·rw [if_neg h, if_neg h]
 have hss : ∀ j, says wr (.s j) = if d = j then some (some (.v r)) else none := by
  intro j
  simp only [wr, wrL, says, says_append, says_map_s (fun id => (lookA id ms'.flatten).map Info.b) j, says_wrN_s, Key.s.injEq]
 have hlk : ∀ j, j < k → j ∉ wlc → lookA j ms'.flatten = lookA j ms.flatten := by
  intro j h1 h2; rw [look_flat, look_flat]; exact hun j h1 h2
 refine ⟨(rkeysOf rd, keysOf wr), ⟨rd, wr, ?_, ?_, ?_, hCX.le, fun _ h => h, fun _ h => h⟩, ?_, ?_, ?_, ?_⟩
 ·-- the step
  intro F hFn Q known σ g W a K hnew hsem hrd hK
  obtain ⟨us, hex, hrel, hkv⟩ := tgtC_run hsem hop ht hCX.call (fun kx hkx => hrd kx (List.mem_append_left _ hkx))
  have hmem := mrd_mem (st := st) (ids := ms.flatten.map (·.1)) (σ := σ) (fun kx hkx => hrd kx (List.mem_append_right _ hkx))
  have hrd' : ∀ id b, lookA id ms.flatten = some b → σ (.m id) = some (.b b) := fun id b hb => hmem id (in_fst hb) b hb
  have hszd : d < a.tmps.size := by rw [hsem.size, hFn]; exact hdn
  have hc' := cx_stepP hCX hvs hfmk (fun id hid => by
    rcases hrm id hid with h | ⟨b, hb⟩
    ·exact .inl h
    ·exact .inr ⟨b, by rw [look_flat]; exact hb⟩) (fun id b hb => by
    rcases hmm id b (by rw [← look_flat]; exact hb) with h | h
    ·exact .inl (by rw [look_flat]; exact h)
    ·refine .inr (fun j hj => ?_)
     rcases h j hj with h | ⟨b', hb'⟩
     ·exact .inl h
     ·exact .inr ⟨b', by rw [look_flat]; exact hb'⟩) hsem hnew hrel hkv hrd' hszd
  have hupd : upd σ ((.s d, some (.v r)) :: (wrM ms'.flatten ms.flatten ++ wrN k ms'.flatten)) = upd σ wr := by
   funext key
   cases key with
   | s j =>
    simp only [upd, hss, says, says_append, says_wrM_s, says_wrN_s, Key.s.injEq]
   | m j =>
    simp only [upd, hsm, says, reduceCtorEq, if_false, says_append, says_wrM_m, says_wrN_m]
    by_cases hin : (lookA j ms.flatten).isSome = true
    ·by_cases hw : j ∈ wlc
     ·simp [hin, hw]
     ·obtain ⟨b, hb⟩ := Option.isSome_iff_exists.1 hin
      have hjk := (hfmk j b hb).1
      simp only [hin, if_true, hw, false_and, if_false]
      rw [if_neg (by omega), hlk j hjk hw, hb, hrd' j b hb]
      rfl
    ·simp [hin]
  rw [hupd] at hc'
  unfold wpOp
  simp only [List.getElem?_toArray, List.getElem?_cons_zero, Region.wanted, hg, if_true]
  refine .inl ?_
  unfold Oper.wp
  rw [hex]
  simp only [Oper.upon, hd]
  refine hc'.mono ?_
  rintro e W' ⟨v, g', rfl, h'⟩
  exact hK g' W' _ h'
 ·intro kx hkx
  rcases List.mem_append.1 hkx with h | h
  ·rcases List.mem_append.1 h with h | h
   ·rcases List.mem_append.1 h with h | h
    ·exact opd_kn _ _ kx h
    ·obtain ⟨x, _, hx⟩ := List.mem_flatMap.1 h
     exact opd_kn _ _ kx hx
   ·exact mrd_kn _ _ kx h
  ·exact mrd_kn _ _ kx h
 ·funext key
  cases key with
  | s j =>
   simp only [upd, hss, absS, St.kn, look_slots_set dep n t d j r hn hdn]
   by_cases e : d = j <;> simp [e]
  | m j =>
   simp only [upd, hsm, absS, St.kn]
   by_cases h : j ∈ wlc ∧ (lookA j ms.flatten).isSome = true
   ·simp [h]
   ·rw [if_neg h]
    by_cases hk : k ≤ j
    ·rw [if_pos hk]
     cases hx : lookA j ms'.flatten with
     | some b => rfl
     | none =>
      have : lookA j ms.flatten = none := by
       cases hy : lookA j ms.flatten with
       | none => rfl
       | some b => exact absurd (hfmk j b hy).1 (by omega)
      simp [this]
    ·rw [if_neg hk]
     by_cases hw : j ∈ wlc
     ·have hno : lookA j ms.flatten = none := by
       cases hy : lookA j ms.flatten with
       | none => rfl
       | some b => exact absurd ⟨hw, by simp [hy]⟩ h
      have : lookA j ms'.flatten = none := by
       cases hy : lookA j ms'.flatten with
       | none => rfl
       | some b =>
        rcases hold j b (by rw [← look_flat]; exact hy) with h1 | ⟨b0, h1⟩
        ·omega
        ·rw [← look_flat, hno] at h1; cases h1
      rw [this, hno]
     ·rw [hlk j (by omega) hw]
 ·intro j hj
  have hsub : ∀ key ∈ rkeysOf rd, key ∈ okeys (cf :: args.toList) ∨ ∃ id, key = Key.m id := by
   intro key hk
   simp only [rkeysOf, rd, List.map_append, List.mem_append] at hk
   rcases hk with ((h | h) | h) | h
   ·exact .inl (okeys_opd st (cf :: args.toList) key (by simp only [List.flatMap_cons, rkeysOf, List.map_append, List.mem_append]; exact .inl h))
   ·exact .inl (okeys_opd st (cf :: args.toList) key (by simp only [List.flatMap_cons, rkeysOf, List.map_append, List.mem_append]; exact .inr h))
   ·have := mkeys_mrd st ids key h
    right
    revert this
    generalize ids = l
    intro this
    induction l with
    | nil => simp [mkeys] at this
    | cons i l ih => simp only [mkeys, List.mem_cons] at this; exact this.elim (fun e => ⟨i, e⟩) ih
   ·have := mkeys_mrd st _ key h
    right
    revert this
    generalize ms.flatten.map (·.1) = l
    intro this
    induction l with
    | nil => simp [mkeys] at this
    | cons i l ih => simp only [mkeys, List.mem_cons] at this; exact this.elim (fun e => ⟨i, e⟩) ih
  rcases hsub _ hj with h | ⟨id, h⟩
  ·exact h
  ·cases h
 ·intro j hj
  apply Decidable.byContradiction
  intro hne
  have := hss j
  rw [if_neg (fun e => hne e.symm)] at this
  have h2 : ∀ {u : List (Key × Option Info)} {key : Key}, key ∈ keysOf u → says u key ≠ none := by
   intro u
   induction u with
   | nil => intro key h; simp [keysOf] at h
   | cons x u ih =>
    intro key h
    simp only [says]
    split
    ·simp
    ·rename_i hne
     simp only [keysOf, List.map_cons, List.mem_cons] at h
     rcases h with h | h
     ·exact absurd h.symm hne
     ·exact ih h
  exact h2 hj this
 ·intro id hid
  simp only [rkeysOf, rd, List.map_append, List.mem_append] at hid
  have hmk : ∀ {l : List Nat}, Key.m id ∈ mkeys l → id ∈ l := by
   intro l
   induction l with
   | nil => simp [mkeys]
   | cons i l ih => simp only [mkeys, List.mem_cons, Key.m.injEq]; exact fun h => h.elim .inl (fun h => .inr (ih h))
  have hok : ∀ {l : List Operand}, Key.m id ∉ okeys l := by
   intro l
   induction l with
   | nil => simp [okeys]
   | cons x l ih => cases x <;> simp [okeys, ih]
  rcases hid with ((h | h) | h) | h
  ·exact absurd (okeys_opd st [cf] (.m id) (by simpa [rkeysOf] using h)) hok
  ·exact absurd (okeys_opd st args.toList (.m id) h) hok
  ·exact hids id (hmk (mkeys_mrd st ids _ h))
  ·obtain ⟨b, hb⟩ := fst_in (hmk (mkeys_mrd st _ _ h))
   exact (hfmk id b hb).1
 ·intro id hid
  simp only [keysOf, wr, wrL, List.map_cons, List.map_append, List.mem_cons, reduceCtorEq, false_or, List.mem_append, List.map_map] at hid
  rcases hid with h | h
  ·obtain ⟨j, hj, e⟩ := List.mem_map.1 h
   simp only [Function.comp, Key.m.injEq] at e
   subst e
   obtain ⟨h1, h2⟩ := List.mem_filter.1 hj
   obtain ⟨b, hb⟩ := Option.isSome_iff_exists.1 h2
   exact .inl ⟨h1, (hfmk _ b hb).1⟩
  ·right
   have hw : ∀ {l : List (Nat × Blk)}, Key.m id ∈ (wrN k l).map (·.1) → k ≤ id ∧ id ∈ l.map (·.1) := by
    intro l
    induction l with
    | nil => simp [wrN]
    | cons x l ih =>
     obtain ⟨i, b⟩ := x
     simp only [wrN]
     split
     ·rename_i hki
      simp only [List.map_cons, List.mem_cons, Key.m.injEq]
      rintro (rfl | h)
      ·exact ⟨hki, .inl rfl⟩
      ·exact ⟨(ih h).1, .inr (ih h).2⟩
     ·intro h; exact ⟨(ih h).1, List.mem_cons_of_mem _ (ih h).2⟩
   obtain ⟨h1, h2⟩ := hw h
   obtain ⟨b, hb⟩ := fst_in h2
   exact ⟨h1, (hwf' id b (by rw [← look_flat]; exact hb)).1⟩
end
end Go.El

/- The fast interpreter, part 7: any operation, guarded or not. Own work; no condition. -/
namespace Go.El
open Go Go.RowKit
def dstK : Option Nat → List Key
 | some d => [.s d]
 | none => []
theorem opdsOf_eq (op : Op) : opdsOf op = op.operands.toList := by
 unfold opdsOf
 split
 ·rename_i cf args tys
  simp [Op.operands, Call.operands]
 ·rfl
section
variable {P : Program} {tt : TT} {dep n : Nat} {t : Tr} {ms : Ms} {k : Nat}
theorem cov_pure {l : List Operand} {d : Nat} {sk : Ks} (h1 : sk.1 = okeys l) (h2 : sk.2 = [.s d]) : CovK (okeys l, [.s d]) sk .n := by
 refine ⟨fun key hk => ?_, fun key hk => ?_⟩
 ·obtain ⟨j, rfl⟩ := okeys_s hk
  simp only [h1]; exact hk
 ·simp only [List.mem_singleton] at hk
  subst hk
  simp [h2]
theorem left_pure {ke : Nat} (hn : n ≤ 4 ^ dep) {d : Nat} (hdn : d < n) (hwT : wfT dep n t k) (hwM : wfM ms k) {wl : List Nat} {v : AV} (hv : ∀ id ∈ v.mids, id < k + 1) : Left ke dep n t ms k wl (setT (pth dep d) v t) ms (k + 1) wl :=
 ⟨by omega, (hwT.le (by omega)).set hn hdn hv, hwM.le (by omega), fun _ _ h => ⟨h, rfl⟩, fun _ b _ h => ⟨b, h⟩, Tails.refl _⟩
theorem mergeW_ok {ke : Nat} {wlc wl : List Nat} {j : Nat} (hj : j < ke) (h : j ∉ mergeW ke wlc wl) : j ∉ wlc ∧ j ∉ wl := by
 unfold mergeW at h
 split at h
 ·exact ⟨by simp, h⟩
 ·simp only [List.mem_append, List.mem_filter, not_or, not_and] at h
  exact ⟨fun hc => h.1 hc (by simpa [Nat.blt_eq] using hj), h.2⟩
theorem callR_ok {cal : CallG} {ke : Nat} {d : List D4} {f : FuncId} {vs : List AV} {wl : List Nat} {t' : Tr} {ms' : Ms} {k' : Nat} {wl' : List Nat} {ft : Ft} (h : callR cal ke d f vs t ms k wl = .ok t' ms' k' wl' ft) :
  ∃ r wlc, cal f vs ms k = .ok r ms' k' wlc ∧ t' = setT d r t ∧ wl' = mergeW ke wlc wl ∧ ft = .c k k' wlc := by
 unfold callR at h
 split at h
 ·rename_i r ms1 k1 wlc hc
  obtain ⟨rfl, rfl, rfl, rfl, rfl, _⟩ := setV_ok h
  exact ⟨r, wlc, hc, rfl, rfl, rfl⟩
 ·cases h
theorem call_fin {cal : CallG} (hcal : CalOk P cal) {ke : Nat} (hke : ke ≤ k) (hn : n ≤ 4 ^ dep) {o : Oper} (hg : o.guard = none) {d : Nat} (hd : o.dst = some d) (hdn : d < n) {cf : Operand} {args : Array Operand} {tys : Array TypeId} (hop : o.op = .call ⟨.value cf, args, tys⟩) {f : FuncId} {vs : List AV} {ids : List Nat}
  (ht : tgtC (absS dep n t ms.flatten) cf args.toList = some (f, vs, ids)) (hids : ∀ id ∈ ids, id < k) (hvs : ∀ id ∈ midsVs vs, id < k) (hwT : wfT dep n t k) (hwM : wfM ms k) {wl : List Nat} {t' : Tr} {ms' : Ms} {k' : Nat} {wl' : List Nat} {ft : Ft} (h : callR cal ke (pth dep d) f vs t ms k wl = .ok t' ms' k' wl' ft) :
  ∃ ks, StepX P n #[o] 0 (absS dep n t ms.flatten) (absS dep n t' ms'.flatten) k k' ks ∧ CovK ks (okeys (opdsOf o.op), dstK o.dst) ft ∧ Left ke dep n t ms k wl t' ms' k' wl' := by
 obtain ⟨r, wlc, hc, rfl, rfl, rfl⟩ := callR_ok h
 obtain ⟨ks, hx, h1, h2, h3, h4⟩ := sx_call hcal hn hg hd hdn hop ht hids hvs hwM hc
 obtain ⟨hCX, hrm, hmm, hun, hold, hwf', hrl, htl⟩ := hcal.ok hc hwM hvs
 refine ⟨ks, hx, ⟨fun key hk => ?_, fun key hk => ?_⟩, ⟨hCX.le, (hwT.le hCX.le).set hn hdn hrl, hwf', fun j hj hw => ?_, fun j b hj hb => ?_, htl⟩⟩
 ·cases key with
  | s j => simp only [opdsOf, hop]; exact h1 j hk
  | m id => exact h3 id hk
 ·cases key with
  | s j => simp only [hd, dstK]; rw [h2 j hk]; simp
  | m id => exact h4 id hk
 ·obtain ⟨h5, h6⟩ := mergeW_ok hj hw
  exact ⟨h6, hun j (by omega) h5⟩
 ·rcases hold j b hb with h5 | h5
  ·omega
  ·exact h5
theorem stepI_sound (htt : ttB P tt = true) {cal : CallG} (hcal : CalOk P cal) {ke : Nat} (hke : ke ≤ k) (hn : n ≤ 4 ^ dep) {o : Oper} (hg : o.guard = none) {i : Ins} (hc : compO dep n o.dst o.op = some i) (hwT : wfT dep n t k) (hwM : wfM ms k) {wl : List Nat} {t' : Tr} {ms' : Ms} {k' : Nat} {wl' : List Nat} {f : Ft}
  (h : stepI cal tt n ke i t ms k wl = .ok t' ms' k' wl' f) :
  (∃ ks, StepX P n #[o] 0 (absS dep n t ms.flatten) (absS dep n t' ms'.flatten) k k' ks ∧ CovK ks (okeys (opdsOf o.op), dstK o.dst) f ∧ Left ke dep n t ms k wl t' ms' k' wl') ∧ (touches o = false → f = .n) := by
 have gen : ∀ {d : Option Nat}, o.dst = d → (∀ x, d = some x → x < n) → compGen dep n d o.op = some i → ∃ ks, StepX P n #[o] 0 (absS dep n t ms.flatten) (absS dep n t' ms'.flatten) k k' ks ∧ CovK ks (okeys (opdsOf o.op), dstK o.dst) f ∧ Left ke dep n t ms k wl t' ms' k' wl' := by
  intro d hd hdn hcg
  unfold compGen at hcg
  split at hcg
  ·rename_i sl hsl
   have key : ∀ dd : Option (Nat × List D4), d = dd.map (·.1) → (∀ x, dd = some x → x.2 = pth dep x.1 ∧ x.1 < n) → i = .gen dd sl o.op → ∃ ks, StepX P n #[o] 0 (absS dep n t ms.flatten) (absS dep n t' ms'.flatten) k k' ks ∧ CovK ks (okeys (opdsOf o.op), dstK o.dst) f ∧ Left ke dep n t ms k wl t' ms' k' wl' := by
    intro dd hdd hdp hi
    subst hi
    obtain ⟨ks, hx, h1, h2, h3, h4, h5⟩ := gen_sound htt hke hn hg (hd.trans hdd) hdp hsl hwT hwM h
    refine ⟨ks, hx, ⟨fun key hk => ?_, fun key hk => ?_⟩, h5⟩
    ·cases key with
     | s j => simp only [opdsOf_eq]; exact slotsOf_okeys.1 (h1 j hk)
     | m id => exact h3 id hk
    ·cases key with
     | s j => simp [h2 j hk, dstK]
     | m id => exact h4 id hk
   cases d with
   | some d =>
    simp only [Option.some.injEq] at hcg
    exact key (some (d, pth dep d)) rfl (fun x hx => by cases hx; exact ⟨rfl, hdn d rfl⟩) hcg.symm
   | none =>
    simp only [Option.some.injEq] at hcg
    exact key none rfl (fun x hx => by cases hx) hcg.symm
  ·cases hcg
 unfold compO at hc
 split at hc
 ·-- no destination
  rename_i hd
  split at hc
  ·rename_i ty x y hop
   refine ⟨?_, fun htc => by simp [touches, hd] at htc⟩
   split at hc
   ·rename_i p q hp hq
    cases hc
    simp only [stepI, stSt, stSt1] at h
    split at h
    ·rename_i v w hv hw
     ·split at h
      ·rename_i id b us hst
       split at h
       ·rename_i hlow
        simp only [Rs.ok.injEq] at h
        obtain ⟨rfl, rfl, rfl, rfl, rfl⟩ := h
        obtain ⟨hx, b0, hb0, hbm⟩ := sx_st (P := P) (k := k) htt hg hd hop (compP_ev hp hv) (compP_ev hq hw) hst
        have hput : ∀ j, lookS j (putS id b ms) = if id = j then some b else lookS j ms := fun j => by rw [lookS_put, hb0]
        refine ⟨_, hx, ⟨fun key hk => ?_, fun key hk => ?_⟩, ⟨by omega, hwT.le (by omega), ?_, ?_, ?_, tails_put id b ms⟩⟩
        ·rcases List.mem_append.1 hk with hk | hk
         ·obtain ⟨j, rfl⟩ := okeys_s hk
          simpa [opdsOf, hop, Op.operands] using hk
         ·simp only [mkeys, List.mem_singleton] at hk
          subst hk
          simp [FtR]
        ·simp only [List.mem_singleton] at hk
         subst hk
         simp [FtW]
        ·intro j b' hb'
         rw [hput] at hb'
         split at hb'
         ·rename_i e; cases hb'; subst e
          exact ⟨Nat.lt_succ_of_lt (hwM _ _ hb0).1, fun j hj => Nat.lt_succ_of_lt ((hbm j hj).elim ((hwM _ _ hb0).2 j) (lowL_ok hlow j))⟩
         ·exact (hwM.le (Nat.le_succ k)) j b' hb'
        ·intro j hj hw'
         obtain ⟨h1, h2⟩ := logW_ok hj hw'
         exact ⟨h1, by rw [hput, if_neg (fun e => h2 e.symm)]⟩
        ·intro j b' _ hb'
         rw [hput] at hb'
         split at hb'
         ·rename_i e; subst e; exact ⟨b0, hb0⟩
         ·exact ⟨b', hb'⟩
       ·cases h
      ·cases h
    ·cases h
   ·cases hc
  ·exact ⟨gen hd (fun x hx => by cases hx) hc, fun htc => by simp [touches, hd] at htc⟩
 ·rename_i d hd
  split at hc
  ·cases hc
  ·rename_i hdn
   have hdn : d < n := blt_lt hdn
   have pv : ∀ {v : AV}, t' = setT (pth dep d) v t → ms' = ms → k' = k + 1 → wl' = wl → f = .n → (∀ id ∈ v.mids, id < k + 1) → StepX P n #[o] 0 (absS dep n t ms.flatten) (absS dep n (setT (pth dep d) v t) ms.flatten) k (k + 1) (okeys o.op.operands.toList, [.s d]) →
     (∃ ks, StepX P n #[o] 0 (absS dep n t ms.flatten) (absS dep n t' ms'.flatten) k k' ks ∧ CovK ks (okeys (opdsOf o.op), dstK o.dst) f ∧ Left ke dep n t ms k wl t' ms' k' wl') ∧ (touches o = false → f = .n) := by
    rintro v rfl rfl rfl rfl rfl hlow hx
    exact ⟨⟨_, hx, cov_pure (by rw [opdsOf_eq]) (by rw [hd]; rfl), left_pure hn hdn hwT hwM hlow⟩, fun _ => rfl⟩
   split at hc
   ·-- move
    rename_i x hop
    split at hc
    ·rename_i p hp
     cases hc
     simp only [stepI, stMv] at h
     split at h
     ·rename_i v hv
      obtain ⟨h1, h2, h3, h4, h5, h6⟩ := setV_ok h
      exact pv h1 h2 h3 h4 h5 h6 (sx_V htt hg hd hdn hn (p := .t) (by simp only [hop, evalV, compP_ev hp hv]) trivial)
     ·cases h
    ·cases hc
   ·-- assign
    rename_i x hop
    split at hc
    ·rename_i p hp
     cases hc
     simp only [stepI, stMv] at h
     split at h
     ·rename_i v hv
      obtain ⟨h1, h2, h3, h4, h5, h6⟩ := setV_ok h
      exact pv h1 h2 h3 h4 h5 h6 (sx_V htt hg hd hdn hn (p := .t) (by simp only [hop, evalV, compP_ev hp hv]) trivial)
     ·cases h
    ·cases hc
   ·-- binary
    rename_i bo ty x y ty2 hop
    split at hc
    ·rename_i p q hp hq
     cases hc
     simp only [stepI, stBin, stBin1, stBin2, stBin3] at h
     split at h
     ·rename_i a b ha hb
      ·split at h
       ·rename_i c pr hbt
        split at h
        ·rename_i hpr
         simp only [Rs.ok.injEq] at h
         obtain ⟨h1, h2, h3, h4, h5⟩ := h
         refine pv h1.symm h2.symm h3.symm h4.symm h5.symm (fun id hid => ?_) (sx_V htt hg hd hdn hn (p := pr) (by simp only [hop, evalV, compP_ev hp ha, compP_ev hq hb, hbt]) (prF_ok hpr))
         simp only [AV.mids, binT_mids hbt] at hid
         cases hid
        ·cases h
       ·split at h
        ·rename_i u hnt
         obtain ⟨h1, h2, h3, h4, h5, h6⟩ := setV_ok h
         exact pv h1 h2 h3 h4 h5 h6 (sx_M htt hg hd hdn hn (p := .t) (by simp only [hop, evalM, compP_ev hp ha, compP_ev hq hb, hnt]) trivial)
        ·cases h
     ·cases h
    ·cases hc
   ·-- indexAddr
    rename_i ty x y hop
    split at hc
    ·rename_i p q hp hq
     cases hc
     simp only [stepI, stIdx] at h
     split at h
     ·rename_i v w hv hw
      ·unfold pureV at h
       split at h
       ·rename_i u pr hi
        split at h
        ·rename_i hpr
         obtain ⟨h1, h2, h3, h4, h5, h6⟩ := setV_ok h
         unfold idxV at hi
         split at hi
         ·rename_i z hz
          cases hi
          exact pv h1 h2 h3 h4 h5 h6 (sx_L htt hg hd hdn hn (p := pr) (by simp only [hop, evalL, compP_ev hp hv, compP_ev hq hw, hz]) (prF_ok hpr))
         ·exact pv h1 h2 h3 h4 h5 h6 (sx_V htt hg hd hdn hn (p := pr) (by simp only [hop, evalV, compP_ev hp hv, compP_ev hq hw, hi]) (prF_ok hpr))
        ·cases h
       ·cases h
     ·cases h
    ·cases hc
   ·-- fieldAddr
    rename_i ty x fi hop
    split at hc
    ·rename_i p hp
     cases hc
     simp only [stepI, stFad] at h
     split at h
     ·rename_i v hv
      split at h
      ·rename_i u hu
       obtain ⟨h1, h2, h3, h4, h5, h6⟩ := setV_ok h
       exact pv h1 h2 h3 h4 h5 h6 (sx_V htt hg hd hdn hn (p := .t) (by simp only [hop, evalV, compP_ev hp hv, hu]) trivial)
      ·cases h
     ·cases h
    ·cases hc
   ·-- extract
    rename_i x j hop
    split at hc
    ·rename_i p hp
     cases hc
     simp only [stepI, stExt] at h
     split at h
     ·rename_i v hv
      split at h
      ·rename_i u hu
       obtain ⟨h1, h2, h3, h4, h5, h6⟩ := setV_ok h
       exact pv h1 h2 h3 h4 h5 h6 (sx_V htt hg hd hdn hn (p := .t) (by simp only [hop, evalV, compP_ev hp hv, hu]) trivial)
      ·cases h
     ·cases h
    ·cases hc
   ·-- load
    rename_i ty x hop
    refine ⟨?_, fun htc => by simp [touches, hd, hop] at htc⟩
    split at hc
    ·rename_i p hp
     cases hc
     simp only [stepI, stLd] at h
     split at h
     ·rename_i v hv
      split at h
      ·rename_i u ids hu
       obtain ⟨rfl, rfl, rfl, rfl, rfl, h6⟩ := setV_ok h
       refine ⟨_, sx_ld htt hg hd hdn hn hop (compP_ev hp hv) hu, ⟨fun key hk => ?_, fun key hk => ?_⟩, left_pure hn hdn hwT hwM h6⟩
       ·rcases List.mem_append.1 hk with hk | hk
        ·obtain ⟨j, rfl⟩ := okeys_s hk
         simpa [opdsOf, hop, Op.operands] using hk
        ·cases key with
         | s j => exfalso; revert hk; generalize ids = l; intro hk; induction l with
          | nil => simp [mkeys] at hk
          | cons a l ih => simp [mkeys] at hk; exact ih hk
         | m id => simp only [FtR]; revert hk; generalize ids = l; intro hk; induction l with
          | nil => simp [mkeys] at hk
          | cons a l ih => simp only [mkeys, List.mem_cons, Key.m.injEq] at hk ⊢; exact hk.elim .inl (fun h => .inr (ih h))
       ·simp only [List.mem_singleton] at hk
        subst hk
        simp [hd, dstK]
      ·cases h
     ·cases h
    ·cases hc
   ·-- call of a function
    rename_i fn args tys hop
    refine ⟨?_, fun htc => by simp [touches, hd, hop] at htc⟩
    split at hc
    ·rename_i ps hps
     cases hc
     simp only [stepI, stCall] at h
     split at h
     ·rename_i vs hvs
      exact call_fin hcal hke hn hg hd hdn hop (ids := []) (by simp only [tgtC, compPs_ev hps hvs, St.ev]) (fun _ h => by cases h) (evs_low hwT hps hvs) hwT hwM h
     ·cases h
    ·cases hc
   ·-- call of a value
    rename_i j args tys hop
    refine ⟨?_, fun htc => by simp [touches, hd, hop] at htc⟩
    split at hc
    ·rename_i p ps hp hps
     cases hc
     simp only [stepI, stCalv] at h
     split at h
     ·rename_i vs hvs
      split at h
      ·rename_i fn hx
       exact call_fin hcal hke hn hg hd hdn hop (ids := []) (by simp only [tgtC, compPs_ev hps hvs, compP_ev hp hx]) (fun _ h => by cases h) (evs_low hwT hps hvs) hwT hwM h
      ·rename_i id hx
       split at h
       ·rename_i fn first caps hb
        split at h
        ·rename_i us ws hu hw
         have hlb : lookA id (absS dep n t ms.flatten).mem = some (.clo fn first caps) := by
          show lookA id ms.flatten = _
          rw [look_flat]; exact hb
         refine call_fin hcal hke hn hg hd hdn hop (ids := [id]) (by simp only [tgtC, compPs_ev hps hvs, compP_ev hp hx, hlb, hu, hw]) (fun i hi => ?_) (fun i hi => ?_) hwT hwM h
         ·simp only [List.mem_singleton] at hi; subst hi; exact (hwM _ _ hb).1
         ·rw [midsVs_append, midsVs_append] at hi
          have hbm := (hwM _ _ hb).2
          simp only [Blk.mids, List.mem_append] at hbm
          rcases List.mem_append.1 hi with hi | hi
          ·exact hbm i (.inl (unSs_mids hu i hi))
          ·rcases List.mem_append.1 hi with hi | hi
           ·exact evs_low hwT hps hvs i hi
           ·exact hbm i (.inr (unSs_mids hw i hi))
        ·cases h
       ·cases h
      ·cases h
     ·cases h
    ·cases hc
   ·-- len
    rename_i x ty hop
    refine ⟨?_, fun htc => by simp [touches, hd, hop] at htc⟩
    split at hc
    ·rename_i p hp
     cases hc
     simp only [stepI, stLen] at h
     split at h
     ·rename_i v hv
      split at h
      ·rename_i u hu
       obtain ⟨h1, h2, h3, h4, h5, h6⟩ := setV_ok h
       unfold lenV at hu
       split at hu
       ·rename_i z hz
        cases hu
        exact (pv h1 h2 h3 h4 h5 h6 (sx_L htt hg hd hdn hn (p := .t) (by simp only [hop, evalL, compP_ev hp hv, hz]) trivial)).1
       ·exact (pv h1 h2 h3 h4 h5 h6 (sx_V htt hg hd hdn hn (p := .t) (by simp only [hop, evalV, compP_ev hp hv, hu]) trivial)).1
      ·cases h
     ·cases h
    ·cases hc
   ·-- anything else
    rename_i h1 h2 h3 h4 h5 h6 h7 h8 h9 h10
    refine ⟨gen hd (fun x hx => by cases hx; exact hdn) hc, fun htc => ?_⟩
    exfalso
    unfold touches at htc
    rw [hd] at htc
    revert htc
    clear pv gen h hc
    cases hop : o.op with
    | move x => exact absurd hop (h1 x)
    | assign x => exact absurd hop (h2 x)
    | binOp a b c d e => exact absurd hop (h3 a b c d e)
    | indexAddr a b c => exact absurd hop (h4 a b c)
    | fieldAddr a b c => exact absurd hop (h5 a b c)
    | extract a b => exact absurd hop (h6 a b)
    | _ => simp
end
end Go.El

/- The fast interpreter, part 8: regions. Own work; no condition. -/
namespace Go.El
open Go Go.RowKit
section
variable {P : Program} {tt : TT} {dep n : Nat} {t : Tr} {ms : Ms} {k : Nat}
theorem Left.refl {ke : Nat} {wl : List Nat} (hwT : Go.El.wfT dep n t k) (hwM : Go.El.wfM ms k) : Left ke dep n t ms k wl t ms k wl := ⟨Nat.le_refl _, hwT, hwM, fun _ _ h => ⟨h, rfl⟩, fun _ b _ h => ⟨b, h⟩, Tails.refl _⟩
theorem Left.trans {ke : Nat} {wl : List Nat} {t1 t2 : Tr} {ms1 ms2 : Ms} {k1 k2 : Nat} {wl1 wl2 : List Nat} (h : Left ke dep n t ms k wl t1 ms1 k1 wl1) (g : Left ke dep n t1 ms1 k1 wl1 t2 ms2 k2 wl2) : Left ke dep n t ms k wl t2 ms2 k2 wl2 :=
 ⟨Nat.le_trans h.le g.le, g.wfT, g.wfM, fun j hj hw => by
  obtain ⟨h1, h2⟩ := g.log j hj hw
  obtain ⟨h3, h4⟩ := h.log j hj h1
  exact ⟨h3, h2.trans h4⟩, fun j b hj hb => by
  obtain ⟨b1, h1⟩ := g.old j b hj hb
  exact h.old j b1 hj h1, h.tl.trans g.tl⟩
theorem compO_dst {d : Nat} {op : Op} {i : Ins} (h : compO dep n (some d) op = some i) : d < n := by
 unfold compO at h
 simp only at h
 split at h
 ·cases h
 ·rename_i hd; exact blt_lt hd
theorem stepGI_sound (htt : ttB P tt = true) {cal : CallG} (hcal : CalOk P cal) {ke : Nat} (hke : ke ≤ k) (hn : n ≤ 4 ^ dep) {ops : Array Oper} {i : Nat} {o : Oper} (ho : ops[i]? = some o) {gi : GI} (hc : compG dep n ops.toList o = some gi) (hwT : wfT dep n t k) (hwM : wfM ms k) {wl : List Nat} {t' : Tr} {ms' : Ms} {k' : Nat} {wl' : List Nat} {f : Ft}
  (h : stepGI cal tt n ke gi t ms k wl = .ok t' ms' k' wl' f) :
  (∃ ks, StepX P n ops i (absS dep n t ms.flatten) (absS dep n t' ms'.flatten) k k' ks ∧ CovK ks (slotK ops.toList o) f ∧ Left ke dep n t ms k wl t' ms' k' wl') ∧ (touches o = false → f = .n) := by
 unfold compG at hc
 split at hc
 ·rename_i ins hco
  split at hc
  ·rename_i hg
   cases hc
   simp only [stepGI] at h
   obtain ⟨⟨ks, h1, h2, h3⟩, h4⟩ := stepI_sound htt hcal hke hn hg hco hwT hwM h
   refine ⟨⟨ks, h1.lift ho hg, ?_, h3⟩, h4⟩
   have : slotK ops.toList o = (okeys (opdsOf o.op), dstK o.dst) := by
    unfold slotK dstK
    rw [hg]
    cases o.dst <;> rfl
   rw [this]; exact h2
  ·rename_i j want hg
   split at hc
   ·rename_i tg hj
    split at hc
    ·rename_i htg
     have htg : tg < n := blt_lt htg
     have hslot : slotK ops.toList o = (.s tg :: okeys (opdsOf o.op), dstK o.dst) := by
      unfold slotK dstK
      rw [hg]
      simp only [hj]
      cases o.dst <;> rfl
     have hgi : gi.g = some (pth dep tg, want) ∧ gi.i = ins ∧ gi.d = o.dst.map (pth dep) := by
      split at hc
      ·rename_i d hd; cases hc; exact ⟨rfl, rfl, by rw [hd]; rfl⟩
      ·rename_i hd; cases hc; exact ⟨rfl, rfl, by rw [hd]; rfl⟩
     obtain ⟨hgg, hgii, hgd⟩ := hgi
     simp only [stepGI, hgg, hgii, hgd] at h
     split at h
     ·rename_i b hb
      have hlb : lookA tg (absS dep n t ms.flatten).sl = some (.c (.B b)) := by
       show lookA tg (slots dep n t) = _
       rw [look_slots, if_pos htg]; exact hb
      split at h
      ·rename_i hbw
       have hbw : b = want := by simpa using hbw
       subst hbw
       obtain ⟨⟨ks, h1, h2, h3⟩, h4⟩ := stepI_sound (o := { o with guard := none }) htt hcal hke hn rfl hco hwT hwM h
       refine ⟨⟨_, StepX.guard ho hg hj hlb h1, ⟨fun key hk => ?_, h2.2⟩, h3⟩, h4⟩
       ·rcases List.mem_cons.1 hk with rfl | hk
        ·simp [hslot]
        ·have := h2.1 key hk
         cases key with
         | s j => rw [hslot]; exact List.mem_cons_of_mem _ this
         | m id => exact this
      ·rename_i hbw
       cases hd : o.dst with
       | none => rw [hd] at h; cases h
       | some d =>
        rw [hd] at h hco
        simp only [Option.map_some, Rs.ok.injEq] at h
        obtain ⟨rfl, rfl, rfl, rfl, rfl⟩ := h
        have hdn := compO_dst hco
        refine ⟨⟨_, StepX.of_ok (guard_no ho hg hj hlb (by cases b <;> cases want <;> simp at hbw ⊢) hd) ?_, ⟨fun key hk => ?_, fun key hk => ?_⟩, ⟨by omega, (hwT.le (by omega)).del hn hdn, hwM.le (by omega), fun _ _ h => ⟨h, rfl⟩, fun _ b _ h => ⟨b, h⟩, Tails.refl _⟩⟩, fun _ => rfl⟩
        ·rw [abs_del dep n t ms.flatten d hn hdn, kn_del]
        ·simp only [List.mem_singleton] at hk; subst hk; simp [hslot]
        ·simp only [List.mem_singleton] at hk; subst hk; simp [hslot, hd, dstK]
     ·cases h
    ·cases hc
   ·cases hc
 ·cases hc
theorem regT_D {cal : CallG} {ke : Nat} : ∀ {gs : List GI} {t : Tr} {ms : Ms} {k : Nat} {wl : List Nat} {t' : Tr} {ms' : Ms} {k' : Nat} {wl' : List Nat} {f : Ft}, regT cal tt n ke gs t ms k wl = .ok t' ms' k' wl' f → ∀ fs, ∃ fs', regD cal tt n ke gs t ms k wl fs = .ok t' ms' k' wl' fs'
 | [], t, ms, k, wl, t', ms', k', wl', f, h, fs => by
  have h' : Rs.ok t ms k wl .n = .ok t' ms' k' wl' f := h
  simp only [Rs.ok.injEq] at h'
  obtain ⟨rfl, rfl, rfl, rfl, rfl⟩ := h'
  exact ⟨fs, rfl⟩
 | x :: r, t, ms, k, wl, t', ms', k', wl', f, h, fs => by
  have e1 : regT cal tt n ke (x :: r) t ms k wl = match stepGI cal tt n ke x t ms k wl with | .ok t' ms' k' wl' _ => regT cal tt n ke r t' ms' k' wl' | .no => .no := rfl
  have e2 : regD cal tt n ke (x :: r) t ms k wl fs = match stepGI cal tt n ke x t ms k wl with | .ok t' ms' k' wl' f => regD cal tt n ke r t' ms' k' wl' (f :: fs) | .no => .no := rfl
  rw [e1] at h
  rw [e2]
  cases hs : stepGI cal tt n ke x t ms k wl with
  | no => rw [hs] at h; cases h
  | ok t1 ms1 k1 wl1 f1 =>
   rw [hs] at h
   exact regT_D h _
theorem regD_steps (htt : ttB P tt = true) {cal : CallG} (hcal : CalOk P cal) {ke : Nat} (hn : n ≤ 4 ^ dep) {ops : Array Oper} : ∀ (os : List Oper) (i : Nat) {gs : List GI} {t : Tr} {ms : Ms} {k : Nat} {wl : List Nat} {fs : List Ft} {t' : Tr} {ms' : Ms} {k' : Nat} {wl' : List Nat} {fs' : List Ft},
  regD cal tt n ke gs t ms k wl fs = .ok t' ms' k' wl' fs' → compR dep n ops.toList os = some gs → ops.toList.drop i = os → ke ≤ k → wfT dep n t k → wfM ms k →
  ∃ (ds : List (List (Key × Info) × List (Key × Option Info))) (cl : List Nat) (kk : List Ks) (fk : List Ft), Steps P n ops i os (absS dep n t ms.flatten) (absS dep n t' ms'.flatten) k k' ds cl ∧ Covers ds kk ∧ fs' = fk.reverse ++ fs ∧ fk.length = os.length ∧ (∀ (j : Nat) a o f, kk[j]? = some a → os[j]? = some o → fk[j]? = some f → CovK a (slotK ops.toList o) f ∧ (touches o = false → f = .n)) ∧ Left ke dep n t ms k wl t' ms' k' wl'
 | [], i, gs, t, ms, k, wl, fs, t', ms', k', wl', fs', h, hc, _, _, hwT, hwM => by
  simp only [compR, Option.some.injEq] at hc
  subst hc
  have h' : Rd.ok t ms k wl fs = .ok t' ms' k' wl' fs' := h
  simp only [Rd.ok.injEq] at h'
  obtain ⟨rfl, rfl, rfl, rfl, rfl⟩ := h'
  refine ⟨[], [k], [], [], ⟨rfl, rfl, rfl, rfl, ?_, by simp, by simp, rfl⟩, ⟨rfl, fun j h => by simp at h⟩, by simp, rfl, fun j a o f h => by simp at h, Left.refl hwT hwM⟩
  intro j a b _ h2
  simp at h2
 | o :: os, i, gs, t, ms, k, wl, fs, t', ms', k', wl', fs', h, hc, hdrop, hke, hwT, hwM => by
  simp only [compR] at hc
  split at hc
  ·rename_i g gs' hg hgs
   cases hc
   have e2 : regD cal tt n ke (g :: gs') t ms k wl fs = match stepGI cal tt n ke g t ms k wl with | .ok t' ms' k' wl' f => regD cal tt n ke gs' t' ms' k' wl' (f :: fs) | .no => .no := rfl
   rw [e2] at h
   split at h
   ·rename_i t1 ms1 k1 wl1 f1 hs
    have ho : ops[i]? = some o := by
     have := congrArg (fun l => l[0]?) hdrop
     simpa [List.getElem?_drop] using this
    have hdrop' : ops.toList.drop (i + 1) = os := by
     rw [← List.drop_drop, hdrop]; rfl
    obtain ⟨⟨ks, ⟨rd, wr, hst, hrd, hkn, hle, hk1, hk2⟩, hcv, hL⟩, htch⟩ := stepGI_sound htt hcal hke hn ho hg hwT hwM hs
    obtain ⟨ds, cl, kk, fk, hS, ⟨hc1, hc2⟩, hfs, hfl, hcov, hL2⟩ := regD_steps htt hcal hn os (i + 1) h hgs hdrop' (Nat.le_trans hke hL.le) hL.wfT hL.wfM
    refine ⟨(rd, wr) :: ds, k :: cl, ks :: kk, f1 :: fk, ⟨by simp [hS.len], by simp [hS.clen], rfl, by simpa using hS.last, ?_, ?_, ?_, ?_⟩, ⟨by simp [hc1], fun j hj hj' => ?_⟩, by rw [hfs]; simp, by simp [hfl], ?_, hL.trans hL2⟩
    ·intro j a b ha hb
     cases j with
     | zero =>
      simp only [List.getElem?_cons_zero, Option.some.injEq, Nat.zero_add, List.getElem?_cons_succ] at ha hb
      rw [hS.first] at hb
      cases hb
      omega
     | succ j => exact hS.mono j a b (by simpa using ha) (by simpa using hb)
    ·intro j hj a b ha hb
     cases j with
     | zero =>
      simp only [List.getElem?_cons_zero, Option.some.injEq, Nat.zero_add, List.getElem?_cons_succ] at ha hb
      rw [hS.first] at hb
      cases hb
      subst ha
      simpa using hst
     | succ j =>
      have := hS.step j (by simpa using hj) a b (by simpa using ha) (by simpa using hb)
      rw [show i + (j + 1) = i + 1 + j by omega]
      simpa using this
    ·intro j hj kx hkx
     cases j with
     | zero => simp only [List.getElem_cons_zero] at hkx; simpa [foldD] using hrd kx hkx
     | succ j =>
      simp only [List.getElem_cons_succ] at hkx
      have := hS.reads j (by simpa using hj) kx hkx
      rw [hkn] at this
      simpa [foldD] using this
    ·rw [hS.fin, hkn]; simp [foldD]
    ·cases j with
     | zero => exact ⟨hk1, hk2⟩
     | succ j => exact hc2 j (by simpa using hj) (by simpa using hj')
    ·intro j a o' f' ha ho' hf'
     cases j with
     | zero =>
      simp only [List.getElem?_cons_zero, Option.some.injEq] at ha ho' hf'
      subst ha ho' hf'
      exact ⟨hcv, htch⟩
     | succ j => exact hcov j a o' f' (by simpa using ha) (by simpa using ho') (by simpa using hf')
   ·cases h
  ·cases hc
theorem steps_wp (hmx : P.follows .mixedOrders = true) {F : Fix} {draw : Bool} {ops : Array Oper} {st st' : St} {k k' : Nat} {ds : List (List (Key × Info) × List (Key × Option Info))} {cl : List Nat} (hS : Steps P F.n ops 0 ops.toList st st' k k' ds cl)
  (hord : draw = true → (∀ i o e, ops[i]? = some o → e ∈ o.after → Region.binds .any e = true → e.on < i) ∧
   ∀ i j, i < j → j < ops.size → ∀ key, ((key ∈ keysOf (ds.getD i ([], [])).2 ∧ key ∈ keysOf (ds.getD j ([], [])).2) ∨ (key ∈ keysOf (ds.getD i ([], [])).2 ∧ key ∈ rkeysOf (ds.getD j ([], [])).1) ∨ (key ∈ rkeysOf (ds.getD i ([], [])).1 ∧ key ∈ keysOf (ds.getD j ([], [])).2)) → Anc ops i j)
  {id : Nat} {R : Exit → Act → World → Prop} (hQ : ∀ g W a, Hold F (· < k') st'.kn g W a → R .normal a W)
  {g : Gh} {W : World} {a : Act} (h0 : Hold F (· < k) st.kn g W a) (hnd : ndO F.rd ops) : (Code.region id ops draw).wpIn (fen F.rd) 0 P R a W := by
 have hl' : ds.length = ops.size := by simpa using hS.len
 have hcl : cl.length = ops.size + 1 := by simpa using hS.clen
 let c : Nat → Nat := fun j => cl.getD j k'
 have hget : ∀ j, j < ops.size + 1 → cl[j]? = some (c j) := by
  intro j hj
  have : j < cl.length := by omega
  simp only [c, List.getD_eq_getElem?_getD, List.getElem?_eq_getElem this, Option.getD_some]
 have hlast : cl[ops.size]? = some k' := by simpa using hS.last
 have hc : ∀ i, c i ≤ c (i + 1) := by
  intro i
  rcases Nat.lt_or_ge i ops.size with hi | hi
  ·exact hS.mono i _ _ (hget i (by omega)) (hget (i + 1) (by omega))
  ·have h2 : c (i + 1) = k' := by simp only [c, List.getD_eq_getElem?_getD]; rw [List.getElem?_eq_none (by omega)]; rfl
   rcases Nat.lt_or_ge ops.size i with hi' | hi'
   ·have h1 : c i = k' := by simp only [c, List.getD_eq_getElem?_getD]; rw [List.getElem?_eq_none (by omega)]; rfl
    omega
   ·have : i = ops.size := by omega
    subst this
    have h1 : c ops.size = k' := by simp only [c, List.getD_eq_getElem?_getD, hlast, Option.getD_some]
    omega
 have hc0 : c 0 = k := by simp only [c, List.getD_eq_getElem?_getD, hS.first, Option.getD_some]
 have hcn : c ops.size = k' := by simp only [c, List.getD_eq_getElem?_getD, hlast, Option.getD_some]
 have hs : ∀ i, i < ops.size → StepN P F.n ops i ((ds.getD i ([], [])).1) ((ds.getD i ([], [])).2) (famN c i) := by
  intro i hi
  have := hS.step i (by omega) _ _ (hget i (by omega)) (hget (i + 1) (by omega))
  rw [getD_map_range ds _ i (by omega)]
  rw [Nat.zero_add] at this
  exact this
 have ht : ∀ i, i < ops.size → ∀ kx ∈ (ds.getD i ([], [])).1, fold (fun i => (ds.getD i ([], [])).2) st.kn (List.range i) kx.1 = some kx.2 := by
  intro i hi kx hkx
  rw [fold_range_eq ds st.kn i (by omega)]
  rw [getD_map_range ds _ i (by omega)] at hkx
  exact hS.reads i (by omega) kx hkx
 have hfin : ∀ g W a, Hold F (· < c ops.size) (fold (fun i => (ds.getD i ([], [])).2) st.kn (List.range ops.size)) g W a → R .normal a W := by
  intro g W a hh
  refine hQ g W a ?_
  rw [hS.fin]
  rw [fold_range_eq ds st.kn ops.size (by omega), List.take_of_length_le (by omega), hcn] at hh
  exact hh
 have h0' : Hold F (· < c 0) st.kn g W a := by rw [hc0]; exact h0
 cases draw with
 | false => exact region_text hc h0' hs ht hfin hnd
 | true =>
  obtain ⟨h1, h2⟩ := hord rfl
  exact region_any hc hmx h1 h0' hs ht (fun i j hij hj key a b => h2 i j hij hj key (.inl ⟨a, b⟩)) (fun i j hij hj key a b => h2 i j hij hj key (.inr (.inl ⟨a, b⟩))) (fun i j hij hj key a b => h2 i j hij hj key (.inr (.inr ⟨a, b⟩))) hfin hnd
theorem anyIn_no {k k' : Nat} {wl : List Nat} : ∀ {l : List Nat}, anyIn k k' wl l = false → ∀ id ∈ l, id ∉ wl ∧ ¬ (k ≤ id ∧ id < k')
 | [], _, id, h => by cases h
 | x :: r, h, id, hid => by
  simp only [anyIn] at h
  split at h
  ·cases h
  ·rename_i h1
   split at h
   ·cases h
   ·rename_i h2
    rcases List.mem_cons.1 hid with rfl | hid
    ·refine ⟨fun hc => (by rw [memN_mem.2 hc] at h1; cases h1), fun hc => ?_⟩
     have : (Nat.ble k id && Nat.blt id k') = true := by simp [Nat.ble_eq, Nat.blt_eq, hc]
     rw [this] at h2; cases h2
    ·exact anyIn_no h id hid
theorem anyLt_no {k : Nat} : ∀ {l : List Nat}, anyLt k l = false → ∀ id ∈ l, k ≤ id
 | [], _, id, h => by cases h
 | x :: r, h, id, hid => by
  simp only [anyLt] at h
  split at h
  ·cases h
  ·rename_i h1
   rcases List.mem_cons.1 hid with rfl | hid
   ·rcases Nat.lt_or_ge id k with hlt | hge
    ·have : Nat.blt id k = true := by simpa [Nat.blt_eq] using hlt
     rw [this] at h1; cases h1
    ·exact hge
   ·exact anyLt_no h id hid
theorem meetN_no {l m : List Nat} : meetN l m = false → ∀ id ∈ l, id ∉ m := by
 induction l with
 | nil => intro _ id h; cases h
 | cons x r ih =>
  intro h id hid
  simp only [meetN] at h
  split at h
  ·cases h
  ·rename_i h1
   rcases List.mem_cons.1 hid with rfl | hid
   ·intro hc; rw [memN_mem.2 hc] at h1; cases h1
   ·exact ih h id hid
theorem cfl_no {f g : Ft} (h : cfl f g = false) (id : Nat) : ¬ (FtW f id ∧ FtW g id) ∧ ¬ (FtW f id ∧ FtR g id) ∧ ¬ (FtR f id ∧ FtW g id) := by
 cases f with
 | n => simp [FtW, FtR]
 | m r w =>
  cases g with
  | n => simp [FtW, FtR]
  | m r' w' =>
   simp only [cfl, Bool.or_eq_false_iff] at h
   exact ⟨fun hc => meetN_no h.1.1 id hc.1 hc.2, fun hc => meetN_no h.1.2 id hc.1 hc.2, fun hc => meetN_no h.2 id hc.1 hc.2⟩
  | c k k' wl =>
   simp only [cfl, Bool.or_eq_false_iff] at h
   have hw : w = [] := by cases w <;> simp at h ⊢
   subst hw
   refine ⟨by simp [FtW], by simp [FtW], fun hc => ?_⟩
   obtain ⟨h1, h2⟩ := anyIn_no h.2 id hc.1
   rcases hc.2 with h3 | h3
   ·exact h1 h3.1
   ·exact h2 h3
 | c k k' wl =>
  cases g with
  | n => simp [FtW, FtR]
  | m r w =>
   simp only [cfl, Bool.or_eq_false_iff] at h
   refine ⟨fun hc => ?_, fun hc => ?_, fun hc => ?_⟩
   ·have h1 := anyLt_no h.1.1 id hc.2
    have h2 := anyLt_no h.1.2 id hc.2
    rcases hc.1 with h3 | h3 <;> omega
   ·obtain ⟨h1, h2⟩ := anyIn_no h.2 id hc.2
    rcases hc.1 with h3 | h3
    ·exact h1 h3.1
    ·exact h2 h3
   ·have h1 := anyLt_no h.1.1 id hc.2
    have : id < k := hc.1
    omega
  | c _ _ _ => simp [cfl] at h
theorem pairOk_mem {fs : List Ft} : ∀ {l : List (Nat × Nat)}, pairOk fs l = true → ∀ i j, (i, j) ∈ l → cfl (fs.getD i .n) (fs.getD j .n) = false
 | [], _, i, j, h => by cases h
 | (a, b) :: r, h, i, j, hm => by
  simp only [pairOk] at h
  split at h
  ·cases h
  ·rename_i h1
   rcases List.mem_cons.1 hm with e | hm
   ·cases e; exact h1
   ·exact pairOk_mem h i j hm
theorem pairsI_mem {m j : Nat} : ∀ {l : List Oper} {i0 a : Nat} {o : Oper}, l[a]? = some o → touches o = true → i0 + a < j → m.testBit (i0 + a) = false → (i0 + a, j) ∈ pairsI m j l i0
 | [], i0, a, o, h, _, _, _ => by simp at h
 | x :: r, i0, 0, o, h, ht, hlt, hb => by
  simp only [List.getElem?_cons_zero, Option.some.injEq] at h
  subst h
  simp only [Nat.add_zero] at hlt hb ⊢
  simp only [pairsI, hlt, if_true, ht, hb, Bool.not_false, Bool.and_self]
  simp
 | x :: r, i0, a + 1, o, h, ht, hlt, hb => by
  have h1 := pairsI_mem (m := m) (j := j) (l := r) (i0 := i0 + 1) (a := a) (by simpa using h) ht (by omega) (by rw [show i0 + 1 + a = i0 + (a + 1) by omega]; exact hb)
  rw [show i0 + 1 + a = i0 + (a + 1) by omega] at h1
  simp only [pairsI]
  rw [if_pos (by omega)]
  split
  ·exact List.mem_cons_of_mem _ h1
  ·exact h1
theorem pairsA_mem {opsL : List Oper} {i : Nat} {oi : Oper} (hi : opsL[i]? = some oi) (hti : touches oi = true) : ∀ {ml : List Nat} {os : List Oper} {j0 a : Nat} {o : Oper} {m : Nat}, ml[a]? = some m → os[a]? = some o → touches o = true → i < j0 + a → m.testBit i = false → (i, j0 + a) ∈ pairsA opsL ml os j0
 | [], os, j0, a, o, m, h, _, _, _, _ => by simp at h
 | m0 :: ml, [], j0, a, o, m, _, h, _, _, _ => by simp at h
 | m0 :: ml, x :: os, j0, 0, o, m, hm, ho, ht, hlt, hb => by
  simp only [List.getElem?_cons_zero, Option.some.injEq] at hm ho
  subst hm ho
  simp only [pairsA, ht, if_true, Nat.add_zero] at hlt ⊢
  refine List.mem_append_left _ ?_
  have := pairsI_mem (m := m0) (j := j0) (l := opsL) (i0 := 0) (a := i) hi hti (by omega) (by simpa using hb)
  simpa using this
 | m0 :: ml, x :: os, j0, a + 1, o, m, hm, ho, ht, hlt, hb => by
  have h1 := pairsA_mem hi hti (ml := ml) (os := os) (j0 := j0 + 1) (a := a) (by simpa using hm) (by simpa using ho) ht (by omega) hb
  rw [show j0 + 1 + a = j0 + (a + 1) by omega] at h1
  simp only [pairsA]
  split
  ·exact List.mem_append_right _ h1
  ·exact h1
end
end Go.El

/- The fast interpreter, part 9: it is sound. Own work; no condition. -/
namespace Go.El
open Go Go.RowKit
def RcIs (r : Rc) (e : Ex) (t : Tr) (ms : Ms) (k : Nat) (wl : List Nat) : Prop := match e with
 | .nor => r = .nor t ms k wl
 | .exi id => r = .exi id t ms k wl
 | .ret => r = .ret t ms k wl
def GoneF (P : Program) (dep n ke : Nat) (c : Code) (t : Tr) (ms : Ms) (k : Nat) (wl : List Nat) (e : Ex) (t' : Tr) (ms' : Ms) (k' : Nat) (wl' : List Nat) : Prop :=
 Left ke dep n t ms k wl t' ms' k' wl' ∧ Gone P n c (absS dep n t ms.flatten) k e (absS dep n t' ms'.flatten) k'
section
variable {P : Program} {tt : TT} {con : FuncId → List AV → Ms → Option (List AV × AV)}
theorem depOf_ok {n : Nat} (h : n ≤ 4096) : n ≤ 4 ^ depOf n := by
 unfold depOf
 split
 ·simpa using by omega
 ·split
  ·simpa using by omega
  ·split
   ·simpa using by omega
   ·split
    ·simpa using by omega
    ·simpa using h
theorem get_argT (dep : Nat) : ∀ (vs : List AV) (i : Nat) (t : Tr) (j : Nat), i + vs.length ≤ 4 ^ dep → j < 4 ^ dep → getT (pth dep j) (argT dep vs i t) = match lookA j (argSl i vs) with | some v => some v | none => getT (pth dep j) t
 | [], i, t, j, _, _ => rfl
 | v :: vs, i, t, j, hle, hj => by
  have e : argT dep (v :: vs) i t = argT dep vs (i + 1) (setT (pth dep i) v t) := rfl
  simp only [List.length_cons] at hle
  rw [e, get_argT dep vs (i + 1) _ j (by omega) hj]
  have hne : ∀ (l : List AV) (i' : Nat), i < i' → lookA i (argSl i' l) = none := by
   intro l
   induction l with
   | nil => intro _ _; rfl
   | cons y l ih => intro i' hlt; simp only [argSl, lookA]; rw [if_neg (by omega)]; exact ih (i' + 1) (by omega)
  simp only [argSl, lookA]
  by_cases h : i = j
  ·subst h
   rw [if_pos rfl, hne vs (i + 1) (by omega)]
   simp only [get_set]
  ·rw [if_neg h]
   rw [get_set_ne _ _ _ _ (by rw [pth_length, pth_length]) (fun e' => h (pth_inj dep (by omega) hj e'))]
theorem argSl_lt : ∀ (vs : List AV) (i j : Nat) (v : AV), lookA j (argSl i vs) = some v → j < i + vs.length ∧ ∀ id ∈ v.mids, id ∈ midsVs vs
 | [], i, j, v, h => by simp [argSl, lookA] at h
 | x :: vs, i, j, v, h => by
  simp only [argSl, lookA] at h
  split at h
  ·rename_i e; cases h; subst e; exact ⟨by simp, fun id hid => by simp [midsVs, hid]⟩
  ·obtain ⟨h1, h2⟩ := argSl_lt vs (i + 1) j v h
   exact ⟨by simp; omega, fun id hid => by simp [midsVs, h2 id hid]⟩
theorem resOneF_eq {dep n : Nat} {t : Tr} {ms : Ms} {x : ResultVar} {v : AV} (h : resOneF tt dep n t ms x = some v) : resOne tt (absS dep n t ms.flatten) x = some v := by
 cases x with
 | tmp j =>
  simp only [resOneF] at h
  split at h
  ·rename_i hj
   simp only [resOne, absS, look_slots, if_pos (blt_lt hj)]
   exact h
  ·cases h
 | cell j ty =>
  simp only [resOneF] at h
  split at h
  ·rename_i hj
   have e : lookA j (absS dep n t ms.flatten).sl = getT (pth dep j) t := by
    show lookA j (slots dep n t) = _
    rw [look_slots, if_pos (blt_lt hj)]
   simp only [resOne, e]
   split at h
   ·rename_i id off hp
    simp only [hp]
    have e2 : lookA id (absS dep n t ms.flatten).mem = lookS id ms := look_flat id ms
    simp only [e2]
    split at h
    ·rename_i E bz cs sz ag hb hts
     simp only [hb, hts]
     exact h
    ·cases h
   ·cases h
  ·cases h
theorem resLF_eq {dep n : Nat} {t : Tr} {ms : Ms} : ∀ {xs : List ResultVar} {ss : List (Bool × List C)}, resLF tt dep n t ms xs = some ss → resL tt (absS dep n t ms.flatten) xs = some ss
 | [], ss, h => h
 | x :: xs, ss, h => by
  simp only [resLF] at h
  split at h
  ·rename_i v hv
   split at h
   ·rename_i s r hs hr
    cases h
    simp only [resL, resOneF_eq hv, hs, resLF_eq hr]
   ·cases h
  ·cases h
theorem resAllF_eq {dep n : Nat} {t : Tr} {ms : Ms} {xs : List ResultVar} {v : AV} (h : resAllF tt dep n t ms xs = some v) : resAll tt (absS dep n t ms.flatten) xs = some v := by
 unfold resAllF at h
 unfold resAll
 split at h
 ·exact resOneF_eq h
 ·rename_i xs hne
  split at h
  ·rename_i ss hs
   cases h
   have := resLF_eq hs
   split
   ·rename_i x; exact absurd rfl (hne x)
   ·rw [this]; rfl
  ·cases h
theorem reachF_in (own : Mem) : ∀ (f : Nat) (todo : List Nat) (acc : Mem), (∀ id b, lookA id acc = some b → lookA id own = some b) → ∀ id b, lookA id (reachF f own todo acc) = some b → lookA id own = some b
 | 0, _, acc, h, id, b, hb => h id b (by simpa [reachF] using hb)
 | f + 1, [], acc, h, id, b, hb => h id b (by simpa [reachF] using hb)
 | f + 1, i :: todo, acc, h, id, b, hb => by
  simp only [reachF] at hb
  split at hb
  ·exact reachF_in own f todo acc h id b hb
  ·split at hb
   ·rename_i b0 hb0
    refine reachF_in own f _ _ ?_ id b hb
    intro j x hx
    simp only [lookA] at hx
    split at hx
    ·rename_i e; cases hx; subst e; rw [← lookF_eq]; exact hb0
    ·exact h j x hx
   ·exact reachF_in own f todo acc h id b hb
theorem idsOk_ok {k : Nat} {ms : Ms} : ∀ {l : List Nat}, idsOk k ms l = true → ∀ id ∈ l, k ≤ id ∨ ∃ b, lookS id ms = some b
 | [], _, id, h => by cases h
 | x :: r, h, id, hid => by
  simp only [idsOk] at h
  split at h
  ·rename_i hx
   rcases List.mem_cons.1 hid with rfl | hid
   ·exact .inl (Nat.le_of_ble_eq_true hx)
   ·exact idsOk_ok h id hid
  ·split at h
   ·rename_i b hb
    rcases List.mem_cons.1 hid with rfl | hid
    ·exact .inr ⟨b, hb⟩
    ·exact idsOk_ok h id hid
   ·cases h
theorem svOk_ok {k : Nat} {ms : Ms} : ∀ {l : Mem}, svOk k ms l = true → ∀ id b, lookA id l = some b → k ≤ id ∧ ∀ j ∈ b.mids, k ≤ j ∨ ∃ b, lookS j ms = some b
 | [], _, id, b, h => by simp [lookA] at h
 | (i, x) :: r, h, id, b, hb => by
  simp only [svOk] at h
  split at h
  ·rename_i h1
   split at h
   ·rename_i h2
    simp only [lookA] at hb
    split at hb
    ·rename_i e; cases hb; subst e; exact ⟨Nat.le_of_ble_eq_true h1, idsOk_ok h2⟩
    ·exact svOk_ok h id b hb
   ·cases h
  ·cases h
theorem wlOk_ok {k : Nat} {ms ms' : Ms} : ∀ {l : List Nat}, wlOk k ms ms' l = true → ∀ id ∈ l, ∀ b, lookS id ms' = some b → ∀ j ∈ b.mids, k ≤ j ∨ ∃ b, lookS j ms = some b
 | [], _, id, h => by cases h
 | x :: r, h, id, hid => by
  simp only [wlOk] at h
  split at h
  ·rename_i b0 hb0
   split at h
   ·rename_i h1
    rcases List.mem_cons.1 hid with rfl | hid
    ·intro b hb; rw [hb0] at hb; cases hb; exact idsOk_ok h1
    ·exact wlOk_ok h id hid
   ·cases h
  ·rename_i hb0
   rcases List.mem_cons.1 hid with rfl | hid
   ·intro b hb; rw [hb0] at hb; cases hb
   ·exact wlOk_ok h id hid
theorem ownOk_ok {k : Nat} : ∀ {l : Mem}, ownOk k l = true → ∀ id b, lookA id l = some b → k ≤ id
 | [], _, id, b, h => by simp [lookA] at h
 | (i, x) :: r, h, id, b, hb => by
  have h' : Bool.rec (motive := fun _ => Bool) false (ownOk k r) (Nat.ble k i) = true := h
  cases hi : Nat.ble k i with
  | false => rw [hi] at h'; cases h'
  | true =>
   rw [hi] at h'
   simp only [lookA] at hb
   split at hb
   ·rename_i e; subst e; exact Nat.le_of_ble_eq_true hi
   ·exact ownOk_ok h' id b hb
theorem look_push (sv : Mem) (rest : Ms) (j : Nat) : lookS j (pushS sv rest) = match lookA j sv with | some b => some b | none => lookS j rest := by
 rw [← look_flat]
 cases rest with
 | nil => simp only [pushS, List.flatten_cons, List.flatten_nil, List.append_nil]; cases lookA j sv <;> rfl
 | cons m r =>
  rw [show (pushS sv (m :: r)).flatten = sv ++ (m ++ r.flatten) by simp [pushS], look_app, show m ++ r.flatten = (m :: r).flatten by simp, look_flat]
  cases lookA j sv <;> rfl
theorem lookS_fz (j : Nat) : ∀ (D : List Nat) (ms : Ms), lookS j (fzS D ms) = if j ∈ D then (lookS j ms).map fzB else lookS j ms
 | [], ms => by simp [fzS]
 | id :: r, ms => by
  have ih := lookS_fz j r
  have idem : ∀ b, fzB (fzB b) = fzB b := fun b => by cases b <;> rfl
  unfold fzS
  split
  ·rename_i E sz cs hl
   rw [ih, lookS_put, hl]
   by_cases h2 : id = j
   ·subst h2
    simp [hl, fzB]
   ·have h3 : ¬ j = id := fun e => h2 e.symm
    simp [h2, h3]
  ·rename_i hno
   rw [ih]
   by_cases h2 : j = id
   ·subst h2
    have e : (lookS j ms).map fzB = lookS j ms := by
     cases hl : lookS j ms with
     | none => rfl
     | some b =>
      cases b with
      | box E sz cs => exact absurd hl (hno E sz cs)
      | vec _ _ _ => rfl
      | clo _ _ _ => rfl
      | fz _ _ => rfl
    simp [e]
   ·simp [h2]
theorem tails_fz : ∀ (D : List Nat) (ms : Ms), Tails ms (fzS D ms)
 | [], ms => Tails.refl ms
 | id :: r, ms => by
  unfold fzS
  split
  ·exact (tails_put id _ ms).trans (tails_fz r _)
  ·exact tails_fz r ms
theorem callF_ok (htt : ttB P tt = true) (hcon : ∀ f vs ms vs' r, con f vs ms = some (vs', r) → FnS P f vs' r) {body : BodyF}
  (hbody : ∀ dep n ke c t ms k wl e t' ms' k' wl', n ≤ 4 ^ dep → ke ≤ k → wfT dep n t k → wfM ms k → RcIs (body dep n ke c t ms k wl) e t' ms' k' wl' → GoneF P dep n ke c t ms k wl e t' ms' k' wl') : CalOk P (callF P tt con body) := by
 constructor
 intro f vs ms k r ms' k' wl h hwM hvs
 unfold callF at h
 split at h
 ·rename_i vs' r0 hc
  dsimp only at h
  generalize idsZ ms 200 (midsVs vs) [] = D at h
  split at h
  ·rename_i hchk
   simp only [Cr.ok.injEq] at h
   obtain ⟨rfl, rfl, rfl, rfl⟩ := h
   simp only [Bool.and_eq_true] at hchk
   have hm : midsVs vs' = [] := List.isEmpty_iff.1 hchk.1.2
   have hf := hcon _ _ _ _ _ hc
   have hr : r0.mids = [] := hf.noid
   have hsub : ∀ id b, lookS id (fzS D ms) = some b → ∃ b0, lookS id ms = some b0 ∧ b.mids = b0.mids ∧ (id ∉ D → b = b0) := fun id b hb => by
    rw [lookS_fz] at hb
    split at hb
    ·rename_i hd
     obtain ⟨b0, h0, rfl⟩ := Option.map_eq_some_iff.1 hb
     exact ⟨b0, h0, fzB_mids b0, fun h => absurd hd h⟩
    ·exact ⟨b, hb, rfl, fun _ => rfl⟩
   refine ⟨fs_cxZ hf hm D (fun id => by rw [look_flat, look_flat, lookS_fz]) (fun id b hl => ?_) hchk.1.1 k, fun id hid => (by rw [hr] at hid; cases hid), fun id b hb => ?_, fun id _ hnd => (by rw [lookS_fz, if_neg hnd]), fun id b hb => (by obtain ⟨b0, h0, _⟩ := hsub id b hb; exact .inr ⟨b0, h0⟩), fun id b hb => (by obtain ⟨b0, h0, hmm, _⟩ := hsub id b hb; rw [hmm]; exact hwM id b0 h0), fun id hid => (by rw [hr] at hid; cases hid), tails_fz D ms⟩
   rotate_left
   ·by_cases hd : id ∈ D
    ·exact .inr (wlOk_ok hchk.2 id hd b hb)
    ·obtain ⟨b0, h0, _, he⟩ := hsub id b hb
     rw [he hd]
     exact .inl h0
   unfold lkS at hl
   split at hl
   ·rename_i ha
    rw [look_flat]
    refine ⟨?_, hl⟩
    obtain ⟨x, hx, he⟩ := List.any_eq_true.1 ha
    rw [Nat.eq_of_beq_eq_true he]; exact hx
   ·cases hl
  ·cases h
 ·split at h
  ·rename_i fn hf
   split at h
   ·rename_i c hb
    split at h
    ·rename_i hchk
     simp only [Bool.and_eq_true] at hchk
     obtain ⟨⟨hname, hlen⟩, hsz⟩ := hchk
     have hlen : vs.length ≤ fn.ntmps := Nat.le_of_ble_eq_true hlen
     have hn : fn.ntmps ≤ 4 ^ depOf fn.ntmps := depOf_ok (Nat.le_of_ble_eq_true hsz)
     have hw0 : ∀ id, lookS id ([] :: ms) = lookS id ms := fun _ => rfl
     have hwT : wfT (depOf fn.ntmps) fn.ntmps (argT (depOf fn.ntmps) vs 0 .e) k := by
      intro j v hj hv id hid
      rw [get_argT _ vs 0 .e j (by omega) (by omega), get_e] at hv
      split at hv
      ·rename_i u hu
       cases hv
       exact hvs id ((argSl_lt vs 0 j v hu).2 id hid)
      ·cases hv
     have hkn : (absS (depOf fn.ntmps) fn.ntmps (argT (depOf fn.ntmps) vs 0 .e) ([] :: ms : Ms).flatten).kn = St.kn ⟨argSl 0 vs, ms.flatten, 0, []⟩ := by
      rw [abs_kn]
      funext key
      cases key with
      | m id => simp [St.kn]
      | s j =>
       simp only [St.kn]
       by_cases hj : j < fn.ntmps
       ·rw [if_pos hj, get_argT _ vs 0 .e j (by omega) (by omega), get_e]
        cases lookA j (argSl 0 vs) <;> rfl
       ·rw [if_neg hj]
        cases hl : lookA j (argSl 0 vs) with
        | none => rfl
        | some v => have := (argSl_lt vs 0 j v hl).1; omega
     have fin : ∀ (e : Ex) (t1 : Tr) (ms1 : Ms) (k1 : Nat) (wl1 : List Nat), (e = .nor ∨ e = .ret) → RcIs (body (depOf fn.ntmps) fn.ntmps k c (argT (depOf fn.ntmps) vs 0 .e) ([] :: ms) k []) e t1 ms1 k1 wl1 → leave tt fn (depOf fn.ntmps) ms k t1 ms1 k1 wl1 = .ok r ms' k' wl →
       CX P f vs ms.flatten k r ms'.flatten k' ∧ (∀ id ∈ r.mids, k ≤ id ∨ ∃ b, lookS id ms = some b) ∧ (∀ id b, lookS id ms' = some b → lookS id ms = some b ∨ ∀ j ∈ b.mids, k ≤ j ∨ ∃ b, lookS j ms = some b) ∧
       (∀ id, id < k → id ∉ wl → lookS id ms' = lookS id ms) ∧ (∀ id b, lookS id ms' = some b → k ≤ id ∨ ∃ b0, lookS id ms = some b0) ∧ wfM ms' k' ∧ (∀ id ∈ r.mids, id < k') ∧ Tails ms ms' := by
      intro e t1 ms1 k1 wl1 he hrc hlv
      obtain ⟨hL, hG⟩ := hbody _ _ _ _ _ _ _ _ _ _ _ _ _ hn (Nat.le_refl k) hwT (show wfM ([] :: ms) k from fun id b hb => hwM id b hb) hrc
      unfold leave at hlv
      split at hlv
      ·rename_i r1 hr1
       split at hlv
       ·rename_i own rest
        dsimp only at hlv
        generalize hsv : reachF 1000 own (r1.mids ++ wlIds rest wl1) [] = sv at hlv
        split at hlv
        ·rename_i hchk2
         simp only [Cr.ok.injEq] at hlv
         obtain ⟨rfl, rfl, rfl, rfl⟩ := hlv
         simp only [Bool.and_eq_true] at hchk2
         obtain ⟨⟨⟨hc1, hc2⟩, hc3⟩, hc4⟩ := hchk2
         have hres := resAllF_eq hr1
         have hown := ownOk_ok hc4
         have hsvin := reachF_in own 1000 (r1.mids ++ wlIds rest wl1) [] (fun id b h => by simp [lookA] at h)
         rw [hsv] at hsvin
         have hsvok := svOk_ok hc2
         have hcons : ∀ id, lookS id (own :: rest) = match lookA id own with | some b => some b | none => lookS id rest := by
          intro id
          have e1 : lookS id (own :: rest) = match lookF id own with | some b => some b | none => lookS id rest := rfl
          rw [e1, lookF_eq]
         have hlow : ∀ id, id < k → lookS id (own :: rest) = lookS id rest := by
          intro id hid
          rw [hcons]
          cases ho : lookA id own with
          | none => rfl
          | some b => have := hown id b ho; omega
         have htl := hL.tl
         have hrest : ∀ i j b, lookS j (rest.drop i) = some b → ∃ b0, lookS j (ms.drop i) = some b0 := by
          intro i j b hb
          have := htl (i + 1) j b (by omega) (by simpa using hb)
          simpa using this
         have hrk : ∀ j b, lookS j rest = some b → j < k ∧ ∃ b0, lookS j ms = some b0 := by
          intro j b hb
          obtain ⟨b0, hb0⟩ := hrest 0 j b (by simpa using hb)
          have hb0 : lookS j ms = some b0 := by simpa using hb0
          exact ⟨(hwM j b0 hb0).1, b0, hb0⟩
         have hsub : ∀ id b, lookS id (pushS sv rest) = some b → lookS id (own :: rest) = some b ∧ ((k ≤ id ∧ lookA id sv = some b) ∨ (id < k ∧ lookS id rest = some b)) := by
          intro id b hb
          rw [look_push] at hb
          cases hs : lookA id sv with
          | some x =>
           rw [hs] at hb
           cases hb
           exact ⟨by rw [hcons, hsvin id b hs], .inl ⟨(hsvok id b hs).1, rfl⟩⟩
          | none =>
           rw [hs] at hb
           have hlt := (hrk id b hb).1
           exact ⟨by rw [hlow id hlt]; exact hb, .inr ⟨hlt, hb⟩⟩
         refine ⟨?_, idsOk_ok hc1, ?_, ?_, ?_, ?_, ?_, ?_⟩
         ·refine body_cx htt hf hb hname hlen he ?_ hres (fun id b hb => ?_)
          ·rw [Gone] at hG ⊢
           rw [hkn] at hG
           exact hG
          ·show lookA id (own :: rest : Ms).flatten = some b
           rw [look_flat]
           exact (hsub id b (by rw [← look_flat]; exact hb)).1
         ·intro id b hb
          rcases (hsub id b hb).2 with ⟨h1, h2⟩ | ⟨h1, h2⟩
          ·exact .inr (hsvok id b h2).2
          ·by_cases hw : id ∈ wl1
           ·exact .inr (wlOk_ok hc3 id hw b h2)
           ·have := (hL.log id h1 hw).2
            rw [hlow id h1, h2, hw0] at this
            exact .inl this.symm
         ·intro id hid hw
          have h1 := (hL.log id hid hw).2
          rw [hlow id hid, hw0] at h1
          rw [look_push]
          have hns : lookA id sv = none := by
           cases hs : lookA id sv with
           | none => rfl
           | some x => have := (hsvok id x hs).1; omega
          rw [hns]
          exact h1
         ·intro id b hb
          rcases (hsub id b hb).2 with ⟨h1, h2⟩ | ⟨h1, h2⟩
          ·exact .inl h1
          ·exact .inr (hrk id b h2).2
         ·intro id b hb
          exact hL.wfM id b (hsub id b hb).1
         ·intro id hid
          have hall : ∀ id ∈ r1.mids, id < k1 := by
           have hwk : ∀ (x : ResultVar) (v : AV), resOne tt (absS (depOf fn.ntmps) fn.ntmps t1 (own :: rest : Ms).flatten) x = some v → ∀ id ∈ v.mids, id < k1 := by
            intro x v hx id hid
            cases x with
            | tmp j =>
             simp only [resOne, absS, look_slots] at hx
             split at hx
             ·rename_i hj; exact hL.wfT j v hj hx id hid
             ·cases hx
            | cell j ty =>
             simp only [resOne] at hx
             split at hx
             ·rename_i pid off hp
              split at hx
              ·rename_i E bz cs sz ag hbb hts
               have h3 : lookS pid (own :: rest) = some (.box E bz cs) := by rw [← look_flat]; exact hbb
               exact (hL.wfM pid _ h3).2 id (partA_mids hx id hid)
              ·cases hx
             ·cases hx
           have hwl : ∀ (xs : List ResultVar) (ss : List (Bool × List C)), resL tt (absS (depOf fn.ntmps) fn.ntmps t1 (own :: rest : Ms).flatten) xs = some ss → ∀ id ∈ midsT ss, id < k1 := by
            intro xs
            induction xs with
            | nil => intro ss h id hid; simp only [resL, Option.some.injEq] at h; subst h; simp [midsT] at hid
            | cons x xs ih =>
             intro ss h id hid
             simp only [resL] at h
             split at h
             ·rename_i v hv
              split at h
              ·rename_i s r hs hr
               cases h
               simp only [midsT, List.mem_append] at hid
               rcases hid with hid | hid
               ·rw [toS_mids hs] at hid; exact hwk x v hv id hid
               ·exact ih r hr id hid
              ·cases h
             ·cases h
           intro id hid
           unfold resAll at hres
           split at hres
           ·exact hwk _ _ hres id hid
           ·simp only [Option.map_eq_some_iff] at hres
            obtain ⟨ss, hss, rfl⟩ := hres
            exact hwl _ ss hss id hid
          exact hall id hid
         ·intro i j b hi hb
          have : lookS j (rest.drop i) = some b := by
           obtain ⟨i, rfl⟩ : ∃ i', i = i' + 1 := ⟨i - 1, by omega⟩
           cases rest with
           | nil => simpa [pushS] using hb
           | cons m r => simpa [pushS] using hb
          exact hrest i j b this
        ·cases hlv
       ·cases hlv
      ·cases hlv
     split at h
     ·rename_i t1 ms1 k1 wl1 hbd
      exact fin .nor t1 ms1 k1 wl1 (.inl rfl) hbd h
     ·rename_i t1 ms1 k1 wl1 hbd
      exact fin .ret t1 ms1 k1 wl1 (.inr rfl) hbd h
     ·cases h
    ·cases h
   ·cases h
  ·cases h
end
end Go.El

/- The fast interpreter, part 10: code is gone through soundly; contracts out of runs. Own work; no condition. -/
namespace Go.El
open Go Go.RowKit
section
variable {P : Program} {tt : TT} {con : FuncId → List AV → Ms → Option (List AV × AV)}
theorem wpIn_loop_x {Fe : Fence} {n : Nat} {c : Code} {α : Type} (I : α → Act → World → Prop) (μ : α → Nat) {Q : Exit → Act → World → Prop} (x : α) {a : Act} {w : World} (h₀ : I x a w)
  (round : ∀ x a w, I x a w → c.wpIn Fe n P (Exit.then (fun a' w' => ∃ x', I x' a' w' ∧ μ x' < μ x) Q) a w) : (Code.loop c).wpIn Fe n P Q a w := by
 intro b k cs hro hb hr
 have key : ∀ j x a w, μ x = j → I x a w →
   ∃ e a' w', Q e a' w' ∧ ArrivesIn (Machine.fenced P Fe) P (lone (b.atR a (.code c :: .inLoop c :: k)) cs w) b k cs e a' w' := by
  intro j
  induction j using Nat.strongRecOn with
  | _ j ih =>
   intro x a w hn hI
   obtain ⟨e, a₁, w₁, hq, harr⟩ := round x a w hI b (.inLoop c :: k) cs hro hb hr
   cases e with
   | normal =>
    obtain ⟨x', hI₁, hlt⟩ := hq
    obtain ⟨e₂, a₂, w₂, hq₂, harr₂⟩ := ih (μ x') (hn ▸ hlt) x' a₁ w₁ rfl hI₁
    exact ⟨e₂, a₂, w₂, hq₂, .of_steps (StepsIn.trans harr (.one (fenced_calm hb hr rfl) stepR_inLoop)) harr₂⟩
   | exit id => exact ⟨_, a₁, w₁, hq, .pass (x := .inLoop c) rfl (fun _ _ => .inl (by simp)) harr⟩
   | goto l => exact ⟨_, a₁, w₁, hq, .pass (x := .inLoop c) rfl (fun _ _ => .inl (by simp)) harr⟩
   | ret => exact ⟨_, a₁, w₁, hq, .pass (x := .inLoop c) rfl (fun _ _ => .inl (by simp)) harr⟩
   | panic ch => exact ⟨_, a₁, w₁, hq, .pass (x := .inLoop c) rfl (fun _ _ => .inl (by simp)) harr⟩
   | outgrown => exact ⟨_, a₁, w₁, hq, .pass (x := .inLoop c) rfl (fun _ _ => .inl (by simp)) harr⟩
 obtain ⟨e, a', w', hq, harr⟩ := key _ x a w rfl h₀
 exact ⟨e, a', w', hq, .of_steps (.one (fenced_calm hb hr rfl) stepR_loop) harr⟩
theorem regF_gone (hmx : P.follows .mixedOrders = true) (htt : ttB P tt = true) {cal : CallG} (hcal : CalOk P cal) {dep n ke : Nat} (hn : n ≤ 4 ^ dep) {ops : Array Oper} {draw : Bool} {gs : List GI} {ps : Option (List (Nat × Nat))} (hc : compReg dep n ops.toList draw = some (gs, ps)) {t : Tr} {ms : Ms} {k : Nat} {wl : List Nat} (hke : ke ≤ k) (hwT : wfT dep n t k) (hwM : wfM ms k) {t' : Tr} {ms' : Ms} {k' : Nat} {wl' : List Nat} {fs : List Ft}
  (h : regD cal tt n ke gs t ms k wl [] = .ok t' ms' k' wl' fs) (hp : ∀ l, ps = some l → pairOk fs.reverse l = true) (id : Nat) : GoneF P dep n ke (.region id ops draw) t ms k wl .nor t' ms' k' wl' := by
 unfold compReg at hc
 split at hc
 ·rename_i gs' hgs
  have hgg : gs' = gs := by
   split at hc
   ·cases hc; rfl
   ·split at hc
    ·cases hc; rfl
    ·cases hc
  subst hgg
  obtain ⟨ds, cl, kk, fk, hS, ⟨hc1, hc2⟩, hfs, hfl, hcov, hL⟩ := regD_steps htt hcal hn ops.toList 0 h hgs (by simp) hke hwT hwM
  refine ⟨hL, hL.le, fun F hF hnd g W a hh => ?_⟩
  subst hF
  refine steps_wp hmx hS ?_ (fun g W a h' => ⟨rfl, g, h'⟩) hh hnd.region
  intro hd
  subst hd
  simp only at hc
  split at hc
  ·rename_i hord
   cases hc
   have ho := ordB_spec hord
   refine ⟨ho.1, ?_⟩
   have hpk := hp _ rfl
   rw [hfs] at hpk
   simp only [List.append_nil, List.reverse_reverse] at hpk
   intro i j hij hj key hkey
   have hds : ds.length = ops.size := by simpa using hS.len
   have hkl : kk.length = ops.size := by omega
   have hfl' : fk.length = ops.size := by simpa using hfl
   have get : ∀ x, x < ops.size → ∃ o a f, ops.toList[x]? = some o ∧ kk[x]? = some a ∧ fk[x]? = some f ∧ (∀ key ∈ rkeysOf (ds.getD x ([], [])).1, key ∈ a.1) ∧ (∀ key ∈ keysOf (ds.getD x ([], [])).2, key ∈ a.2) := by
    intro x hx
    have h1 : x < kk.length := by omega
    have h2 : x < ds.length := by omega
    have h3 : x < ops.toList.length := by simpa using hx
    have h4 : x < fk.length := by omega
    refine ⟨_, _, _, List.getElem?_eq_getElem h3, List.getElem?_eq_getElem h1, List.getElem?_eq_getElem h4, ?_⟩
    rw [getD_map_range ds _ x h2]
    exact hc2 x h2 h1
   obtain ⟨oi, ai, fi, hoi, hai, hfi, hri, hwi⟩ := get i (by omega)
   obtain ⟨oj, aj, fj, hoj, haj, hfj, hrj, hwj⟩ := get j hj
   obtain ⟨⟨ci1, ci2⟩, hti⟩ := hcov i ai oi fi hai hoi hfi
   obtain ⟨⟨cj1, cj2⟩, htj⟩ := hcov j aj oj fj haj hoj hfj
   have hslot : clash (slotK ops.toList oi) (slotK ops.toList oj) = true → Anc ops i j := by
    intro hcl
    refine ho.2 i j _ _ hij hj ?_ ?_ hcl
    ·rw [List.getElem?_map, hoi]; rfl
    ·rw [List.getElem?_map, hoj]; rfl
   have hmem : ∀ x, ((FtW fi x ∧ FtW fj x) ∨ (FtW fi x ∧ FtR fj x) ∨ (FtR fi x ∧ FtW fj x)) → Anc ops i j := by
    intro x hx
    obtain ⟨hml, hms⟩ := masks_spec (ops := ops) ops.toList [] (by simp) (by simp) (fun k hk => by simp at hk)
    have hjm : j < (masks ops.toList []).length := by omega
    by_cases hb : (masks ops.toList [])[j].testBit i = true
    ·exact hms j hjm i hb
    ·exfalso
     have hti' : touches oi = true := by
      cases hh : touches oi with
      | true => rfl
      | false => rw [hti hh] at hx; simp [FtW, FtR] at hx
     have htj' : touches oj = true := by
      cases hh : touches oj with
      | true => rfl
      | false => rw [htj hh] at hx; simp [FtW, FtR] at hx
     have hpm := pairsA_mem (opsL := ops.toList) hoi hti' (ml := masks ops.toList []) (os := ops.toList) (j0 := 0) (a := j) (m := (masks ops.toList [])[j]) (List.getElem?_eq_getElem hjm) hoj htj' (by omega) (by simpa using hb)
     have hcf := pairOk_mem hpk i (0 + j) hpm
     have e1 : fk.getD i .n = fi := by rw [List.getD_eq_getElem?_getD, hfi]; rfl
     have e2 : fk.getD (0 + j) .n = fj := by rw [Nat.zero_add, List.getD_eq_getElem?_getD, hfj]; rfl
     rw [e1, e2] at hcf
     obtain ⟨n1, n2, n3⟩ := cfl_no hcf x
     rcases hx with hx | hx | hx
     ·exact n1 hx
     ·exact n2 hx
     ·exact n3 hx
   cases key with
   | s x =>
    refine hslot ?_
    rcases hkey with ⟨k1, k2⟩ | ⟨k1, k2⟩ | ⟨k1, k2⟩
    ·have a1 := ci2 _ (hwi _ k1)
     have a2 := cj2 _ (hwj _ k2)
     simp only [clash, meetB_of a1 a2, Bool.true_or]
    ·have a1 := ci2 _ (hwi _ k1)
     have a2 := cj1 _ (hrj _ k2)
     simp only [clash, meetB_of a1 a2, Bool.true_or, Bool.or_true]
    ·have a1 := ci1 _ (hri _ k1)
     have a2 := cj2 _ (hwj _ k2)
     simp only [clash, meetB_of a1 a2, Bool.or_true]
   | m x =>
    refine hmem x ?_
    rcases hkey with ⟨k1, k2⟩ | ⟨k1, k2⟩ | ⟨k1, k2⟩
    ·exact .inl ⟨ci2 _ (hwi _ k1), cj2 _ (hwj _ k2)⟩
    ·exact .inr (.inl ⟨ci2 _ (hwi _ k1), cj1 _ (hrj _ k2)⟩)
    ·exact .inr (.inr ⟨ci1 _ (hri _ k1), cj2 _ (hwj _ k2)⟩)
  ·cases hc
 ·cases hc
theorem RcIs_no {e : Ex} {t : Tr} {ms : Ms} {k : Nat} {wl : List Nat} (h : RcIs .no e t ms k wl) : False := by cases e <;> simp [RcIs] at h
theorem RcIs.inj {r : Rc} {e e' : Ex} {t t' : Tr} {ms ms' : Ms} {k k' : Nat} {wl wl' : List Nat} (h : RcIs r e t ms k wl) (h' : RcIs r e' t' ms' k' wl') : e = e' ∧ t = t' ∧ ms = ms' ∧ k = k' ∧ wl = wl' := by
 cases e <;> cases e' <;> simp only [RcIs] at h h' <;> rw [h] at h' <;> simp at h' <;> simp [h']
theorem RcIs.get {r : Rc} : r = .no ∨ ∃ e t ms k wl, RcIs r e t ms k wl := by
 cases r with
 | no => exact .inl rfl
 | nor t ms k wl => exact .inr ⟨.nor, t, ms, k, wl, rfl⟩
 | exi id t ms k wl => exact .inr ⟨.exi id, t, ms, k, wl, rfl⟩
 | ret t ms k wl => exact .inr ⟨.ret, t, ms, k, wl, rfl⟩
theorem runF_sound (hmx : P.follows .mixedOrders = true) (htt : ttB P tt = true) (hcon : ∀ f vs ms vs' r, con f vs ms = some (vs', r) → FnS P f vs' r) :
  ∀ (f dep n ke : Nat) (c : Code) (t : Tr) (ms : Ms) (k : Nat) (wl : List Nat) (e : Ex) (t' : Tr) (ms' : Ms) (k' : Nat) (wl' : List Nat), n ≤ 4 ^ dep → ke ≤ k → wfT dep n t k → wfM ms k → RcIs (runF P tt con f dep n ke c t ms k wl) e t' ms' k' wl' → GoneF P dep n ke c t ms k wl e t' ms' k' wl' := by
 intro f
 induction f using Nat.strongRecOn with
 | _ f0 ihs =>
 cases f0 with
 | zero => intro dep n ke c t ms k wl e t' ms' k' wl' _ _ _ _ h; exact (RcIs_no h).elim
 | succ f =>
  have ih := ihs f (by omega)
  intro dep n ke c t ms k wl e t' ms' k' wl' hn hke hwT hwM h
  cases c with
  | skip =>
   have h0 : RcIs (.nor t ms k wl) .nor t ms k wl := rfl
   obtain ⟨rfl, rfl, rfl, rfl, rfl⟩ := RcIs.inj h0 h
   exact ⟨Left.refl hwT hwM, Nat.le_refl _, fun F hF hnd g W a hh => wpIn_skip ⟨rfl, g, hh⟩⟩
  | exit id =>
   have h0 : RcIs (.exi id t ms k wl) (.exi id) t ms k wl := rfl
   obtain ⟨rfl, rfl, rfl, rfl, rfl⟩ := RcIs.inj h0 h
   exact ⟨Left.refl hwT hwM, Nat.le_refl _, fun F hF hnd g W a hh => wpIn_exit ⟨rfl, g, hh⟩⟩
  | ret =>
   have h0 : RcIs (.ret t ms k wl) .ret t ms k wl := rfl
   obtain ⟨rfl, rfl, rfl, rfl, rfl⟩ := RcIs.inj h0 h
   exact ⟨Left.refl hwT hwM, Nat.le_refl _, fun F hF hnd g W a hh => wpIn_ret ⟨rfl, g, hh⟩⟩
  | seq x y =>
   have h1 : RcIs (match runF P tt con f dep n ke x t ms k wl with | .nor t1 ms1 k1 wl1 => runF P tt con f dep n ke y t1 ms1 k1 wl1 | r => r) e t' ms' k' wl' := h
   rcases RcIs.get (r := runF P tt con f dep n ke x t ms k wl) with hr | ⟨e1, t1, ms1, k1, wl1, hr⟩
   ·rw [hr] at h1; exact (RcIs_no h1).elim
   ·have g1 := ih _ _ _ _ _ _ _ _ _ _ _ _ _ hn hke hwT hwM hr
    cases e1 with
    | nor =>
     simp only [RcIs] at hr
     rw [hr] at h1
     have g2 := ih _ _ _ _ _ _ _ _ _ _ _ _ _ hn (Nat.le_trans hke g1.1.le) g1.1.wfT g1.1.wfM h1
     refine ⟨g1.1.trans g2.1, Nat.le_trans g1.2.1 g2.2.1, fun F hF hnd g W a hh => wpIn_seq (wpIn_mono (g1.2.2 F hF hnd.seq.1 g W a hh) ?_)⟩
     rintro e' a' W' ⟨rfl, g', h'⟩
     exact g2.2.2 F hF hnd.seq.2 g' W' a' h'
    | exi id =>
     simp only [RcIs] at hr
     rw [hr] at h1
     obtain ⟨rfl, rfl, rfl, rfl, rfl⟩ := RcIs.inj (e := .exi id) rfl h1
     refine ⟨g1.1, g1.2.1, fun F hF hnd g W a hh => wpIn_seq (wpIn_mono (g1.2.2 F hF hnd.seq.1 g W a hh) ?_)⟩
     rintro e' a' W' ⟨rfl, g', h'⟩
     exact ⟨rfl, g', h'⟩
    | ret =>
     simp only [RcIs] at hr
     rw [hr] at h1
     obtain ⟨rfl, rfl, rfl, rfl, rfl⟩ := RcIs.inj (e := .ret) rfl h1
     refine ⟨g1.1, g1.2.1, fun F hF hnd g W a hh => wpIn_seq (wpIn_mono (g1.2.2 F hF hnd.seq.1 g W a hh) ?_)⟩
     rintro e' a' W' ⟨rfl, g', h'⟩
     exact ⟨rfl, g', h'⟩
  | cond cnd x y =>
   have h1 : RcIs (match compP dep n cnd with
    | some p => (match evP t p with
     | some (.c (.B b)) => (match b with
      | true => runF P tt con f dep n ke x t ms k wl
      | false => runF P tt con f dep n ke y t ms k wl)
     | _ => .no)
    | none => .no) e t' ms' k' wl' := h
   split at h1
   ·rename_i p hp
    split at h1
    ·rename_i b hb
     have hev := compP_ev (m := ms.flatten) hp hb
     split at h1
     ·have g1 := ih _ _ _ _ _ _ _ _ _ _ _ _ _ hn hke hwT hwM h1
      refine ⟨g1.1, g1.2.1, fun F hF hnd g W a hh => ?_⟩
      have hr : RelV g (.c (.B true)) (a.eval cnd) := ev_rel hh _ cnd _ hev (opd_kn _ cnd)
      exact wpIn_cond_split hr (fun _ => g1.2.2 F hF hnd.cond.1 g W a hh) (fun e => by cases e)
     ·have g1 := ih _ _ _ _ _ _ _ _ _ _ _ _ _ hn hke hwT hwM h1
      refine ⟨g1.1, g1.2.1, fun F hF hnd g W a hh => ?_⟩
      have hr : RelV g (.c (.B false)) (a.eval cnd) := ev_rel hh _ cnd _ hev (opd_kn _ cnd)
      exact wpIn_cond_split hr (fun e => by cases e) (fun _ => g1.2.2 F hF hnd.cond.2 g W a hh)
    ·exact (RcIs_no h1).elim
   ·exact (RcIs_no h1).elim
  | block id x =>
   have h1 : RcIs (match runF P tt con f dep n ke x t ms k wl with
    | .exi id' t1 ms1 k1 wl1 => (match Nat.beq id' id with | true => .nor t1 ms1 k1 wl1 | false => .exi id' t1 ms1 k1 wl1)
    | r => r) e t' ms' k' wl' := h
   rcases RcIs.get (r := runF P tt con f dep n ke x t ms k wl) with hr | ⟨e1, t1, ms1, k1, wl1, hr⟩
   ·rw [hr] at h1; exact (RcIs_no h1).elim
   ·have g1 := ih _ _ _ _ _ _ _ _ _ _ _ _ _ hn hke hwT hwM hr
    cases e1 with
    | nor =>
     simp only [RcIs] at hr
     rw [hr] at h1
     obtain ⟨rfl, rfl, rfl, rfl, rfl⟩ := RcIs.inj (e := .nor) rfl h1
     refine ⟨g1.1, g1.2.1, fun F hF hnd g W a hh => wpIn_block (wpIn_mono (g1.2.2 F hF hnd.block g W a hh) ?_)⟩
     rintro e' a' W' ⟨rfl, g', h'⟩
     exact ⟨rfl, g', h'⟩
    | exi id' =>
     simp only [RcIs] at hr
     rw [hr] at h1
     dsimp only at h1
     split at h1
     ·rename_i hid
      have hid : id' = id := Nat.eq_of_beq_eq_true hid
      subst hid
      obtain ⟨rfl, rfl, rfl, rfl, rfl⟩ := RcIs.inj (e := .nor) rfl h1
      refine ⟨g1.1, g1.2.1, fun F hF hnd g W a hh => wpIn_block (wpIn_mono (g1.2.2 F hF hnd.block g W a hh) ?_)⟩
      rintro e' a' W' ⟨rfl, g', h'⟩
      simp only [Ex.toE, Exit.inBlock, if_true]
      exact ⟨trivial, g', h'⟩
     ·rename_i hid
      have hne : id' ≠ id := by intro e'; subst e'; rw [Nat.beq_refl] at hid; cases hid
      obtain ⟨rfl, rfl, rfl, rfl, rfl⟩ := RcIs.inj (e := .exi id') rfl h1
      refine ⟨g1.1, g1.2.1, fun F hF hnd g W a hh => wpIn_block (wpIn_mono (g1.2.2 F hF hnd.block g W a hh) ?_)⟩
      rintro e' a' W' ⟨rfl, g', h'⟩
      simp only [Ex.toE, Exit.inBlock, hne, if_false]
      exact ⟨trivial, g', h'⟩
    | ret =>
     simp only [RcIs] at hr
     rw [hr] at h1
     obtain ⟨rfl, rfl, rfl, rfl, rfl⟩ := RcIs.inj (e := .ret) rfl h1
     refine ⟨g1.1, g1.2.1, fun F hF hnd g W a hh => wpIn_block (wpIn_mono (g1.2.2 F hF hnd.block g W a hh) ?_)⟩
     rintro e' a' W' ⟨rfl, g', h'⟩
     exact ⟨rfl, g', h'⟩
  | loop x =>
   have step : ∀ f' t0 ms0 k0 wl0, RcIs (runF P tt con (f' + 1) dep n ke (.loop x) t0 ms0 k0 wl0) e t' ms' k' wl' → RcIs (match runF P tt con f' dep n ke x t0 ms0 k0 wl0 with | .nor t1 ms1 k1 wl1 => runF P tt con f' dep n ke (.loop x) t1 ms1 k1 wl1 | r => r) e t' ms' k' wl' := fun _ _ _ _ _ h => h
   have hleft : ∀ f', f' ≤ f + 1 → ∀ t0 ms0 k0 wl0, ke ≤ k0 → wfT dep n t0 k0 → wfM ms0 k0 → RcIs (runF P tt con f' dep n ke (.loop x) t0 ms0 k0 wl0) e t' ms' k' wl' → Left ke dep n t0 ms0 k0 wl0 t' ms' k' wl' := by
    intro f'
    induction f' with
    | zero => intro _ t0 ms0 k0 wl0 _ _ _ h0; exact (RcIs_no h0).elim
    | succ f' ihf =>
     intro hf t0 ms0 k0 wl0 hk0 hT0 hM0 h0
     have h1 := step f' t0 ms0 k0 wl0 h0
     rcases RcIs.get (r := runF P tt con f' dep n ke x t0 ms0 k0 wl0) with hr | ⟨e1, t1, ms1, k1, wl1, hr⟩
     ·rw [hr] at h1; exact (RcIs_no h1).elim
     ·have g1 := ihs f' (by omega) _ _ _ _ _ _ _ _ _ _ _ _ _ hn hk0 hT0 hM0 hr
      cases e1 with
      | nor =>
       simp only [RcIs] at hr
       rw [hr] at h1
       exact g1.1.trans (ihf (by omega) t1 ms1 k1 wl1 (Nat.le_trans hk0 g1.1.le) g1.1.wfT g1.1.wfM h1)
      | exi id =>
       simp only [RcIs] at hr
       rw [hr] at h1
       obtain ⟨rfl, rfl, rfl, rfl, rfl⟩ := RcIs.inj (e := .exi id) rfl h1
       exact g1.1
      | ret =>
       simp only [RcIs] at hr
       rw [hr] at h1
       obtain ⟨rfl, rfl, rfl, rfl, rfl⟩ := RcIs.inj (e := .ret) rfl h1
       exact g1.1
   have hL := hleft (f + 1) (Nat.le_refl _) t ms k wl hke hwT hwM h
   refine ⟨hL, hL.le, fun F hF hnd g W a hh => ?_⟩
   refine wpIn_loop_x (fun (y : Nat × (Tr × Ms) × Nat × List Nat) a W => y.1 ≤ f + 1 ∧ ke ≤ y.2.2.1 ∧ wfT dep n y.2.1.1 y.2.2.1 ∧ wfM y.2.1.2 y.2.2.1 ∧ RcIs (runF P tt con y.1 dep n ke (.loop x) y.2.1.1 y.2.1.2 y.2.2.1 y.2.2.2) e t' ms' k' wl' ∧ ∃ g, Hold F (· < y.2.2.1) (absS dep n y.2.1.1 y.2.1.2.flatten).kn g W a) (fun y => y.1) (f + 1, (t, ms), k, wl) ⟨Nat.le_refl _, hke, hwT, hwM, h, g, hh⟩ ?_
   rintro ⟨f', ⟨t0, ms0⟩, k0, wl0⟩ a W ⟨hf, hk0, hT0, hM0, h0, g, hh⟩
   simp only at hf hk0 hT0 hM0 h0 hh ⊢
   cases f' with
   | zero => exact (RcIs_no h0).elim
   | succ f' =>
    have h1 := step f' t0 ms0 k0 wl0 h0
    rcases RcIs.get (r := runF P tt con f' dep n ke x t0 ms0 k0 wl0) with hr | ⟨e1, t1, ms1, k1, wl1, hr⟩
    ·rw [hr] at h1; exact (RcIs_no h1).elim
    ·have g1 := ihs f' (by omega) _ _ _ _ _ _ _ _ _ _ _ _ _ hn hk0 hT0 hM0 hr
     refine wpIn_mono (g1.2.2 F hF hnd.loop g W a hh) ?_
     rintro e' a' W' ⟨rfl, g', h'⟩
     cases e1 with
     | nor =>
      simp only [RcIs] at hr
      rw [hr] at h1
      exact ⟨(f', (t1, ms1), k1, wl1), ⟨by simp only; omega, Nat.le_trans hk0 g1.1.le, g1.1.wfT, g1.1.wfM, h1, g', h'⟩, by simp⟩
     | exi id =>
      simp only [RcIs] at hr
      rw [hr] at h1
      obtain ⟨rfl, rfl, rfl, rfl, rfl⟩ := RcIs.inj (e := .exi id) rfl h1
      exact ⟨rfl, g', h'⟩
     | ret =>
      simp only [RcIs] at hr
      rw [hr] at h1
      obtain ⟨rfl, rfl, rfl, rfl, rfl⟩ := RcIs.inj (e := .ret) rfl h1
      exact ⟨rfl, g', h'⟩
  | region id ops draw =>
   have hcal : CalOk P (callF P tt con (runF P tt con f)) := callF_ok htt hcon ih
   have h1 : RcIs (match compReg dep n ops.toList draw with
    | some (gs, none) => (match regT (callF P tt con (runF P tt con f)) tt n ke gs t ms k wl with
     | .ok t1 ms1 k1 wl1 _ => .nor t1 ms1 k1 wl1
     | .no => .no)
    | some (gs, some ps) => (match regD (callF P tt con (runF P tt con f)) tt n ke gs t ms k wl [] with
     | .ok t1 ms1 k1 wl1 fs => (match pairOk fs.reverse ps with
      | true => .nor t1 ms1 k1 wl1
      | false => .no)
     | .no => .no)
    | none => .no) e t' ms' k' wl' := h
   split at h1
   ·rename_i gs hc
    split at h1
    ·rename_i t1 ms1 k1 wl1 ft hrt
     obtain ⟨rfl, rfl, rfl, rfl, rfl⟩ := RcIs.inj (e := .nor) rfl h1
     obtain ⟨fs', hrd⟩ := regT_D hrt []
     exact regF_gone hmx htt hcal hn hc hke hwT hwM hrd (fun l hl => by cases hl) id
    ·exact (RcIs_no h1).elim
   ·rename_i gs ps hc
    split at h1
    ·rename_i t1 ms1 k1 wl1 fs hrd
     split at h1
     ·rename_i hpk
      obtain ⟨rfl, rfl, rfl, rfl, rfl⟩ := RcIs.inj (e := .nor) rfl h1
      exact regF_gone hmx htt hcal hn hc hke hwT hwM hrd (fun l hl => by cases hl; exact hpk) id
     ·exact (RcIs_no h1).elim
    ·exact (RcIs_no h1).elim
   ·exact (RcIs_no h1).elim
  | rangeFunc _ _ _ _ => exact (RcIs_no h).elim
  | scope _ => exact (RcIs_no h).elim
  | label _ => exact (RcIs_no h).elim
  | goto _ => exact (RcIs_no h).elim
  | refuse _ => exact (RcIs_no h).elim
theorem fs_run (hmx : P.follows .mixedOrders = true) (htt : ttB P tt = true) (hcon : ∀ f vs ms vs' r, con f vs ms = some (vs', r) → FnS P f vs' r) (fuel : Nat) {f : FuncId} {vs : List AV} {r : AV} {ms' : Ms} {k' : Nat} {wl : List Nat}
  (h : callF P tt con (runF P tt con fuel) f vs [] 0 = .ok r ms' k' wl) (hm : midsVs vs = []) (hr : r.mids = []) : FnS P f vs r := by
 have hok := (callF_ok htt hcon (runF_sound hmx htt hcon fuel)).ok h (fun id b hb => by simp [lookS] at hb) (fun id hid => by rw [hm] at hid; cases hid)
 exact cx_fs hok.1 hm hr
end
end Go.El

/- Contracts: integers of the program: products, powers of at most 12. Own work; no condition. -/
namespace Go.El
open Go Go.Proofs
def con0 : FuncId → List AV → Ms → Option (List AV × AV) := fun _ _ _ => none
theorem con0_ok {P : Program} : ∀ f vs ms vs' r, con0 f vs ms = some (vs', r) → FnS P f vs' r := fun _ _ _ _ _ h => by cases h
def runI (m : Int) : Cr → Bool
 | .ok (.c (.I .i64 n)) _ _ _ => decide (n = m)
 | _ => false
theorem runI_ok {x : Cr} {m : Int} (h : runI m x = true) : ∃ ms k wl, x = .ok (.c (.I .i64 m)) ms k wl := by
 unfold runI at h
 split at h
 ·rename_i n ms k wl
  have : n = m := by simpa using h
  subst this
  exact ⟨ms, k, wl, rfl⟩
 ·cases h
def lenN (n : Nat) : Nat := if n = 0 then 0 else Nat.log2 n + 1
theorem ilen_run : ((List.range 13).all fun n => runI (lenN n) (callF Tryz.prog TTab con0 (runF Tryz.prog TTab con0 1000) 130 [cU (n : Nat)] [] 0)) = true := by kernel_rfl
theorem ilen_s (n : Nat) (hn : n ≤ 12) : FnS Tryz.prog 130 [cU n] (cI (lenN n)) := by
 obtain ⟨ms, k, wl, h⟩ := runI_ok (List.all_eq_true.1 ilen_run n (by simp; omega))
 exact fs_run MX TT_ok con0_ok 1000 h rfl rfl
end Go.El

/- The engine, part 43: a slice that a function made, read as data. Own work; no condition. -/
namespace Go.El
open Go Go.RowKit
theorem FnV.fs {P : Program} {f : FuncId} {args : List AV} {E : TypeId} {T : ET} {xs : List T.den} (h : FnV P f args E T xs) : FnS P f args (.c (.S T xs)) := by
 refine ⟨h.call, rfl, fun H W vs hs hv cs => ?_⟩
 obtain ⟨e, w', fr, ⟨v, H', e1, hrep, hle, hfr, hsub, hbel⟩, h2⟩ := h.spec H W vs hs hv cs
 refine ⟨e, w', fr, ?_, h2⟩
 rcases hrep with ⟨hγ, hx⟩ | ⟨b, cap, us, hγ, hh, hvl, hcl, hlen, hr, hN, hz⟩
 ·subst hx
  refine ⟨v, H', e1, ?_, hle, hfr, hsub, hbel⟩
  have hγ : v = .slice none 0 0 := hγ
  exact ⟨none, 0, hγ, by simp, by simp, .inl rfl⟩
 ·have hγ : v = .slice (some ⟨b, 0, none⟩) xs.length cap := hγ
  have hFLe : FLe H' (fun b' o => if b' = b then (if o < xs.length * T.n then us[o]? else none) else H' b' o) := by
   intro b' o v hv
   by_cases e : b' = b
   ·subst e
    have : H' b' o = none := hz o
    rw [this] at hv; cases hv
   ·simp [e, hv]
  refine ⟨v, fun b' o => if b' = b then (if o < xs.length * T.n then us[o]? else none) else H' b' o, e1, ?_, FLe.trans hle hFLe, ?_, ?_, hbel⟩
  ·refine ⟨some ⟨b, 0, none⟩, cap, hγ, hcl, hlen, ?_⟩
   by_cases hx : xs = []
   ·exact .inl hx
   ·refine .inr ⟨b, 0, rfl, fun k hk => ⟨(us.drop (k * T.n)).take T.n, RelD.length T _ _ (hr k hk), RelD.mono hFLe T _ _ (hr k hk), fun j hj => ?_⟩⟩
    have hk2 : (k + 1) * T.n ≤ cap * T.n := Nat.mul_le_mul_right _ (by omega)
    have hk3 : (k + 1) * T.n ≤ xs.length * T.n := Nat.mul_le_mul_right _ (by omega)
    rw [Nat.add_mul, Nat.one_mul] at hk2 hk3
    simp only [List.length_take, List.length_drop] at hj
    have hlt : k * T.n + j < xs.length * T.n := by omega
    simp only [if_true, Nat.zero_add, List.getElem_take, List.getElem_drop, hlt]
    exact List.getElem?_eq_getElem (by omega)
  ·intro b' o hb'
   have hb : W.heap.size ≤ b := hN
   have : b' ≠ b := by omega
   simp only [this, if_false]
   exact hfr b' o hb'
  ·intro b' o u hv
   by_cases e : b' = b
   ·subst e
    simp only [if_true] at hv
    split at hv
    ·simp [World.cell?, hh, hv]
    ·cases hv
   ·simp only [e, if_false] at hv
    exact hsub b' o u hv
theorem tr_mid {P : Program} {n : Nat} {x y : Code} {st : St} {Q : Post} {α : Type} (stM : α → St) (φ : α → Prop) (hrest : ∀ m, φ m → TR P n y (stM m) Q) (h : (∀ m, φ m → AtQ n .normal (stM m) (thenQ P y Q)) → TR P n x st (thenQ P y Q)) : TR P n (.seq x y) st Q :=
 tr_seq (h fun m hm => at_then (hrest m hm))
theorem tr_mid1 {P : Program} {n : Nat} {x y : Code} {st : St} {Q : Post} (st1 : St) (hrest : TR P n y st1 Q) (h : AtQ n .normal st1 (thenQ P y Q) → TR P n x st (thenQ P y Q)) : TR P n (.seq x y) st Q :=
 tr_seq (h (at_then hrest))
theorem at_mid {n : Nat} {e : Exit} {st st' : St} {Q : Post} (h : AtQ n e st' Q) (hw : Wk st st') : AtQ n e st Q := at_wk hw h
end Go.El

/- Contracts: integers of the program: bits of a word, division by one word, shifts. Own work; no condition. -/
namespace Go.El
open Go Go.Proofs
end Go.El

/- Contracts: integers of the program: division by one word, shifts. Own work; no condition. -/
namespace Go.El
open Go Go.Proofs
theorem set_mid (xs : List Int) (n : Nat) (w : Int) : (xs ++ List.replicate (n + 1) 0).set xs.length w = (xs ++ [w]) ++ List.replicate n 0 := by
 rw [List.set_append_right _ _ (Nat.le_refl _), Nat.sub_self, List.replicate_succ, List.set_cons_zero, List.append_assoc]; rfl
end Go.El

/- Contracts: integers of the program: shift to the right, difference. Own work; no condition. -/
namespace Go.El
open Go Go.Proofs
end Go.El

/- Contracts: integers of the program: comparison, differences, sums. Own work; no condition. -/
namespace Go.El
open Go Go.Proofs
theorem bne_z {x y : Int} (h : (x != y) = true) : x ≠ y := by simpa using h
theorem bne_z' {x y : Int} (h : (x != y) = false) : x = y := by simpa using h
end Go.El

/- Contracts: integers of the program: a digit of a long division. Own work; no condition. -/
namespace Go.El
open Go Go.Proofs
theorem beq_z' {x y : Int} (h : (x == y) = false) : x ≠ y := by simpa using h
end Go.El

/- Contracts: integers of the program: division. Own work; no condition. -/
namespace Go.El
open Go Go.Proofs
end Go.El

/- Contracts: integers of the program: Euclidean division, small values. Own work; no condition. -/
namespace Go.El
open Go Go.Proofs
end Go.El

/- Contract: the bound. Own work; no condition. -/
namespace Go.El
open Go Go.Proofs
end Go.El

/- The fast interpreter, part 11: results that lie in memory are frozen when the call ends. Own work; no condition. -/
namespace Go.El
open Go Go.RowKit
def HN (s : Nat) (H0 : FH) (W : World) : FH := fun b o => if b < s then H0 b o else W.cell? ⟨b, o, none⟩
section
variable {P : Program} {tt : TT}
theorem cx_fz {f : FuncId} {vs : List AV} {r r' : AV} {fm' : List (Nat × Blk)} {k' : Nat} (h : CX P f vs [] 0 r fm' k') (hm : midsVs vs = []) (hr : r'.mids = []) (ha : matA (fun id => lookA id fm') r r' = true) : FnS P f vs r' := by
 refine ⟨h.call, hr, ?_⟩
 intro H W us hsub hrel
 have hul := relVs_length hrel
 have h0 : Hold { w0 := W, H0 := H, n := vs.length } (· < 0) (St.kn ⟨argSl 0 vs, [], 0, []⟩) ⟨H, noγ⟩ W (actN us) := by
  refine ⟨by simp [actN, hul], rfl, ?_, ?_, ?_, ?_, ?_, hsub, ⟨rfl, rfl, rfl, Nat.le_refl _, fun _ _ _ => rfl⟩, FLe.refl _, fun _ _ _ _ => rfl, fun _ h => absurd h (Nat.not_lt_zero _)⟩
  ·intro t v ht
   simp only [St.kn, Option.map_eq_some_iff] at ht
   obtain ⟨x, hx, he⟩ := ht
   cases he
   obtain ⟨_, u, hu, hr, _⟩ := argSl_look vs us 0 hrel t v hx
   have hu' : us[t]? = some u := by simpa using hu
   simp only [actN, Array.getD_eq_getD_getElem?, List.getElem?_toArray, hu', Option.getD_some]
   exact hr
  ·intro id b hb; simp [St.kn, lookA] at hb
  ·intro id id' b b' kk hb; simp [St.kn, lookA] at hb
  ·intro key x hx id hid
   cases key with
   | m j => simp [St.kn, lookA] at hx
   | s t =>
    simp only [St.kn, Option.map_eq_some_iff] at hx
    obtain ⟨y, hy, he⟩ := hx
    subst he
    obtain ⟨_, _, _, _, h6⟩ := argSl_look vs us 0 hrel t y hy
    have := h6 id hid
    rw [hm] at this
    cases this
  ·intro id x hx; simp [St.kn, lookA] at hx
 refine (h.spec _ _ W us rfl hul h0).mono ?_
 rintro e W' ⟨v, g', rfl, h1⟩
 have hfr : ∀ b o, b < W.heap.size → g'.H b o = H b o := fun b o hb => h1.fresh b o hb (fun h => h)
 have ok : FzOk (HN W.heap.size H W') g' W' (fun id => lookA id fm') := by
  refine ⟨?_, ?_⟩
  ·intro b o u hu
   unfold HN
   split
   ·rename_i hb; rw [← hfr b o hb]; exact hu
   ·exact h1.sub b o u hu
  ·intro id E cs hl
   have hx : ∃ b, ∃ vs rest : List Value, blk (g'.γ id) = some b ∧ W'.heap[b]? = some (.cells (vs ++ rest).toArray E (0, 0)) ∧ RelL g' cs vs ∧ W.heap.size ≤ b := by
    rcases hl with ⟨sz, hl⟩ | hl
    ·obtain ⟨b, ws, rest, e1, e2, e3, e4, _⟩ := h1.blks id (.box E sz cs) (by simp [St.kn, hl])
     exact ⟨b, ws, rest, e1, e2, e3, by rcases e4 with e4 | e4; exact e4; exact e4.elim⟩
    ·obtain ⟨b, ws, rest, e1, e2, e3, e4, _⟩ := h1.blks id (.fz E cs) (by simp [St.kn, hl])
     exact ⟨b, ws, rest, e1, e2, e3, by rcases e4 with e4 | e4; exact e4; exact e4.elim⟩
   obtain ⟨b, ws, rest, e1, e2, e3, hs⟩ := hx
   exact ⟨b, ws, rest, e1, fun o => by simp only [HN, Nat.not_lt.2 hs, if_false], e2, e3⟩
 have hs := h1.slots 0 r (by simp [St.kn, lookA])
 have h2 : RelV g' r v := by simpa [actN] using hs
 refine ⟨v, HN W.heap.size H W', rfl, matA_rel ok ha h2, fun b o u hu => ok.le b o u (h1.le b o u hu), fun b o hb => by simp [HN, hb], ?_, ⟨h1.below.os, h1.below.tape, h1.below.output, h1.below.size, fun kk hk => h1.below.block kk hk (fun h => h)⟩⟩
 intro b o u hu
 unfold HN at hu
 split at hu
 ·rename_i hb; rw [← hfr b o hb] at hu; exact h1.sub b o u hu
 ·exact hu
def endIs (r' : AV) : Cr → Bool
 | .ok r ms _ _ => matA (fun id => lookA id ms.flatten) r r'
 | _ => false
theorem fs_fz {con : FuncId → List AV → Ms → Option (List AV × AV)} (hmx : P.follows .mixedOrders = true) (htt : ttB P tt = true) (hcon : ∀ f vs ms vs' r, con f vs ms = some (vs', r) → FnS P f vs' r) (fuel : Nat) {f : FuncId} {vs : List AV} {r' : AV}
  (h : endIs r' (callF P tt con (runF P tt con fuel) f vs [] 0) = true) (hm : midsVs vs = []) (hr : r'.mids = []) : FnS P f vs r' := by
 cases hx : callF P tt con (runF P tt con fuel) f vs [] 0 with
 | ok r ms k wl =>
  rw [hx] at h
  have hok := (callF_ok htt hcon (runF_sound hmx htt hcon fuel)).ok hx (fun id b hb => by simp [lookS] at hb) (fun id hid => by rw [hm] at hid; cases hid)
  exact cx_fz hok.1 hm hr h
 | _ => rw [hx] at h; cases h
end
end Go.El

/- Closed runs that the sanity check reaches: factors modulo a prime. Own work; no condition. -/
namespace Go.El
open Go Go.Proofs
theorem modular_s : FnS Tryz.prog 12 [cS U64 [1, 0, 1], cU 5] (.t [(false, [.S (.pr (.sl U64) I64) [([2, 1], 1), ([3, 1], 1)]]), (false, [.I .i64 0])]) :=
 fs_fz MX TT_ok con0_ok 100000 (by kernel_rfl) rfl rfl
end Go.El

/- Contracts: powers and inverses modulo p. Own work; no condition. -/
namespace Go.El
open Go Go.Proofs
def powL : Nat → Nat → Nat → Nat → Nat → Nat
 | 0, r, _, _, _ => r
 | f + 1, r, a, n, p => if n = 0 then r else powL f (if n % 2 = 1 then r * a % p else r) (a * a % p) (n / 2) p
def powM (a n p : Nat) : Nat := powL 64 (1 % p) (a % p) n p
def invM (a p : Nat) : Nat := powM a (p - 2) p
theorem powL_lt : ∀ (f r a n p : Nat), 0 < p → r < p → powL f r a n p < p
 | 0, r, _, _, _, _, h => h
 | f + 1, r, a, n, p, hp, h => by
  unfold powL
  split
  ·exact h
  ·refine powL_lt f _ _ _ _ hp ?_
   split
   ·exact Nat.mod_lt _ hp
   ·exact h
theorem powM_lt (a n p : Nat) (hp : 0 < p) : powM a n p < p := powL_lt _ _ _ _ _ hp (Nat.mod_lt _ hp)
theorem tmod_nat (x y : Nat) : (x : Int).tmod (y : Int) = ((x % y : Nat) : Int) := by rw [Int.tmod_eq_emod_of_nonneg (by omega)]; omega
theorem mulmod_nat (x y p : Nat) (hx : x < p) (hy : y < p) (hp : p ≤ 4294967296) : (IntKind.wrap .u64 ((x : Int) * (y : Int))).tmod (p : Int) = ((x * y % p : Nat) : Int) := by
 have h : x * y < 18446744073709551616 := Nat.lt_of_lt_of_le (Nat.mul_lt_mul'' hx hy) (Nat.le_trans (Nat.mul_le_mul hp hp) (by decide))
 rw [← Int.natCast_mul, wrap_u64 _ (by omega) (by omega), tmod_nat]
theorem half_nat (x : Nat) (hx : x < 18446744073709551616) : (IntKind.wrap .u64 ((x : Int).tdiv 2)) = ((x / 2 : Nat) : Int) := by
 have e : (x : Int).tdiv 2 = ((x / 2 : Nat) : Int) := by rw [Int.tdiv_eq_ediv_of_nonneg (by omega)]; omega
 rw [e, wrap_u64 _ (by omega) (by omega)]
set_option maxHeartbeats 2000000 in
theorem mpow_s (a n p : Nat) (ha : a < 18446744073709551616) (hn : n < 18446744073709551616) (hp0 : 0 < p) (hp : p ≤ 4294967296) : FnS Tryz.prog 180 [cU a, cU n, cU p] (cU (powM a n p)) := by
 refine fs_intro Tryz.func180 rfl rfl rfl rfl rfl (by decide) ?_
 refine rr rfl (tr_seq (rr rfl ?_))
 refine tr_cond rfl (fun h => ?_) (fun h => ?_)
 ·exfalso
  have h : (p : Int) = 0 := by simpa using h
  omega
 ·have hpz : (p : Int) ≠ 0 := by omega
  refine tr_skip (at_then (rr rfl (tr_seq (rr rfl (tr_block (tr_loop (α := Nat × Nat × Nat × Nat) (fun x => ⟨[(0, cU x.2.2.1), (1, cU x.2.2.2), (2, cU p), (7, cU x.2.1)], [], 4, []⟩) (fun x => powL x.1 x.2.1 x.2.2.1 x.2.2.2 p = powM a n p ∧ x.2.2.2 < 2 ^ x.1 ∧ x.2.1 < p ∧ x.2.2.1 < p ∧ x.2.2.2 < 18446744073709551616) (fun x => x.2.2.2) (64, 1 % p, a % p, n) ⟨rfl, hn, Nat.mod_lt _ hp0, Nat.mod_lt _ hp0, hn⟩ (wk ⟨⟨_, rfl, AVle.of_eq ?_⟩, sR rfl, sR rfl, ⟨_, rfl, AVle.of_eq ?_⟩, trivial⟩ trivial) ?_)))))) 
  ·exact congrArg (fun z => AV.c (C.I .u64 z)) (tmod_nat a p)
  ·exact congrArg (fun z => AV.c (C.I .u64 z)) (tmod_nat 1 p)
  ·rintro ⟨f, r, b, m⟩ ⟨hL, hm, hr, hb, hmm⟩
   simp only at hL hm hr hb hmm
   refine tr_seq (rr rfl ?_)
   refine tr_cond rfl (fun h2 => ?_) (fun h2 => ?_)
   ·have h2 : (m : Int) > 0 := by simpa using h2
    cases f with
    | zero => rw [Nat.pow_zero] at hm; omega
    | succ f =>
     have hm2 : m / 2 < 2 ^ f := by rw [Nat.pow_succ] at hm; omega
     rw [powL, if_neg (by omega)] at hL
     refine tr_skip (at_then (tr_seq (tr_block (tr_seq (rr rfl ?_)))))
     refine tr_cond rfl (fun h3 => ?_) (fun h3 => ?_)
     ·have h3 : m % 2 = 1 := by
       have h3 := eq_of_beq h3
       have e : (m : Int).tmod 2 = ((m % 2 : Nat) : Int) := tmod_nat m 2
       have h4 : (m : Int).tmod 2 = 1 := h3
       omega
      rw [if_pos h3] at hL
      refine rt rfl (at_then (rt rfl (at_block (at_then (rt rfl (at_loop (f, r * b % p, b * b % p, m / 2) ⟨hL, hm2, Nat.mod_lt _ hp0, Nat.mod_lt _ hp0, by show m / 2 < 18446744073709551616; omega⟩ (by show m / 2 < m; omega) (wk ⟨⟨_, rfl, AVle.of_eq ?_⟩, ⟨_, rfl, AVle.of_eq ?_⟩, sR rfl, ⟨_, rfl, AVle.of_eq ?_⟩, trivial⟩ trivial)))))))
      ·exact congrArg (fun z => AV.c (C.I .u64 z)) (mulmod_nat b b p hb hb hp)
      ·exact congrArg (fun z => AV.c (C.I .u64 z)) (half_nat m hmm)
      ·exact congrArg (fun z => AV.c (C.I .u64 z)) (mulmod_nat r b p hr hb hp)
     ·have h3 : ¬ m % 2 = 1 := by
       intro e
       have e2 : (m : Int).tmod 2 = ((m % 2 : Nat) : Int) := tmod_nat m 2
       have h4 : ((m : Int).tmod 2 == 1) = false := h3
       rw [show (m : Int).tmod 2 = 1 by omega] at h4
       cases h4
      rw [if_neg h3] at hL
      refine tr_skip (at_then (rt rfl (at_block (at_then (rt rfl (at_loop (f, r, b * b % p, m / 2) ⟨hL, hm2, hr, Nat.mod_lt _ hp0, by show m / 2 < 18446744073709551616; omega⟩ (by show m / 2 < m; omega) (wk ⟨⟨_, rfl, AVle.of_eq ?_⟩, ⟨_, rfl, AVle.of_eq ?_⟩, sR rfl, sR rfl, trivial⟩ trivial)))))))
      ·exact congrArg (fun z => AV.c (C.I .u64 z)) (mulmod_nat b b p hb hb hp)
      ·exact congrArg (fun z => AV.c (C.I .u64 z)) (half_nat m hmm)
   ·have h2 : ¬ (m : Int) > 0 := by simpa using h2
    have : m = 0 := by omega
    subst this
    refine tr_exit (at_then_exit (at_loop_exit (at_block_exit (at_then (rr rfl (tr_ret (at_ret TT_ok rfl (AVle.of_eq ?_))))))))
    rw [← hL]
    cases f with
    | zero => rfl
    | succ f => rw [powL, if_pos rfl]
theorem minv_s (a p : Nat) (ha : a < 18446744073709551616) (hz : a % p ≠ 0) (hp0 : 2 ≤ p) (hp : p ≤ 4294967296) : FnS Tryz.prog 124 [cU a, cU p] (.t [(false, [.I .u64 (invM a p)]), (false, [.I .i64 0])]) := by
 refine fs_intro Tryz.func124 rfl rfl rfl rfl rfl (by decide) ?_
 have hpz : (p : Int) ≠ 0 := by omega
 refine rr rfl (tr_seq (rb ?_))
 refine rg 8 rfl rfl (fun h => ?_) (fun h => ?_)
 ·exfalso
  have h : (p : Int) < 2 := by simpa using h
  omega
 ·refine re rfl (tr_cond rfl (fun h2 => ?_) (fun h2 => ?_))
  ·exfalso
   have h2 : (a : Int).tmod (p : Int) = 0 := by simpa using h2
   rw [tmod_nat] at h2
   omega
  ·have e : FnS Tryz.prog 180 [cU a, .c (num .u64 ((p : Int) - 2)).1, cU p] (cU (powM a (p - 2) p)) := by
    rw [show (AV.c (num .u64 ((p : Int) - 2)).1) = cU ((p - 2 : Nat) : Int) from congrArg (fun x => AV.c (C.I .u64 x)) ((wrap_u64 _ (by omega) (by omega)).trans (by omega))]
    exact mpow_s a (p - 2) p ha (by omega) (by omega) hp
   exact tr_skip (at_then (rb (rc rfl rfl e (re rfl (tr_ret (at_ret TT_ok rfl (AVle.refl _)))))))
end Go.El

/- Contracts: polynomials modulo p: trim, times. Own work; no condition. -/
namespace Go.El
open Go Go.Proofs
def aP (xs : List Int) (p : Int) : AV := .a [.S U64 xs, .I .u64 p]
theorem trim_fin {ws : List Int} {k : Nat} (hrec : trimN ws k = trimN ws ws.length) (h1 : k = 0 ∨ ws.getD (k - 1) 0 ≠ 0) : ws.take k = trimW ws := by
 unfold trimW
 rw [← hrec]
 cases k with
 | zero => rfl
 | succ k =>
  rcases h1 with h1 | h1
  ·omega
  ·simp only [Nat.add_sub_cancel] at h1
   simp only [trimN, h1, if_false]
set_option maxHeartbeats 1000000 in
theorem ptrim_s (ws : List Int) (p : Int) (hb : ws.length ≤ 1000000) : FnS Tryz.prog 123 [aP ws p] (aP (trimW ws) p) := by
 refine fs_intro Tryz.func123 rfl rfl rfl rfl rfl (by decide) ?_
 refine rr rfl (rr rfl ?_)
 refine tr_seq (tr_block (tr_loop (α := Nat) (fun k => ⟨[(1, .c (.P 0 0)), (2, .c (.P 1000 0)), (3, cI k)], [(0, .box 101 0 [.S U64 ws, .I .u64 p]), (1000, .box 101 0 [.V (.slice none 0 0), .I .u64 0])], 2, []⟩) (fun k => k ≤ ws.length ∧ trimN ws k = trimN ws ws.length) (fun k => k) ws.length ⟨Nat.le_refl _, rfl⟩ (wk ⟨sR rfl, sR rfl, sR rfl, trivial⟩ ⟨⟨_, rfl, BLe.of_eq rfl⟩, ⟨_, rfl, BLe.of_eq rfl⟩, trivial⟩) ?_))
 rintro k ⟨hk, hrec⟩
 refine tr_seq (rb ?_)
 refine rg 9 rfl rfl (fun h => ?_) (fun h => ?_)
 ·simp at h
  refine re rfl (tr_cond rfl (fun h2 => ?_) (fun h2 => ?_))
  ·refine tr_skip (at_then (tr_block (rt rfl (at_block (at_loop (k - 1) ⟨by omega, ?_⟩ (by show k - 1 < k; omega) (wk ⟨sR rfl, sR rfl, ⟨_, rfl, AVle.of_eq ?_⟩, trivial⟩ ⟨⟨_, rfl, BLe.of_eq rfl⟩, ⟨_, rfl, BLe.of_eq rfl⟩, trivial⟩))))))
   ·rw [← hrec]
    obtain ⟨j, rfl⟩ : ∃ j, k = j + 1 := ⟨k - 1, by omega⟩
    have h3 : ws.getD j 0 = 0 := by
     have : (((j + 1 : Nat) : Int) - 1).toNat = j := by omega
     simpa [this] using h2
    simp only [Nat.add_sub_cancel, trimN, h3, if_true]
   ·congr 2; omega
  ·refine tr_exit (at_then_exit (at_loop_exit (at_block_exit (at_then (rr rfl (tr_ret (at_ret TT_ok rfl (AVle.of_eq ?_))))))))
   refine congrArg (aP · p) ?_
   rw [← trim_fin hrec (.inr ?_)]
   ·simp
   ·have : ((k : Int) - 1).toNat = k - 1 := by omega
    simpa [this] using h2
 ·simp at h
  subst h
  refine re rfl (tr_cond rfl (fun h2 => by simp at h2) (fun _ => ?_))
  refine tr_exit (at_then_exit (at_loop_exit (at_block_exit (at_then (rr rfl (tr_ret (at_ret TT_ok rfl (AVle.of_eq ?_))))))))
  exact congrArg (aP · p) (trim_fin hrec (.inl rfl))
def rp (p : Int) (r : List Int) : Prop := ∀ i, 0 ≤ r.getD i 0 ∧ r.getD i 0 < p
theorem rp_set {p : Int} {r : List Int} (h : rp p r) (i : Nat) {x : Int} (h0 : 0 ≤ x) (h1 : x < p) : rp p (r.set i x) := by
 intro j
 have := h j
 simp only [List.getD_eq_getElem?_getD, List.getElem?_set] at this ⊢
 split
 ·split
  ·exact ⟨h0, h1⟩
  ·rename_i e1 e2
   simp only [Option.getD_none]
   exact ⟨Int.le_refl _, by omega⟩
 ·exact this
theorem rp_rep {p : Int} (hp : 0 < p) (n : Nat) : rp p (List.replicate n 0) := by
 intro j
 simp only [List.getD_eq_getElem?_getD, List.getElem?_replicate]
 split
 ·exact ⟨Int.le_refl _, hp⟩
 ·exact ⟨Int.le_refl _, hp⟩
def tRow (a b : List Int) (p : Int) (i : Nat) : Nat → List Int → List Int
 | 0, r => r
 | j + 1, r => (tRow a b p i j r).set (i + j) (((tRow a b p i j r).getD (i + j) 0 + a.getD i 0 * b.getD j 0) % p)
def tAll (a b : List Int) (p : Int) : Nat → List Int
 | 0 => List.replicate (a.length + b.length - 1) 0
 | i + 1 => tRow a b p i b.length (tAll a b p i)
theorem tRow_len (a b : List Int) (p : Int) (i : Nat) (r : List Int) : ∀ j, (tRow a b p i j r).length = r.length
 | 0 => rfl
 | j + 1 => by rw [tRow, List.length_set, tRow_len a b p i r j]
theorem tAll_len (a b : List Int) (p : Int) : ∀ i, (tAll a b p i).length = a.length + b.length - 1
 | 0 => by simp [tAll]
 | i + 1 => by rw [tAll, tRow_len, tAll_len a b p i]
theorem tRow_rp {a b : List Int} {p : Int} (hp : 0 < p) (i : Nat) {r : List Int} (h : rp p r) : ∀ j, rp p (tRow a b p i j r)
 | 0 => h
 | j + 1 => rp_set (tRow_rp hp i h j) _ (Int.emod_nonneg _ (by omega)) (Int.emod_lt_of_pos _ hp)
theorem tAll_rp (a b : List Int) {p : Int} (hp : 0 < p) : ∀ i, rp p (tAll a b p i)
 | 0 => rp_rep hp _
 | i + 1 => tRow_rp hp i (tAll_rp a b hp i) _
def ptimes (a b : List Int) (p : Int) : List Int := if a = [] ∨ b = [] then [] else trimW (tAll a b p a.length)
theorem muladd_mod (x y z p : Int) (hx : 0 ≤ x ∧ x < p) (hy : 0 ≤ y ∧ y < p) (hz : 0 ≤ z ∧ z < p) (hp : p ≤ 2147483648) : (IntKind.wrap .u64 (x + IntKind.wrap .u64 (y * z))).tmod p = (x + y * z) % p := by
 have h0 : 0 ≤ y * z := Int.mul_nonneg hy.1 hz.1
 have h1 : y * z ≤ 2147483648 * 2147483648 := Int.mul_le_mul (by omega) (by omega) hz.1 (by omega)
 rw [wrap_u64 (y * z) h0 (by omega), wrap_u64 _ (by omega) (by omega), Int.tmod_eq_emod_of_nonneg (by omega)]
theorem AVle.trans {x y z : AV} (h : AVle x y) (k : AVle y z) : AVle x z := ⟨fun g v e => k.1 g v (h.1 g v e), fun id e => h.2 id (k.2 id e)⟩
theorem AVle.a2 {x x' y : C} (h : AVle (.c x) (.c x')) : AVle (.a [x, y]) (.a [x', y]) := by
 refine ⟨?_, ?_⟩
 ·rintro g v ⟨vs, rfl, v1, r, rfl, h1, h2⟩
  exact ⟨_, rfl, v1, r, rfl, h.1 g v1 h1, h2⟩
 ·intro id hid
  have h2 := h.2 id
  simp only [AV.mids, midsL, List.append_nil, List.mem_append] at hid h2 ⊢
  exact hid.elim (fun h => .inl (h2 h)) .inr
set_option maxHeartbeats 2000000 in
theorem ptimes_s (a b : List Int) (p : Int) (la : a.length ≤ 1000) (lb : b.length ≤ 1000) (hp0 : 0 < p) (hp : p ≤ 2147483648) (ha : rp p a) (hb : rp p b) : FnS Tryz.prog 94 [aP a p, aP b p] (aP (ptimes a b p) p) := by
 refine fs_intro Tryz.func94 rfl rfl rfl rfl rfl (by decide) ?_
 have hpz : p ≠ 0 := by omega
 refine rr rfl (tr_seq (rb ?_))
 have fin : a = [] ∨ b = [] → aP [] p = aP (ptimes a b p) p := fun h => by rw [ptimes, if_pos h]
 refine rg 12 rfl rfl (fun h => ?_) (fun h => ?_)
 ·have h : a = [] := by simpa using h
  refine re rfl (tr_cond rfl (fun h2 => ?_) (fun h2 => by simp at h2))
  exact rr rfl (tr_ret (at_then_ret (at_ret TT_ok rfl (AVle.trans (AVle.a2 (AVle.nil U64)) (AVle.of_eq (fin (.inl h)))))))
 ·have h : a ≠ [] := by simpa using h
  refine re rfl (tr_cond rfl (fun h2 => ?_) (fun h2 => ?_))
  ·have h2 : b = [] := by simpa using h2
   exact rr rfl (tr_ret (at_then_ret (at_ret TT_ok rfl (AVle.trans (AVle.a2 (AVle.nil U64)) (AVle.of_eq (fin (.inr h2)))))))
  ·have h2 : b ≠ [] := by simpa using h2
   have pa := List.length_pos_iff.2 h
   have pb := List.length_pos_iff.2 h2
   refine tr_skip (at_then (rb ?_))
   refine rm U64 (a.length + b.length - 1) rfl rfl rfl rfl rfl rfl (zr_int .u64) (by omega) ?_ ?_ ?_
   ·show _ * 8 ≤ _; omega
   ·show _ * 1 ≤ _; omega
   refine re rfl (tr_seq (rr rfl ?_))
   refine tr_block (tr_loop (α := Nat) (fun i => ⟨[(2, .c (.P 0 0)), (3, .c (.P 1000 0)), (4, .c (.P 2000 0)), (5, .c (.X 2008000)), (32, cI a.length), (33, cI i)], [(0, .box 101 0 [.S U64 a, .I .u64 p]), (1000, .box 101 0 [.S U64 b, .I .u64 p]), (2000, .box 101 0 [.V (.slice none 0 0), .I .u64 0]), (2008000, .vec 25 U64 (tAll a b p i))], 4, []⟩) (fun i => i ≤ a.length) (fun i => a.length - i) 0 (Nat.zero_le _) (wk ⟨sR rfl, sR rfl, sR rfl, sR rfl, sR rfl, sR rfl, trivial⟩ ⟨⟨_, rfl, BLe.of_eq rfl⟩, ⟨_, rfl, BLe.of_eq rfl⟩, ⟨_, rfl, BLe.of_eq rfl⟩, ⟨_, rfl, BLe.of_eq rfl⟩, trivial⟩) ?_)
   intro i hi
   have hli := tAll_len a b p i
   refine rr rfl (tr_seq ?_)
   refine tr_cond rfl (fun h3 => ?_) (fun h3 => ?_)
   ·have h3 : i < a.length := by simpa using h3
    refine tr_skip (at_then (tr_seq (tr_block (rr rfl (rr rfl ?_)))))
    refine tr_block (tr_loop (α := Nat) (fun j => ⟨[(2, .c (.P 0 0)), (3, .c (.P 1000 0)), (4, .c (.P 2000 0)), (5, .c (.X 2008000)), (6, cI i), (32, cI a.length), (33, cI i), (38, cI b.length), (39, cI j)], [(0, .box 101 0 [.S U64 a, .I .u64 p]), (1000, .box 101 0 [.S U64 b, .I .u64 p]), (2000, .box 101 0 [.V (.slice none 0 0), .I .u64 0]), (2008000, .vec 25 U64 (tRow a b p i j (tAll a b p i)))], 7, []⟩) (fun j => j ≤ b.length) (fun j => b.length - j) 0 (Nat.zero_le _) (wk ⟨sR rfl, sR rfl, sR rfl, sR rfl, sR rfl, sR rfl, sR rfl, sR rfl, sR rfl, trivial⟩ ⟨⟨_, rfl, BLe.of_eq rfl⟩, ⟨_, rfl, BLe.of_eq rfl⟩, ⟨_, rfl, BLe.of_eq rfl⟩, ⟨_, rfl, BLe.of_eq rfl⟩, trivial⟩) ?_)
    intro j hj
    have hlj := tRow_len a b p i (tAll a b p i) j
    refine rr rfl (tr_seq ?_)
    refine tr_cond rfl (fun h4 => ?_) (fun h4 => ?_)
    ·have h4 : j < b.length := by simpa using h4
     have ga := ha i
     have gb := hb j
     have gr := tRow_rp hp0 (a := a) (b := b) i (tAll_rp a b hp0 i) j (i + j)
     have eij : ((i : Int) + (j : Int)).toNat = i + j := by omega
     refine tr_skip (at_then (tr_seq (tr_block (rr rfl (rt rfl ?_ (hp := by simp only [Pr.an, Pr.h, num, i64r, true_and, and_true]; omega))))))
     refine at_block (at_then (rt rfl (at_loop (j + 1) h4 (by show b.length - (j + 1) < b.length - j; omega) (wk ⟨sR rfl, sR rfl, sR rfl, sR rfl, sR rfl, sR rfl, sR rfl, sR rfl, sR rfl, trivial⟩ ⟨⟨_, rfl, BLe.of_eq rfl⟩, ⟨_, rfl, BLe.of_eq rfl⟩, ⟨_, rfl, BLe.of_eq rfl⟩, ⟨_, rfl, BLe.of_eq ?_⟩, trivial⟩))))
     rw [tRow, eij, ← muladd_mod _ _ _ p gr ga gb hp]; rfl
    ·have h4 : ¬ j < b.length := by simpa using h4
     have e : j = b.length := by omega
     subst e
     refine tr_exit (at_then_exit (at_loop_exit (at_block_exit (at_block (at_then (rt rfl (at_loop (i + 1) h3 (by show a.length - (i + 1) < a.length - i; omega) (wk ⟨sR rfl, sR rfl, sR rfl, sR rfl, sR rfl, sR rfl, trivial⟩ ⟨⟨_, rfl, BLe.of_eq rfl⟩, ⟨_, rfl, BLe.of_eq rfl⟩, ⟨_, rfl, BLe.of_eq rfl⟩, ⟨_, rfl, BLe.of_eq rfl⟩, trivial⟩))))))))
   ·have h3 : ¬ i < a.length := by simpa using h3
    have e : i = a.length := by omega
    subst e
    refine tr_exit (at_then_exit (at_loop_exit (at_block_exit (at_then (tr_frz 2008000 rfl rfl rfl (rb (rc rfl rfl (ptrim_s (tAll a b p a.length) p (by omega)) (re rfl (tr_ret (at_ret TT_ok rfl (AVle.of_eq ?_)))))))))))
    rw [ptimes, if_neg (fun e => e.elim h h2)]; rfl
end Go.El
