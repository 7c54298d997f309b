/- The fast interpreter, part 1: frames as trees, memory as lists, comparisons: made for the kernel. Own work; no condition. -/
import Derived.Test.YtjioamjlebpppaaGreatG4
set_option linter.unusedVariables false
set_option linter.unusedSimpArgs false
set_option linter.unnecessarySimpa false
namespace Go.El
open Go Go.RowKit
inductive D4 where
 | a | b | c | d
inductive T4 (α : Type) where
 | e
 | lf (v : α)
 | nd (a b c d : T4 α)
section
variable {α : Type}
noncomputable def getT (p : List D4) : T4 α → Option α := List.rec (motive := fun _ => T4 α → Option α)
 (fun t => T4.rec (motive := fun _ => Option α) none (fun v => some v) (fun _ _ _ _ _ _ _ _ => none) t)
 (fun x _ ih t => T4.rec (motive := fun _ => Option α) none (fun _ => none) (fun a b c d _ _ _ _ => D4.rec (motive := fun _ => Option α) (ih a) (ih b) (ih c) (ih d) x) t) p
noncomputable def setT (p : List D4) (v : α) : T4 α → T4 α := List.rec (motive := fun _ => T4 α → T4 α)
 (fun _ => .lf v)
 (fun x _ ih t => T4.rec (motive := fun _ => T4 α)
  (D4.rec (motive := fun _ => T4 α) (.nd (ih .e) .e .e .e) (.nd .e (ih .e) .e .e) (.nd .e .e (ih .e) .e) (.nd .e .e .e (ih .e)) x)
  (fun _ => D4.rec (motive := fun _ => T4 α) (.nd (ih .e) .e .e .e) (.nd .e (ih .e) .e .e) (.nd .e .e (ih .e) .e) (.nd .e .e .e (ih .e)) x)
  (fun a b c d _ _ _ _ => D4.rec (motive := fun _ => T4 α) (.nd (ih a) b c d) (.nd a (ih b) c d) (.nd a b (ih c) d) (.nd a b c (ih d)) x) t) p
noncomputable def delT (p : List D4) : T4 α → T4 α := List.rec (motive := fun _ => T4 α → T4 α)
 (fun _ => .e)
 (fun x _ ih t => T4.rec (motive := fun _ => T4 α) .e (fun _ => .e)
  (fun a b c d _ _ _ _ => D4.rec (motive := fun _ => T4 α) (.nd (ih a) b c d) (.nd a (ih b) c d) (.nd a b (ih c) d) (.nd a b c (ih d)) x) t) p
theorem get_e : ∀ p : List D4, getT p (.e : T4 α) = none
 | [] => rfl
 | _ :: _ => rfl
theorem get_set (v : α) : ∀ (p : List D4) (t : T4 α), getT p (setT p v t) = some v
 | [], _ => rfl
 | x :: p, t => by cases t <;> cases x <;> exact get_set v p _
theorem get_set_ne (v : α) : ∀ (p q : List D4) (t : T4 α), p.length = q.length → p ≠ q → getT q (setT p v t) = getT q t
 | [], [], _, _, h => absurd rfl h
 | [], _ :: _, _, h, _ => by simp at h
 | _ :: _, [], _, h, _ => by simp at h
 | x :: p, y :: q, t, hl, h => by
  have hl' : p.length = q.length := by simpa using hl
  by_cases hxy : x = y
  ·subst hxy
   have hpq : p ≠ q := fun e => h (by rw [e])
   cases t <;> cases x <;> first | exact get_set_ne v p q _ hl' hpq | exact (get_set_ne v p q _ hl' hpq).trans (get_e q)
  ·cases t <;> cases x <;> cases y <;> first | rfl | exact get_e q | exact absurd rfl hxy
theorem get_del : ∀ (p : List D4) (t : T4 α), getT p (delT p t) = none
 | [], _ => rfl
 | x :: p, t => by cases t <;> cases x <;> first | rfl | exact get_del p _
theorem get_del_ne : ∀ (p q : List D4) (t : T4 α), p.length = q.length → p ≠ q → getT q (delT p t) = getT q t
 | [], [], _, _, h => absurd rfl h
 | [], _ :: _, _, h, _ => by simp at h
 | _ :: _, [], _, h, _ => by simp at h
 | x :: p, y :: q, t, hl, h => by
  have hl' : p.length = q.length := by simpa using hl
  by_cases hxy : x = y
  ·subst hxy
   have hpq : p ≠ q := fun e => h (by rw [e])
   cases t <;> cases x <;> first | rfl | exact get_del_ne p q _ hl' hpq
  ·cases t <;> cases x <;> cases y <;> first | rfl | exact absurd rfl hxy
end
def dgt : Nat → D4
 | 0 => .a
 | 1 => .b
 | 2 => .c
 | _ => .d
def pth : Nat → Nat → List D4
 | 0, _ => []
 | n + 1, t => dgt (t / 4 ^ n) :: pth n (t % 4 ^ n)
theorem pth_length : ∀ n t, (pth n t).length = n
 | 0, _ => rfl
 | n + 1, t => by simp [pth, pth_length n]
theorem dgt_inj {a b : Nat} (ha : a < 4) (hb : b < 4) (h : dgt a = dgt b) : a = b := by
 have h1 : a = 0 ∨ a = 1 ∨ a = 2 ∨ a = 3 := by omega
 have h2 : b = 0 ∨ b = 1 ∨ b = 2 ∨ b = 3 := by omega
 rcases h1 with rfl | rfl | rfl | rfl <;> rcases h2 with rfl | rfl | rfl | rfl <;> first | rfl | (simp [dgt] at h)
theorem pth_inj : ∀ (n : Nat) {a b : Nat}, a < 4 ^ n → b < 4 ^ n → pth n a = pth n b → a = b
 | 0, a, b, ha, hb, _ => by simp at ha hb; omega
 | n + 1, a, b, ha, hb, h => by
  simp only [pth, List.cons.injEq] at h
  have hp : 0 < 4 ^ n := Nat.pow_pos (by decide)
  have e1 : a / 4 ^ n = b / 4 ^ n := dgt_inj (Nat.div_lt_of_lt_mul (by rw [Nat.pow_succ] at ha; omega)) (Nat.div_lt_of_lt_mul (by rw [Nat.pow_succ] at hb; omega)) h.1
  have e2 : a % 4 ^ n = b % 4 ^ n := pth_inj n (Nat.mod_lt _ hp) (Nat.mod_lt _ hp) h.2
  rw [← Nat.div_add_mod a (4 ^ n), ← Nat.div_add_mod b (4 ^ n), e1, e2]
abbrev Tr := T4 AV
abbrev Mem := List (Nat × Blk)
section
variable {α : Type}
noncomputable def lookF (id : Nat) (l : List (Nat × α)) : Option α := List.rec (motive := fun _ => Option α) none
 (fun h _ ih => Prod.rec (motive := fun _ => Option α) (fun k x => Bool.rec (motive := fun _ => Option α) ih (some x) (Nat.beq k id)) h) l
noncomputable def putF (id : Nat) (v : α) (l : List (Nat × α)) : List (Nat × α) := List.rec (motive := fun _ => List (Nat × α)) [(id, v)]
 (fun h r ih => Prod.rec (motive := fun _ => List (Nat × α)) (fun k x => Bool.rec (motive := fun _ => List (Nat × α)) ((k, x) :: ih) ((id, v) :: r) (Nat.beq k id)) h) l
theorem lookF_eq (id : Nat) : ∀ l : List (Nat × α), lookF id l = lookA id l
 | [] => rfl
 | (k, x) :: r => by
  have ih := lookF_eq id r
  show Bool.rec (motive := fun _ => Option α) (lookF id r) (some x) (Nat.beq k id) = _
  simp only [lookA]
  by_cases h : k = id
  ·subst h; rw [Nat.beq_refl, if_pos rfl]
  ·have : Nat.beq k id = false := by
    cases hb : Nat.beq k id
    ·rfl
    ·exact absurd (Nat.eq_of_beq_eq_true hb) h
   rw [this, if_neg h]; exact ih
theorem putF_eq (id : Nat) (v : α) : ∀ l : List (Nat × α), putF id v l = putA id v l
 | [] => rfl
 | (k, x) :: r => by
  have ih := putF_eq id v r
  show Bool.rec (motive := fun _ => List (Nat × α)) ((k, x) :: putF id v r) ((id, v) :: r) (Nat.beq k id) = _
  simp only [putA]
  by_cases h : k = id
  ·subst h; rw [Nat.beq_refl, if_pos rfl]
  ·have : Nat.beq k id = false := by
    cases hb : Nat.beq k id
    ·rfl
    ·exact absurd (Nat.eq_of_beq_eq_true hb) h
   rw [this, if_neg h]; simp only [ih]
end
noncomputable def slots (dep n : Nat) (t : Tr) : List (Nat × AV) := (List.range n).filterMap fun j => (getT (pth dep j) t).map fun v => (j, v)
noncomputable def absS (dep n : Nat) (t : Tr) (m : Mem) : St := ⟨slots dep n t, m, 0, []⟩
theorem look_fm {α : Type} (g : Nat → Option α) (t : Nat) : ∀ l : List Nat, lookA t (l.filterMap fun j => (g j).map fun v => (j, v)) = if t ∈ l then g t else none
 | [] => rfl
 | j :: l => by
  have ih := look_fm g t l
  simp only [List.filterMap_cons]
  cases hg : g j with
  | none =>
   simp only [Option.map_none, ih, List.mem_cons]
   by_cases h : t = j
   ·subst h; simp [hg]
   ·simp [h]
  | some v =>
   simp only [Option.map_some, lookA, ih, List.mem_cons]
   by_cases h : j = t
   ·subst h; simp [hg]
   ·have : t ≠ j := fun e => h e.symm
    simp [h, this]
theorem look_slots (dep n : Nat) (t : Tr) (j : Nat) : lookA j (slots dep n t) = if j < n then getT (pth dep j) t else none := by
 unfold slots
 rw [look_fm (fun j => getT (pth dep j) t) j]
 simp only [List.mem_range]
theorem abs_kn (dep n : Nat) (t : Tr) (m : Mem) : (absS dep n t m).kn = fun | .s j => ((if j < n then getT (pth dep j) t else none)).map .v | .m id => (lookA id m).map .b := by
 funext k
 cases k with
 | s j => simp only [absS, St.kn, look_slots]
 | m id => rfl
theorem look_slots_set (dep n : Nat) (t : Tr) (d j : Nat) (v : AV) (hn : n ≤ 4 ^ dep) (hd : d < n) : lookA j (slots dep n (setT (pth dep d) v t)) = if d = j then some v else lookA j (slots dep n t) := by
 rw [look_slots, look_slots]
 by_cases h : d = j
 ·subst h; simp [hd, get_set]
 ·rw [if_neg h]
  by_cases hj : j < n
  ·rw [if_pos hj, if_pos hj, get_set_ne _ _ _ _ (by rw [pth_length, pth_length]) (fun e => h (pth_inj dep (by omega) (by omega) e))]
  ·rw [if_neg hj, if_neg hj]
theorem look_slots_del (dep n : Nat) (t : Tr) (d j : Nat) (hn : n ≤ 4 ^ dep) (hd : d < n) : lookA j (slots dep n (delT (pth dep d) t)) = if d = j then none else lookA j (slots dep n t) := by
 rw [look_slots, look_slots]
 by_cases h : d = j
 ·subst h; simp [hd, get_del]
 ·rw [if_neg h]
  by_cases hj : j < n
  ·rw [if_pos hj, if_pos hj, get_del_ne _ _ _ (by rw [pth_length, pth_length]) (fun e => h (pth_inj dep (by omega) (by omega) e))]
  ·rw [if_neg hj, if_neg hj]
theorem abs_set (dep n : Nat) (t : Tr) (m : Mem) (d : Nat) (v : AV) (hn : n ≤ 4 ^ dep) (hd : d < n) : (absS dep n (setT (pth dep d) v t) m).kn = upd (absS dep n t m).kn [(.s d, some (.v v))] := by
 funext k
 cases k with
 | s j =>
  simp only [absS, St.kn, upd, says, Key.s.injEq, look_slots_set dep n t d j v hn hd]
  split <;> simp
 | m id => simp [absS, St.kn, upd, says]
theorem abs_del (dep n : Nat) (t : Tr) (m : Mem) (d : Nat) (hn : n ≤ 4 ^ dep) (hd : d < n) : (absS dep n (delT (pth dep d) t) m).kn = upd (absS dep n t m).kn [(.s d, none)] := by
 funext k
 cases k with
 | s j =>
  simp only [absS, St.kn, upd, says, Key.s.injEq, look_slots_del dep n t d j hn hd]
  split <;> simp
 | m id => simp [absS, St.kn, upd, says]
theorem abs_mem (dep n : Nat) (t : Tr) (m m' : Mem) (wr : List (Key × Option Info)) (h : ∀ id, (lookA id m').map Info.b = upd (absS dep n t m).kn wr (.m id)) (hs : ∀ j, says wr (.s j) = none) : (absS dep n t m').kn = upd (absS dep n t m).kn wr := by
 funext k
 cases k with
 | s j => simp [absS, St.kn, upd, hs j]
 | m id => exact h id
def leZ : Int → Int → Bool
 | .ofNat m, .ofNat n => Nat.ble m n
 | .negSucc _, .ofNat _ => true
 | .negSucc m, .negSucc n => Nat.ble n m
 | .ofNat _, .negSucc _ => false
def eqZ : Int → Int → Bool
 | .ofNat m, .ofNat n => Nat.beq m n
 | .negSucc m, .negSucc n => Nat.beq m n
 | _, _ => false
theorem leZ_eq (a b : Int) : leZ a b = decide (a ≤ b) := by
 cases a <;> cases b <;> simp only [leZ] <;> rw [Bool.eq_iff_iff] <;> simp [Nat.ble_eq] <;> omega
theorem eqZ_eq (a b : Int) : eqZ a b = decide (a = b) := by
 cases a <;> cases b <;> simp only [eqZ] <;> rw [Bool.eq_iff_iff] <;> simp <;> omega
def i64F : Int → Bool
 | .ofNat m => Nat.blt m 9223372036854775808
 | .negSucc m => Nat.blt m 9223372036854775808
theorem i64F_ok {n : Int} (h : i64F n = true) : i64r n := by
 cases n with
 | ofNat m => simp only [i64F, Nat.blt_eq] at h; unfold i64r; simp only [Int.ofNat_eq_natCast]; omega
 | negSucc m => simp only [i64F, Nat.blt_eq] at h; unfold i64r; omega
def prF : Pr → Bool
 | .t => true
 | .i64 n => i64F n
 | .ne0 b => Bool.not (eqZ b 0)
 | .le a b => leZ a b
 | .lt a b => Bool.not (leZ b a)
 | .ltN a b => Nat.blt a b
 | .eqB a b => a == b
 | .and p q => match prF p with
  | true => prF q
  | false => false
theorem prF_ok : ∀ {p : Pr}, prF p = true → p.h
 | .t, _ => trivial
 | .i64 _, h => i64F_ok h
 | .ne0 b, h => by simp only [prF, eqZ_eq] at h; simpa [Pr.h] using h
 | .le a b, h => by simp only [prF, leZ_eq] at h; simpa [Pr.h] using h
 | .lt a b, h => by simp only [prF, leZ_eq] at h; simpa [Pr.h] using h
 | .ltN a b, h => by simpa [prF, Pr.h, Nat.blt_eq] using h
 | .eqB a b, h => by simpa [prF, Pr.h] using h
 | .and p q, h => by
  simp only [prF] at h
  split at h
  ·rename_i h1; exact ⟨prF_ok h1, prF_ok h⟩
  ·cases h
def lowC (k : Nat) : C → Bool
 | .P id _ => Nat.blt id k
 | .X id => Nat.blt id k
 | .Y id _ _ _ => Nat.blt id k
 | .L id _ _ _ => Nat.blt id k
 | .W id _ _ => Nat.blt id k
 | _ => true
theorem lowC_ok {k : Nat} {c : C} (h : lowC k c = true) : ∀ id ∈ c.mids, id < k := by
 cases c <;> simp only [lowC, C.mids, Nat.blt_eq] at h ⊢ <;> simp <;> exact h
noncomputable def lowL (k : Nat) (l : List C) : Bool := List.rec (motive := fun _ => Bool) true (fun c _ ih => Bool.rec (motive := fun _ => Bool) false ih (lowC k c)) l
theorem lowL_ok {k : Nat} : ∀ {l : List C}, lowL k l = true → ∀ id ∈ midsL l, id < k
 | [], _ => by simp [midsL]
 | c :: r, h => by
  have h' : Bool.rec (motive := fun _ => Bool) false (lowL k r) (lowC k c) = true := h
  cases hc : lowC k c with
  | false => rw [hc] at h'; cases h'
  | true =>
   rw [hc] at h'
   intro id hid
   simp only [midsL, List.mem_append] at hid
   rcases hid with hid | hid
   ·exact lowC_ok hc id hid
   ·exact lowL_ok h' id hid
noncomputable def lowT (k : Nat) (l : List (Bool × List C)) : Bool := List.rec (motive := fun _ => Bool) true (fun c _ ih => Bool.rec (motive := fun _ => Bool) false ih (lowL k c.2)) l
theorem lowT_ok {k : Nat} : ∀ {l : List (Bool × List C)}, lowT k l = true → ∀ id ∈ midsT l, id < k
 | [], _ => by simp [midsT]
 | c :: r, h => by
  have h' : Bool.rec (motive := fun _ => Bool) false (lowT k r) (lowL k c.2) = true := h
  cases hc : lowL k c.2 with
  | false => rw [hc] at h'; cases h'
  | true =>
   rw [hc] at h'
   intro id hid
   simp only [midsT, List.mem_append] at hid
   rcases hid with hid | hid
   ·exact lowL_ok hc id hid
   ·exact lowT_ok h' id hid
noncomputable def lowV (k : Nat) : AV → Bool
 | .c x => lowC k x
 | .a cs => lowL k cs
 | .t ss => lowT k ss
theorem lowV_ok {k : Nat} {v : AV} (h : lowV k v = true) : ∀ id ∈ v.mids, id < k := by
 cases v with
 | c x => exact lowC_ok h
 | a cs => exact lowL_ok h
 | t ss => exact lowT_ok h
inductive Pd where
 | s (p : List D4)
 | k (v : AV)
noncomputable def evP (t : Tr) : Pd → Option AV
 | .s p => getT p t
 | .k v => some v
noncomputable def evPs (t : Tr) (l : List Pd) : Option (List AV) := List.rec (motive := fun _ => Option (List AV)) (some [])
 (fun x _ ih => match evP t x with
  | some v => (match ih with
   | some vs => some (v :: vs)
   | none => none)
  | none => none) l
def compP (dep n : Nat) : Operand → Option Pd
 | .tmp j => (match Nat.blt j n with
  | true => some (.s (pth dep j))
  | false => none)
 | .const v => some (.k (constAV v))
 | .func f => some (.k (.c (.V (.func (.func f) #[] #[]))))
 | .global _ => none
def compPs (dep n : Nat) : List Operand → Option (List Pd)
 | [] => some []
 | x :: xs => (match compP dep n x, compPs dep n xs with
  | some p, some ps => some (p :: ps)
  | _, _ => none)
abbrev Ms := List Mem
noncomputable def lookS (id : Nat) (ms : Ms) : Option Blk := List.rec (motive := fun _ => Option Blk) none
 (fun m _ ih => match lookF id m with
  | some b => some b
  | none => ih) ms
noncomputable def putS (id : Nat) (b : Blk) (ms : Ms) : Ms := List.rec (motive := fun _ => Ms) []
 (fun m r ih => match lookF id m with
  | some _ => putF id b m :: r
  | none => m :: ih) ms
def delS (id : Nat) : Ms → Ms
 | [] => []
 | m :: r => delA id m :: delS id r
def consS (k : Nat) (b : Blk) : Ms → Ms
 | m :: r => ((k, b) :: m) :: r
 | [] => [[(k, b)]]
theorem look_flat (id : Nat) : ∀ ms : Ms, lookA id ms.flatten = lookS id ms
 | [] => rfl
 | m :: r => by
  have ih := look_flat id r
  show _ = match lookF id m with | some b => some b | none => lookS id r
  rw [List.flatten_cons, look_app, lookF_eq, ih]
  cases lookA id m <;> rfl
theorem lookS_put (j id : Nat) (b : Blk) : ∀ ms : Ms, lookS j (putS id b ms) = match lookS id ms with
  | some _ => if id = j then some b else lookS j ms
  | none => lookS j ms
 | [] => rfl
 | m :: r => by
  have ih := lookS_put j id b r
  have e1 : ∀ j (m : Mem) (r : Ms), lookS j (m :: r) = match lookF j m with | some b => some b | none => lookS j r := fun _ _ _ => rfl
  have e2 : putS id b (m :: r) = match lookF id m with | some _ => putF id b m :: r | none => m :: putS id b r := rfl
  rw [e2, e1 id m r]
  cases h : lookF id m with
  | some x =>
   simp only [e1, lookF_eq, putF_eq, lookA_put]
   by_cases hj : id = j
   ·simp [hj]
   ·simp [hj]
  | none =>
   simp only [e1, ih]
   cases h2 : lookS id r with
   | none => rfl
   | some x =>
    by_cases hj : id = j
    ·subst hj; simp [h]
    ·simp [hj]
theorem lookS_del (j id : Nat) : ∀ ms : Ms, lookS j (delS id ms) = if id = j then none else lookS j ms
 | [] => by simp [delS, lookS]
 | m :: r => by
  have ih := lookS_del j id r
  have e1 : ∀ j (m : Mem) (r : Ms), lookS j (m :: r) = match lookF j m with | some b => some b | none => lookS j r := fun _ _ _ => rfl
  simp only [delS, e1, lookF_eq, lookA_del, ih]
  by_cases hj : id = j <;> simp [hj]
theorem lookS_cons (j k : Nat) (b : Blk) (ms : Ms) : lookS j (consS k b ms) = if k = j then some b else lookS j ms := by
 have e1 : ∀ j (m : Mem) (r : Ms), lookS j (m :: r) = match lookF j m with | some b => some b | none => lookS j r := fun _ _ _ => rfl
 cases ms with
 | nil => simp only [consS, e1, lookF_eq, lookA]; by_cases h : k = j <;> simp [h, lookS]
 | cons m r => simp only [consS, e1, lookF_eq, lookA]; by_cases h : k = j <;> simp [h]
inductive Ft where
 | n
 | m (rd wr : List Nat)
 | c (k k' : Nat) (wl : List Nat)
inductive Rs where
 | no
 | ok (t : Tr) (ms : Ms) (k : Nat) (wl : List Nat) (f : Ft)
inductive Cr where
 | no
 | ok (r : AV) (ms : Ms) (k : Nat) (wl : List Nat)
abbrev CallG := FuncId → List AV → Ms → Nat → Cr
inductive Ins where
 | mv (d : List D4) (x : Pd)
 | bin (d : List D4) (op : BinOp) (ty : Nat) (x y : Pd)
 | idx (d : List D4) (ty : Nat) (x i : Pd)
 | fad (d : List D4) (ty : Nat) (x : Pd) (f : Nat)
 | ext (d : List D4) (x : Pd) (k : Nat)
 | len (d : List D4) (ty : Nat) (x : Pd)
 | ld (d : List D4) (ty : Nat) (x : Pd)
 | st (ty : Nat) (x y : Pd)
 | gen (d : Option (Nat × List D4)) (sl : List (Nat × List D4)) (op : Op)
 | call (d : List D4) (f : FuncId) (args : List Pd)
 | calv (d : List D4) (x : Pd) (args : List Pd)
noncomputable def setV (d : List D4) (v : AV) (t : Tr) (ms : Ms) (k : Nat) (wl : List Nat) (f : Ft) : Rs := match lowV k v with
 | true => .ok (setT d v t) ms k wl f
 | false => .no
noncomputable def pureV (d : List D4) (r : Option (AV × Pr)) (t : Tr) (ms : Ms) (k : Nat) (wl : List Nat) : Rs := match r with
 | some (v, p) => (match prF p with
  | true => setV d v t ms (k + 1) wl .n
  | false => .no)
 | none => .no
def idxV (tt : TT) (ty : Nat) (v w : AV) : Option (AV × Pr) := match idxL tt ty v w with
 | some r => some r
 | none => idxA tt ty v w
def lenV (tt : TT) (ty : Nat) (v : AV) : Option AV := match lenL tt ty v with
 | some r => some r
 | none => lenA tt ty v
noncomputable def nthF (l : List C) : Nat → Option C := List.rec (motive := fun _ => Nat → Option C) (fun _ => none) (fun c _ ih n => Nat.rec (motive := fun _ => Option C) (some c) (fun m _ => ih m) n) l
noncomputable def dropF (n : Nat) : List C → List C := Nat.rec (motive := fun _ => List C → List C) (fun l => l) (fun _ ih l => List.rec (motive := fun _ => List C) [] (fun _ r _ => ih r) l) n
def consO (c : C) : Option (List C) → Option (List C)
 | some r => some (c :: r)
 | none => none
noncomputable def takeF (n : Nat) : List C → Option (List C) := Nat.rec (motive := fun _ => List C → Option (List C)) (fun _ => some []) (fun _ ih l => List.rec (motive := fun _ => Option (List C)) none (fun c r _ => consO c (ih r)) l) n
noncomputable def putO (us : List C) : List C → Option (List C) := List.rec (motive := fun _ => List C → Option (List C)) (fun l => some l) (fun u _ ih l => List.rec (motive := fun _ => Option (List C)) none (fun _ r _ => consO u (ih r)) l) us
noncomputable def ovF (us : List C) (off : Nat) : List C → Option (List C) := Nat.rec (motive := fun _ => List C → Option (List C)) (putO us) (fun _ ih l => List.rec (motive := fun _ => Option (List C)) none (fun c r _ => consO c (ih r)) l) off
theorem nthF_eq : ∀ (l : List C) (n : Nat), nthF l n = l[n]?
 | [], n => by simp [nthF]
 | c :: r, 0 => rfl
 | c :: r, n + 1 => by
  show nthF r n = _
  rw [nthF_eq r n, List.getElem?_cons_succ]
theorem dropF_eq : ∀ (n : Nat) (l : List C), dropF n l = l.drop n
 | 0, l => rfl
 | n + 1, [] => rfl
 | n + 1, c :: r => dropF_eq n r
theorem consO_some {c : C} {o : Option (List C)} {x : List C} (h : consO c o = some x) : ∃ r, o = some r ∧ x = c :: r := by
 cases o with
 | none => cases h
 | some r => cases h; exact ⟨r, rfl, rfl⟩
theorem takeF_eq : ∀ (n : Nat) (l x : List C), takeF n l = some x → n ≤ l.length ∧ x = l.take n
 | 0, l, x, h => by cases h; exact ⟨Nat.zero_le _, rfl⟩
 | n + 1, [], x, h => by cases h
 | n + 1, c :: r, x, h => by
  obtain ⟨y, hy, rfl⟩ := consO_some (show consO c (takeF n r) = some x from h)
  let ⟨h1, h2⟩ := takeF_eq n r y hy
  exact ⟨by simpa using h1, by simp [h2]⟩
theorem putO_eq : ∀ (us l x : List C), putO us l = some x → us.length ≤ l.length ∧ x = us ++ l.drop us.length
 | [], l, x, h => by cases h; exact ⟨Nat.zero_le _, rfl⟩
 | u :: us, [], x, h => by cases h
 | u :: us, c :: r, x, h => by
  obtain ⟨y, hy, rfl⟩ := consO_some (show consO u (putO us r) = some x from h)
  let ⟨h1, h2⟩ := putO_eq us r y hy
  exact ⟨by simpa using h1, by simp [h2]⟩
theorem ovF_eq (us : List C) : ∀ (off : Nat) (l x : List C), ovF us off l = some x → off + us.length ≤ l.length ∧ x = over l us off
 | 0, l, x, h => by
  let ⟨h1, h2⟩ := putO_eq us l x h
  exact ⟨by omega, by simp [over, h2]⟩
 | off + 1, [], x, h => by cases h
 | off + 1, c :: r, x, h => by
  obtain ⟨y, hy, rfl⟩ := consO_some (show consO c (ovF us off r) = some x from h)
  let ⟨h1, h2⟩ := ovF_eq us off r y hy
  refine ⟨by simp; omega, ?_⟩
  simp [over, h2, show off + 1 + us.length = off + us.length + 1 by omega]
noncomputable def partF (cs : List C) (off sz : Nat) (ag : Bool) : Option AV := match ag with
 | true => (match takeF sz (dropF off cs) with
  | some x => some (.a x)
  | none => none)
 | false => (match nthF cs off with
  | some c => some (.c c)
  | none => none)
theorem partF_eq {cs : List C} {off sz : Nat} {ag : Bool} {x : AV} (h : partF cs off sz ag = some x) (hz : sz = 0 → off ≤ cs.length) : partA cs off sz ag = some x := by
 unfold partF at h
 unfold partA
 split at h
 ·split at h
  ·rename_i y hy
   cases h
   let ⟨h1, h2⟩ := takeF_eq _ _ _ hy
   rw [dropF_eq] at h1 h2
   rw [if_pos rfl, if_pos (by simp at h1; by_cases hs : sz = 0; have := hz hs; omega; omega), h2]
  ·cases h
 ·split at h
  ·rename_i c hc
   cases h
   rw [nthF_eq] at hc
   simp [hc]
  ·cases h
noncomputable def ldF (tt : TT) (ms : Ms) (ty : Nat) (v : AV) : Option (AV × List Nat) := match tySz tt ty with
 | some (0, _) => none
 | some (sz, ag) => (match v with
  | .c (.P id off) => (match lookS id ms with
   | some (.box _ _ cs) => (match partF cs off sz ag with
    | some y => some (y, [id])
    | none => none)
   | some (.fz _ cs) => (match partF cs off sz ag with
    | some y => some (y, [id])
    | none => none)
   | _ => none)
  | .c (.E T e off) => (match partF (av T e) off sz ag with
   | some y => some (y, [])
   | none => none)
  | _ => none)
 | none => none
def okA : List C → Bool
 | [] => true
 | c :: r => match okC c with
  | true => okA r
  | false => false
theorem okA_eq : ∀ {l : List C}, okA l = true → l.all okC = true
 | [], _ => rfl
 | c :: r, h => by
  simp only [okA] at h
  split at h
  ·rename_i h1; simp [h1, okA_eq h]
  ·cases h
noncomputable def stF1 (id off sz : Nat) (us : List C) : Option Blk → Option (Nat × Blk × List C)
 | some (.box E bz cs) => (match Nat.beq us.length sz && okA us with
  | true => (match ovF us off cs with
   | some x => some (id, .box E bz x, us)
   | none => none)
  | false => none)
 | _ => none
noncomputable def mapX (ms : Ms) : AV → Option Nat
 | .c (.X j) => (match lookS j ms with
  | some (.mp _ _ _) => some j
  | _ => none)
 | _ => none
noncomputable def stM (id off sz : Nat) (us : List C) (v : AV) (ms : Ms) : Option (Nat × Blk × List C × List Nat) := match Nat.beq sz 1, mapX ms v, lookS id ms with
 | true, some j, some (.box E bz cs) => (match ovF us off cs with
  | some x => some (id, .box E bz x, us, [j])
  | none => none)
 | _, _, _ => none
noncomputable def stF (tt : TT) (ms : Ms) (ty : Nat) (x v : AV) : Option (Nat × Blk × List C × List Nat) := match tySz tt ty, x, cellsAV v with
 | some (sz, _), .c (.P id off), some us => (match stF1 id off sz us (lookS id ms) with
  | some (i, b, u) => some (i, b, u, [])
  | none => stM id off sz us v ms)
 | _, _, _ => none
def logW (ke id : Nat) (wl : List Nat) : List Nat := match Nat.blt id ke with
 | true => id :: wl
 | false => wl
def mergeW (ke : Nat) (wlc wl : List Nat) : List Nat := match wlc with
 | [] => wl
 | _ => wlc.filter (fun id => Nat.blt id ke) ++ wl
noncomputable def lowM (k : Nat) : List (List C × List C) → Bool
 | [] => true
 | x :: r => match lowL k x.1 with
  | true => (match lowL k x.2 with
   | true => lowM k r
   | false => false)
  | false => false
theorem lowM_ok {k : Nat} : ∀ {xs : List (List C × List C)}, lowM k xs = true → ∀ id ∈ midsM xs, id < k
 | [], _, id, hid => by simp [midsM] at hid
 | x :: r, h, id, hid => by
  simp only [lowM] at h
  split at h
  ·rename_i h1
   split at h
   ·rename_i h2
    simp only [midsM, List.mem_append] at hid
    rcases hid with hid | hid | hid
    ·exact lowL_ok h1 id hid
    ·exact lowL_ok h2 id hid
    ·exact lowM_ok h id hid
   ·cases h
  ·cases h
noncomputable def lowB (k : Nat) : Blk → Bool
 | .box _ _ cs => lowL k cs
 | .vec _ _ _ => true
 | .clo _ a b => match lowT k a with
  | true => lowT k b
  | false => false
 | .fz _ cs => lowL k cs
 | .mp _ _ xs => lowM k xs
 | .it m _ _ => Nat.blt m k
 | .itn m _ _ => Nat.blt m k
theorem lowB_ok {k : Nat} {b : Blk} (h : lowB k b = true) : ∀ id ∈ b.mids, id < k := by
 cases b with
 | box E z cs => exact lowL_ok h
 | vec E T xs => simp [Blk.mids]
 | clo f a b =>
  simp only [lowB] at h
  split at h
  ·rename_i h1
   intro id hid
   simp only [Blk.mids, List.mem_append] at hid
   exact hid.elim (lowT_ok h1 id) (lowT_ok h id)
  ·cases h
 | fz E cs => exact lowL_ok h
 | mp ka va xs => exact lowM_ok h
 | it m n seen => simpa [Blk.mids, lowB] using h
 | itn m n seen => simpa [Blk.mids, lowB] using h
noncomputable def mini (sl : List (Nat × List D4)) (t : Tr) : List (Nat × AV) := List.rec (motive := fun _ => List (Nat × AV)) []
 (fun x _ ih => match getT x.2 t with
  | some v => (x.1, v) :: ih
  | none => ih) sl
def midsSl : List (Nat × AV) → List Nat
 | [] => []
 | (_, v) :: r => v.mids ++ midsSl r
noncomputable def miniM (ids : List Nat) (ms : Ms) : Mem := List.rec (motive := fun _ => Mem) []
 (fun id _ ih => match lookS id ms with
  | some b => (id, b) :: ih
  | none => ih) ids
def cal0 : CallF := fun _ _ _ _ => none
def mK : List Key → List Nat
 | [] => []
 | .m id :: r => id :: mK r
 | .s _ :: r => mK r
def wS (d : Option Nat) : List Key → Bool
 | [] => true
 | .m _ :: r => wS d r
 | .s j :: r => (match d with
  | some d => (match Nat.beq d j with
   | true => wS (some d) r
   | false => false)
  | none => false)
def memN (j : Nat) : List Nat → Bool
 | [] => false
 | x :: r => match Nat.beq x j with
  | true => true
  | false => memN j r
def rS (sl : List Nat) : List Key → Bool
 | [] => true
 | .m _ :: r => rS sl r
 | .s j :: r => (match memN j sl with
  | true => rS sl r
  | false => false)
noncomputable def applyW (k ke : Nat) (mm mem' : Mem) (ids : List Nat) : Ms → List Nat → Option (Ms × List Nat) := List.rec (motive := fun _ => Ms → List Nat → Option (Ms × List Nat))
 (fun ms wl => some (ms, wl))
 (fun id _ ih ms wl => match lookF id mem' with
  | some b => (match lowB (k + 1) b with
   | true => (match Nat.beq id k with
    | true => ih (consS k b ms) wl
    | false => (match lookS id ms with
     | some _ => ih (putS id b ms) (logW ke id wl)
     | none => none))
   | false => none)
  | none => (match lookF id mm with
   | some _ => ih (delS id ms) (logW ke id wl)
   | none => none)) ids
noncomputable def genR (tt : TT) (n ke : Nat) (d : Option (Nat × List D4)) (sl : List (Nat × List D4)) (op : Op) (t : Tr) (ms : Ms) (k : Nat) (wl : List Nat) (ms0 : List (Nat × AV)) (mm : Mem) : Rs :=
 match stepU cal0 tt n k (d.map (·.1)) op ⟨ms0, mm, 0, []⟩ with
 | some (st', k', ks) => (match Nat.beq k' (k + 1) && wS (d.map (·.1)) ks.2 && rS (sl.map (·.1)) ks.1 with
  | true => (match applyW k ke mm st'.mem (mK ks.2) ms wl with
   | some (ms', wl') => (match d with
    | none => .ok t ms' (k + 1) wl' (.m (mK ks.1) (mK ks.2))
    | some (dn, dp) => (match lookA dn st'.sl with
     | some v => setV dp v t ms' (k + 1) wl' (.m (mK ks.1) (mK ks.2))
     | none => .no))
   | none => .no)
  | false => .no)
 | none => (match d with
  | some (_, dp) => pureV dp (evalM tt ⟨ms0, mm, 0, []⟩ op) t ms k wl
  | none => .no)
noncomputable def callR (cal : CallG) (ke : Nat) (d : List D4) (f : FuncId) (vs : List AV) (t : Tr) (ms : Ms) (k : Nat) (wl : List Nat) : Rs := match cal f vs ms k with
 | .ok r ms' k' wlc => setV d r t ms' k' (mergeW ke wlc wl) (.c k k' wlc)
 | .no => .no
noncomputable def stMv (d : List D4) (x : Pd) (t : Tr) (ms : Ms) (k : Nat) (wl : List Nat) : Rs := match evP t x with
 | some v => setV d v t ms (k + 1) wl .n
 | none => .no
noncomputable def stBin3 (tt : TT) (d : List D4) (op : BinOp) (ty : Nat) (a b : C) (t : Tr) (ms : Ms) (k : Nat) (wl : List Nat) : Rs := match nilT tt op ty (.c a) (.c b) with
 | some u => setV d u t ms (k + 1) wl .n
 | none => .no
noncomputable def stBin2 (d : List D4) (c : C) (p : Pr) (t : Tr) (ms : Ms) (k : Nat) (wl : List Nat) : Rs := match prF p with
 | true => .ok (setT d (.c c) t) ms (k + 1) wl .n
 | false => .no
noncomputable def stBin1 (tt : TT) (d : List D4) (op : BinOp) (ty : Nat) (a b : C) (t : Tr) (ms : Ms) (k : Nat) (wl : List Nat) : Rs := match binT tt op ty a b with
 | some (c, p) => stBin2 d c p t ms k wl
 | none => stBin3 tt d op ty a b t ms k wl
noncomputable def stBin (tt : TT) (d : List D4) (op : BinOp) (ty : Nat) (x y : Pd) (t : Tr) (ms : Ms) (k : Nat) (wl : List Nat) : Rs := match evP t x, evP t y with
 | some (.c a), some (.c b) => stBin1 tt d op ty a b t ms k wl
 | _, _ => .no
noncomputable def stIdx (tt : TT) (d : List D4) (ty : Nat) (x i : Pd) (t : Tr) (ms : Ms) (k : Nat) (wl : List Nat) : Rs := match evP t x, evP t i with
 | some v, some w => pureV d (idxV tt ty v w) t ms k wl
 | _, _ => .no
noncomputable def stFad (tt : TT) (d : List D4) (ty : Nat) (x : Pd) (f : Nat) (t : Tr) (ms : Ms) (k : Nat) (wl : List Nat) : Rs := match evP t x with
 | some v => (match faddrA tt ty v f with
  | some u => setV d u t ms (k + 1) wl .n
  | none => .no)
 | none => .no
noncomputable def stExt (d : List D4) (x : Pd) (j : Nat) (t : Tr) (ms : Ms) (k : Nat) (wl : List Nat) : Rs := match evP t x with
 | some v => (match exA v j with
  | some u => setV d u t ms (k + 1) wl .n
  | none => .no)
 | none => .no
noncomputable def stLen (tt : TT) (d : List D4) (ty : Nat) (x : Pd) (t : Tr) (ms : Ms) (k : Nat) (wl : List Nat) : Rs := match evP t x with
 | some v => (match lenV tt ty v with
  | some u => setV d u t ms (k + 1) wl .n
  | none => .no)
 | none => .no
noncomputable def stLd (tt : TT) (d : List D4) (ty : Nat) (x : Pd) (t : Tr) (ms : Ms) (k : Nat) (wl : List Nat) : Rs := match evP t x with
 | some v => (match ldF tt ms ty v with
  | some (u, ids) => setV d u t ms (k + 1) wl (.m ids [])
  | none => .no)
 | none => .no
noncomputable def stSt1 (ke id : Nat) (b : Blk) (us : List C) (rs : List Nat) (t : Tr) (ms : Ms) (k : Nat) (wl : List Nat) : Rs := match lowL k us with
 | true => .ok t (putS id b ms) (k + 1) (logW ke id wl) (.m (id :: rs) [id])
 | false => .no
noncomputable def stSt (tt : TT) (ke : Nat) (ty : Nat) (x y : Pd) (t : Tr) (ms : Ms) (k : Nat) (wl : List Nat) : Rs := match evP t x, evP t y with
 | some v, some w => (match stF tt ms ty v w with
  | some (id, b, us, rs) => stSt1 ke id b us rs t ms k wl
  | none => .no)
 | _, _ => .no
noncomputable def stGen (tt : TT) (n ke : Nat) (d : Option (Nat × List D4)) (sl : List (Nat × List D4)) (op : Op) (t : Tr) (ms : Ms) (k : Nat) (wl : List Nat) : Rs := match mini sl t with
 | ms0 => genR tt n ke d sl op t ms k wl ms0 (miniM (midsSl ms0) ms)
noncomputable def stCall (cal : CallG) (ke : Nat) (d : List D4) (f : FuncId) (args : List Pd) (t : Tr) (ms : Ms) (k : Nat) (wl : List Nat) : Rs := match evPs t args with
 | some vs => callR cal ke d f vs t ms k wl
 | none => .no
noncomputable def stCalv (cal : CallG) (ke : Nat) (d : List D4) (x : Pd) (args : List Pd) (t : Tr) (ms : Ms) (k : Nat) (wl : List Nat) : Rs := match evPs t args with
 | some vs => (match evP t x with
  | some (.c (.V (.func (.func f) ⟨[]⟩ ⟨[]⟩))) => callR cal ke d f vs t ms k wl
  | some (.c (.X id)) => (match lookS id ms with
   | some (.clo f first caps) => (match unSs first, unSs caps with
    | some us, some ws => callR cal ke d f (us ++ (vs ++ ws)) t ms k wl
    | _, _ => .no)
   | _ => .no)
  | _ => .no)
 | none => .no
noncomputable def stepI (cal : CallG) (tt : TT) (n ke : Nat) (i : Ins) : Tr → Ms → Nat → List Nat → Rs := match i with
 | .mv d x => stMv d x
 | .bin d op ty x y => stBin tt d op ty x y
 | .idx d ty x i => stIdx tt d ty x i
 | .fad d ty x f => stFad tt d ty x f
 | .ext d x j => stExt d x j
 | .len d ty x => stLen tt d ty x
 | .ld d ty x => stLd tt d ty x
 | .st ty x y => stSt tt ke ty x y
 | .gen d sl op => stGen tt n ke d sl op
 | .call d f args => stCall cal ke d f args
 | .calv d x args => stCalv cal ke d x args
structure GI where
 g : Option (List D4 × Bool)
 d : Option (List D4)
 i : Ins
noncomputable def stepGI (cal : CallG) (tt : TT) (n ke : Nat) (x : GI) (t : Tr) (ms : Ms) (k : Nat) (wl : List Nat) : Rs := match x.g with
 | none => stepI cal tt n ke x.i t ms k wl
 | some (gp, want) => (match getT gp t with
  | some (.c (.B b)) => (match b == want with
   | true => stepI cal tt n ke x.i t ms k wl
   | false => (match x.d with
    | some d => .ok (delT d t) ms (k + 1) wl .n
    | none => .no))
  | _ => .no)
noncomputable def regT (cal : CallG) (tt : TT) (n ke : Nat) (l : List GI) : Tr → Ms → Nat → List Nat → Rs := List.rec (motive := fun _ => Tr → Ms → Nat → List Nat → Rs)
 (fun t ms k wl => .ok t ms k wl .n)
 (fun x _ ih t ms k wl => match stepGI cal tt n ke x t ms k wl with
  | .ok t' ms' k' wl' _ => ih t' ms' k' wl'
  | .no => .no) l
inductive Rd where
 | no
 | ok (t : Tr) (ms : Ms) (k : Nat) (wl : List Nat) (fs : List Ft)
noncomputable def regD (cal : CallG) (tt : TT) (n ke : Nat) (l : List GI) : Tr → Ms → Nat → List Nat → List Ft → Rd := List.rec (motive := fun _ => Tr → Ms → Nat → List Nat → List Ft → Rd)
 (fun t ms k wl fs => .ok t ms k wl fs)
 (fun x _ ih t ms k wl fs => match stepGI cal tt n ke x t ms k wl with
  | .ok t' ms' k' wl' f => ih t' ms' k' wl' (f :: fs)
  | .no => .no) l
def meetN : List Nat → List Nat → Bool
 | [], _ => false
 | x :: r, l => match memN x l with
  | true => true
  | false => meetN r l
def anyIn (k k' : Nat) (wl : List Nat) : List Nat → Bool
 | [] => false
 | x :: r => match memN x wl with
  | true => true
  | false => (match Nat.ble k x && Nat.blt x k' with
   | true => true
   | false => anyIn k k' wl r)
def anyLt (k : Nat) : List Nat → Bool
 | [] => false
 | x :: r => match Nat.blt x k with
  | true => true
  | false => anyLt k r
def cfl : Ft → Ft → Bool
 | .n, _ => false
 | _, .n => false
 | .m r w, .m r' w' => meetN w w' || meetN w r' || meetN r w'
 | .m r w, .c k k' wl => !w.isEmpty || anyIn k k' wl r
 | .c k k' wl, .m r w => anyLt k w || anyLt k' w || anyIn k k' wl r
 | .c _ _ _, .c _ _ _ => true
def pairOk (fs : List Ft) : List (Nat × Nat) → Bool
 | [] => true
 | (i, j) :: r => match cfl (fs.getD i .n) (fs.getD j .n) with
  | true => false
  | false => pairOk fs r
def opdsOf : Op → List Operand
 | .call ⟨.value cf, args, _⟩ => cf :: args.toList
 | op => op.operands.toList
def slotsOf : List Operand → List Nat
 | [] => []
 | .tmp j :: r => j :: slotsOf r
 | _ :: r => slotsOf r
def slP (dep n : Nat) : List Nat → Option (List (Nat × List D4))
 | [] => some []
 | j :: r => (match Nat.blt j n, slP dep n r with
  | true, some l => some ((j, pth dep j) :: l)
  | _, _ => none)
def compGen (dep n : Nat) (d : Option Nat) (op : Op) : Option Ins := match slP dep n (slotsOf op.operands.toList) with
 | some sl => (match d with
  | some d => some (.gen (some (d, pth dep d)) sl op)
  | none => some (.gen none sl op))
 | none => none
def compO (dep n : Nat) (d : Option Nat) (op : Op) : Option Ins := match d with
 | none => (match op with
  | .store t x y => (match compP dep n x, compP dep n y with
   | some p, some q => some (.st t p q)
   | _, _ => none)
  | op => compGen dep n none op)
 | some d => (match Nat.blt d n with
  | false => none
  | true => (match op with
   | .move x => (match compP dep n x with
    | some p => some (.mv (pth dep d) p)
    | none => none)
   | .assign x => (match compP dep n x with
    | some p => some (.mv (pth dep d) p)
    | none => none)
   | .binOp o t x y _ => (match compP dep n x, compP dep n y with
    | some p, some q => some (.bin (pth dep d) o t p q)
    | _, _ => none)
   | .indexAddr t x y => (match compP dep n x, compP dep n y with
    | some p, some q => some (.idx (pth dep d) t p q)
    | _, _ => none)
   | .fieldAddr t x f => (match compP dep n x with
    | some p => some (.fad (pth dep d) t p f)
    | none => none)
   | .extract x j => (match compP dep n x with
    | some p => some (.ext (pth dep d) p j)
    | none => none)
   | .load t x => (match compP dep n x with
    | some p => some (.ld (pth dep d) t p)
    | none => none)
   | .call ⟨.value (.func f), args, _⟩ => (match compPs dep n args.toList with
    | some ps => some (.call (pth dep d) f ps)
    | none => none)
   | .call ⟨.value (.tmp j), args, _⟩ => (match compP dep n (.tmp j), compPs dep n args.toList with
    | some p, some ps => some (.calv (pth dep d) p ps)
    | _, _ => none)
   | .call ⟨.builtin .len, ⟨[x]⟩, ⟨[t]⟩⟩ => (match compP dep n x with
    | some p => some (.len (pth dep d) t p)
    | none => none)
   | op => compGen dep n (some d) op))
def compG (dep n : Nat) (opsL : List Oper) (o : Oper) : Option GI := match compO dep n o.dst o.op with
 | some i => (match o.guard with
  | none => some ⟨none, none, i⟩
  | some (j, want) => (match gslot opsL j with
   | some tg => (match Nat.blt tg n with
    | true => (match o.dst with
     | some d => some ⟨some (pth dep tg, want), some (pth dep d), i⟩
     | none => some ⟨some (pth dep tg, want), none, i⟩)
    | false => none)
   | none => none))
 | none => none
def compR (dep n : Nat) (opsL : List Oper) : List Oper → Option (List GI)
 | [] => some []
 | o :: os => (match compG dep n opsL o, compR dep n opsL os with
  | some g, some gs => some (g :: gs)
  | _, _ => none)
def slotK (opsL : List Oper) (o : Oper) : Ks :=
 ((match o.guard with
  | none => okeys (opdsOf o.op)
  | some (j, _) => (match gslot opsL j with
   | some tg => .s tg :: okeys (opdsOf o.op)
   | none => okeys (opdsOf o.op))),
  match o.dst with
  | some d => [.s d]
  | none => [])
def touches (o : Oper) : Bool := match o.dst with
 | none => true
 | some _ => (match o.op with
  | .move _ => false
  | .assign _ => false
  | .binOp _ _ _ _ _ => false
  | .indexAddr _ _ _ => false
  | .fieldAddr _ _ _ => false
  | .extract _ _ => false
  | _ => true)
def pairsI (m j : Nat) : List Oper → Nat → List (Nat × Nat)
 | [], _ => []
 | o :: os, i => if i < j then (if touches o && !m.testBit i then (i, j) :: pairsI m j os (i + 1) else pairsI m j os (i + 1)) else []
def pairsA (opsL : List Oper) : List Nat → List Oper → Nat → List (Nat × Nat)
 | m :: ms, o :: os, j => if touches o then pairsI m j opsL 0 ++ pairsA opsL ms os (j + 1) else pairsA opsL ms os (j + 1)
 | _, _, _ => []
def compReg (dep n : Nat) (ops : List Oper) (draw : Bool) : Option (List GI × Option (List (Nat × Nat))) := match compR dep n ops ops with
 | some gs => (match draw with
  | false => some (gs, none)
  | true => if ordB ops (ops.map (slotK ops)) = true then some (gs, some (pairsA ops (masks ops []) ops 0)) else none)
 | none => none
def eqLs {α β : Type} (f : α → β → Bool) : List α → List β → Bool
 | [], [] => true
 | x :: xs, y :: ys => f x y && eqLs f xs ys
 | _, _ => false
def eqD.eqT : ET → ET → Bool
 | .int k, .int k' => decide (k = k')
 | .bool, .bool => true
 | .z, .z => true
 | .q, .q => true
 | .sl T, .sl T' => eqD.eqT T T'
 | .pr A B, .pr A' B' => eqD.eqT A A' && eqD.eqT B B'
 | _, _ => false
def eqD : (T T' : ET) → T.den → T'.den → Bool
 | .int k, .int k', (n : Int), (m : Int) => decide (k = k') && decide (n = m)
 | .bool, .bool, (a : Bool), (b : Bool) => a == b
 | .z, .z, (n : Int), (m : Int) => decide (n = m)
 | .q, .q, (a : Rat), (b : Rat) => decide (a.num = b.num) && decide (a.den = b.den)
 | .sl T, .sl T', (xs : List T.den), (ys : List T'.den) => eqD.eqT T T' && eqLs (fun x y => eqD T T' x y) xs ys
 | .pr A B, .pr A' B', x, y => eqD A A' x.1 y.1 && eqD B B' x.2 y.2
 | _, _, _, _ => false
theorem eqT_eq : ∀ {T T' : ET}, eqD.eqT T T' = true → T = T' := by
 intro T
 induction T with
 | int k => intro T' h; cases T' <;> simp [eqD.eqT] at h; rw [h]
 | bool => intro T' h; cases T' <;> simp [eqD.eqT] at h; rfl
 | z => intro T' h; cases T' <;> simp [eqD.eqT] at h; rfl
 | q => intro T' h; cases T' <;> simp [eqD.eqT] at h; rfl
 | sl T ih => intro T' h; cases T' <;> simp [eqD.eqT] at h; rw [ih h]
 | pr A B iha ihb => intro T' h; cases T' <;> simp [eqD.eqT] at h; rw [iha h.1, ihb h.2]
theorem eqLs_eq {α : Type} {f : α → α → Bool} (hf : ∀ x y, f x y = true → x = y) : ∀ {xs ys : List α}, eqLs f xs ys = true → xs = ys
 | [], [], _ => rfl
 | x :: xs, y :: ys, h => by
  simp only [eqLs, Bool.and_eq_true] at h
  rw [hf _ _ h.1, eqLs_eq hf h.2]
 | [], _ :: _, h => by simp [eqLs] at h
 | _ :: _, [], h => by simp [eqLs] at h
theorem eqD_eq : ∀ (T : ET) (x y : T.den), eqD T T x y = true → x = y := by
 intro T
 induction T with
 | int k => intro x y h; simp only [eqD, Bool.and_eq_true, decide_eq_true_eq] at h; exact h.2
 | bool => intro x y h; exact eq_of_beq h
 | z => intro x y h; exact of_decide_eq_true h
 | q => intro x y h; simp only [eqD, Bool.and_eq_true, decide_eq_true_eq] at h; exact Rat.ext h.1 h.2
 | sl T ih => intro x y h; simp only [eqD, Bool.and_eq_true] at h; exact eqLs_eq ih h.2
 | pr A B iha ihb => intro x y h; simp only [eqD, Bool.and_eq_true] at h; exact Prod.ext (iha _ _ h.1) (ihb _ _ h.2)
def matLs {α : Type} (f : α → List C → Bool) (n : Nat) : List C → List α → Bool
 | _, [] => true
 | cs, x :: xs => f x (cs.take n) && matLs f n (cs.drop n) xs
def capOk (len : Nat) : Option Nat → Bool
 | none => true
 | some c => Nat.ble len c
def matSl (lk : Nat → Option Blk) (T : ET) (f : T.den → List C → Bool) (c : C) (xs : List T.den) : Bool :=
 match c with
 | .S T' ys => eqD (.sl T') (.sl T) ys xs
 | .V (.slice none 0 0) => xs.isEmpty
 | .L id off len cap => Nat.beq len xs.length && Nat.ble (len * T.n) 140737488355328 && capOk len cap && (match lk id with
  | some (.box _ _ cs) => matLs f T.n (cs.drop off) xs
  | some (.fz _ cs) => matLs f T.n (cs.drop off) xs
  | _ => false)
 | _ => false
def matZ (lk : Nat → Option Blk) (z : Int) : List C → Bool
 | [.B s, c] => (s == zneg z) && matSl lk (.int .u32) (fun n cs => match cs with | [.I .u32 m] => decide (m = n) | _ => false) c (zmag z)
 | _ => false
def matD (lk : Nat → Option Blk) : (T : ET) → T.den → List C → Bool
 | .int k, n, cs => (match cs with | [.I k' m] => decide (k' = k) && decide (m = n) | _ => false)
 | .bool, b, cs => (match cs with | [.B b'] => b' == b | _ => false)
 | .z, z, cs => matZ lk z cs
 | .q, r, cs => matZ lk r.num (cs.take 2) && matZ lk (r.den : Int) (cs.drop 2)
 | .sl T, xs, cs => (match cs with | [c] => matSl lk T (fun x cs => matD lk T x cs) c xs | _ => false)
 | .pr A B, x, cs => matD lk A x.1 (cs.take A.n) && matD lk B x.2 (cs.drop A.n)
def matC (lk : Nat → Option Blk) : C → C → Bool
 | .B b, .B b' => b == b'
 | .I k n, .I k' n' => decide (k = k') && decide (n = n')
 | c, .S T xs => matSl lk T (matD lk T) c xs
 | _, .any => true
 | _, _ => false
def matCs (lk : Nat → Option Blk) : List C → List C → Bool
 | [], [] => true
 | c :: cs, d :: ds => matC lk c d && matCs lk cs ds
 | _, _ => false
def matT (lk : Nat → Option Blk) : List (Bool × List C) → List (Bool × List C) → Bool
 | [], [] => true
 | (b, cs) :: r, (b', ds) :: r' => (b == b') && matCs lk cs ds && matT lk r r'
 | _, _ => false
def matA (lk : Nat → Option Blk) : AV → AV → Bool
 | .c x, .c y => matC lk x y
 | .a cs, .a ds => matCs lk cs ds
 | .t ss, .t rs => matT lk ss rs
 | _, _ => false
section
variable {F : Fix} {g : Gh} {W : World} {lk : Nat → Option Blk}
structure FzOk (HF : FH) (g : Gh) (W : World) (lk : Nat → Option Blk) : Prop where
 le : FLe g.H HF
 blk : ∀ id E cs, ((∃ sz, lk id = some (.box E sz cs)) ∨ lk id = some (.fz E cs)) → ∃ b, ∃ vs rest : List Value, El.blk (g.γ id) = some b ∧ (∀ o, HF b o = W.cell? ⟨b, o, none⟩) ∧ W.heap[b]? = some (.cells (vs ++ rest).toArray E (0, 0)) ∧ RelL g cs vs
variable {HF : FH}
theorem matLs_rel {α : Type} {R : α → List Value → Prop} {f : α → List C → Bool} {n : Nat} (hf : ∀ x cs vs, f x cs = true → RelL g cs vs → R x vs) (hn : ∀ x vs, R x vs → vs.length = n) : ∀ (xs : List α) {cs : List C} {vs : List Value}, matLs f n cs xs = true → RelL g cs vs → ∀ i (h : i < xs.length), R xs[i] ((vs.drop (i * n)).take n)
 | [], _, _, _, _, i, h => by simp at h
 | x :: xs, cs, vs, hm, hr, i, h => by
  simp only [matLs, Bool.and_eq_true] at hm
  cases i with
  | zero => simp only [Nat.zero_mul, List.drop_zero, List.getElem_cons_zero]; exact hf _ _ _ hm.1 (hr.take n)
  | succ i =>
   have := matLs_rel hf hn xs hm.2 (hr.drop n) i (by simpa using h)
   rw [List.drop_drop, show n + i * n = (i + 1) * n by rw [Nat.add_mul]; omega] at this
   simpa using this
theorem matSl_rel (ok : FzOk HF g W lk) {T : ET} {f : T.den → List C → Bool} (hf : ∀ x cs vs, f x cs = true → RelL g cs vs → RelD HF T x vs) {c : C} {xs : List T.den} {v : Value} (hm : matSl lk T f c xs = true) (hr : RelC g c v) : RelSl (RelD HF T) T.n HF xs v := by
 unfold matSl at hm
 split at hm
 ·rename_i T' ys
  have hT : T' = T := by simp only [eqD, Bool.and_eq_true] at hm; exact eqT_eq hm.1
  subst hT
  have := eqD_eq (.sl T') ys xs hm
  subst this
  exact RelSl.mono hr ok.le (fun x cs => RelD.mono ok.le T' x cs)
 ·have : xs = [] := List.isEmpty_iff.1 hm
  subst this
  simp only [RelC] at hr
  exact ⟨none, 0, hr, Nat.le_refl _, by simp, .inl rfl⟩
 ·rename_i id off len cap
  simp only [Bool.and_eq_true] at hm
  let ⟨⟨⟨h1, h2⟩, h3⟩, h4⟩ := hm
  have h1 := Nat.eq_of_beq_eq_true h1
  have h2 := Nat.le_of_ble_eq_true h2
  subst h1
  have h4 : ∃ E cs, ((∃ sz, lk id = some (.box E sz cs)) ∨ lk id = some (.fz E cs)) ∧ matLs f T.n (cs.drop off) xs = true := by
   split at h4
   ·rename_i E sz cs hl; exact ⟨E, cs, .inl ⟨sz, hl⟩, h4⟩
   ·rename_i E cs hl; exact ⟨E, cs, .inr hl, h4⟩
   ·cases h4
  ·let ⟨E, cs, hl, h4⟩ := h4
   let ⟨b, vs, rest, hb, hs, hh, hrl⟩ := ok.blk id E cs hl
   have key := matLs_rel (R := RelD HF T) hf (fun x vs h => RelD.length T x vs h) xs h4 (hrl.drop off)
   have hv : ∃ c, v = .slice (some ⟨b, off, none⟩) xs.length c ∧ xs.length ≤ c := by
    cases cap with
    | none =>
     let ⟨e0, b', c, e1, e2, e3⟩ := hr
     rw [e1] at hb
     simp only [El.blk, Option.some.injEq] at hb
     subst hb
     exact ⟨c, by rw [e0]; exact e2, e3⟩
    | some c =>
     let ⟨b', e1, e2⟩ := hr
     rw [hb] at e1
     cases e1
     exact ⟨c, e2, Nat.le_of_ble_eq_true h3⟩
   let ⟨c, hv, hc⟩ := hv
   refine ⟨some ⟨b, off, none⟩, c, hv, hc, h2, ?_⟩
   by_cases hx : xs = []
   ·exact .inl hx
   ·refine .inr ⟨b, off, rfl, fun i hi => ⟨_, RelD.length T _ _ (key i hi), key i hi, fun j hj => ?_⟩⟩
    rw [hs]
    simp only [List.length_take, List.length_drop] at hj
    simp only [List.getElem_take, List.getElem_drop]
    rw [show off + i * T.n + j = off + (i * T.n + j) by omega]
    simp only [World.cell?, hh, List.getElem?_toArray]
    rw [List.getElem?_append_left (by omega)]
    exact List.getElem?_eq_getElem (by omega)
 ·cases hm
theorem matZ_rel (ok : FzOk HF g W lk) {z : Int} {cs : List C} {vs : List Value} (hm : matZ lk z cs = true) (hr : RelL g cs vs) : RelZ HF z vs := by
 unfold matZ at hm
 split at hm
 ·rename_i b c
  simp only [Bool.and_eq_true] at hm
  obtain ⟨v, r, rfl, h1, v', r', rfl, h2, h3⟩ := hr
  simp only [RelL] at h3
  simp only [RelC] at h1
  subst h3 h1
  rw [eq_of_beq hm.1]
  refine ⟨v', rfl, matSl_rel (T := .int .u32) ok ?_ hm.2 h2⟩
  intro x cs vs hf hrl
  split at hf
  ·obtain ⟨u, r, rfl, h1, h2⟩ := hrl
   simp only [RelL] at h2
   simp only [RelC] at h1
   subst h2 h1
   rw [of_decide_eq_true hf]; rfl
  ·cases hf
 ·cases hm
theorem matD_rel (ok : FzOk HF g W lk) : ∀ (T : ET) (x : T.den) (cs : List C) (vs : List Value), matD lk T x cs = true → RelL g cs vs → RelD HF T x vs := by
 intro T
 induction T with
 | int k =>
  intro x cs vs hm hr
  simp only [matD] at hm
  split at hm
  ·obtain ⟨u, r, rfl, h1, h2⟩ := hr
   simp only [RelL] at h2
   simp only [RelC] at h1
   simp only [Bool.and_eq_true, decide_eq_true_eq] at hm
   subst h2 h1
   rw [hm.1, hm.2]; rfl
  ·cases hm
 | bool =>
  intro x cs vs hm hr
  simp only [matD] at hm
  split at hm
  ·obtain ⟨u, r, rfl, h1, h2⟩ := hr
   simp only [RelL] at h2
   simp only [RelC] at h1
   subst h2 h1
   rw [eq_of_beq hm]; rfl
  ·cases hm
 | z => intro x cs vs hm hr; exact matZ_rel ok hm hr
 | q =>
  intro x cs vs hm hr
  simp only [matD, Bool.and_eq_true] at hm
  exact ⟨vs.take 2, vs.drop 2, (List.take_append_drop 2 vs).symm, matZ_rel ok hm.1 (hr.take 2), matZ_rel ok hm.2 (hr.drop 2)⟩
 | sl T ih =>
  intro x cs vs hm hr
  simp only [matD] at hm
  split at hm
  ·obtain ⟨u, r, rfl, h1, h2⟩ := hr
   simp only [RelL] at h2
   subst h2
   exact ⟨u, rfl, matSl_rel ok ih hm h1⟩
  ·cases hm
 | pr A B iha ihb =>
  intro x cs vs hm hr
  simp only [matD, Bool.and_eq_true] at hm
  exact ⟨vs.take A.n, vs.drop A.n, (List.take_append_drop _ vs).symm, iha _ _ _ hm.1 (hr.take _), ihb _ _ _ hm.2 (hr.drop _)⟩
theorem matC_rel (ok : FzOk HF g W lk) {c d : C} {v : Value} (hm : matC lk c d = true) (hr : RelC g c v) : RelC ⟨HF, noγ⟩ d v := by
 unfold matC at hm
 split at hm
 ·rw [← eq_of_beq hm]; exact hr
 ·simp only [Bool.and_eq_true, decide_eq_true_eq] at hm; rw [← hm.1, ← hm.2]; exact hr
 ·exact matSl_rel ok (matD_rel ok _) hm hr
 ·trivial
 ·cases hm
theorem matCs_rel (ok : FzOk HF g W lk) : ∀ {cs ds : List C} {vs : List Value}, matCs lk cs ds = true → RelL g cs vs → RelL ⟨HF, noγ⟩ ds vs
 | [], [], _, _, h => h
 | c :: cs, d :: ds, _, hm, h => by
  simp only [matCs, Bool.and_eq_true] at hm
  obtain ⟨v, r, rfl, h1, h2⟩ := h
  exact ⟨v, r, rfl, matC_rel ok hm.1 h1, matCs_rel ok hm.2 h2⟩
 | [], _ :: _, _, hm, _ => by simp [matCs] at hm
 | _ :: _, [], _, hm, _ => by simp [matCs] at hm
theorem matT_rel (ok : FzOk HF g W lk) : ∀ {ss rs : List (Bool × List C)} {vs : List Value}, matT lk ss rs = true → RelT g ss vs → RelT ⟨HF, noγ⟩ rs vs
 | [], [], _, _, h => h
 | (b, cs) :: ss, (b', ds) :: rs, _, hm, h => by
  simp only [matT, Bool.and_eq_true] at hm
  let ⟨⟨hb, hc⟩, ht⟩ := hm
  have hb := eq_of_beq hb
  subst hb
  obtain ⟨v, r, rfl, h1, h2⟩ := h
  refine ⟨v, r, rfl, ?_, matT_rel ok ht h2⟩
  cases b with
  | true => let ⟨us, e, h1⟩ := h1; exact ⟨us, e, matCs_rel ok hc h1⟩
  | false =>
   match cs, ds, hc, h1 with
   | [c], [d], hc, h1 => simp only [matCs, Bool.and_eq_true] at hc; exact matC_rel ok hc.1 h1
   | [c], [], hc, _ => simp [matCs] at hc
   | [c], _ :: _ :: _, hc, _ => simp [matCs] at hc
   | [], _, _, h1 => exact h1.elim
   | _ :: _ :: _, _, _, h1 => exact h1.elim
 | [], _ :: _, _, hm, _ => by simp [matT] at hm
 | _ :: _, [], _, hm, _ => by simp [matT] at hm
theorem matA_rel (ok : FzOk HF g W lk) {x y : AV} {v : Value} (hm : matA lk x y = true) (hr : RelV g x v) : RelV ⟨HF, noγ⟩ y v := by
 cases x <;> cases y <;> simp only [matA] at hm <;> try cases hm
 ·exact matC_rel ok hm hr
 ·let ⟨vs, e, h⟩ := hr; exact ⟨vs, e, matCs_rel ok hm h⟩
 ·let ⟨vs, e, h⟩ := hr; exact ⟨vs, e, matT_rel ok hm h⟩
end
def matVs (lk : Nat → Option Blk) : List AV → List AV → Bool
 | [], [] => true
 | x :: xs, y :: ys => matA lk x y && matVs lk xs ys
 | _, _ => false
theorem matVs_rel {lk : Nat → Option Blk} {HF : FH} {g : Gh} {W : World} (ok : FzOk HF g W lk) : ∀ {xs ys : List AV} {vs : List Value}, matVs lk xs ys = true → RelVs g xs vs → RelVs ⟨HF, noγ⟩ ys vs
 | [], [], _, _, h => h
 | x :: xs, y :: ys, _, hm, h => by
  simp only [matVs, Bool.and_eq_true] at hm
  obtain ⟨v, r, rfl, h1, h2⟩ := h
  exact ⟨v, r, rfl, matA_rel ok hm.1 h1, matVs_rel ok hm.2 h2⟩
 | [], _ :: _, _, hm, _ => by simp [matVs] at hm
 | _ :: _, [], _, hm, _ => by simp [matVs] at hm
theorem matVs_len {lk : Nat → Option Blk} : ∀ {xs ys : List AV}, matVs lk xs ys = true → ys.length = xs.length
 | [], [], _ => rfl
 | x :: xs, y :: ys, hm => by
  simp only [matVs, Bool.and_eq_true] at hm
  simp [matVs_len hm.2]
 | [], _ :: _, hm => by simp [matVs] at hm
 | _ :: _, [], hm => by simp [matVs] at hm
section
variable {P : Program}
theorem relVs_of {g : Gh} : ∀ (vs : List AV) (us : List Value) (i : Nat) (all : List Value), us.length = vs.length → (∀ j, j < us.length → all[i + j]? = us[j]?) → (∀ t v, lookA t (argSl i vs) = some v → RelV g v (all.toArray.getD t undef)) → RelVs g vs us := by
 intro vs
 induction vs with
 | nil => intro us i all hl _ _; exact List.eq_nil_of_length_eq_zero (by simpa using hl)
 | cons x vs ih =>
  intro us i all hl hall hr
  cases us with
  | nil => simp at hl
  | cons u us =>
   refine ⟨u, us, rfl, ?_, ih us (i + 1) all (by simpa using hl) ?_ ?_⟩
   ·have h1 := hr i x (by simp [argSl, lookA])
    have h2 := hall 0 (by simp)
    simp only [Nat.add_zero, List.getElem?_cons_zero] at h2
    simpa [h2] using h1
   ·intro j hj
    have := hall (j + 1) (by simpa using hj)
    rw [show i + 1 + j = i + (j + 1) by omega]
    simpa using this
   ·intro t v ht
    refine hr t v ?_
    have hne : ∀ (l : List AV) (i' : Nat), i < i' → ∀ v, lookA i (argSl i' l) = some v → False := by
     intro l
     induction l with
     | nil => intro i' _ v h; simp [argSl, lookA] at h
     | cons y l ihl =>
      intro i' hlt v h
      simp only [argSl, lookA] at h
      split at h
      ·omega
      ·exact ihl (i' + 1) (by omega) v h
    simp only [argSl, lookA]
    split
    ·rename_i e
     subst e
     exact (hne vs (i + 1) (by omega) v ht).elim
    ·exact ht
def fzB : Blk → Blk
 | .box E _ cs => .fz E cs
 | b => b
theorem fzB_mids (b : Blk) : (fzB b).mids = b.mids := by cases b <;> rfl
open Classical in
theorem fs_cxZ {f : FuncId} {vs vs' : List AV} {r : AV} (h : FnS P f vs' r) (hm : midsVs vs' = []) {fm fm' : List (Nat × Blk)} (D : List Nat) (hD : ∀ id, lookA id fm' = if id ∈ D then (lookA id fm).map fzB else lookA id fm) {lk : Nat → Option Blk} (hlk : ∀ id b, lk id = some b → id ∈ D ∧ lookA id fm = some b) (hmat : matVs lk vs vs' = true) (k : Nat) : CX P f vs fm k r fm' k := by
 refine ⟨h.call, Nat.le_refl _, ?_⟩
 intro F g W us hn hul hh
 have hrel : RelVs g vs us := relVs_of vs us 0 us hul (fun j hj => by simp) (fun t v ht => hh.slots t v (by simp [St.kn, ht]))
 have hkn : ∀ id, St.kn ⟨argSl 0 vs, fm, 0, []⟩ (.m id) = (lookA id fm).map .b := fun _ => rfl
 let B : Nat → Prop := fun b => ∃ id E sz cs, id ∈ D ∧ lookA id fm = some (.box E sz cs) ∧ blk (g.γ id) = some b
 let HF : FH := fun b o => if B b then W.cell? ⟨b, o, none⟩ else g.H b o
 have hBz : ∀ b, B b → (∀ o, g.H b o = none) ∧ F.N b := by
  rintro b ⟨id, E, sz, cs, _, hl, hb⟩
  let ⟨b', ws, rest, e1, e2, e3, e4, e5, _⟩ := hh.blks id (.box E sz cs) (by rw [hkn, hl]; rfl)
  rw [hb] at e1
  cases e1
  exact ⟨e5, e4⟩
 have hle : FLe g.H HF := by
  intro b o v hv
  by_cases e : B b
  ·rw [(hBz b e).1] at hv; cases hv
  ·simp only [HF, e, if_false]; exact hv
 have ok : FzOk HF g W lk := by
  refine ⟨hle, fun id E cs hl => ?_⟩
  rcases hl with ⟨sz, hl⟩ | hl
  ·let ⟨hid, hl⟩ := hlk id _ hl
   let ⟨b, ws, rest, e1, e2, e3, e4, e5, _⟩ := hh.blks id (.box E sz cs) (by rw [hkn, hl]; rfl)
   have hB : B b := ⟨id, E, sz, cs, hid, hl, e1⟩
   exact ⟨b, ws, rest, e1, fun o => by simp only [HF, hB, if_true], e2, e3⟩
  ·let ⟨hid, hl⟩ := hlk id _ hl
   let ⟨b, ws, rest, e1, e2, e3, e4, e5⟩ := hh.blks id (.fz E cs) (by rw [hkn, hl]; rfl)
   have hnB : ¬ B b := by
    rintro ⟨id', E', sz, cs', hid', hl', hb'⟩
    have := hh.inj id id' (.fz E cs) (.box E' sz cs') b (by rw [hkn, hl]; rfl) (by rw [hkn, hl']; rfl) e1 hb'
    subst this
    rw [hl] at hl'
    cases hl'
   exact ⟨b, ws, rest, e1, fun o => by simp only [HF, hnB, if_false, e5]; simp [World.cell?, e2], e2, e3⟩
 have hrel' := matVs_rel ok hmat hrel
 have hsub : Sub HF W := by
  intro b o v hv
  by_cases e : B b
  ·simp only [HF, e, if_true] at hv; exact hv
  ·simp only [HF, e, if_false] at hv; exact hh.sub b o v hv
 have hlen := matVs_len hmat
 have h2 : Hold F (· < k) (St.kn ⟨argSl 0 vs', fm', 0, []⟩) ⟨HF, g.γ⟩ W (actN us) := by
  have hM : ∀ id b, St.kn ⟨argSl 0 vs', fm', 0, []⟩ (.m id) = some (.b b) → ∃ b0, lookA id fm = some b0 ∧ ((id ∉ D ∧ b = b0) ∨ (id ∈ D ∧ b = fzB b0)) := by
   intro id b hb
   have e : St.kn ⟨argSl 0 vs', fm', 0, []⟩ (.m id) = (lookA id fm').map .b := rfl
   rw [e, hD] at hb
   split at hb
   ·rename_i hd
    cases hl : lookA id fm with
    | none => rw [hl] at hb; cases hb
    | some b0 => rw [hl] at hb; cases hb; exact ⟨b0, rfl, .inr ⟨hd, rfl⟩⟩
   ·rename_i hnd
    simp only [Option.map_eq_some_iff] at hb
    let ⟨x, hx, he⟩ := hb
    cases he
    exact ⟨_, hx, .inl ⟨hnd, rfl⟩⟩
  have hmid : ∀ id b, St.kn ⟨argSl 0 vs', fm', 0, []⟩ (.m id) = some (.b b) → ∃ b0, lookA id fm = some b0 ∧ b.mids = b0.mids := by
   intro id b hb
   let ⟨b0, hl, h⟩ := hM id b hb
   refine ⟨b0, hl, ?_⟩
   rcases h with ⟨_, rfl⟩ | ⟨_, rfl⟩
   ·rfl
   ·exact fzB_mids b0
  refine ⟨hh.size, hh.defers, ?_, ?_, ?_, ?_, ?_, hsub, hh.below, hh.le.trans hle, ?_, hh.kfix⟩
  ·intro t v ht
   simp only [St.kn, Option.map_eq_some_iff] at ht
   let ⟨x, hx, he⟩ := ht
   cases he
   let ⟨_, u, hu, hr, hmid⟩ := argSl_look vs' us 0 hrel' t v hx
   have hu' : us[t]? = some u := by simpa using hu
   simp only [actN, Array.getD_eq_getD_getElem?, List.getElem?_toArray, hu', Option.getD_some]
   refine hr.noid ?_ (FLe.refl _) g.γ
   refine List.eq_nil_iff_forall_not_mem.2 (fun id hid => ?_)
   have := hmid id hid
   rw [hm] at this
   cases this
  ·intro id b hb
   let ⟨b0, hl, hcase⟩ := hM id b hb
   have hb0 : St.kn ⟨argSl 0 vs, fm, 0, []⟩ (.m id) = some (.b b0) := by rw [hkn, hl]; rfl
   have hrep := hh.blks id b0 hb0
   have keep : (∀ E sz cs, b0 = .box E sz cs → id ∉ D) → RepB F.N ⟨HF, g.γ⟩ W id b0 := by
    intro hno
    refine hrep.keep (known := (· < k)) ⟨hle, fun _ _ => rfl⟩ (hh.mkn id _ hb0) (fun j hj => hh.mids _ _ hb0 j hj) (fun kk hkk => ⟨rfl, fun o => ?_⟩)
    have hnB : ¬ B kk := by
     rintro ⟨id', E, sz, cs, hid', hl', hb'⟩
     have := hh.inj id id' b0 (.box E sz cs) kk hb0 (by rw [hkn, hl']; rfl) hkk hb'
     subst this
     rw [hl] at hl'
     cases hl'
     exact hno E sz cs rfl hid'
    simp only [HF, hnB, if_false]
   rcases hcase with ⟨hnd, rfl⟩ | ⟨hd, rfl⟩
   ·exact keep (fun _ _ _ _ => hnd)
   ·cases b0 with
    | box E sz cs =>
     let ⟨b, ws, rest, e1, e2, e3, e4, e5, _⟩ := hrep
     have hB : B b := ⟨id, E, sz, cs, hd, hl, e1⟩
     exact ⟨b, ws, rest, e1, e2, RelL.mono (known := (· < k)) (g := g) (g' := ⟨HF, g.γ⟩) ⟨hle, fun _ _ => rfl⟩ (fun j hj => hh.mids _ _ hb0 j hj) e3, e4, fun o => by simp only [HF, hB, if_true]; simp [World.cell?, e2]⟩
    | vec E T xs => exact keep (fun _ _ _ e => by cases e)
    | clo f a b => exact keep (fun _ _ _ e => by cases e)
    | fz E cs => exact keep (fun _ _ _ e => by cases e)
    | mp ka va xs => exact keep (fun _ _ _ e => by cases e)
    | it m n seen => exact keep (fun _ _ _ e => by cases e)
    | itn m n seen => exact keep (fun _ _ _ e => by cases e)
  ·intro id id' b b' kk hb hb' h1 h2
   let ⟨b0, hl, _⟩ := hM id b hb
   let ⟨b1, hl', _⟩ := hM id' b' hb'
   exact hh.inj id id' b0 b1 kk (by rw [hkn, hl]; rfl) (by rw [hkn, hl']; rfl) h1 h2
  ·intro key x hx id hid
   cases key with
   | m j =>
    cases x with
    | b b' =>
     let ⟨b0, hl, hmm⟩ := hmid j b' hx
     have hid : id ∈ b'.mids := hid
     rw [hmm] at hid
     exact hh.mids (.m j) (.b b0) (by rw [hkn, hl]; rfl) id hid
    | v v' => simp only [St.kn, Option.map_eq_some_iff] at hx; let ⟨_, _, he⟩ := hx; cases he
   | s t =>
    simp only [St.kn, Option.map_eq_some_iff] at hx
    let ⟨y, hy, he⟩ := hx
    subst he
    let ⟨_, _, _, _, h6⟩ := argSl_look vs' us 0 hrel' t y hy
    have := h6 id hid
    rw [hm] at this
    cases this
  ·intro id x hx
   cases x with
   | b b' => let ⟨b0, hl, _⟩ := hmid id b' hx; exact hh.mkn id (.b b0) (by rw [hkn, hl]; rfl)
   | v v' => simp only [St.kn, Option.map_eq_some_iff] at hx; let ⟨_, _, he⟩ := hx; cases he
  ·intro b o hb hno
   have hnB : ¬ B b := by
    intro e
    rcases (hBz b e).2 with h1 | h1
    ·omega
    ·exact hno h1
   simp only [HF, hnB, if_false]
   exact hh.fresh b o hb hno
 exact (fs_cxM h hm fm' k).spec F ⟨HF, g.γ⟩ W us (by rw [hlen]; exact hn) (by rw [hlen]; exact hul) h2
end
inductive Rc where
 | no
 | nor (t : Tr) (ms : Ms) (k : Nat) (wl : List Nat)
 | exi (id : Nat) (t : Tr) (ms : Ms) (k : Nat) (wl : List Nat)
 | ret (t : Tr) (ms : Ms) (k : Nat) (wl : List Nat)
def depOf (n : Nat) : Nat := if n ≤ 16 then 2 else if n ≤ 64 then 3 else if n ≤ 256 then 4 else if n ≤ 1024 then 5 else 6
noncomputable def argT (dep : Nat) (vs : List AV) : Nat → Tr → Tr := List.rec (motive := fun _ => Nat → Tr → Tr) (fun _ t => t)
 (fun v _ ih i t => ih (i + 1) (setT (pth dep i) v t)) vs
noncomputable def resOneF (tt : TT) (dep n : Nat) (t : Tr) (ms : Ms) : ResultVar → Option AV
 | .tmp j => (match Nat.blt j n with
  | true => getT (pth dep j) t
  | false => none)
 | .cell j ty => (match Nat.blt j n with
  | true => (match getT (pth dep j) t with
   | some (.c (.P id off)) => (match lookS id ms, tySz tt ty with
    | some (.box _ _ cs), some (sz, ag) => partA cs off sz ag
    | _, _ => none)
   | _ => none)
  | false => none)
noncomputable def resLF (tt : TT) (dep n : Nat) (t : Tr) (ms : Ms) : List ResultVar → Option (List (Bool × List C))
 | [] => some []
 | x :: xs => (match resOneF tt dep n t ms x with
  | some v => (match toS v, resLF tt dep n t ms xs with
   | some s, some r => some (s :: r)
   | _, _ => none)
  | none => none)
noncomputable def resAllF (tt : TT) (dep n : Nat) (t : Tr) (ms : Ms) : List ResultVar → Option AV
 | [x] => resOneF tt dep n t ms x
 | xs => (match resLF tt dep n t ms xs with
  | some ss => some (.t ss)
  | none => none)
noncomputable def reachF : Nat → Mem → List Nat → Mem → Mem
 | 0, _, _, acc => acc
 | _ + 1, _, [], acc => acc
 | f + 1, own, id :: todo, acc => match lookF id acc with
  | some _ => reachF f own todo acc
  | none => (match lookF id own with
   | some b => reachF f own (b.mids ++ todo) ((id, b) :: acc)
   | none => reachF f own todo acc)
noncomputable def idsOk (k : Nat) (ms : Ms) : List Nat → Bool
 | [] => true
 | id :: r => (match Nat.ble k id with
  | true => idsOk k ms r
  | false => (match lookS id ms with
   | some _ => idsOk k ms r
   | none => false))
noncomputable def svOk (k : Nat) (ms : Ms) : Mem → Bool
 | [] => true
 | (id, b) :: r => (match Nat.ble k id with
  | true => (match idsOk k ms b.mids with
   | true => svOk k ms r
   | false => false)
  | false => false)
noncomputable def wlOk (k : Nat) (ms ms' : Ms) : List Nat → Bool
 | [] => true
 | id :: r => (match lookS id ms' with
  | some b => (match idsOk k ms b.mids with
   | true => wlOk k ms ms' r
   | false => false)
  | none => wlOk k ms ms' r)
noncomputable def ownOk (k : Nat) (l : Mem) : Bool := List.rec (motive := fun _ => Bool) true (fun h _ ih => Bool.rec (motive := fun _ => Bool) false ih (Nat.ble k h.1)) l
def pushS (sv : Mem) : Ms → Ms
 | m :: r => (sv ++ m) :: r
 | [] => [sv]
noncomputable def wlIds (ms : Ms) : List Nat → List Nat
 | [] => []
 | id :: r => (match lookS id ms with
  | some b => b.mids ++ wlIds ms r
  | none => wlIds ms r)
noncomputable def leave (tt : TT) (fn : Func) (dep : Nat) (ms : Ms) (k : Nat) (t : Tr) (ms' : Ms) (k' : Nat) (wl : List Nat) : Cr := match resAllF tt dep fn.ntmps t ms' fn.results.toList with
 | some r => (match ms' with
  | own :: rest => (match reachF 1000 own (r.mids ++ wlIds rest wl) [] with
   | sv => (match idsOk k ms r.mids && svOk k ms sv && wlOk k ms rest wl && ownOk k own with
    | true => .ok r (pushS sv rest) k' wl
    | false => .no))
  | [] => .no)
 | none => .no
noncomputable def idsZ (ms : Ms) : Nat → List Nat → List Nat → List Nat
 | 0, _, acc => acc
 | _ + 1, [], acc => acc
 | f + 1, id :: todo, acc => match acc.any (Nat.beq id) with
  | true => idsZ ms f todo acc
  | false => (match lookS id ms with
   | some b => idsZ ms f (b.mids ++ todo) (id :: acc)
   | none => idsZ ms f todo acc)
noncomputable def lkS (D : List Nat) (ms : Ms) (id : Nat) : Option Blk := match D.any (Nat.beq id) with
 | true => lookS id ms
 | false => none
noncomputable def fzS : List Nat → Ms → Ms
 | [], ms => ms
 | id :: r, ms => (match lookS id ms with
  | some (.box E _ cs) => fzS r (putS id (.fz E cs) ms)
  | _ => fzS r ms)
abbrev BodyF := Nat → Nat → Nat → Code → Tr → Ms → Nat → List Nat → Rc
inductive ConR where
 | fs (vs : List AV) (r : AV)
 | cx (r : AV)
noncomputable def callF (P : Program) (tt : TT) (con : FuncId → List AV → Ms → Option ConR) (body : BodyF) : CallG := fun f vs ms k =>
 match con f vs ms with
 | some (.cx r) => (match r.mids.isEmpty with
  | true => .ok r ms k []
  | false => .no)
 | some (.fs vs' r) => (match idsZ ms 200 (midsVs vs) [] with
  | D => (match matVs (lkS D ms) vs vs' && (midsVs vs').isEmpty && wlOk k ms (fzS D ms) D with
   | true => .ok r (fzS D ms) k D
   | false => .no))
 | none => (match P.funcs[f]? with
  | some fn => (match fn.body with
   | some c => (match fn.name != "runtime.NumGoroutine" && Nat.ble vs.length fn.ntmps && Nat.ble fn.ntmps 4096 with
    | true => (match body (depOf fn.ntmps) fn.ntmps k c (argT (depOf fn.ntmps) vs 0 .e) ([] :: ms) k [] with
     | .nor t ms' k' wl => leave tt fn (depOf fn.ntmps) ms k t ms' k' wl
     | .ret t ms' k' wl => leave tt fn (depOf fn.ntmps) ms k t ms' k' wl
     | _ => .no)
    | false => .no)
   | none => .no)
  | none => .no)
noncomputable def rSeq (ih : BodyF) (dep n ke : Nat) (x y : Code) (t : Tr) (ms : Ms) (k : Nat) (wl : List Nat) : Rc := match ih dep n ke x t ms k wl with
 | .nor t1 ms1 k1 wl1 => ih dep n ke y t1 ms1 k1 wl1
 | r => r
noncomputable def rCond (ih : BodyF) (dep n ke : Nat) (c : Operand) (x y : Code) (t : Tr) (ms : Ms) (k : Nat) (wl : List Nat) : Rc := match compP dep n c with
 | some p => (match evP t p with
  | some (.c (.B b)) => (match b with
   | true => ih dep n ke x t ms k wl
   | false => ih dep n ke y t ms k wl)
  | _ => .no)
 | none => .no
noncomputable def rBlock (ih : BodyF) (dep n ke : Nat) (id : Nat) (x : Code) (t : Tr) (ms : Ms) (k : Nat) (wl : List Nat) : Rc := match ih dep n ke x t ms k wl with
 | .exi id' t1 ms1 k1 wl1 => (match Nat.beq id' id with
  | true => .nor t1 ms1 k1 wl1
  | false => .exi id' t1 ms1 k1 wl1)
 | r => r
noncomputable def rLoop (ih : BodyF) (dep n ke : Nat) (x : Code) (t : Tr) (ms : Ms) (k : Nat) (wl : List Nat) : Rc := match ih dep n ke x t ms k wl with
 | .nor t1 ms1 k1 wl1 => ih dep n ke (.loop x) t1 ms1 k1 wl1
 | r => r
def rT : Rs → Rc
 | .ok t1 ms1 k1 wl1 _ => .nor t1 ms1 k1 wl1
 | .no => .no
def rD (ps : List (Nat × Nat)) : Rd → Rc
 | .ok t1 ms1 k1 wl1 fs => (match pairOk fs.reverse ps with
  | true => .nor t1 ms1 k1 wl1
  | false => .no)
 | .no => .no
noncomputable def rReg (cal : CallG) (tt : TT) (dep n ke : Nat) (ops : List Oper) (draw : Bool) (t : Tr) (ms : Ms) (k : Nat) (wl : List Nat) : Rc := match compReg dep n ops draw with
 | some (gs, none) => rT (regT cal tt n ke gs t ms k wl)
 | some (gs, some ps) => rD ps (regD cal tt n ke gs t ms k wl [])
 | none => .no
noncomputable def rStep (P : Program) (tt : TT) (con : FuncId → List AV → Ms → Option ConR) (ih : BodyF) (dep n ke : Nat) : Code → Tr → Ms → Nat → List Nat → Rc
 | .skip => .nor
 | .exit id => .exi id
 | .ret => .ret
 | .seq x y => rSeq ih dep n ke x y
 | .cond c x y => rCond ih dep n ke c x y
 | .block id x => rBlock ih dep n ke id x
 | .loop x => rLoop ih dep n ke x
 | .region _ ops draw => rReg (callF P tt con ih) tt dep n ke ops.toList draw
 | _ => fun _ _ _ _ => .no
noncomputable def runF (P : Program) (tt : TT) (con : FuncId → List AV → Ms → Option ConR) (fuel : Nat) : BodyF := Nat.rec (motive := fun _ => BodyF)
 (fun _ _ _ _ _ _ _ _ => .no) (fun _ ih => rStep P tt con ih) fuel
def FtR : Ft → Nat → Prop
 | .n, _ => False
 | .m rd _, id => id ∈ rd
 | .c k _ _, id => id < k
def FtW : Ft → Nat → Prop
 | .n, _ => False
 | .m _ wr, id => id ∈ wr
 | .c k k' wl, id => (id ∈ wl ∧ id < k) ∨ (k ≤ id ∧ id < k')
def CovK (ks sk : Ks) (f : Ft) : Prop := (∀ key ∈ ks.1, match key with | .s t => Key.s t ∈ sk.1 | .m id => FtR f id) ∧ ∀ key ∈ ks.2, match key with | .s t => Key.s t ∈ sk.2 | .m id => FtW f id
def wfM (ms : Ms) (k : Nat) : Prop := ∀ id b, lookS id ms = some b → id < k ∧ ∀ j ∈ b.mids, j < k
def wfT (dep n : Nat) (t : Tr) (k : Nat) : Prop := ∀ j v, j < n → getT (pth dep j) t = some v → ∀ id ∈ v.mids, id < k
def Tails (ms ms' : Ms) : Prop := ∀ i j b, 1 ≤ i → lookS j (ms'.drop i) = some b → ∃ b0, lookS j (ms.drop i) = some b0
theorem Tails.refl (ms : Ms) : Tails ms ms := fun _ _ b _ h => ⟨b, h⟩
theorem Tails.trans {a b c : Ms} (h : Tails a b) (g : Tails b c) : Tails a c := fun i j x hi hx => by
 let ⟨y, hy⟩ := g i j x hi hx
 exact h i j y hi hy
theorem tails_put (id : Nat) (b : Blk) (ms : Ms) : Tails ms (putS id b ms) := by
 intro i j x _ hx
 have key : ∀ (ms : Ms) (i : Nat) (x : Blk), lookS j ((putS id b ms).drop i) = some x → ∃ y, lookS j (ms.drop i) = some y := by
  intro ms
  induction ms with
  | nil => intro i x hx; exact ⟨x, hx⟩
  | cons m r ih =>
   intro i x hx
   have e2 : putS id b (m :: r) = match lookF id m with | some _ => putF id b m :: r | none => m :: putS id b r := rfl
   cases i with
   | zero =>
    simp only [List.drop_zero] at hx ⊢
    rw [lookS_put] at hx
    split at hx
    ·rename_i y hy
     split at hx
     ·rename_i e; subst e; exact ⟨y, hy⟩
     ·exact ⟨x, hx⟩
    ·exact ⟨x, hx⟩
   | succ i =>
    rw [e2] at hx
    split at hx
    ·exact ⟨x, by simpa using hx⟩
    ·exact ih i x (by simpa using hx)
 exact key ms i x hx
theorem tails_del (id : Nat) (ms : Ms) : Tails ms (delS id ms) := by
 intro i j x _ hx
 have key : ∀ (ms : Ms) (i : Nat), (delS id ms).drop i = delS id (ms.drop i) := by
  intro ms
  induction ms with
  | nil => intro i; simp [delS]
  | cons m r ih => intro i; cases i with
   | zero => rfl
   | succ i => simpa [delS] using ih i
 rw [key, lookS_del] at hx
 split at hx
 ·cases hx
 ·exact ⟨x, hx⟩
theorem tails_cons (k : Nat) (b : Blk) (ms : Ms) : Tails ms (consS k b ms) := by
 intro i j x hi hx
 obtain ⟨i, rfl⟩ : ∃ i', i = i' + 1 := ⟨i - 1, by omega⟩
 cases ms with
 | nil => exact ⟨x, by simpa [consS] using hx⟩
 | cons m r => exact ⟨x, by simpa [consS] using hx⟩
structure CalOk (P : Program) (cal : CallG) : Prop where
 ok : ∀ {f vs ms k r ms' k' wl}, cal f vs ms k = .ok r ms' k' wl → wfM ms k → (∀ id ∈ midsVs vs, id < k) →
  CX P f vs ms.flatten k r ms'.flatten k' ∧ (∀ id ∈ r.mids, k ≤ id ∨ ∃ b, lookS id ms = some b) ∧ (∀ id b, lookS id ms' = some b → lookS id ms = some b ∨ ∀ j ∈ b.mids, k ≤ j ∨ ∃ b, lookS j ms = some b) ∧
   (∀ id, id < k → id ∉ wl → lookS id ms' = lookS id ms) ∧ (∀ id b, lookS id ms' = some b → k ≤ id ∨ ∃ b0, lookS id ms = some b0) ∧ wfM ms' k' ∧ (∀ id ∈ r.mids, id < k') ∧ Tails ms ms'
section
variable {P : Program} {tt : TT} {dep n : Nat} {t : Tr} {ms : Ms} {k : Nat}
theorem wfM.le {k' : Nat} (h : wfM ms k) (hk : k ≤ k') : wfM ms k' := fun id b hb => ⟨Nat.lt_of_lt_of_le (h id b hb).1 hk, fun j hj => Nat.lt_of_lt_of_le ((h id b hb).2 j hj) hk⟩
theorem wfT.le {k' : Nat} (h : wfT dep n t k) (hk : k ≤ k') : wfT dep n t k' := fun j v hj hv id hid => Nat.lt_of_lt_of_le (h j v hj hv id hid) hk
theorem wfT.set (h : wfT dep n t k) (hn : n ≤ 4 ^ dep) {d : Nat} (hd : d < n) {v : AV} (hv : ∀ id ∈ v.mids, id < k) : wfT dep n (setT (pth dep d) v t) k := by
 intro j u hj hu
 by_cases e : d = j
 ·subst e; rw [get_set] at hu; cases hu; exact hv
 ·rw [get_set_ne _ _ _ _ (by rw [pth_length, pth_length]) (fun e' => e (pth_inj dep (by omega) (by omega) e'))] at hu
  exact h j u hj hu
theorem wfT.del (h : wfT dep n t k) (hn : n ≤ 4 ^ dep) {d : Nat} (hd : d < n) : wfT dep n (delT (pth dep d) t) k := by
 intro j u hj hu
 by_cases e : d = j
 ·subst e; rw [get_del] at hu; cases hu
 ·rw [get_del_ne _ _ _ (by rw [pth_length, pth_length]) (fun e' => e (pth_inj dep (by omega) (by omega) e'))] at hu
  exact h j u hj hu
theorem blt_lt {a b : Nat} (h : Nat.blt a b = true) : a < b := by simpa [Nat.blt_eq] using h
theorem compP_ev {m : Mem} {x : Operand} {p : Pd} (h : compP dep n x = some p) {v : AV} (he : evP t p = some v) : (absS dep n t m).ev x = some v := by
 cases x with
 | tmp j =>
  simp only [compP] at h
  split at h
  ·rename_i hj
   cases h
   simp only [St.ev, absS, look_slots, if_pos (blt_lt hj)]
   exact he
  ·cases h
 | const u => simp only [compP, Option.some.injEq] at h; subst h; exact he
 | func f => simp only [compP, Option.some.injEq] at h; subst h; exact he
 | global g => simp [compP] at h
theorem compPs_ev {m : Mem} : ∀ {xs : List Operand} {ps : List Pd}, compPs dep n xs = some ps → ∀ {vs : List AV}, evPs t ps = some vs → evs (absS dep n t m) xs = some vs
 | [], ps, h, vs, he => by simp only [compPs, Option.some.injEq] at h; subst h; exact he
 | x :: xs, ps, h, vs, he => by
  simp only [compPs] at h
  split at h
  ·rename_i p qs h1 h2
   cases h
   have e : evPs t (p :: qs) = match evP t p with
    | some v => (match evPs t qs with | some vs => some (v :: vs) | none => none)
    | none => none := rfl
   rw [e] at he
   split at he
   ·rename_i v hv
    split at he
    ·rename_i us hus
     cases he
     simp only [evs, compP_ev h1 hv, compPs_ev h2 hus]
    ·cases he
   ·cases he
  ·cases h
theorem ev_low {m : Mem} (hw : wfT dep n t k) {x : Operand} {p : Pd} (h : compP dep n x = some p) {v : AV} (he : evP t p = some v) : ∀ id ∈ v.mids, id < k := by
 cases x with
 | tmp j =>
  simp only [compP] at h
  split at h
  ·rename_i hj
   cases h
   exact hw j v (blt_lt hj) he
  ·cases h
 | const u =>
  simp only [compP, Option.some.injEq] at h; subst h
  have : constAV u = v := by simpa [evP] using he
  subst this
  intro id hid
  cases u <;> simp [constAV, AV.mids, C.mids] at hid
 | func f =>
  simp only [compP, Option.some.injEq] at h; subst h
  have : AV.c (.V (.func (.func f) #[] #[])) = v := by simpa [evP] using he
  subst this
  intro id hid
  simp [AV.mids, C.mids] at hid
 | global g => simp [compP] at h
theorem evs_low (hw : wfT dep n t k) : ∀ {xs : List Operand} {ps : List Pd}, compPs dep n xs = some ps → ∀ {vs : List AV}, evPs t ps = some vs → ∀ id ∈ midsVs vs, id < k
 | [], ps, h, vs, he => by
  simp only [compPs, Option.some.injEq] at h; subst h
  have : vs = [] := by simpa [evPs] using he.symm
  subst this
  simp [midsVs]
 | x :: xs, ps, h, vs, he => by
  simp only [compPs] at h
  split at h
  ·rename_i p qs h1 h2
   cases h
   have e : evPs t (p :: qs) = match evP t p with
    | some v => (match evPs t qs with | some vs => some (v :: vs) | none => none)
    | none => none := rfl
   rw [e] at he
   split at he
   ·rename_i v hv
    split at he
    ·rename_i us hus
     cases he
     intro id hid
     simp only [midsVs, List.mem_append] at hid
     rcases hid with hid | hid
     ·exact ev_low (m := []) hw h1 hv id hid
     ·exact evs_low hw h2 hus id hid
    ·cases he
   ·cases he
  ·cases h
theorem sx_V (htt : ttB P tt = true) {o : Oper} (hg : o.guard = none) {d : Nat} (hd : o.dst = some d) (hdn : d < n) (hn : n ≤ 4 ^ dep) {m : Mem} {v : AV} {p : Pr} (he : evalV tt (absS dep n t m) o.op = some (v, p)) (hp : p.h) :
  StepX P n #[o] 0 (absS dep n t m) (absS dep n (setT (pth dep d) v t) m) k (k + 1) (okeys o.op.operands.toList, [.s d]) :=
 StepX.of_s (evalV_sound htt (ops := #[o]) (i := 0) rfl hg hd hdn he hp k) (rdV_kn _ _) (abs_set dep n t m d v hn hdn) keysV (by simp [keysOf])
theorem sx_L (htt : ttB P tt = true) {o : Oper} (hg : o.guard = none) {d : Nat} (hd : o.dst = some d) (hdn : d < n) (hn : n ≤ 4 ^ dep) {m : Mem} {v : AV} {p : Pr} (he : evalL tt (absS dep n t m) o.op = some (v, p)) (hp : p.h) :
  StepX P n #[o] 0 (absS dep n t m) (absS dep n (setT (pth dep d) v t) m) k (k + 1) (okeys o.op.operands.toList, [.s d]) :=
 StepX.of_s (evalL_sound htt (ops := #[o]) (i := 0) rfl hg hd hdn he hp k) (rdV_kn _ _) (abs_set dep n t m d v hn hdn) keysV (by simp [keysOf])
theorem sx_M (htt : ttB P tt = true) {o : Oper} (hg : o.guard = none) {d : Nat} (hd : o.dst = some d) (hdn : d < n) (hn : n ≤ 4 ^ dep) {m : Mem} {v : AV} {p : Pr} (he : evalM tt (absS dep n t m) o.op = some (v, p)) (hp : p.h) :
  StepX P n #[o] 0 (absS dep n t m) (absS dep n (setT (pth dep d) v t) m) k (k + 1) (okeys o.op.operands.toList, [.s d]) :=
 StepX.of_s (evalM_sound htt (ops := #[o]) (i := 0) rfl hg hd hdn he hp k) (rdV_kn _ _) (abs_set dep n t m d v hn hdn) keysV (by simp [keysOf])
theorem sx_ld (htt : ttB P tt = true) {o : Oper} (hg : o.guard = none) {d : Nat} (hd : o.dst = some d) (hdn : d < n) (hn : n ≤ 4 ^ dep) {ty : TypeId} {x : Operand} (hop : o.op = .load ty x) {v u : AV} {ids : List Nat} (hx : (absS dep n t ms.flatten).ev x = some v) (he : ldF tt ms ty v = some (u, ids)) :
  StepX P n #[o] 0 (absS dep n t ms.flatten) (absS dep n (setT (pth dep d) u t) ms.flatten) k (k + 1) (okeys [x] ++ mkeys ids, [.s d]) := by
 have hl : ldA tt (absS dep n t ms.flatten) ty v = some (u, .t, ids) := by
  unfold ldF at he
  unfold ldA
  split at he
  ·cases he
  ·rename_i sz ag hnz hts
   have hnz' : sz ≠ 0 := hnz
   simp only [hts]
   split at he
   ·rename_i id off
    have e : lookA id (absS dep n t ms.flatten).mem = lookS id ms := look_flat id ms
    simp only [e]
    split at he
    ·rename_i E bz cs hb
     simp only [hb]
     split at he
     ·rename_i y hy
      cases he
      simp only [partF_eq hy (fun e => absurd e hnz')]
     ·cases he
    ·rename_i E cs hb
     simp only [hb]
     split at he
     ·rename_i y hy
      cases he
      simp only [partF_eq hy (fun e => absurd e hnz')]
     ·cases he
    ·cases he
   ·rename_i T e off
    split at he
    ·rename_i y hy
     cases he
     simp only [partF_eq hy (fun e => absurd e hnz')]
    ·cases he
   ·cases he
  ·cases he
 refine StepX.of_s (ld_sound htt (ops := #[o]) (i := 0) rfl hg hd hdn hop hx hl trivial k) ?_ (abs_set dep n t ms.flatten d u hn hdn) ?_ (by simp [keysOf])
 ·intro kx hkx
  rcases List.mem_append.1 hkx with h | h
  ·exact opd_kn _ _ kx h
  ·exact mrd_kn _ _ kx h
 ·intro key hk
  simp only [rkeysOf, List.map_append, List.mem_append] at hk ⊢
  rcases hk with h | h
  ·exact .inl (okeys_opd (absS dep n t ms.flatten) [x] key (by simpa [rkeysOf] using h))
  ·exact .inr (mkeys_mrd _ _ key h)
theorem storeM_sound (htt : ttB P tt = true) {ops : Array Oper} {i : Nat} {o : Oper} (ho : ops[i]? = some o) (hg : o.guard = none) (hd : o.dst = none) {n : Nat} {t : TypeId} {x y : Operand} (hop : o.op = .store t x y)
  {st : St} {id off j : Nat} {E : TypeId} {bz : Nat} {cs : List C} {ka va : Bool} {xs : List (List C × List C)} (hx : st.ev x = some (.c (.P id off))) (hy : st.ev y = some (.c (.X j))) (hl : lookA id st.mem = some (.box E bz cs)) (hj : lookA j st.mem = some (.mp ka va xs)) {ag : Bool} (hts : tySz tt t = some (1, ag)) (h1 : off < cs.length) (new : Nat) :
  StepS P n ops i (opd st x ++ opd st y ++ mrd st [id, j]) [(.m id, some (.b (.box E bz (over cs [.X j] off))))] new := by
 intro F hFn Q known σ g W a K hnew hsem hrd hK
 have hrx := ev_rel hsem st x _ hx (fun kx hkx => hrd kx (by simp [hkx]))
 have hry := ev_rel hsem st y _ hy (fun kx hkx => hrd kx (by simp [hkx]))
 have hmy := ev_mids hsem st y _ hy (fun kx hkx => hrd kx (by simp [hkx]))
 have hσ : σ (.m id) = some (.b (.box E bz cs)) := hrd (.m id, .b (.box E bz cs)) (by simp [mrd, hl])
 have hσj : σ (.m j) = some (.b (.mp ka va xs)) := hrd (.m j, .b (.mp ka va xs)) (by simp [mrd, hj])
 let ⟨b, vs, rest, hγ, hh, hr, hN, hz, hcp⟩ := hsem.blks id _ hσ
 have hrj := hsem.blks j _ hσj
 let ⟨b', hγ', hv⟩ := hrx
 rw [hγ] at hγ'
 simp only [Option.some.injEq] at hγ'
 subst hγ'
 have hyv : a.eval y = g.γ j := hry
 have hone : oneB (a.eval y) = true := by
  rw [hyv]
  let ⟨_, _, e, _⟩ := hrj; rw [e]; rfl
 have hcells : (a.eval y).cells = [a.eval y].toArray := by
  rw [hyv]
  let ⟨_, _, e, _⟩ := hrj; rw [e]; rfl
 have hrw : RelL g [.X j] [a.eval y] := ⟨_, _, rfl, hry, rfl⟩
 let ⟨_, ⟨ti, hti, htsz⟩, _⟩ := tySz_ok htt hts
 have hlenv := hr.length
 have hrun : (Instr.storeAt t (a.eval x) (a.eval y)).run P W = .ok () (setBlk W b (over (vs ++ rest) [a.eval y] off) E) := by
  rw [hv]
  simp only [Instr.storeAt, Instr.sureAddr, storeVar, Sem.run_bind, Sem.run_pure, Result.andThen, run_sizeOf hti, hcells]
  have : ¬ ([a.eval y].toArray.size ≠ ti.size) := by simp; omega
  simp only [this, if_false]
  have := run_storeCells (P := P) b [a.eval y] W (vs ++ rest) off 0 hh (by simp; omega) (by simpa using hone)
  simp only [Nat.add_zero] at this
  simpa using this
 unfold wpOp
 simp only [ho, Region.wanted, hg, if_true]
 refine .inl ?_
 unfold Oper.wp
 have hex : (execOp a.eval o).run P W = .ok .skip (setBlk W b (over (vs ++ rest) [a.eval y] off) E) := by
  rw [execOp, hop]
  simp [hrun, Sem.run, pure]
 rw [hex]
 simp only [Oper.upon, hd, Act.put]
 have hb : b < W.heap.size := (Array.getElem?_eq_some_iff.1 hh).1
 refine hK g _ a (hsem.step (chg := fun j => j = id) (g' := g) ⟨⟨FLe.refl _, fun _ _ => rfl⟩, fun _ _ _ => rfl, Sub_setBlk hsem.sub hz, by simp [setBlk], ?_, rfl, rfl, rfl⟩ _ new hnew rfl hsem.defers (fun _ _ => rfl) ?_ ?_ ?_ ?_ ?_)
 ·intro k hk hne
  have : b ≠ k := fun e => hne id rfl (by rw [hγ, e])
  exact setBlk_ne this
 ·intro j hj
  subst hj
  exact ⟨by simp [says], _, hσ⟩
 ·intro t' v' ht; simp [says] at ht
 ·intro q bk hq
  simp only [says] at hq
  split at hq
  ·rename_i e
   simp only [Key.m.injEq] at e
   subst e
   simp only [Option.some.injEq, Info.b.injEq] at hq
   subst hq
   have hov : over (vs ++ rest) [a.eval y] off = over vs [a.eval y] off ++ rest := over_app vs rest _ off (by simp; omega)
   exact ⟨⟨b, over vs [a.eval y] off, rest, hγ, by rw [setBlk_at hb, hov], hr.over hrw off, hN, hz, fun h0 => by
    let ⟨c, e1, e2⟩ := hcp h0
    refine ⟨c, e1, ?_⟩
    rw [← hov, over_length _ _ _ (by simp; omega)]; exact e2⟩, .inl ⟨hsem.mkn _ _ hσ, _, hσ⟩⟩
  ·simp at hq
 ·intro k z hz'
  simp only [says] at hz'
  split at hz'
  ·simp only [Option.some.injEq] at hz'
   subst hz'
   intro q hq
   rcases midsL_over _ _ _ q hq with h | h
   ·exact .inl (hsem.mids _ _ hσ q h)
   ·exact .inl (hmy q (by simpa [midsL, AV.mids] using h))
  ·simp at hz'
 ·intro q z hz'
  simp only [says] at hz'
  split at hz'
  ·rename_i e
   simp only [Key.m.injEq] at e
   subst e
   exact .inl (hsem.mkn _ _ hσ)
  ·simp at hz'
theorem sx_st (htt : ttB P tt = true) {o : Oper} (hg : o.guard = none) (hd : o.dst = none) {ty : TypeId} {x y : Operand} (hop : o.op = .store ty x y) {v w : AV} {id : Nat} {b : Blk} {us : List C} {rs : List Nat} (hx : (absS dep n t ms.flatten).ev x = some v) (hy : (absS dep n t ms.flatten).ev y = some w) (he : stF tt ms ty v w = some (id, b, us, rs)) :
  StepX P n #[o] 0 (absS dep n t ms.flatten) (absS dep n t (putS id b ms).flatten) k (k + 1) (okeys [x, y] ++ mkeys (id :: rs), [.m id]) ∧ (∃ b0, lookS id ms = some b0 ∧ ∀ j ∈ b.mids, j ∈ b0.mids ∨ j ∈ midsL us) := by
 have key : ∀ {b : Blk} {b0 : Blk} (hb0 : lookS id ms = some b0) (j : Nat), upd (absS dep n t ms.flatten).kn [(.m id, some (.b b))] (.m j) = (lookA j (putS id b ms).flatten).map .b := fun {b b0} hb0 j => by
  rw [look_flat, lookS_put, hb0]
  simp only [upd, says, Key.m.injEq]
  by_cases e : id = j
  ·simp [e]
  ·simp [e, absS, St.kn, look_flat]
 unfold stF at he
 split at he
 ·rename_i sz ag id' off us' hts hc
  have e : ∀ j, lookA j (absS dep n t ms.flatten).mem = lookS j ms := fun j => look_flat j ms
  split at he
  ·rename_i i1 b1 u1 h1
   cases he
   unfold stF1 at h1
   split at h1
   ·rename_i E bz cs hb
    split at h1
    ·rename_i hif
     simp only [Bool.and_eq_true] at hif
     split at h1
     ·rename_i x1 hx1
      cases h1
      obtain ⟨h2, rfl⟩ := ovF_eq us off cs x1 hx1
      have hlen : us.length = sz := Nat.eq_of_beq_eq_true hif.1
      have hl : stA tt (absS dep n t ms.flatten) ty (.c (.P id off)) w = some (id, .box E bz (over cs us off)) := by
       unfold stA
       simp only [hts, hc, e, hb]
       rw [if_pos ⟨hlen, by omega, okA_eq hif.2⟩]
      refine ⟨?_, _, hb, fun j hj => midsL_over cs us off j hj⟩
      refine StepX.of_s (store_sound htt (ops := #[o]) (i := 0) rfl hg hd hop hx hy hl k) ?_ (abs_mem dep n t ms.flatten _ _ (fun j => (key hb j).symm) (fun j => by simp [says])) keys3 (by simp [keysOf])
      intro kx hkx
      rcases List.mem_append.1 hkx with h | h
      ·rcases List.mem_append.1 h with h | h
       ·exact opd_kn _ _ kx h
       ·exact opd_kn _ _ kx h
      ·exact mrd_kn _ _ kx h
     ·cases h1
    ·cases h1
   ·cases h1
  ·unfold stM at he
   split at he
   ·rename_i j E bz cs hsz hm hb
    split at he
    ·rename_i x1 hx1
     cases he
     unfold mapX at hm
     split at hm
     ·rename_i j'
      split at hm
      ·rename_i ka va xs hj
       cases hm
       have hc : some [C.X j] = some us := hc
       cases hc
       obtain ⟨h2, rfl⟩ := ovF_eq [.X j] off cs x1 hx1
       have hsz1 : sz = 1 := Nat.eq_of_beq_eq_true hsz
       subst hsz1
       refine ⟨?_, _, hb, fun i hi => midsL_over cs [.X j] off i hi⟩
       refine StepX.of_s (storeM_sound htt (ops := #[o]) (i := 0) rfl hg hd hop hx hy (by rw [e]; exact hb) (by rw [e]; exact hj) hts (by simp at h2; omega) k) ?_ (abs_mem dep n t ms.flatten _ _ (fun j => (key hb j).symm) (fun j => by simp [says])) keys3 (by simp [keysOf])
       intro kx hkx
       rcases List.mem_append.1 hkx with h | h
       ·rcases List.mem_append.1 h with h | h
        ·exact opd_kn _ _ kx h
        ·exact opd_kn _ _ kx h
       ·exact mrd_kn _ _ kx h
      ·cases hm
     ·cases hm
    ·cases he
   ·cases he
 ·cases he
end
theorem okeys_s : ∀ {l : List Operand} {key : Key}, key ∈ okeys l → ∃ j, key = .s j
 | [], key, h => by simp [okeys] at h
 | .tmp j :: r, key, h => by
  simp only [okeys, List.mem_cons] at h
  exact h.elim (fun e => ⟨j, e⟩) okeys_s
 | .const _ :: r, key, h => okeys_s (l := r) (by simpa [okeys] using h)
 | .func _ :: r, key, h => okeys_s (l := r) (by simpa [okeys] using h)
 | .global _ :: r, key, h => okeys_s (l := r) (by simpa [okeys] using h)
theorem slotsOf_okeys {j : Nat} : ∀ {l : List Operand}, j ∈ slotsOf l ↔ Key.s j ∈ okeys l
 | [] => by simp [slotsOf, okeys]
 | .tmp i :: r => by simp [slotsOf, okeys, slotsOf_okeys (l := r)]
 | .const _ :: r => by simp [slotsOf, okeys, slotsOf_okeys (l := r)]
 | .func _ :: r => by simp [slotsOf, okeys, slotsOf_okeys (l := r)]
 | .global _ :: r => by simp [slotsOf, okeys, slotsOf_okeys (l := r)]
section
variable {P : Program} {tt : TT} {dep n : Nat} {t : Tr} {ms : Ms} {k : Nat}
theorem slP_mem : ∀ {l : List Nat} {sl : List (Nat × List D4)}, slP dep n l = some sl → ∀ x ∈ sl, x.2 = pth dep x.1 ∧ x.1 < n ∧ x.1 ∈ l
 | [], sl, h, x, hx => by simp only [slP, Option.some.injEq] at h; subst h; cases hx
 | j :: r, sl, h, x, hx => by
  simp only [slP] at h
  split at h
  ·rename_i l hj hl
   cases h
   rcases List.mem_cons.1 hx with rfl | hx
   ·exact ⟨rfl, blt_lt hj, by simp⟩
   ·let ⟨h1, h2, h3⟩ := slP_mem hl x hx
    exact ⟨h1, h2, by simp [h3]⟩
  ·cases h
theorem mini_sub : ∀ {sl : List (Nat × List D4)}, (∀ x ∈ sl, x.2 = pth dep x.1 ∧ x.1 < n) → ∀ {j : Nat} {v : AV}, lookA j (mini sl t) = some v → j < n ∧ getT (pth dep j) t = some v
 | [], _, j, v, h => by simp [mini, lookA] at h
 | x :: r, hs, j, v, h => by
  have e : mini (x :: r) t = match getT x.2 t with | some v => (x.1, v) :: mini r t | none => mini r t := rfl
  rw [e] at h
  let ⟨h1, h2⟩ := hs x (by simp)
  have ih := mini_sub (sl := r) (fun y hy => hs y (by simp [hy])) (j := j) (v := v)
  split at h
  ·rename_i u hu
   simp only [lookA] at h
   split at h
   ·rename_i ej
    cases h
    subst ej
    exact ⟨h2, by rw [← h1]; exact hu⟩
   ·exact ih h
  ·exact ih h
theorem miniM_sub : ∀ {ids : List Nat} {id : Nat} {b : Blk}, lookA id (miniM ids ms) = some b → lookS id ms = some b
 | [], id, b, h => by simp [miniM, lookA] at h
 | i :: r, id, b, h => by
  have e : miniM (i :: r) ms = match lookS i ms with | some b => (i, b) :: miniM r ms | none => miniM r ms := rfl
  rw [e] at h
  split at h
  ·rename_i u hu
   simp only [lookA] at h
   split at h
   ·rename_i ej; cases h; subst ej; exact hu
   ·exact miniM_sub h
  ·exact miniM_sub h
theorem mK_mem {id : Nat} : ∀ {l : List Key}, id ∈ mK l ↔ Key.m id ∈ l
 | [] => by simp [mK]
 | .m j :: r => by simp [mK, mK_mem (l := r)]
 | .s j :: r => by simp [mK, mK_mem (l := r)]
theorem wS_none : ∀ {l : List Key}, wS none l = true → ∀ j, Key.s j ∉ l
 | [], _, j => by simp
 | .m i :: r, h, j => by simp only [wS] at h; simpa using wS_none h j
 | .s i :: r, h, j => by simp [wS] at h
theorem wS_some {d : Nat} : ∀ {l : List Key}, wS (some d) l = true → ∀ j, Key.s j ∈ l → j = d
 | [], _, j, hj => by simp at hj
 | .m i :: r, h, j, hj => by simp only [wS] at h; exact wS_some h j (by simpa using hj)
 | .s i :: r, h, j, hj => by
  simp only [wS] at h
  split at h
  ·rename_i hb
   rcases List.mem_cons.1 hj with e | hj
   ·cases e; exact (Nat.eq_of_beq_eq_true hb).symm
   ·exact wS_some h j hj
  ·cases h
theorem memN_mem {j : Nat} : ∀ {l : List Nat}, memN j l = true ↔ j ∈ l
 | [] => by simp [memN]
 | x :: r => by
  simp only [memN]
  cases hb : Nat.beq x j with
  | true => simp [(Nat.eq_of_beq_eq_true hb).symm]
  | false =>
   have hne : j ≠ x := by intro e; subst e; simp [Nat.beq_refl] at hb
   simp [memN_mem (l := r), hne]
theorem rS_ok {sl : List Nat} : ∀ {l : List Key}, rS sl l = true → ∀ j, Key.s j ∈ l → j ∈ sl
 | [], _, j, hj => by simp at hj
 | .m i :: r, h, j, hj => by simp only [rS] at h; exact rS_ok h j (by simpa using hj)
 | .s i :: r, h, j, hj => by
  simp only [rS] at h
  split at h
  ·rename_i hb
   rcases List.mem_cons.1 hj with e | hj
   ·cases e; exact memN_mem.1 hb
   ·exact rS_ok h j hj
  ·cases h
theorem logW_ok {ke id : Nat} {wl : List Nat} {j : Nat} (hj : j < ke) (h : j ∉ logW ke id wl) : j ∉ wl ∧ j ≠ id := by
 unfold logW at h
 split at h
 ·simp only [List.mem_cons, not_or] at h; exact ⟨h.2, h.1⟩
 ·rename_i hb
  refine ⟨h, ?_⟩
  intro e; subst e
  have : Nat.blt j ke = true := by simpa [Nat.blt_eq] using hj
  rw [this] at hb; cases hb
structure AppOk (k ke : Nat) (mm mem' : Mem) (ids : List Nat) (ms : Ms) (wl : List Nat) (ms' : Ms) (wl' : List Nat) : Prop where
 out : ∀ j, j ∉ ids → lookS j ms' = lookS j ms
 inn : ∀ j, j ∈ ids → lookS j ms' = lookA j mem'
 gone : ∀ j, j ∈ ids → lookA j mem' = none → ∃ b, lookA j mm = some b
 log : ∀ j, j < ke → j ∉ wl' → j ∉ wl ∧ lookS j ms' = lookS j ms
 old : ∀ j b, j < ke → lookS j ms' = some b → ∃ b0, lookS j ms = some b0
 wf : wfM ms (k + 1) → wfM ms' (k + 1)
 tl : Tails ms ms'
theorem applyW_ok {ke : Nat} (hke : ke ≤ k) {mm mem' : Mem} : ∀ {ids : List Nat} {ms : Ms} {wl : List Nat} {ms' : Ms} {wl' : List Nat}, applyW k ke mm mem' ids ms wl = some (ms', wl') → AppOk k ke mm mem' ids ms wl ms' wl'
 | [], ms, wl, ms', wl', h => by
  have : ms = ms' ∧ wl = wl' := by simpa [applyW] using h
  obtain ⟨rfl, rfl⟩ := this
  exact ⟨fun _ _ => rfl, fun _ h => (by cases h), fun _ h => (by cases h), fun _ _ h => ⟨h, rfl⟩, fun _ b _ h => ⟨b, h⟩, fun h => h, Tails.refl _⟩
 | i :: r, ms, wl, ms', wl', h => by
  have e : applyW k ke mm mem' (i :: r) ms wl = match lookF i mem' with
   | some b => (match lowB (k + 1) b with
    | true => (match Nat.beq i k with
     | true => applyW k ke mm mem' r (consS k b ms) wl
     | false => (match lookS i ms with
      | some _ => applyW k ke mm mem' r (putS i b ms) (logW ke i wl)
      | none => none))
    | false => none)
   | none => (match lookF i mm with
    | some _ => applyW k ke mm mem' r (delS i ms) (logW ke i wl)
    | none => none) := rfl
  rw [e] at h
  simp only [lookF_eq] at h
  split at h
  ·rename_i b hb
   split at h
   ·rename_i hlow
    split at h
    ·rename_i hik
     have hik : i = k := Nat.eq_of_beq_eq_true hik
     have ih := applyW_ok hke h
     refine ⟨?_, ?_, ?_, ?_, ?_, ?_, (tails_cons k b ms).trans ih.tl⟩
     ·intro j hj
      simp only [List.mem_cons, not_or] at hj
      rw [ih.out j hj.2, lookS_cons, if_neg (by rw [← hik]; exact fun e => hj.1 e.symm)]
     ·intro j hj
      by_cases hr : j ∈ r
      ·exact ih.inn j hr
      ·have : j = i := by simpa [hr] using hj
       subst this
       rw [ih.out j hr, lookS_cons, if_pos hik.symm, hb]
     ·intro j hj hn
      rcases List.mem_cons.1 hj with rfl | hj
      ·rw [hb] at hn; cases hn
      ·exact ih.gone j hj hn
     ·intro j hj hw
      let ⟨h1, h2⟩ := ih.log j hj hw
      exact ⟨h1, by rw [h2, lookS_cons, if_neg (by omega)]⟩
     ·intro j b' hj hb'
      let ⟨b0, h0⟩ := ih.old j b' hj hb'
      rw [lookS_cons, if_neg (by omega)] at h0
      exact ⟨b0, h0⟩
     ·intro hw
      refine ih.wf ?_
      intro id bb hbb
      rw [lookS_cons] at hbb
      split at hbb
      ·rename_i e'; cases hbb; exact ⟨by omega, lowB_ok hlow⟩
      ·exact hw id bb hbb
    ·split at h
     ·rename_i b0 hb0
      have ih := applyW_ok hke h
      have hput : ∀ j, lookS j (putS i b ms) = if i = j then some b else lookS j ms := by
       intro j; rw [lookS_put, hb0]
      refine ⟨?_, ?_, ?_, ?_, ?_, ?_, (tails_put i b ms).trans ih.tl⟩
      ·intro j hj
       simp only [List.mem_cons, not_or] at hj
       rw [ih.out j hj.2, hput, if_neg (fun e => hj.1 e.symm)]
      ·intro j hj
       by_cases hr : j ∈ r
       ·exact ih.inn j hr
       ·have : j = i := by simpa [hr] using hj
        subst this
        rw [ih.out j hr, hput, if_pos rfl, hb]
      ·intro j hj hn
       rcases List.mem_cons.1 hj with rfl | hj
       ·rw [hb] at hn; cases hn
       ·exact ih.gone j hj hn
      ·intro j hj hw
       let ⟨h1, h2⟩ := ih.log j hj hw
       let ⟨h3, h4⟩ := logW_ok hj h1
       exact ⟨h3, by rw [h2, hput, if_neg (fun e => h4 e.symm)]⟩
      ·intro j b' hj hb'
       let ⟨b1, h1⟩ := ih.old j b' hj hb'
       rw [hput] at h1
       split at h1
       ·rename_i e'; subst e'; exact ⟨b0, hb0⟩
       ·exact ⟨b1, h1⟩
      ·intro hw
       refine ih.wf ?_
       intro id bb hbb
       rw [hput] at hbb
       split at hbb
       ·rename_i e'; cases hbb; subst e'; exact ⟨(hw _ _ hb0).1, lowB_ok hlow⟩
       ·exact hw id bb hbb
     ·cases h
   ·cases h
  ·rename_i hb
   split at h
   ·rename_i b0 hb0
    have ih := applyW_ok hke h
    refine ⟨?_, ?_, ?_, ?_, ?_, ?_, (tails_del i ms).trans ih.tl⟩
    ·intro j hj
     simp only [List.mem_cons, not_or] at hj
     rw [ih.out j hj.2, lookS_del, if_neg (fun e => hj.1 e.symm)]
    ·intro j hj
     by_cases hr : j ∈ r
     ·exact ih.inn j hr
     ·have : j = i := by simpa [hr] using hj
      subst this
      rw [ih.out j hr, lookS_del, if_pos rfl, hb]
    ·intro j hj hn
     rcases List.mem_cons.1 hj with rfl | hj
     ·exact ⟨b0, hb0⟩
     ·exact ih.gone j hj hn
    ·intro j hj hw
     let ⟨h1, h2⟩ := ih.log j hj hw
     let ⟨h3, h4⟩ := logW_ok hj h1
     exact ⟨h3, by rw [h2, lookS_del, if_neg (fun e => h4 e.symm)]⟩
    ·intro j b' hj hb'
     let ⟨b1, h1⟩ := ih.old j b' hj hb'
     rw [lookS_del] at h1
     split at h1
     ·cases h1
     ·exact ⟨b1, h1⟩
    ·intro hw
     refine ih.wf ?_
     intro id bb hbb
     rw [lookS_del] at hbb
     split at hbb
     ·cases hbb
     ·exact hw id bb hbb
   ·cases h
structure Left (ke : Nat) (dep n : Nat) (t : Tr) (ms : Ms) (k : Nat) (wl : List Nat) (t' : Tr) (ms' : Ms) (k' : Nat) (wl' : List Nat) : Prop where
 le : k ≤ k'
 wfT : wfT dep n t' k'
 wfM : wfM ms' k'
 log : ∀ j, j < ke → j ∉ wl' → j ∉ wl ∧ lookS j ms' = lookS j ms
 old : ∀ j b, j < ke → lookS j ms' = some b → ∃ b0, lookS j ms = some b0
 tl : Tails ms ms'
theorem setV_ok {d : List D4} {v : AV} {k1 : Nat} {wl : List Nat} {f : Ft} {t' : Tr} {ms' : Ms} {k' : Nat} {wl' : List Nat} {f' : Ft} (h : setV d v t ms k1 wl f = .ok t' ms' k' wl' f') : t' = setT d v t ∧ ms' = ms ∧ k' = k1 ∧ wl' = wl ∧ f' = f ∧ ∀ id ∈ v.mids, id < k1 := by
 unfold setV at h
 split at h
 ·rename_i hl
  simp only [Rs.ok.injEq] at h
  let ⟨h1, h2, h3, h4, h5⟩ := h
  exact ⟨h1.symm, h2.symm, h3.symm, h4.symm, h5.symm, lowV_ok hl⟩
 ·cases h
theorem gen_sound (htt : ttB P tt = true) {ke : Nat} (hke : ke ≤ k) (hn : n ≤ 4 ^ dep) {o : Oper} (hg : o.guard = none) {d : Option (Nat × List D4)} (hd : o.dst = d.map (·.1)) (hdp : ∀ x, d = some x → x.2 = pth dep x.1 ∧ x.1 < n) {sl : List (Nat × List D4)} (hsl : slP dep n (slotsOf o.op.operands.toList) = some sl)
  (hwT : wfT dep n t k) (hwM : wfM ms k) {wl : List Nat} {t' : Tr} {ms' : Ms} {k' : Nat} {wl' : List Nat} {f : Ft} (h : genR tt n ke d sl o.op t ms k wl (mini sl t) (miniM (midsSl (mini sl t)) ms) = .ok t' ms' k' wl' f) :
  ∃ ks, StepX P n #[o] 0 (absS dep n t ms.flatten) (absS dep n t' ms'.flatten) k k' ks ∧ (∀ j, Key.s j ∈ ks.1 → j ∈ slotsOf o.op.operands.toList) ∧ (∀ j, Key.s j ∈ ks.2 → o.dst = some j) ∧ (∀ id, Key.m id ∈ ks.1 → FtR f id) ∧ (∀ id, Key.m id ∈ ks.2 → FtW f id) ∧ Left ke dep n t ms k wl t' ms' k' wl' := by
 have hslm := slP_mem hsl
 have hsub : ∀ key x, St.kn ⟨mini sl t, miniM (midsSl (mini sl t)) ms, 0, []⟩ key = some x → (absS dep n t ms.flatten).kn key = some x := by
  intro key x hx
  cases key with
  | s j =>
   simp only [St.kn, Option.map_eq_some_iff] at hx
   obtain ⟨v, hv, rfl⟩ := hx
   let ⟨h1, h2⟩ := mini_sub (dep := dep) (n := n) (fun y hy => ⟨(hslm y hy).1, (hslm y hy).2.1⟩) hv
   simp [absS, St.kn, look_slots, h1, h2]
  | m id =>
   simp only [St.kn, Option.map_eq_some_iff] at hx
   obtain ⟨v, hv, rfl⟩ := hx
   simp [absS, St.kn, look_flat, miniM_sub hv]
 unfold genR at h
 split at h
 ·rename_i st' k1 ks hs
  split at h
  ·rename_i hchk
   simp only [Bool.and_eq_true] at hchk
   let ⟨⟨hk1, hws⟩, hrs⟩ := hchk
   have hk1 : k1 = k + 1 := Nat.eq_of_beq_eq_true hk1
   subst hk1
   split at h
   ·rename_i ms2 wl2 ha
    have hA := applyW_ok hke ha
    rw [← hd] at hs hws
    let ⟨rd, wr, hst, hrd, hkn, hle, hr1, hr2⟩ := stepU_sound htt (fun _ _ _ _ _ _ _ h => by simp [cal0] at h) (o := o) hg hs
    have hsays : ∀ key, key ∉ ks.2 → says wr key = none := by
     intro key hk
     cases hsy : says wr key with
     | none => rfl
     | some x => exact absurd (hr2 key (wrt_mem (by simp [wrt, hsy]))) hk
    have hmem : ∀ id, (lookA id ms2.flatten).map Info.b = upd (absS dep n t ms.flatten).kn wr (.m id) := by
     intro id
     rw [look_flat]
     by_cases hin : id ∈ mK ks.2
     ·rw [hA.inn id hin]
      have h1 : (lookA id st'.mem).map Info.b = upd (St.kn ⟨mini sl t, miniM (midsSl (mini sl t)) ms, 0, []⟩) wr (.m id) := by rw [← hkn]; rfl
      rw [h1]
      simp only [upd]
      cases hsy : says wr (.m id) with
      | some x => rfl
      | none =>
       simp only
       have h2 : (lookA id st'.mem).map Info.b = (lookA id (miniM (midsSl (mini sl t)) ms)).map Info.b := by
        rw [h1]; simp only [upd, hsy]; rfl
       cases hm : lookA id st'.mem with
       | none =>
        let ⟨b, hb⟩ := hA.gone id hin hm
        rw [hm, hb] at h2
        simp at h2
       | some b =>
        rw [hm] at h2
        simp only [Option.map_some] at h2
        rw [show St.kn ⟨mini sl t, miniM (midsSl (mini sl t)) ms, 0, []⟩ (.m id) = some (Info.b b) from h2.symm]
        exact (hsub (.m id) (.b b) h2.symm).symm
     ·rw [hA.out id hin]
      simp only [upd, hsays (.m id) (fun hc => hin (mK_mem.2 hc))]
      simp [absS, St.kn, look_flat]
    have hL : ∀ {t'' : Tr}, wfT dep n t'' (k + 1) → Left ke dep n t ms k wl t'' ms2 (k + 1) wl2 := fun hw => ⟨by omega, hw, hA.wf (hwM.le (by omega)), hA.log, hA.old, hA.tl⟩
    cases d with
    | none =>
     simp only [Rs.ok.injEq] at h
     obtain ⟨rfl, rfl, rfl, rfl, rfl⟩ := h
     have hd' : o.dst = none := hd
     rw [hd'] at hws
     refine ⟨ks, ⟨rd, wr, hst, fun kx hkx => hsub _ _ (hrd kx hkx), ?_, hle, hr1, hr2⟩, ?_, ?_, ?_, ?_, hL (hwT.le (by omega))⟩
     ·exact abs_mem dep n t ms.flatten _ wr hmem (fun j => hsays _ (wS_none hws j))
     ·intro j hj
      let ⟨x, hx, e⟩ := List.mem_map.1 (rS_ok hrs j hj)
      rw [← e]; exact (hslm x hx).2.2
     ·intro j hj; exact absurd hj (wS_none hws j)
     ·intro id hid; exact mK_mem.2 hid
     ·intro id hid; exact mK_mem.2 hid
    | some x =>
     let ⟨dn, dp⟩ := x
     let ⟨hdp1, hdn⟩ := hdp (dn, dp) rfl
     simp only at hdp1 hdn
     have hd' : o.dst = some dn := hd
     rw [hd'] at hws
     simp only at h
     split at h
     ·rename_i v hv
      obtain ⟨rfl, rfl, rfl, rfl, rfl, hlow⟩ := setV_ok h
      subst hdp1
      refine ⟨ks, ⟨rd, wr, hst, fun kx hkx => hsub _ _ (hrd kx hkx), ?_, hle, hr1, hr2⟩, ?_, ?_, ?_, ?_, hL ((hwT.le (by omega)).set hn hdn hlow)⟩
      ·funext key
       cases key with
       | m id => exact hmem id
       | s j =>
        rw [abs_kn]
        simp only
        by_cases e : j = dn
        ·subst e
         rw [if_pos hdn, get_set]
         have h1 : upd (St.kn ⟨mini sl t, miniM (midsSl (mini sl t)) ms, 0, []⟩) wr (.s j) = some (.v v) := by rw [← hkn]; simp [St.kn, hv]
         simp only [upd] at h1 ⊢
         cases hsy : says wr (.s j) with
         | some y => rw [hsy] at h1; simp only at h1 ⊢; rw [h1]; rfl
         | none => rw [hsy] at h1; simp only at h1 ⊢; rw [hsub _ _ h1]; rfl
        ·have hno : says wr (.s j) = none := hsays _ (fun hc => e (wS_some hws j hc))
         simp only [upd, hno, absS, St.kn, look_slots]
         by_cases hj : j < n
         ·rw [if_pos hj, if_pos hj, get_set_ne _ _ _ _ (by rw [pth_length, pth_length]) (fun e' => e (pth_inj dep (by omega) (by omega) e').symm)]
         ·rw [if_neg hj, if_neg hj]
      ·intro j hj
       let ⟨x, hx, e⟩ := List.mem_map.1 (rS_ok hrs j hj)
       rw [← e]; exact (hslm x hx).2.2
      ·intro j hj; rw [hd', wS_some hws j hj]
      ·intro id hid; exact mK_mem.2 hid
      ·intro id hid; exact mK_mem.2 hid
     ·cases h
   ·cases h
  ·cases h
 ·cases d with
  | none => cases h
  | some x =>
   let ⟨dn, dp⟩ := x
   let ⟨hdp1, hdn⟩ := hdp (dn, dp) rfl
   simp only at hdp1 hdn
   subst hdp1
   have hd' : o.dst = some dn := hd
   dsimp only at h
   unfold pureV at h
   split at h
   ·rename_i v p he
    split at h
    ·rename_i hpr
     obtain ⟨rfl, rfl, rfl, rfl, rfl, hlow⟩ := setV_ok h
     have hst := evalM_sound (P := P) htt (ops := #[o]) (i := 0) rfl hg hd' hdn he (prF_ok hpr) k
     refine ⟨(okeys o.op.operands.toList, [.s dn]), StepX.of_s hst (fun kx hkx => hsub _ _ (rdV_kn _ _ kx hkx)) (abs_set dep n t _ dn v hn hdn) keysV (by simp [keysOf]), ?_, ?_, ?_, ?_, ⟨by omega, (hwT.le (by omega)).set hn hdn hlow, hwM.le (by omega), fun _ _ h => ⟨h, rfl⟩, fun _ b _ h => ⟨b, h⟩, Tails.refl _⟩⟩
     ·intro j hj; exact slotsOf_okeys.2 hj
     ·intro j hj; simp only [List.mem_singleton, Key.s.injEq] at hj; rw [hd', hj]
     ·intro id hid; let ⟨j, hj⟩ := okeys_s hid; cases hj
     ·intro id hid; simp at hid
    ·cases h
   ·cases h
end
section
variable {P : Program} {tt : TT} {dep n : Nat} {t : Tr} {ms : Ms} {k : Nat}
theorem says_map_m (g : Nat → Option Info) (j : Nat) : ∀ l : List Nat, says (l.map fun id => (Key.m id, g id)) (.m j) = if j ∈ l then some (g j) else none
 | [] => rfl
 | i :: l => by
  simp only [List.map_cons, says, Key.m.injEq, says_map_m g j l, List.mem_cons]
  by_cases e : i = j
  ·subst e; simp
  ·simp [e, show j ≠ i from fun h => e h.symm]
theorem says_map_s (g : Nat → Option Info) (j : Nat) : ∀ l : List Nat, says (l.map fun id => (Key.m id, g id)) (.s j) = none
 | [] => rfl
 | i :: l => by simp only [List.map_cons, says, reduceCtorEq, if_false, says_map_s g j l]
theorem in_fst : ∀ {l : List (Nat × Blk)} {id : Nat} {b : Blk}, lookA id l = some b → id ∈ l.map (·.1)
 | [], id, b, h => by simp [lookA] at h
 | (j, x) :: l, id, b, h => by
  simp only [lookA] at h
  split at h
  ·rename_i e; simp [e]
  ·exact List.mem_cons_of_mem _ (in_fst h)
theorem fst_in : ∀ {l : List (Nat × Blk)} {id : Nat}, id ∈ l.map (·.1) → ∃ b, lookA id l = some b
 | [], id, h => by simp at h
 | (j, x) :: l, id, h => by
  simp only [lookA]
  split
  ·exact ⟨_, rfl⟩
  ·rename_i e
   rcases List.mem_cons.1 h with h | h
   ·exact absurd h.symm e
   ·exact fst_in h
theorem sx_call {cal : CallG} (hcal : CalOk P cal) (hn : n ≤ 4 ^ dep) {o : Oper} (hg : o.guard = none) {d : Nat} (hd : o.dst = some d) (hdn : d < n) {cf : Operand} {args : Array Operand} {tys : Array TypeId} (hop : o.op = .call ⟨.value cf, args, tys⟩) {f : FuncId} {vs : List AV} {ids : List Nat}
  (ht : tgtC (absS dep n t ms.flatten) cf args.toList = some (f, vs, ids)) (hids : ∀ id ∈ ids, id < k) (hvs : ∀ id ∈ midsVs vs, id < k) (hwM : wfM ms k) {r : AV} {ms' : Ms} {k' : Nat} {wlc : List Nat} (hc : cal f vs ms k = .ok r ms' k' wlc) :
  ∃ ks, StepX P n #[o] 0 (absS dep n t ms.flatten) (absS dep n (setT (pth dep d) r t) ms'.flatten) k k' ks ∧ (∀ j, Key.s j ∈ ks.1 → Key.s j ∈ okeys (cf :: args.toList)) ∧ (∀ j, Key.s j ∈ ks.2 → j = d) ∧ (∀ id, Key.m id ∈ ks.1 → id < k) ∧ (∀ id, Key.m id ∈ ks.2 → (id ∈ wlc ∧ id < k) ∨ (k ≤ id ∧ id < k')) := by
 let ⟨hCX, hrm, hmm, hun, hold, hwf', hrl, _⟩ := hcal.ok hc hwM hvs
 have hfmk : ∀ id b, lookA id ms.flatten = some b → id < k ∧ ∀ j ∈ b.mids, j < k := fun id b hb => hwM id b (by rw [← look_flat]; exact hb)
 let st : St := absS dep n t ms.flatten
 let wrL : List (Key × Option Info) := (wlc.filter (fun id => (lookA id ms.flatten).isSome)).map (fun id => (Key.m id, (lookA id ms'.flatten).map Info.b))
 let wr : List (Key × Option Info) := (.s d, some (.v r)) :: (wrL ++ wrN k ms'.flatten)
 let rd := opd st cf ++ args.toList.flatMap (opd st) ++ mrd st ids ++ mrd st (ms.flatten.map (·.1))
 have hsm : ∀ j, says wr (.m j) = if j ∈ wlc ∧ (lookA j ms.flatten).isSome = true then some ((lookA j ms'.flatten).map Info.b) else if k ≤ j then (lookA j ms'.flatten).map (fun b => some (.b b)) else none := by
  intro j
  simp only [wr, wrL, says, reduceCtorEq, if_false, says_append, says_map_m (fun id => (lookA id ms'.flatten).map Info.b) j, says_wrN_m, List.mem_filter]
  by_cases h : j ∈ wlc ∧ (lookA j ms.flatten).isSome = true
  ·simp [h]
  ·rw [if_neg h, if_neg h]
 have hss : ∀ j, says wr (.s j) = if d = j then some (some (.v r)) else none := by
  intro j
  simp only [wr, wrL, says, says_append, says_map_s (fun id => (lookA id ms'.flatten).map Info.b) j, says_wrN_s, Key.s.injEq]
 have hlk : ∀ j, j < k → j ∉ wlc → lookA j ms'.flatten = lookA j ms.flatten := by
  intro j h1 h2; rw [look_flat, look_flat]; exact hun j h1 h2
 refine ⟨(rkeysOf rd, keysOf wr), ⟨rd, wr, ?_, ?_, ?_, hCX.le, fun _ h => h, fun _ h => h⟩, ?_, ?_, ?_, ?_⟩
 ·intro F hFn Q known σ g W a K hnew hsem hrd hK
  let ⟨us, hex, hrel, hkv⟩ := tgtC_run hsem hop ht hCX.call (fun kx hkx => hrd kx (List.mem_append_left _ hkx))
  have hmem := mrd_mem (st := st) (ids := ms.flatten.map (·.1)) (σ := σ) (fun kx hkx => hrd kx (List.mem_append_right _ hkx))
  have hrd' : ∀ id b, lookA id ms.flatten = some b → σ (.m id) = some (.b b) := fun id b hb => hmem id (in_fst hb) b hb
  have hszd : d < a.tmps.size := by rw [hsem.size, hFn]; exact hdn
  have hc' := cx_stepP hCX hvs hfmk (fun id hid => by
    rcases hrm id hid with h | ⟨b, hb⟩
    ·exact .inl h
    ·exact .inr ⟨b, by rw [look_flat]; exact hb⟩) (fun id b hb => by
    rcases hmm id b (by rw [← look_flat]; exact hb) with h | h
    ·exact .inl (by rw [look_flat]; exact h)
    ·refine .inr (fun j hj => ?_)
     rcases h j hj with h | ⟨b', hb'⟩
     ·exact .inl h
     ·exact .inr ⟨b', by rw [look_flat]; exact hb'⟩) hsem hnew hrel hkv hrd' hszd
  have hupd : upd σ ((.s d, some (.v r)) :: (wrM ms'.flatten ms.flatten ++ wrN k ms'.flatten)) = upd σ wr := by
   funext key
   cases key with
   | s j =>
    simp only [upd, hss, says, says_append, says_wrM_s, says_wrN_s, Key.s.injEq]
   | m j =>
    simp only [upd, hsm, says, reduceCtorEq, if_false, says_append, says_wrM_m, says_wrN_m]
    by_cases hin : (lookA j ms.flatten).isSome = true
    ·by_cases hw : j ∈ wlc
     ·simp [hin, hw]
     ·let ⟨b, hb⟩ := Option.isSome_iff_exists.1 hin
      have hjk := (hfmk j b hb).1
      simp only [hin, if_true, hw, false_and, if_false]
      rw [if_neg (by omega), hlk j hjk hw, hb, hrd' j b hb]
      rfl
    ·simp [hin]
  rw [hupd] at hc'
  unfold wpOp
  simp only [List.getElem?_toArray, List.getElem?_cons_zero, Region.wanted, hg, if_true]
  refine .inl ?_
  unfold Oper.wp
  rw [hex]
  simp only [Oper.upon, hd]
  refine hc'.mono ?_
  rintro e W' ⟨v, g', rfl, h'⟩
  exact hK g' W' _ h'
 ·intro kx hkx
  rcases List.mem_append.1 hkx with h | h
  ·rcases List.mem_append.1 h with h | h
   ·rcases List.mem_append.1 h with h | h
    ·exact opd_kn _ _ kx h
    ·let ⟨x, _, hx⟩ := List.mem_flatMap.1 h
     exact opd_kn _ _ kx hx
   ·exact mrd_kn _ _ kx h
  ·exact mrd_kn _ _ kx h
 ·funext key
  cases key with
  | s j =>
   simp only [upd, hss, absS, St.kn, look_slots_set dep n t d j r hn hdn]
   by_cases e : d = j <;> simp [e]
  | m j =>
   simp only [upd, hsm, absS, St.kn]
   by_cases h : j ∈ wlc ∧ (lookA j ms.flatten).isSome = true
   ·simp [h]
   ·rw [if_neg h]
    by_cases hk : k ≤ j
    ·rw [if_pos hk]
     cases hx : lookA j ms'.flatten with
     | some b => rfl
     | none =>
      have : lookA j ms.flatten = none := by
       cases hy : lookA j ms.flatten with
       | none => rfl
       | some b => exact absurd (hfmk j b hy).1 (by omega)
      simp [this]
    ·rw [if_neg hk]
     by_cases hw : j ∈ wlc
     ·have hno : lookA j ms.flatten = none := by
       cases hy : lookA j ms.flatten with
       | none => rfl
       | some b => exact absurd ⟨hw, by simp [hy]⟩ h
      have : lookA j ms'.flatten = none := by
       cases hy : lookA j ms'.flatten with
       | none => rfl
       | some b =>
        rcases hold j b (by rw [← look_flat]; exact hy) with h1 | ⟨b0, h1⟩
        ·omega
        ·rw [← look_flat, hno] at h1; cases h1
      rw [this, hno]
     ·rw [hlk j (by omega) hw]
 ·intro j hj
  have hsub : ∀ key ∈ rkeysOf rd, key ∈ okeys (cf :: args.toList) ∨ ∃ id, key = Key.m id := by
   intro key hk
   simp only [rkeysOf, rd, List.map_append, List.mem_append] at hk
   rcases hk with ((h | h) | h) | h
   ·exact .inl (okeys_opd st (cf :: args.toList) key (by simp only [List.flatMap_cons, rkeysOf, List.map_append, List.mem_append]; exact .inl h))
   ·exact .inl (okeys_opd st (cf :: args.toList) key (by simp only [List.flatMap_cons, rkeysOf, List.map_append, List.mem_append]; exact .inr h))
   ·have := mkeys_mrd st ids key h
    right
    revert this
    generalize ids = l
    intro this
    induction l with
    | nil => simp [mkeys] at this
    | cons i l ih => simp only [mkeys, List.mem_cons] at this; exact this.elim (fun e => ⟨i, e⟩) ih
   ·have := mkeys_mrd st _ key h
    right
    revert this
    generalize ms.flatten.map (·.1) = l
    intro this
    induction l with
    | nil => simp [mkeys] at this
    | cons i l ih => simp only [mkeys, List.mem_cons] at this; exact this.elim (fun e => ⟨i, e⟩) ih
  rcases hsub _ hj with h | ⟨id, h⟩
  ·exact h
  ·cases h
 ·intro j hj
  apply Decidable.byContradiction
  intro hne
  have := hss j
  rw [if_neg (fun e => hne e.symm)] at this
  have h2 : ∀ {u : List (Key × Option Info)} {key : Key}, key ∈ keysOf u → says u key ≠ none := by
   intro u
   induction u with
   | nil => intro key h; simp [keysOf] at h
   | cons x u ih =>
    intro key h
    simp only [says]
    split
    ·simp
    ·rename_i hne
     simp only [keysOf, List.map_cons, List.mem_cons] at h
     rcases h with h | h
     ·exact absurd h.symm hne
     ·exact ih h
  exact h2 hj this
 ·intro id hid
  simp only [rkeysOf, rd, List.map_append, List.mem_append] at hid
  have hmk : ∀ {l : List Nat}, Key.m id ∈ mkeys l → id ∈ l := by
   intro l
   induction l with
   | nil => simp [mkeys]
   | cons i l ih => simp only [mkeys, List.mem_cons, Key.m.injEq]; exact fun h => h.elim .inl (fun h => .inr (ih h))
  have hok : ∀ {l : List Operand}, Key.m id ∉ okeys l := by
   intro l
   induction l with
   | nil => simp [okeys]
   | cons x l ih => cases x <;> simp [okeys, ih]
  rcases hid with ((h | h) | h) | h
  ·exact absurd (okeys_opd st [cf] (.m id) (by simpa [rkeysOf] using h)) hok
  ·exact absurd (okeys_opd st args.toList (.m id) h) hok
  ·exact hids id (hmk (mkeys_mrd st ids _ h))
  ·let ⟨b, hb⟩ := fst_in (hmk (mkeys_mrd st _ _ h))
   exact (hfmk id b hb).1
 ·intro id hid
  simp only [keysOf, wr, wrL, List.map_cons, List.map_append, List.mem_cons, reduceCtorEq, false_or, List.mem_append, List.map_map] at hid
  rcases hid with h | h
  ·let ⟨j, hj, e⟩ := List.mem_map.1 h
   simp only [Function.comp, Key.m.injEq] at e
   subst e
   let ⟨h1, h2⟩ := List.mem_filter.1 hj
   let ⟨b, hb⟩ := Option.isSome_iff_exists.1 h2
   exact .inl ⟨h1, (hfmk _ b hb).1⟩
  ·right
   have hw : ∀ {l : List (Nat × Blk)}, Key.m id ∈ (wrN k l).map (·.1) → k ≤ id ∧ id ∈ l.map (·.1) := by
    intro l
    induction l with
    | nil => simp [wrN]
    | cons x l ih =>
     let ⟨i, b⟩ := x
     simp only [wrN]
     split
     ·rename_i hki
      simp only [List.map_cons, List.mem_cons, Key.m.injEq]
      rintro (rfl | h)
      ·exact ⟨hki, .inl rfl⟩
      ·exact ⟨(ih h).1, .inr (ih h).2⟩
     ·intro h; exact ⟨(ih h).1, List.mem_cons_of_mem _ (ih h).2⟩
   let ⟨h1, h2⟩ := hw h
   let ⟨b, hb⟩ := fst_in h2
   exact ⟨h1, (hwf' id b (by rw [← look_flat]; exact hb)).1⟩
end
def dstK : Option Nat → List Key
 | some d => [.s d]
 | none => []
theorem opdsOf_eq (op : Op) : opdsOf op = op.operands.toList := by
 unfold opdsOf
 split
 ·rename_i cf args tys
  simp [Op.operands, Call.operands]
 ·rfl
section
variable {P : Program} {tt : TT} {dep n : Nat} {t : Tr} {ms : Ms} {k : Nat}
theorem cov_pure {l : List Operand} {d : Nat} {sk : Ks} (h1 : sk.1 = okeys l) (h2 : sk.2 = [.s d]) : CovK (okeys l, [.s d]) sk .n := by
 refine ⟨fun key hk => ?_, fun key hk => ?_⟩
 ·obtain ⟨j, rfl⟩ := okeys_s hk
  simp only [h1]; exact hk
 ·simp only [List.mem_singleton] at hk
  subst hk
  simp [h2]
theorem left_pure {ke : Nat} (hn : n ≤ 4 ^ dep) {d : Nat} (hdn : d < n) (hwT : wfT dep n t k) (hwM : wfM ms k) {wl : List Nat} {v : AV} (hv : ∀ id ∈ v.mids, id < k + 1) : Left ke dep n t ms k wl (setT (pth dep d) v t) ms (k + 1) wl :=
 ⟨by omega, (hwT.le (by omega)).set hn hdn hv, hwM.le (by omega), fun _ _ h => ⟨h, rfl⟩, fun _ b _ h => ⟨b, h⟩, Tails.refl _⟩
theorem mergeW_ok {ke : Nat} {wlc wl : List Nat} {j : Nat} (hj : j < ke) (h : j ∉ mergeW ke wlc wl) : j ∉ wlc ∧ j ∉ wl := by
 unfold mergeW at h
 split at h
 ·exact ⟨by simp, h⟩
 ·simp only [List.mem_append, List.mem_filter, not_or, not_and] at h
  exact ⟨fun hc => h.1 hc (by simpa [Nat.blt_eq] using hj), h.2⟩
theorem callR_ok {cal : CallG} {ke : Nat} {d : List D4} {f : FuncId} {vs : List AV} {wl : List Nat} {t' : Tr} {ms' : Ms} {k' : Nat} {wl' : List Nat} {ft : Ft} (h : callR cal ke d f vs t ms k wl = .ok t' ms' k' wl' ft) :
  ∃ r wlc, cal f vs ms k = .ok r ms' k' wlc ∧ t' = setT d r t ∧ wl' = mergeW ke wlc wl ∧ ft = .c k k' wlc := by
 unfold callR at h
 split at h
 ·rename_i r ms1 k1 wlc hc
  obtain ⟨rfl, rfl, rfl, rfl, rfl, _⟩ := setV_ok h
  exact ⟨r, wlc, hc, rfl, rfl, rfl⟩
 ·cases h
theorem call_fin {cal : CallG} (hcal : CalOk P cal) {ke : Nat} (hke : ke ≤ k) (hn : n ≤ 4 ^ dep) {o : Oper} (hg : o.guard = none) {d : Nat} (hd : o.dst = some d) (hdn : d < n) {cf : Operand} {args : Array Operand} {tys : Array TypeId} (hop : o.op = .call ⟨.value cf, args, tys⟩) {f : FuncId} {vs : List AV} {ids : List Nat}
  (ht : tgtC (absS dep n t ms.flatten) cf args.toList = some (f, vs, ids)) (hids : ∀ id ∈ ids, id < k) (hvs : ∀ id ∈ midsVs vs, id < k) (hwT : wfT dep n t k) (hwM : wfM ms k) {wl : List Nat} {t' : Tr} {ms' : Ms} {k' : Nat} {wl' : List Nat} {ft : Ft} (h : callR cal ke (pth dep d) f vs t ms k wl = .ok t' ms' k' wl' ft) :
  ∃ ks, StepX P n #[o] 0 (absS dep n t ms.flatten) (absS dep n t' ms'.flatten) k k' ks ∧ CovK ks (okeys (opdsOf o.op), dstK o.dst) ft ∧ Left ke dep n t ms k wl t' ms' k' wl' := by
 obtain ⟨r, wlc, hc, rfl, rfl, rfl⟩ := callR_ok h
 let ⟨ks, hx, h1, h2, h3, h4⟩ := sx_call hcal hn hg hd hdn hop ht hids hvs hwM hc
 let ⟨hCX, hrm, hmm, hun, hold, hwf', hrl, htl⟩ := hcal.ok hc hwM hvs
 refine ⟨ks, hx, ⟨fun key hk => ?_, fun key hk => ?_⟩, ⟨hCX.le, (hwT.le hCX.le).set hn hdn hrl, hwf', fun j hj hw => ?_, fun j b hj hb => ?_, htl⟩⟩
 ·cases key with
  | s j => simp only [opdsOf, hop]; exact h1 j hk
  | m id => exact h3 id hk
 ·cases key with
  | s j => simp only [hd, dstK]; rw [h2 j hk]; simp
  | m id => exact h4 id hk
 ·let ⟨h5, h6⟩ := mergeW_ok hj hw
  exact ⟨h6, hun j (by omega) h5⟩
 ·rcases hold j b hb with h5 | h5
  ·omega
  ·exact h5
theorem stepI_sound (htt : ttB P tt = true) {cal : CallG} (hcal : CalOk P cal) {ke : Nat} (hke : ke ≤ k) (hn : n ≤ 4 ^ dep) {o : Oper} (hg : o.guard = none) {i : Ins} (hc : compO dep n o.dst o.op = some i) (hwT : wfT dep n t k) (hwM : wfM ms k) {wl : List Nat} {t' : Tr} {ms' : Ms} {k' : Nat} {wl' : List Nat} {f : Ft}
  (h : stepI cal tt n ke i t ms k wl = .ok t' ms' k' wl' f) :
  (∃ ks, StepX P n #[o] 0 (absS dep n t ms.flatten) (absS dep n t' ms'.flatten) k k' ks ∧ CovK ks (okeys (opdsOf o.op), dstK o.dst) f ∧ Left ke dep n t ms k wl t' ms' k' wl') ∧ (touches o = false → f = .n) := by
 have gen : ∀ {d : Option Nat}, o.dst = d → (∀ x, d = some x → x < n) → compGen dep n d o.op = some i → ∃ ks, StepX P n #[o] 0 (absS dep n t ms.flatten) (absS dep n t' ms'.flatten) k k' ks ∧ CovK ks (okeys (opdsOf o.op), dstK o.dst) f ∧ Left ke dep n t ms k wl t' ms' k' wl' := by
  intro d hd hdn hcg
  unfold compGen at hcg
  split at hcg
  ·rename_i sl hsl
   have key : ∀ dd : Option (Nat × List D4), d = dd.map (·.1) → (∀ x, dd = some x → x.2 = pth dep x.1 ∧ x.1 < n) → i = .gen dd sl o.op → ∃ ks, StepX P n #[o] 0 (absS dep n t ms.flatten) (absS dep n t' ms'.flatten) k k' ks ∧ CovK ks (okeys (opdsOf o.op), dstK o.dst) f ∧ Left ke dep n t ms k wl t' ms' k' wl' := by
    intro dd hdd hdp hi
    subst hi
    let ⟨ks, hx, h1, h2, h3, h4, h5⟩ := gen_sound htt hke hn hg (hd.trans hdd) hdp hsl hwT hwM h
    refine ⟨ks, hx, ⟨fun key hk => ?_, fun key hk => ?_⟩, h5⟩
    ·cases key with
     | s j => simp only [opdsOf_eq]; exact slotsOf_okeys.1 (h1 j hk)
     | m id => exact h3 id hk
    ·cases key with
     | s j => simp [h2 j hk, dstK]
     | m id => exact h4 id hk
   cases d with
   | some d =>
    simp only [Option.some.injEq] at hcg
    exact key (some (d, pth dep d)) rfl (fun x hx => by cases hx; exact ⟨rfl, hdn d rfl⟩) hcg.symm
   | none =>
    simp only [Option.some.injEq] at hcg
    exact key none rfl (fun x hx => by cases hx) hcg.symm
  ·cases hcg
 unfold compO at hc
 split at hc
 ·rename_i hd
  split at hc
  ·rename_i ty x y hop
   refine ⟨?_, fun htc => by simp [touches, hd] at htc⟩
   split at hc
   ·rename_i p q hp hq
    cases hc
    simp only [stepI, stSt, stSt1] at h
    split at h
    ·rename_i v w hv hw
     ·split at h
      ·rename_i id b us rs hst
       split at h
       ·rename_i hlow
        simp only [Rs.ok.injEq] at h
        obtain ⟨rfl, rfl, rfl, rfl, rfl⟩ := h
        let ⟨hx, b0, hb0, hbm⟩ := sx_st (P := P) (k := k) htt hg hd hop (compP_ev hp hv) (compP_ev hq hw) hst
        have hput : ∀ j, lookS j (putS id b ms) = if id = j then some b else lookS j ms := fun j => by rw [lookS_put, hb0]
        refine ⟨_, hx, ⟨fun key hk => ?_, fun key hk => ?_⟩, ⟨by omega, hwT.le (by omega), ?_, ?_, ?_, tails_put id b ms⟩⟩
        ·rcases List.mem_append.1 hk with hk | hk
         ·obtain ⟨j, rfl⟩ := okeys_s hk
          simpa [opdsOf, hop, Op.operands] using hk
         ·have : ∀ l : List Nat, key ∈ mkeys l → ∃ j ∈ l, key = .m j := by
           intro l
           induction l with
           | nil => intro h; cases h
           | cons a l ih =>
            intro h
            rcases List.mem_cons.1 h with h | h
            ·exact ⟨a, by simp, h⟩
            ·obtain ⟨j, hj, e⟩ := ih h
             exact ⟨j, by simp [hj], e⟩
          obtain ⟨j, hj, rfl⟩ := this _ hk
          simpa [FtR] using hj
        ·simp only [List.mem_singleton] at hk
         subst hk
         simp [FtW]
        ·intro j b' hb'
         rw [hput] at hb'
         split at hb'
         ·rename_i e; cases hb'; subst e
          exact ⟨Nat.lt_succ_of_lt (hwM _ _ hb0).1, fun j hj => Nat.lt_succ_of_lt ((hbm j hj).elim ((hwM _ _ hb0).2 j) (lowL_ok hlow j))⟩
         ·exact (hwM.le (Nat.le_succ k)) j b' hb'
        ·intro j hj hw'
         let ⟨h1, h2⟩ := logW_ok hj hw'
         exact ⟨h1, by rw [hput, if_neg (fun e => h2 e.symm)]⟩
        ·intro j b' _ hb'
         rw [hput] at hb'
         split at hb'
         ·rename_i e; subst e; exact ⟨b0, hb0⟩
         ·exact ⟨b', hb'⟩
       ·cases h
      ·cases h
    ·cases h
   ·cases hc
  ·exact ⟨gen hd (fun x hx => by cases hx) hc, fun htc => by simp [touches, hd] at htc⟩
 ·rename_i d hd
  split at hc
  ·cases hc
  ·rename_i hdn
   have hdn : d < n := blt_lt hdn
   have pv : ∀ {v : AV}, t' = setT (pth dep d) v t → ms' = ms → k' = k + 1 → wl' = wl → f = .n → (∀ id ∈ v.mids, id < k + 1) → StepX P n #[o] 0 (absS dep n t ms.flatten) (absS dep n (setT (pth dep d) v t) ms.flatten) k (k + 1) (okeys o.op.operands.toList, [.s d]) →
     (∃ ks, StepX P n #[o] 0 (absS dep n t ms.flatten) (absS dep n t' ms'.flatten) k k' ks ∧ CovK ks (okeys (opdsOf o.op), dstK o.dst) f ∧ Left ke dep n t ms k wl t' ms' k' wl') ∧ (touches o = false → f = .n) := by
    rintro v rfl rfl rfl rfl rfl hlow hx
    exact ⟨⟨_, hx, cov_pure (by rw [opdsOf_eq]) (by rw [hd]; rfl), left_pure hn hdn hwT hwM hlow⟩, fun _ => rfl⟩
   split at hc
   ·rename_i x hop
    split at hc
    ·rename_i p hp
     cases hc
     simp only [stepI, stMv] at h
     split at h
     ·rename_i v hv
      let ⟨h1, h2, h3, h4, h5, h6⟩ := setV_ok h
      exact pv h1 h2 h3 h4 h5 h6 (sx_V htt hg hd hdn hn (p := .t) (by simp only [hop, evalV, compP_ev hp hv]) trivial)
     ·cases h
    ·cases hc
   ·rename_i x hop
    split at hc
    ·rename_i p hp
     cases hc
     simp only [stepI, stMv] at h
     split at h
     ·rename_i v hv
      let ⟨h1, h2, h3, h4, h5, h6⟩ := setV_ok h
      exact pv h1 h2 h3 h4 h5 h6 (sx_V htt hg hd hdn hn (p := .t) (by simp only [hop, evalV, compP_ev hp hv]) trivial)
     ·cases h
    ·cases hc
   ·rename_i bo ty x y ty2 hop
    split at hc
    ·rename_i p q hp hq
     cases hc
     simp only [stepI, stBin, stBin1, stBin2, stBin3] at h
     split at h
     ·rename_i a b ha hb
      ·split at h
       ·rename_i c pr hbt
        split at h
        ·rename_i hpr
         simp only [Rs.ok.injEq] at h
         let ⟨h1, h2, h3, h4, h5⟩ := h
         refine pv h1.symm h2.symm h3.symm h4.symm h5.symm (fun id hid => ?_) (sx_V htt hg hd hdn hn (p := pr) (by simp only [hop, evalV, compP_ev hp ha, compP_ev hq hb, hbt]) (prF_ok hpr))
         simp only [AV.mids, binT_mids hbt] at hid
         cases hid
        ·cases h
       ·split at h
        ·rename_i u hnt
         let ⟨h1, h2, h3, h4, h5, h6⟩ := setV_ok h
         exact pv h1 h2 h3 h4 h5 h6 (sx_M htt hg hd hdn hn (p := .t) (by simp only [hop, evalM, compP_ev hp ha, compP_ev hq hb, hnt]) trivial)
        ·cases h
     ·cases h
    ·cases hc
   ·rename_i ty x y hop
    split at hc
    ·rename_i p q hp hq
     cases hc
     simp only [stepI, stIdx] at h
     split at h
     ·rename_i v w hv hw
      ·unfold pureV at h
       split at h
       ·rename_i u pr hi
        split at h
        ·rename_i hpr
         let ⟨h1, h2, h3, h4, h5, h6⟩ := setV_ok h
         unfold idxV at hi
         split at hi
         ·rename_i z hz
          cases hi
          exact pv h1 h2 h3 h4 h5 h6 (sx_L htt hg hd hdn hn (p := pr) (by simp only [hop, evalL, compP_ev hp hv, compP_ev hq hw, hz]) (prF_ok hpr))
         ·exact pv h1 h2 h3 h4 h5 h6 (sx_V htt hg hd hdn hn (p := pr) (by simp only [hop, evalV, compP_ev hp hv, compP_ev hq hw, hi]) (prF_ok hpr))
        ·cases h
       ·cases h
     ·cases h
    ·cases hc
   ·rename_i ty x fi hop
    split at hc
    ·rename_i p hp
     cases hc
     simp only [stepI, stFad] at h
     split at h
     ·rename_i v hv
      split at h
      ·rename_i u hu
       let ⟨h1, h2, h3, h4, h5, h6⟩ := setV_ok h
       exact pv h1 h2 h3 h4 h5 h6 (sx_V htt hg hd hdn hn (p := .t) (by simp only [hop, evalV, compP_ev hp hv, hu]) trivial)
      ·cases h
     ·cases h
    ·cases hc
   ·rename_i x j hop
    split at hc
    ·rename_i p hp
     cases hc
     simp only [stepI, stExt] at h
     split at h
     ·rename_i v hv
      split at h
      ·rename_i u hu
       let ⟨h1, h2, h3, h4, h5, h6⟩ := setV_ok h
       exact pv h1 h2 h3 h4 h5 h6 (sx_V htt hg hd hdn hn (p := .t) (by simp only [hop, evalV, compP_ev hp hv, hu]) trivial)
      ·cases h
     ·cases h
    ·cases hc
   ·rename_i ty x hop
    refine ⟨?_, fun htc => by simp [touches, hd, hop] at htc⟩
    split at hc
    ·rename_i p hp
     cases hc
     simp only [stepI, stLd] at h
     split at h
     ·rename_i v hv
      split at h
      ·rename_i u ids hu
       obtain ⟨rfl, rfl, rfl, rfl, rfl, h6⟩ := setV_ok h
       refine ⟨_, sx_ld htt hg hd hdn hn hop (compP_ev hp hv) hu, ⟨fun key hk => ?_, fun key hk => ?_⟩, left_pure hn hdn hwT hwM h6⟩
       ·rcases List.mem_append.1 hk with hk | hk
        ·obtain ⟨j, rfl⟩ := okeys_s hk
         simpa [opdsOf, hop, Op.operands] using hk
        ·cases key with
         | s j => exfalso; revert hk; generalize ids = l; intro hk; induction l with
          | nil => simp [mkeys] at hk
          | cons a l ih => simp [mkeys] at hk; exact ih hk
         | m id => simp only [FtR]; revert hk; generalize ids = l; intro hk; induction l with
          | nil => simp [mkeys] at hk
          | cons a l ih => simp only [mkeys, List.mem_cons, Key.m.injEq] at hk ⊢; exact hk.elim .inl (fun h => .inr (ih h))
       ·simp only [List.mem_singleton] at hk
        subst hk
        simp [hd, dstK]
      ·cases h
     ·cases h
    ·cases hc
   ·rename_i fn args tys hop
    refine ⟨?_, fun htc => by simp [touches, hd, hop] at htc⟩
    split at hc
    ·rename_i ps hps
     cases hc
     simp only [stepI, stCall] at h
     split at h
     ·rename_i vs hvs
      exact call_fin hcal hke hn hg hd hdn hop (ids := []) (by simp only [tgtC, compPs_ev hps hvs, St.ev]) (fun _ h => by cases h) (evs_low hwT hps hvs) hwT hwM h
     ·cases h
    ·cases hc
   ·rename_i j args tys hop
    refine ⟨?_, fun htc => by simp [touches, hd, hop] at htc⟩
    split at hc
    ·rename_i p ps hp hps
     cases hc
     simp only [stepI, stCalv] at h
     split at h
     ·rename_i vs hvs
      split at h
      ·rename_i fn hx
       exact call_fin hcal hke hn hg hd hdn hop (ids := []) (by simp only [tgtC, compPs_ev hps hvs, compP_ev hp hx]) (fun _ h => by cases h) (evs_low hwT hps hvs) hwT hwM h
      ·rename_i id hx
       split at h
       ·rename_i fn first caps hb
        split at h
        ·rename_i us ws hu hw
         have hlb : lookA id (absS dep n t ms.flatten).mem = some (.clo fn first caps) := by
          show lookA id ms.flatten = _
          rw [look_flat]; exact hb
         refine call_fin hcal hke hn hg hd hdn hop (ids := [id]) (by simp only [tgtC, compPs_ev hps hvs, compP_ev hp hx, hlb, hu, hw]) (fun i hi => ?_) (fun i hi => ?_) hwT hwM h
         ·simp only [List.mem_singleton] at hi; subst hi; exact (hwM _ _ hb).1
         ·rw [midsVs_append, midsVs_append] at hi
          have hbm := (hwM _ _ hb).2
          simp only [Blk.mids, List.mem_append] at hbm
          rcases List.mem_append.1 hi with hi | hi
          ·exact hbm i (.inl (unSs_mids hu i hi))
          ·rcases List.mem_append.1 hi with hi | hi
           ·exact evs_low hwT hps hvs i hi
           ·exact hbm i (.inr (unSs_mids hw i hi))
        ·cases h
       ·cases h
      ·cases h
     ·cases h
    ·cases hc
   ·rename_i x ty hop
    refine ⟨?_, fun htc => by simp [touches, hd, hop] at htc⟩
    split at hc
    ·rename_i p hp
     cases hc
     simp only [stepI, stLen] at h
     split at h
     ·rename_i v hv
      split at h
      ·rename_i u hu
       let ⟨h1, h2, h3, h4, h5, h6⟩ := setV_ok h
       unfold lenV at hu
       split at hu
       ·rename_i z hz
        cases hu
        exact (pv h1 h2 h3 h4 h5 h6 (sx_L htt hg hd hdn hn (p := .t) (by simp only [hop, evalL, compP_ev hp hv, hz]) trivial)).1
       ·exact (pv h1 h2 h3 h4 h5 h6 (sx_V htt hg hd hdn hn (p := .t) (by simp only [hop, evalV, compP_ev hp hv, hu]) trivial)).1
      ·cases h
     ·cases h
    ·cases hc
   ·rename_i h1 h2 h3 h4 h5 h6 h7 h8 h9 h10
    refine ⟨gen hd (fun x hx => by cases hx; exact hdn) hc, fun htc => ?_⟩
    exfalso
    unfold touches at htc
    rw [hd] at htc
    revert htc
    clear pv gen h hc
    cases hop : o.op with
    | move x => exact absurd hop (h1 x)
    | assign x => exact absurd hop (h2 x)
    | binOp a b c d e => exact absurd hop (h3 a b c d e)
    | indexAddr a b c => exact absurd hop (h4 a b c)
    | fieldAddr a b c => exact absurd hop (h5 a b c)
    | extract a b => exact absurd hop (h6 a b)
    | _ => simp
end
end Go.El
