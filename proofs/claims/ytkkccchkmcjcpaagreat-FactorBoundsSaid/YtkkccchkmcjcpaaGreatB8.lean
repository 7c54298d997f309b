/- The fast interpreter, part 1: frames as trees, memory as lists, comparisons: made for the kernel. Own work; no condition. -/
import Derived.Test.YtkkccchkmcjcpaaGreatB7
import Derived.Test.YtkkccchkmcjcpaaGreatB5
namespace Go.El
open Go Go.RowKit

inductive D4 where
  | a | b | c | d
inductive T4 (α : Type) where
  | e
  | lf (v : α)
  | nd (a b c d : T4 α)

section
variable {α : Type}
noncomputable def getT (p : List D4) : T4 α → Option α := List.rec (motive := fun _ => T4 α → Option α)
  (fun t => T4.rec (motive := fun _ => Option α) none (fun v => some v) (fun _ _ _ _ _ _ _ _ => none) t)
  (fun x _ ih t => T4.rec (motive := fun _ => Option α) none (fun _ => none) (fun a b c d _ _ _ _ => D4.rec (motive := fun _ => Option α) (ih a) (ih b) (ih c) (ih d) x) t) p
noncomputable def setT (p : List D4) (v : α) : T4 α → T4 α := List.rec (motive := fun _ => T4 α → T4 α)
  (fun _ => .lf v)
  (fun x _ ih t => T4.rec (motive := fun _ => T4 α)
    (D4.rec (motive := fun _ => T4 α) (.nd (ih .e) .e .e .e) (.nd .e (ih .e) .e .e) (.nd .e .e (ih .e) .e) (.nd .e .e .e (ih .e)) x)
    (fun _ => D4.rec (motive := fun _ => T4 α) (.nd (ih .e) .e .e .e) (.nd .e (ih .e) .e .e) (.nd .e .e (ih .e) .e) (.nd .e .e .e (ih .e)) x)
    (fun a b c d _ _ _ _ => D4.rec (motive := fun _ => T4 α) (.nd (ih a) b c d) (.nd a (ih b) c d) (.nd a b (ih c) d) (.nd a b c (ih d)) x) t) p
/-- A path is emptied. -/
noncomputable def delT (p : List D4) : T4 α → T4 α := List.rec (motive := fun _ => T4 α → T4 α)
  (fun _ => .e)
  (fun x _ ih t => T4.rec (motive := fun _ => T4 α) .e (fun _ => .e)
    (fun a b c d _ _ _ _ => D4.rec (motive := fun _ => T4 α) (.nd (ih a) b c d) (.nd a (ih b) c d) (.nd a b (ih c) d) (.nd a b c (ih d)) x) t) p

theorem get_e : ∀ p : List D4, getT p (.e : T4 α) = none
  | [] => rfl
  | _ :: _ => rfl
theorem get_set (v : α) : ∀ (p : List D4) (t : T4 α), getT p (setT p v t) = some v
  | [], _ => rfl
  | x :: p, t => by cases t <;> cases x <;> exact get_set v p _
theorem get_set_ne (v : α) : ∀ (p q : List D4) (t : T4 α), p.length = q.length → p ≠ q → getT q (setT p v t) = getT q t
  | [], [], _, _, h => absurd rfl h
  | [], _ :: _, _, h, _ => by simp at h
  | _ :: _, [], _, h, _ => by simp at h
  | x :: p, y :: q, t, hl, h => by
    have hl' : p.length = q.length := by simpa using hl
    by_cases hxy : x = y
    · subst hxy
      have hpq : p ≠ q := fun e => h (by rw [e])
      cases t <;> cases x <;> first | exact get_set_ne v p q _ hl' hpq | exact (get_set_ne v p q _ hl' hpq).trans (get_e q)
    · cases t <;> cases x <;> cases y <;> first | rfl | exact get_e q | exact absurd rfl hxy
theorem get_del : ∀ (p : List D4) (t : T4 α), getT p (delT p t) = none
  | [], _ => rfl
  | x :: p, t => by cases t <;> cases x <;> first | rfl | exact get_del p _
theorem get_del_ne : ∀ (p q : List D4) (t : T4 α), p.length = q.length → p ≠ q → getT q (delT p t) = getT q t
  | [], [], _, _, h => absurd rfl h
  | [], _ :: _, _, h, _ => by simp at h
  | _ :: _, [], _, h, _ => by simp at h
  | x :: p, y :: q, t, hl, h => by
    have hl' : p.length = q.length := by simpa using hl
    by_cases hxy : x = y
    · subst hxy
      have hpq : p ≠ q := fun e => h (by rw [e])
      cases t <;> cases x <;> first | rfl | exact get_del_ne p q _ hl' hpq
    · cases t <;> cases x <;> cases y <;> first | rfl | exact absurd rfl hxy
end

def dgt : Nat → D4
  | 0 => .a
  | 1 => .b
  | 2 => .c
  | _ => .d
/-- The path of a number, of a length. -/
def pth : Nat → Nat → List D4
  | 0, _ => []
  | n + 1, t => dgt (t / 4 ^ n) :: pth n (t % 4 ^ n)
theorem pth_length : ∀ n t, (pth n t).length = n
  | 0, _ => rfl
  | n + 1, t => by simp [pth, pth_length n]
theorem dgt_inj {a b : Nat} (ha : a < 4) (hb : b < 4) (h : dgt a = dgt b) : a = b := by
  have h1 : a = 0 ∨ a = 1 ∨ a = 2 ∨ a = 3 := by omega
  have h2 : b = 0 ∨ b = 1 ∨ b = 2 ∨ b = 3 := by omega
  rcases h1 with rfl | rfl | rfl | rfl <;> rcases h2 with rfl | rfl | rfl | rfl <;> first | rfl | (simp [dgt] at h)
theorem pth_inj : ∀ (n : Nat) {a b : Nat}, a < 4 ^ n → b < 4 ^ n → pth n a = pth n b → a = b
  | 0, a, b, ha, hb, _ => by simp at ha hb; omega
  | n + 1, a, b, ha, hb, h => by
    simp only [pth, List.cons.injEq] at h
    have hp : 0 < 4 ^ n := Nat.pow_pos (by decide)
    have e1 : a / 4 ^ n = b / 4 ^ n := dgt_inj (Nat.div_lt_of_lt_mul (by rw [Nat.pow_succ] at ha; omega)) (Nat.div_lt_of_lt_mul (by rw [Nat.pow_succ] at hb; omega)) h.1
    have e2 : a % 4 ^ n = b % 4 ^ n := pth_inj n (Nat.mod_lt _ hp) (Nat.mod_lt _ hp) h.2
    rw [← Nat.div_add_mod a (4 ^ n), ← Nat.div_add_mod b (4 ^ n), e1, e2]

abbrev Tr := T4 AV
abbrev Mem := List (Nat × Blk)

section
variable {α : Type}
noncomputable def lookF (id : Nat) (l : List (Nat × α)) : Option α := List.rec (motive := fun _ => Option α) none
  (fun h _ ih => Prod.rec (motive := fun _ => Option α) (fun k x => Bool.rec (motive := fun _ => Option α) ih (some x) (Nat.beq k id)) h) l
noncomputable def putF (id : Nat) (v : α) (l : List (Nat × α)) : List (Nat × α) := List.rec (motive := fun _ => List (Nat × α)) [(id, v)]
  (fun h r ih => Prod.rec (motive := fun _ => List (Nat × α)) (fun k x => Bool.rec (motive := fun _ => List (Nat × α)) ((k, x) :: ih) ((id, v) :: r) (Nat.beq k id)) h) l
theorem lookF_eq (id : Nat) : ∀ l : List (Nat × α), lookF id l = lookA id l
  | [] => rfl
  | (k, x) :: r => by
    have ih := lookF_eq id r
    show Bool.rec (motive := fun _ => Option α) (lookF id r) (some x) (Nat.beq k id) = _
    simp only [lookA]
    by_cases h : k = id
    · subst h; rw [Nat.beq_refl, if_pos rfl]
    · have : Nat.beq k id = false := by
        cases hb : Nat.beq k id
        · rfl
        · exact absurd (Nat.eq_of_beq_eq_true hb) h
      rw [this, if_neg h]; exact ih
theorem putF_eq (id : Nat) (v : α) : ∀ l : List (Nat × α), putF id v l = putA id v l
  | [] => rfl
  | (k, x) :: r => by
    have ih := putF_eq id v r
    show Bool.rec (motive := fun _ => List (Nat × α)) ((k, x) :: putF id v r) ((id, v) :: r) (Nat.beq k id) = _
    simp only [putA]
    by_cases h : k = id
    · subst h; rw [Nat.beq_refl, if_pos rfl]
    · have : Nat.beq k id = false := by
        cases hb : Nat.beq k id
        · rfl
        · exact absurd (Nat.eq_of_beq_eq_true hb) h
      rw [this, if_neg h]; simp only [ih]
end

/-- What a frame and a memory say. -/
noncomputable def slots (dep n : Nat) (t : Tr) : List (Nat × AV) := (List.range n).filterMap fun j => (getT (pth dep j) t).map fun v => (j, v)
noncomputable def absS (dep n : Nat) (t : Tr) (m : Mem) : St := ⟨slots dep n t, m, 0, []⟩
theorem look_fm {α : Type} (g : Nat → Option α) (t : Nat) : ∀ l : List Nat, lookA t (l.filterMap fun j => (g j).map fun v => (j, v)) = if t ∈ l then g t else none
  | [] => rfl
  | j :: l => by
    have ih := look_fm g t l
    simp only [List.filterMap_cons]
    cases hg : g j with
    | none =>
      simp only [Option.map_none, ih, List.mem_cons]
      by_cases h : t = j
      · subst h; simp [hg]
      · simp [h]
    | some v =>
      simp only [Option.map_some, lookA, ih, List.mem_cons]
      by_cases h : j = t
      · subst h; simp [hg]
      · have : t ≠ j := fun e => h e.symm
        simp [h, this]
theorem look_slots (dep n : Nat) (t : Tr) (j : Nat) : lookA j (slots dep n t) = if j < n then getT (pth dep j) t else none := by
  unfold slots
  rw [look_fm (fun j => getT (pth dep j) t) j]
  simp only [List.mem_range]
theorem abs_kn (dep n : Nat) (t : Tr) (m : Mem) : (absS dep n t m).kn = fun | .s j => ((if j < n then getT (pth dep j) t else none)).map .v | .m id => (lookA id m).map .b := by
  funext k
  cases k with
  | s j => simp only [absS, St.kn, look_slots]
  | m id => rfl
theorem look_slots_set (dep n : Nat) (t : Tr) (d j : Nat) (v : AV) (hn : n ≤ 4 ^ dep) (hd : d < n) : lookA j (slots dep n (setT (pth dep d) v t)) = if d = j then some v else lookA j (slots dep n t) := by
  rw [look_slots, look_slots]
  by_cases h : d = j
  · subst h; simp [hd, get_set]
  · rw [if_neg h]
    by_cases hj : j < n
    · rw [if_pos hj, if_pos hj, get_set_ne _ _ _ _ (by rw [pth_length, pth_length]) (fun e => h (pth_inj dep (by omega) (by omega) e))]
    · rw [if_neg hj, if_neg hj]
theorem look_slots_del (dep n : Nat) (t : Tr) (d j : Nat) (hn : n ≤ 4 ^ dep) (hd : d < n) : lookA j (slots dep n (delT (pth dep d) t)) = if d = j then none else lookA j (slots dep n t) := by
  rw [look_slots, look_slots]
  by_cases h : d = j
  · subst h; simp [hd, get_del]
  · rw [if_neg h]
    by_cases hj : j < n
    · rw [if_pos hj, if_pos hj, get_del_ne _ _ _ (by rw [pth_length, pth_length]) (fun e => h (pth_inj dep (by omega) (by omega) e))]
    · rw [if_neg hj, if_neg hj]
theorem abs_set (dep n : Nat) (t : Tr) (m : Mem) (d : Nat) (v : AV) (hn : n ≤ 4 ^ dep) (hd : d < n) : (absS dep n (setT (pth dep d) v t) m).kn = upd (absS dep n t m).kn [(.s d, some (.v v))] := by
  funext k
  cases k with
  | s j =>
    simp only [absS, St.kn, upd, says, Key.s.injEq, look_slots_set dep n t d j v hn hd]
    split <;> simp
  | m id => simp [absS, St.kn, upd, says]
theorem abs_del (dep n : Nat) (t : Tr) (m : Mem) (d : Nat) (hn : n ≤ 4 ^ dep) (hd : d < n) : (absS dep n (delT (pth dep d) t) m).kn = upd (absS dep n t m).kn [(.s d, none)] := by
  funext k
  cases k with
  | s j =>
    simp only [absS, St.kn, upd, says, Key.s.injEq, look_slots_del dep n t d j hn hd]
    split <;> simp
  | m id => simp [absS, St.kn, upd, says]
/-- Memory that another memory comes of. -/
theorem abs_mem (dep n : Nat) (t : Tr) (m m' : Mem) (wr : List (Key × Option Info)) (h : ∀ id, (lookA id m').map Info.b = upd (absS dep n t m).kn wr (.m id)) (hs : ∀ j, says wr (.s j) = none) : (absS dep n t m').kn = upd (absS dep n t m).kn wr := by
  funext k
  cases k with
  | s j => simp [absS, St.kn, upd, hs j]
  | m id => exact h id

/-- Comparisons for the kernel. -/
def leZ : Int → Int → Bool
  | .ofNat m, .ofNat n => Nat.ble m n
  | .negSucc _, .ofNat _ => true
  | .negSucc m, .negSucc n => Nat.ble n m
  | .ofNat _, .negSucc _ => false
def eqZ : Int → Int → Bool
  | .ofNat m, .ofNat n => Nat.beq m n
  | .negSucc m, .negSucc n => Nat.beq m n
  | _, _ => false
theorem leZ_eq (a b : Int) : leZ a b = decide (a ≤ b) := by
  cases a <;> cases b <;> simp only [leZ] <;> rw [Bool.eq_iff_iff] <;> simp [Nat.ble_eq] <;> omega
theorem eqZ_eq (a b : Int) : eqZ a b = decide (a = b) := by
  cases a <;> cases b <;> simp only [eqZ] <;> rw [Bool.eq_iff_iff] <;> simp <;> omega
def i64F : Int → Bool
  | .ofNat m => Nat.blt m 9223372036854775808
  | .negSucc m => Nat.blt m 9223372036854775808
theorem i64F_ok {n : Int} (h : i64F n = true) : i64r n := by
  cases n with
  | ofNat m => simp only [i64F, Nat.blt_eq] at h; unfold i64r; simp only [Int.ofNat_eq_natCast]; omega
  | negSucc m => simp only [i64F, Nat.blt_eq] at h; unfold i64r; omega
def prF : Pr → Bool
  | .t => true
  | .i64 n => i64F n
  | .ne0 b => Bool.not (eqZ b 0)
  | .le a b => leZ a b
  | .lt a b => Bool.not (leZ b a)
  | .ltN a b => Nat.blt a b
  | .eqB a b => a == b
  | .and p q => match prF p with
    | true => prF q
    | false => false
theorem prF_ok : ∀ {p : Pr}, prF p = true → p.h
  | .t, _ => trivial
  | .i64 _, h => i64F_ok h
  | .ne0 b, h => by simp only [prF, eqZ_eq] at h; simpa [Pr.h] using h
  | .le a b, h => by simp only [prF, leZ_eq] at h; simpa [Pr.h] using h
  | .lt a b, h => by simp only [prF, leZ_eq] at h; simpa [Pr.h] using h
  | .ltN a b, h => by simpa [prF, Pr.h, Nat.blt_eq] using h
  | .eqB a b, h => by simpa [prF, Pr.h] using h
  | .and p q, h => by
    simp only [prF] at h
    split at h
    · rename_i h1; exact ⟨prF_ok h1, prF_ok h⟩
    · cases h

def lowC (k : Nat) : C → Bool
  | .P id _ => Nat.blt id k
  | .X id => Nat.blt id k
  | .Y id _ _ _ => Nat.blt id k
  | .L id _ _ _ => Nat.blt id k
  | _ => true
theorem lowC_ok {k : Nat} {c : C} (h : lowC k c = true) : ∀ id ∈ c.mids, id < k := by
  cases c <;> simp only [lowC, C.mids, Nat.blt_eq] at h ⊢ <;> simp <;> exact h
noncomputable def lowL (k : Nat) (l : List C) : Bool := List.rec (motive := fun _ => Bool) true (fun c _ ih => Bool.rec (motive := fun _ => Bool) false ih (lowC k c)) l
theorem lowL_ok {k : Nat} : ∀ {l : List C}, lowL k l = true → ∀ id ∈ midsL l, id < k
  | [], _ => by simp [midsL]
  | c :: r, h => by
    have h' : Bool.rec (motive := fun _ => Bool) false (lowL k r) (lowC k c) = true := h
    cases hc : lowC k c with
    | false => rw [hc] at h'; cases h'
    | true =>
      rw [hc] at h'
      intro id hid
      simp only [midsL, List.mem_append] at hid
      rcases hid with hid | hid
      · exact lowC_ok hc id hid
      · exact lowL_ok h' id hid
noncomputable def lowT (k : Nat) (l : List (Bool × List C)) : Bool := List.rec (motive := fun _ => Bool) true (fun c _ ih => Bool.rec (motive := fun _ => Bool) false ih (lowL k c.2)) l
theorem lowT_ok {k : Nat} : ∀ {l : List (Bool × List C)}, lowT k l = true → ∀ id ∈ midsT l, id < k
  | [], _ => by simp [midsT]
  | c :: r, h => by
    have h' : Bool.rec (motive := fun _ => Bool) false (lowT k r) (lowL k c.2) = true := h
    cases hc : lowL k c.2 with
    | false => rw [hc] at h'; cases h'
    | true =>
      rw [hc] at h'
      intro id hid
      simp only [midsT, List.mem_append] at hid
      rcases hid with hid | hid
      · exact lowL_ok hc id hid
      · exact lowT_ok h' id hid
noncomputable def lowV (k : Nat) : AV → Bool
  | .c x => lowC k x
  | .a cs => lowL k cs
  | .t ss => lowT k ss
theorem lowV_ok {k : Nat} {v : AV} (h : lowV k v = true) : ∀ id ∈ v.mids, id < k := by
  cases v with
  | c x => exact lowC_ok h
  | a cs => exact lowL_ok h
  | t ss => exact lowT_ok h
end Go.El

/- The fast interpreter, part 2: operations made ready, and how they go. Own work; no condition. -/
namespace Go.El
open Go Go.RowKit

inductive Pd where
  | s (p : List D4)
  | k (v : AV)
noncomputable def evP (t : Tr) : Pd → Option AV
  | .s p => getT p t
  | .k v => some v
noncomputable def evPs (t : Tr) (l : List Pd) : Option (List AV) := List.rec (motive := fun _ => Option (List AV)) (some [])
  (fun x _ ih => match evP t x with
    | some v => (match ih with
      | some vs => some (v :: vs)
      | none => none)
    | none => none) l
def compP (dep n : Nat) : Operand → Option Pd
  | .tmp j => (match Nat.blt j n with
    | true => some (.s (pth dep j))
    | false => none)
  | .const v => some (.k (constAV v))
  | .func f => some (.k (.c (.V (.func (.func f) #[] #[]))))
  | .global _ => none
def compPs (dep n : Nat) : List Operand → Option (List Pd)
  | [] => some []
  | x :: xs => (match compP dep n x, compPs dep n xs with
    | some p, some ps => some (p :: ps)
    | _, _ => none)

/-- Memory: the blocks of the call ahead, those of its callers behind. -/
abbrev Ms := List Mem
noncomputable def lookS (id : Nat) (ms : Ms) : Option Blk := List.rec (motive := fun _ => Option Blk) none
  (fun m _ ih => match lookF id m with
    | some b => some b
    | none => ih) ms
noncomputable def putS (id : Nat) (b : Blk) (ms : Ms) : Ms := List.rec (motive := fun _ => Ms) []
  (fun m r ih => match lookF id m with
    | some _ => putF id b m :: r
    | none => m :: ih) ms
def delS (id : Nat) : Ms → Ms
  | [] => []
  | m :: r => delA id m :: delS id r
def consS (k : Nat) (b : Blk) : Ms → Ms
  | m :: r => ((k, b) :: m) :: r
  | [] => [[(k, b)]]
theorem look_flat (id : Nat) : ∀ ms : Ms, lookA id ms.flatten = lookS id ms
  | [] => rfl
  | m :: r => by
    have ih := look_flat id r
    show _ = match lookF id m with | some b => some b | none => lookS id r
    rw [List.flatten_cons, look_app, lookF_eq, ih]
    cases lookA id m <;> rfl
theorem lookS_put (j id : Nat) (b : Blk) : ∀ ms : Ms, lookS j (putS id b ms) = match lookS id ms with
    | some _ => if id = j then some b else lookS j ms
    | none => lookS j ms
  | [] => rfl
  | m :: r => by
    have ih := lookS_put j id b r
    have e1 : ∀ j (m : Mem) (r : Ms), lookS j (m :: r) = match lookF j m with | some b => some b | none => lookS j r := fun _ _ _ => rfl
    have e2 : putS id b (m :: r) = match lookF id m with | some _ => putF id b m :: r | none => m :: putS id b r := rfl
    rw [e2, e1 id m r]
    cases h : lookF id m with
    | some x =>
      simp only [e1, lookF_eq, putF_eq, lookA_put]
      by_cases hj : id = j
      · simp [hj]
      · simp [hj]
    | none =>
      simp only [e1, ih]
      cases h2 : lookS id r with
      | none => rfl
      | some x =>
        by_cases hj : id = j
        · subst hj; simp [h]
        · simp [hj]
theorem lookS_del (j id : Nat) : ∀ ms : Ms, lookS j (delS id ms) = if id = j then none else lookS j ms
  | [] => by simp [delS, lookS]
  | m :: r => by
    have ih := lookS_del j id r
    have e1 : ∀ j (m : Mem) (r : Ms), lookS j (m :: r) = match lookF j m with | some b => some b | none => lookS j r := fun _ _ _ => rfl
    simp only [delS, e1, lookF_eq, lookA_del, ih]
    by_cases hj : id = j <;> simp [hj]
theorem lookS_cons (j k : Nat) (b : Blk) (ms : Ms) : lookS j (consS k b ms) = if k = j then some b else lookS j ms := by
  have e1 : ∀ j (m : Mem) (r : Ms), lookS j (m :: r) = match lookF j m with | some b => some b | none => lookS j r := fun _ _ _ => rfl
  cases ms with
  | nil => simp only [consS, e1, lookF_eq, lookA]; by_cases h : k = j <;> simp [h, lookS]
  | cons m r => simp only [consS, e1, lookF_eq, lookA]; by_cases h : k = j <;> simp [h]

/-- What an operation does to memory. -/
inductive Ft where
  | n
  | m (rd wr : List Nat)
  | c (k k' : Nat) (wl : List Nat)
inductive Rs where
  | no
  | ok (t : Tr) (ms : Ms) (k : Nat) (wl : List Nat) (f : Ft)
inductive Cr where
  | no
  | ok (r : AV) (ms : Ms) (k : Nat) (wl : List Nat)
abbrev CallG := FuncId → List AV → Ms → Nat → Cr

inductive Ins where
  | mv (d : List D4) (x : Pd)
  | bin (d : List D4) (op : BinOp) (ty : Nat) (x y : Pd)
  | idx (d : List D4) (ty : Nat) (x i : Pd)
  | fad (d : List D4) (ty : Nat) (x : Pd) (f : Nat)
  | ext (d : List D4) (x : Pd) (k : Nat)
  | len (d : List D4) (ty : Nat) (x : Pd)
  | ld (d : List D4) (ty : Nat) (x : Pd)
  | st (ty : Nat) (x y : Pd)
  | gen (d : Option (Nat × List D4)) (sl : List (Nat × List D4)) (op : Op)
  | call (d : List D4) (f : FuncId) (args : List Pd)
  | calv (d : List D4) (x : Pd) (args : List Pd)

noncomputable def setV (d : List D4) (v : AV) (t : Tr) (ms : Ms) (k : Nat) (wl : List Nat) (f : Ft) : Rs := match lowV k v with
  | true => .ok (setT d v t) ms k wl f
  | false => .no
noncomputable def pureV (d : List D4) (r : Option (AV × Pr)) (t : Tr) (ms : Ms) (k : Nat) (wl : List Nat) : Rs := match r with
  | some (v, p) => (match prF p with
    | true => setV d v t ms (k + 1) wl .n
    | false => .no)
  | none => .no
def idxV (tt : TT) (ty : Nat) (v w : AV) : Option (AV × Pr) := match idxL tt ty v w with
  | some r => some r
  | none => idxA tt ty v w
def lenV (tt : TT) (ty : Nat) (v : AV) : Option AV := match lenL tt ty v with
  | some r => some r
  | none => lenA tt ty v
/-- Lists for the kernel. -/
noncomputable def nthF (l : List C) : Nat → Option C := List.rec (motive := fun _ => Nat → Option C) (fun _ => none) (fun c _ ih n => Nat.rec (motive := fun _ => Option C) (some c) (fun m _ => ih m) n) l
noncomputable def dropF (n : Nat) : List C → List C := Nat.rec (motive := fun _ => List C → List C) (fun l => l) (fun _ ih l => List.rec (motive := fun _ => List C) [] (fun _ r _ => ih r) l) n
def consO (c : C) : Option (List C) → Option (List C)
  | some r => some (c :: r)
  | none => none
noncomputable def takeF (n : Nat) : List C → Option (List C) := Nat.rec (motive := fun _ => List C → Option (List C)) (fun _ => some []) (fun _ ih l => List.rec (motive := fun _ => Option (List C)) none (fun c r _ => consO c (ih r)) l) n
noncomputable def putO (us : List C) : List C → Option (List C) := List.rec (motive := fun _ => List C → Option (List C)) (fun l => some l) (fun u _ ih l => List.rec (motive := fun _ => Option (List C)) none (fun _ r _ => consO u (ih r)) l) us
noncomputable def ovF (us : List C) (off : Nat) : List C → Option (List C) := Nat.rec (motive := fun _ => List C → Option (List C)) (putO us) (fun _ ih l => List.rec (motive := fun _ => Option (List C)) none (fun c r _ => consO c (ih r)) l) off
theorem nthF_eq : ∀ (l : List C) (n : Nat), nthF l n = l[n]?
  | [], n => by simp [nthF]
  | c :: r, 0 => rfl
  | c :: r, n + 1 => by
    show nthF r n = _
    rw [nthF_eq r n, List.getElem?_cons_succ]
theorem dropF_eq : ∀ (n : Nat) (l : List C), dropF n l = l.drop n
  | 0, l => rfl
  | n + 1, [] => rfl
  | n + 1, c :: r => dropF_eq n r
theorem consO_some {c : C} {o : Option (List C)} {x : List C} (h : consO c o = some x) : ∃ r, o = some r ∧ x = c :: r := by
  cases o with
  | none => cases h
  | some r => cases h; exact ⟨r, rfl, rfl⟩
theorem takeF_eq : ∀ (n : Nat) (l x : List C), takeF n l = some x → n ≤ l.length ∧ x = l.take n
  | 0, l, x, h => by cases h; exact ⟨Nat.zero_le _, rfl⟩
  | n + 1, [], x, h => by cases h
  | n + 1, c :: r, x, h => by
    obtain ⟨y, hy, rfl⟩ := consO_some (show consO c (takeF n r) = some x from h)
    obtain ⟨h1, h2⟩ := takeF_eq n r y hy
    exact ⟨by simpa using h1, by simp [h2]⟩
theorem putO_eq : ∀ (us l x : List C), putO us l = some x → us.length ≤ l.length ∧ x = us ++ l.drop us.length
  | [], l, x, h => by cases h; exact ⟨Nat.zero_le _, rfl⟩
  | u :: us, [], x, h => by cases h
  | u :: us, c :: r, x, h => by
    obtain ⟨y, hy, rfl⟩ := consO_some (show consO u (putO us r) = some x from h)
    obtain ⟨h1, h2⟩ := putO_eq us r y hy
    exact ⟨by simpa using h1, by simp [h2]⟩
theorem ovF_eq (us : List C) : ∀ (off : Nat) (l x : List C), ovF us off l = some x → off + us.length ≤ l.length ∧ x = over l us off
  | 0, l, x, h => by
    obtain ⟨h1, h2⟩ := putO_eq us l x h
    exact ⟨by omega, by simp [over, h2]⟩
  | off + 1, [], x, h => by cases h
  | off + 1, c :: r, x, h => by
    obtain ⟨y, hy, rfl⟩ := consO_some (show consO c (ovF us off r) = some x from h)
    obtain ⟨h1, h2⟩ := ovF_eq us off r y hy
    refine ⟨by simp; omega, ?_⟩
    simp [over, h2, show off + 1 + us.length = off + us.length + 1 by omega]
noncomputable def partF (cs : List C) (off sz : Nat) (ag : Bool) : Option AV := match ag with
  | true => (match takeF sz (dropF off cs) with
    | some x => some (.a x)
    | none => none)
  | false => (match nthF cs off with
    | some c => some (.c c)
    | none => none)
theorem partF_eq {cs : List C} {off sz : Nat} {ag : Bool} {x : AV} (h : partF cs off sz ag = some x) (hz : sz = 0 → off ≤ cs.length) : partA cs off sz ag = some x := by
  unfold partF at h
  unfold partA
  split at h
  · split at h
    · rename_i y hy
      cases h
      obtain ⟨h1, h2⟩ := takeF_eq _ _ _ hy
      rw [dropF_eq] at h1 h2
      rw [if_pos rfl, if_pos (by simp at h1; by_cases hs : sz = 0; have := hz hs; omega; omega), h2]
    · cases h
  · split at h
    · rename_i c hc
      cases h
      rw [nthF_eq] at hc
      simp [hc]
    · cases h
noncomputable def ldF (tt : TT) (ms : Ms) (ty : Nat) (v : AV) : Option (AV × List Nat) := match tySz tt ty with
  | some (0, _) => none
  | some (sz, ag) => (match v with
    | .c (.P id off) => (match lookS id ms with
      | some (.box _ _ cs) => (match partF cs off sz ag with
        | some y => some (y, [id])
        | none => none)
      | some (.fz _ cs) => (match partF cs off sz ag with
        | some y => some (y, [id])
        | none => none)
      | _ => none)
    | .c (.E T e off) => (match partF (av T e) off sz ag with
      | some y => some (y, [])
      | none => none)
    | _ => none)
  | none => none
def okA : List C → Bool
  | [] => true
  | c :: r => match okC c with
    | true => okA r
    | false => false
theorem okA_eq : ∀ {l : List C}, okA l = true → l.all okC = true
  | [], _ => rfl
  | c :: r, h => by
    simp only [okA] at h
    split at h
    · rename_i h1; simp [h1, okA_eq h]
    · cases h
noncomputable def stF1 (id off sz : Nat) (us : List C) : Option Blk → Option (Nat × Blk × List C)
  | some (.box E bz cs) => (match Nat.beq us.length sz && okA us with
    | true => (match ovF us off cs with
      | some x => some (id, .box E bz x, us)
      | none => none)
    | false => none)
  | _ => none
noncomputable def stF (tt : TT) (ms : Ms) (ty : Nat) (x v : AV) : Option (Nat × Blk × List C) := match tySz tt ty, x, cellsAV v with
  | some (sz, _), .c (.P id off), some us => stF1 id off sz us (lookS id ms)
  | _, _, _ => none
def logW (ke id : Nat) (wl : List Nat) : List Nat := match Nat.blt id ke with
  | true => id :: wl
  | false => wl
def mergeW (ke : Nat) (wlc wl : List Nat) : List Nat := match wlc with
  | [] => wl
  | _ => wlc.filter (fun id => Nat.blt id ke) ++ wl
noncomputable def lowB (k : Nat) : Blk → Bool
  | .box _ _ cs => lowL k cs
  | .vec _ _ _ => true
  | .clo _ a b => match lowT k a with
    | true => lowT k b
    | false => false
  | .fz _ cs => lowL k cs
theorem lowB_ok {k : Nat} {b : Blk} (h : lowB k b = true) : ∀ id ∈ b.mids, id < k := by
  cases b with
  | box E z cs => exact lowL_ok h
  | vec E T xs => simp [Blk.mids]
  | clo f a b =>
    simp only [lowB] at h
    split at h
    · rename_i h1
      intro id hid
      simp only [Blk.mids, List.mem_append] at hid
      exact hid.elim (lowT_ok h1 id) (lowT_ok h id)
    · cases h
  | fz E cs => exact lowL_ok h

/-- The slots that an operation reads. -/
noncomputable def mini (sl : List (Nat × List D4)) (t : Tr) : List (Nat × AV) := List.rec (motive := fun _ => List (Nat × AV)) []
  (fun x _ ih => match getT x.2 t with
    | some v => (x.1, v) :: ih
    | none => ih) sl
def midsSl : List (Nat × AV) → List Nat
  | [] => []
  | (_, v) :: r => v.mids ++ midsSl r
noncomputable def miniM (ids : List Nat) (ms : Ms) : Mem := List.rec (motive := fun _ => Mem) []
  (fun id _ ih => match lookS id ms with
    | some b => (id, b) :: ih
    | none => ih) ids
def cal0 : CallF := fun _ _ _ _ => none
def mK : List Key → List Nat
  | [] => []
  | .m id :: r => id :: mK r
  | .s _ :: r => mK r
/-- Only this slot is written; only these slots are read. -/
def wS (d : Option Nat) : List Key → Bool
  | [] => true
  | .m _ :: r => wS d r
  | .s j :: r => (match d with
    | some d => (match Nat.beq d j with
      | true => wS (some d) r
      | false => false)
    | none => false)
def memN (j : Nat) : List Nat → Bool
  | [] => false
  | x :: r => match Nat.beq x j with
    | true => true
    | false => memN j r
def rS (sl : List Nat) : List Key → Bool
  | [] => true
  | .m _ :: r => rS sl r
  | .s j :: r => (match memN j sl with
    | true => rS sl r
    | false => false)
noncomputable def applyW (k ke : Nat) (mm mem' : Mem) (ids : List Nat) : Ms → List Nat → Option (Ms × List Nat) := List.rec (motive := fun _ => Ms → List Nat → Option (Ms × List Nat))
  (fun ms wl => some (ms, wl))
  (fun id _ ih ms wl => match lookF id mem' with
    | some b => (match lowB (k + 1) b with
      | true => (match Nat.beq id k with
        | true => ih (consS k b ms) wl
        | false => (match lookS id ms with
          | some _ => ih (putS id b ms) (logW ke id wl)
          | none => none))
      | false => none)
    | none => (match lookF id mm with
      | some _ => ih (delS id ms) (logW ke id wl)
      | none => none)) ids
noncomputable def genR (tt : TT) (n ke : Nat) (d : Option (Nat × List D4)) (sl : List (Nat × List D4)) (op : Op) (t : Tr) (ms : Ms) (k : Nat) (wl : List Nat) (ms0 : List (Nat × AV)) (mm : Mem) : Rs :=
  match stepU cal0 tt n k (d.map (·.1)) op ⟨ms0, mm, 0, []⟩ with
  | some (st', k', ks) => (match Nat.beq k' (k + 1) && wS (d.map (·.1)) ks.2 && rS (sl.map (·.1)) ks.1 with
    | true => (match applyW k ke mm st'.mem (mK ks.2) ms wl with
      | some (ms', wl') => (match d with
        | none => .ok t ms' (k + 1) wl' (.m (mK ks.1) (mK ks.2))
        | some (dn, dp) => (match lookA dn st'.sl with
          | some v => setV dp v t ms' (k + 1) wl' (.m (mK ks.1) (mK ks.2))
          | none => .no))
      | none => .no)
    | false => .no)
  | none => (match d with
    | some (_, dp) => pureV dp (evalM tt ⟨ms0, mm, 0, []⟩ op) t ms k wl
    | none => .no)
noncomputable def callR (cal : CallG) (ke : Nat) (d : List D4) (f : FuncId) (vs : List AV) (t : Tr) (ms : Ms) (k : Nat) (wl : List Nat) : Rs := match cal f vs ms k with
  | .ok r ms' k' wlc => setV d r t ms' k' (mergeW ke wlc wl) (.c k k' wlc)
  | .no => .no
/-- One operation, kind by kind. -/
noncomputable def stMv (d : List D4) (x : Pd) (t : Tr) (ms : Ms) (k : Nat) (wl : List Nat) : Rs := match evP t x with
  | some v => setV d v t ms (k + 1) wl .n
  | none => .no
noncomputable def stBin3 (tt : TT) (d : List D4) (op : BinOp) (ty : Nat) (a b : C) (t : Tr) (ms : Ms) (k : Nat) (wl : List Nat) : Rs := match nilT tt op ty (.c a) (.c b) with
  | some u => setV d u t ms (k + 1) wl .n
  | none => .no
noncomputable def stBin2 (d : List D4) (c : C) (p : Pr) (t : Tr) (ms : Ms) (k : Nat) (wl : List Nat) : Rs := match prF p with
  | true => .ok (setT d (.c c) t) ms (k + 1) wl .n
  | false => .no
noncomputable def stBin1 (tt : TT) (d : List D4) (op : BinOp) (ty : Nat) (a b : C) (t : Tr) (ms : Ms) (k : Nat) (wl : List Nat) : Rs := match binT tt op ty a b with
  | some (c, p) => stBin2 d c p t ms k wl
  | none => stBin3 tt d op ty a b t ms k wl
noncomputable def stBin (tt : TT) (d : List D4) (op : BinOp) (ty : Nat) (x y : Pd) (t : Tr) (ms : Ms) (k : Nat) (wl : List Nat) : Rs := match evP t x, evP t y with
  | some (.c a), some (.c b) => stBin1 tt d op ty a b t ms k wl
  | _, _ => .no
noncomputable def stIdx (tt : TT) (d : List D4) (ty : Nat) (x i : Pd) (t : Tr) (ms : Ms) (k : Nat) (wl : List Nat) : Rs := match evP t x, evP t i with
  | some v, some w => pureV d (idxV tt ty v w) t ms k wl
  | _, _ => .no
noncomputable def stFad (tt : TT) (d : List D4) (ty : Nat) (x : Pd) (f : Nat) (t : Tr) (ms : Ms) (k : Nat) (wl : List Nat) : Rs := match evP t x with
  | some v => (match faddrA tt ty v f with
    | some u => setV d u t ms (k + 1) wl .n
    | none => .no)
  | none => .no
noncomputable def stExt (d : List D4) (x : Pd) (j : Nat) (t : Tr) (ms : Ms) (k : Nat) (wl : List Nat) : Rs := match evP t x with
  | some v => (match exA v j with
    | some u => setV d u t ms (k + 1) wl .n
    | none => .no)
  | none => .no
noncomputable def stLen (tt : TT) (d : List D4) (ty : Nat) (x : Pd) (t : Tr) (ms : Ms) (k : Nat) (wl : List Nat) : Rs := match evP t x with
  | some v => (match lenV tt ty v with
    | some u => setV d u t ms (k + 1) wl .n
    | none => .no)
  | none => .no
noncomputable def stLd (tt : TT) (d : List D4) (ty : Nat) (x : Pd) (t : Tr) (ms : Ms) (k : Nat) (wl : List Nat) : Rs := match evP t x with
  | some v => (match ldF tt ms ty v with
    | some (u, ids) => setV d u t ms (k + 1) wl (.m ids [])
    | none => .no)
  | none => .no
noncomputable def stSt1 (ke id : Nat) (b : Blk) (us : List C) (t : Tr) (ms : Ms) (k : Nat) (wl : List Nat) : Rs := match lowL k us with
  | true => .ok t (putS id b ms) (k + 1) (logW ke id wl) (.m [id] [id])
  | false => .no
noncomputable def stSt (tt : TT) (ke : Nat) (ty : Nat) (x y : Pd) (t : Tr) (ms : Ms) (k : Nat) (wl : List Nat) : Rs := match evP t x, evP t y with
  | some v, some w => (match stF tt ms ty v w with
    | some (id, b, us) => stSt1 ke id b us t ms k wl
    | none => .no)
  | _, _ => .no
noncomputable def stGen (tt : TT) (n ke : Nat) (d : Option (Nat × List D4)) (sl : List (Nat × List D4)) (op : Op) (t : Tr) (ms : Ms) (k : Nat) (wl : List Nat) : Rs := match mini sl t with
  | ms0 => genR tt n ke d sl op t ms k wl ms0 (miniM (midsSl ms0) ms)
noncomputable def stCall (cal : CallG) (ke : Nat) (d : List D4) (f : FuncId) (args : List Pd) (t : Tr) (ms : Ms) (k : Nat) (wl : List Nat) : Rs := match evPs t args with
  | some vs => callR cal ke d f vs t ms k wl
  | none => .no
noncomputable def stCalv (cal : CallG) (ke : Nat) (d : List D4) (x : Pd) (args : List Pd) (t : Tr) (ms : Ms) (k : Nat) (wl : List Nat) : Rs := match evPs t args with
  | some vs => (match evP t x with
    | some (.c (.V (.func (.func f) ⟨[]⟩ ⟨[]⟩))) => callR cal ke d f vs t ms k wl
    | some (.c (.X id)) => (match lookS id ms with
      | some (.clo f first caps) => (match unSs first, unSs caps with
        | some us, some ws => callR cal ke d f (us ++ (vs ++ ws)) t ms k wl
        | _, _ => .no)
      | _ => .no)
    | _ => .no)
  | none => .no
/-- One operation. -/
noncomputable def stepI (cal : CallG) (tt : TT) (n ke : Nat) (i : Ins) : Tr → Ms → Nat → List Nat → Rs := match i with
  | .mv d x => stMv d x
  | .bin d op ty x y => stBin tt d op ty x y
  | .idx d ty x i => stIdx tt d ty x i
  | .fad d ty x f => stFad tt d ty x f
  | .ext d x j => stExt d x j
  | .len d ty x => stLen tt d ty x
  | .ld d ty x => stLd tt d ty x
  | .st ty x y => stSt tt ke ty x y
  | .gen d sl op => stGen tt n ke d sl op
  | .call d f args => stCall cal ke d f args
  | .calv d x args => stCalv cal ke d x args

structure GI where
  g : Option (List D4 × Bool)
  d : Option (List D4)
  i : Ins
noncomputable def stepGI (cal : CallG) (tt : TT) (n ke : Nat) (x : GI) (t : Tr) (ms : Ms) (k : Nat) (wl : List Nat) : Rs := match x.g with
  | none => stepI cal tt n ke x.i t ms k wl
  | some (gp, want) => (match getT gp t with
    | some (.c (.B b)) => (match b == want with
      | true => stepI cal tt n ke x.i t ms k wl
      | false => (match x.d with
        | some d => .ok (delT d t) ms (k + 1) wl .n
        | none => .no))
    | _ => .no)
/-- A region in the text's order. -/
noncomputable def regT (cal : CallG) (tt : TT) (n ke : Nat) (l : List GI) : Tr → Ms → Nat → List Nat → Rs := List.rec (motive := fun _ => Tr → Ms → Nat → List Nat → Rs)
  (fun t ms k wl => .ok t ms k wl .n)
  (fun x _ ih t ms k wl => match stepGI cal tt n ke x t ms k wl with
    | .ok t' ms' k' wl' _ => ih t' ms' k' wl'
    | .no => .no) l
/-- A region of which the order is drawn: what the operations do is kept. -/
inductive Rd where
  | no
  | ok (t : Tr) (ms : Ms) (k : Nat) (wl : List Nat) (fs : List Ft)
noncomputable def regD (cal : CallG) (tt : TT) (n ke : Nat) (l : List GI) : Tr → Ms → Nat → List Nat → List Ft → Rd := List.rec (motive := fun _ => Tr → Ms → Nat → List Nat → List Ft → Rd)
  (fun t ms k wl fs => .ok t ms k wl fs)
  (fun x _ ih t ms k wl fs => match stepGI cal tt n ke x t ms k wl with
    | .ok t' ms' k' wl' f => ih t' ms' k' wl' (f :: fs)
    | .no => .no) l

/-- Do two lists of ids meet? -/
def meetN : List Nat → List Nat → Bool
  | [], _ => false
  | x :: r, l => match memN x l with
    | true => true
    | false => meetN r l
def anyIn (k k' : Nat) (wl : List Nat) : List Nat → Bool
  | [] => false
  | x :: r => match memN x wl with
    | true => true
    | false => (match Nat.ble k x && Nat.blt x k' with
      | true => true
      | false => anyIn k k' wl r)
def anyLt (k : Nat) : List Nat → Bool
  | [] => false
  | x :: r => match Nat.blt x k with
    | true => true
    | false => anyLt k r
/-- Do the operations i < j conflict in memory? -/
def cfl : Ft → Ft → Bool
  | .n, _ => false
  | _, .n => false
  | .m r w, .m r' w' => meetN w w' || meetN w r' || meetN r w'
  | .m r w, .c k k' wl => !w.isEmpty || anyIn k k' wl r
  | .c k k' wl, .m r w => anyLt k w || anyLt k' w || anyIn k k' wl r
  | .c _ _ _, .c _ _ _ => true
def pairOk (fs : List Ft) : List (Nat × Nat) → Bool
  | [] => true
  | (i, j) :: r => match cfl (fs.getD i .n) (fs.getD j .n) with
    | true => false
    | false => pairOk fs r

/-- The operands of an operation. -/
def opdsOf : Op → List Operand
  | .call ⟨.value cf, args, _⟩ => cf :: args.toList
  | op => op.operands.toList
def slotsOf : List Operand → List Nat
  | [] => []
  | .tmp j :: r => j :: slotsOf r
  | _ :: r => slotsOf r
def slP (dep n : Nat) : List Nat → Option (List (Nat × List D4))
  | [] => some []
  | j :: r => (match Nat.blt j n, slP dep n r with
    | true, some l => some ((j, pth dep j) :: l)
    | _, _ => none)
def compGen (dep n : Nat) (d : Option Nat) (op : Op) : Option Ins := match slP dep n (slotsOf op.operands.toList) with
  | some sl => (match d with
    | some d => some (.gen (some (d, pth dep d)) sl op)
    | none => some (.gen none sl op))
  | none => none
def compO (dep n : Nat) (d : Option Nat) (op : Op) : Option Ins := match d with
  | none => (match op with
    | .store t x y => (match compP dep n x, compP dep n y with
      | some p, some q => some (.st t p q)
      | _, _ => none)
    | op => compGen dep n none op)
  | some d => (match Nat.blt d n with
    | false => none
    | true => (match op with
      | .move x => (match compP dep n x with
        | some p => some (.mv (pth dep d) p)
        | none => none)
      | .assign x => (match compP dep n x with
        | some p => some (.mv (pth dep d) p)
        | none => none)
      | .binOp o t x y _ => (match compP dep n x, compP dep n y with
        | some p, some q => some (.bin (pth dep d) o t p q)
        | _, _ => none)
      | .indexAddr t x y => (match compP dep n x, compP dep n y with
        | some p, some q => some (.idx (pth dep d) t p q)
        | _, _ => none)
      | .fieldAddr t x f => (match compP dep n x with
        | some p => some (.fad (pth dep d) t p f)
        | none => none)
      | .extract x j => (match compP dep n x with
        | some p => some (.ext (pth dep d) p j)
        | none => none)
      | .load t x => (match compP dep n x with
        | some p => some (.ld (pth dep d) t p)
        | none => none)
      | .call ⟨.value (.func f), args, _⟩ => (match compPs dep n args.toList with
        | some ps => some (.call (pth dep d) f ps)
        | none => none)
      | .call ⟨.value (.tmp j), args, _⟩ => (match compP dep n (.tmp j), compPs dep n args.toList with
        | some p, some ps => some (.calv (pth dep d) p ps)
        | _, _ => none)
      | .call ⟨.builtin .len, ⟨[x]⟩, ⟨[t]⟩⟩ => (match compP dep n x with
        | some p => some (.len (pth dep d) t p)
        | none => none)
      | op => compGen dep n (some d) op))
def compG (dep n : Nat) (opsL : List Oper) (o : Oper) : Option GI := match compO dep n o.dst o.op with
  | some i => (match o.guard with
    | none => some ⟨none, none, i⟩
    | some (j, want) => (match gslot opsL j with
      | some tg => (match Nat.blt tg n with
        | true => (match o.dst with
          | some d => some ⟨some (pth dep tg, want), some (pth dep d), i⟩
          | none => some ⟨some (pth dep tg, want), none, i⟩)
        | false => none)
      | none => none))
  | none => none
def compR (dep n : Nat) (opsL : List Oper) : List Oper → Option (List GI)
  | [] => some []
  | o :: os => (match compG dep n opsL o, compR dep n opsL os with
    | some g, some gs => some (g :: gs)
    | _, _ => none)
/-- The slots that an operation reads and writes. -/
def slotK (opsL : List Oper) (o : Oper) : Ks :=
  ((match o.guard with
    | none => okeys (opdsOf o.op)
    | some (j, _) => (match gslot opsL j with
      | some tg => .s tg :: okeys (opdsOf o.op)
      | none => okeys (opdsOf o.op))),
   match o.dst with
    | some d => [.s d]
    | none => [])
def touches (o : Oper) : Bool := match o.dst with
  | none => true
  | some _ => (match o.op with
    | .move _ => false
    | .assign _ => false
    | .binOp _ _ _ _ _ => false
    | .indexAddr _ _ _ => false
    | .fieldAddr _ _ _ => false
    | .extract _ _ => false
    | _ => true)
def pairsI (m j : Nat) : List Oper → Nat → List (Nat × Nat)
  | [], _ => []
  | o :: os, i => if i < j then (if touches o && !m.testBit i then (i, j) :: pairsI m j os (i + 1) else pairsI m j os (i + 1)) else []
def pairsA (opsL : List Oper) : List Nat → List Oper → Nat → List (Nat × Nat)
  | m :: ms, o :: os, j => if touches o then pairsI m j opsL 0 ++ pairsA opsL ms os (j + 1) else pairsA opsL ms os (j + 1)
  | _, _, _ => []
/-- A region made ready: the operations, and, where the order is drawn, the pairs that must not conflict. -/
def compReg (dep n : Nat) (ops : List Oper) (draw : Bool) : Option (List GI × Option (List (Nat × Nat))) := match compR dep n ops ops with
  | some gs => (match draw with
    | false => some (gs, none)
    | true => if ordB ops (ops.map (slotK ops)) = true then some (gs, some (pairsA ops (masks ops []) ops 0)) else none)
  | none => none
end Go.El

/- The engine, part 40: data that lie in memory; they are frozen when a contract takes them, and when a call ends. Own work; no condition. -/
namespace Go.El
open Go Go.RowKit

/-- Equality of data of element types. -/
def eqLs {α β : Type} (f : α → β → Bool) : List α → List β → Bool
  | [], [] => true
  | x :: xs, y :: ys => f x y && eqLs f xs ys
  | _, _ => false
def eqD : (T T' : ET) → T.den → T'.den → Bool
  | .int k, .int k', (n : Int), (m : Int) => decide (k = k') && decide (n = m)
  | .bool, .bool, (a : Bool), (b : Bool) => a == b
  | .z, .z, (n : Int), (m : Int) => decide (n = m)
  | .q, .q, (a : Rat), (b : Rat) => decide (a.num = b.num) && decide (a.den = b.den)
  | .sl T, .sl T', (xs : List T.den), (ys : List T'.den) => eqT T T' && eqLs (fun x y => eqD T T' x y) xs ys
  | .pr A B, .pr A' B', x, y => eqD A A' x.1 y.1 && eqD B B' x.2 y.2
  | _, _, _, _ => false
where eqT : ET → ET → Bool
  | .int k, .int k' => decide (k = k')
  | .bool, .bool => true
  | .z, .z => true
  | .q, .q => true
  | .sl T, .sl T' => eqT T T'
  | .pr A B, .pr A' B' => eqT A A' && eqT B B'
  | _, _ => false
theorem eqT_eq : ∀ {T T' : ET}, eqD.eqT T T' = true → T = T' := by
  intro T
  induction T with
  | int k => intro T' h; cases T' <;> simp [eqD.eqT] at h; rw [h]
  | bool => intro T' h; cases T' <;> simp [eqD.eqT] at h; rfl
  | z => intro T' h; cases T' <;> simp [eqD.eqT] at h; rfl
  | q => intro T' h; cases T' <;> simp [eqD.eqT] at h; rfl
  | sl T ih => intro T' h; cases T' <;> simp [eqD.eqT] at h; rw [ih h]
  | pr A B iha ihb => intro T' h; cases T' <;> simp [eqD.eqT] at h; rw [iha h.1, ihb h.2]
theorem eqLs_eq {α : Type} {f : α → α → Bool} (hf : ∀ x y, f x y = true → x = y) : ∀ {xs ys : List α}, eqLs f xs ys = true → xs = ys
  | [], [], _ => rfl
  | x :: xs, y :: ys, h => by
    simp only [eqLs, Bool.and_eq_true] at h
    rw [hf _ _ h.1, eqLs_eq hf h.2]
  | [], _ :: _, h => by simp [eqLs] at h
  | _ :: _, [], h => by simp [eqLs] at h
theorem eqD_eq : ∀ (T : ET) (x y : T.den), eqD T T x y = true → x = y := by
  intro T
  induction T with
  | int k => intro x y h; simp only [eqD, Bool.and_eq_true, decide_eq_true_eq] at h; exact h.2
  | bool => intro x y h; exact eq_of_beq h
  | z => intro x y h; exact of_decide_eq_true h
  | q => intro x y h; simp only [eqD, Bool.and_eq_true, decide_eq_true_eq] at h; exact Rat.ext h.1 h.2
  | sl T ih => intro x y h; simp only [eqD, Bool.and_eq_true] at h; exact eqLs_eq ih h.2
  | pr A B iha ihb => intro x y h; simp only [eqD, Bool.and_eq_true] at h; exact Prod.ext (iha _ _ h.1) (ihb _ _ h.2)

/-- Cells that stand for a list of data. -/
def matLs {α : Type} (f : α → List C → Bool) (n : Nat) : List C → List α → Bool
  | _, [] => true
  | cs, x :: xs => f x (cs.take n) && matLs f n (cs.drop n) xs
def capOk (len : Nat) : Option Nat → Bool
  | none => true
  | some c => Nat.ble len c
def matSl (lk : Nat → Option Blk) (T : ET) (f : T.den → List C → Bool) (c : C) (xs : List T.den) : Bool :=
  match c with
  | .S T' ys => eqD (.sl T') (.sl T) ys xs
  | .V (.slice none 0 0) => xs.isEmpty
  | .L id off len cap => Nat.beq len xs.length && Nat.ble (len * T.n) 140737488355328 && capOk len cap && (match lk id with
    | some (.box _ _ cs) => matLs f T.n (cs.drop off) xs
    | some (.fz _ cs) => matLs f T.n (cs.drop off) xs
    | _ => false)
  | _ => false
def matZ (lk : Nat → Option Blk) (z : Int) : List C → Bool
  | [.B s, c] => (s == zneg z) && matSl lk (.int .u32) (fun n cs => match cs with | [.I .u32 m] => decide (m = n) | _ => false) c (zmag z)
  | _ => false
def matD (lk : Nat → Option Blk) : (T : ET) → T.den → List C → Bool
  | .int k, n, cs => (match cs with | [.I k' m] => decide (k' = k) && decide (m = n) | _ => false)
  | .bool, b, cs => (match cs with | [.B b'] => b' == b | _ => false)
  | .z, z, cs => matZ lk z cs
  | .q, r, cs => matZ lk r.num (cs.take 2) && matZ lk (r.den : Int) (cs.drop 2)
  | .sl T, xs, cs => (match cs with | [c] => matSl lk T (fun x cs => matD lk T x cs) c xs | _ => false)
  | .pr A B, x, cs => matD lk A x.1 (cs.take A.n) && matD lk B x.2 (cs.drop A.n)

def matC (lk : Nat → Option Blk) : C → C → Bool
  | .B b, .B b' => b == b'
  | .I k n, .I k' n' => decide (k = k') && decide (n = n')
  | c, .S T xs => matSl lk T (matD lk T) c xs
  | _, .any => true
  | _, _ => false
def matCs (lk : Nat → Option Blk) : List C → List C → Bool
  | [], [] => true
  | c :: cs, d :: ds => matC lk c d && matCs lk cs ds
  | _, _ => false
def matT (lk : Nat → Option Blk) : List (Bool × List C) → List (Bool × List C) → Bool
  | [], [] => true
  | (b, cs) :: r, (b', ds) :: r' => (b == b') && matCs lk cs ds && matT lk r r'
  | _, _ => false
def matA (lk : Nat → Option Blk) : AV → AV → Bool
  | .c x, .c y => matC lk x y
  | .a cs, .a ds => matCs lk cs ds
  | .t ss, .t rs => matT lk ss rs
  | _, _ => false

section
variable {F : Fix} {g : Gh} {W : World} {lk : Nat → Option Blk}

/-- What the freeze uses. -/
structure FzOk (HF : FH) (g : Gh) (W : World) (lk : Nat → Option Blk) : Prop where
  le : FLe g.H HF
  blk : ∀ id E cs, ((∃ sz, lk id = some (.box E sz cs)) ∨ lk id = some (.fz E cs)) → ∃ b, ∃ vs rest : List Value, El.blk (g.γ id) = some b ∧ (∀ o, HF b o = W.cell? ⟨b, o, none⟩) ∧ W.heap[b]? = some (.cells (vs ++ rest).toArray E (0, 0)) ∧ RelL g cs vs

variable {HF : FH}

theorem matLs_rel {α : Type} {R : α → List Value → Prop} {f : α → List C → Bool} {n : Nat} (hf : ∀ x cs vs, f x cs = true → RelL g cs vs → R x vs) (hn : ∀ x vs, R x vs → vs.length = n) : ∀ (xs : List α) {cs : List C} {vs : List Value}, matLs f n cs xs = true → RelL g cs vs → ∀ i (h : i < xs.length), R xs[i] ((vs.drop (i * n)).take n)
  | [], _, _, _, _, i, h => by simp at h
  | x :: xs, cs, vs, hm, hr, i, h => by
    simp only [matLs, Bool.and_eq_true] at hm
    cases i with
    | zero => simp only [Nat.zero_mul, List.drop_zero, List.getElem_cons_zero]; exact hf _ _ _ hm.1 (hr.take n)
    | succ i =>
      have := matLs_rel hf hn xs hm.2 (hr.drop n) i (by simpa using h)
      rw [List.drop_drop, show n + i * n = (i + 1) * n by rw [Nat.add_mul]; omega] at this
      simpa using this

theorem matSl_rel (ok : FzOk HF g W lk) {T : ET} {f : T.den → List C → Bool} (hf : ∀ x cs vs, f x cs = true → RelL g cs vs → RelD HF T x vs) {c : C} {xs : List T.den} {v : Value} (hm : matSl lk T f c xs = true) (hr : RelC g c v) : RelSl (RelD HF T) T.n HF xs v := by
  unfold matSl at hm
  split at hm
  · rename_i T' ys
    have hT : T' = T := by simp only [eqD, Bool.and_eq_true] at hm; exact eqT_eq hm.1
    subst hT
    have := eqD_eq (.sl T') ys xs hm
    subst this
    exact RelSl.mono hr ok.le (fun x cs => RelD.mono ok.le T' x cs)
  · have : xs = [] := List.isEmpty_iff.1 hm
    subst this
    simp only [RelC] at hr
    exact ⟨none, 0, hr, Nat.le_refl _, by simp, .inl rfl⟩
  · rename_i id off len cap
    simp only [Bool.and_eq_true] at hm
    obtain ⟨⟨⟨h1, h2⟩, h3⟩, h4⟩ := hm
    have h1 := Nat.eq_of_beq_eq_true h1
    have h2 := Nat.le_of_ble_eq_true h2
    subst h1
    have h4 : ∃ E cs, ((∃ sz, lk id = some (.box E sz cs)) ∨ lk id = some (.fz E cs)) ∧ matLs f T.n (cs.drop off) xs = true := by
      split at h4
      · rename_i E sz cs hl; exact ⟨E, cs, .inl ⟨sz, hl⟩, h4⟩
      · rename_i E cs hl; exact ⟨E, cs, .inr hl, h4⟩
      · cases h4
    · obtain ⟨E, cs, hl, h4⟩ := h4
      obtain ⟨b, vs, rest, hb, hs, hh, hrl⟩ := ok.blk id E cs hl
      have key := matLs_rel (R := RelD HF T) hf (fun x vs h => RelD.length T x vs h) xs h4 (hrl.drop off)
      have hv : ∃ c, v = .slice (some ⟨b, off, none⟩) xs.length c ∧ xs.length ≤ c := by
        cases cap with
        | none =>
          obtain ⟨e0, b', c, e1, e2, e3⟩ := hr
          rw [e1] at hb
          simp only [El.blk, Option.some.injEq] at hb
          subst hb
          exact ⟨c, by rw [e0]; exact e2, e3⟩
        | some c =>
          obtain ⟨b', e1, e2⟩ := hr
          rw [hb] at e1
          cases e1
          exact ⟨c, e2, Nat.le_of_ble_eq_true h3⟩
      obtain ⟨c, hv, hc⟩ := hv
      refine ⟨some ⟨b, off, none⟩, c, hv, hc, h2, ?_⟩
      by_cases hx : xs = []
      · exact .inl hx
      · refine .inr ⟨b, off, rfl, fun i hi => ⟨_, RelD.length T _ _ (key i hi), key i hi, fun j hj => ?_⟩⟩
        rw [hs]
        simp only [List.length_take, List.length_drop] at hj
        simp only [List.getElem_take, List.getElem_drop]
        rw [show off + i * T.n + j = off + (i * T.n + j) by omega]
        simp only [World.cell?, hh, List.getElem?_toArray]
        rw [List.getElem?_append_left (by omega)]
        exact List.getElem?_eq_getElem (by omega)
  · cases hm

theorem matZ_rel (ok : FzOk HF g W lk) {z : Int} {cs : List C} {vs : List Value} (hm : matZ lk z cs = true) (hr : RelL g cs vs) : RelZ HF z vs := by
  unfold matZ at hm
  split at hm
  · rename_i b c
    simp only [Bool.and_eq_true] at hm
    obtain ⟨v, r, rfl, h1, v', r', rfl, h2, h3⟩ := hr
    simp only [RelL] at h3
    simp only [RelC] at h1
    subst h3 h1
    rw [eq_of_beq hm.1]
    refine ⟨v', rfl, matSl_rel (T := .int .u32) ok ?_ hm.2 h2⟩
    intro x cs vs hf hrl
    split at hf
    · obtain ⟨u, r, rfl, h1, h2⟩ := hrl
      simp only [RelL] at h2
      simp only [RelC] at h1
      subst h2 h1
      rw [of_decide_eq_true hf]; rfl
    · cases hf
  · cases hm

theorem matD_rel (ok : FzOk HF g W lk) : ∀ (T : ET) (x : T.den) (cs : List C) (vs : List Value), matD lk T x cs = true → RelL g cs vs → RelD HF T x vs := by
  intro T
  induction T with
  | int k =>
    intro x cs vs hm hr
    simp only [matD] at hm
    split at hm
    · obtain ⟨u, r, rfl, h1, h2⟩ := hr
      simp only [RelL] at h2
      simp only [RelC] at h1
      simp only [Bool.and_eq_true, decide_eq_true_eq] at hm
      subst h2 h1
      rw [hm.1, hm.2]; rfl
    · cases hm
  | bool =>
    intro x cs vs hm hr
    simp only [matD] at hm
    split at hm
    · obtain ⟨u, r, rfl, h1, h2⟩ := hr
      simp only [RelL] at h2
      simp only [RelC] at h1
      subst h2 h1
      rw [eq_of_beq hm]; rfl
    · cases hm
  | z => intro x cs vs hm hr; exact matZ_rel ok hm hr
  | q =>
    intro x cs vs hm hr
    simp only [matD, Bool.and_eq_true] at hm
    exact ⟨vs.take 2, vs.drop 2, (List.take_append_drop 2 vs).symm, matZ_rel ok hm.1 (hr.take 2), matZ_rel ok hm.2 (hr.drop 2)⟩
  | sl T ih =>
    intro x cs vs hm hr
    simp only [matD] at hm
    split at hm
    · obtain ⟨u, r, rfl, h1, h2⟩ := hr
      simp only [RelL] at h2
      subst h2
      exact ⟨u, rfl, matSl_rel ok ih hm h1⟩
    · cases hm
  | pr A B iha ihb =>
    intro x cs vs hm hr
    simp only [matD, Bool.and_eq_true] at hm
    exact ⟨vs.take A.n, vs.drop A.n, (List.take_append_drop _ vs).symm, iha _ _ _ hm.1 (hr.take _), ihb _ _ _ hm.2 (hr.drop _)⟩

theorem matC_rel (ok : FzOk HF g W lk) {c d : C} {v : Value} (hm : matC lk c d = true) (hr : RelC g c v) : RelC ⟨HF, noγ⟩ d v := by
  unfold matC at hm
  split at hm
  · rw [← eq_of_beq hm]; exact hr
  · simp only [Bool.and_eq_true, decide_eq_true_eq] at hm; rw [← hm.1, ← hm.2]; exact hr
  · exact matSl_rel ok (matD_rel ok _) hm hr
  · trivial
  · cases hm
theorem matCs_rel (ok : FzOk HF g W lk) : ∀ {cs ds : List C} {vs : List Value}, matCs lk cs ds = true → RelL g cs vs → RelL ⟨HF, noγ⟩ ds vs
  | [], [], _, _, h => h
  | c :: cs, d :: ds, _, hm, h => by
    simp only [matCs, Bool.and_eq_true] at hm
    obtain ⟨v, r, rfl, h1, h2⟩ := h
    exact ⟨v, r, rfl, matC_rel ok hm.1 h1, matCs_rel ok hm.2 h2⟩
  | [], _ :: _, _, hm, _ => by simp [matCs] at hm
  | _ :: _, [], _, hm, _ => by simp [matCs] at hm
theorem matT_rel (ok : FzOk HF g W lk) : ∀ {ss rs : List (Bool × List C)} {vs : List Value}, matT lk ss rs = true → RelT g ss vs → RelT ⟨HF, noγ⟩ rs vs
  | [], [], _, _, h => h
  | (b, cs) :: ss, (b', ds) :: rs, _, hm, h => by
    simp only [matT, Bool.and_eq_true] at hm
    obtain ⟨⟨hb, hc⟩, ht⟩ := hm
    have hb := eq_of_beq hb
    subst hb
    obtain ⟨v, r, rfl, h1, h2⟩ := h
    refine ⟨v, r, rfl, ?_, matT_rel ok ht h2⟩
    cases b with
    | true => obtain ⟨us, e, h1⟩ := h1; exact ⟨us, e, matCs_rel ok hc h1⟩
    | false =>
      match cs, ds, hc, h1 with
      | [c], [d], hc, h1 => simp only [matCs, Bool.and_eq_true] at hc; exact matC_rel ok hc.1 h1
      | [c], [], hc, _ => simp [matCs] at hc
      | [c], _ :: _ :: _, hc, _ => simp [matCs] at hc
      | [], _, _, h1 => exact h1.elim
      | _ :: _ :: _, _, _, h1 => exact h1.elim
  | [], _ :: _, _, hm, _ => by simp [matT] at hm
  | _ :: _, [], _, hm, _ => by simp [matT] at hm
theorem matA_rel (ok : FzOk HF g W lk) {x y : AV} {v : Value} (hm : matA lk x y = true) (hr : RelV g x v) : RelV ⟨HF, noγ⟩ y v := by
  cases x <;> cases y <;> simp only [matA] at hm <;> try cases hm
  · exact matC_rel ok hm hr
  · obtain ⟨vs, e, h⟩ := hr; exact ⟨vs, e, matCs_rel ok hm h⟩
  · obtain ⟨vs, e, h⟩ := hr; exact ⟨vs, e, matT_rel ok hm h⟩
end


def matVs (lk : Nat → Option Blk) : List AV → List AV → Bool
  | [], [] => true
  | x :: xs, y :: ys => matA lk x y && matVs lk xs ys
  | _, _ => false
theorem matVs_rel {lk : Nat → Option Blk} {HF : FH} {g : Gh} {W : World} (ok : FzOk HF g W lk) : ∀ {xs ys : List AV} {vs : List Value}, matVs lk xs ys = true → RelVs g xs vs → RelVs ⟨HF, noγ⟩ ys vs
  | [], [], _, _, h => h
  | x :: xs, y :: ys, _, hm, h => by
    simp only [matVs, Bool.and_eq_true] at hm
    obtain ⟨v, r, rfl, h1, h2⟩ := h
    exact ⟨v, r, rfl, matA_rel ok hm.1 h1, matVs_rel ok hm.2 h2⟩
  | [], _ :: _, _, hm, _ => by simp [matVs] at hm
  | _ :: _, [], _, hm, _ => by simp [matVs] at hm
theorem matVs_len {lk : Nat → Option Blk} : ∀ {xs ys : List AV}, matVs lk xs ys = true → ys.length = xs.length
  | [], [], _ => rfl
  | x :: xs, y :: ys, hm => by
    simp only [matVs, Bool.and_eq_true] at hm
    simp [matVs_len hm.2]
  | [], _ :: _, hm => by simp [matVs] at hm
  | _ :: _, [], hm => by simp [matVs] at hm

section
variable {P : Program}

theorem relVs_of {g : Gh} : ∀ (vs : List AV) (us : List Value) (i : Nat) (all : List Value), us.length = vs.length → (∀ j, j < us.length → all[i + j]? = us[j]?) → (∀ t v, lookA t (argSl i vs) = some v → RelV g v (all.toArray.getD t undef)) → RelVs g vs us := by
  intro vs
  induction vs with
  | nil => intro us i all hl _ _; exact List.eq_nil_of_length_eq_zero (by simpa using hl)
  | cons x vs ih =>
    intro us i all hl hall hr
    cases us with
    | nil => simp at hl
    | cons u us =>
      refine ⟨u, us, rfl, ?_, ih us (i + 1) all (by simpa using hl) ?_ ?_⟩
      · have h1 := hr i x (by simp [argSl, lookA])
        have h2 := hall 0 (by simp)
        simp only [Nat.add_zero, List.getElem?_cons_zero] at h2
        simpa [h2] using h1
      · intro j hj
        have := hall (j + 1) (by simpa using hj)
        rw [show i + 1 + j = i + (j + 1) by omega]
        simpa using this
      · intro t v ht
        refine hr t v ?_
        have hne : ∀ (l : List AV) (i' : Nat), i < i' → ∀ v, lookA i (argSl i' l) = some v → False := by
          intro l
          induction l with
          | nil => intro i' _ v h; simp [argSl, lookA] at h
          | cons y l ihl =>
            intro i' hlt v h
            simp only [argSl, lookA] at h
            split at h
            · omega
            · exact ihl (i' + 1) (by omega) v h
        simp only [argSl, lookA]
        split
        · rename_i e
          subst e
          exact (hne vs (i + 1) (by omega) v ht).elim
        · exact ht

/-- A box turns frozen. -/
def fzB : Blk → Blk
  | .box E _ cs => .fz E cs
  | b => b
theorem fzB_mids (b : Blk) : (fzB b).mids = b.mids := by cases b <;> rfl

open Classical in
/-- A contract takes data that lie in memory: they are frozen, and their blocks are no longer known. -/
theorem fs_cxZ {f : FuncId} {vs vs' : List AV} {r : AV} (h : FnS P f vs' r) (hm : midsVs vs' = []) {fm fm' : List (Nat × Blk)} (D : List Nat) (hD : ∀ id, lookA id fm' = if id ∈ D then (lookA id fm).map fzB else lookA id fm) {lk : Nat → Option Blk} (hlk : ∀ id b, lk id = some b → id ∈ D ∧ lookA id fm = some b) (hmat : matVs lk vs vs' = true) (k : Nat) : CX P f vs fm k r fm' k := by
  refine ⟨h.call, Nat.le_refl _, ?_⟩
  intro F g W us hn hul hh
  have hrel : RelVs g vs us := relVs_of vs us 0 us hul (fun j hj => by simp) (fun t v ht => hh.slots t v (by simp [St.kn, ht]))
  have hkn : ∀ id, St.kn ⟨argSl 0 vs, fm, 0, []⟩ (.m id) = (lookA id fm).map .b := fun _ => rfl
  let B : Nat → Prop := fun b => ∃ id E sz cs, id ∈ D ∧ lookA id fm = some (.box E sz cs) ∧ blk (g.γ id) = some b
  let HF : FH := fun b o => if B b then W.cell? ⟨b, o, none⟩ else g.H b o
  have hBz : ∀ b, B b → (∀ o, g.H b o = none) ∧ F.N b := by
    rintro b ⟨id, E, sz, cs, _, hl, hb⟩
    obtain ⟨b', ws, rest, e1, e2, e3, e4, e5, _⟩ := hh.blks id (.box E sz cs) (by rw [hkn, hl]; rfl)
    rw [hb] at e1
    cases e1
    exact ⟨e5, e4⟩
  have hle : FLe g.H HF := by
    intro b o v hv
    by_cases e : B b
    · rw [(hBz b e).1] at hv; cases hv
    · simp only [HF, e, if_false]; exact hv
  have ok : FzOk HF g W lk := by
    refine ⟨hle, fun id E cs hl => ?_⟩
    rcases hl with ⟨sz, hl⟩ | hl
    · obtain ⟨hid, hl⟩ := hlk id _ hl
      obtain ⟨b, ws, rest, e1, e2, e3, e4, e5, _⟩ := hh.blks id (.box E sz cs) (by rw [hkn, hl]; rfl)
      have hB : B b := ⟨id, E, sz, cs, hid, hl, e1⟩
      exact ⟨b, ws, rest, e1, fun o => by simp only [HF, hB, if_true], e2, e3⟩
    · obtain ⟨hid, hl⟩ := hlk id _ hl
      obtain ⟨b, ws, rest, e1, e2, e3, e4, e5⟩ := hh.blks id (.fz E cs) (by rw [hkn, hl]; rfl)
      have hnB : ¬ B b := by
        rintro ⟨id', E', sz, cs', hid', hl', hb'⟩
        have := hh.inj id id' (.fz E cs) (.box E' sz cs') b (by rw [hkn, hl]; rfl) (by rw [hkn, hl']; rfl) e1 hb'
        subst this
        rw [hl] at hl'
        cases hl'
      exact ⟨b, ws, rest, e1, fun o => by simp only [HF, hnB, if_false, e5]; simp [World.cell?, e2], e2, e3⟩
  have hrel' := matVs_rel ok hmat hrel
  have hsub : Sub HF W := by
    intro b o v hv
    by_cases e : B b
    · simp only [HF, e, if_true] at hv; exact hv
    · simp only [HF, e, if_false] at hv; exact hh.sub b o v hv
  have hlen := matVs_len hmat
  have h2 : Hold F (· < k) (St.kn ⟨argSl 0 vs', fm', 0, []⟩) ⟨HF, g.γ⟩ W (actN us) := by
    have hM : ∀ id b, St.kn ⟨argSl 0 vs', fm', 0, []⟩ (.m id) = some (.b b) → ∃ b0, lookA id fm = some b0 ∧ ((id ∉ D ∧ b = b0) ∨ (id ∈ D ∧ b = fzB b0)) := by
      intro id b hb
      have e : St.kn ⟨argSl 0 vs', fm', 0, []⟩ (.m id) = (lookA id fm').map .b := rfl
      rw [e, hD] at hb
      split at hb
      · rename_i hd
        cases hl : lookA id fm with
        | none => rw [hl] at hb; cases hb
        | some b0 => rw [hl] at hb; cases hb; exact ⟨b0, rfl, .inr ⟨hd, rfl⟩⟩
      · rename_i hnd
        simp only [Option.map_eq_some_iff] at hb
        obtain ⟨x, hx, he⟩ := hb
        cases he
        exact ⟨_, hx, .inl ⟨hnd, rfl⟩⟩
    have hmid : ∀ id b, St.kn ⟨argSl 0 vs', fm', 0, []⟩ (.m id) = some (.b b) → ∃ b0, lookA id fm = some b0 ∧ b.mids = b0.mids := by
      intro id b hb
      obtain ⟨b0, hl, h⟩ := hM id b hb
      refine ⟨b0, hl, ?_⟩
      rcases h with ⟨_, rfl⟩ | ⟨_, rfl⟩
      · rfl
      · exact fzB_mids b0
    refine ⟨hh.size, hh.defers, ?_, ?_, ?_, ?_, ?_, hsub, hh.below, hh.le.trans hle, ?_, hh.kfix⟩
    · intro t v ht
      simp only [St.kn, Option.map_eq_some_iff] at ht
      obtain ⟨x, hx, he⟩ := ht
      cases he
      obtain ⟨_, u, hu, hr, hmid⟩ := argSl_look vs' us 0 hrel' t v hx
      have hu' : us[t]? = some u := by simpa using hu
      simp only [actN, Array.getD_eq_getD_getElem?, List.getElem?_toArray, hu', Option.getD_some]
      refine hr.noid ?_ (FLe.refl _) g.γ
      refine List.eq_nil_iff_forall_not_mem.2 (fun id hid => ?_)
      have := hmid id hid
      rw [hm] at this
      cases this
    · intro id b hb
      obtain ⟨b0, hl, hcase⟩ := hM id b hb
      have hb0 : St.kn ⟨argSl 0 vs, fm, 0, []⟩ (.m id) = some (.b b0) := by rw [hkn, hl]; rfl
      have hrep := hh.blks id b0 hb0
      have keep : (∀ E sz cs, b0 = .box E sz cs → id ∉ D) → RepB F.N ⟨HF, g.γ⟩ W id b0 := by
        intro hno
        refine hrep.keep (known := (· < k)) ⟨hle, fun _ _ => rfl⟩ (hh.mkn id _ hb0) (fun j hj => hh.mids _ _ hb0 j hj) (fun kk hkk => ⟨rfl, fun o => ?_⟩)
        have hnB : ¬ B kk := by
          rintro ⟨id', E, sz, cs, hid', hl', hb'⟩
          have := hh.inj id id' b0 (.box E sz cs) kk hb0 (by rw [hkn, hl']; rfl) hkk hb'
          subst this
          rw [hl] at hl'
          cases hl'
          exact hno E sz cs rfl hid'
        simp only [HF, hnB, if_false]
      rcases hcase with ⟨hnd, rfl⟩ | ⟨hd, rfl⟩
      · exact keep (fun _ _ _ _ => hnd)
      · cases b0 with
        | box E sz cs =>
          obtain ⟨b, ws, rest, e1, e2, e3, e4, e5, _⟩ := hrep
          have hB : B b := ⟨id, E, sz, cs, hd, hl, e1⟩
          exact ⟨b, ws, rest, e1, e2, RelL.mono (known := (· < k)) (g := g) (g' := ⟨HF, g.γ⟩) ⟨hle, fun _ _ => rfl⟩ (fun j hj => hh.mids _ _ hb0 j hj) e3, e4, fun o => by simp only [HF, hB, if_true]; simp [World.cell?, e2]⟩
        | vec E T xs => exact keep (fun _ _ _ e => by cases e)
        | clo f a b => exact keep (fun _ _ _ e => by cases e)
        | fz E cs => exact keep (fun _ _ _ e => by cases e)
    · intro id id' b b' kk hb hb' h1 h2
      obtain ⟨b0, hl, _⟩ := hM id b hb
      obtain ⟨b1, hl', _⟩ := hM id' b' hb'
      exact hh.inj id id' b0 b1 kk (by rw [hkn, hl]; rfl) (by rw [hkn, hl']; rfl) h1 h2
    · intro key x hx id hid
      cases key with
      | m j =>
        cases x with
        | b b' =>
          obtain ⟨b0, hl, hmm⟩ := hmid j b' hx
          have hid : id ∈ b'.mids := hid
          rw [hmm] at hid
          exact hh.mids (.m j) (.b b0) (by rw [hkn, hl]; rfl) id hid
        | v v' => simp only [St.kn, Option.map_eq_some_iff] at hx; obtain ⟨_, _, he⟩ := hx; cases he
      | s t =>
        simp only [St.kn, Option.map_eq_some_iff] at hx
        obtain ⟨y, hy, he⟩ := hx
        subst he
        obtain ⟨_, _, _, _, h6⟩ := argSl_look vs' us 0 hrel' t y hy
        have := h6 id hid
        rw [hm] at this
        cases this
    · intro id x hx
      cases x with
      | b b' => obtain ⟨b0, hl, _⟩ := hmid id b' hx; exact hh.mkn id (.b b0) (by rw [hkn, hl]; rfl)
      | v v' => simp only [St.kn, Option.map_eq_some_iff] at hx; obtain ⟨_, _, he⟩ := hx; cases he
    · intro b o hb hno
      have hnB : ¬ B b := by
        intro e
        rcases (hBz b e).2 with h1 | h1
        · omega
        · exact hno h1
      simp only [HF, hnB, if_false]
      exact hh.fresh b o hb hno
  exact (fs_cxM h hm fm' k).spec F ⟨HF, g.γ⟩ W us (by rw [hlen]; exact hn) (by rw [hlen]; exact hul) h2
end
end Go.El

/- The fast interpreter, part 3: code and calls. Own work; no condition. -/
namespace Go.El
open Go Go.RowKit

/-- How a piece of code ends. -/
inductive Rc where
  | no
  | nor (t : Tr) (ms : Ms) (k : Nat) (wl : List Nat)
  | exi (id : Nat) (t : Tr) (ms : Ms) (k : Nat) (wl : List Nat)
  | ret (t : Tr) (ms : Ms) (k : Nat) (wl : List Nat)

def depOf (n : Nat) : Nat := if n ≤ 16 then 2 else if n ≤ 64 then 3 else if n ≤ 256 then 4 else if n ≤ 1024 then 5 else 6
noncomputable def argT (dep : Nat) (vs : List AV) : Nat → Tr → Tr := List.rec (motive := fun _ => Nat → Tr → Tr) (fun _ t => t)
  (fun v _ ih i t => ih (i + 1) (setT (pth dep i) v t)) vs
noncomputable def resOneF (tt : TT) (dep n : Nat) (t : Tr) (ms : Ms) : ResultVar → Option AV
  | .tmp j => (match Nat.blt j n with
    | true => getT (pth dep j) t
    | false => none)
  | .cell j ty => (match Nat.blt j n with
    | true => (match getT (pth dep j) t with
      | some (.c (.P id off)) => (match lookS id ms, tySz tt ty with
        | some (.box _ _ cs), some (sz, ag) => partA cs off sz ag
        | _, _ => none)
      | _ => none)
    | false => none)
noncomputable def resLF (tt : TT) (dep n : Nat) (t : Tr) (ms : Ms) : List ResultVar → Option (List (Bool × List C))
  | [] => some []
  | x :: xs => (match resOneF tt dep n t ms x with
    | some v => (match toS v, resLF tt dep n t ms xs with
      | some s, some r => some (s :: r)
      | _, _ => none)
    | none => none)
noncomputable def resAllF (tt : TT) (dep n : Nat) (t : Tr) (ms : Ms) : List ResultVar → Option AV
  | [x] => resOneF tt dep n t ms x
  | xs => (match resLF tt dep n t ms xs with
    | some ss => some (.t ss)
    | none => none)
/-- The blocks of the call that are still reached. -/
noncomputable def reachF : Nat → Mem → List Nat → Mem → Mem
  | 0, _, _, acc => acc
  | _ + 1, _, [], acc => acc
  | f + 1, own, id :: todo, acc => match lookF id acc with
    | some _ => reachF f own todo acc
    | none => (match lookF id own with
      | some b => reachF f own (b.mids ++ todo) ((id, b) :: acc)
      | none => reachF f own todo acc)
/-- Ids that are new or of the caller's blocks. -/
noncomputable def idsOk (k : Nat) (ms : Ms) : List Nat → Bool
  | [] => true
  | id :: r => (match Nat.ble k id with
    | true => idsOk k ms r
    | false => (match lookS id ms with
      | some _ => idsOk k ms r
      | none => false))
noncomputable def svOk (k : Nat) (ms : Ms) : Mem → Bool
  | [] => true
  | (id, b) :: r => (match Nat.ble k id with
    | true => (match idsOk k ms b.mids with
      | true => svOk k ms r
      | false => false)
    | false => false)
noncomputable def wlOk (k : Nat) (ms ms' : Ms) : List Nat → Bool
  | [] => true
  | id :: r => (match lookS id ms' with
    | some b => (match idsOk k ms b.mids with
      | true => wlOk k ms ms' r
      | false => false)
    | none => wlOk k ms ms' r)
/-- The blocks of the call are its own. -/
noncomputable def ownOk (k : Nat) (l : Mem) : Bool := List.rec (motive := fun _ => Bool) true (fun h _ ih => Bool.rec (motive := fun _ => Bool) false ih (Nat.ble k h.1)) l
def pushS (sv : Mem) : Ms → Ms
  | m :: r => (sv ++ m) :: r
  | [] => [sv]
/-- The ids in the callers' blocks that were written. -/
noncomputable def wlIds (ms : Ms) : List Nat → List Nat
  | [] => []
  | id :: r => (match lookS id ms with
    | some b => b.mids ++ wlIds ms r
    | none => wlIds ms r)
/-- What a call leaves. -/
noncomputable def leave (tt : TT) (fn : Func) (dep : Nat) (ms : Ms) (k : Nat) (t : Tr) (ms' : Ms) (k' : Nat) (wl : List Nat) : Cr := match resAllF tt dep fn.ntmps t ms' fn.results.toList with
  | some r => (match ms' with
    | own :: rest => (match reachF 1000 own (r.mids ++ wlIds rest wl) [] with
      | sv => (match idsOk k ms r.mids && svOk k ms sv && wlOk k ms rest wl && ownOk k own with
        | true => .ok r (pushS sv rest) k' wl
        | false => .no))
    | [] => .no)
  | none => .no
/-- The blocks that a contract's arguments reach. -/
noncomputable def idsZ (ms : Ms) : Nat → List Nat → List Nat → List Nat
  | 0, _, acc => acc
  | _ + 1, [], acc => acc
  | f + 1, id :: todo, acc => match acc.any (Nat.beq id) with
    | true => idsZ ms f todo acc
    | false => (match lookS id ms with
      | some b => idsZ ms f (b.mids ++ todo) (id :: acc)
      | none => idsZ ms f todo acc)
noncomputable def lkS (D : List Nat) (ms : Ms) (id : Nat) : Option Blk := match D.any (Nat.beq id) with
  | true => lookS id ms
  | false => none
noncomputable def fzS : List Nat → Ms → Ms
  | [], ms => ms
  | id :: r, ms => (match lookS id ms with
    | some (.box E _ cs) => fzS r (putS id (.fz E cs) ms)
    | _ => fzS r ms)
abbrev BodyF := Nat → Nat → Nat → Code → Tr → Ms → Nat → List Nat → Rc
noncomputable def callF (P : Program) (tt : TT) (con : FuncId → List AV → Ms → Option (List AV × AV)) (body : BodyF) : CallG := fun f vs ms k =>
  match con f vs ms with
  | some (vs', r) => (match idsZ ms 200 (midsVs vs) [] with
    | D => (match matVs (lkS D ms) vs vs' && (midsVs vs').isEmpty && wlOk k ms (fzS D ms) D with
      | true => .ok r (fzS D ms) k D
      | false => .no))
  | none => (match P.funcs[f]? with
    | some fn => (match fn.body with
      | some c => (match fn.name != "runtime.NumGoroutine" && Nat.ble vs.length fn.ntmps && Nat.ble fn.ntmps 4096 with
        | true => (match body (depOf fn.ntmps) fn.ntmps k c (argT (depOf fn.ntmps) vs 0 .e) ([] :: ms) k [] with
          | .nor t ms' k' wl => leave tt fn (depOf fn.ntmps) ms k t ms' k' wl
          | .ret t ms' k' wl => leave tt fn (depOf fn.ntmps) ms k t ms' k' wl
          | _ => .no)
        | false => .no)
      | none => .no)
    | none => .no)
/-- The pieces of the interpreter. -/
noncomputable def rSeq (ih : BodyF) (dep n ke : Nat) (x y : Code) (t : Tr) (ms : Ms) (k : Nat) (wl : List Nat) : Rc := match ih dep n ke x t ms k wl with
  | .nor t1 ms1 k1 wl1 => ih dep n ke y t1 ms1 k1 wl1
  | r => r
noncomputable def rCond (ih : BodyF) (dep n ke : Nat) (c : Operand) (x y : Code) (t : Tr) (ms : Ms) (k : Nat) (wl : List Nat) : Rc := match compP dep n c with
  | some p => (match evP t p with
    | some (.c (.B b)) => (match b with
      | true => ih dep n ke x t ms k wl
      | false => ih dep n ke y t ms k wl)
    | _ => .no)
  | none => .no
noncomputable def rBlock (ih : BodyF) (dep n ke : Nat) (id : Nat) (x : Code) (t : Tr) (ms : Ms) (k : Nat) (wl : List Nat) : Rc := match ih dep n ke x t ms k wl with
  | .exi id' t1 ms1 k1 wl1 => (match Nat.beq id' id with
    | true => .nor t1 ms1 k1 wl1
    | false => .exi id' t1 ms1 k1 wl1)
  | r => r
noncomputable def rLoop (ih : BodyF) (dep n ke : Nat) (x : Code) (t : Tr) (ms : Ms) (k : Nat) (wl : List Nat) : Rc := match ih dep n ke x t ms k wl with
  | .nor t1 ms1 k1 wl1 => ih dep n ke (.loop x) t1 ms1 k1 wl1
  | r => r
def rT : Rs → Rc
  | .ok t1 ms1 k1 wl1 _ => .nor t1 ms1 k1 wl1
  | .no => .no
def rD (ps : List (Nat × Nat)) : Rd → Rc
  | .ok t1 ms1 k1 wl1 fs => (match pairOk fs.reverse ps with
    | true => .nor t1 ms1 k1 wl1
    | false => .no)
  | .no => .no
noncomputable def rReg (cal : CallG) (tt : TT) (dep n ke : Nat) (ops : List Oper) (draw : Bool) (t : Tr) (ms : Ms) (k : Nat) (wl : List Nat) : Rc := match compReg dep n ops draw with
  | some (gs, none) => rT (regT cal tt n ke gs t ms k wl)
  | some (gs, some ps) => rD ps (regD cal tt n ke gs t ms k wl [])
  | none => .no
noncomputable def rStep (P : Program) (tt : TT) (con : FuncId → List AV → Ms → Option (List AV × AV)) (ih : BodyF) (dep n ke : Nat) : Code → Tr → Ms → Nat → List Nat → Rc
  | .skip => .nor
  | .exit id => .exi id
  | .ret => .ret
  | .seq x y => rSeq ih dep n ke x y
  | .cond c x y => rCond ih dep n ke c x y
  | .block id x => rBlock ih dep n ke id x
  | .loop x => rLoop ih dep n ke x
  | .region _ ops draw => rReg (callF P tt con ih) tt dep n ke ops.toList draw
  | _ => fun _ _ _ _ => .no
/-- THE FAST INTERPRETER. -/
noncomputable def runF (P : Program) (tt : TT) (con : FuncId → List AV → Ms → Option (List AV × AV)) (fuel : Nat) : BodyF := Nat.rec (motive := fun _ => BodyF)
  (fun _ _ _ _ _ _ _ _ => .no) (fun _ ih => rStep P tt con ih) fuel
end Go.El

/- The fast interpreter, part 4: one operation is sound. Own work; no condition. -/
namespace Go.El
open Go Go.RowKit

def FtR : Ft → Nat → Prop
  | .n, _ => False
  | .m rd _, id => id ∈ rd
  | .c k _ _, id => id < k
def FtW : Ft → Nat → Prop
  | .n, _ => False
  | .m _ wr, id => id ∈ wr
  | .c k k' wl, id => (id ∈ wl ∧ id < k) ∨ (k ≤ id ∧ id < k')
/-- The keys that are told are covered by slots and by what is done to memory. -/
def CovK (ks sk : Ks) (f : Ft) : Prop := (∀ key ∈ ks.1, match key with | .s t => Key.s t ∈ sk.1 | .m id => FtR f id) ∧ ∀ key ∈ ks.2, match key with | .s t => Key.s t ∈ sk.2 | .m id => FtW f id
/-- All ids are below k. -/
def wfM (ms : Ms) (k : Nat) : Prop := ∀ id b, lookS id ms = some b → id < k ∧ ∀ j ∈ b.mids, j < k
def wfT (dep n : Nat) (t : Tr) (k : Nat) : Prop := ∀ j v, j < n → getT (pth dep j) t = some v → ∀ id ∈ v.mids, id < k
/-- Behind the first list of blocks no id is new. -/
def Tails (ms ms' : Ms) : Prop := ∀ i j b, 1 ≤ i → lookS j (ms'.drop i) = some b → ∃ b0, lookS j (ms.drop i) = some b0
theorem Tails.refl (ms : Ms) : Tails ms ms := fun _ _ b _ h => ⟨b, h⟩
theorem Tails.trans {a b c : Ms} (h : Tails a b) (g : Tails b c) : Tails a c := fun i j x hi hx => by
  obtain ⟨y, hy⟩ := g i j x hi hx
  exact h i j y hi hy
theorem tails_put (id : Nat) (b : Blk) (ms : Ms) : Tails ms (putS id b ms) := by
  intro i j x _ hx
  have key : ∀ (ms : Ms) (i : Nat) (x : Blk), lookS j ((putS id b ms).drop i) = some x → ∃ y, lookS j (ms.drop i) = some y := by
    intro ms
    induction ms with
    | nil => intro i x hx; exact ⟨x, hx⟩
    | cons m r ih =>
      intro i x hx
      have e2 : putS id b (m :: r) = match lookF id m with | some _ => putF id b m :: r | none => m :: putS id b r := rfl
      cases i with
      | zero =>
        simp only [List.drop_zero] at hx ⊢
        rw [lookS_put] at hx
        split at hx
        · rename_i y hy
          split at hx
          · rename_i e; subst e; exact ⟨y, hy⟩
          · exact ⟨x, hx⟩
        · exact ⟨x, hx⟩
      | succ i =>
        rw [e2] at hx
        split at hx
        · exact ⟨x, by simpa using hx⟩
        · exact ih i x (by simpa using hx)
  exact key ms i x hx
theorem tails_del (id : Nat) (ms : Ms) : Tails ms (delS id ms) := by
  intro i j x _ hx
  have key : ∀ (ms : Ms) (i : Nat), (delS id ms).drop i = delS id (ms.drop i) := by
    intro ms
    induction ms with
    | nil => intro i; simp [delS]
    | cons m r ih => intro i; cases i with
      | zero => rfl
      | succ i => simpa [delS] using ih i
  rw [key, lookS_del] at hx
  split at hx
  · cases hx
  · exact ⟨x, hx⟩
theorem tails_cons (k : Nat) (b : Blk) (ms : Ms) : Tails ms (consS k b ms) := by
  intro i j x hi hx
  obtain ⟨i, rfl⟩ : ∃ i', i = i' + 1 := ⟨i - 1, by omega⟩
  cases ms with
  | nil => exact ⟨x, by simpa [consS] using hx⟩
  | cons m r => exact ⟨x, by simpa [consS] using hx⟩
/-- What is called is sound. -/
structure CalOk (P : Program) (cal : CallG) : Prop where
  ok : ∀ {f vs ms k r ms' k' wl}, cal f vs ms k = .ok r ms' k' wl → wfM ms k → (∀ id ∈ midsVs vs, id < k) →
    CX P f vs ms.flatten k r ms'.flatten k' ∧ (∀ id ∈ r.mids, k ≤ id ∨ ∃ b, lookS id ms = some b) ∧ (∀ id b, lookS id ms' = some b → lookS id ms = some b ∨ ∀ j ∈ b.mids, k ≤ j ∨ ∃ b, lookS j ms = some b) ∧
      (∀ id, id < k → id ∉ wl → lookS id ms' = lookS id ms) ∧ (∀ id b, lookS id ms' = some b → k ≤ id ∨ ∃ b0, lookS id ms = some b0) ∧ wfM ms' k' ∧ (∀ id ∈ r.mids, id < k') ∧ Tails ms ms'

section
variable {P : Program} {tt : TT} {dep n : Nat} {t : Tr} {ms : Ms} {k : Nat}

theorem wfM.le {k' : Nat} (h : wfM ms k) (hk : k ≤ k') : wfM ms k' := fun id b hb => ⟨Nat.lt_of_lt_of_le (h id b hb).1 hk, fun j hj => Nat.lt_of_lt_of_le ((h id b hb).2 j hj) hk⟩
theorem wfT.le {k' : Nat} (h : wfT dep n t k) (hk : k ≤ k') : wfT dep n t k' := fun j v hj hv id hid => Nat.lt_of_lt_of_le (h j v hj hv id hid) hk
theorem wfT.set (h : wfT dep n t k) (hn : n ≤ 4 ^ dep) {d : Nat} (hd : d < n) {v : AV} (hv : ∀ id ∈ v.mids, id < k) : wfT dep n (setT (pth dep d) v t) k := by
  intro j u hj hu
  by_cases e : d = j
  · subst e; rw [get_set] at hu; cases hu; exact hv
  · rw [get_set_ne _ _ _ _ (by rw [pth_length, pth_length]) (fun e' => e (pth_inj dep (by omega) (by omega) e'))] at hu
    exact h j u hj hu
theorem wfT.del (h : wfT dep n t k) (hn : n ≤ 4 ^ dep) {d : Nat} (hd : d < n) : wfT dep n (delT (pth dep d) t) k := by
  intro j u hj hu
  by_cases e : d = j
  · subst e; rw [get_del] at hu; cases hu
  · rw [get_del_ne _ _ _ (by rw [pth_length, pth_length]) (fun e' => e (pth_inj dep (by omega) (by omega) e'))] at hu
    exact h j u hj hu

theorem blt_lt {a b : Nat} (h : Nat.blt a b = true) : a < b := by simpa [Nat.blt_eq] using h
theorem compP_ev {m : Mem} {x : Operand} {p : Pd} (h : compP dep n x = some p) {v : AV} (he : evP t p = some v) : (absS dep n t m).ev x = some v := by
  cases x with
  | tmp j =>
    simp only [compP] at h
    split at h
    · rename_i hj
      cases h
      simp only [St.ev, absS, look_slots, if_pos (blt_lt hj)]
      exact he
    · cases h
  | const u => simp only [compP, Option.some.injEq] at h; subst h; exact he
  | func f => simp only [compP, Option.some.injEq] at h; subst h; exact he
  | global g => simp [compP] at h
theorem compPs_ev {m : Mem} : ∀ {xs : List Operand} {ps : List Pd}, compPs dep n xs = some ps → ∀ {vs : List AV}, evPs t ps = some vs → evs (absS dep n t m) xs = some vs
  | [], ps, h, vs, he => by simp only [compPs, Option.some.injEq] at h; subst h; exact he
  | x :: xs, ps, h, vs, he => by
    simp only [compPs] at h
    split at h
    · rename_i p qs h1 h2
      cases h
      have e : evPs t (p :: qs) = match evP t p with
        | some v => (match evPs t qs with | some vs => some (v :: vs) | none => none)
        | none => none := rfl
      rw [e] at he
      split at he
      · rename_i v hv
        split at he
        · rename_i us hus
          cases he
          simp only [evs, compP_ev h1 hv, compPs_ev h2 hus]
        · cases he
      · cases he
    · cases h
theorem ev_low {m : Mem} (hw : wfT dep n t k) {x : Operand} {p : Pd} (h : compP dep n x = some p) {v : AV} (he : evP t p = some v) : ∀ id ∈ v.mids, id < k := by
  cases x with
  | tmp j =>
    simp only [compP] at h
    split at h
    · rename_i hj
      cases h
      exact hw j v (blt_lt hj) he
    · cases h
  | const u =>
    simp only [compP, Option.some.injEq] at h; subst h
    have : constAV u = v := by simpa [evP] using he
    subst this
    intro id hid
    cases u <;> simp [constAV, AV.mids, C.mids] at hid
  | func f =>
    simp only [compP, Option.some.injEq] at h; subst h
    have : AV.c (.V (.func (.func f) #[] #[])) = v := by simpa [evP] using he
    subst this
    intro id hid
    simp [AV.mids, C.mids] at hid
  | global g => simp [compP] at h
theorem evs_low (hw : wfT dep n t k) : ∀ {xs : List Operand} {ps : List Pd}, compPs dep n xs = some ps → ∀ {vs : List AV}, evPs t ps = some vs → ∀ id ∈ midsVs vs, id < k
  | [], ps, h, vs, he => by
    simp only [compPs, Option.some.injEq] at h; subst h
    have : vs = [] := by simpa [evPs] using he.symm
    subst this
    simp [midsVs]
  | x :: xs, ps, h, vs, he => by
    simp only [compPs] at h
    split at h
    · rename_i p qs h1 h2
      cases h
      have e : evPs t (p :: qs) = match evP t p with
        | some v => (match evPs t qs with | some vs => some (v :: vs) | none => none)
        | none => none := rfl
      rw [e] at he
      split at he
      · rename_i v hv
        split at he
        · rename_i us hus
          cases he
          intro id hid
          simp only [midsVs, List.mem_append] at hid
          rcases hid with hid | hid
          · exact ev_low (m := []) hw h1 hv id hid
          · exact evs_low hw h2 hus id hid
        · cases he
      · cases he
    · cases h

theorem sx_V (htt : ttB P tt = true) {o : Oper} (hg : o.guard = none) {d : Nat} (hd : o.dst = some d) (hdn : d < n) (hn : n ≤ 4 ^ dep) {m : Mem} {v : AV} {p : Pr} (he : evalV tt (absS dep n t m) o.op = some (v, p)) (hp : p.h) :
    StepX P n #[o] 0 (absS dep n t m) (absS dep n (setT (pth dep d) v t) m) k (k + 1) (okeys o.op.operands.toList, [.s d]) :=
  StepX.of_s (evalV_sound htt (ops := #[o]) (i := 0) rfl hg hd hdn he hp k) (rdV_kn _ _) (abs_set dep n t m d v hn hdn) keysV (by simp [keysOf])
theorem sx_L (htt : ttB P tt = true) {o : Oper} (hg : o.guard = none) {d : Nat} (hd : o.dst = some d) (hdn : d < n) (hn : n ≤ 4 ^ dep) {m : Mem} {v : AV} {p : Pr} (he : evalL tt (absS dep n t m) o.op = some (v, p)) (hp : p.h) :
    StepX P n #[o] 0 (absS dep n t m) (absS dep n (setT (pth dep d) v t) m) k (k + 1) (okeys o.op.operands.toList, [.s d]) :=
  StepX.of_s (evalL_sound htt (ops := #[o]) (i := 0) rfl hg hd hdn he hp k) (rdV_kn _ _) (abs_set dep n t m d v hn hdn) keysV (by simp [keysOf])
theorem sx_M (htt : ttB P tt = true) {o : Oper} (hg : o.guard = none) {d : Nat} (hd : o.dst = some d) (hdn : d < n) (hn : n ≤ 4 ^ dep) {m : Mem} {v : AV} {p : Pr} (he : evalM tt (absS dep n t m) o.op = some (v, p)) (hp : p.h) :
    StepX P n #[o] 0 (absS dep n t m) (absS dep n (setT (pth dep d) v t) m) k (k + 1) (okeys o.op.operands.toList, [.s d]) :=
  StepX.of_s (evalM_sound htt (ops := #[o]) (i := 0) rfl hg hd hdn he hp k) (rdV_kn _ _) (abs_set dep n t m d v hn hdn) keysV (by simp [keysOf])
theorem sx_ld (htt : ttB P tt = true) {o : Oper} (hg : o.guard = none) {d : Nat} (hd : o.dst = some d) (hdn : d < n) (hn : n ≤ 4 ^ dep) {ty : TypeId} {x : Operand} (hop : o.op = .load ty x) {v u : AV} {ids : List Nat} (hx : (absS dep n t ms.flatten).ev x = some v) (he : ldF tt ms ty v = some (u, ids)) :
    StepX P n #[o] 0 (absS dep n t ms.flatten) (absS dep n (setT (pth dep d) u t) ms.flatten) k (k + 1) (okeys [x] ++ mkeys ids, [.s d]) := by
  have hl : ldA tt (absS dep n t ms.flatten) ty v = some (u, .t, ids) := by
    unfold ldF at he
    unfold ldA
    split at he
    · cases he
    · rename_i sz ag hnz hts
      have hnz' : sz ≠ 0 := hnz
      simp only [hts]
      split at he
      · rename_i id off
        have e : lookA id (absS dep n t ms.flatten).mem = lookS id ms := look_flat id ms
        simp only [e]
        split at he
        · rename_i E bz cs hb
          simp only [hb]
          split at he
          · rename_i y hy
            cases he
            simp only [partF_eq hy (fun e => absurd e hnz')]
          · cases he
        · rename_i E cs hb
          simp only [hb]
          split at he
          · rename_i y hy
            cases he
            simp only [partF_eq hy (fun e => absurd e hnz')]
          · cases he
        · cases he
      · rename_i T e off
        split at he
        · rename_i y hy
          cases he
          simp only [partF_eq hy (fun e => absurd e hnz')]
        · cases he
      · cases he
    · cases he
  refine StepX.of_s (ld_sound htt (ops := #[o]) (i := 0) rfl hg hd hdn hop hx hl trivial k) ?_ (abs_set dep n t ms.flatten d u hn hdn) ?_ (by simp [keysOf])
  · intro kx hkx
    rcases List.mem_append.1 hkx with h | h
    · exact opd_kn _ _ kx h
    · exact mrd_kn _ _ kx h
  · intro key hk
    simp only [rkeysOf, List.map_append, List.mem_append] at hk ⊢
    rcases hk with h | h
    · exact .inl (okeys_opd (absS dep n t ms.flatten) [x] key (by simpa [rkeysOf] using h))
    · exact .inr (mkeys_mrd _ _ key h)
theorem sx_st (htt : ttB P tt = true) {o : Oper} (hg : o.guard = none) (hd : o.dst = none) {ty : TypeId} {x y : Operand} (hop : o.op = .store ty x y) {v w : AV} {id : Nat} {b : Blk} {us : List C} (hx : (absS dep n t ms.flatten).ev x = some v) (hy : (absS dep n t ms.flatten).ev y = some w) (he : stF tt ms ty v w = some (id, b, us)) :
    StepX P n #[o] 0 (absS dep n t ms.flatten) (absS dep n t (putS id b ms).flatten) k (k + 1) (okeys [x, y] ++ mkeys [id], [.m id]) ∧ (∃ b0, lookS id ms = some b0 ∧ ∀ j ∈ b.mids, j ∈ b0.mids ∨ j ∈ midsL us) := by
  have hl : stA tt (absS dep n t ms.flatten) ty v w = some (id, b) ∧ ∃ b0, lookS id ms = some b0 ∧ ∀ j ∈ b.mids, j ∈ b0.mids ∨ j ∈ midsL us := by
    unfold stF at he
    unfold stA
    split at he
    · rename_i sz ag id' off us' hts hc
      simp only [hts, hc]
      have e : lookA id' (absS dep n t ms.flatten).mem = lookS id' ms := look_flat id' ms
      simp only [e]
      unfold stF1 at he
      split at he
      · rename_i E bz cs hb
        split at he
        · rename_i hif
          simp only [Bool.and_eq_true] at hif
          split at he
          · rename_i x hx
            cases he
            obtain ⟨h1, rfl⟩ := ovF_eq us off cs x hx
            have hlen : us.length = sz := Nat.eq_of_beq_eq_true hif.1
            simp only [hb]
            rw [if_pos ⟨hlen, by omega, okA_eq hif.2⟩]
            exact ⟨rfl, _, rfl, fun j hj => midsL_over cs us off j hj⟩
          · cases he
        · cases he
      · cases he
    · cases he
  refine ⟨?_, hl.2⟩
  obtain ⟨hl, b0, hb0, _⟩ := hl
  refine StepX.of_s (store_sound htt (ops := #[o]) (i := 0) rfl hg hd hop hx hy hl k) ?_ ?_ ?_ (by simp [keysOf])
  · intro kx hkx
    rcases List.mem_append.1 hkx with h | h
    · rcases List.mem_append.1 h with h | h
      · exact opd_kn _ _ kx h
      · exact opd_kn _ _ kx h
    · exact mrd_kn _ _ kx h
  · refine abs_mem dep n t ms.flatten _ _ (fun j => ?_) (fun j => by simp [says])
    rw [look_flat, lookS_put, hb0]
    simp only [upd, says, Key.m.injEq]
    by_cases e : id = j
    · simp [e]
    · simp [e, absS, St.kn, look_flat]
  · exact keys3
end
end Go.El
