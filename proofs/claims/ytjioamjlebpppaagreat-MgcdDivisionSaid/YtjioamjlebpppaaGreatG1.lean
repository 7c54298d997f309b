/- The engine, part 1: data, abstract values, what it means that they describe memory. Own work; no condition. -/
import Derived.WalkKit
import Derived.OrdersIn
set_option linter.unusedVariables false
set_option linter.unusedSimpArgs false
set_option linter.unnecessarySimpa false
namespace Go.El
open Go Go.RowKit
abbrev FH := Nat → Nat → Option Value
inductive ET where
 | int (k : IntKind) | bool | z | q | sl (T : ET) | pr (A B : ET)
@[reducible] def ET.den : ET → Type
 | .int _ => Int
 | .bool => Bool
 | .z => Int
 | .q => Rat
 | .sl T => List T.den
 | .pr A B => A.den × B.den
@[reducible] def ET.dflt : (T : ET) → T.den
 | .int _ => (0 : Int)
 | .bool => false
 | .z => (0 : Int)
 | .q => (0 : Rat)
 | .sl _ => []
 | .pr A B => (A.dflt, B.dflt)
@[reducible] def ET.n : ET → Nat
 | .int _ => 1
 | .bool => 1
 | .z => 2
 | .q => 4
 | .sl _ => 1
 | .pr A B => A.n + B.n
theorem ET.n_pos : ∀ T : ET, 0 < T.n
 | .int _ => Nat.one_pos
 | .bool => Nat.one_pos
 | .z => Nat.two_pos
 | .q => by decide
 | .sl _ => Nat.one_pos
 | .pr A B => by have := A.n_pos; simp only [ET.n]; omega
def wordsF : Nat → Nat → List Int
 | 0, _ => []
 | f + 1, n => if n = 0 then [] else ((n % 4294967296 : Nat) : Int) :: wordsF f (n / 4294967296)
def wordsN (n : Nat) : List Int := wordsF n n
def zneg (z : Int) : Bool := decide (z < 0)
def zmag (z : Int) : List Int := wordsN z.natAbs
def RelSl {α : Type} (R : α → List Value → Prop) (n : Nat) (H : FH) (xs : List α) (v : Value) : Prop :=
 ∃ a cap, v = .slice a xs.length cap ∧ xs.length ≤ cap ∧ xs.length * n ≤ 140737488355328 ∧
  (xs = [] ∨ ∃ b off, a = some ⟨b, off, none⟩ ∧ ∀ i (h : i < xs.length), ∃ cs, cs.length = n ∧ R xs[i] cs ∧
   ∀ j (hj : j < cs.length), H b (off + i * n + j) = some cs[j])
def RelW (H : FH) (ws : List Int) (v : Value) : Prop := RelSl (fun n cs => cs = [.int .u32 n]) 1 H ws v
def RelZ (H : FH) (z : Int) (vs : List Value) : Prop := ∃ m, vs = [.bool (zneg z), m] ∧ RelW H (zmag z) m
def RelD (H : FH) : (T : ET) → T.den → List Value → Prop
 | .int k, n, vs => vs = [.int k n]
 | .bool, b, vs => vs = [.bool b]
 | .z, z, vs => RelZ H z vs
 | .q, r, vs => ∃ a b, vs = a ++ b ∧ RelZ H r.num a ∧ RelZ H (r.den : Int) b
 | .sl T, xs, vs => ∃ v, vs = [v] ∧ RelSl (RelD H T) T.n H xs v
 | .pr A B, x, vs => ∃ a b, vs = a ++ b ∧ RelD H A x.1 a ∧ RelD H B x.2 b
def FLe (H H' : FH) : Prop := ∀ b o v, H b o = some v → H' b o = some v
theorem FLe.refl (H : FH) : FLe H H := fun _ _ _ h => h
theorem FLe.trans {H1 H2 H3 : FH} (h : FLe H1 H2) (k : FLe H2 H3) : FLe H1 H3 := fun b o v e => k b o v (h b o v e)
theorem RelSl.mono {α : Type} {R R' : α → List Value → Prop} {n : Nat} {H H' : FH} {xs : List α} {v : Value} (h : RelSl R n H xs v)
  (hl : FLe H H') (hr : ∀ x cs, R x cs → R' x cs) : RelSl R' n H' xs v := by
 let ⟨a, cap, e, h1, h2, h4⟩ := h
 refine ⟨a, cap, e, h1, h2, ?_⟩
 rcases h4 with h4 | ⟨b, off, ea, hc⟩
 ·exact .inl h4
 ·refine .inr ⟨b, off, ea, fun i hi => ?_⟩
  let ⟨cs, l, r, c⟩ := hc i hi
  exact ⟨cs, l, hr _ _ r, fun j hj => hl _ _ _ (c j hj)⟩
theorem RelW.mono {H H' : FH} {ws v} (h : RelW H ws v) (hl : FLe H H') : RelW H' ws v := RelSl.mono h hl fun _ _ h => h
theorem RelZ.mono {H H' : FH} {z vs} (h : RelZ H z vs) (hl : FLe H H') : RelZ H' z vs := by
 let ⟨m, e, h⟩ := h; exact ⟨m, e, h.mono hl⟩
theorem RelD.mono {H H' : FH} (hl : FLe H H') : ∀ (T : ET) (x : T.den) (vs : List Value), RelD H T x vs → RelD H' T x vs
 | .int _, _, _, h => h
 | .bool, _, _, h => h
 | .z, _, _, h => RelZ.mono h hl
 | .q, _, _, h => by let ⟨a, b, e, h1, h2⟩ := h; exact ⟨a, b, e, h1.mono hl, h2.mono hl⟩
 | .sl T, _, _, h => by let ⟨v, e, h1⟩ := h; exact ⟨v, e, h1.mono hl (fun x cs => RelD.mono hl T x cs)⟩
 | .pr A B, _, _, h => by
  let ⟨a, b, e, h1, h2⟩ := h
  exact ⟨a, b, e, RelD.mono hl A _ _ h1, RelD.mono hl B _ _ h2⟩
theorem RelZ.length {H z vs} (h : RelZ H z vs) : vs.length = 2 := by obtain ⟨m, rfl, _⟩ := h; rfl
theorem RelD.length {H : FH} : ∀ (T : ET) (x : T.den) (vs : List Value), RelD H T x vs → vs.length = T.n
 | .int _, _, _, h => by simp only [RelD] at h; subst h; rfl
 | .bool, _, _, h => by simp only [RelD] at h; subst h; rfl
 | .z, _, _, h => RelZ.length h
 | .q, _, _, h => by
  obtain ⟨a, b, rfl, h1, h2⟩ := h
  simp [h1.length, h2.length]
 | .sl T, _, _, h => by obtain ⟨v, rfl, _⟩ := h; rfl
 | .pr A B, _, _, h => by
  obtain ⟨a, b, rfl, h1, h2⟩ := h
  simp [RelD.length A _ _ h1, RelD.length B _ _ h2]
def wrapV (b : Bool) (vs : List Value) : Value := match b with
 | true => .agg vs.toArray
 | false => vs.headD undef
structure MP where
 p : FH → Value → Prop
 mono : ∀ H H' v, FLe H H' → p H v → p H' v
inductive C where
 | any
 | B (b : Bool)
 | I (k : IntKind) (n : Int)
 | V (v : Value)
 | S (T : ET) (xs : List T.den)
 | P (id off : Nat)
 | X (id : Nat)
 | Y (id : Nat) (n i off : Nat)
 | E (T : ET) (x : T.den) (off : Nat)
 | M (m : MP)
 | L (id off len : Nat) (cap : Option Nat)
 | W (id off len : Nat)
inductive AV where
 | c (x : C)
 | a (cs : List C)
 | t (vs : List (Bool × List C))
def av : (T : ET) → T.den → List C
 | .int k, n => [.I k n]
 | .bool, b => [.B b]
 | .z, z => [.B (zneg z), .S (.int .u32) (zmag z)]
 | .q, r => [.B (zneg r.num), .S (.int .u32) (zmag r.num), .B (zneg (r.den : Int)), .S (.int .u32) (zmag (r.den : Int))]
 | .sl T, xs => [.S T xs]
 | .pr A B, x => av A x.1 ++ av B x.2
structure Gh where
 H : FH
 γ : Nat → Value
def blk : Value → Option Nat
 | .pointer (some a) => some a.block
 | .slice (some a) _ _ => some a.block
 | .map (some r) => some r
 | _ => none
def RelC (g : Gh) : C → Value → Prop
 | .any, _ => True
 | .B b, v => v = .bool b
 | .I k n, v => v = .int k n
 | .V u, v => v = u
 | .S T xs, v => RelSl (RelD g.H T) T.n g.H xs v
 | .P id off, v => ∃ b, blk (g.γ id) = some b ∧ v = .pointer (some ⟨b, off, none⟩)
 | .X id, v => v = g.γ id
 | .Y id n i off, v => ∃ b len cap, g.γ id = .slice (some ⟨b, 0, none⟩) len cap ∧ v = .pointer (some ⟨b, i * n + off, none⟩)
 | .E T x off, v => ∃ b o cs, v = .pointer (some ⟨b, o + off, none⟩) ∧ RelD g.H T x cs ∧ ∀ j (hj : j < cs.length), g.H b (o + j) = some cs[j]
 | .M m, v => m.p g.H v
 | .L id off len (some c), v => ∃ b, blk (g.γ id) = some b ∧ v = .slice (some ⟨b, off, none⟩) len c
 | .L id off len none, v => off = 0 ∧ ∃ b c, g.γ id = .slice (some ⟨b, 0, none⟩) 0 c ∧ v = .slice (some ⟨b, 0, none⟩) len c ∧ len ≤ c
 | .W id off len, v => ∃ b c, blk (g.γ id) = some b ∧ v = .slice (some ⟨b, off, none⟩) len c ∧ len ≤ c
def RelL (g : Gh) : List C → List Value → Prop
 | [], vs => vs = []
 | c :: cs, vs => ∃ v r, vs = v :: r ∧ RelC g c v ∧ RelL g cs r
def RelS (g : Gh) : Bool × List C → Value → Prop
 | (true, cs), v => ∃ vs, v = .agg vs.toArray ∧ RelL g cs vs
 | (false, [c]), v => RelC g c v
 | (false, _), _ => False
def RelT (g : Gh) : List (Bool × List C) → List Value → Prop
 | [], vs => vs = []
 | s :: ss, vs => ∃ v r, vs = v :: r ∧ RelS g s v ∧ RelT g ss r
def RelV (g : Gh) : AV → Value → Prop
 | .c x, v => RelC g x v
 | .a cs, v => ∃ vs, v = .agg vs.toArray ∧ RelL g cs vs
 | .t ss, v => ∃ vs, v = .tuple vs.toArray ∧ RelT g ss vs
theorem RelL.length {g : Gh} : ∀ {cs : List C} {vs : List Value}, RelL g cs vs → vs.length = cs.length
 | [], _, h => by simp only [RelL] at h; subst h; rfl
 | _ :: cs, _, h => by obtain ⟨v, r, rfl, _, h⟩ := h; simp [RelL.length h]
theorem RelL.append {g : Gh} : ∀ {cs ds : List C} {vs us : List Value}, RelL g cs vs → RelL g ds us → RelL g (cs ++ ds) (vs ++ us)
 | [], _, _, _, h, k => by simp only [RelL] at h; subst h; exact k
 | _ :: cs, _, _, _, h, k => by obtain ⟨v, r, rfl, h1, h2⟩ := h; exact ⟨v, _, rfl, h1, RelL.append h2 k⟩
theorem relW_C {g : Gh} {ws v} (h : RelW g.H ws v) : RelC g (.S (.int .u32) ws) v := h
theorem relZ_av {g : Gh} {z vs} (h : RelZ g.H z vs) : RelL g (av .z z) vs := by
 obtain ⟨m, rfl, h⟩ := h
 exact ⟨_, _, rfl, rfl, _, _, rfl, relW_C h, rfl⟩
theorem relD_av {g : Gh} : ∀ (T : ET) (x : T.den) (vs : List Value), RelD g.H T x vs → RelL g (av T x) vs
 | .int _, _, _, h => by simp only [RelD] at h; subst h; exact ⟨_, _, rfl, rfl, rfl⟩
 | .bool, _, _, h => by simp only [RelD] at h; subst h; exact ⟨_, _, rfl, rfl, rfl⟩
 | .z, _, _, h => relZ_av h
 | .q, r, _, h => by
  obtain ⟨a, b, rfl, h1, h2⟩ := h
  exact RelL.append (relZ_av h1) (relZ_av h2)
 | .sl T, _, _, h => by obtain ⟨v, rfl, h⟩ := h; exact ⟨_, _, rfl, h, rfl⟩
 | .pr A B, _, _, h => by
  obtain ⟨a, b, rfl, h1, h2⟩ := h
  exact RelL.append (relD_av A _ _ h1) (relD_av B _ _ h2)
theorem relL_append_split {g : Gh} : ∀ {cs ds : List C} {vs : List Value}, RelL g (cs ++ ds) vs → ∃ a b, vs = a ++ b ∧ RelL g cs a ∧ RelL g ds b
 | [], _, vs, h => ⟨[], vs, rfl, rfl, h⟩
 | _ :: cs, _, _, h => by
  obtain ⟨v, r, rfl, h1, h2⟩ := h
  obtain ⟨a, b, rfl, h3, h4⟩ := relL_append_split h2
  exact ⟨v :: a, b, rfl, ⟨v, a, rfl, h1, h3⟩, h4⟩
theorem av_relZ {g : Gh} {z vs} (h : RelL g (av .z z) vs) : RelZ g.H z vs := by
 obtain ⟨v, r, rfl, h1, m, r', rfl, h2, h3⟩ := h
 simp only [RelL] at h3
 simp only [RelC] at h1
 subst h3 h1
 exact ⟨m, rfl, h2⟩
theorem av_relD {g : Gh} : ∀ (T : ET) (x : T.den) (vs : List Value), RelL g (av T x) vs → RelD g.H T x vs
 | .int _, _, _, h => by obtain ⟨v, r, rfl, h1, h2⟩ := h; simp only [RelL] at h2; simp only [RelC] at h1; subst h1 h2; rfl
 | .bool, _, _, h => by obtain ⟨v, r, rfl, h1, h2⟩ := h; simp only [RelL] at h2; simp only [RelC] at h1; subst h1 h2; rfl
 | .z, _, _, h => av_relZ h
 | .q, r, vs, h => by
  obtain ⟨a, b, rfl, h1, h2⟩ := relL_append_split (cs := av .z r.num) (ds := av .z (r.den : Int)) h
  exact ⟨a, b, rfl, av_relZ h1, av_relZ h2⟩
 | .sl T, _, _, h => by obtain ⟨v, r, rfl, h1, h2⟩ := h; simp only [RelL] at h2; subst h2; exact ⟨v, rfl, h1⟩
 | .pr A B, x, vs, h => by
  obtain ⟨a, b, rfl, h1, h2⟩ := relL_append_split (cs := av A x.1) (ds := av B x.2) h
  exact ⟨a, b, rfl, av_relD A _ _ h1, av_relD B _ _ h2⟩
def C.mids : C → List Nat
 | .P id _ => [id]
 | .X id => [id]
 | .Y id _ _ _ => [id]
 | .L id _ _ _ => [id]
 | .W id _ _ => [id]
 | _ => []
def midsL : List C → List Nat
 | [] => []
 | c :: cs => c.mids ++ midsL cs
def midsT : List (Bool × List C) → List Nat
 | [] => []
 | s :: ss => midsL s.2 ++ midsT ss
def AV.mids : AV → List Nat
 | .c x => x.mids
 | .a cs => midsL cs
 | .t ss => midsT ss
structure GLe (known : Nat → Prop) (g g' : Gh) : Prop where
 H : FLe g.H g'.H
 γ : ∀ id, known id → g'.γ id = g.γ id
theorem RelC.mono {known : Nat → Prop} {g g' : Gh} (hl : GLe known g g') : ∀ {c : C} {v : Value}, (∀ id ∈ c.mids, known id) → RelC g c v → RelC g' c v
 | .any, _, _, _ => trivial
 | .B _, _, _, h => h
 | .I _ _, _, _, h => h
 | .V _, _, _, h => h
 | .S T _, _, _, h => RelSl.mono h hl.H (fun x cs => RelD.mono hl.H T x cs)
 | .P id _, _, hk, h => by
  let ⟨b, e, h⟩ := h
  exact ⟨b, by rw [hl.γ id (hk id (by simp [C.mids]))]; exact e, h⟩
 | .X id, _, hk, h => by
  simp only [RelC] at h ⊢
  rw [hl.γ id (hk id (by simp [C.mids]))]; exact h
 | .Y id _ _ _, _, hk, h => by
  let ⟨b, l, c, e, h⟩ := h
  exact ⟨b, l, c, by rw [hl.γ id (hk id (by simp [C.mids]))]; exact e, h⟩
 | .E T _ _, _, _, h => by
  let ⟨b, o, cs, e, h1, h2⟩ := h
  exact ⟨b, o, cs, e, RelD.mono hl.H T _ _ h1, fun j hj => hl.H _ _ _ (h2 j hj)⟩
 | .M m, _, _, h => m.mono _ _ _ hl.H h
 | .L id _ _ (some _), _, hk, h => by
  let ⟨b, e, h⟩ := h
  exact ⟨b, by rw [hl.γ id (hk id (by simp [C.mids]))]; exact e, h⟩
 | .L id _ _ none, _, hk, h => by
  let ⟨h0, b, c, e, h⟩ := h
  exact ⟨h0, b, c, by rw [hl.γ id (hk id (by simp [C.mids]))]; exact e, h⟩
 | .W id _ _, _, hk, h => by
  let ⟨b, c, e, h⟩ := h
  exact ⟨b, c, by rw [hl.γ id (hk id (by simp [C.mids]))]; exact e, h⟩
theorem RelL.mono {known : Nat → Prop} {g g' : Gh} (hl : GLe known g g') : ∀ {cs : List C} {vs : List Value}, (∀ id ∈ midsL cs, known id) → RelL g cs vs → RelL g' cs vs
 | [], _, _, h => h
 | _ :: _, _, hk, h => by
  let ⟨v, r, e, h1, h2⟩ := h
  exact ⟨v, r, e, RelC.mono hl (fun id hid => hk id (by simp [midsL, hid])) h1, RelL.mono hl (fun id hid => hk id (by simp [midsL, hid])) h2⟩
theorem RelS.mono {known : Nat → Prop} {g g' : Gh} (hl : GLe known g g') : ∀ {s : Bool × List C} {v : Value}, (∀ id ∈ midsL s.2, known id) → RelS g s v → RelS g' s v
 | (true, _), _, hk, h => by let ⟨vs, e, h⟩ := h; exact ⟨vs, e, RelL.mono hl hk h⟩
 | (false, [c]), _, hk, h => RelC.mono hl (fun id hid => hk id (by simp [midsL, hid])) h
 | (false, []), _, _, h => h
 | (false, _ :: _ :: _), _, _, h => h
theorem RelT.mono {known : Nat → Prop} {g g' : Gh} (hl : GLe known g g') : ∀ {cs : List (Bool × List C)} {vs : List Value}, (∀ id ∈ midsT cs, known id) → RelT g cs vs → RelT g' cs vs
 | [], _, _, h => h
 | _ :: _, _, hk, h => by
  let ⟨v, r, e, h1, h2⟩ := h
  exact ⟨v, r, e, RelS.mono hl (fun id hid => hk id (by simp [midsT, hid])) h1, RelT.mono hl (fun id hid => hk id (by simp [midsT, hid])) h2⟩
theorem RelV.mono {known : Nat → Prop} {g g' : Gh} (hl : GLe known g g') : ∀ {x : AV} {v : Value}, (∀ id ∈ x.mids, known id) → RelV g x v → RelV g' x v
 | .c _, _, hk, h => RelC.mono hl hk h
 | .a _, _, hk, h => by let ⟨vs, e, h⟩ := h; exact ⟨vs, e, RelL.mono hl hk h⟩
 | .t _, _, hk, h => by let ⟨vs, e, h⟩ := h; exact ⟨vs, e, RelT.mono hl hk h⟩
end Go.El

namespace Go.El
def val : List Int → Int
 | [] => 0
 | w :: r => w + 4294967296 * val r
def rng (ws : List Int) : Prop := ∀ w ∈ ws, 0 ≤ w ∧ w < 4294967296
theorem rng_nil : rng [] := fun _ h => by cases h
theorem rng_cons {w : Int} {ws : List Int} : rng (w :: ws) ↔ (0 ≤ w ∧ w < 4294967296) ∧ rng ws := by simp [rng]
theorem rng_take {ws : List Int} (h : rng ws) (n : Nat) : rng (ws.take n) := fun w hw => h w (List.mem_of_mem_take hw)
theorem rng_drop {ws : List Int} (h : rng ws) (n : Nat) : rng (ws.drop n) := fun w hw => h w (List.mem_of_mem_drop hw)
theorem rng_append {a b : List Int} (h : rng a) (k : rng b) : rng (a ++ b) := fun w hw => (List.mem_append.mp hw).elim (h w) (k w)
theorem rng_set {ws : List Int} (h : rng ws) (i : Nat) {w : Int} (hw : 0 ≤ w ∧ w < 4294967296) : rng (ws.set i w) := fun x hx => (List.mem_or_eq_of_mem_set hx).elim (h x) (fun e => e ▸ hw)
theorem rng_rep (n : Nat) : rng (List.replicate n 0) := fun w hw => by have := List.eq_of_mem_replicate hw; subst this; decide
theorem rng_get {ws : List Int} (h : rng ws) (i : Nat) : 0 ≤ ws.getD i 0 ∧ ws.getD i 0 < 4294967296 := by
 by_cases hi : i < ws.length
 ·simp only [List.getD_eq_getElem?_getD, List.getElem?_eq_getElem hi, Option.getD_some]
  exact h _ (List.getElem_mem hi)
 ·simp [List.getD_eq_getElem?_getD, List.getElem?_eq_none (Nat.le_of_not_lt hi)]
theorem val_append (a b : List Int) : val (a ++ b) = val a + 4294967296 ^ a.length * val b := by
 induction a with
 | nil => simp [val]
 | cons w r ih => simp only [List.cons_append, val, ih, List.length_cons, Int.pow_succ]; grind
theorem val_take_succ (ws : List Int) (i : Nat) (h : i < ws.length) : val (ws.take (i + 1)) = val (ws.take i) + ws.getD i 0 * 4294967296 ^ i := by
 rw [List.take_add_one, val_append, List.length_take, Nat.min_eq_left (Nat.le_of_lt h)]
 simp [List.getElem?_eq_getElem h, val, List.getD_eq_getElem?_getD]
 grind
theorem val_take_ge (ws : List Int) (i : Nat) (h : ws.length ≤ i) : val (ws.take i) = val ws := by rw [List.take_of_length_le h]
theorem val_take_succ' (ws : List Int) (i : Nat) : val (ws.take (i + 1)) = val (ws.take i) + ws.getD i 0 * 4294967296 ^ i := by
 by_cases h : i < ws.length
 ·exact val_take_succ ws i h
 ·rw [val_take_ge ws _ (by omega), val_take_ge ws i (by omega)]
  simp [List.getD_eq_getElem?_getD, List.getElem?_eq_none (Nat.le_of_not_lt h)]
theorem val_set (ws : List Int) (i : Nat) (w : Int) (h : i < ws.length) : val (ws.set i w) = val ws + (w - ws.getD i 0) * 4294967296 ^ i := by
 induction ws generalizing i with
 | nil => simp at h
 | cons x r ih =>
  cases i with
  | zero => simp [val]; omega
  | succ i =>
   have := ih i (by simpa using h)
   simp only [List.set_cons_succ, val, this, List.getD_cons_succ, Int.pow_succ]; grind
theorem val_rep (n : Nat) : val (List.replicate n 0) = 0 := by
 induction n with
 | zero => rfl
 | succ n ih => simp [List.replicate_succ, val, ih]
theorem val_nonneg {ws : List Int} (h : rng ws) : 0 ≤ val ws := by
 induction ws with
 | nil => exact Int.le_refl _
 | cons w r ih =>
  let ⟨h1, h2⟩ := rng_cons.mp h
  have := ih h2
  simp only [val]; omega
theorem val_lt {ws : List Int} (h : rng ws) : val ws < 4294967296 ^ ws.length := by
 induction ws with
 | nil => decide
 | cons w r ih =>
  let ⟨h1, h2⟩ := rng_cons.mp h
  have := ih h2
  simp only [val, List.length_cons, Int.pow_succ]; omega
theorem wordsF_fuel : ∀ (f g n : Nat), n ≤ f → n ≤ g → wordsF f n = wordsF g n := by
 intro f
 induction f with
 | zero => intro g n h _; have : n = 0 := by omega
           subst this; cases g <;> simp [wordsF]
 | succ f ih =>
  intro g n h1 h2
  cases g with
  | zero => have : n = 0 := by omega
            subst this; simp [wordsF]
  | succ g =>
   simp only [wordsF]
   split
   ·rfl
   ·rw [ih g (n / 4294967296) (by omega) (by omega)]
theorem wordsN_zero : wordsN 0 = [] := rfl
theorem wordsN_pos {n : Nat} (h : n ≠ 0) : wordsN n = ((n % 4294967296 : Nat) : Int) :: wordsN (n / 4294967296) := by
 unfold wordsN
 obtain ⟨m, rfl⟩ : ∃ m, n = m + 1 := ⟨n - 1, by omega⟩
 conv => lhs; unfold wordsF
 rw [if_neg h, wordsF_fuel m _ _ (by omega) (Nat.le_refl _)]
theorem val_words (n : Nat) : val (wordsN n) = n := by
 induction n using Nat.strongRecOn with
 | ind n ih =>
  by_cases h : n = 0
  ·subst h; rfl
  ·rw [wordsN_pos h]; simp only [val, ih (n / 4294967296) (by omega)]; omega
theorem rng_words (n : Nat) : rng (wordsN n) := by
 induction n using Nat.strongRecOn with
 | ind n ih =>
  by_cases h : n = 0
  ·subst h; exact rng_nil
  ·rw [wordsN_pos h]; exact rng_cons.mpr ⟨by omega, ih _ (by omega)⟩
def can (ws : List Int) : Prop := ws = [] ∨ ws.getD (ws.length - 1) 0 ≠ 0
theorem can_words {ws : List Int} (h : rng ws) (hc : can ws) : ws = wordsN (val ws).toNat := by
 induction ws with
 | nil => rfl
 | cons w r ih =>
  let ⟨h1, h2⟩ := rng_cons.mp h
  have hr : can r := by
   cases r with
   | nil => exact .inl rfl
   | cons x s => exact .inr (by rcases hc with hc | hc; cases hc; simpa using hc)
  have hv := val_nonneg h2
  have hne : (val (w :: r)).toNat ≠ 0 := by
   simp only [val]
   intro h0
   have h3 : w = 0 ∧ val r = 0 := by omega
   cases r with
   | nil => rcases hc with hc | hc; cases hc; simp at hc; exact hc h3.1
   | cons x s =>
    have := ih h2 hr
    rw [h3.2] at this
    exact absurd this (by simp [wordsN_zero])
  rw [wordsN_pos hne]
  have e1 : (val (w :: r)).toNat / 4294967296 = (val r).toNat := by simp only [val]; omega
  have e2 : (((val (w :: r)).toNat % 4294967296 : Nat) : Int) = w := by simp only [val]; omega
  rw [e1, e2, ← ih h2 hr]
theorem words_can (n : Nat) : can (wordsN n) := by
 induction n using Nat.strongRecOn with
 | ind n ih =>
  by_cases h : n = 0
  ·subst h; exact .inl rfl
  ·rw [wordsN_pos h]
   refine .inr ?_
   by_cases h2 : n / 4294967296 = 0
   ·rw [h2, wordsN_zero]; simp; omega
   ·have := ih (n / 4294967296) (by omega)
    rcases this with h3 | h3
    ·exfalso; have := val_words (n / 4294967296); rw [h3] at this; simp [val] at this; omega
    ·cases hw : wordsN (n / 4294967296) with
     | nil => rw [hw] at h3; simp at h3
     | cons x s => rw [hw] at h3; simpa using h3
def trimN (ws : List Int) : Nat → Nat
 | 0 => 0
 | n + 1 => if ws.getD n 0 = 0 then trimN ws n else n + 1
def trimW (ws : List Int) : List Int := ws.take (trimN ws ws.length)
theorem trimN_le (ws : List Int) : ∀ n, trimN ws n ≤ n
 | 0 => Nat.le_refl _
 | n + 1 => by simp only [trimN]; split; exact Nat.le_succ_of_le (trimN_le ws n); exact Nat.le_refl _
theorem trimN_val (ws : List Int) : ∀ n, val (ws.take (trimN ws n)) = val (ws.take n)
 | 0 => rfl
 | n + 1 => by
  simp only [trimN]
  split
  ·rename_i h
   rw [trimN_val ws n, val_take_succ', h]; omega
  ·rfl
theorem trimN_last (ws : List Int) : ∀ n, trimN ws n = 0 ∨ ws.getD (trimN ws n - 1) 0 ≠ 0
 | 0 => .inl rfl
 | n + 1 => by
  simp only [trimN]
  split
  ·exact trimN_last ws n
  ·rename_i h; exact .inr (by simpa using h)
theorem trimW_val (ws : List Int) : val (trimW ws) = val ws := by
 unfold trimW
 rw [trimN_val, List.take_length]
theorem trimW_rng {ws : List Int} (h : rng ws) : rng (trimW ws) := rng_take h _
theorem trimW_can (ws : List Int) : can (trimW ws) := by
 unfold trimW can
 have h1 := trimN_le ws ws.length
 rcases trimN_last ws ws.length with h | h
 ·left; rw [h]; rfl
 ·by_cases h0 : trimN ws ws.length = 0
  ·left; rw [h0]; rfl
  ·right
   rw [List.length_take, Nat.min_eq_left h1, List.getD_eq_getElem?_getD, List.getElem?_take_of_lt (by omega), ← List.getD_eq_getElem?_getD]
   exact h
theorem trimW_eq {ws : List Int} (h : rng ws) : trimW ws = wordsN (val ws).toNat := by
 have := can_words (trimW_rng h) (trimW_can ws)
 rwa [trimW_val] at this
theorem trimW_words (n : Nat) : trimW (wordsN n) = wordsN n := by rw [trimW_eq (rng_words n), val_words]; simp
theorem words_len_lt {n : Nat} : (n : Int) < 4294967296 ^ (wordsN n).length := by have := val_lt (rng_words n); rwa [val_words] at this
theorem powB_pos (n : Nat) : (0 : Int) < 4294967296 ^ n := Int.pow_pos (by decide)
theorem powB_le {m n : Nat} (h : m ≤ n) : (4294967296 : Int) ^ m ≤ 4294967296 ^ n := by
 obtain ⟨k, rfl⟩ := Nat.exists_eq_add_of_le h
 rw [Int.pow_add]
 have h1 := powB_pos m
 have h2 := powB_pos k
 have : (4294967296 : Int) ^ m * 1 ≤ 4294967296 ^ m * 4294967296 ^ k := Int.mul_le_mul_of_nonneg_left (by omega) (by omega)
 omega
theorem can_ge {ws : List Int} (h : rng ws) (hc : can ws) (hne : ws ≠ []) : (4294967296 : Int) ^ (ws.length - 1) ≤ val ws := by
 have h0 : 0 < ws.length := List.length_pos_iff.mpr hne
 have h1 := val_take_succ' ws (ws.length - 1)
 rw [Nat.sub_add_cancel h0, List.take_length] at h1
 have h2 : ws.getD (ws.length - 1) 0 ≠ 0 := hc.resolve_left hne
 have h3 := rng_get h (ws.length - 1)
 have h4 := val_nonneg (rng_take h (ws.length - 1))
 have h5 := powB_pos (ws.length - 1)
 have h6 : 1 * (4294967296 : Int) ^ (ws.length - 1) ≤ ws.getD (ws.length - 1) 0 * 4294967296 ^ (ws.length - 1) := Int.mul_le_mul_of_nonneg_right (by omega) (by omega)
 omega
theorem words_len_le {n k : Nat} (h : (n : Int) < 4294967296 ^ k) : (wordsN n).length ≤ k := by
 apply Decidable.byContradiction
 intro hk
 have hne : wordsN n ≠ [] := by intro h0; rw [h0] at hk; simp at hk
 have h1 := can_ge (rng_words n) (words_can n) hne
 rw [val_words] at h1
 have h2 : (4294967296 : Int) ^ k ≤ 4294967296 ^ ((wordsN n).length - 1) := powB_le (by omega)
 omega
theorem can_len_lt {a b : List Int} (ha : rng a) (hb : rng b) (hc : can b) (h : a.length < b.length) : val a < val b := by
 have h1 := val_lt ha
 have h2 := can_ge hb hc (by intro h0; rw [h0] at h; simp at h)
 have h3 : (4294967296 : Int) ^ a.length ≤ 4294967296 ^ (b.length - 1) := powB_le (by omega)
 omega
theorem val_lt_at {a b : List Int} (ha : rng a) (hb : rng b) (i : Nat) (hd : a.drop (i + 1) = b.drop (i + 1)) (hl : a.length = b.length) (hi : i < a.length) (h : a.getD i 0 < b.getD i 0) : val a < val b := by
 have e1 : val a = val (a.take (i + 1)) + 4294967296 ^ (i + 1) * val (a.drop (i + 1)) := by
  have := val_append (a.take (i + 1)) (a.drop (i + 1))
  rwa [List.take_append_drop, List.length_take, Nat.min_eq_left (by omega)] at this
 have e2 : val b = val (b.take (i + 1)) + 4294967296 ^ (i + 1) * val (b.drop (i + 1)) := by
  have := val_append (b.take (i + 1)) (b.drop (i + 1))
  rwa [List.take_append_drop, List.length_take, Nat.min_eq_left (by omega)] at this
 rw [hd] at e1
 rw [val_take_succ'] at e1 e2
 have h1 := val_lt (rng_take ha i)
 rw [List.length_take, Nat.min_eq_left (by omega)] at h1
 have h2 := val_nonneg (rng_take hb i)
 have h3 := powB_pos i
 have h4 : (a.getD i 0 + 1) * (4294967296 : Int) ^ i ≤ b.getD i 0 * 4294967296 ^ i := Int.mul_le_mul_of_nonneg_right (by omega) (by omega)
 rw [Int.add_mul] at h4
 omega
structure Kn1 (M v1 v2 v' v t u2 u' u : Int) : Prop where
 hM : 0 < M
 hv1 : 2147483648 ≤ v1
 hv1' : v1 < 4294967296
 hv2 : 0 ≤ v2
 hv2' : v2 < 4294967296
 hv' : 0 ≤ v'
 hv'' : v' < M
 ht : 0 ≤ t
 hu2 : 0 ≤ u2
 hu2' : u2 < 4294967296
 hu' : 0 ≤ u'
 hu'' : u' < M
 ev : v = (v1 * 4294967296 + v2) * M + v'
 eu : u = (t * 4294967296 + u2) * M + u'
 lt : u < v * 4294967296
namespace Kn1
variable {M v1 v2 v' v t u2 u' u : Int} (h : Kn1 M v1 v2 v' v t u2 u' u)
include h
theorem vpos : 0 < v := by
 have h1 := h.ev
 have : 0 < (v1 * 4294967296 + v2) * M := Int.mul_pos (by have := h.hv1; have := h.hv2; omega) h.hM
 have := h.hv'
 omega
theorem vge : 4294967296 * M ≤ v := by
 have h1 := h.ev
 have h2 : 4294967296 * M ≤ (v1 * 4294967296 + v2) * M := Int.mul_le_mul_of_nonneg_right (by have := h.hv1; have := h.hv2; omega) (by have := h.hM; omega)
 have := h.hv'
 omega
theorem vlt : v < (v1 + 1) * 4294967296 * M := by
 have h1 := h.ev
 have h2 : (v1 * 4294967296 + v2 + 1) * M ≤ (v1 + 1) * 4294967296 * M := Int.mul_le_mul_of_nonneg_right (by have := h.hv2'; omega) (by have := h.hM; omega)
 have h3 : (v1 * 4294967296 + v2 + 1) * M = (v1 * 4294967296 + v2) * M + M := by rw [Int.add_mul, Int.one_mul]
 have := h.hv''
 omega
theorem ulow : t * 4294967296 * M ≤ u := by
 have h1 := h.eu
 have h2 : t * 4294967296 * M ≤ (t * 4294967296 + u2) * M := Int.mul_le_mul_of_nonneg_right (by have := h.hu2; omega) (by have := h.hM; omega)
 have := h.hu'
 omega
theorem uhigh : u < (t * 4294967296 + u2 + 1) * M := by
 have h1 := h.eu
 have h3 : (t * 4294967296 + u2 + 1) * M = (t * 4294967296 + u2) * M + M := by rw [Int.add_mul, Int.one_mul]
 have := h.hu''
 omega
theorem tlt : t < (v1 + 1) * 4294967296 := by
 have h1 := h.ulow
 have h2 := h.lt
 have h3 := h.vlt
 have h4 : t * (4294967296 * M) < (v1 + 1) * 4294967296 * (4294967296 * M) := by
  have e1 : t * (4294967296 * M) = t * 4294967296 * M := by rw [Int.mul_assoc]
  have e2 : (v1 + 1) * 4294967296 * (4294967296 * M) = (v1 + 1) * 4294967296 * M * 4294967296 := by rw [Int.mul_assoc _ M, Int.mul_comm M]
  rw [e1, e2]
  omega
 exact Int.lt_of_mul_lt_mul_right h4 (by have := h.hM; omega)
theorem qlt : u / v < 4294967296 := Int.ediv_lt_of_lt_mul h.vpos (by rw [Int.mul_comm]; exact h.lt)
theorem q0 : 0 ≤ u / v := by
 refine Int.ediv_nonneg ?_ (by have := h.vpos; omega)
 have := h.ulow
 have : 0 ≤ t * 4294967296 * M := Int.mul_nonneg (by have := h.ht; omega) (by have := h.hM; omega)
 omega
theorem qmul : u / v * v ≤ u := Int.ediv_mul_le u (by have := h.vpos; omega)
theorem first : u / v ≤ t / v1 := by
 apply Int.le_ediv_of_mul_le (by have := h.hv1; omega)
 have h1 := h.qmul
 have h2 : u / v * (v1 * 4294967296 * M) ≤ u / v * v := Int.mul_le_mul_of_nonneg_left (by
  have h1 := h.ev
  have h3 : v1 * 4294967296 * M ≤ (v1 * 4294967296 + v2) * M := Int.mul_le_mul_of_nonneg_right (by have := h.hv2; omega) (by have := h.hM; omega)
  have := h.hv'
  omega) h.q0
 have h3 := h.uhigh
 have h4 : (t * 4294967296 + u2 + 1) * M ≤ (t + 1) * 4294967296 * M := Int.mul_le_mul_of_nonneg_right (by have := h.hu2'; omega) (by have := h.hM; omega)
 have h5 : u / v * v1 * (4294967296 * M) < (t + 1) * (4294967296 * M) := by
  have e1 : u / v * v1 * (4294967296 * M) = u / v * (v1 * 4294967296 * M) := by simp only [Int.mul_assoc]
  have e2 : (t + 1) * (4294967296 * M) = (t + 1) * 4294967296 * M := by simp only [Int.mul_assoc]
  rw [e1, e2]; omega
 have := Int.lt_of_mul_lt_mul_right h5 (by have := h.hM; omega)
 omega
theorem down {q r : Int} (ht : t = q * v1 + r) (hq : 0 ≤ q) (hc : q * v2 > r * 4294967296 + u2) : u / v < q := by
 apply Int.ediv_lt_of_lt_mul h.vpos
 have h1 := h.uhigh
 have h2 : (t * 4294967296 + u2 + 1) * M ≤ q * (v1 * 4294967296 + v2) * M := Int.mul_le_mul_of_nonneg_right (by
  have e : q * (v1 * 4294967296 + v2) = q * v1 * 4294967296 + q * v2 := by rw [Int.mul_add, Int.mul_assoc]
  rw [e]
  generalize q * v1 = x at *
  generalize q * v2 = y at *
  omega) (by have := h.hM; omega)
 have h3 : q * v = q * (v1 * 4294967296 + v2) * M + q * v' := by rw [h.ev, Int.mul_add, Int.mul_assoc q]
 have h4 : 0 ≤ q * v' := Int.mul_nonneg hq h.hv'
 omega
theorem close {q r : Int} (ht : t = q * v1 + r) (hq : 0 ≤ q) (hB : q < 4294967296) (hc : q * v2 ≤ r * 4294967296 + u2) : q - 1 ≤ u / v := by
 apply Int.le_ediv_of_mul_le h.vpos
 have h2 : q * (v1 * 4294967296 + v2) * M ≤ (t * 4294967296 + u2) * M := Int.mul_le_mul_of_nonneg_right (by
  have e : q * (v1 * 4294967296 + v2) = q * v1 * 4294967296 + q * v2 := by rw [Int.mul_add, Int.mul_assoc]
  rw [e]
  generalize q * v1 = x at *
  generalize q * v2 = y at *
  omega) (by have := h.hM; omega)
 have h3 : q * v = q * (v1 * 4294967296 + v2) * M + q * v' := by rw [h.ev, Int.mul_add, Int.mul_assoc q]
 have h4 : q * v' ≤ 4294967296 * M := Int.mul_le_mul (by omega) (by have := h.hv''; omega) h.hv' (by decide)
 have h5 := h.vge
 have h6 := h.eu
 have h7 := h.hu'
 have h8 : (q - 1) * v = q * v - v := by rw [Int.sub_mul, Int.one_mul]
 omega
theorem broke {q r : Int} (ht : t = q * v1 + r) (hr : 4294967296 ≤ r) : q < 4294967296 := by
 have h1 := h.tlt
 have hv := h.hv1
 by_cases hq : q < 4294967296
 ·exact hq
 ·exfalso
  have : 4294967296 * v1 ≤ q * v1 := Int.mul_le_mul_of_nonneg_right (by omega) (by omega)
  have e : (v1 + 1) * 4294967296 = v1 * 4294967296 + 4294967296 := by rw [Int.add_mul, Int.one_mul]
  rw [e] at h1
  omega
theorem small {q r : Int} (ht : t = q * v1 + r) (hr : 0 ≤ r) : q ≤ 4294967297 := by
 have h1 := h.tlt
 have hv := h.hv1
 have hv' := h.hv1'
 by_cases hq : q ≤ 4294967297
 ·exact hq
 ·exfalso
  have : 4294967298 * v1 ≤ q * v1 := Int.mul_le_mul_of_nonneg_right (by omega) (by omega)
  have e : (v1 + 1) * 4294967296 = v1 * 4294967296 + 4294967296 := by rw [Int.add_mul, Int.one_mul]
  rw [e] at h1
  omega
end Kn1
section
variable {κ ι : Type} [DecidableEq κ]
def says (u : List (κ × Option ι)) (k : κ) : Option (Option ι) :=
 match u with
 | [] => none
 | (k', x) :: r => if k' = k then some x else says r k
def upd (σ : κ → Option ι) (u : List (κ × Option ι)) : κ → Option ι := fun k =>
 match says u k with
 | some x => x
 | none => σ k
def fold (wr : Nat → List (κ × Option ι)) (σ : κ → Option ι) (s : List Nat) : κ → Option ι := s.foldl (fun σ i => upd σ (wr i)) σ
def wrt (u : List (κ × Option ι)) (k : κ) : Bool := (says u k).isSome
theorem upd_not {σ : κ → Option ι} {u : List (κ × Option ι)} {k : κ} (h : wrt u k = false) : upd σ u k = σ k := by
 unfold wrt at h
 unfold upd
 cases hs : says u k with
 | none => rfl
 | some x => rw [hs] at h; simp at h
theorem upd_at {σ σ' : κ → Option ι} {u : List (κ × Option ι)} {k : κ} (h : σ k = σ' k) : upd σ u k = upd σ' u k := by
 unfold upd; rw [h]
theorem fold_at (wr : Nat → List (κ × Option ι)) (k : κ) : ∀ (s : List Nat) {σ σ' : κ → Option ι}, σ k = σ' k → fold wr σ s k = fold wr σ' s k
 | [], _, _, h => h
 | i :: s, _, _, h => fold_at wr k s (upd_at h)
theorem fold_filter (wr : Nat → List (κ × Option ι)) (k : κ) : ∀ (s : List Nat) (σ : κ → Option ι), fold wr σ s k = fold wr σ (s.filter fun i => wrt (wr i) k) k
 | [], _ => rfl
 | i :: s, σ => by
  cases h : wrt (wr i) k with
  | true =>
   rw [List.filter_cons_of_pos (by simpa using h)]
   exact fold_filter wr k s _
  | false =>
   rw [List.filter_cons_of_neg (by simp [h])]
   have h1 := fold_filter wr k s σ
   rw [← h1]
   exact fold_at wr k s (upd_not h)
theorem fold_snoc (wr : Nat → List (κ × Option ι)) (σ : κ → Option ι) (s : List Nat) (i : Nat) : fold wr σ (s ++ [i]) = upd (fold wr σ s) (wr i) := by
 simp [fold]
theorem sorted_ext : ∀ {l m : List Nat}, l.Pairwise (· < ·) → m.Pairwise (· < ·) → (∀ x, x ∈ l ↔ x ∈ m) → l = m
 | [], [], _, _, _ => rfl
 | [], y :: m, _, _, h => absurd ((h y).2 (List.mem_cons_self)) (by simp)
 | x :: l, [], _, _, h => absurd ((h x).1 (List.mem_cons_self)) (by simp)
 | x :: l, y :: m, hl, hm, h => by
  have hl' := List.pairwise_cons.1 hl
  have hm' := List.pairwise_cons.1 hm
  have hxy : x = y := by
   have h1 := (h x).1 (List.mem_cons_self)
   have h2 := (h y).2 (List.mem_cons_self)
   rcases List.mem_cons.1 h1 with e | h1
   ·exact e
   ·rcases List.mem_cons.1 h2 with e | h2
    ·exact e.symm
    ·have a := hm'.1 x h1
     have b := hl'.1 y h2
     omega
  subst hxy
  congr 1
  refine sorted_ext hl'.2 hm'.2 (fun z => ?_)
  constructor
  ·intro hz
   rcases List.mem_cons.1 ((h z).1 (List.mem_cons_of_mem _ hz)) with e | h1
   ·have := hl'.1 z hz; omega
   ·exact h1
  ·intro hz
   rcases List.mem_cons.1 ((h z).2 (List.mem_cons_of_mem _ hz)) with e | h1
   ·have := hm'.1 z hz; omega
   ·exact h1
theorem range_sorted (n : Nat) : (List.range n).Pairwise (· < ·) := List.pairwise_lt_range
structure Run (n : Nat) (anc : Nat → Nat → Prop) (s : List Nat) : Prop where
 nodup : s.Nodup
 lt : ∀ i ∈ s, i < n
 closed : ∀ p i r, s = p ++ i :: r → ∀ j, anc j i → j ∈ p
theorem Run.nil (n : Nat) (anc : Nat → Nat → Prop) : Run n anc [] := ⟨List.nodup_nil, by simp, fun p i r h => by simp at h⟩
theorem Run.snoc {n : Nat} {anc : Nat → Nat → Prop} {s : List Nat} (h : Run n anc s) {i : Nat} (hi : i < n) (hn : i ∉ s) (ha : ∀ j, anc j i → j ∈ s) : Run n anc (s ++ [i]) := by
 refine ⟨?_, ?_, ?_⟩
 ·rw [List.nodup_append]
  exact ⟨h.nodup, by simp, fun a ha' b hb => by simp at hb; subst hb; exact fun e => hn (e ▸ ha')⟩
 ·intro j hj
  rcases List.mem_append.1 hj with hj | hj
  ·exact h.lt j hj
  ·simp at hj; omega
 ·intro p k r hs j hj
  rcases List.eq_nil_or_concat r with rfl | ⟨r', x, rfl⟩
  ·have h1 : s = p ∧ i = k := by
    have := List.append_inj' (s₁ := s) (t₁ := [i]) (s₂ := p) (t₂ := [k]) hs rfl
    exact ⟨this.1, by simpa using this.2⟩
   obtain ⟨rfl, rfl⟩ := h1
   exact ha j hj
  ·have h1 : s = p ++ k :: r' := by
    have hs' : s ++ [i] = (p ++ k :: r') ++ [x] := by rw [hs]; simp
    exact (List.append_inj' hs' rfl).1
   exact h.closed p k r' h1 j hj
theorem Run.filter_sorted {n : Nat} {anc : Nat → Nat → Prop} {s : List Nat} (h : Run n anc s) (q : Nat → Bool)
  (hc : ∀ i j, i < j → j < n → q i = true → q j = true → anc i j) : (s.filter q).Pairwise (· < ·) := by
 have key : ∀ p r, s = p ++ r → (r.filter q).Pairwise (· < ·) := by
  intro p r
  induction r generalizing p with
  | nil => intro _; simp
  | cons x r ih =>
   intro hs
   have ih' := ih (p ++ [x]) (by rw [hs]; simp)
   cases hx : q x with
   | false => rw [List.filter_cons_of_neg (by simp [hx])]; exact ih'
   | true =>
    rw [List.filter_cons_of_pos hx, List.pairwise_cons]
    refine ⟨fun y hy => ?_, ih'⟩
    let ⟨hy1, hy2⟩ := List.mem_filter.1 hy
    have hxs : x ∈ s := by rw [hs]; simp
    have hne : x ≠ y := by
     intro e
     have := h.nodup
     rw [hs, List.nodup_append] at this
     have := this.2.1
     rw [List.nodup_cons] at this
     exact this.1 (e ▸ hy1)
    rcases Nat.lt_or_ge x y with hlt | hge
    ·exact hlt
    ·have hlt : y < x := by omega
     have ha := hc y x hlt (h.lt x hxs) hy2 hx
     have hp := h.closed p x r hs y ha
     have := h.nodup
     rw [hs, List.nodup_append] at this
     exact absurd rfl (this.2.2 y hp y (List.mem_cons_of_mem _ hy1))
 exact key [] s rfl
theorem filter_range_sorted (n : Nat) (q : Nat → Bool) : ((List.range n).filter q).Pairwise (· < ·) := (range_sorted n).filter _
theorem Run.read {n : Nat} {anc : Nat → Nat → Prop} {s : List Nat} (h : Run n anc s) (wr : Nat → List (κ × Option ι)) (σ : κ → Option ι) (k : κ) (i : Nat) (hi : i < n) (hn : i ∉ s)
  (ha : ∀ j, anc j i → j ∈ s)
  (hw : ∀ a b, a < b → b < n → wrt (wr a) k = true → wrt (wr b) k = true → anc a b)
  (h1 : ∀ a, a < i → wrt (wr a) k = true → anc a i) (h2 : ∀ b, i < b → b < n → wrt (wr b) k = true → anc i b) :
  fold wr σ s k = fold wr σ (List.range i) k := by
 rw [fold_filter wr k s, fold_filter wr k (List.range i)]
 congr 1
 refine sorted_ext (h.filter_sorted _ (fun a b hab hb qa qb => hw a b hab hb qa qb)) (filter_range_sorted i _) (fun x => ?_)
 rw [List.mem_filter, List.mem_filter, List.mem_range]
 constructor
 ·rintro ⟨hx, qx⟩
  refine ⟨?_, qx⟩
  rcases Nat.lt_trichotomy x i with hlt | he | hgt
  ·exact hlt
  ·exact absurd hx (he ▸ hn)
  ·have hb := h2 x hgt (h.lt x hx) qx
   let ⟨p, r, hs⟩ := List.append_of_mem hx
   have := h.closed p x r hs i hb
   exact absurd (by rw [hs]; exact List.mem_append_left _ this) hn
 ·rintro ⟨hx, qx⟩
  exact ⟨ha x (h1 x hx qx), qx⟩
theorem Run.all {n : Nat} {anc : Nat → Nat → Prop} {s : List Nat} (h : Run n anc s) (wr : Nat → List (κ × Option ι)) (σ : κ → Option ι) (hall : ∀ i, i < n → i ∈ s)
  (hw : ∀ k a b, a < b → b < n → wrt (wr a) k = true → wrt (wr b) k = true → anc a b) : fold wr σ s = fold wr σ (List.range n) := by
 funext k
 rw [fold_filter wr k s, fold_filter wr k (List.range n)]
 congr 1
 refine sorted_ext (h.filter_sorted _ (fun a b hab hb qa qb => hw k a b hab hb qa qb)) (filter_range_sorted n _) (fun x => ?_)
 rw [List.mem_filter, List.mem_filter, List.mem_range]
 exact ⟨fun ⟨hx, q⟩ => ⟨h.lt x hx, q⟩, fun ⟨hx, q⟩ => ⟨hall x hx, q⟩⟩
end
end Go.El

namespace Go.El
open Go Go.RowKit
inductive Blk where
 | box (E : TypeId) (sz : Nat) (cs : List C)
 | vec (E : TypeId) (T : ET) (xs : List T.den)
 | clo (f : FuncId) (first caps : List (Bool × List C))
 | fz (E : TypeId) (cs : List C)
 | mp (ka va : Bool) (xs : List (List C × List C))
 | it (m n : Nat) (seen : List Nat)
 | itn (m n : Nat) (seen : List Nat)
inductive Key where
 | s (t : Nat)
 | m (id : Nat)
 deriving DecidableEq
inductive Info where
 | v (x : AV)
 | b (x : Blk)
def midsM : List (List C × List C) → List Nat
 | [] => []
 | x :: xs => midsL x.1 ++ (midsL x.2 ++ midsM xs)
def Blk.mids : Blk → List Nat
 | .box _ _ cs => midsL cs
 | .vec _ _ _ => []
 | .clo _ first caps => midsT first ++ midsT caps
 | .fz _ cs => midsL cs
 | .mp _ _ xs => midsM xs
 | .it m _ _ => [m]
 | .itn m _ _ => [m]
def Info.mids : Info → List Nat
 | .v x => x.mids
 | .b x => x.mids
abbrev Kn := Key → Option Info
def RelM (g : Gh) (ka va : Bool) : Nat → List (List C × List C) → List MapEntry → Prop
 | _, [], es => es = []
 | n, x :: xs, es => ∃ e r, es = e :: r ∧ e.born = n ∧ (∃ ks, e.key = wrapV ka ks ∧ RelL g x.1 ks) ∧ (∃ vs, e.val = wrapV va vs ∧ RelL g x.2 vs) ∧ RelM g ka va (n + 1) xs r
theorem RelM.mono {known : Nat → Prop} {g g' : Gh} (hl : GLe known g g') {ka va : Bool} : ∀ {n : Nat} {xs : List (List C × List C)} {es : List MapEntry}, (∀ id ∈ midsM xs, known id) → RelM g ka va n xs es → RelM g' ka va n xs es
 | _, [], _, _, h => h
 | _, _ :: _, _, hk, ⟨e, r, h1, h2, ⟨ks, h3, h3'⟩, ⟨vs, h4, h4'⟩, h5⟩ => ⟨e, r, h1, h2, ⟨ks, h3, RelL.mono hl (fun id hid => hk id (by simp [midsM, hid])) h3'⟩, ⟨vs, h4, RelL.mono hl (fun id hid => hk id (by simp [midsM, hid])) h4'⟩, RelM.mono hl (fun id hid => hk id (by simp [midsM, hid])) h5⟩
def Sub (H : FH) (w : World) : Prop := ∀ b o v, H b o = some v → w.cell? ⟨b, o, none⟩ = some v
def RepB (N : Nat → Prop) (g : Gh) (W : World) (id : Nat) : Blk → Prop
 | .box E sz cs => ∃ b, ∃ vs rest : List Value, blk (g.γ id) = some b ∧ W.heap[b]? = some (.cells (vs ++ rest).toArray E (0, 0)) ∧ RelL g cs vs ∧ N b ∧ (∀ o, g.H b o = none) ∧ (sz ≠ 0 → ∃ c, g.γ id = .slice (some ⟨b, 0, none⟩) 0 c ∧ (vs ++ rest).length = c * sz)
 | .vec E T xs => (g.γ id = .slice none 0 0 ∧ xs = []) ∨ ∃ b cap, ∃ vs : List Value, g.γ id = .slice (some ⟨b, 0, none⟩) xs.length cap ∧ W.heap[b]? = some (.cells vs.toArray E (0, 0)) ∧
   vs.length = cap * T.n ∧ xs.length ≤ cap ∧ xs.length * T.n ≤ 140737488355328 ∧ (∀ i (h : i < xs.length), RelD g.H T xs[i] ((vs.drop (i * T.n)).take T.n)) ∧ N b ∧ ∀ o, g.H b o = none
 | .clo f first caps => ∃ us ws : List Value, g.γ id = .func (.func f) us.toArray ws.toArray ∧ RelT g first us ∧ RelT g caps ws
 | .fz E cs => ∃ b, ∃ vs rest : List Value, blk (g.γ id) = some b ∧ W.heap[b]? = some (.cells (vs ++ rest).toArray E (0, 0)) ∧ RelL g cs vs ∧ N b ∧ (∀ o, g.H b o = (vs ++ rest)[o]?)
 | .mp ka va xs => ∃ r, ∃ es : Array MapEntry, g.γ id = .map (some r) ∧ W.heap[r]? = some (.map es xs.length) ∧ RelM g ka va 0 xs es.toList ∧ N r ∧ (∀ o, g.H r o = none)
 | .it m n seen => ∃ r b, g.γ id = .pointer (some ⟨r, 0, none⟩) ∧ g.γ m = .map (some b) ∧ W.heap[r]? = some (.mapIter (some b) n seen.toArray n) ∧ N r ∧ (∀ o, g.H r o = none)
 | .itn m n seen => ∃ j, j < n ∧ j ∉ seen ∧ ∃ r b, g.γ id = .pointer (some ⟨r, 0, none⟩) ∧ g.γ m = .map (some b) ∧ W.heap[r]? = some (.mapIter (some b) n (seen ++ [j]).toArray n) ∧ N r ∧ (∀ o, g.H r o = none)
structure Fix where
 w0 : World
 H0 : FH
 n : Nat
 own : Nat → Prop := fun _ => False
 k0 : Nat := 0
 γ0 : Nat → Value := fun _ => undef
 ds : List Deferred := []
 rd : Option Nat := none
def Fix.N (F : Fix) (b : Nat) : Prop := F.w0.heap.size ≤ b ∨ F.own b
structure BelowX (own : Nat → Prop) (w w' : World) : Prop where
 os : w'.os = w.os
 tape : w'.tape = w.tape
 output : w'.output = w.output
 size : w.heap.size ≤ w'.heap.size
 block : ∀ k, k < w.heap.size → ¬ own k → w'.heap[k]? = w.heap[k]?
structure Hold (F : Fix) (known : Nat → Prop) (σ : Kn) (g : Gh) (W : World) (a : Act) : Prop where
 size : a.tmps.size = F.n
 defers : a.defers = F.ds
 slots : ∀ t v, σ (.s t) = some (.v v) → RelV g v (a.tmps.getD t undef)
 blks : ∀ id b, σ (.m id) = some (.b b) → RepB F.N g W id b
 inj : ∀ id id' b b' k, σ (.m id) = some (.b b) → σ (.m id') = some (.b b') → blk (g.γ id) = some k → blk (g.γ id') = some k → id = id'
 mids : ∀ k x, σ k = some x → ∀ id ∈ x.mids, known id
 mkn : ∀ id x, σ (.m id) = some x → known id
 sub : Sub g.H W
 below : BelowX F.own F.w0 W
 le : FLe F.H0 g.H
 fresh : ∀ b o, b < F.w0.heap.size → ¬ F.own b → g.H b o = F.H0 b o
 kfix : ∀ id, id < F.k0 → known id ∧ g.γ id = F.γ0 id
structure Ext (known chg : Nat → Prop) (g : Gh) (W : World) (g' : Gh) (W' : World) : Prop where
 le : GLe known g g'
 fresh : ∀ b o, b < W.heap.size → g'.H b o = g.H b o
 sub : Sub g'.H W'
 size : W.heap.size ≤ W'.heap.size
 heap : ∀ k, k < W.heap.size → (∀ id, chg id → blk (g.γ id) ≠ some k) → W'.heap[k]? = W.heap[k]?
 os : W'.os = W.os
 tape : W'.tape = W.tape
 output : W'.output = W.output
theorem RepB.block {N : Nat → Prop} {g : Gh} {W : World} {id : Nat} {b : Blk} (h : RepB N g W id b) {k : Nat} (hk : blk (g.γ id) = some k) : N k ∧ k < W.heap.size := by
 cases b with
 | box E sz cs =>
  let ⟨b, vs, rest, e, hh, _, hn, _⟩ := h
  rw [e] at hk
  simp only [Option.some.injEq] at hk
  subst hk
  exact ⟨hn, (Array.getElem?_eq_some_iff.1 hh).1⟩
 | vec E T xs =>
  rcases h with ⟨e, _⟩ | ⟨b, cap, vs, e, hh, _, _, _, _, hn, _⟩
  ·rw [e] at hk; simp [blk] at hk
  ·rw [e] at hk
   simp only [blk, Option.some.injEq] at hk
   subst hk
   exact ⟨hn, (Array.getElem?_eq_some_iff.1 hh).1⟩
 | clo f first caps =>
  let ⟨us, ws, e, _⟩ := h
  rw [e] at hk; simp [blk] at hk
 | fz E cs =>
  let ⟨b, vs, rest, e, hh, _, hn, _⟩ := h
  rw [e] at hk
  simp only [Option.some.injEq] at hk
  subst hk
  exact ⟨hn, (Array.getElem?_eq_some_iff.1 hh).1⟩
 | mp ka va xs =>
  let ⟨r, es, e, hh, _, hn, _⟩ := h
  rw [e] at hk
  simp only [blk, Option.some.injEq] at hk
  subst hk
  exact ⟨hn, (Array.getElem?_eq_some_iff.1 hh).1⟩
 | it m n seen =>
  let ⟨r, b, e, _, hh, hn, _⟩ := h
  rw [e] at hk
  simp only [blk, Option.some.injEq] at hk
  subst hk
  exact ⟨hn, (Array.getElem?_eq_some_iff.1 hh).1⟩
 | itn m n seen =>
  let ⟨k0, k1, k2, r, b, e, _, hh, hn, _⟩ := h
  rw [e] at hk
  simp only [blk, Option.some.injEq] at hk
  subst hk
  exact ⟨hn, (Array.getElem?_eq_some_iff.1 hh).1⟩
theorem RepB.step {known chg : Nat → Prop} {N : Nat → Prop} {g g' : Gh} {W W' : World} {id : Nat} {b : Blk} (h : RepB N g W id b) (hx : Ext known chg g W g' W')
  (hid : known id) (hm : ∀ j ∈ b.mids, known j) (hne : ∀ j k, chg j → blk (g.γ id) = some k → blk (g.γ j) ≠ some k) : RepB N g' W' id b := by
 cases b with
 | box E sz cs =>
  let ⟨b, vs, rest, e, hh, hr, hn, hz, hc⟩ := h
  have hb : b < W.heap.size := (Array.getElem?_eq_some_iff.1 hh).1
  refine ⟨b, vs, rest, by rw [hx.le.γ id hid]; exact e, ?_, RelL.mono hx.le hm hr, hn, fun o => by rw [hx.fresh b o hb]; exact hz o, by rw [hx.le.γ id hid]; exact hc⟩
  rw [hx.heap b hb (fun j hj => hne j b hj e)]; exact hh
 | vec E T xs =>
  rcases h with ⟨e, hx0⟩ | ⟨b, cap, vs, e, hh, h1, h2, h2', h3, hn, hz⟩
  ·exact .inl ⟨by rw [hx.le.γ id hid]; exact e, hx0⟩
  ·have hb : b < W.heap.size := (Array.getElem?_eq_some_iff.1 hh).1
   refine .inr ⟨b, cap, vs, by rw [hx.le.γ id hid]; exact e, ?_, h1, h2, h2', fun i hi => RelD.mono hx.le.H T _ _ (h3 i hi), hn, fun o => by rw [hx.fresh b o hb]; exact hz o⟩
   rw [hx.heap b hb (fun j hj => hne j b hj (by rw [e]; rfl))]; exact hh
 | clo f first caps =>
  let ⟨us, ws, e, h1, h2⟩ := h
  exact ⟨us, ws, by rw [hx.le.γ id hid]; exact e, RelT.mono hx.le (fun j hj => hm j (List.mem_append_left _ hj)) h1, RelT.mono hx.le (fun j hj => hm j (List.mem_append_right _ hj)) h2⟩
 | fz E cs =>
  let ⟨b, vs, rest, e, hh, hr, hn, hz⟩ := h
  have hb : b < W.heap.size := (Array.getElem?_eq_some_iff.1 hh).1
  refine ⟨b, vs, rest, by rw [hx.le.γ id hid]; exact e, ?_, RelL.mono hx.le hm hr, hn, fun o => by rw [hx.fresh b o hb]; exact hz o⟩
  rw [hx.heap b hb (fun j hj => hne j b hj e)]; exact hh
 | mp ka va xs =>
  let ⟨r, es, e, hh, hr, hn, hz⟩ := h
  have hb : r < W.heap.size := (Array.getElem?_eq_some_iff.1 hh).1
  refine ⟨r, es, by rw [hx.le.γ id hid]; exact e, ?_, RelM.mono hx.le hm hr, hn, fun o => by rw [hx.fresh r o hb]; exact hz o⟩
  rw [hx.heap r hb (fun j hj => hne j r hj (by rw [e]; rfl))]; exact hh
 | it m n seen =>
  let ⟨r, b, e, e1, hh, hn, hz⟩ := h
  have hb : r < W.heap.size := (Array.getElem?_eq_some_iff.1 hh).1
  refine ⟨r, b, by rw [hx.le.γ id hid]; exact e, by rw [hx.le.γ m (hm m (by simp [Blk.mids]))]; exact e1, ?_, hn, fun o => by rw [hx.fresh r o hb]; exact hz o⟩
  rw [hx.heap r hb (fun j hj => hne j r hj (by rw [e]; rfl))]; exact hh
 | itn m n seen =>
  let ⟨k0, k1, k2, r, b, e, e1, hh, hn, hz⟩ := h
  have hb : r < W.heap.size := (Array.getElem?_eq_some_iff.1 hh).1
  refine ⟨k0, k1, k2, r, b, by rw [hx.le.γ id hid]; exact e, by rw [hx.le.γ m (hm m (by simp [Blk.mids]))]; exact e1, ?_, hn, fun o => by rw [hx.fresh r o hb]; exact hz o⟩
  rw [hx.heap r hb (fun j hj => hne j r hj (by rw [e]; rfl))]; exact hh
theorem Hold.step {F : Fix} {known chg : Nat → Prop} {σ : Kn} {g g' : Gh} {W W' : World} {a a' : Act} (h : Hold F known σ g W a) (hx : Ext known chg g W g' W')
  (wr : List (Key × Option Info)) (new : Nat) (hnew : ¬ known new)
  (hsz : a'.tmps.size = a.tmps.size) (hdf : a'.defers = F.ds)
  (hkeep : ∀ t, says wr (.s t) = none → a'.tmps.getD t undef = a.tmps.getD t undef)
  (hchg : ∀ id, chg id → says wr (.m id) ≠ none ∧ ∃ b, σ (.m id) = some (.b b))
  (hs : ∀ t v, says wr (.s t) = some (some (.v v)) → RelV g' v (a'.tmps.getD t undef))
  (hb : ∀ id b, says wr (.m id) = some (some (.b b)) → RepB F.N g' W' id b ∧ ((known id ∧ ∃ b', σ (.m id) = some (.b b')) ∨ (id = new ∧ ∀ k, blk (g'.γ id) = some k → W.heap.size ≤ k ∨ ∃ j b', σ (.m j) = some (.b b') ∧ says wr (.m j) = some none ∧ blk (g.γ j) = some k)))
  (hm : ∀ k x, says wr k = some (some x) → ∀ id ∈ x.mids, known id ∨ id = new)
  (hmk : ∀ id x, says wr (.m id) = some (some x) → known id ∨ id = new) :
  Hold F (fun id => known id ∨ id = new) (upd σ wr) g' W' a' := by
 have hold : ∀ k x, upd σ wr k = some x → (says wr k = none ∧ σ k = some x) ∨ says wr k = some (some x) := by
  intro k x hk
  unfold upd at hk
  cases hsay : says wr k with
  | none => rw [hsay] at hk; exact .inl ⟨rfl, hk⟩
  | some y => rw [hsay] at hk; simp only at hk; rw [hk]; exact .inr rfl
 refine ⟨by rw [hsz]; exact h.size, hdf, ?_, ?_, ?_, ?_, ?_, hx.sub, ?_, h.le.trans hx.le.H, ?_, fun id hid => ⟨.inl (h.kfix id hid).1, by rw [hx.le.γ id (h.kfix id hid).1]; exact (h.kfix id hid).2⟩⟩
 ·intro t v ht
  rcases hold _ _ ht with ⟨h1, h2⟩ | h1
  ·rw [hkeep t h1]
   exact RelV.mono hx.le (fun id hid => h.mids _ _ h2 id hid) (h.slots t v h2)
  ·exact hs t v h1
 ·intro id b hid
  rcases hold _ _ hid with ⟨h1, h2⟩ | h1
  ·refine (h.blks id b h2).step hx (h.mkn _ _ h2) (fun j hj => h.mids _ _ h2 j hj) (fun j k hj hk hjk => ?_)
   let ⟨hj1, b', hj2⟩ := hchg j hj
   have := h.inj id j b b' k h2 hj2 hk hjk
   subst this
   exact hj1 h1
  ·exact (hb id b h1).1
 ·intro id id' b b' k hid hid' hk hk'
  have low : ∀ id b, (says wr (.m id) = none ∧ σ (.m id) = some (.b b)) ∨ says wr (.m id) = some (some (.b b)) → blk (g'.γ id) = some k →
    (∃ b'', σ (.m id) = some (.b b'') ∧ blk (g.γ id) = some k ∧ k < W.heap.size ∧ says wr (.m id) ≠ some none) ∨ (id = new ∧ (W.heap.size ≤ k ∨ ∃ j b', σ (.m j) = some (.b b') ∧ says wr (.m j) = some none ∧ blk (g.γ j) = some k)) := by
   intro id b hcase hk
   rcases hcase with ⟨h1, h2⟩ | h1
   ·rw [hx.le.γ id (h.mkn _ _ h2)] at hk
    exact .inl ⟨b, h2, hk, ((h.blks id b h2).block hk).2, by rw [h1]; simp⟩
   ·rcases (hb id b h1).2 with ⟨hkn, b'', h2⟩ | ⟨rfl, hge⟩
    ·rw [hx.le.γ id hkn] at hk
     exact .inl ⟨b'', h2, hk, ((h.blks id b'' h2).block hk).2, by rw [h1]; simp⟩
    ·exact .inr ⟨rfl, hge k hk⟩
  rcases low id b (hold _ _ hid) hk with ⟨c, h1, h2, h3, h4⟩ | ⟨e1, h3⟩ <;> rcases low id' b' (hold _ _ hid') hk' with ⟨c', h1', h2', h3', h4'⟩ | ⟨e1', h3'⟩
  ·exact h.inj id id' c c' k h1 h1' h2 h2'
  ·rcases h3' with h3' | ⟨j, bj, hj1, hj2, hj3⟩
   ·omega
   ·have := h.inj id j c bj k h1 hj1 h2 hj3
    subst this
    exact absurd hj2 h4
  ·rcases h3 with h3 | ⟨j, bj, hj1, hj2, hj3⟩
   ·omega
   ·have := h.inj id' j c' bj k h1' hj1 h2' hj3
    subst this
    exact absurd hj2 h4'
  ·rw [e1, e1']
 ·intro k x hk id hid
  rcases hold _ _ hk with ⟨_, h2⟩ | h1
  ·exact .inl (h.mids _ _ h2 id hid)
  ·exact hm k x h1 id hid
 ·intro id x hk
  rcases hold _ _ hk with ⟨_, h2⟩ | h1
  ·exact .inl (h.mkn _ _ h2)
  ·exact hmk id x h1
 ·refine ⟨hx.os.trans h.below.os, hx.tape.trans h.below.tape, hx.output.trans h.below.output, Nat.le_trans h.below.size hx.size, fun k hk hno => ?_⟩
  have hk' : k < W.heap.size := Nat.lt_of_lt_of_le hk h.below.size
  rw [← h.below.block k hk hno]
  refine hx.heap k hk' (fun id hid hbk => ?_)
  let ⟨_, b, hσ⟩ := hchg id hid
  rcases ((h.blks id b hσ).block hbk).1 with h1 | h1
  ·omega
  ·exact hno h1
 ·intro b o hb' hno
  rw [hx.fresh b o (Nat.lt_of_lt_of_le hb' h.below.size)]
  exact h.fresh b o hb' hno
theorem Hold.weaken {F : Fix} {known known' : Nat → Prop} {σ : Kn} {g : Gh} {W : World} {a : Act} (h : Hold F known σ g W a) (hk : ∀ id, known id → known' id) : Hold F known' σ g W a :=
 ⟨h.size, h.defers, h.slots, h.blks, h.inj, fun k x e id hid => hk _ (h.mids k x e id hid), fun id x e => hk _ (h.mkn id x e), h.sub, h.below, h.le, h.fresh, fun id hid => ⟨hk _ (h.kfix id hid).1, (h.kfix id hid).2⟩⟩
theorem Hold.drew {F : Fix} {known : Nat → Prop} {σ : Kn} {g : Gh} {W : World} {a : Act} (h : Hold F known σ g W a) : Hold F known σ g { W with drawn := W.drawn + 1 } a := by
 refine ⟨h.size, h.defers, h.slots, ?_, h.inj, h.mids, h.mkn, h.sub, ⟨h.below.os, h.below.tape, h.below.output, h.below.size, h.below.block⟩, h.le, h.fresh, h.kfix⟩
 intro id b e
 have := h.blks id b e
 cases b with
 | box E sz cs => exact this
 | vec E T xs => exact this
 | clo f first caps => exact this
 | fz E cs => exact this
 | mp ka va xs => exact this
 | it m n seen => exact this
 | itn m n seen => exact this
def fen (r : Option Nat) : Fence := { Fence.wide with round := r }
def ndO (r : Option Nat) (ops : Array Oper) : Prop := ∀ (i : Nat) (o : Oper), ops[i]? = some o → r = none ∨ ∀ c, o.op ≠ .defer c
theorem ndO_none {ops : Array Oper} : ndO none ops := fun _ _ _ => .inl rfl
theorem wpIn_fen {P : Program} {c : Code} {Q : Exit → Act → World → Prop} {a : Act} {w : World} {r : Option Nat} (hr : r = none) : c.wpIn (fen r) 0 P Q a w ↔ c.wp P Q a w := by
 subst hr
 exact wpIn_wide
theorem wpOpIn_of {P : Program} {ops : Array Oper} {i : Nat} {K : Act → World → Prop} {a : Act} {W : World} {r : Option Nat} {Q : Exit → Act → World → Prop} (hd : ∀ o, ops[i]? = some o → r = none ∨ ∀ c, o.op ≠ .defer c) (h : wpOp P ops (fun _ _ _ => False) i K a W) :
  wpOpIn (fen r) 0 P ops Q i K a W := by
 unfold wpOp at h
 unfold wpOpIn
 cases ho : ops[i]? with
 | none => rw [ho] at h; exact h
 | some o =>
  rw [ho] at h
  simp only at h ⊢
  split
  ·rename_i hw
   rw [if_pos hw] at h
   have h1 : o.wp P a W K (fun _ _ _ => False) := by
    rcases h with h | ⟨_, _, _, hf⟩
    ·exact h
    ·exact hf.elim
   refine ⟨fun _ _ => trivial, ?_⟩
   have he : (o.semAt (fen r).round a.eval) = execOp a.eval o := by
    rcases hd o ho with hn | hn
    ·subst hn; exact Oper.semAt_none _ _
    ·exact Oper.semAt_eq _ _ _ hn
   rw [he]
   unfold Oper.wp at h1
   generalize (execOp a.eval o).run P W = x at h1
   cases x with
   | ok y w' =>
    cases y <;> simp only [Oper.upon, Oper.uponIn] at h1 ⊢
    all_goals first
     | exact h1
     | exact h1.elim
     | skip
    ·refine ⟨fun hh => by simp [fen, Fence.wide] at hh, ?_⟩
     have h2 := (callsIn_wide (n := 0)).2 h1
     refine CallsIn.mono (F := fen r) h2 (fun e w'' he => ?_)
     cases e with
     | returned v => exact he
     | panicked c => exact he.elim
     | outgrown => let ⟨_, _, hf⟩ := he; exact hf.elim
    ·refine ⟨fun hh => by simp [fen, Fence.wide] at hh, ?_⟩
     intro c cs _
     let ⟨v, w'', hr, hst⟩ := h1 c cs
     exact ⟨v, w'', hr, stepsIn_wide.2 hst⟩
   | halt y w' =>
    cases y <;> simp only [Oper.upon] at h1 ⊢ <;> exact h1.elim
  ·rename_i hw
   rw [if_neg hw] at h
   exact ⟨fun _ _ => trivial, h⟩
def StepS (P : Program) (n : Nat) (ops : Array Oper) (i : Nat) (rd : List (Key × Info)) (wr : List (Key × Option Info)) (new : Nat) : Prop :=
 ∀ (F : Fix), F.n = n → ∀ (Q : Exit → Act → World → Prop) (known : Nat → Prop) (σ : Kn) (g : Gh) (W : World) (a : Act) (K : Act → World → Prop), ¬ known new → Hold F known σ g W a →
  (∀ kx ∈ rd, σ kx.1 = some kx.2) → (∀ g' W' a', Hold F (fun id => known id ∨ id = new) (upd σ wr) g' W' a' → K a' W') → wpOp P ops Q i K a W
def StepN (P : Program) (n : Nat) (ops : Array Oper) (i : Nat) (rd : List (Key × Info)) (wr : List (Key × Option Info)) (new : Nat → Prop) : Prop :=
 ∀ (F : Fix), F.n = n → ∀ (Q : Exit → Act → World → Prop) (known : Nat → Prop) (σ : Kn) (g : Gh) (W : World) (a : Act) (K : Act → World → Prop), (∀ id, new id → ¬ known id) → Hold F known σ g W a →
  (∀ kx ∈ rd, σ kx.1 = some kx.2) → (∀ g' W' a', Hold F (fun id => known id ∨ new id) (upd σ wr) g' W' a' → K a' W') → wpOp P ops Q i K a W
theorem StepS.toN {P : Program} {n : Nat} {ops : Array Oper} {i : Nat} {rd : List (Key × Info)} {wr : List (Key × Option Info)} {m : Nat} (h : StepS P n ops i rd wr m) {new : Nat → Prop} (hm : new m) : StepN P n ops i rd wr new := by
 intro F hF Q known σ g W a K hnew hsem hrd hK
 refine h F hF Q known σ g W a K (hnew m hm) hsem hrd (fun g' W' a' h' => hK g' W' a' (h'.weaken ?_))
 rintro id (h | rfl)
 ·exact .inl h
 ·exact .inr hm
def famN (c : Nat → Nat) (i : Nat) : Nat → Prop := fun id => c i ≤ id ∧ id < c (i + 1)
theorem mono_le {c : Nat → Nat} (hc : ∀ i, c i ≤ c (i + 1)) {i j : Nat} (h : i ≤ j) : c i ≤ c j := by
 induction h with
 | refl => exact Nat.le_refl _
 | step _ ih => exact Nat.le_trans ih (hc _)
section
variable {P : Program} {ops : Array Oper} {Q : Exit → Act → World → Prop} {F : Fix} {σ : Kn} {rd : Nat → List (Key × Info)} {wr : Nat → List (Key × Option Info)} {nx : Nat}
theorem region_text {id : Nat} {g : Gh} {W : World} {a : Act} {c : Nat → Nat} (hc : ∀ i, c i ≤ c (i + 1)) (h0 : Hold F (· < c 0) σ g W a)
  (hs : ∀ i, i < ops.size → StepN P F.n ops i (rd i) (wr i) (famN c i))
  (ht : ∀ i, i < ops.size → ∀ kx ∈ rd i, fold wr σ (List.range i) kx.1 = some kx.2)
  (hQ : ∀ g W a, Hold F (· < c ops.size) (fold wr σ (List.range ops.size)) g W a → Q .normal a W) (hnd : ndO F.rd ops) : (Code.region id ops false).wpIn (fen F.rd) 0 P Q a W := by
 refine wpIn_region ?_
 have key : ∀ m k, k + m = ops.size → ∀ g W a, Hold F (· < c k) (fold wr σ (List.range k)) g W a → wpOpsIn (fen F.rd) 0 P ops Q (List.range' k m) a W := by
  intro m
  induction m with
  | zero => intro k hk g W a h; simp only [Nat.add_zero] at hk; subst hk; exact hQ g W a h
  | succ m ih =>
   intro k hk g W a h
   rw [List.range'_succ, wpOpsIn_cons]
   refine wpOpIn_of (hnd k) ?_
   refine hs k (by omega) F rfl _ (· < c k) _ g W a _ (fun id h1 h2 => by simp only [famN] at h1; omega) h (ht k (by omega)) (fun g' W' a' h' => ?_)
   refine ih (k + 1) (by omega) g' W' a' ?_
   rw [List.range_succ, fold_snoc]
   exact h'.weaken (fun id hid => by have := hc k; simp only [famN] at hid; omega)
 have := key ops.size 0 (by omega) g W a h0
 rwa [← List.range_eq_range'] at this
inductive Anc (ops : Array Oper) : Nat → Nat → Prop where
 | one {i j : Nat} {o : Oper} {e : Edge} (ho : ops[i]? = some o) (he : e ∈ o.after) (hb : Region.binds .any e = true) (hj : e.on = j) : Anc ops j i
 | more {i j k : Nat} {o : Oper} {e : Edge} (ho : ops[i]? = some o) (he : e ∈ o.after) (hb : Region.binds .any e = true) (hk : e.on = k) (h : Anc ops j k) : Anc ops j i
theorem Anc.closed {s : List Nat} {i : Nat} (hcl : ∀ k ∈ s, ∀ j, Anc ops j k → j ∈ s) (hready : ∀ o, ops[i]? = some o → ∀ e ∈ o.after, Region.binds .any e = true → e.on ∈ s) : ∀ j, Anc ops j i → j ∈ s := by
 intro j hj
 cases hj with
 | one ho he hb hj => subst hj; exact hready _ ho _ he hb
 | more ho he hb hk h => subst hk; exact hcl _ (hready _ ho _ he hb) j h
def keysOf (u : List (Key × Option Info)) : List Key := u.map (·.1)
def rkeysOf (u : List (Key × Info)) : List Key := u.map (·.1)
theorem wrt_mem {u : List (Key × Option Info)} {k : Key} (h : wrt u k = true) : k ∈ keysOf u := by
 induction u with
 | nil => simp [wrt, says] at h
 | cons p u ih =>
  let ⟨k', x⟩ := p
  by_cases e : k' = k
  ·simp [keysOf, e]
  ·have : wrt u k = true := by simpa [wrt, says, e] using h
   have := ih this
   simp only [keysOf, List.map_cons, List.mem_cons]
   exact .inr this
theorem region_any {id : Nat} {g : Gh} {W : World} {a : Act} {c : Nat → Nat} (hc : ∀ i, c i ≤ c (i + 1)) (hmx : P.follows .mixedOrders = true) (hlt : ∀ i o e, ops[i]? = some o → e ∈ o.after → Region.binds .any e = true → e.on < i) (h0 : Hold F (· < c 0) σ g W a)
  (hs : ∀ i, i < ops.size → StepN P F.n ops i (rd i) (wr i) (famN c i))
  (ht : ∀ i, i < ops.size → ∀ kx ∈ rd i, fold wr σ (List.range i) kx.1 = some kx.2)
  (hww : ∀ i j, i < j → j < ops.size → ∀ k, k ∈ keysOf (wr i) → k ∈ keysOf (wr j) → Anc ops i j)
  (hwr : ∀ i j, i < j → j < ops.size → ∀ k, k ∈ keysOf (wr i) → k ∈ rkeysOf (rd j) → Anc ops i j)
  (hrw : ∀ i j, i < j → j < ops.size → ∀ k, k ∈ rkeysOf (rd i) → k ∈ keysOf (wr j) → Anc ops i j)
  (hQ : ∀ g W a, Hold F (· < c ops.size) (fold wr σ (List.range ops.size)) g W a → Q .normal a W) (hnd : ndO F.rd ops) : (Code.region id ops true).wpIn (fen F.rd) 0 P Q a W := by
 refine wpIn_region_any hmx ?_
 have key : ∀ fuel listed s g W a, listed.size = ops.size → Run ops.size (Anc ops) s → (∀ i, i < ops.size → (listed.getD i true = true ↔ i ∈ s)) → fuel + s.length = ops.size →
   Hold F (fun id => id < c 0 ∨ ∃ i ∈ s, famN c i id) (fold wr σ s) g W a → wpAnyIn (fen F.rd) 0 P .any ops Q fuel listed a W := by
  intro fuel
  induction fuel with
  | zero =>
   intro listed s g W a hsz hrun hl hfuel h
   have hall : ∀ i, i < ops.size → i ∈ s := by
    intro i hi
    refine Classical.byContradiction fun hn => ?_
    have hnd : (i :: s).Nodup := List.nodup_cons.2 ⟨hn, hrun.nodup⟩
    have hsub : i :: s ⊆ List.range ops.size := fun x hx => by
     rcases List.mem_cons.1 hx with rfl | hx
     ·exact List.mem_range.2 hi
     ·exact List.mem_range.2 (hrun.lt x hx)
    have := hnd.length_le_of_subset hsub
    simp at this
    omega
   refine ⟨?_, ?_⟩
   ·cases hr : Region.ready .any ops listed with
    | nil => rfl
    | cons x xs =>
     have hx : x ∈ Region.ready .any ops listed := by rw [hr]; exact List.mem_cons_self
     let ⟨hx1, o, ho, _⟩ := mem_ready.1 hx
     have hxs : x < ops.size := (Array.getElem?_eq_some_iff.1 ho).1
     have := (hl x hxs).2 (hall x hxs)
     rw [this] at hx1
     cases hx1
   ·refine hQ g W a ?_
    rw [← hrun.all wr σ hall (fun k i j hij hj hi' hj' => hww i j hij hj k (wrt_mem hi') (wrt_mem hj'))]
    refine h.weaken (fun id hid => ?_)
    rcases hid with hid | ⟨i, hi, hf⟩
    ·exact Nat.lt_of_lt_of_le hid (mono_le hc (Nat.zero_le _))
    ·have := mono_le hc (show i + 1 ≤ ops.size from hrun.lt i hi); simp only [famN] at hf; omega
  | succ fuel ih =>
   intro listed s g W a hsz hrun hl hfuel h
   refine ⟨fun hr => ?_, fun i hi => ?_⟩
   ·exfalso
    have hex : ∃ i, i < ops.size ∧ i ∉ s := by
     refine Classical.byContradiction fun hne => ?_
     have hall : ∀ i ∈ List.range ops.size, i ∈ s := fun i hi => Classical.byContradiction fun hn => hne ⟨i, List.mem_range.1 hi, hn⟩
     have := (List.nodup_range (n := ops.size)).length_le_of_subset hall
     simp at this
     omega
    have hleast : ∀ m, ∀ i, i ≤ m → i < ops.size → i ∉ s → ∃ i, i < ops.size ∧ i ∉ s ∧ ∀ j, j < i → j ∈ s := by
     intro m
     induction m with
     | zero => intro i h1 h2 h3; exact ⟨i, h2, h3, fun j hj => by omega⟩
     | succ m ihm =>
      intro i h1 h2 h3
      by_cases hj : ∃ j, j < i ∧ j ∉ s
      ·let ⟨j, hj1, hj2⟩ := hj
       exact ihm j (by omega) (by omega) hj2
      ·exact ⟨i, h2, h3, fun j hj' => Classical.byContradiction fun hn => hj ⟨j, hj', hn⟩⟩
    let ⟨i0, hi0, hn0⟩ := hex
    let ⟨i, hi, hn, hbelow⟩ := hleast i0 i0 (Nat.le_refl _) hi0 hn0
    have : i ∈ Region.ready .any ops listed := by
     rw [mem_ready]
     refine ⟨?_, ops[i], by simp [hi], fun e he hb => ?_⟩
     ·cases hg : listed.getD i true with
      | false => rfl
      | true => exact absurd ((hl i hi).1 hg) hn
     ·have h1 := hlt i ops[i] e (by simp [hi]) he hb
      have h2 := (hl e.on (by omega)).2 (hbelow e.on h1)
      have h3 : e.on < listed.size := by omega
      simpa [h3] using h2
    rw [hr] at this
    cases this
   ·let ⟨hun, o, ho, hall⟩ := mem_ready.1 hi
    have hi' : i < ops.size := (Array.getElem?_eq_some_iff.1 ho).1
    have hn : i ∉ s := fun hmem => by rw [(hl i hi').2 hmem] at hun; cases hun
    have hcl : ∀ k ∈ s, ∀ j, Anc ops j k → j ∈ s := by
     intro k hk j hj
     let ⟨p, r, hs'⟩ := List.append_of_mem hk
     rw [hs']
     exact List.mem_append_left _ (hrun.closed p k r hs' j hj)
    have hedge : ∀ o', ops[i]? = some o' → ∀ e ∈ o'.after, Region.binds .any e = true → e.on ∈ s := by
     intro o' ho' e he hb
     rw [ho] at ho'
     cases ho'
     have h1 := hall e he hb
     have hlt : e.on < ops.size := by
      rcases Nat.lt_or_ge e.on listed.size with h2 | h2
      ·omega
      ·simp [Array.getElem?_eq_none h2] at h1
     refine (hl e.on hlt).1 ?_
     have hlt' : e.on < listed.size := by omega
     simpa [hlt'] using h1
    have hanc := Anc.closed hcl hedge
    have hrd : ∀ kx ∈ rd i, fold wr σ s kx.1 = some kx.2 := by
     intro kx hkx
     have hk : kx.1 ∈ rkeysOf (rd i) := List.mem_map.2 ⟨kx, hkx, rfl⟩
     rw [hrun.read wr σ kx.1 i hi' hn hanc (fun a b hab hb ha' hb' => hww a b hab hb _ (wrt_mem ha') (wrt_mem hb')) (fun a ha hwa => hwr a i ha hi' _ (wrt_mem hwa) hk) (fun b hb hbn hwb => hrw i b hb hbn _ hk (wrt_mem hwb))]
     exact ht i hi' kx hkx
    refine wpOpIn_of (hnd i) ?_
    refine hs i hi' F rfl _ _ _ g W a _ (fun id hf hkn => ?_) h hrd (fun g' W' a' h' => ?_)
    ·rcases hkn with hkn | ⟨j, hj, e⟩
     ·have := mono_le hc (Nat.zero_le i); simp only [famN] at hf; omega
     ·have : i = j := by
       simp only [famN] at hf e
       rcases Nat.lt_trichotomy i j with h1 | h1 | h1
       ·have := mono_le hc (show i + 1 ≤ j from h1); omega
       ·exact h1
       ·have := mono_le hc (show j + 1 ≤ i from h1); omega
      exact hn (this ▸ hj)
    ·refine ih (listed.setIfInBounds i true) (s ++ [i]) g' W' a' (by simp [hsz]) (hrun.snoc hi' hn hanc) (fun j hj => ?_) (by simp; omega) ?_
     ·by_cases hji : j = i
      ·subst hji
       have : j < listed.size := by omega
       simp [this]
      ·rw [getD_set_ne true (Ne.symm hji), hl j hj]
       simp [hji]
     ·rw [fold_snoc]
      refine h'.weaken (fun id hid => ?_)
      rcases hid with (hid | ⟨j, hj, e⟩) | hid
      ·exact .inl hid
      ·exact .inr ⟨j, List.mem_append_left _ hj, e⟩
      ·exact .inr ⟨i, by simp, hid⟩
 refine key ops.size _ [] g _ a (by simp) (Run.nil _ _) (fun i hi => ?_) (by simp) ?_
 ·simp [hi]
 ·exact h0.drew.weaken (fun id hid => .inl hid)
end
def lookA {α : Type} (t : Nat) : List (Nat × α) → Option α
 | [] => none
 | (k, x) :: r => if k = t then some x else lookA t r
inductive ZV where
 | b | i (k : IntKind) | s | f | t | p | m
def ZV.toV : ZV → Value
 | .b => .bool false
 | .i k => .int k 0
 | .s => .slice none 0 0
 | .f => .nilFunc
 | .t => .string ⟨⟨[]⟩⟩
 | .p => .pointer none
 | .m => .map none
def ZV.toC : ZV → C
 | .b => .B false
 | .i k => .I k 0
 | .s => .V (.slice none 0 0)
 | .f => .V .nilFunc
 | .t => .V (.string ⟨⟨[]⟩⟩)
 | .p => .V (.pointer none)
 | .m => .V (.map none)
def ZV.ok : ZV → Value → Bool
 | .b, .bool false => true
 | .i k, .int k' n => k = k' && n = 0
 | .s, .slice none 0 0 => true
 | .f, .nilFunc => true
 | .t, .string ⟨⟨[]⟩⟩ => true
 | .p, .pointer none => true
 | .m, .map none => true
 | _, _ => false
theorem ZV.ok_eq : ∀ {z : ZV} {v : Value}, z.ok v = true → v = z.toV := by
 intro z v h
 unfold ZV.ok at h
 split at h
 ·rfl
 ·simp only [Bool.and_eq_true, decide_eq_true_eq] at h
  obtain ⟨rfl, rfl⟩ := h
  rfl
 ·rfl
 ·rfl
 ·rfl
 ·rfl
 ·rfl
 ·cases h
inductive TK where
 | int (k : IntKind) | bool | sl (E : Nat) | st | arr (len E : Nat) | str | map (K V : Nat) | other
structure TI where
 kind : TK
 size : Nat
 bytes : Nat
 fields : List (Nat × Nat × Bool)
 zero : List ZV
abbrev TT := List (Nat × TI)
def TI.agg (t : TI) : Bool := match t.kind with | .st => true | .arr _ _ => true | _ => false
def aggB (P : Program) (t : TypeId) : Option Bool := match P.underlying t with
 | some (.struct _) => some true
 | some (.array _ _) => some true
 | some _ => some false
 | none => none
def zerosB : List ZV → List Value → Bool
 | [], [] => true
 | z :: zs, v :: vs => z.ok v && zerosB zs vs
 | _, _ => false
theorem zerosB_eq : ∀ {zs : List ZV} {vs : List Value}, zerosB zs vs = true → vs = zs.map ZV.toV
 | [], [], _ => rfl
 | _ :: _, _ :: _, h => by
  simp only [zerosB, Bool.and_eq_true] at h
  simp [ZV.ok_eq h.1, zerosB_eq h.2]
 | [], _ :: _, h => by simp [zerosB] at h
 | _ :: _, [], h => by simp [zerosB] at h
def zagB : Value → Bool
 | .agg _ => true
 | _ => false
theorem zagB_eq {v : Value} {l : List Value} {b : Bool} (h : (zagB v == b) = true) (hc : v.cells.toList = l) : v = wrapV b l := by
 have hb : zagB v = b := by simpa using h
 subst hb
 cases v with
 | agg vs =>
  simp only [Value.cells] at hc
  subst hc
  simp [zagB, wrapV]
 | _ =>
  simp only [Value.cells] at hc
  subst hc
  rfl
def fieldsB (P : Program) : List (Nat × Nat × Bool) → List Field → Bool
 | [], [] => true
 | (off, sz, ag) :: r, f :: fs => f.offset = off && ((P.info? f.type).map (·.size) == some sz) && sz ≠ 0 && (aggB P f.type == some ag) && fieldsB P r fs
 | _, _ => false
def tiB (P : Program) (t : Nat) (ti : TI) : Bool :=
 match P.info? t with
 | none => false
 | some i => i.size = ti.size && ti.zero.length = ti.size && i.bytes = ti.bytes && (match i.zero with | some z => zerosB ti.zero z.cells.toList && (zagB z == ti.agg) | none => false) &&
  match ti.kind, P.underlying t with
  | .int k, some (.int k') => k = k'
  | .bool, some .bool => true
  | .sl E, some (.slice E') => E = E'
  | .st, some (.struct fs) => fieldsB P ti.fields fs.toList
  | .arr n e, some (.array n' e') => n = n' && e = e'
  | .str, some .string => true
  | .map n e, some (.map n' e') => n = n' && e = e'
  | .other, some d => (match d with | .struct _ => false | .array _ _ => false | _ => true)
  | _, _ => false
structure TiOk (P : Program) (t : Nat) (ti : TI) : Prop where
 zlen : ti.zero.length = ti.size
 info : ∃ i, P.info? t = some i ∧ i.size = ti.size ∧ i.bytes = ti.bytes ∧ ∃ z, i.zero = some z ∧ z.cells.toList = ti.zero.map ZV.toV
 agg : aggB P t = some ti.agg
 zag : ∀ i z, P.info? t = some i → i.zero = some z → z = wrapV ti.agg (ti.zero.map ZV.toV)
 kind : match ti.kind with
  | .int k => P.underlying t = some (.int k)
  | .bool => P.underlying t = some .bool
  | .sl E => P.underlying t = some (.slice E)
  | .st => ∃ fs, P.underlying t = some (.struct fs) ∧ fieldsB P ti.fields fs.toList = true
  | .arr n e => P.underlying t = some (.array n e)
  | .str => P.underlying t = some .string
  | .map n e => P.underlying t = some (.map n e)
  | .other => True
theorem tiB_ok {P : Program} {t : Nat} {ti : TI} (h : tiB P t ti = true) : TiOk P t ti := by
 unfold tiB at h
 cases hi : P.info? t with
 | none => rw [hi] at h; simp at h
 | some i =>
  rw [hi] at h
  simp only [Bool.and_eq_true, decide_eq_true_eq] at h
  let ⟨⟨⟨⟨h1, h0⟩, h2⟩, h3⟩, h4⟩ := h
  have hz : ∃ z, i.zero = some z ∧ z.cells.toList = ti.zero.map ZV.toV := by
   cases hz : i.zero with
   | none => rw [hz] at h3; simp at h3
   | some z => rw [hz] at h3; simp only [Bool.and_eq_true] at h3; exact ⟨z, rfl, zerosB_eq h3.1⟩
  refine ⟨h0, ⟨i, hi, h1, h2, hz⟩, ?_, ?_, ?_⟩
  rotate_left
  ·intro i' z hi' hz'
   rw [hi] at hi'
   cases hi'
   rw [hz'] at h3
   simp only [Bool.and_eq_true] at h3
   exact zagB_eq h3.2 (zerosB_eq h3.1)
  rotate_right
  ·unfold aggB TI.agg
   cases hk : ti.kind <;> rw [hk] at h4 <;> cases hu : P.underlying t <;> rw [hu] at h4 <;> try (simp at h4; done)
   all_goals (rename_i d; cases d <;> first | rfl | (simp at h4; done))
  ·cases hk : ti.kind <;> rw [hk] at h4 <;> cases hu : P.underlying t <;> rw [hu] at h4 <;> try (simp at h4; done)
   all_goals (rename_i d; cases d <;> first | trivial | (simp at h4; done) | (simp at h4; subst h4; rfl) | (simp at h4; let ⟨h5, h6⟩ := h4; subst h5 h6; rfl) | exact ⟨_, rfl, h4⟩)
def ttB (P : Program) : TT → Bool
 | [] => true
 | (t, ti) :: r => tiB P t ti && ttB P r
theorem ttB_ok {P : Program} : ∀ {tt : TT}, ttB P tt = true → ∀ {t ti}, lookA t tt = some ti → TiOk P t ti
 | [], _, _, _, h => by simp [lookA] at h
 | (k, x) :: r, hb, t, ti, h => by
  simp only [ttB, Bool.and_eq_true] at hb
  simp only [lookA] at h
  split at h
  ·rename_i e; subst e; cases h; exact tiB_ok hb.1
  ·exact ttB_ok hb.2 h
structure St where
 sl : List (Nat × AV)
 mem : List (Nat × Blk)
 nx : Nat
 gd : List (Nat × Bool) := []
def St.kn (st : St) : Kn
 | .s t => (lookA t st.sl).map .v
 | .m id => (lookA id st.mem).map .b
def constAV : Value → AV
 | .bool b => .c (.B b)
 | .int k n => .c (.I k n)
 | v => .c (.V v)
def St.ev (st : St) : Operand → Option AV
 | .tmp t => lookA t st.sl
 | .const v => some (constAV v)
 | .func f => some (.c (.V (.func (.func f) #[] #[])))
 | .global _ => none
def opd (st : St) : Operand → List (Key × Info)
 | .tmp t => match lookA t st.sl with
  | some v => [(.s t, .v v)]
  | none => []
 | _ => []
theorem relV_const (g : Gh) (v : Value) : RelV g (constAV v) v := by
 cases v <;> exact rfl
theorem ev_rel {F : Fix} {known : Nat → Prop} {σ : Kn} {g : Gh} {W : World} {a : Act} (h : Hold F known σ g W a) (st : St) (x : Operand) (v : AV) (he : st.ev x = some v)
  (hr : ∀ kx ∈ opd st x, σ kx.1 = some kx.2) : RelV g v (a.eval x) := by
 cases x with
 | tmp t =>
  simp only [St.ev] at he
  have := hr (.s t, .v v) (by simp [opd, he])
  exact h.slots t v this
 | const u => simp only [St.ev, Option.some.injEq] at he; subst he; exact relV_const g u
 | func f => simp only [St.ev, Option.some.injEq] at he; subst he; rfl
 | global _ => simp [St.ev] at he
theorem ev_mids {F : Fix} {known : Nat → Prop} {σ : Kn} {g : Gh} {W : World} {a : Act} (h : Hold F known σ g W a) (st : St) (x : Operand) (v : AV) (he : st.ev x = some v)
  (hr : ∀ kx ∈ opd st x, σ kx.1 = some kx.2) : ∀ id ∈ v.mids, known id := by
 cases x with
 | tmp t =>
  simp only [St.ev] at he
  have := hr (.s t, .v v) (by simp [opd, he])
  exact fun id hid => h.mids _ _ this id hid
 | const u => simp only [St.ev, Option.some.injEq] at he; subst he; intro id hid; cases u <;> simp [constAV, AV.mids, C.mids] at hid
 | func f => simp only [St.ev, Option.some.injEq] at he; subst he; intro id hid; simp [AV.mids, C.mids] at hid
 | global _ => simp [St.ev] at he
theorem stepS_val {P : Program} {ops : Array Oper} {i : Nat} {o : Oper} {d : Nat} (ho : ops[i]? = some o) (hg : o.guard = none) (hd : o.dst = some d) {n : Nat} (hdn : d < n)
  (rd : List (Key × Info)) (x : AV) (new : Nat)
  (h : ∀ (F : Fix) (known : Nat → Prop) (σ : Kn) (g : Gh) (W : World) (a : Act), Hold F known σ g W a → (∀ kx ∈ rd, σ kx.1 = some kx.2) →
   (∀ id ∈ x.mids, known id) ∧ ∃ v, (execOp a.eval o).run P W = .ok (.value v) W ∧ RelV g x v) :
  StepS P n ops i rd [(.s d, some (.v x))] new := by
 intro F hFn Q known σ g W a K hnew hsem hrd hK
 let ⟨hm, v, hrun, hrel⟩ := h F known σ g W a hsem hrd
 unfold wpOp
 simp only [ho, Region.wanted, hg, if_true]
 refine .inl ?_
 unfold Oper.wp
 rw [hrun]
 simp only [Oper.upon, hd]
 have hsz : d < a.tmps.size := by rw [hsem.size, hFn]; exact hdn
 refine hK g W _ (hsem.step (chg := fun _ => False) (g' := g) (W' := W) ⟨⟨FLe.refl _, fun _ _ => rfl⟩, fun _ _ _ => rfl, hsem.sub, Nat.le_refl _, fun _ _ _ => rfl, rfl, rfl, rfl⟩ _ new hnew (by simp [Act.put]) hsem.defers ?_ (fun _ h => h.elim) ?_ ?_ ?_ ?_)
 ·intro t ht
  have hne : d ≠ t := by
   intro e; subst e; simp [says] at ht
  simp [Act.put, Array.getElem?_setIfInBounds_ne hne]
 ·intro t u ht
  simp only [says] at ht
  split at ht
  ·rename_i e
   simp only [Key.s.injEq] at e
   simp only [Option.some.injEq, Info.v.injEq] at ht
   subst e; subst ht
   simpa [Act.put, hsz] using hrel
  ·simp at ht
 ·intro id b ht; simp [says] at ht
 ·intro k y ht
  simp only [says] at ht
  split at ht
  ·simp only [Option.some.injEq] at ht
   subst ht
   exact fun id hid => .inl (hm id hid)
  ·simp at ht
 ·intro id y ht; simp [says] at ht
def i64r (n : Int) : Prop := -9223372036854775808 ≤ n ∧ n ≤ 9223372036854775807
inductive Pr where
 | t
 | i64 (n : Int)
 | ne0 (b : Int)
 | le (a b : Int)
 | lt (a b : Int)
 | ltN (a b : Nat)
 | eqB (a b : Bool)
 | and (p q : Pr)
def Pr.h : Pr → Prop
 | .t => True
 | .i64 n => i64r n
 | .ne0 b => b ≠ 0
 | .le a b => a ≤ b
 | .lt a b => a < b
 | .ltN a b => a < b
 | .eqB a b => a = b
 | .and p q => p.h ∧ q.h
def Pr.b : Pr → Bool
 | .t => true
 | .i64 n => decide (-9223372036854775808 ≤ n) && decide (n ≤ 9223372036854775807)
 | .ne0 b => !decide (b = 0)
 | .le a b => decide (a ≤ b)
 | .lt a b => decide (a < b)
 | .ltN a b => Nat.blt a b
 | .eqB a b => a == b
 | .and p q => p.b && q.b
theorem Pr.b_ok : ∀ {p : Pr}, p.b = true → p.h
 | .t, _ => trivial
 | .i64 _, h => by simpa [Pr.b, Pr.h, i64r] using h
 | .ne0 _, h => by simpa [Pr.b, Pr.h] using h
 | .le _ _, h => by simpa [Pr.b, Pr.h] using h
 | .lt _ _, h => by simpa [Pr.b, Pr.h] using h
 | .ltN _ _, h => Nat.le_of_ble_eq_true h
 | .eqB _ _, h => by simpa [Pr.b, Pr.h] using h
 | .and p q, h => by
  simp only [Pr.b, Bool.and_eq_true] at h
  exact ⟨Pr.b_ok h.1, Pr.b_ok h.2⟩
def Pr.an : Pr → Pr → Pr
 | .t, q => q
 | p, .t => p
 | p, q => .and p q
theorem Pr.an_h {p q : Pr} (h : (p.an q).h) : p.h ∧ q.h := by
 unfold Pr.an at h
 split at h
 ·exact ⟨trivial, h⟩
 ·exact ⟨h, trivial⟩
 ·exact h
instance : CoeSort Pr Prop := ⟨Pr.h⟩
def num (k : IntKind) (n : Int) : C × Pr := match k with
 | .i64 => (.I .i64 n, .i64 n)
 | k => (.I k (k.wrap n), .t)
theorem num_wrap (k : IntKind) (n : Int) (h : (num k n).2.h) (g : Gh) : RelC g (num k n).1 (.int k (k.wrap n)) := by
 cases k <;> first | exact rfl | (show Value.int .i64 _ = _; rw [Go.IntWalk.i64_in n h])
def binI (op : BinOp) (k : IntKind) (a b : Int) : Option (C × Pr) := match op with
 | .add => some (num k (a + b))
 | .sub => some (num k (a - b))
 | .mul => some (num k (a * b))
 | .quo => some ((num k (a.tdiv b)).1, .and (.ne0 b) (num k (a.tdiv b)).2)
 | .rem => some (.I k (a.tmod b), .ne0 b)
 | .and => some (.I k (k.wrap (BitVec.ofInt k.bits a &&& BitVec.ofInt k.bits b).toNat), .t)
 | .or => some (.I k (k.wrap (BitVec.ofInt k.bits a ||| BitVec.ofInt k.bits b).toNat), .t)
 | .eql => some (.B (a == b), .t)
 | .neq => some (.B (a != b), .t)
 | .lss => some (.B (decide (a < b)), .t)
 | .leq => some (.B (decide (a ≤ b)), .t)
 | .gtr => some (.B (decide (a > b)), .t)
 | .geq => some (.B (decide (a ≥ b)), .t)
 | _ => none
def shI (op : BinOp) (k : IntKind) (a b : Int) : Option (C × Pr) := match op with
 | .shl => some (.I k (k.wrap (a * 2 ^ (min b.toNat k.bits))), .le 0 b)
 | .shr => some (.I k (a.fdiv (2 ^ (min b.toNat k.bits))), .le 0 b)
 | _ => none
def binA (op : BinOp) : C → C → Option (C × Pr)
 | .I k a, .I k' b => match op with
  | .shl => shI .shl k a b
  | .shr => shI .shr k a b
  | op => if k = k' then binI op k a b else none
 | .B a, .B b => match op with
  | .eql => some (.B (a == b), .t)
  | .neq => some (.B (a != b), .t)
  | _ => none
 | _, _ => none
theorem binI_sound {P : Program} {op : BinOp} {k : IntKind} {a b : Int} {c : C} {pre : Pr} (h : binI op k a b = some (c, pre)) (hp : pre) (g : Gh) (t : TypeId) (W : World) :
  ∃ v, (binOp op t (.int k a) (.int k b)).run P W = .ok v W ∧ RelC g c v := by
 cases op <;> simp only [binI, Option.some.injEq, Prod.mk.injEq, reduceCtorEq] at h
 case add => have h' : num k (a + b) = (c, pre) := h; refine ⟨.int k (k.wrap (a + b)), by simp [binOp, Op.intArith, pure], ?_⟩; have := num_wrap k (a + b) (by rw [h']; exact hp) g; rw [h'] at this; exact this
 case sub => have h' : num k (a - b) = (c, pre) := h; refine ⟨.int k (k.wrap (a - b)), by simp [binOp, Op.intArith, pure], ?_⟩; have := num_wrap k (a - b) (by rw [h']; exact hp) g; rw [h'] at this; exact this
 case mul => have h' : num k (a * b) = (c, pre) := h; refine ⟨.int k (k.wrap (a * b)), by simp [binOp, Op.intArith, pure], ?_⟩; have := num_wrap k (a * b) (by rw [h']; exact hp) g; rw [h'] at this; exact this
 case quo =>
  obtain ⟨rfl, rfl⟩ := h
  exact ⟨.int k (k.wrap (a.tdiv b)), by simp [binOp, Op.intDiv, show b ≠ 0 from (show b ≠ 0 ∧ _ from hp).1, pure], num_wrap k _ (show b ≠ 0 ∧ _ from hp).2 g⟩
 case rem =>
  obtain ⟨rfl, rfl⟩ := h
  exact ⟨.int k (a.tmod b), by simp [binOp, Op.intDiv, show b ≠ 0 from hp, pure], rfl⟩
 case and => obtain ⟨rfl, rfl⟩ := h; exact ⟨_, by simp [binOp, Op.intBits, pure], rfl⟩
 case or => obtain ⟨rfl, rfl⟩ := h; exact ⟨_, by simp [binOp, Op.intBits, pure], rfl⟩
 case eql => obtain ⟨rfl, rfl⟩ := h; exact ⟨_, by simp [binOp, Op.intCmp, pure], rfl⟩
 case neq => obtain ⟨rfl, rfl⟩ := h; exact ⟨_, by simp [binOp, Op.intCmp, pure], rfl⟩
 case lss => obtain ⟨rfl, rfl⟩ := h; exact ⟨_, by simp [binOp, Op.intCmp, pure], rfl⟩
 case leq => obtain ⟨rfl, rfl⟩ := h; exact ⟨_, by simp [binOp, Op.intCmp, pure], rfl⟩
 case gtr => obtain ⟨rfl, rfl⟩ := h; exact ⟨_, by simp [binOp, Op.intCmp, pure], rfl⟩
 case geq => obtain ⟨rfl, rfl⟩ := h; exact ⟨_, by simp [binOp, Op.intCmp, pure], rfl⟩
theorem run_equal_bool {P : Program} {t : TypeId} (hu : P.underlying t = some .bool) (a b : Bool) (W : World) : (Op.equal t (.bool a) (.bool b)).run P W = .ok (a == b) W := by
 rw [Op.equal, show Op.maxDepth = 9999 + 1 from rfl, Op.equalIn]
 simp [run_underlying hu]
def boolTy (tt : TT) (t : Nat) : Bool := match lookA t tt with
 | some ti => (match ti.kind with | .bool => true | _ => false)
 | none => false
def binT (tt : TT) (op : BinOp) (t : Nat) (x y : C) : Option (C × Pr) := match x, y with
 | .B a, .B b => if boolTy tt t then binA op (.B a) (.B b) else none
 | x, y => binA op x y
theorem binA_sound {P : Program} {tt : TT} (htt : ttB P tt = true) {op : BinOp} {t : TypeId} {x y : C} {c : C} {pre : Pr} (h : binT tt op t x y = some (c, pre)) (hp : pre) (g : Gh) {vx vy : Value} (hx : RelC g x vx) (hy : RelC g y vy) (W : World)
  (ox oy : Operand) : ∃ v, (do eqGuard op t ox oy vx vy; binOp op t vx vy : Sem Value).run P W = .ok v W ∧ RelC g c v := by
 cases x <;> cases y <;> simp only [binT, binA, reduceCtorEq] at h
 case B.B a b =>
  split at h
  ·rename_i hb
   have hu : P.underlying t = some .bool := by
    unfold boolTy at hb
    cases hl : lookA t tt with
    | none => rw [hl] at hb; simp at hb
    | some ti =>
     rw [hl] at hb
     have := (ttB_ok htt hl).kind
     cases hk : ti.kind <;> simp only [hk] at hb this <;> first | exact this | (simp at hb)
   simp only [RelC] at hx hy
   subst hx hy
   cases op <;> simp only [Option.some.injEq, Prod.mk.injEq, reduceCtorEq] at h
   ·obtain ⟨rfl, rfl⟩ := h
    exact ⟨.bool (a == b), by simp [eqGuard, binOp, run_equal_bool hu], rfl⟩
   ·obtain ⟨rfl, rfl⟩ := h
    exact ⟨.bool (a != b), by simp [eqGuard, binOp, run_equal_bool hu, bne], rfl⟩
  ·simp at h
 case I.I k a k' b =>
  simp only [RelC] at hx hy
  subst hx hy
  have hq : ∀ op, (do eqGuard op t ox oy (.int k a) (.int k' b); binOp op t (.int k a) (.int k' b) : Sem Value).run P W = (binOp op t (.int k a) (.int k' b)).run P W := by
   intro op
   cases op <;> simp [eqGuard]
  rw [hq]
  cases op
  case shl =>
   simp only [shI, Option.some.injEq, Prod.mk.injEq] at h
   obtain ⟨rfl, rfl⟩ := h
   exact ⟨_, by simp [binOp, Op.shift, Int.not_lt.2 (show (0 : Int) ≤ _ from hp), pure], rfl⟩
  case shr =>
   simp only [shI, Option.some.injEq, Prod.mk.injEq] at h
   obtain ⟨rfl, rfl⟩ := h
   exact ⟨_, by simp [binOp, Op.shift, Int.not_lt.2 (show (0 : Int) ≤ _ from hp), pure], rfl⟩
  all_goals
   simp only at h
   split at h
   ·rename_i e
    subst e
    exact binI_sound h hp g t W
   ·simp at h
theorem run_isAgg {P : Program} {t : TypeId} {b : Bool} (h : aggB P t = some b) (W : World) : (isAgg t).run P W = .ok b W := by
 unfold aggB at h
 cases hu : P.underlying t with
 | none => rw [hu] at h; simp at h
 | some d =>
  rw [hu] at h
  simp only [isAgg, Sem.run_bind, run_underlying hu, Result.andThen]
  cases d <;> simp at h <;> subst h <;> rfl
theorem run_sizeOf {P : Program} {t : TypeId} {i : TypeInfo} (h : P.info? t = some i) (W : World) : (sizeOf t).run P W = .ok i.size W := by
 simp [sizeOf, typeInfo, h]
theorem fieldsB_get {P : Program} : ∀ {l : List (Nat × Nat × Bool)} {fs : List Field}, fieldsB P l fs = true → ∀ {k : Nat} {off sz : Nat} {ag : Bool}, l[k]? = some (off, sz, ag) →
  ∃ f, fs[k]? = some f ∧ f.offset = off ∧ (∃ i, P.info? f.type = some i ∧ i.size = sz) ∧ sz ≠ 0 ∧ aggB P f.type = some ag
 | [], _, _, _, _, _, _, h => by simp at h
 | (o, s, g) :: r, [], hb, _, _, _, _, _ => by simp [fieldsB] at hb
 | (o, s, g) :: r, f :: fs, hb, 0, off, sz, ag, h => by
  simp only [fieldsB, Bool.and_eq_true, decide_eq_true_eq, beq_iff_eq] at hb
  simp only [List.getElem?_cons_zero, Option.some.injEq, Prod.mk.injEq] at h
  obtain ⟨rfl, rfl, rfl⟩ := h
  let ⟨⟨⟨⟨h1, h2⟩, h3⟩, h4⟩, _⟩ := hb
  refine ⟨f, by simp, h1, ?_, by simpa using h3, h4⟩
  cases hi : P.info? f.type with
  | none => rw [hi] at h2; simp at h2
  | some i => rw [hi] at h2; simp at h2; exact ⟨i, rfl, h2⟩
 | (o, s, g) :: r, f :: fs, hb, k + 1, off, sz, ag, h => by
  simp only [fieldsB, Bool.and_eq_true] at hb
  simp only [List.getElem?_cons_succ] at h
  let ⟨f', h1, h2⟩ := fieldsB_get hb.2 h
  exact ⟨f', by simpa using h1, h2⟩
def partA (cs : List C) (off sz : Nat) (ag : Bool) : Option AV :=
 if ag then (if off + sz ≤ cs.length then some (.a ((cs.drop off).take sz)) else none) else (cs[off]?).map .c
theorem RelL.get {g : Gh} : ∀ {cs : List C} {vs : List Value}, RelL g cs vs → ∀ {k : Nat} {c : C}, cs[k]? = some c → ∃ v, vs[k]? = some v ∧ RelC g c v
 | [], _, _, _, _, h => by simp at h
 | _ :: _, _, hr, 0, c, h => by obtain ⟨v, r, rfl, h1, _⟩ := hr; simp at h; subst h; exact ⟨v, by simp, h1⟩
 | _ :: _, _, hr, k + 1, c, h => by
  obtain ⟨v, r, rfl, _, h2⟩ := hr
  simp at h
  let ⟨u, h3, h4⟩ := RelL.get h2 h
  exact ⟨u, by simpa using h3, h4⟩
theorem RelL.drop {g : Gh} : ∀ {cs : List C} {vs : List Value}, RelL g cs vs → ∀ k, RelL g (cs.drop k) (vs.drop k)
 | [], _, h, k => by simp only [RelL] at h; subst h; simp [RelL]
 | _ :: _, _, h, 0 => by simpa using h
 | _ :: _, _, h, k + 1 => by obtain ⟨v, r, rfl, _, h2⟩ := h; simpa using RelL.drop h2 k
theorem RelL.take {g : Gh} : ∀ {cs : List C} {vs : List Value}, RelL g cs vs → ∀ k, RelL g (cs.take k) (vs.take k)
 | [], _, h, k => by simp only [RelL] at h; subst h; simp [RelL]
 | _ :: _, _, _, 0 => by simp [RelL]
 | _ :: _, _, h, k + 1 => by obtain ⟨v, r, rfl, h1, h2⟩ := h; simpa using ⟨v, _, rfl, h1, RelL.take h2 k⟩
theorem midsL_drop (cs : List C) (k : Nat) : ∀ id ∈ midsL (cs.drop k), id ∈ midsL cs := by
 induction cs generalizing k with
 | nil => simp
 | cons c cs ih => cases k with
  | zero => simp
  | succ k => intro id h; simp only [List.drop_succ_cons] at h; simp only [midsL, List.mem_append]; exact .inr (ih k id h)
theorem midsL_take (cs : List C) (k : Nat) : ∀ id ∈ midsL (cs.take k), id ∈ midsL cs := by
 induction cs generalizing k with
 | nil => simp
 | cons c cs ih => cases k with
  | zero => simp [midsL]
  | succ k =>
   intro id h
   simp only [List.take_succ_cons, midsL, List.mem_append] at h ⊢
   exact h.imp (fun x => x) (ih k id)
theorem midsL_get {cs : List C} {k : Nat} {c : C} (h : cs[k]? = some c) : ∀ id ∈ c.mids, id ∈ midsL cs := by
 induction cs generalizing k with
 | nil => simp at h
 | cons d cs ih => cases k with
  | zero => simp at h; subst h; intro id hid; simp [midsL, hid]
  | succ k => simp at h; intro id hid; simp only [midsL, List.mem_append]; exact .inr (ih h id hid)
theorem partA_sound {P : Program} {g : Gh} {cs : List C} {vs : List Value} (hr : RelL g cs vs) {off sz : Nat} {ag : Bool} {x : AV} (h : partA cs off sz ag = some x) {t : TypeId} (hag : aggB P t = some ag)
  {i : TypeInfo} (hi : P.info? t = some i) (hs : i.size = sz) (W : World) : ∃ v, (part t vs.toArray off).run P W = .ok v W ∧ RelV g x v := by
 unfold partA at h
 cases ag with
 | true =>
  simp only [if_true] at h
  split at h
  ·rename_i hle
   simp only [Option.some.injEq] at h
   subst h
   refine ⟨.agg (vs.toArray.extract off (off + sz)), ?_, ⟨(vs.drop off).take sz, ?_, (hr.drop off).take sz⟩⟩
   ·simp only [part, Sem.run_bind, run_isAgg hag, Result.andThen, if_true, run_sizeOf hi, hs]; rfl
   ·congr 1
    simp [List.extract_toArray, List.extract_eq_take_drop]
  ·simp at h
 | false =>
  simp only [Bool.false_eq_true, if_false, Option.map_eq_some_iff] at h
  obtain ⟨c, hc, rfl⟩ := h
  let ⟨v, hv, hrel⟩ := hr.get hc
  refine ⟨v, ?_, hrel⟩
  simp only [part, Sem.run_bind, run_isAgg hag, Result.andThen, Bool.false_eq_true, if_false, List.getElem?_toArray, hv]; rfl
theorem partA_mids {cs : List C} {off sz : Nat} {ag : Bool} {x : AV} (h : partA cs off sz ag = some x) : ∀ id ∈ x.mids, id ∈ midsL cs := by
 unfold partA at h
 cases ag with
 | true =>
  simp only [if_true] at h
  split at h
  ·simp only [Option.some.injEq] at h
   subst h
   exact fun id hid => midsL_drop _ _ id (midsL_take _ _ id hid)
  ·simp at h
 | false =>
  simp only [Bool.false_eq_true, if_false, Option.map_eq_some_iff] at h
  obtain ⟨c, hc, rfl⟩ := h
  exact midsL_get hc
def pickA (c x y : Option AV) : Option (AV × Pr) := match c with
 | some (.c (.B b)) => match x, y with
  | some (.c (.B p)), some (.c (.B q)) => some (.c (.B (cond b p q)), .t)
  | some v, none => some (v, .eqB b true)
  | none, some v => some (v, .eqB b false)
  | some v, some (.c .any) => some (v, .eqB b true)
  | some (.c .any), some v => some (v, .eqB b false)
  | _, _ => none
 | _ => none
def unA (op : UnOp) (x : AV) : Option (AV × Pr) := match op, x with
 | .not, .c (.B b) => some (.c (.B (!b)), .t)
 | .neg, .c (.I k n) => some (.c (num k (0 - n)).1, (num k (0 - n)).2)
 | _, _ => none
def convA (tt : TT) (src dst : Nat) (x : AV) : Option (AV × Pr) := match lookA src tt, lookA dst tt, x with
 | some _, some ti, .c (.I _ n) => (match ti.kind with
  | .int k => some (.c (num k n).1, (num k n).2)
  | _ => none)
 | _, _, _ => none
def fieldA (tt : TT) (t : Nat) (x : AV) (f : Nat) : Option AV := match x, lookA t tt with
 | .a cs, some ti => (match ti.kind, ti.fields[f]? with
  | .st, some (off, sz, ag) => partA cs off sz ag
  | _, _ => none)
 | _, _ => none
def faddrA (tt : TT) (t : Nat) (x : AV) (f : Nat) : Option AV := match lookA t tt with
 | some ti => (match ti.kind, ti.fields[f]? with
  | .st, some (off, _, _) => (match x with
   | .c (.P id o) => some (.c (.P id (o + off)))
   | .c (.E T e o) => some (.c (.E T e (o + off)))
   | .c (.Y id n i o) => some (.c (.Y id n i (o + off)))
   | _ => none)
  | _, _ => none)
 | none => none
def exA (x : AV) (k : Nat) : Option AV := match x with
 | .t ss => (match ss[k]? with
  | some (true, cs) => some (.a cs)
  | some (false, [c]) => some (.c c)
  | _ => none)
 | _ => none
def slTy (tt : TT) (t : Nat) (n : Nat) : Bool := match lookA t tt with
 | some ti => (match ti.kind with
  | .sl e => (match lookA e tt with | some ei => ei.size = n | none => false)
  | _ => false)
 | none => false
def arrTy (tt : TT) (t : Nat) : Option (Nat × Nat) := match lookA t tt with
 | some ti => (match ti.kind with
  | .arr n e => (match lookA e tt with
   | some ei => some (n, ei.size)
   | none => none)
  | _ => none)
 | none => none
def idxA (tt : TT) (t : Nat) (x i : AV) : Option (AV × Pr) := match x, i with
 | .c (.S T xs), .c (.I _ k) => if slTy tt t T.n then some (.c (.E T (xs.getD k.toNat T.dflt) 0), .and (.le 0 k) (.lt k xs.length)) else none
 | .c (.P id off), .c (.I _ k) => (match arrTy tt t with
  | some (n, sz) => some (.c (.P id (off + k.toNat * sz)), .and (.le 0 k) (.lt k n))
  | none => none)
 | .c (.E T e off), .c (.I _ k) => (match arrTy tt t with
  | some (n, sz) => some (.c (.E T e (off + k.toNat * sz)), .and (.le 0 k) (.lt k n))
  | none => none)
 | _, _ => none
def lenA (tt : TT) (t : Nat) (x : AV) : Option AV := match lookA t tt with
 | some ti => (match ti.kind with
  | .sl _ => (match x with
   | .c (.S _ xs) => some (.c (.I .i64 xs.length))
   | .c (.V (.slice none 0 0)) => some (.c (.I .i64 0))
   | .c (.W _ _ len) => some (.c (.I .i64 len))
   | _ => none)
  | _ => none)
 | none => none
def bndA (n : Nat) : Option AV → Nat → Option (Nat × Pr)
 | none, d => some (d, .t)
 | some (.c (.I _ k)), _ => some (k.toNat, .and (.le 0 k) (.le k n))
 | _, _ => none
def sliceA (tt : TT) (t : Nat) (x : AV) (lo hi : Option AV) : Option (AV × Pr) := match x with
 | .c (.S T xs) => if slTy tt t T.n then
   (match bndA xs.length hi xs.length with
   | some (h, p) => (match bndA h lo 0 with
    | some (l, q) => some (.c (.S T ((xs.take h).drop l)), .and p q)
    | none => none)
   | none => none)
  else none
 | _ => none
def mmA (mx : Bool) : List AV → Option AV
 | [.c (.I k a), .c (.I k' b)] => if k = k' then some (.c (.I k (if mx then (if b > a then b else a) else (if b < a then b else a)))) else none
 | _ => none
def optev (st : St) : Option Operand → Option (Option AV)
 | none => some none
 | some x => (st.ev x).map some
def evalV (tt : TT) (st : St) : Op → Option (AV × Pr)
 | .move x => (match st.ev x with | some v => some (v, .t) | none => none)
 | .assign x => (match st.ev x with | some v => some (v, .t) | none => none)
 | .pick c x y => pickA (st.ev c) (st.ev x) (st.ev y)
 | .binOp op t x y _ => (match st.ev x, st.ev y with
  | some (.c a), some (.c b) => (match binT tt op t a b with | some (c, p) => some (.c c, p) | none => none)
  | _, _ => none)
 | .unOp op _ x => (match st.ev x with | some v => unA op v | none => none)
 | .convert s d x => (match st.ev x with | some v => convA tt s d v | none => none)
 | .field t x f => (match st.ev x with | some v => (match fieldA tt t v f with | some u => some (u, .t) | none => none) | none => none)
 | .fieldAddr t x f => (match st.ev x with | some v => (match faddrA tt t v f with | some u => some (u, .t) | none => none) | none => none)
 | .extract x k => (match st.ev x with | some v => (match exA v k with | some u => some (u, .t) | none => none) | none => none)
 | .indexAddr t x i => (match st.ev x, st.ev i with | some v, some w => idxA tt t v w | _, _ => none)
 | .slice t x lo hi none => (match st.ev x, optev st lo, optev st hi with | some v, some l, some h => sliceA tt t v l h | _, _, _ => none)
 | .call ⟨.builtin .len, args, tys⟩ => (match args.toList, tys.toList with
  | [x], [t] => (match st.ev x with | some v => (match lenA tt t v with | some u => some (u, .t) | none => none) | none => none)
  | _, _ => none)
 | .call ⟨.builtin .max, args, _⟩ => (match args.toList with
  | [x, y] => (match st.ev x, st.ev y with | some v, some w => (match mmA true [v, w] with | some u => some (u, .t) | none => none) | _, _ => none)
  | _ => none)
 | .call ⟨.builtin .min, args, _⟩ => (match args.toList with
  | [x, y] => (match st.ev x, st.ev y with | some v, some w => (match mmA false [v, w] with | some u => some (u, .t) | none => none) | _, _ => none)
  | _ => none)
 | _ => none
def rdV (st : St) (op : Op) : List (Key × Info) := op.operands.toList.flatMap (opd st)
section
variable {P : Program} {tt : TT} {g : Gh} {W : World}
theorem unA_sound {op : UnOp} {x : AV} {y : AV} {p : Pr} (h : unA op x = some (y, p)) (hp : p) {v : Value} (hv : RelV g x v) : (∃ u, (Op.unary op v).run P W = .ok u W ∧ RelV g y u) ∧ ∀ id ∈ y.mids, id ∈ x.mids := by
 unfold unA at h
 split at h
 ·simp only [Option.some.injEq, Prod.mk.injEq] at h
  obtain ⟨rfl, rfl⟩ := h
  simp only [RelV, RelC] at hv
  subst hv
  exact ⟨⟨_, by simp [Op.unary, pure], rfl⟩, by simp [AV.mids, C.mids]⟩
 ·rename_i k n
  simp only [Option.some.injEq, Prod.mk.injEq] at h
  obtain ⟨rfl, rfl⟩ := h
  simp only [RelV, RelC] at hv
  subst hv
  refine ⟨⟨.int k (k.wrap (0 - n)), by simp [Op.unary, Op.intArith, pure], num_wrap k _ hp g⟩, ?_⟩
  intro id hid
  cases k <;> simp [num, AV.mids, C.mids] at hid
 ·simp at h
theorem num_mids (k : IntKind) (n : Int) : (num k n).1.mids = [] := by cases k <;> rfl
theorem convA_sound (htt : ttB P tt = true) {s d : Nat} {x y : AV} {p : Pr} (h : convA tt s d x = some (y, p)) (hp : p) {v : Value} (hv : RelV g x v) : (∃ u, (convert s d v).run P W = .ok u W ∧ RelV g y u) ∧ y.mids = [] := by
 unfold convA at h
 split at h
 ·rename_i ti' ti k' n hs hd
  split at h
  ·rename_i k hk
   simp only [Option.some.injEq, Prod.mk.injEq] at h
   obtain ⟨rfl, rfl⟩ := h
   simp only [RelV, RelC] at hv
   subst hv
   have h2 := (ttB_ok htt hd).kind
   rw [hk] at h2
   have h1 : ∃ ds, P.underlying s = some ds := by
    have := (ttB_ok htt hs).agg
    unfold aggB at this
    cases hu : P.underlying s with
    | none => rw [hu] at this; simp at this
    | some ds => exact ⟨ds, rfl⟩
   let ⟨ds, h1⟩ := h1
   refine ⟨⟨.int k (k.wrap n), ?_, num_wrap k n hp g⟩, num_mids k n⟩
   simp only [convert, Sem.run_bind, run_underlying h1, run_underlying h2, Result.andThen]
   cases ds <;> rfl
  ·simp at h
 ·simp at h
theorem fieldA_sound (htt : ttB P tt = true) {t f : Nat} {x y : AV} (h : fieldA tt t x f = some y) {v : Value} (hv : RelV g x v) : (∃ u, (Instr.field t v f).run P W = .ok u W ∧ RelV g y u) ∧ ∀ id ∈ y.mids, id ∈ x.mids := by
 unfold fieldA at h
 split at h
 ·rename_i cs ti hl
  split at h
  ·rename_i off sz ag hk hf
   have h2 := (ttB_ok htt hl).kind
   rw [hk] at h2
   let ⟨fs, hu, hfb⟩ := h2
   obtain ⟨fd, hfd, rfl, ⟨i, hi, hsz⟩, _, hag⟩ := fieldsB_get hfb hf
   obtain ⟨vs, rfl, hr⟩ := hv
   let ⟨u, hrun, hrel⟩ := partA_sound (W := W) hr h hag hi hsz
   refine ⟨⟨u, ?_, hrel⟩, partA_mids h⟩
   have hfd' : fs[f]? = some fd := by simpa using hfd
   simp only [Instr.field, Sem.run_bind, run_underlying hu, Result.andThen, hfd', asAgg]
   simpa using hrun
  ·simp at h
 ·simp at h
theorem add_none (b o n : Nat) : (Addr.mk b o none).add n = ⟨b, o + n, none⟩ := by
 unfold Addr.add
 split
 ·rename_i e; subst e; rfl
 ·rfl
theorem faddrA_sound (htt : ttB P tt = true) {t f : Nat} {x y : AV} (h : faddrA tt t x f = some y) {v : Value} (hv : RelV g x v) : (∃ u, (Instr.fieldAt t v f).run P W = .ok u W ∧ RelV g y u) ∧ ∀ id ∈ y.mids, id ∈ x.mids := by
 unfold faddrA at h
 split at h
 ·rename_i ti hl
  split at h
  ·rename_i off sz ag hk hf
   have h2 := (ttB_ok htt hl).kind
   rw [hk] at h2
   let ⟨fs, hu, hfb⟩ := h2
   obtain ⟨fd, hfd, rfl, ⟨i, hi, hsz⟩, hnz, hag⟩ := fieldsB_get hfb hf
   have hfd' : fs[f]? = some fd := by simpa using hfd
   have hrun : ∀ b o, (Instr.fieldAt t (.pointer (some ⟨b, o, none⟩)) f).run P W = .ok (.pointer (some ⟨b, o + fd.offset, none⟩)) W := by
    intro b o
    simp only [Instr.fieldAt, Sem.run_bind, run_underlying hu, Result.andThen, hfd', Instr.sureAddr, fieldPlace, run_sizeOf hi]
    simp [hsz, hnz, add_none]
   split at h
   ·simp only [Option.some.injEq] at h
    subst h
    obtain ⟨b, hb, rfl⟩ := hv
    exact ⟨⟨_, hrun _ _, b, hb, rfl⟩, by simp [AV.mids, C.mids]⟩
   ·simp only [Option.some.injEq] at h
    subst h
    obtain ⟨b, o, cs, rfl, h3, h4⟩ := hv
    exact ⟨⟨_, hrun _ _, b, o, cs, by simp [Nat.add_assoc], h3, h4⟩, by simp [AV.mids, C.mids]⟩
   ·simp only [Option.some.injEq] at h
    subst h
    obtain ⟨b, l, c, hb, rfl⟩ := hv
    exact ⟨⟨_, hrun _ _, b, l, c, hb, by simp [Nat.add_assoc]⟩, by simp [AV.mids, C.mids]⟩
   ·simp at h
  ·simp at h
 ·simp at h
theorem RelT.get {g : Gh} : ∀ {ss : List (Bool × List C)} {vs : List Value}, RelT g ss vs → ∀ {k : Nat} {s : Bool × List C}, ss[k]? = some s → ∃ v, vs[k]? = some v ∧ RelS g s v
 | [], _, _, _, _, h => by simp at h
 | _ :: _, _, hr, 0, c, h => by obtain ⟨v, r, rfl, h1, _⟩ := hr; simp at h; subst h; exact ⟨v, by simp, h1⟩
 | _ :: _, _, hr, k + 1, c, h => by
  obtain ⟨v, r, rfl, _, h2⟩ := hr
  simp at h
  let ⟨u, h3, h4⟩ := RelT.get h2 h
  exact ⟨u, by simpa using h3, h4⟩
theorem midsT_get {cs : List (Bool × List C)} {k : Nat} {c : Bool × List C} (h : cs[k]? = some c) : ∀ id ∈ midsL c.2, id ∈ midsT cs := by
 induction cs generalizing k with
 | nil => simp at h
 | cons d cs ih => cases k with
  | zero => simp at h; subst h; intro id hid; simp [midsT, hid]
  | succ k => simp at h; intro id hid; simp only [midsT, List.mem_append]; exact .inr (ih h id hid)
theorem exA_sound {x y : AV} {k : Nat} (h : exA x k = some y) {v : Value} (hv : RelV g x v) : (∃ u, (Instr.extract v k).run P W = .ok u W ∧ RelV g y u) ∧ ∀ id ∈ y.mids, id ∈ x.mids := by
 unfold exA at h
 split at h
 ·rename_i ss
  obtain ⟨vs, rfl, hr⟩ := hv
  split at h
  ·rename_i cs hs
   simp only [Option.some.injEq] at h
   subst h
   let ⟨u, hu, hrel⟩ := hr.get hs
   exact ⟨⟨u, by simp [Instr.extract, hu, pure], hrel⟩, midsT_get hs⟩
  ·rename_i c hs
   simp only [Option.some.injEq] at h
   subst h
   let ⟨u, hu, hrel⟩ := hr.get hs
   exact ⟨⟨u, by simp [Instr.extract, hu, pure], hrel⟩, fun id hid => midsT_get hs id (by simp [midsL]; exact hid)⟩
  ·simp at h
 ·simp at h
theorem slTy_ok (htt : ttB P tt = true) {t n : Nat} (h : slTy tt t n = true) : ∃ e i, P.underlying t = some (.slice e) ∧ P.info? e = some i ∧ i.size = n := by
 unfold slTy at h
 split at h
 ·rename_i ti hl
  split at h
  ·rename_i e hk
   split at h
   ·rename_i ei he
    have h2 := (ttB_ok htt hl).kind
    rw [hk] at h2
    let ⟨i, hi, hs, _⟩ := (ttB_ok htt he).info
    exact ⟨e, i, h2, hi, by rw [hs]; simpa using h⟩
   ·simp at h
  ·simp at h
 ·simp at h
theorem arrTy_ok (htt : ttB P tt = true) {t n sz : Nat} (h : arrTy tt t = some (n, sz)) : ∃ e i, P.underlying t = some (.array n e) ∧ P.info? e = some i ∧ i.size = sz := by
 unfold arrTy at h
 split at h
 ·rename_i ti hl
  split at h
  ·rename_i n' e hk
   split at h
   ·rename_i ei he
    cases h
    have h2 := (ttB_ok htt hl).kind
    rw [hk] at h2
    let ⟨i, hi, hs, _⟩ := (ttB_ok htt he).info
    exact ⟨e, i, h2, hi, hs⟩
   ·simp at h
  ·simp at h
 ·simp at h
theorem idxA_sound (htt : ttB P tt = true) {t : Nat} {x i y : AV} {p : Pr} (h : idxA tt t x i = some (y, p)) (hp : p) {v u : Value} (hv : RelV g x v) (hu : RelV g i u) : (∃ z, (Instr.indexAt t v u).run P W = .ok z W ∧ RelV g y z) ∧ ∀ id ∈ y.mids, id ∈ x.mids := by
 unfold idxA at h
 split at h
 ·rename_i T xs k' k
  split at h
  ·rename_i hst
   simp only [Option.some.injEq, Prod.mk.injEq] at h
   obtain ⟨rfl, rfl⟩ := h
   let ⟨e, i, hue, hi, hs⟩ := slTy_ok htt hst
   simp only [RelV, RelC] at hu
   subst hu
   obtain ⟨a, cap, rfl, h1, h2, h3⟩ := hv
   let ⟨hp1, hp2⟩ := (show 0 ≤ k ∧ k < (xs.length : Int) from hp)
   have hlt : k.toNat < xs.length := by omega
   rcases h3 with h3 | ⟨b, off, rfl, h3⟩
   ·subst h3; simp at hlt
   ·let ⟨cs, hl, hr, hc⟩ := h3 k.toNat hlt
    refine ⟨⟨.pointer (some ⟨b, off + k.toNat * T.n, none⟩), ?_, b, off + k.toNat * T.n, cs, rfl, ?_, ?_⟩, fun id hid => by cases hid⟩
    ·have hcond : (0 ≤ k ∧ k < (xs.length : Int)) := ⟨hp1, hp2⟩
     simp only [Instr.indexAt, asIntOf, Sem.run_bind, run_underlying hue, Result.andThen]
     simp [hcond, run_sizeOf hi, hs, add_none]
    ·rw [List.getD_eq_getElem?_getD, List.getElem?_eq_getElem hlt]; exact hr
    ·intro j hj
     have := hc j hj
     rw [this]
  ·simp at h
 ·rename_i id off k' k
  split at h
  ·rename_i n sz ha
   simp only [Option.some.injEq, Prod.mk.injEq] at h
   obtain ⟨rfl, rfl⟩ := h
   let ⟨e, i, hue, hi, hs⟩ := arrTy_ok htt ha
   simp only [RelV, RelC] at hu
   subst hu
   obtain ⟨b, hb, rfl⟩ := hv
   have hcond : 0 ≤ k ∧ k < (n : Int) := hp
   refine ⟨⟨.pointer (some ⟨b, off + k.toNat * sz, none⟩), ?_, b, hb, rfl⟩, fun id hid => hid⟩
   simp only [Instr.indexAt, Instr.sureAddr, asIntOf, Sem.run_bind, Sem.run_pure, run_underlying hue, Result.andThen]
   simp [hcond, run_sizeOf hi, hs, add_none]
  ·simp at h
 ·rename_i T e0 off k' k
  split at h
  ·rename_i n sz ha
   simp only [Option.some.injEq, Prod.mk.injEq] at h
   obtain ⟨rfl, rfl⟩ := h
   let ⟨e, i, hue, hi, hs⟩ := arrTy_ok htt ha
   simp only [RelV, RelC] at hu
   subst hu
   obtain ⟨b, o, cs, rfl, h1, h2⟩ := hv
   have hcond : 0 ≤ k ∧ k < (n : Int) := hp
   refine ⟨⟨.pointer (some ⟨b, o + (off + k.toNat * sz), none⟩), ?_, b, o, cs, rfl, h1, h2⟩, fun id hid => hid⟩
   simp only [Instr.indexAt, Instr.sureAddr, asIntOf, Sem.run_bind, Sem.run_pure, run_underlying hue, Result.andThen]
   simp [hcond, run_sizeOf hi, hs, add_none, Nat.add_assoc]
  ·simp at h
 ·simp at h
theorem lenA_sound (htt : ttB P tt = true) {t r : Nat} {x y : AV} (h : lenA tt t x = some y) {v : Value} (hv : RelV g x v) : (∃ u, (Builtin.len_ #[t] r #[v]).run P W = .ok u W ∧ RelV g y u) ∧ y.mids = [] := by
 unfold lenA at h
 split at h
 ·rename_i ti hl
  split at h
  ·rename_i e hk
   have h2 := (ttB_ok htt hl).kind
   rw [hk] at h2
   split at h
   ·rename_i T xs
    simp only [Option.some.injEq] at h
    subst h
    obtain ⟨a, cap, rfl, _⟩ := hv
    exact ⟨⟨_, by simp [Builtin.len_, run_underlying h2, goInt, Sem.run, pure], rfl⟩, rfl⟩
   ·simp only [Option.some.injEq] at h
    subst h
    simp only [RelV, RelC] at hv
    subst hv
    exact ⟨⟨_, by simp [Builtin.len_, run_underlying h2, goInt, Sem.run, pure], rfl⟩, rfl⟩
   ·simp only [Option.some.injEq] at h
    subst h
    obtain ⟨b, c, _, rfl, _⟩ := hv
    exact ⟨⟨_, by simp [Builtin.len_, run_underlying h2, goInt, Sem.run, pure], rfl⟩, rfl⟩
   ·simp at h
  ·simp at h
 ·simp at h
theorem mmA_sound {mx : Bool} {l : List AV} {y : AV} (h : mmA mx l = some y) {v w : Value} {x1 x2 : AV} (hl : l = [x1, x2]) (hv : RelV g x1 v) (hw : RelV g x2 w) (t : Array TypeId) (r : TypeId) :
  (∃ u, (if mx then Builtin.max_ t r #[v, w] else Builtin.min_ t r #[v, w]).run P W = .ok u W ∧ RelV g y u) ∧ y.mids = [] := by
 unfold mmA at h
 split at h
 ·rename_i k a k' b
  split at h
  ·rename_i e
   subst e
   simp only [Option.some.injEq] at h
   subst h
   simp only [List.cons.injEq, and_true] at hl
   obtain ⟨rfl, rfl⟩ := hl
   simp only [RelV, RelC] at hv hw
   subst hv hw
   cases mx
   ·exact ⟨⟨_, by simp [Builtin.min_, Builtin.min2, Sem.run, pure], rfl⟩, rfl⟩
   ·exact ⟨⟨_, by simp [Builtin.max_, Builtin.max2, Sem.run, pure], rfl⟩, rfl⟩
  ·simp at h
 ·simp at h
end
section
variable {P : Program} {tt : TT} {g : Gh} {W : World}
def RelO (g : Gh) : Option AV → Option Value → Prop
 | none, none => True
 | some a, some u => RelV g a u
 | _, _ => False
theorem binT_mids {op : BinOp} {t : Nat} {x y c : C} {p : Pr} (h : binT tt op t x y = some (c, p)) : c.mids = [] := by
 cases x <;> cases y <;> simp only [binT, binA, reduceCtorEq] at h
 case B.B a b =>
  split at h
  ·cases op <;> simp only [Option.some.injEq, Prod.mk.injEq, reduceCtorEq] at h
   all_goals (obtain ⟨rfl, _⟩ := h; rfl)
  ·simp at h
 case I.I k a k' b =>
  have hb : ∀ op, binI op k a b = some (c, p) → c.mids = [] := by
   intro op h
   cases op <;> simp only [binI, Option.some.injEq, reduceCtorEq] at h
   case add => have := congrArg Prod.fst h; simp only at this; rw [← this]; exact num_mids _ _
   case sub => have := congrArg Prod.fst h; simp only at this; rw [← this]; exact num_mids _ _
   case mul => have := congrArg Prod.fst h; simp only at this; rw [← this]; exact num_mids _ _
   all_goals
    simp only [Prod.mk.injEq] at h
    obtain ⟨rfl, _⟩ := h
    first | rfl | exact num_mids _ _
  cases op
  case shl => simp only [shI, Option.some.injEq, Prod.mk.injEq] at h; obtain ⟨rfl, _⟩ := h; rfl
  case shr => simp only [shI, Option.some.injEq, Prod.mk.injEq] at h; obtain ⟨rfl, _⟩ := h; rfl
  all_goals
   simp only at h
   split at h
   ·exact hb _ h
   ·simp at h
theorem bndA_sound {n : Nat} {x : Option AV} {d h : Nat} {p : Pr} (hb : bndA n x d = some (h, p)) (hp : p) {v : Option Value} (hv : RelO g x v)
  (m : Nat) (hm : n ≤ m) (code : BoundsCode) :
  (x = none ∧ v = none ∧ h = d) ∨ (∃ u, v = some u ∧ h ≤ n ∧ (Instr.sliceBound u m code).run P W = .ok h W) := by
 unfold bndA at hb
 split at hb
 ·simp only [Option.some.injEq, Prod.mk.injEq] at hb
  cases v with
  | none => exact .inl ⟨rfl, rfl, hb.1.symm⟩
  | some u => exact hv.elim
 ·rename_i k' k
  simp only [Option.some.injEq, Prod.mk.injEq] at hb
  obtain ⟨rfl, rfl⟩ := hb
  cases v with
  | none => exact hv.elim
  | some u =>
   have hv' : u = .int k' k := hv
   subst hv'
   have hp' : 0 ≤ k ∧ k ≤ (n : Int) := hp
   refine .inr ⟨_, rfl, by omega, ?_⟩
   have : 0 ≤ k ∧ k ≤ (m : Int) := ⟨hp'.1, by omega⟩
   simp [Instr.sliceBound, asIntOf, this, Sem.run, pure]
 ·simp at hb
theorem RelSl.sub {α : Type} {R : α → List Value → Prop} {n : Nat} {H : FH} {xs : List α} {a : Option Addr} {cap : Nat} (h : RelSl R n H xs (.slice a xs.length cap)) {l hh : Nat} (h1 : l ≤ hh) (h2 : hh ≤ xs.length) :
  RelSl R n H ((xs.take hh).drop l) (.slice (if cap = l then a else a.map (·.add (l * n))) (hh - l) (cap - l)) := by
 let ⟨a', cap', e, h3, h4, h5⟩ := h
 simp only [Value.slice.injEq, true_and] at e
 obtain ⟨rfl, rfl⟩ := e
 have hlen : ((xs.take hh).drop l).length = hh - l := by simp; omega
 refine ⟨_, cap - l, by rw [hlen], by omega, ?_, ?_⟩
 ·rw [hlen]
  exact Nat.le_trans (Nat.mul_le_mul_right n (by omega)) h4
 ·by_cases hz : hh = l
  ·left
   apply List.eq_nil_of_length_eq_zero
   omega
  ·right
   rcases h5 with h5 | ⟨b, off, rfl, h5⟩
   ·subst h5; simp at h2; omega
   ·refine ⟨b, off + l * n, ?_, fun i hi => ?_⟩
    ·rw [if_neg (by omega)]
     simp [add_none]
    ·let ⟨cs, hl, hr, hc⟩ := h5 (l + i) (by omega)
     refine ⟨cs, hl, ?_, fun j hj => ?_⟩
     ·simpa using hr
     ·have := hc j hj
      rw [show off + l * n + i * n + j = off + (l + i) * n + j by rw [Nat.add_mul]; omega]
      exact this
theorem sliceA_sound (htt : ttB P tt = true) {t : Nat} {x y : AV} {lo hi : Option AV} {p : Pr} (h : sliceA tt t x lo hi = some (y, p)) (hp : p) {v : Value} {vl vh : Option Value} (hv : RelV g x v)
  (hl : RelO g lo vl) (hh : RelO g hi vh) :
  (∃ z, (Instr.sliceAt t v vl vh none).run P W = .ok z W ∧ RelV g y z) ∧ y.mids = [] := by
 unfold sliceA at h
 split at h
 ·rename_i T xs
  split at h
  ·rename_i hst
   let ⟨e, i, hue, hie, hs⟩ := slTy_ok htt hst
   split at h
   ·rename_i hhi p1 hb1
    split at h
    ·rename_i l p2 hb2
     simp only [Option.some.injEq, Prod.mk.injEq] at h
     obtain ⟨rfl, rfl⟩ := h
     let ⟨hp1, hp2⟩ := hp
     have hv' := hv
     obtain ⟨a, cap, rfl, h1, h2, h3⟩ := hv'
     have hb1' := bndA_sound (P := P) (W := W) hb1 hp1 hh cap h1 (.sliceAcap)
     have hle : hhi ≤ xs.length := by
      rcases hb1' with ⟨_, _, e⟩ | ⟨_, _, h, _⟩ <;> omega
     have hb2' := bndA_sound (P := P) (W := W) hb2 hp2 hl hhi (Nat.le_refl _) (.sliceB)
     have hle2 : l ≤ hhi := by
      rcases hb2' with ⟨_, _, e⟩ | ⟨_, _, h, _⟩ <;> omega
     have hrel := RelSl.sub hv hle2 hle
     refine ⟨⟨_, ?_, hrel⟩, rfl⟩
     have hsb : (Instr.sliceBounds true xs.length cap vl vh none).run P W = .ok (l, hhi, cap) W := by
      rcases hb1' with ⟨_, rfl, rfl⟩ | ⟨u, rfl, _, hr1⟩ <;> rcases hb2' with ⟨_, rfl, rfl⟩ | ⟨u', rfl, _, hr2⟩ <;> simp [Instr.sliceBounds, *]
     simp only [Instr.sliceAt, Sem.run_bind, run_underlying hue, Result.andThen, Instr.slice, hsb, run_sizeOf hie, hs]
     rfl
    ·simp at h
   ·simp at h
  ·simp at h
 ·simp at h
theorem optev_rel {F : Fix} {known : Nat → Prop} {σ : Kn} {a : Act} (h : Hold F known σ g W a) (st : St) (x : Option Operand) (v : Option AV) (he : optev st x = some v)
  (hr : ∀ o, x = some o → ∀ kx ∈ opd st o, σ kx.1 = some kx.2) : RelO g v (x.map a.eval) := by
 cases x with
 | none => simp only [optev, Option.some.injEq] at he; subst he; trivial
 | some o =>
  simp only [optev, Option.map_eq_some_iff] at he
  obtain ⟨u, hu, rfl⟩ := he
  exact ev_rel h st o u hu (hr o rfl)
theorem evalV_sound (htt : ttB P tt = true) {ops : Array Oper} {i : Nat} {o : Oper} {d : Nat} (ho : ops[i]? = some o) (hg : o.guard = none) (hd : o.dst = some d) {n : Nat} (hdn : d < n)
  {st : St} {x : AV} {p : Pr} (he : evalV tt st o.op = some (x, p)) (hp : p) (new : Nat) : StepS P n ops i (rdV st o.op) [(.s d, some (.v x))] new := by
 refine stepS_val ho hg hd hdn _ x new ?_
 intro F known σ g W a hsem hrd
 have hev : ∀ y ∈ o.op.operands, ∀ u, st.ev y = some u → RelV g u (a.eval y) ∧ ∀ id ∈ u.mids, known id := by
  intro y hy u hu
  have hr : ∀ kx ∈ opd st y, σ kx.1 = some kx.2 := fun kx hkx => hrd kx (List.mem_flatMap.2 ⟨y, by simpa using hy, hkx⟩)
  exact ⟨ev_rel hsem st y u hu hr, ev_mids hsem st y u hu hr⟩
 have hrs : ∀ y ∈ o.op.operands, ∀ kx ∈ opd st y, σ kx.1 = some kx.2 := fun y hy kx hkx => hrd kx (List.mem_flatMap.2 ⟨y, by simpa using hy, hkx⟩)
 let ⟨od, op, oty, opos, oaft, ogd⟩ := o
 simp only at he hev hrs
 unfold evalV at he
 split at he
 ·rename_i y
  split at he
  ·rename_i v hv
   simp only [Option.some.injEq, Prod.mk.injEq] at he
   obtain ⟨rfl, rfl⟩ := he
   have := hev y (by simp [Op.operands]) _ hv
   exact ⟨this.2, _, by simp [execOp, pure], this.1⟩
  ·simp at he
 ·rename_i y
  split at he
  ·rename_i v hv
   simp only [Option.some.injEq, Prod.mk.injEq] at he
   obtain ⟨rfl, rfl⟩ := he
   have := hev y (by simp [Op.operands]) _ hv
   exact ⟨this.2, _, by simp [execOp, pure], this.1⟩
  ·simp at he
 ·rename_i c y z
  unfold pickA at he
  split at he
  ·rename_i b hb
   have hcb := (hev c (by simp [Op.operands]) _ hb).1
   simp only [RelV, RelC] at hcb
   split at he
   ·rename_i p1 q1 hy hz
    simp only [Option.some.injEq, Prod.mk.injEq] at he
    obtain ⟨rfl, rfl⟩ := he
    have h1 := (hev y (by simp [Op.operands]) _ hy).1
    have h2 := (hev z (by simp [Op.operands]) _ hz).1
    simp only [RelV, RelC] at h1 h2
    refine ⟨by simp [AV.mids, C.mids], .bool (cond b p1 q1), ?_, rfl⟩
    cases b <;> simp [execOp, hcb, asBool, h1, h2, Sem.run, pure]
   ·rename_i v hy hz
    simp only [Option.some.injEq, Prod.mk.injEq] at he
    obtain ⟨rfl, rfl⟩ := he
    have h1 := hev y (by simp [Op.operands]) _ hy
    simp only [Pr.h] at hp
    subst hp
    exact ⟨h1.2, _, by simp [execOp, hcb, asBool, Sem.run, pure], h1.1⟩
   ·rename_i v hy hz
    simp only [Option.some.injEq, Prod.mk.injEq] at he
    obtain ⟨rfl, rfl⟩ := he
    have h1 := hev z (by simp [Op.operands]) _ hz
    simp only [Pr.h] at hp
    subst hp
    exact ⟨h1.2, _, by simp [execOp, hcb, asBool, Sem.run, pure], h1.1⟩
   ·rename_i v hy hz
    simp only [Option.some.injEq, Prod.mk.injEq] at he
    obtain ⟨rfl, rfl⟩ := he
    have h1 := hev y (by simp [Op.operands]) _ hy
    simp only [Pr.h] at hp
    subst hp
    exact ⟨h1.2, _, by simp [execOp, hcb, asBool, Sem.run, pure], h1.1⟩
   ·rename_i v hy hz
    simp only [Option.some.injEq, Prod.mk.injEq] at he
    obtain ⟨rfl, rfl⟩ := he
    have h1 := hev z (by simp [Op.operands]) _ hz
    simp only [Pr.h] at hp
    subst hp
    exact ⟨h1.2, _, by simp [execOp, hcb, asBool, Sem.run, pure], h1.1⟩
   ·simp at he
  ·simp at he
 ·rename_i op t y z _
  split at he
  ·rename_i u w hu hw
   split at he
   ·rename_i c q hc
    simp only [Option.some.injEq, Prod.mk.injEq] at he
    obtain ⟨rfl, rfl⟩ := he
    have h1 := (hev y (by simp [Op.operands]) _ hu).1
    have h2 := (hev z (by simp [Op.operands]) _ hw).1
    let ⟨v, hrun, hrel⟩ := binA_sound (P := P) htt hc hp g h1 h2 W y z
    refine ⟨?_, v, ?_, hrel⟩
    ·intro id hid
     simp only [AV.mids, binT_mids hc] at hid
     cases hid
    ·simp only [execOp, Sem.run_bind]
     rw [Sem.run_bind] at hrun
     simp only [hrun]; simp [Result.andThen, pure]
   ·simp at he
  ·simp at he
 ·rename_i op t y
  split at he
  ·rename_i v hv
   have h1 := hev y (by simp [Op.operands]) _ hv
   let ⟨⟨u, hrun, hrel⟩, hm⟩ := unA_sound (P := P) (W := W) he hp h1.1
   exact ⟨fun id hid => h1.2 id (hm id hid), u, by simp [execOp, hrun, Sem.run, pure], hrel⟩
  ·simp at he
 ·rename_i s d' y
  split at he
  ·rename_i v hv
   have h1 := hev y (by simp [Op.operands]) _ hv
   let ⟨⟨u, hrun, hrel⟩, hm⟩ := convA_sound (P := P) (W := W) htt he hp h1.1
   exact ⟨fun id hid => (by rw [hm] at hid; cases hid), u, by simp [execOp, hrun, Sem.run, pure], hrel⟩
  ·simp at he
 ·rename_i t y f
  split at he
  ·rename_i v hv
   split at he
   ·rename_i u hu
    simp only [Option.some.injEq, Prod.mk.injEq] at he
    obtain ⟨rfl, rfl⟩ := he
    have h1 := hev y (by simp [Op.operands]) _ hv
    let ⟨⟨u, hrun, hrel⟩, hm⟩ := fieldA_sound (P := P) (W := W) htt hu h1.1
    exact ⟨fun id hid => h1.2 id (hm id hid), u, by simp [execOp, hrun, Sem.run, pure], hrel⟩
   ·simp at he
  ·simp at he
 ·rename_i t y f
  split at he
  ·rename_i v hv
   split at he
   ·rename_i u hu
    simp only [Option.some.injEq, Prod.mk.injEq] at he
    obtain ⟨rfl, rfl⟩ := he
    have h1 := hev y (by simp [Op.operands]) _ hv
    let ⟨⟨u, hrun, hrel⟩, hm⟩ := faddrA_sound (P := P) (W := W) htt hu h1.1
    exact ⟨fun id hid => h1.2 id (hm id hid), u, by simp [execOp, hrun, Sem.run, pure], hrel⟩
   ·simp at he
  ·simp at he
 ·rename_i y k
  split at he
  ·rename_i v hv
   split at he
   ·rename_i u hu
    simp only [Option.some.injEq, Prod.mk.injEq] at he
    obtain ⟨rfl, rfl⟩ := he
    have h1 := hev y (by simp [Op.operands]) _ hv
    let ⟨⟨u, hrun, hrel⟩, hm⟩ := exA_sound (P := P) (W := W) hu h1.1
    exact ⟨fun id hid => h1.2 id (hm id hid), u, by simp [execOp, hrun, Sem.run, pure], hrel⟩
   ·simp at he
  ·simp at he
 ·rename_i t y z
  split at he
  ·rename_i v w hv hw
   have h1 := hev y (by simp [Op.operands]) _ hv
   have h2 := hev z (by simp [Op.operands]) _ hw
   let ⟨⟨u, hrun, hrel⟩, hm⟩ := idxA_sound (P := P) (W := W) htt he hp h1.1 h2.1
   exact ⟨fun id hid => h1.2 id (hm id hid), u, by simp [execOp, hrun, Sem.run, pure], hrel⟩
  ·simp at he
 ·rename_i t y lo hi
  split at he
  ·rename_i v l h hv hl hh
   have h1 := hev y (by simp [Op.operands]) _ hv
   have h2 := optev_rel hsem st lo l hl (fun q hq => hrs q (by subst hq; simp [Op.operands]))
   have h3 := optev_rel hsem st hi h hh (fun q hq => hrs q (by subst hq; simp [Op.operands]))
   let ⟨⟨u, hrun, hrel⟩, hm⟩ := sliceA_sound (P := P) (W := W) htt he hp h1.1 h2 h3
   exact ⟨fun id hid => (by rw [hm] at hid; cases hid), u, by simp [execOp, hrun, Sem.run, pure], hrel⟩
  ·simp at he
 ·rename_i args tys
  split at he
  ·rename_i y t ha ht
   have hargs : args = #[y] := by rw [← Array.toList_inj]; exact ha
   have htys : tys = #[t] := by rw [← Array.toList_inj]; exact ht
   subst hargs htys
   split at he
   ·rename_i v hv
    split at he
    ·rename_i u hu
     simp only [Option.some.injEq, Prod.mk.injEq] at he
     obtain ⟨rfl, rfl⟩ := he
     have h1 := hev y (by simp [Op.operands, Call.operands]) _ hv
     let ⟨⟨u, hrun, hrel⟩, hm⟩ := lenA_sound (P := P) (W := W) (r := oty) htt hu h1.1
     exact ⟨fun id hid => (by rw [hm] at hid; cases hid), u, by simp [execOp, resolve, invoke, builtin, hrun, Sem.run, pure], hrel⟩
    ·simp at he
   ·simp at he
  ·simp at he
 ·rename_i args tys
  split at he
  ·rename_i y z ha
   have hargs : args = #[y, z] := by rw [← Array.toList_inj]; exact ha
   subst hargs
   split at he
   ·rename_i v w hv hw
    split at he
    ·rename_i u hu
     simp only [Option.some.injEq, Prod.mk.injEq] at he
     obtain ⟨rfl, rfl⟩ := he
     have h1 := hev y (by simp [Op.operands, Call.operands]) _ hv
     have h2 := hev z (by simp [Op.operands, Call.operands]) _ hw
     let ⟨⟨u, hrun, hrel⟩, hm⟩ := mmA_sound (P := P) (W := W) hu rfl h1.1 h2.1 tys oty
     simp only [if_true] at hrun
     exact ⟨fun id hid => (by rw [hm] at hid; cases hid), u, by simp [execOp, resolve, invoke, builtin, hrun, Sem.run, pure], hrel⟩
    ·simp at he
   ·simp at he
  ·simp at he
 ·rename_i args tys
  split at he
  ·rename_i y z ha
   have hargs : args = #[y, z] := by rw [← Array.toList_inj]; exact ha
   subst hargs
   split at he
   ·rename_i v w hv hw
    split at he
    ·rename_i u hu
     simp only [Option.some.injEq, Prod.mk.injEq] at he
     obtain ⟨rfl, rfl⟩ := he
     have h1 := hev y (by simp [Op.operands, Call.operands]) _ hv
     have h2 := hev z (by simp [Op.operands, Call.operands]) _ hw
     let ⟨⟨u, hrun, hrel⟩, hm⟩ := mmA_sound (P := P) (W := W) hu rfl h1.1 h2.1 tys oty
     simp only [Bool.false_eq_true, if_false] at hrun
     exact ⟨fun id hid => (by rw [hm] at hid; cases hid), u, by simp [execOp, resolve, invoke, builtin, hrun, Sem.run, pure], hrel⟩
    ·simp at he
   ·simp at he
  ·simp at he
 ·simp at he
end
section
variable {P : Program} {tt : TT} {g : Gh} {W : World}
theorem run_load {a : Addr} {v : Value} (h : W.cell? a = some v) : (load a).run P W = .ok v W := by
 simp [load, Sem.run, h]
theorem run_loadCellsFrom (b : Nat) : ∀ (n i off : Nat) (vs : List Value) (acc : Array Value), vs.length = n → (∀ j (hj : j < vs.length), W.cell? ⟨b, off + i + j, none⟩ = some vs[j]) →
  (loadCellsFrom ⟨b, off, none⟩ i n acc).run P W = .ok (acc ++ vs.toArray) W
 | 0, i, off, vs, acc, hl, _ => by
  have : vs = [] := List.eq_nil_of_length_eq_zero hl
  subst this
  simp [loadCellsFrom, pure]
 | n + 1, i, off, [], acc, hl, _ => by simp at hl
 | n + 1, i, off, v :: vs, acc, hl, hc => by
  have h0 := hc 0 (by simp)
  simp only [Nat.add_zero, List.getElem_cons_zero] at h0
  have ih := run_loadCellsFrom b n (i + 1) off vs (acc.push v) (by simpa using hl) (fun j hj => by
   have := hc (j + 1) (by simp; omega)
   simp only [List.getElem_cons_succ] at this
   rw [show off + (i + 1) + j = off + i + (j + 1) by omega]; exact this)
  simp only [loadCellsFrom, add_none, Sem.run_bind, run_load h0, Result.andThen, ih]
  congr 1
  apply Array.ext'
  simp
theorem run_loadVar {t : TypeId} {ag : Bool} (hag : aggB P t = some ag) {i : TypeInfo} (hi : P.info? t = some i) (b off : Nat) (vs : List Value) (hl : vs.length = i.size) (hone : ag = false → i.size = 1)
  (hc : ∀ j (hj : j < vs.length), W.cell? ⟨b, off + j, none⟩ = some vs[j]) : ∃ v, (loadVar t ⟨b, off, none⟩).run P W = .ok v W ∧ ((ag = true ∧ v = .agg vs.toArray) ∨ (ag = false ∧ vs = [v])) := by
 cases ag with
 | true =>
  refine ⟨.agg vs.toArray, ?_, .inl ⟨rfl, rfl⟩⟩
  simp only [loadVar, Sem.run_bind, run_isAgg hag, Result.andThen, if_true, run_sizeOf hi, loadCells]
  rw [run_loadCellsFrom b i.size 0 off vs #[] hl (by simpa using hc)]
  simp [pure]
 | false =>
  have h1 : vs.length = 1 := by rw [hl]; exact hone rfl
  match vs, h1 with
  | [v], _ =>
   refine ⟨v, ?_, .inr ⟨rfl, rfl⟩⟩
   have := hc 0 (by simp)
   simp only [Nat.add_zero, List.getElem_cons_zero] at this
   simp only [loadVar, Sem.run_bind, run_isAgg hag, Result.andThen, Bool.false_eq_true, if_false, run_load this]
def tySz (tt : TT) (t : Nat) : Option (Nat × Bool) := match lookA t tt with
 | some ti => if ti.agg then some (ti.size, true) else if ti.size = 1 then some (1, false) else none
 | none => none
theorem tySz_ok (htt : ttB P tt = true) {t sz : Nat} {ag : Bool} (h : tySz tt t = some (sz, ag)) : aggB P t = some ag ∧ (∃ i, P.info? t = some i ∧ i.size = sz) ∧ (ag = false → sz = 1) := by
 unfold tySz at h
 split at h
 ·rename_i ti hl
  have ho := ttB_ok htt hl
  let ⟨i, hi, hs, _⟩ := ho.info
  split at h
  ·rename_i ha
   simp only [Option.some.injEq, Prod.mk.injEq] at h
   obtain ⟨rfl, rfl⟩ := h
   exact ⟨by rw [ho.agg, ha], ⟨i, hi, hs⟩, by simp⟩
  ·rename_i ha
   split at h
   ·rename_i h1
    simp only [Option.some.injEq, Prod.mk.injEq] at h
    obtain ⟨rfl, rfl⟩ := h
    exact ⟨by rw [ho.agg]; simpa using ha, ⟨i, hi, by rw [hs]; exact h1⟩, fun _ => rfl⟩
   ·simp at h
 ·simp at h
theorem loadPart (htt : ttB P tt = true) {t sz : Nat} {ag : Bool} (h : tySz tt t = some (sz, ag)) {cs : List C} {vs : List Value} (hr : RelL g cs vs) {off : Nat} {x : AV} (hx : partA cs off sz ag = some x)
  (b o : Nat) (hc : ∀ j (hj : j < vs.length), W.cell? ⟨b, o + j, none⟩ = some vs[j]) : ∃ v, (Instr.loadAt t (.pointer (some ⟨b, o + off, none⟩))).run P W = .ok v W ∧ RelV g x v := by
 let ⟨hag, ⟨i, hi, hs⟩, hone⟩ := tySz_ok htt h
 have hlen := hr.length
 have hle : off + sz ≤ cs.length := by
  unfold partA at hx
  cases ag with
  | true => simp only [if_true] at hx; split at hx <;> simp_all
  | false =>
   simp only [Bool.false_eq_true, if_false, Option.map_eq_some_iff] at hx
   let ⟨c, hcc, _⟩ := hx
   have := (List.getElem?_eq_some_iff.1 hcc).1
   have := hone rfl
   omega
 let ⟨v, hrun, hv⟩ := run_loadVar (W := W) hag hi b (o + off) ((vs.drop off).take sz) (by simp; omega) (by rw [hs]; exact hone) (fun j hj => by
  simp at hj
  have := hc (off + j) (by omega)
  simp only [List.getElem_take, List.getElem_drop]
  rw [show o + off + j = o + (off + j) by omega]; exact this)
 refine ⟨v, by simpa [Instr.loadAt, Instr.sureAddr] using hrun, ?_⟩
 unfold partA at hx
 cases ag with
 | true =>
  simp only [if_true] at hx
  split at hx
  ·simp only [Option.some.injEq] at hx
   subst hx
   rcases hv with ⟨_, rfl⟩ | ⟨h0, _⟩
   ·exact ⟨_, rfl, (hr.drop off).take sz⟩
   ·simp at h0
  ·rename_i hn; exact absurd hle hn
 | false =>
  simp only [Bool.false_eq_true, if_false, Option.map_eq_some_iff] at hx
  obtain ⟨c, hcc, rfl⟩ := hx
  rcases hv with ⟨h0, _⟩ | ⟨_, hv⟩
  ·simp at h0
  ·let ⟨u, hu, hrel⟩ := hr.get hcc
   have h1 := hone rfl
   subst h1
   have : (vs.drop off).take 1 = [u] := by
    rw [List.take_one, List.head?_drop, hu]; rfl
   rw [this] at hv
   simp only [List.cons.injEq, and_true] at hv
   subst hv
   exact hrel
def ldA (tt : TT) (st : St) (t : Nat) (x : AV) : Option (AV × Pr × List Nat) := match tySz tt t with
 | some (sz, ag) => (match x with
  | .c (.P id off) => (match lookA id st.mem with
   | some (.box _ _ cs) => (match partA cs off sz ag with | some y => some (y, .t, [id]) | none => none)
   | some (.fz _ cs) => (match partA cs off sz ag with | some y => some (y, .t, [id]) | none => none)
   | _ => none)
  | .c (.E T e off) => (match partA (av T e) off sz ag with | some y => some (y, .t, []) | none => none)
  | .c (.Y id n i off) => (match lookA id st.mem with
   | some (.vec _ T xs) => if T.n = n then (match partA (av T (xs.getD i T.dflt)) off sz ag with | some y => some (y, .ltN i xs.length, [id]) | none => none) else none
   | _ => none)
  | _ => none)
 | none => none
def mrd (st : St) (ids : List Nat) : List (Key × Info) := ids.flatMap fun id => match lookA id st.mem with
 | some b => [(.m id, .b b)]
 | none => []
theorem cell_of_block {b : Nat} {vs : List Value} {E : TypeId} {f : Nat × Nat} (h : W.heap[b]? = some (.cells vs.toArray E f)) (j : Nat) (hj : j < vs.length) : W.cell? ⟨b, j, none⟩ = some vs[j] := by
 simp [World.cell?, h, hj]
theorem av_mids : ∀ (T : ET) (x : T.den), midsL (av T x) = []
 | .int _, _ => rfl
 | .bool, _ => rfl
 | .z, _ => rfl
 | .q, _ => rfl
 | .sl _, _ => rfl
 | .pr A B, x => by
  have h : ∀ (a b : List C), midsL a = [] → midsL b = [] → midsL (a ++ b) = [] := by
   intro a
   induction a with
   | nil => intro b _ hb; exact hb
   | cons c a ih =>
    intro b ha hb
    simp only [midsL, List.append_eq_nil_iff] at ha
    simp only [List.cons_append, midsL, List.append_eq_nil_iff]
    exact ⟨ha.1, ih b ha.2 hb⟩
  exact h _ _ (av_mids A x.1) (av_mids B x.2)
theorem ld_sound (htt : ttB P tt = true) {ops : Array Oper} {i : Nat} {o : Oper} {d : Nat} (ho : ops[i]? = some o) (hg : o.guard = none) (hd : o.dst = some d) {n : Nat} (hdn : d < n) {t : TypeId} {x : Operand} (hop : o.op = .load t x)
  {st : St} {v y : AV} {p : Pr} {ids : List Nat} (hx : st.ev x = some v) (he : ldA tt st t v = some (y, p, ids)) (hp : p) (new : Nat) :
  StepS P n ops i (opd st x ++ mrd st ids) [(.s d, some (.v y))] new := by
 refine stepS_val ho hg hd hdn _ y new ?_
 intro F known σ g W a hsem hrd
 have hrel := ev_rel hsem st x v hx (fun kx hkx => hrd kx (List.mem_append_left _ hkx))
 have hmem : ∀ id ∈ ids, ∀ b, lookA id st.mem = some b → σ (.m id) = some (.b b) := by
  intro id hid b hb
  exact hrd (.m id, .b b) (List.mem_append_right _ (List.mem_flatMap.2 ⟨id, hid, by simp [hb]⟩))
 have hexec : execOp a.eval o = (do pure (.value (← Instr.loadAt t (a.eval x)))) := by rw [execOp, hop]
 unfold ldA at he
 split at he
 ·rename_i sz ag hts
  split at he
  ·rename_i id off
   split at he
   ·rename_i E bz cs hl
    split at he
    ·rename_i z hz
     simp only [Option.some.injEq, Prod.mk.injEq] at he
     obtain ⟨rfl, rfl, rfl⟩ := he
     have hσ := hmem id (by simp) _ hl
     let ⟨b, vs, rest, hγ, hh, hr, _, _⟩ := hsem.blks id _ hσ
     let ⟨b', hγ', hv⟩ := hrel
     rw [hγ] at hγ'
     simp only [Option.some.injEq] at hγ'
     subst hγ'
     let ⟨u, hrun, hu⟩ := loadPart (W := W) htt hts hr hz b 0 (fun j hj => by
      have := cell_of_block hh j (by simp; omega)
      rw [List.getElem_append_left hj] at this
      simpa using this)
     refine ⟨fun id' hid' => hsem.mids _ _ hσ id' (partA_mids hz id' hid'), u, ?_, hu⟩
     rw [hexec, hv]
     simp only [Nat.zero_add] at hrun
     simp [hrun, Sem.run, pure]
    ·simp at he
   ·rename_i E cs hl
    split at he
    ·rename_i z hz
     simp only [Option.some.injEq, Prod.mk.injEq] at he
     obtain ⟨rfl, rfl, rfl⟩ := he
     have hσ := hmem id (by simp) _ hl
     let ⟨b, vs, rest, hγ, hh, hr, _⟩ := hsem.blks id _ hσ
     let ⟨b', hγ', hv⟩ := hrel
     rw [hγ] at hγ'
     simp only [Option.some.injEq] at hγ'
     subst hγ'
     let ⟨u, hrun, hu⟩ := loadPart (W := W) htt hts hr hz b 0 (fun j hj => by
      have := cell_of_block hh j (by simp; omega)
      rw [List.getElem_append_left hj] at this
      simpa using this)
     refine ⟨fun id' hid' => hsem.mids _ _ hσ id' (partA_mids hz id' hid'), u, ?_, hu⟩
     rw [hexec, hv]
     simp only [Nat.zero_add] at hrun
     simp [hrun, Sem.run, pure]
    ·simp at he
   ·simp at he
  ·rename_i T e off
   split at he
   ·rename_i z hz
    simp only [Option.some.injEq, Prod.mk.injEq] at he
    obtain ⟨rfl, rfl, rfl⟩ := he
    let ⟨b, o', cs, hv, hrd', hc⟩ := hrel
    let ⟨u, hrun, hu⟩ := loadPart (W := W) htt hts (relD_av T e cs hrd') hz b o' (fun j hj => hsem.sub _ _ _ (hc j hj))
    refine ⟨fun id' hid' => ?_, u, ?_, hu⟩
    ·have := partA_mids hz id' hid'
     rw [av_mids] at this
     cases this
    ·rw [hexec, hv]
     simp [hrun, Sem.run, pure]
   ·simp at he
  ·rename_i id m k off
   split at he
   ·rename_i E T xs hl
    split at he
    ·rename_i hTn
     split at he
     ·rename_i z hz
      simp only [Option.some.injEq, Prod.mk.injEq] at he
      obtain ⟨rfl, rfl, rfl⟩ := he
      have hσ := hmem id (by simp) _ hl
      let ⟨b', l, c, hγ', hv⟩ := hrel
      rcases hsem.blks id _ hσ with ⟨_, h0⟩ | ⟨b, cap, vs, hγ, hh, hlen, hle, _, hr, _, _⟩
      ·subst h0; simp [Pr.h] at hp
      ·rw [hγ] at hγ'
       simp only [Value.slice.injEq, Option.some.injEq, Addr.mk.injEq, and_true] at hγ'
       obtain ⟨rfl, _, _⟩ := hγ'
       have hp : k < xs.length := hp
       have hrk := hr k hp
       rw [show xs[k] = xs.getD k T.dflt by rw [List.getD_eq_getElem?_getD, List.getElem?_eq_getElem hp]; rfl] at hrk
       have hcap : (k + 1) * T.n ≤ cap * T.n := Nat.mul_le_mul_right _ (by omega)
       rw [Nat.add_mul, Nat.one_mul] at hcap
       have hlen' : ((vs.drop (k * T.n)).take T.n).length = T.n := by simp; omega
       let ⟨u, hrun, hu⟩ := loadPart (W := W) htt hts (relD_av T _ _ hrk) hz b (k * T.n) (fun j hj => by
        have := cell_of_block hh (k * T.n + j) (by omega)
        simp only [List.getElem_take, List.getElem_drop]
        exact this)
       refine ⟨fun id' hid' => ?_, u, ?_, hu⟩
       ·have := partA_mids hz id' hid'
        rw [av_mids] at this
        cases this
       ·rw [hexec, hv, ← hTn]
        simp [hrun, Sem.run, pure]
     ·simp at he
    ·simp at he
   ·simp at he
  ·simp at he
 ·simp at he
end
section
variable {P : Program} {tt : TT} {g : Gh} {W : World}
def oneB : Value → Bool
 | .agg _ => false
 | .tuple _ => false
 | _ => true
def okC : C → Bool
 | .any => false
 | .V v => oneB v
 | .M _ => false
 | .X _ => false
 | _ => true
theorem okC_one {c : C} {v : Value} (h : okC c = true) (hr : RelC g c v) : oneB v = true := by
 cases c with
 | any => simp [okC] at h
 | B b => simp only [RelC] at hr; subst hr; rfl
 | I k n => simp only [RelC] at hr; subst hr; rfl
 | V u => simp only [RelC] at hr; subst hr; exact h
 | S T xs => obtain ⟨a, cap, rfl, _⟩ := hr; rfl
 | P id off => obtain ⟨b, _, rfl⟩ := hr; rfl
 | X id => simp [okC] at h
 | Y id n i off => obtain ⟨b, l, c, _, rfl⟩ := hr; rfl
 | E T x off => obtain ⟨b, o, cs, rfl, _⟩ := hr; rfl
 | M m => simp [okC] at h
 | L id off len cap =>
  cases cap with
  | some c => obtain ⟨b, _, rfl⟩ := hr; rfl
  | none => obtain ⟨_, b, c, _, rfl, _⟩ := hr; rfl
 | W id off len => obtain ⟨b, c, _, rfl, _⟩ := hr; rfl
def setBlk (W : World) (b : Nat) (vs : List Value) (E : TypeId) : World := { W with heap := W.heap.setIfInBounds b (.cells vs.toArray E (0, 0)) }
theorem setBlk_at {b : Nat} {vs : List Value} {E : TypeId} (h : b < W.heap.size) : (setBlk W b vs E).heap[b]? = some (.cells vs.toArray E (0, 0)) := by
 simp [setBlk, h]
theorem setBlk_ne {b k : Nat} {vs : List Value} {E : TypeId} (h : b ≠ k) : (setBlk W b vs E).heap[k]? = W.heap[k]? := by
 simp [setBlk, Array.getElem?_setIfInBounds_ne h]
theorem run_store1 {b j : Nat} {vs : List Value} {E : TypeId} (h : W.heap[b]? = some (.cells vs.toArray E (0, 0))) (hj : j < vs.length) {v : Value} (hv : oneB v = true) :
  (store ⟨b, j, none⟩ v).run P W = .ok () (setBlk W b (vs.set j v) E) := by
 have hb : b < W.heap.size := (Array.getElem?_eq_some_iff.1 h).1
 have hc : W.cell? ⟨b, j, none⟩ = some vs[j] := cell_of_block h j hj
 have hf : W.frozen? ⟨b, j, none⟩ = false := by simp [World.frozen?, h]
 have hs : W.setCell ⟨b, j, none⟩ v = setBlk W b (vs.set j v) E := by
  unfold World.setCell setBlk
  congr 1
  apply Array.ext_getElem?
  intro k
  rw [Array.getElem?_modify, Array.getElem?_setIfInBounds]
  have hb' : W.heap[b] = .cells vs.toArray E (0, 0) := (Array.getElem?_eq_some_iff.1 h).2
  by_cases e : b = k
  ·subst e
   simp [hb, hb']
  ·simp [e]
 cases v <;> simp [store, Sem.run, hc, hf, hs] <;> simp [oneB] at hv
theorem setBlk_setBlk {b : Nat} {vs us : List Value} {E E' : TypeId} : setBlk (setBlk W b vs E) b us E' = setBlk W b us E' := by
 simp [setBlk]
theorem setBlk_self {b : Nat} {vs : List Value} {E : TypeId} (h : W.heap[b]? = some (.cells vs.toArray E (0, 0))) : setBlk W b vs E = W := by
 have hb : b < W.heap.size := (Array.getElem?_eq_some_iff.1 h).1
 have : W.heap.setIfInBounds b (.cells vs.toArray E (0, 0)) = W.heap := by
  apply Array.ext_getElem?
  intro k
  rw [Array.getElem?_setIfInBounds]
  by_cases e : b = k
  ·subst e
   have hb' : W.heap[b] = .cells vs.toArray E (0, 0) := (Array.getElem?_eq_some_iff.1 h).2
   simp [hb, hb']
  ·simp [e]
 unfold setBlk
 rw [this]
def over {α : Type} (vs us : List α) (off : Nat) : List α := vs.take off ++ us ++ vs.drop (off + us.length)
theorem over_length {α : Type} (vs us : List α) (off : Nat) (h : off + us.length ≤ vs.length) : (over vs us off).length = vs.length := by
 simp [over]; omega
theorem over_cons {α : Type} (vs us : List α) (u : α) (off : Nat) (h : off < vs.length) : over (vs.set off u) us (off + 1) = over vs (u :: us) off := by
 unfold over
 rw [List.drop_set_of_lt (by omega)]
 have h1 : (vs.set off u).take (off + 1) = vs.take off ++ [u] := by
  rw [List.take_succ_eq_append_getElem (by simpa using h)]
  simp only [List.take_set, List.getElem_set_self]
  rw [List.set_eq_of_length_le (by simp; omega)]
 rw [h1]
 simp only [List.length_cons, List.append_assoc, List.cons_append, List.nil_append]
 rw [show off + 1 + us.length = off + (us.length + 1) by omega]
theorem run_storeCells (b : Nat) {E : TypeId} : ∀ (us : List Value) (W : World) (vs : List Value) (o i : Nat), W.heap[b]? = some (.cells vs.toArray E (0, 0)) → o + i + us.length ≤ vs.length → (∀ u ∈ us, oneB u = true) →
  (storeCells ⟨b, o, none⟩ us i).run P W = .ok () (setBlk W b (over vs us (o + i)) E)
 | [], W, vs, o, i, h, _, _ => by
  have : over vs [] (o + i) = vs := by simp [over]
  rw [this, setBlk_self h]
  simp [storeCells, pure]
 | u :: us, W, vs, o, i, h, hle, hone => by
  simp only [List.length_cons] at hle
  have hb : b < W.heap.size := (Array.getElem?_eq_some_iff.1 h).1
  have h1 := run_store1 (P := P) h (j := o + i) (by omega) (hone u (by simp))
  have h2 := run_storeCells b us (setBlk W b (vs.set (o + i) u) E) (vs.set (o + i) u) o (i + 1) (setBlk_at hb) (by simp; omega) (fun x hx => hone x (by simp [hx]))
  simp only [storeCells, add_none, Sem.run_bind, h1, Result.andThen, h2, setBlk_setBlk]
  rw [show o + (i + 1) = o + i + 1 by omega, over_cons _ _ _ _ (by omega)]
def cellsAV : AV → Option (List C)
 | .c x => some [x]
 | .a cs => some cs
 | .t _ => none
theorem cellsAV_rel {x : AV} {cs : List C} (h : cellsAV x = some cs) {v : Value} (hr : RelV g x v) (hone : ∀ c ∈ cs, okC c = true) : ∃ vs, v.cells = vs.toArray ∧ RelL g cs vs := by
 cases x with
 | c y =>
  simp only [cellsAV, Option.some.injEq] at h
  subst h
  have h1 := okC_one (hone y (by simp)) hr
  refine ⟨[v], ?_, v, [], rfl, hr, rfl⟩
  cases v <;> first | rfl | (simp [oneB] at h1)
 | a ds =>
  simp only [cellsAV, Option.some.injEq] at h
  subst h
  obtain ⟨vs, rfl, hr⟩ := hr
  exact ⟨vs, rfl, hr⟩
 | t _ => simp [cellsAV] at h
theorem RelL.one {cs : List C} {vs : List Value} (hr : RelL g cs vs) (hone : ∀ c ∈ cs, okC c = true) : ∀ v ∈ vs, oneB v = true := by
 induction cs generalizing vs with
 | nil => simp only [RelL] at hr; subst hr; simp
 | cons c cs ih =>
  obtain ⟨v, r, rfl, h1, h2⟩ := hr
  intro u hu
  rcases List.mem_cons.1 hu with rfl | hu
  ·exact okC_one (hone c (by simp)) h1
  ·exact ih h2 (fun c' hc' => hone c' (by simp [hc'])) u hu
theorem RelL.over {cs ds : List C} {vs us : List Value} (hr : RelL g cs vs) (hs : RelL g ds us) (off : Nat) : RelL g (Go.El.over cs ds off) (Go.El.over vs us off) := by
 unfold Go.El.over
 rw [hs.length]
 exact RelL.append (RelL.append (hr.take off) hs) (hr.drop _)
theorem midsL_append (a b : List C) : ∀ id ∈ midsL (a ++ b), id ∈ midsL a ∨ id ∈ midsL b := by
 induction a with
 | nil => intro id h; exact .inr h
 | cons c a ih =>
  intro id h
  simp only [List.cons_append, midsL, List.mem_append] at h ⊢
  rcases h with h | h
  ·exact .inl (.inl h)
  ·rcases ih id h with h | h
   ·exact .inl (.inr h)
   ·exact .inr h
end
end Go.El
