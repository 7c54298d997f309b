/- Plain: the ring of polynomials modulo p, with equality. Own work; no condition. -/
import Derived.Test.YtkkccchkmcjcpaaGreatM6
import Derived.Test.YtkkccchkmcjcpaaGreatM5
import Derived.Test.YtkkccchkmcjcpaaGreatM4
import Derived.Test.YtkkccchkmcjcpaaGreatM3
set_option linter.unusedVariables false
set_option linter.unusedSimpArgs false
namespace Go.El
def fxS (p : Int) : Setoid {A : PS // Pol p A} := ⟨fun A B => Cg p A.1 B.1, ⟨fun A => Cg.refl p A.1, Cg.symm, Cg.trans⟩⟩
def Fx (p : Int) : Type := Quotient (fxS p)
namespace Fx
variable {p : Int}
def mk (A : PS) (h : Pol p A) : Fx p := Quotient.mk (fxS p) ⟨A, h⟩
theorem mk_eq {A B : PS} {h : Pol p A} {k : Pol p B} : mk A h = mk B k ↔ Cg p A B := ⟨fun e => Quotient.exact e, fun e => Quotient.sound (s := fxS p) e⟩
theorem ex (x : Fx p) : ∃ A, ∃ h : Pol p A, x = mk A h := by
 refine Quotient.inductionOn x (fun A => ?_)
 exact ⟨A.1, A.2, rfl⟩
instance : Add (Fx p) := ⟨fun x y => Quotient.liftOn₂ x y (fun A B => mk (A.1 + B.1) (A.2.add B.2)) (fun _ _ _ _ h k => mk_eq.2 (Cg.add h k))⟩
instance : Mul (Fx p) := ⟨fun x y => Quotient.liftOn₂ x y (fun A B => mk (A.1 * B.1) (A.2.mul B.2)) (fun _ _ _ _ h k => mk_eq.2 (Cg.mul h k))⟩
instance : Neg (Fx p) := ⟨fun x => Quotient.liftOn x (fun A => mk (-A.1) A.2.neg) (fun _ _ h => mk_eq.2 (Cg.neg h))⟩
instance : _root_.Sub (Fx p) := ⟨fun x y => x + -y⟩
instance : OfNat (Fx p) 0 := ⟨mk 0 (Pol.zero p)⟩
instance : OfNat (Fx p) 1 := ⟨mk 1 (Pol.one p)⟩
theorem mk_add {A B : PS} {h : Pol p A} {k : Pol p B} : mk A h + mk B k = mk (A + B) (h.add k) := rfl
theorem mk_mul {A B : PS} {h : Pol p A} {k : Pol p B} : mk A h * mk B k = mk (A * B) (h.mul k) := rfl
theorem mk_congr {A B : PS} (e : A = B) (h : Pol p A) (k : Pol p B) : mk A h = mk B k := mk_eq.2 (Cg.of_eq e)
theorem add_comm (x y : Fx p) : x + y = y + x := by
 obtain ⟨A, h, rfl⟩ := ex x; obtain ⟨B, k, rfl⟩ := ex y
 exact mk_congr (PS.add_comm A B) _ _
theorem add_assoc (x y z : Fx p) : x + y + z = x + (y + z) := by
 obtain ⟨A, h, rfl⟩ := ex x; obtain ⟨B, k, rfl⟩ := ex y; obtain ⟨C, l, rfl⟩ := ex z
 exact mk_congr (PS.add_assoc A B C) _ _
theorem mul_comm (x y : Fx p) : x * y = y * x := by
 obtain ⟨A, h, rfl⟩ := ex x; obtain ⟨B, k, rfl⟩ := ex y
 exact mk_congr (PS.mul_comm A B) _ _
theorem mul_assoc (x y z : Fx p) : x * y * z = x * (y * z) := by
 obtain ⟨A, h, rfl⟩ := ex x; obtain ⟨B, k, rfl⟩ := ex y; obtain ⟨C, l, rfl⟩ := ex z
 exact mk_congr (PS.mul_assoc A B C) _ _
theorem mul_add (x y z : Fx p) : x * (y + z) = x * y + x * z := by
 obtain ⟨A, h, rfl⟩ := ex x; obtain ⟨B, k, rfl⟩ := ex y; obtain ⟨C, l, rfl⟩ := ex z
 exact mk_congr (PS.mul_add A B C) _ _
theorem add_mul (x y z : Fx p) : (x + y) * z = x * z + y * z := by rw [mul_comm, mul_add, mul_comm z x, mul_comm z y]
theorem zero_add (x : Fx p) : 0 + x = x := by
 obtain ⟨A, h, rfl⟩ := ex x
 exact mk_congr (PS.zero_add A) ((Pol.zero p).add h) h
theorem add_zero (x : Fx p) : x + 0 = x := by rw [add_comm, zero_add]
theorem one_mul (x : Fx p) : 1 * x = x := by
 obtain ⟨A, h, rfl⟩ := ex x
 exact mk_congr (PS.one_mul A) ((Pol.one p).mul h) h
theorem mul_one (x : Fx p) : x * 1 = x := by rw [mul_comm, one_mul]
theorem zero_mul (x : Fx p) : 0 * x = 0 := by
 obtain ⟨A, h, rfl⟩ := ex x
 exact mk_congr (PS.zero_mul A) ((Pol.zero p).mul h) (Pol.zero p)
theorem mul_zero (x : Fx p) : x * 0 = 0 := by rw [mul_comm, zero_mul]
theorem add_neg (x : Fx p) : x + -x = 0 := by
 obtain ⟨A, h, rfl⟩ := ex x
 exact mk_congr (PS.add_neg A) (h.add h.neg) (Pol.zero p)
theorem neg_add (x : Fx p) : -x + x = 0 := by rw [add_comm, add_neg]
theorem sub_def (x y : Fx p) : x - y = x + -y := rfl
instance : Std.Associative (α := Fx p) (· + ·) := ⟨add_assoc⟩
instance : Std.Commutative (α := Fx p) (· + ·) := ⟨add_comm⟩
instance : Std.Associative (α := Fx p) (· * ·) := ⟨mul_assoc⟩
instance : Std.Commutative (α := Fx p) (· * ·) := ⟨mul_comm⟩
theorem add_left_cancel {x y z : Fx p} (h : x + y = x + z) : y = z := by
 have := congrArg (-x + ·) h
 simpa only [← add_assoc, neg_add, zero_add] using this
theorem sub_add (x y : Fx p) : x - y + y = x := by rw [sub_def, add_assoc, neg_add, add_zero]
theorem add_sub (x y : Fx p) : x + y - y = x := by rw [sub_def, add_assoc, add_neg, add_zero]
theorem eq_sub {x y z : Fx p} (h : x + y = z) : x = z - y := by rw [← h, add_sub]
theorem sub_eq {x y z : Fx p} (h : x = z + y) : x - y = z := by rw [h, add_sub]
theorem sub_self (x : Fx p) : x - x = 0 := add_neg x
theorem eq_of_sub {x y : Fx p} (h : x - y = 0) : x = y := by rw [← sub_add x y, h, zero_add]
theorem sub_mul (x y z : Fx p) : (x - y) * z = x * z - y * z := eq_sub (by rw [← add_mul, sub_add])
theorem mul_sub (x y z : Fx p) : x * (y - z) = x * y - x * z := by rw [mul_comm, sub_mul, mul_comm y, mul_comm z]
theorem neg_mul (x y : Fx p) : -x * y = -(x * y) := add_left_cancel (x := x * y) (by rw [← add_mul, add_neg, add_neg, zero_mul])
theorem mul_neg (x y : Fx p) : x * -y = -(x * y) := by rw [mul_comm, neg_mul, mul_comm]
theorem neg_sub (x y : Fx p) : -(x - y) = y - x := add_left_cancel (x := x - y) (by
 rw [add_neg, sub_def, sub_def]
 have : x + -y + (y + -x) = (x + -x) + (-y + y) := by ac_rfl
 rw [this, add_neg, neg_add, add_zero])
theorem sub_add_sub (x y z : Fx p) : (x - y) + (y - z) = x - z := by
 rw [sub_def, sub_def, sub_def]
 have : x + -y + (y + -z) = x + -z + (-y + y) := by ac_rfl
 rw [this, neg_add, add_zero]
theorem add_sub_add (x y z w : Fx p) : (x + y) - (z + w) = (x - z) + (y - w) := sub_eq (by
 have : x - z + (y - w) + (z + w) = (x - z + z) + (y - w + w) := by ac_rfl
 rw [this, sub_add, sub_add])
instance : Dvd (Fx p) := ⟨fun a b => ∃ w, b = w * a⟩
theorem dvd_refl (a : Fx p) : a ∣ a := ⟨1, (one_mul a).symm⟩
theorem dvd_zero (a : Fx p) : a ∣ 0 := ⟨0, (zero_mul a).symm⟩
theorem dvd_trans {a b c : Fx p} (h : a ∣ b) (k : b ∣ c) : a ∣ c := by
 obtain ⟨w, rfl⟩ := h
 obtain ⟨v, rfl⟩ := k
 exact ⟨v * w, (mul_assoc v w a).symm⟩
theorem dvd_mul_left (a b : Fx p) : a ∣ b * a := ⟨b, rfl⟩
theorem dvd_mul_right (a b : Fx p) : a ∣ a * b := ⟨b, mul_comm a b⟩
theorem dvd_mul_l {a b : Fx p} (h : a ∣ b) (c : Fx p) : a ∣ c * b := dvd_trans h (dvd_mul_left b c)
theorem dvd_mul_r {a b : Fx p} (h : a ∣ b) (c : Fx p) : a ∣ b * c := dvd_trans h (dvd_mul_right b c)
theorem dvd_add {a b c : Fx p} (h : a ∣ b) (k : a ∣ c) : a ∣ b + c := by
 obtain ⟨w, rfl⟩ := h
 obtain ⟨v, rfl⟩ := k
 exact ⟨w + v, (add_mul w v a).symm⟩
theorem dvd_neg {a b : Fx p} (h : a ∣ b) : a ∣ -b := by
 obtain ⟨w, rfl⟩ := h
 exact ⟨-w, (neg_mul w a).symm⟩
theorem dvd_sub {a b c : Fx p} (h : a ∣ b) (k : a ∣ c) : a ∣ b - c := dvd_add h (dvd_neg k)
theorem dvd_of_add {a b c : Fx p} (h : a ∣ b + c) (k : a ∣ b) : a ∣ c := by
 have := dvd_sub h k
 rwa [add_comm b c, add_sub] at this
theorem dvd_of_sub {a b c : Fx p} (h : a ∣ b - c) (k : a ∣ c) : a ∣ b := by
 have := dvd_add h k
 rwa [sub_add] at this
theorem dvd_sub_comm {a b c : Fx p} (h : a ∣ b - c) : a ∣ c - b := by rw [← neg_sub]; exact dvd_neg h
theorem dvd_sub_trans {a b c d : Fx p} (h : a ∣ b - c) (k : a ∣ c - d) : a ∣ b - d := by rw [← sub_add_sub b c d]; exact dvd_add h k
theorem cong_add {a b c d e : Fx p} (h : a ∣ b - c) (k : a ∣ d - e) : a ∣ (b + d) - (c + e) := by rw [add_sub_add]; exact dvd_add h k
theorem cong_mul {a b c d e : Fx p} (h : a ∣ b - c) (k : a ∣ d - e) : a ∣ b * d - c * e := by
 have : b * d - c * e = (b - c) * d + c * (d - e) := by rw [sub_mul, mul_sub, sub_add_sub]
 rw [this]
 exact dvd_add (dvd_mul_r h d) (dvd_mul_l k c)
theorem cong_refl (a b : Fx p) : a ∣ b - b := by rw [sub_self]; exact dvd_zero a
def pk (a : Fx p) : Nat → Fx p
 | 0 => 1
 | n + 1 => pk a n * a
theorem pk_one (a : Fx p) : pk a 1 = a := one_mul a
theorem pk_add (a : Fx p) (m : Nat) : ∀ n, pk a (m + n) = pk a m * pk a n
 | 0 => (mul_one _).symm
 | n + 1 => by rw [← Nat.add_assoc, pk, pk, pk_add a m n, mul_assoc]
theorem pk_mul (a : Fx p) (m : Nat) : ∀ n, pk a (m * n) = pk (pk a m) n
 | 0 => rfl
 | n + 1 => by rw [Nat.mul_succ, pk_add, pk, pk_mul a m n]
theorem mul_pk (a b : Fx p) : ∀ n, pk (a * b) n = pk a n * pk b n
 | 0 => (one_mul 1).symm
 | n + 1 => by rw [pk, pk, pk, mul_pk a b n]; ac_rfl
theorem one_pk : ∀ n, pk (1 : Fx p) n = 1
 | 0 => rfl
 | n + 1 => by rw [pk, one_pk n, one_mul]
theorem zero_pk {n : Nat} (h : 0 < n) : pk (0 : Fx p) n = 0 := by
 obtain ⟨m, rfl⟩ : ∃ m, n = m + 1 := ⟨n - 1, by omega⟩
 rw [pk, mul_zero]
theorem cong_pk {a b c : Fx p} (h : a ∣ b - c) : ∀ n, a ∣ pk b n - pk c n
 | 0 => cong_refl a 1
 | n + 1 => cong_mul (cong_pk h n) h
theorem mk_pk {A : PS} (h : Pol p A) : ∀ n (k : Pol p (pw A n)), mk (pw A n) k = pk (mk A h) n
 | 0, _ => rfl
 | n + 1, k => by
  have h1 : Pol p (pw A n) := by
   clear k
   induction n with
   | zero => exact Pol.one p
   | succ n ih => exact ih.mul h
  rw [pk, ← mk_pk h n h1, mk_mul]; rfl
theorem pol_pw {A : PS} (h : Pol p A) : ∀ n, Pol p (pw A n)
 | 0 => Pol.one p
 | n + 1 => (pol_pw h n).mul h
def K (c : Int) : Fx p := mk (PS.K c) (Pol.K p c)
theorem Pol_X (k : Nat) : Pol p (PS.X k) := ⟨_, Dl_X p k⟩
def X : Fx p := mk (PS.X 1) (Pol_X 1)
def fx (a : List Int) : Fx p := mk (ps a) (Pol.ps p a)
theorem K_add (a b : Int) : (K (a + b) : Fx p) = K a + K b := mk_congr (PS.K_add a b) _ _
theorem K_mul (a b : Int) : (K (a * b) : Fx p) = K a * K b := mk_congr (PS.K_mulK a b) _ _
theorem K_zero : (K 0 : Fx p) = 0 := mk_congr PS.K_zero _ _
theorem K_one : (K 1 : Fx p) = 1 := rfl
theorem K_neg (a : Int) : (K (-a) : Fx p) = -K a := add_left_cancel (x := K a) (by rw [← K_add, Int.add_right_neg, K_zero, add_neg])
theorem K_sub (a b : Int) : (K (a - b) : Fx p) = K a - K b := by rw [Int.sub_eq_add_neg, K_add, K_neg, sub_def]
theorem K_eq {a b : Int} (h : a % p = b % p) : (K a : Fx p) = K b := mk_eq.2 (Cg.K h)
theorem K_inj {a b : Int} (h : (K a : Fx p) = K b) : a % p = b % p := (mk_eq.1 h).at 0
theorem K_p : (K p : Fx p) = 0 := mk_eq.2 (Cg.Km p)
theorem K_pk (a : Int) : ∀ n, pk (K a : Fx p) n = K (a ^ n)
 | 0 => by rw [Int.pow_zero, K_one]; rfl
 | n + 1 => by rw [pk, K_pk a n, Int.pow_succ, K_mul]
theorem fx_nil : (fx [] : Fx p) = 0 := mk_congr ps_nil _ _
theorem fx_one : (fx [1] : Fx p) = 1 := mk_congr ps_one _ _
theorem fx_single (c : Int) : (fx [c] : Fx p) = K c := mk_congr (PS.ext fun i => by
 cases i with
 | zero => rfl
 | succ i => rfl) _ _
theorem ps_cons (c : Int) (a : List Int) : ps (c :: a) = PS.K c + PS.X 1 * ps a := PS.ext fun i => by
 rw [PS.add_at, PS.X_mul]
 cases i with
 | zero => rw [if_neg (by omega)]; show c = PS.K c 0 + 0; rw [PS.K, if_pos rfl]; omega
 | succ i => rw [if_pos (by omega)]; show a.getD i 0 = PS.K c (i + 1) + a.getD i 0; rw [PS.K, if_neg (by omega)]; omega
theorem fx_cons (c : Int) (a : List Int) : (fx (c :: a) : Fx p) = K c + X * fx a := mk_congr (ps_cons c a) _ _
theorem fx_times (a b : List Int) : (fx (ptimes a b p) : Fx p) = fx a * fx b := mk_eq.2 (ptimes_ps a b p)
theorem fx_trim (a : List Int) : (fx (trimW a) : Fx p) = fx a := mk_congr (ps_trimW a) _ _
theorem fx_sub (a b : List Int) : (fx (trimW (psubL a b p)) : Fx p) = fx a - fx b := (show mk _ (Pol.ps p _) = mk _ ((Pol.ps p a).sub (Pol.ps p b)) from mk_eq.2 (psub_ps a b p)).trans (mk_congr (PS.sub_def _ _) _ ((Pol.ps p a).add (Pol.ps p b).neg))
theorem fx_inj {a b : List Int} (ha : pcan p a) (hb : pcan p b) (h : (fx a : Fx p) = fx b) : a = b := pcan_eq ha hb (mk_eq.1 h)
theorem fx_get {a b : List Int} (h : (fx a : Fx p) = fx b) (i : Nat) : a.getD i 0 % p = b.getD i 0 % p := (mk_eq.1 h).at i
theorem rep (hp : 0 < p) (A : Fx p) : ∃ a, pcan p a ∧ fx a = A := by
 obtain ⟨A, ⟨n, hn⟩, rfl⟩ := ex A
 have hg : ∀ i, ((List.range n).map fun i => A i % p).getD i 0 = if i < n then A i % p else 0 := fun i => by
  rw [List.getD_eq_getElem?_getD, List.getElem?_map]
  by_cases e : i < n
  ·rw [if_pos e, List.getElem?_range e]; rfl
  ·rw [if_neg e, List.getElem?_eq_none (by simp; omega)]; rfl
 refine ⟨trimW ((List.range n).map fun i => A i % p), pcan_trim hp (fun i => ?_), ?_⟩
 ·rw [hg]
  split
  ·exact ⟨Int.emod_nonneg _ (by omega), Int.emod_lt_of_pos _ hp⟩
  ·exact ⟨Int.le_refl _, hp⟩
 ·rw [fx_trim]
  refine mk_eq.2 (Cg.of fun i => ?_)
  rw [ps_at, hg]
  split
  ·rw [Int.emod_emod]
  ·rw [hn i (by omega), Int.zero_emod]
open Classical in
noncomputable def sz (A : Fx p) : Nat := if h : ∃ a, pcan p a ∧ fx a = A then (Classical.choose h).length else 0
theorem sz_fx {a : List Int} (ha : pcan p a) : sz (fx a : Fx p) = a.length := by
 have h : ∃ b, pcan p b ∧ (fx b : Fx p) = fx a := ⟨a, ha, rfl⟩
 unfold sz
 rw [dif_pos h]
 have h2 := Classical.choose_spec h
 rw [fx_inj h2.1 ha h2.2]
theorem sz_lt {n : Nat} (hp : 0 < p) {A : PS} (h : Pol p A) (hn : Dl p n A) : sz (mk A h) ≤ n := by
 obtain ⟨a, ha, e⟩ := rep hp (mk A h)
 rw [← e, sz_fx ha]
 exact ha.len (hn.cg (mk_eq.1 e).symm)
theorem sz_list (hp : 0 < p) (a : List Int) : sz (fx a : Fx p) ≤ a.length := sz_lt hp _ (Dl_ps p a)
theorem sz_zero (hp : 0 < p) : sz (0 : Fx p) = 0 := by rw [← fx_nil, sz_fx (pcan_nil hp)]; rfl
theorem sz_K (hp : 0 < p) (c : Int) : sz (K c : Fx p) ≤ 1 := sz_lt hp _ (Dl_K p c)
theorem of_sz_zero (hp : 0 < p) {A : Fx p} (h : sz A = 0) : A = 0 := by
 obtain ⟨a, ha, rfl⟩ := rep hp A
 rw [sz_fx ha] at h
 rw [List.eq_nil_of_length_eq_zero h, fx_nil]
theorem sz_pos (hp : 0 < p) {A : Fx p} (h : A ≠ 0) : 0 < sz A := by
 rcases Nat.eq_zero_or_pos (sz A) with e | e
 ·exact absurd (of_sz_zero hp e) h
 ·exact e
theorem sz_add (hp : 0 < p) (A B : Fx p) : sz (A + B) ≤ max (sz A) (sz B) := by
 obtain ⟨a, ha, rfl⟩ := rep hp A
 obtain ⟨b, hb, rfl⟩ := rep hp B
 rw [sz_fx ha, sz_fx hb]
 exact sz_lt hp _ (((Dl_ps p a).le (by omega)).add ((Dl_ps p b).le (by omega)))
theorem sz_neg (hp : 0 < p) (A : Fx p) : sz (-A) ≤ sz A := by
 obtain ⟨a, ha, rfl⟩ := rep hp A
 rw [sz_fx ha]
 exact sz_lt hp _ (Dl_ps p a).neg
theorem sz_sub (hp : 0 < p) (A B : Fx p) : sz (A - B) ≤ max (sz A) (sz B) := by
 have h1 := sz_add hp A (-B)
 have h2 := sz_neg hp B
 rw [sub_def]; omega
end Fx
end Go.El

/- Plain: polynomials modulo a prime: division, common factors, irreducible ones, roots. Own work; no condition. -/
namespace Go.El
structure P31 (p : Nat) : Prop where
 hp : IsP p
 le : p ≤ 2147483648
theorem P31.pos {p : Nat} (H : P31 p) : (0 : Int) < (p : Int) := by have := H.hp.1; omega
theorem P31.one {p : Nat} (H : P31 p) : (1 : Int) % (p : Int) = 1 := by
 have := H.hp.1
 exact Int.emod_eq_of_lt (by decide) (by omega)
namespace Fx
variable {p : Nat}
theorem one_ne (H : P31 p) : (1 : Fx p) ≠ 0 := fun e => by
 rw [← K_one, ← K_zero] at e
 have := K_inj e
 rw [H.one, Int.zero_emod] at this
 cases this
theorem K_unit (H : P31 p) {c : Int} (h : c % (p : Int) ≠ 0) : ∃ d, (K d * K c : Fx p) = 1 := by
 have h0 := Int.emod_nonneg c (show (p : Int) ≠ 0 by have := H.pos; omega)
 have h1 := Int.emod_lt_of_pos c H.pos
 have e : (K c : Fx p) = K (c % (p : Int)) := K_eq (by rw [Int.emod_emod])
 refine ⟨((invM (c % (p : Int)).toNat ((p : Nat) : Int).toNat : Nat) : Int), ?_⟩
 rw [e, ← K_mul, ← K_one]
 refine K_eq ?_
 rw [Int.mul_comm, lead_inv H.hp H.le h0 h1 h, H.one]
theorem K_ne (H : P31 p) {c : Int} (h : c % (p : Int) ≠ 0) : (K c : Fx p) ≠ 0 := fun e => by
 obtain ⟨d, hd⟩ := K_unit H h
 rw [e, mul_zero] at hd
 exact one_ne H hd.symm
theorem sz_mul (H : P31 p) {A B : Fx p} (hA : A ≠ 0) (hB : B ≠ 0) : sz (A * B) + 1 = sz A + sz B := by
 obtain ⟨a, ha, rfl⟩ := rep H.pos A
 obtain ⟨b, hb, rfl⟩ := rep H.pos B
 have pa := sz_pos H.pos hA
 have pb := sz_pos H.pos hB
 rw [sz_fx ha] at pa ⊢
 rw [sz_fx hb] at pb ⊢
 obtain ⟨n, hn⟩ : ∃ n, a.length = n + 1 := ⟨a.length - 1, by omega⟩
 obtain ⟨m, hm⟩ : ∃ m, b.length = m + 1 := ⟨b.length - 1, by omega⟩
 have da := Dl_ps (p : Int) a
 have db := Dl_ps (p : Int) b
 rw [hn] at da ⊢
 rw [hm] at db ⊢
 have h1 := sz_lt H.pos ((Pol.ps (p : Int) a).mul (Pol.ps p b)) (da.mul db)
 rw [← fx_times, sz_fx (ptimes_pcan H.pos a b)]
 have h2 := mul_top H.hp da db (ha.top hn) (hb.top hm)
 have h3 := (ptimes_ps a b (p : Int)).at (n + m)
 have h4 : (ptimes a b (p : Int)).length ≤ n + (m + 1) := by
  have e : sz (fx (ptimes a b p) : Fx p) = (ptimes a b p).length := sz_fx (ptimes_pcan H.pos a b)
  rw [fx_times] at e
  rw [← e]; exact h1
 by_cases e : (ptimes a b (p : Int)).length ≤ n + m
 ·exfalso
  rw [← h3, ps_at, getD_ge _ e, Int.zero_emod] at h2
  exact h2 rfl
 ·omega
theorem mul_ne (H : P31 p) {A B : Fx p} (hA : A ≠ 0) (hB : B ≠ 0) : A * B ≠ 0 := fun e => by
 have h := sz_mul H hA hB
 rw [e, sz_zero H.pos] at h
 have pa := sz_pos H.pos hA
 have pb := sz_pos H.pos hB
 omega
theorem mul_cancel (H : P31 p) {A B C : Fx p} (hA : A ≠ 0) (h : B * A = C * A) : B = C := by
 refine eq_of_sub ?_
 refine Classical.byContradiction fun hn => ?_
 exact mul_ne H hn hA (by rw [sub_mul, h, sub_self])
theorem sz_one (H : P31 p) : sz (1 : Fx p) = 1 := by
 have h1 := sz_K H.pos 1 (p := (p : Int))
 have h2 := sz_pos H.pos (one_ne H)
 rw [K_one] at h1; omega
theorem unit_of (H : P31 p) {A : Fx p} (h : sz A = 1) : ∃ c : Int, c % (p : Int) ≠ 0 ∧ A = K c := by
 obtain ⟨a, ha, rfl⟩ := rep H.pos A
 rw [sz_fx ha] at h
 match a, h, ha with
 | [c], _, ha => exact ⟨c, ha.top (n := 0) rfl, fx_single c⟩
theorem unit_inv (H : P31 p) {A : Fx p} (h : sz A = 1) : ∃ B : Fx p, B * A = 1 := by
 obtain ⟨c, hc, rfl⟩ := unit_of H h
 obtain ⟨d, hd⟩ := K_unit H hc
 exact ⟨_, hd⟩
theorem inv_unit (H : P31 p) {A B : Fx p} (h : B * A = 1) : sz A = 1 := by
 have hA : A ≠ 0 := fun e => one_ne H (by rw [← h, e, mul_zero])
 have hB : B ≠ 0 := fun e => one_ne H (by rw [← h, e, zero_mul])
 have h1 := sz_mul H hB hA
 rw [h, sz_one H] at h1
 have pa := sz_pos H.pos hA
 have pb := sz_pos H.pos hB
 omega
theorem dvd_one (H : P31 p) {A : Fx p} (h : A ∣ 1) : sz A = 1 := by
 obtain ⟨w, hw⟩ := h
 exact inv_unit H hw.symm
theorem dvd_sz (H : P31 p) {A B : Fx p} (h : A ∣ B) (hB : B ≠ 0) : sz A ≤ sz B := by
 obtain ⟨w, rfl⟩ := h
 have hw : w ≠ 0 := fun e => hB (by rw [e, zero_mul])
 have hA : A ≠ 0 := fun e => hB (by rw [e, mul_zero])
 have h1 := sz_mul H hw hA
 have pw := sz_pos H.pos hw
 omega
theorem dvd_small (H : P31 p) {A B : Fx p} (h : A ∣ B) (hlt : sz B < sz A) : B = 0 :=
 Classical.byContradiction fun hn => by have := dvd_sz H h hn; omega
theorem div_ex (H : P31 p) (A : Fx p) {B : Fx p} (hB : B ≠ 0) : ∃ Q R, A = Q * B + R ∧ sz R < sz B := by
 obtain ⟨a, ha, rfl⟩ := rep H.pos A
 obtain ⟨b, hb, rfl⟩ := rep H.pos B
 have hb0 : b ≠ [] := fun e => hB (by rw [e, fx_nil])
 obtain ⟨d1, d2, d3, d4, d5, d6⟩ := pdiv_ok H.hp H.le ha.1 hb hb0
 refine ⟨fx (pdivide a b p).1, fx (pdivide a b p).2, mk_eq.2 d1, ?_⟩
 rw [sz_fx hb, sz_fx (d5 ha)]
 have := List.length_pos_iff.2 hb0
 omega
theorem bezout (H : P31 p) : ∀ (n : Nat) (A B : Fx p), sz B < n → ∃ D U V, D ∣ A ∧ D ∣ B ∧ D = U * A + V * B
 | 0, _, _, h => by omega
 | n + 1, A, B, h => by
  by_cases e : B = 0
  ·subst e
   exact ⟨A, 1, 0, dvd_refl A, dvd_zero A, by rw [one_mul, mul_zero, add_zero]⟩
  ·obtain ⟨Q, R, h1, h2⟩ := div_ex H A e
   obtain ⟨D, U, V, h3, h4, h5⟩ := bezout H n B R (by omega)
   refine ⟨D, V, U - V * Q, ?_, h3, ?_⟩
   ·rw [h1]; exact dvd_add (dvd_mul_l h3 Q) h4
   ·rw [h5, h1, mul_add, sub_mul]
    have : V * (Q * B) + V * R + (U * B - V * Q * B) = (U * B - V * Q * B + V * Q * B) + V * R := by ac_rfl
    rw [this, sub_add]
def Co (A B : Fx p) : Prop := ∃ U V, U * A + V * B = 1
theorem Co.dvd {A B C : Fx p} (h : Co A B) (k : A ∣ B * C) : A ∣ C := by
 obtain ⟨U, V, h⟩ := h
 have : C = C * U * A + V * (B * C) := by
  have e1 : C * (U * A) + C * (V * B) = C * U * A + V * (B * C) := by ac_rfl
  rw [← e1, ← mul_add, h, mul_one]
 rw [this]
 exact dvd_add (dvd_mul_left A _) (dvd_mul_l k V)
theorem Co.mul_dvd {A B C : Fx p} (h : Co A B) (ka : A ∣ C) (kb : B ∣ C) : A * B ∣ C := by
 obtain ⟨w, rfl⟩ := kb
 rw [mul_comm w B] at ka
 obtain ⟨v, rfl⟩ := h.dvd ka
 exact ⟨v, by ac_rfl⟩
def Irr (Q : Fx p) : Prop := 2 ≤ sz Q ∧ ∀ A B, Q = A * B → sz A = 1 ∨ sz B = 1
theorem Irr.ne {Q : Fx p} (H : P31 p) (h : Irr Q) : Q ≠ 0 := fun e => by
 have := h.1
 rw [e, sz_zero H.pos] at this; omega
theorem Irr.or {Q : Fx p} (H : P31 p) (h : Irr Q) (A : Fx p) : Q ∣ A ∨ Co Q A := by
 obtain ⟨D, U, V, h1, h2, h3⟩ := bezout H _ Q A (Nat.lt_succ_self _)
 obtain ⟨w, hw⟩ := h1
 rcases h.2 _ _ hw with e | e
 ·obtain ⟨B, hB⟩ := unit_inv H e
  left
  refine dvd_trans ⟨B, ?_⟩ h2
  rw [hw, ← mul_assoc, hB, one_mul]
 ·obtain ⟨B, hB⟩ := unit_inv H e
  right
  refine ⟨B * U, B * V, ?_⟩
  rw [← hB, h3, mul_add, mul_assoc, mul_assoc]
theorem Irr.not_one {Q : Fx p} (H : P31 p) (h : Irr Q) : ¬ Q ∣ 1 := fun e => by
 have := dvd_one H e
 have := h.1
 omega
theorem Irr.prime {Q : Fx p} (H : P31 p) (h : Irr Q) {A B : Fx p} (k : Q ∣ A * B) : Q ∣ A ∨ Q ∣ B := by
 rcases h.or H A with e | e
 ·exact .inl e
 ·exact .inr (e.dvd k)
theorem Irr.not_K {Q : Fx p} (H : P31 p) (h : Irr Q) {c : Int} (k : Q ∣ K c) : c % (p : Int) = 0 :=
 Classical.byContradiction fun hn => by
  obtain ⟨d, hd⟩ := K_unit H hn
  exact h.not_one H (hd ▸ dvd_mul_l k (K d))
theorem irr_ex (H : P31 p) : ∀ (n : Nat) (A : Fx p), sz A < n → 2 ≤ sz A → ∃ Q, Irr Q ∧ Q ∣ A
 | 0, _, h, _ => by omega
 | n + 1, A, h, h2 => by
  by_cases hi : Irr A
  ·exact ⟨A, hi, dvd_refl A⟩
  ·have : ∃ B C, A = B * C ∧ ¬ (sz B = 1 ∨ sz C = 1) := Classical.byContradiction fun hn => hi ⟨h2, fun B C e => Classical.byContradiction fun hc => hn ⟨B, C, e, hc⟩⟩
   obtain ⟨B, C, e, hc⟩ := this
   have hA : A ≠ 0 := fun e => by rw [e, sz_zero H.pos] at h2; omega
   have hB : B ≠ 0 := fun e2 => hA (by rw [e, e2, zero_mul])
   have hC : C ≠ 0 := fun e2 => hA (by rw [e, e2, mul_zero])
   have h3 := sz_mul H hB hC
   rw [← e] at h3
   have h4 := sz_pos H.pos hB
   have h5 := sz_pos H.pos hC
   obtain ⟨Q, hQ, hd⟩ := irr_ex H n B (by omega) (by omega)
   exact ⟨Q, hQ, by rw [e]; exact dvd_mul_r hd C⟩
theorem co_of_irr (H : P31 p) {A B : Fx p} (hA : A ≠ 0) (h : ∀ Q, Irr Q → Q ∣ A → Q ∣ B → False) : Co A B := by
 obtain ⟨D, U, V, h1, h2, h3⟩ := bezout H _ A B (Nat.lt_succ_self _)
 have hD : D ≠ 0 := fun e => by
  obtain ⟨w, hw⟩ := h1
  rw [e, mul_zero] at hw
  exact hA hw
 have h4 := sz_pos H.pos hD
 by_cases e : sz D = 1
 ·obtain ⟨C, hC⟩ := unit_inv H e
  refine ⟨C * U, C * V, ?_⟩
  rw [← hC, h3, mul_add, mul_assoc, mul_assoc]
 ·obtain ⟨Q, hQ, hd⟩ := irr_ex H _ D (Nat.lt_succ_self _) (by omega)
  exact (h Q hQ (dvd_trans hd h1) (dvd_trans hd h2)).elim
theorem frob (H : P31 p) (A B : Fx p) : pk (A + B) p = pk A p + pk B p := by
 obtain ⟨A, hA, rfl⟩ := ex A
 obtain ⟨B, hB, rfl⟩ := ex B
 rw [mk_add, ← mk_pk (hA.add hB) _ (pol_pw (hA.add hB) _), ← mk_pk hA _ (pol_pw hA _), ← mk_pk hB _ (pol_pw hB _), mk_add]
 exact mk_eq.2 (H.hp.frob A B)
theorem fermat (H : P31 p) (c : Int) : pk (K c : Fx p) p = K c := by
 have h0 := Int.emod_nonneg c (show (p : Int) ≠ 0 by have := H.pos; omega)
 obtain ⟨a, ha⟩ := Int.eq_ofNat_of_zero_le h0
 have e : (K c : Fx p) = K (a : Int) := K_eq (by rw [← ha, Int.emod_emod])
 rw [e, K_pk]
 exact K_eq (H.hp.fermat a)
theorem frob_i (H : P31 p) (A B : Fx p) : ∀ i, pk (A + B) (p ^ i) = pk A (p ^ i) + pk B (p ^ i)
 | 0 => by simp only [Nat.pow_zero, pk_one]
 | i + 1 => by rw [Nat.pow_succ, pk_mul, pk_mul, pk_mul, frob_i H A B i, frob H]
theorem fermat_i (H : P31 p) (c : Int) : ∀ i, pk (K c : Fx p) (p ^ i) = K c
 | 0 => pk_one _
 | i + 1 => by rw [Nat.pow_succ, pk_mul, fermat_i H c i, fermat H]
def ev : List (Fx p) → Fx p → Fx p
 | [], _ => 1
 | c :: cs, y => c + y * ev cs y
theorem ev_split (y0 : Fx p) : ∀ (cs : List (Fx p)) (c : Fx p), ∃ ds : List (Fx p), ds.length = cs.length ∧ ∀ y, ev (c :: cs) y = ev (c :: cs) y0 + (y - y0) * ev ds y
 | [], c => ⟨[], rfl, fun y => by
  show c + y * 1 = c + y0 * 1 + (y - y0) * 1
  rw [mul_one, mul_one, mul_one, add_assoc, add_comm y0, sub_add]⟩
 | c' :: cs, c => by
  obtain ⟨ds, h1, h2⟩ := ev_split y0 cs c'
  refine ⟨ev (c' :: cs) y0 :: ds, by simp [h1], fun y => ?_⟩
  show c + y * ev (c' :: cs) y = c + y0 * ev (c' :: cs) y0 + (y - y0) * (ev (c' :: cs) y0 + y * ev ds y)
  rw [h2 y]
  generalize ev (c' :: cs) y0 = w
  generalize ev ds y = v
  rw [mul_add, mul_add, add_assoc c, ← add_assoc (y0 * w), ← add_mul y0, add_comm y0, sub_add]
  congr 2
  ac_rfl
theorem roots (H : P31 p) {Q : Fx p} (hQ : Irr Q) : ∀ (cs : List (Fx p)) (ys : List (Fx p)), cs.length < ys.length → (∀ y ∈ ys, Q ∣ ev cs y) → ys.Pairwise (fun a b => ¬ Q ∣ a - b) → False
 | _, [], h, _, _ => by simp at h
 | [], y :: _, _, h, _ => hQ.not_one H (h y (by simp))
 | c :: cs, y0 :: ys, hl, h, hp => by
  obtain ⟨ds, h1, h2⟩ := ev_split y0 cs c
  obtain ⟨hp1, hp2⟩ := List.pairwise_cons.1 hp
  have e0 := h y0 (by simp)
  have key : ds.length = cs.length := h1
  have hlen : ds.length < ys.length := by simp only [List.length_cons] at hl; omega
  refine roots H hQ ds ys hlen (fun y hy => ?_) hp2
  have e1 := h y (by simp [hy])
  rw [h2 y] at e1
  rcases hQ.prime H (dvd_of_add e1 e0) with e | e
  ·exact absurd (dvd_sub_comm e) (hp1 y hy)
  ·exact e
termination_by cs => cs.length
decreasing_by simp only [List.length_cons]; omega
theorem ev_rep (y : Fx p) : ∀ m, ev (List.replicate m 0) y = pk y m
 | 0 => rfl
 | m + 1 => by
  rw [List.replicate_succ, ev, ev_rep y m, zero_add, pk, mul_comm]
theorem ev_yy (m : Nat) (y : Fx p) : ev (0 :: -1 :: List.replicate m 0) y = pk y (m + 2) - y := by
 rw [ev, ev, ev_rep, zero_add, mul_add, mul_neg, mul_one, pk, pk, sub_def, add_comm]
 congr 1
 ac_rfl
theorem const_of (H : P31 p) {Q V : Fx p} (hQ : Irr Q) (h : Q ∣ pk V p - V) : ∃ a : Nat, a < p ∧ Q ∣ V - K (a : Int) := by
 refine Classical.byContradiction fun hn => ?_
 have h2 := H.hp.1
 obtain ⟨m, rfl⟩ : ∃ m, p = m + 2 := ⟨p - 2, by omega⟩
 refine roots H hQ (0 :: -1 :: List.replicate m 0) (V :: (List.range (m + 2)).map fun (a : Nat) => K (a : Int)) (by simp) (fun y hy => ?_) ?_
 ·rw [ev_yy]
  rcases List.mem_cons.1 hy with rfl | hy
  ·exact h
  ·obtain ⟨a, _, rfl⟩ := List.mem_map.1 hy
   rw [fermat H, sub_self]; exact dvd_zero Q
 ·refine List.pairwise_cons.2 ⟨fun y hy => ?_, ?_⟩
  ·obtain ⟨a, ha, rfl⟩ := List.mem_map.1 hy
   exact fun hd => hn ⟨a, List.mem_range.1 ha, hd⟩
  ·refine List.pairwise_map.2 (List.Pairwise.imp_of_mem ?_ List.pairwise_lt_range)
   intro a b ha hb hab hd
   rw [← K_sub] at hd
   have h3 := hQ.not_K H hd
   have := List.mem_range.1 ha
   have := List.mem_range.1 hb
   have h4 : ((m + 2 : Nat) : Int) ∣ (a : Int) - b := Int.dvd_of_emod_eq_zero h3
   obtain ⟨k, hk⟩ := h4
   rcases Int.lt_trichotomy k 0 with e | e | e
   ·have : ((m + 2 : Nat) : Int) * k ≤ ((m + 2 : Nat) : Int) * (-1) := Int.mul_le_mul_of_nonneg_left (by omega) (by omega)
    omega
   ·subst e; omega
   ·have : ((m + 2 : Nat) : Int) * 1 ≤ ((m + 2 : Nat) : Int) * k := Int.mul_le_mul_of_nonneg_left (by omega) (by omega)
    omega
def dgt (p : Nat) : Nat → Nat → List Int
 | 0, _ => []
 | n + 1, k => ((k % p : Nat) : Int) :: dgt p n (k / p)
theorem dgt_len (p : Nat) : ∀ n k, (dgt p n k).length = n
 | 0, _ => rfl
 | n + 1, k => by rw [dgt, List.length_cons, dgt_len p n]
theorem dgt_inj {p : Nat} (hp : 0 < p) : ∀ n k l, k < p ^ n → l < p ^ n → (∀ i, (dgt p n k).getD i 0 % (p : Int) = (dgt p n l).getD i 0 % (p : Int)) → k = l
 | 0, k, l, h, h', _ => by rw [Nat.pow_zero] at h h'; omega
 | n + 1, k, l, h, h', hd => by
  have h0 := hd 0
  simp only [dgt, List.getD_cons_zero] at h0
  have e1 : k % p = l % p := by
   have := Nat.mod_lt k hp
   have := Nat.mod_lt l hp
   rw [Int.emod_eq_of_lt (by omega) (by omega), Int.emod_eq_of_lt (by omega) (by omega)] at h0
   omega
  have e2 := dgt_inj hp n (k / p) (l / p) (Nat.div_lt_of_lt_mul (by rw [Nat.mul_comm, ← Nat.pow_succ]; exact h)) (Nat.div_lt_of_lt_mul (by rw [Nat.mul_comm, ← Nat.pow_succ]; exact h')) (fun i => by simpa only [dgt, List.getD_cons_succ] using hd (i + 1))
  rw [← Nat.div_add_mod k p, ← Nat.div_add_mod l p, e1, e2]
theorem pow_all (H : P31 p) {Q : Fx p} {i : Nat} (h : Q ∣ pk X (p ^ i) - X) : ∀ l : List Int, Q ∣ pk (fx l) (p ^ i) - fx l
 | [] => by rw [fx_nil, zero_pk (Nat.pow_pos (by have := H.hp.1; omega)), sub_self]; exact dvd_zero Q
 | c :: l => by
  rw [fx_cons, frob_i H, fermat_i H, mul_pk]
  exact cong_add (cong_refl Q _) (cong_mul h (pow_all H h l))
theorem irr_deg (H : P31 p) {Q : Fx p} (hQ : Irr Q) {i : Nat} (hi : 0 < i) (hn : i + 1 < sz Q) : ¬ Q ∣ pk X (p ^ i) - X := fun h => by
 have h2 := H.hp.1
 have hpos : 0 < p := by omega
 have hpi : 2 ≤ p ^ i := Nat.le_trans h2 (by rw [← Nat.pow_one p, ← Nat.pow_mul, Nat.one_mul]; exact Nat.pow_le_pow_right hpos hi)
 have hlt : p ^ i < p ^ (i + 1) := Nat.pow_lt_pow_right (by omega) (by omega)
 obtain ⟨m, hm⟩ : ∃ m, p ^ i = m + 2 := ⟨p ^ i - 2, by omega⟩
 refine roots H hQ (0 :: -1 :: List.replicate m 0) ((List.range (p ^ i + 1)).map fun k => fx (dgt p (i + 1) k)) (by simp [hm]) (fun y hy => ?_) ?_
 ·rw [ev_yy, ← hm]
  obtain ⟨k, _, rfl⟩ := List.mem_map.1 hy
  exact pow_all H h _
 ·refine List.pairwise_map.2 (List.Pairwise.imp_of_mem ?_ List.pairwise_lt_range)
  intro a b ha hb hab hd
  have ha := List.mem_range.1 ha
  have hb := List.mem_range.1 hb
  have h3 := dvd_small H hd (by
   have h4 := sz_sub H.pos (fx (dgt p (i + 1) a) : Fx p) (fx (dgt p (i + 1) b))
   have h5 := sz_list H.pos (dgt p (i + 1) a)
   have h6 := sz_list H.pos (dgt p (i + 1) b)
   rw [dgt_len] at h5 h6
   omega)
  have := dgt_inj hpos (i + 1) a b (by omega) (by omega) (fun j => fx_get (eq_of_sub h3) j)
  omega
end Fx
end Go.El

/- Plain: how a squarefree polynomial modulo p falls into factors. Own work; no condition. -/
namespace Go.El
namespace Fx
variable {p : Nat}
def Sqf (F : Fx p) : Prop := ∀ Q, Irr Q → ¬ Q * Q ∣ F
theorem Sqf.of_dvd {F G : Fx p} (h : Sqf F) (k : G ∣ F) : Sqf G := fun Q hQ hd => h Q hQ (dvd_trans hd k)
theorem dvd_mul_mul {A B C D : Fx p} (h : A ∣ B) (k : C ∣ D) : A * C ∣ B * D := by
 obtain ⟨w, rfl⟩ := h
 obtain ⟨v, rfl⟩ := k
 exact ⟨w * v, by ac_rfl⟩
theorem K_sz (H : P31 p) {c : Int} (h : c % (p : Int) ≠ 0) : sz (K c : Fx p) = 1 := by
 obtain ⟨d, hd⟩ := K_unit H h
 exact inv_unit H hd
theorem dvd_K (H : P31 p) {A : Fx p} (h2 : 2 ≤ sz A) {c : Int} (h : A ∣ K c) : c % (p : Int) = 0 :=
 Classical.byContradiction fun hn => by
  have h1 := dvd_sz H h (K_ne H hn)
  rw [K_sz H hn] at h1; omega
def sepT (p : Nat) (V : Fx p) (s : Int) : Fx p := if p = 2 then V + K s else pk (V + K s) ((p - 1) / 2) - 1
theorem sep (H : P31 p) {F V : Fx p} (h2 : 2 ≤ sz F) (hs : Sqf F) (hV : F ∣ pk V p - V) (hn : ∀ c, ¬ F ∣ V - K c) :
  ∃ s : Nat, s < p ∧ ∃ Q1 Q2, Irr Q1 ∧ Irr Q2 ∧ Q1 ∣ F ∧ Q2 ∣ F ∧ Q1 ∣ sepT p V s ∧ ¬ Q2 ∣ sepT p V s := by
 have hp2 := H.hp.1
 have hF : F ≠ 0 := fun e => by rw [e, sz_zero H.pos] at h2; omega
 obtain ⟨Q1, i1, d1⟩ := irr_ex H _ F (Nat.lt_succ_self _) h2
 obtain ⟨a, ha, da⟩ := const_of H i1 (dvd_trans d1 hV)
 obtain ⟨Q2, i2, d2, n2⟩ : ∃ Q2, Irr Q2 ∧ Q2 ∣ F ∧ ¬ Q2 ∣ V - K (a : Int) := by
  obtain ⟨D, U, U', g1, g2, g3⟩ := bezout H _ F (V - K (a : Int)) (Nat.lt_succ_self _)
  obtain ⟨W, hW⟩ := g1
  have hW0 : W ≠ 0 := fun e => hF (by rw [hW, e, zero_mul])
  have hW1 : sz W ≠ 1 := fun e => hn a (by
   obtain ⟨C, hC⟩ := unit_inv H e
   refine dvd_trans ⟨C, ?_⟩ g2
   rw [hW, ← mul_assoc, hC, one_mul])
  have hW2 := sz_pos H.pos hW0
  obtain ⟨Q2, i2, d2⟩ := irr_ex H _ W (Nat.lt_succ_self _) (by omega)
  have d3 : Q2 ∣ F := by rw [hW]; exact dvd_mul_r d2 D
  refine ⟨Q2, i2, d3, fun hd => hs Q2 i2 ?_⟩
  have d4 : Q2 ∣ D := by rw [g3]; exact dvd_add (dvd_mul_l d3 U) (dvd_mul_l hd U')
  rw [hW]; exact dvd_mul_mul d2 d4
 by_cases e2 : p = 2
 ·have e : (K (((p - a) % p : Nat) : Int) : Fx p) = -K (a : Int) := by
   rw [← K_neg]
   refine K_eq ?_
   rw [Int.natCast_emod, Int.emod_emod, Int.ofNat_sub (by omega), Int.sub_eq_add_neg, Int.add_emod_left]
  refine ⟨(p - a) % p, Nat.mod_lt _ (by omega), Q1, Q2, i1, i2, d1, d2, ?_, ?_⟩
  ·rw [sepT, if_pos e2, e]; exact da
  ·rw [sepT, if_pos e2, e]; exact n2
 ·obtain ⟨b, hb, db⟩ := const_of H i2 (dvd_trans d2 hV)
  let m := (p - 1) / 2
  have hm : 0 < m := by show 0 < (p - 1) / 2; omega
  have key : ∀ {Q : Fx p} {c : Nat} (s : Int), Irr Q → Q ∣ V - K (c : Int) → (Q ∣ sepT p V s ↔ pk (K ((c : Int) + s) : Fx p) m = 1) := by
   intro Q c s hQ hc
   have h1 : Q ∣ (V + K s) - K ((c : Int) + s) := by
    rw [K_add]; exact cong_add hc (cong_refl Q _)
   have h3 := cong_pk h1 m
   rw [sepT, if_neg e2]
   constructor
   ·intro h
    have h4 := dvd_sub_trans (dvd_sub_comm h3) h
    rw [K_pk, ← K_one, ← K_sub] at h4
    have h5 := hQ.not_K H h4
    rw [K_pk, ← K_one]
    exact K_eq (Int.emod_eq_emod_iff_emod_sub_eq_zero.2 h5)
   ·intro h
    rw [h] at h3; exact h3
  refine Classical.byContradiction fun hno => ?_
  have same : ∀ s : Nat, s < p → (pk (K ((a : Int) + s) : Fx p) m = 1 ↔ pk (K ((b : Int) + s) : Fx p) m = 1) := by
   intro s hsp
   constructor
   ·intro h
    refine Classical.byContradiction fun hb' => hno ⟨s, hsp, Q1, Q2, i1, i2, d1, d2, (key s i1 da).2 h, fun h' => hb' ((key s i2 db).1 h')⟩
   ·intro h
    refine Classical.byContradiction fun ha' => hno ⟨s, hsp, Q2, Q1, i2, i1, d2, d1, (key s i2 db).2 h, fun h' => ha' ((key s i1 da).1 h')⟩
  have shift : ∀ u : Int, pk (K u : Fx p) m = 1 → pk (K (u + ((b : Int) - a)) : Fx p) m = 1 := by
   intro u hu
   have h0 := Int.emod_nonneg (u - a) (show (p : Int) ≠ 0 by omega)
   have h1 := Int.emod_lt_of_pos (u - a) (show (0 : Int) < (p : Int) by omega)
   obtain ⟨s, hs'⟩ := Int.eq_ofNat_of_zero_le h0
   have e1 : (K u : Fx p) = K ((a : Int) + s) := by
    refine K_eq ?_
    rw [← hs', Int.add_emod_emod]; congr 1; omega
   have e3 : (K (u + ((b : Int) - a)) : Fx p) = K ((b : Int) + s) := by
    refine K_eq ?_
    rw [← hs', Int.add_emod_emod]; congr 1; omega
   rw [e3]
   exact (same s (by omega)).1 (by rw [← e1]; exact hu)
  have all : ∀ k : Nat, pk (K (1 + (k : Int) * ((b : Int) - a)) : Fx p) m = 1 := by
   intro k
   induction k with
   | zero => rw [Int.natCast_zero, Int.zero_mul, Int.add_zero, K_one, one_pk]
   | succ k ih =>
    have := shift _ ih
    rwa [Int.add_assoc, show (k : Int) * ((b : Int) - a) + ((b : Int) - a) = ((k + 1 : Nat) : Int) * ((b : Int) - a) by rw [Int.natCast_add, Int.add_mul]; simp] at this
  have hd : ((b : Int) - a) % (p : Int) ≠ 0 := fun e => n2 (by
   have e3 : (K (b : Int) : Fx p) = K (a : Int) := K_eq (Int.emod_eq_emod_iff_emod_sub_eq_zero.2 e)
   rw [← e3]; exact db)
  obtain ⟨e, he⟩ := K_unit H hd
  have h0 := Int.emod_nonneg (-e) (show (p : Int) ≠ 0 by omega)
  obtain ⟨k, hk⟩ := Int.eq_ofNat_of_zero_le h0
  have h3 := all k
  have h4 : (K (1 + (k : Int) * ((b : Int) - a)) : Fx p) = 0 := by
   have e5 : (K (k : Int) : Fx p) = -K e := by rw [← K_neg]; exact K_eq (by rw [← hk, Int.emod_emod])
   rw [K_add, K_mul, e5, neg_mul, he, K_one, add_neg]
  rw [h4, zero_pk hm] at h3
  exact one_ne H h3.symm
theorem berl (H : P31 p) {F G : Fx p} (hF : F ≠ 0) (hs : Sqf F) (hG : G ∣ F) (h2 : 2 ≤ sz G) (hw : ∀ w, F ∣ pk w p - w → ∃ c, G ∣ w - K c) : Irr G := by
 have hp2 := H.hp.1
 refine ⟨h2, fun A B e => Classical.byContradiction fun hc => ?_⟩
 have hG0 : G ≠ 0 := fun e => by rw [e, sz_zero H.pos] at h2; omega
 have hA0 : A ≠ 0 := fun e1 => hG0 (by rw [e, e1, zero_mul])
 have hB0 : B ≠ 0 := fun e1 => hG0 (by rw [e, e1, mul_zero])
 have pA := sz_pos H.pos hA0
 have pB := sz_pos H.pos hB0
 have hA2 : 2 ≤ sz A := by
  by_cases h : sz A = 1
  ·exact absurd (.inl h) hc
  ·omega
 have hB2 : 2 ≤ sz B := by
  by_cases h : sz B = 1
  ·exact absurd (.inr h) hc
  ·omega
 obtain ⟨R, hR⟩ := hG
 have eF : F = A * (B * R) := by rw [hR, e]; ac_rfl
 have hco : Co A (B * R) := co_of_irr H hA0 fun Q hQ q1 q2 => hs Q hQ (by rw [eF]; exact dvd_mul_mul q1 q2)
 obtain ⟨U, V, hUV⟩ := hco
 have w0 : A ∣ U * A := dvd_mul_left A U
 have w1 : B * R ∣ U * A - 1 := by
  refine dvd_sub_comm ?_
  rw [← hUV, add_comm, add_sub]; exact dvd_mul_left _ V
 have hwk : F ∣ pk (U * A) p - U * A := by
  rw [eF]
  refine Co.mul_dvd ⟨U, V, hUV⟩ ?_ ?_
  ·refine dvd_sub ?_ w0
   obtain ⟨q, rfl⟩ : ∃ q, p = q + 1 := ⟨p - 1, by omega⟩
   exact dvd_mul_l w0 _
  ·have := cong_pk w1 p
   rw [one_pk] at this
   exact dvd_sub_trans this (dvd_sub_comm w1)
 obtain ⟨c, hcG⟩ := hw _ hwk
 have dA : A ∣ K c := by
  have h1 : A ∣ U * A - K c := dvd_trans (by rw [e]; exact dvd_mul_right A B) hcG
  exact dvd_of_sub (dvd_sub_comm h1) w0
 have dB : B ∣ K (c - 1) := by
  have h1 : B ∣ U * A - K c := dvd_trans (by rw [e]; exact dvd_mul_left B A) hcG
  rw [K_sub, K_one]
  exact dvd_sub_trans (dvd_sub_comm h1) (dvd_trans (dvd_mul_right B R) w1)
 have z1 := dvd_K H hA2 dA
 have z2 := dvd_K H hB2 dB
 have h1 := H.one
 have h3 := Int.sub_emod c (c - 1) p
 rw [z1, z2, show c - (c - 1) = 1 by omega, h1] at h3
 simp at h3
end Fx
end Go.El

/- Plain: derivatives modulo p, the squarefree part, roots of order p; division of monic lists. Own work; no condition. -/
namespace Go.El
def dPS (A : PS) : PS := fun i => ((i : Int) + 1) * A (i + 1)
theorem dPS_cg {p : Int} {A B : PS} (h : Cg p A B) : Cg p (dPS A) (dPS B) := Cg.of fun i => by
 show ((i : Int) + 1) * A (i + 1) % p = ((i : Int) + 1) * B (i + 1) % p
 rw [Int.mul_emod, h.at, ← Int.mul_emod]
theorem dPS_pol {p : Int} {A : PS} (h : Pol p A) : Pol p (dPS A) := by
 obtain ⟨n, h⟩ := h
 exact ⟨n, fun i hi => mul_mod0_r (h (i + 1) (by omega))⟩
def evy (p : Nat) (a : List Int) (k : Nat) : List Int := (List.range k).map fun j => a.getD (j * p) 0
def sprd (p : Nat) (r : List Int) : PS := fun i => if i % p = 0 then r.getD (i / p) 0 else 0
namespace Fx
variable {p : Nat}
def der (A : Fx p) : Fx p := Quotient.liftOn A (fun A => mk (dPS A.1) (dPS_pol A.2)) (fun _ _ h => mk_eq.2 (dPS_cg h))
theorem der_add (x y : Fx p) : der (x + y) = der x + der y := by
 obtain ⟨A, h, rfl⟩ := ex x; obtain ⟨B, k, rfl⟩ := ex y
 exact mk_congr (PS.ext fun i => by show ((i : Int) + 1) * (A (i + 1) + B (i + 1)) = _; rw [Int.mul_add]; rfl) _ _
theorem der_K (c : Int) : der (K c : Fx p) = 0 := mk_congr (PS.ext fun i => by
 show ((i : Int) + 1) * PS.K c (i + 1) = 0
 rw [PS.K, if_neg (by omega), Int.mul_zero]) _ _
theorem der_zero : der (0 : Fx p) = 0 := by
 have h := der_K (p := p) 0
 rwa [K_zero] at h
theorem der_Kmul (c : Int) (x : Fx p) : der (K c * x) = K c * der x := by
 obtain ⟨A, h, rfl⟩ := ex x
 exact mk_congr (PS.ext fun i => by
  show ((i : Int) + 1) * (PS.K c * A) (i + 1) = (PS.K c * dPS A) i
  rw [PS.K_mul, PS.K_mul, dPS, Int.mul_left_comm]) (dPS_pol ((Pol.K p c).mul h)) ((Pol.K p c).mul (dPS_pol h))
theorem der_Xmul (x : Fx p) : der (X * x) = x + X * der x := by
 obtain ⟨A, h, rfl⟩ := ex x
 exact mk_congr (PS.ext fun i => by
  show ((i : Int) + 1) * (PS.X 1 * A) (i + 1) = A i + (PS.X 1 * dPS A) i
  rw [PS.X_mul, PS.X_mul, if_pos (by omega), Nat.add_sub_cancel]
  cases i with
  | zero => simp
  | succ i =>
   rw [if_pos (by omega), Nat.add_sub_cancel, dPS, Int.add_mul, Int.one_mul, Int.add_comm]; rfl) (dPS_pol ((Pol_X 1).mul h)) (h.add ((Pol_X 1).mul (dPS_pol h)))
theorem der_mul' (B : Fx p) : ∀ a : List Int, der (fx a * B) = der (fx a) * B + fx a * der B
 | [] => by rw [fx_nil, zero_mul, der_zero, zero_mul, zero_mul, zero_add]
 | c :: a => by
  have ih := der_mul' B a
  rw [fx_cons, add_mul, der_add, der_Kmul, mul_assoc, der_Xmul, ih, der_add, der_K, zero_add, der_Xmul]
  simp only [add_mul, mul_add]
  ac_rfl
theorem der_mul (H : P31 p) (A B : Fx p) : der (A * B) = der A * B + A * der B := by
 obtain ⟨a, _, rfl⟩ := rep H.pos A
 exact der_mul' B a
theorem der_pk (H : P31 p) (Q : Fx p) : ∀ e, pk Q e ∣ der (pk Q (e + 1))
 | 0 => ⟨der (pk Q 1), (mul_one _).symm⟩
 | e + 1 => by
  show pk Q e * Q ∣ der (pk Q (e + 1) * Q)
  rw [der_mul H]
  exact dvd_add (dvd_mul_mul (der_pk H Q e) (dvd_refl Q)) (dvd_mul_right _ _)
theorem der_sz (H : P31 p) (A : Fx p) : sz (der A) ≤ sz A - 1 := by
 obtain ⟨a, ha, rfl⟩ := rep H.pos A
 rw [sz_fx ha]
 exact sz_lt H.pos (dPS_pol (Pol.ps p a)) (fun i hi => mul_mod0_r (Dl_ps (p : Int) a (i + 1) (by omega)))
theorem mult (H : P31 p) {Q : Fx p} (hQ : Irr Q) : ∀ (n : Nat) (F : Fx p), sz F < n → F ≠ 0 → ∃ e h, F = pk Q e * h ∧ ¬ Q ∣ h
 | 0, _, h, _ => by omega
 | n + 1, F, h, hF => by
  by_cases hd : Q ∣ F
  ·obtain ⟨w, rfl⟩ := hd
   have hw : w ≠ 0 := fun e => hF (by rw [e, zero_mul])
   have h1 := sz_mul H hw (hQ.ne H)
   have h2 := hQ.1
   obtain ⟨e, g, rfl, h3⟩ := mult H hQ n w (by omega) hw
   exact ⟨e + 1, g, by rw [pk]; ac_rfl, h3⟩
  ·exact ⟨0, F, (one_mul F).symm, hd⟩
theorem pk_ne (H : P31 p) {Q : Fx p} (hQ : Q ≠ 0) : ∀ e, pk Q e ≠ 0
 | 0 => one_ne H
 | e + 1 => mul_ne H (pk_ne H hQ e) hQ
theorem sqf_part (H : P31 p) {F D W U V : Fx p} (hF : F ≠ 0) (hW : F = W * D) (hD : D = U * F + V * der F) : Sqf W := by
 intro Q hQ hd
 obtain ⟨e, h, e1, e2⟩ := mult H hQ _ F (Nat.lt_succ_self _) hF
 cases e with
 | zero =>
  refine e2 ?_
  have e1 : F = 1 * h := e1
  rw [one_mul] at e1
  rw [← e1, hW]
  exact dvd_mul_r (dvd_trans (dvd_mul_left Q Q) hd) D
 | succ e =>
  have h1 : pk Q e ∣ F := by rw [e1, pk]; exact dvd_mul_r (dvd_mul_right _ _) h
  have h2 : pk Q e ∣ der F := by
   rw [e1, der_mul H]
   exact dvd_add (dvd_mul_r (der_pk H Q e) h) (dvd_mul_r (by rw [pk]; exact dvd_mul_right _ _) (der h))
  have h3 : pk Q e ∣ D := by rw [hD]; exact dvd_add (dvd_mul_l h1 U) (dvd_mul_l h2 V)
  have h4 : Q * Q * pk Q e ∣ F := by rw [hW]; exact dvd_mul_mul hd h3
  obtain ⟨v, hv⟩ := h4
  refine e2 ⟨v, ?_⟩
  refine mul_cancel H (pk_ne H (hQ.ne H) (e + 1)) ?_
  rw [mul_comm h, ← e1, hv, pk]; ac_rfl
theorem pk_X : ∀ n, pk (X : Fx p) n = mk (PS.X n) (Pol_X n)
 | 0 => rfl
 | n + 1 => by
  rw [pk, pk_X n]
  exact mk_congr (PS.X_add n 1).symm ((Pol_X n).mul (Pol_X 1)) (Pol_X (n + 1))
theorem sprd_pol (hp : 0 < p) (r : List Int) : Pol p (sprd p r) := ⟨r.length * p, fun i hi => by
 unfold sprd
 split
 ·rw [getD_ge r ((Nat.le_div_iff_mul_le hp).2 hi), Int.zero_emod]
 ·exact Int.zero_emod _⟩
theorem pk_sprd (H : P31 p) (hp : 0 < p) : ∀ r : List Int, pk (fx r) p = mk (sprd p r) (sprd_pol hp r)
 | [] => by
  rw [fx_nil, zero_pk hp]
  exact mk_congr (PS.ext fun i => by unfold sprd; split <;> rfl) (Pol.zero p) _
 | c :: r => by
  rw [fx_cons, frob H, fermat H, mul_pk, pk_sprd H hp r, pk_X]
  refine mk_congr (PS.ext fun i => ?_) ((Pol.K p c).add ((Pol_X p).mul (sprd_pol hp r))) _
  rw [PS.add_at, PS.X_mul]
  by_cases h : p ≤ i
  ·obtain ⟨j, rfl⟩ : ∃ j, i = j + p := ⟨i - p, by omega⟩
   rw [if_pos h, Nat.add_sub_cancel, PS.K, if_neg (by omega), Int.zero_add]
   unfold sprd
   rw [Nat.add_mod_right, Nat.add_div_right _ hp]; rfl
  ·rw [if_neg h, Int.add_zero, PS.K]
   unfold sprd
   rw [Nat.mod_eq_of_lt (by omega), Nat.div_eq_of_lt (by omega)]; rfl
theorem pth (H : P31 p) {a : List Int} (h : der (fx a : Fx p) = 0) {k : Nat} (hk : a.length ≤ k * p) : (fx a : Fx p) = pk (fx (evy p a k)) p := by
 have hp : 0 < p := by have := H.hp.1; omega
 have h0 := mk_eq.1 (h : mk (dPS (ps a)) (dPS_pol (Pol.ps p a)) = mk 0 (Pol.zero p))
 rw [pk_sprd H hp]
 refine mk_eq.2 (Cg.of fun i => ?_)
 unfold sprd
 by_cases e : i % p = 0
 ·rw [if_pos e]
  congr 1
  have e2 : i / p * p = i := by have := Nat.div_add_mod i p; rw [Nat.mul_comm]; omega
  unfold evy
  by_cases e3 : i / p < k
  ·rw [List.getD_eq_getElem?_getD, List.getElem?_map, List.getElem?_range e3]
   show _ = a.getD (i / p * p) 0
   rw [e2]; rfl
  ·rw [getD_ge (List.map _ _) (by simp; omega), ps_at, getD_ge a]
   have : k * p ≤ i / p * p := Nat.mul_le_mul_right p (by omega)
   omega
 ·rw [if_neg e, Int.zero_emod]
  cases i with
  | zero => rw [Nat.zero_mod] at e; exact absurd rfl e
  | succ i =>
   have h1 := h0.at i
   rw [PS.zero_at, Int.zero_emod] at h1
   refine Classical.byContradiction fun hn => ?_
   refine H.hp.mul_ne (a := (i : Int) + 1) (fun h2 => e ?_) hn h1
   have : ((i + 1 : Nat) : Int) % (p : Int) = 0 := by rw [Int.natCast_add]; exact h2
   omega
structure Mon (p : Nat) (a : List Int) : Prop where
 c : pcan p a
 ne : a ≠ []
 one : a.getD (a.length - 1) 0 = 1
theorem Mon.pos {a : List Int} (h : Mon p a) : 1 ≤ a.length := List.length_pos_iff.2 h.ne
theorem Mon.fne (H : P31 p) {a : List Int} (h : Mon p a) : (fx a : Fx p) ≠ 0 := fun e => by
 rw [← fx_nil] at e
 exact h.ne (fx_inj h.c (pcan_nil H.pos) e)
theorem quo_mon (H : P31 p) {a b : List Int} (ha : Mon p a) (hb : Mon p b) (hl : b.length ≤ a.length) : Mon p (pdivide a b p).1 := by
 obtain ⟨d1, d2, d3, d4, d5, d6⟩ := pdiv_ok H.hp H.le ha.c.1 hb.c hb.ne
 have pb := hb.pos
 obtain ⟨n, hn⟩ : ∃ n, b.length = n + 1 := ⟨b.length - 1, by omega⟩
 obtain ⟨m, hm⟩ : ∃ m, a.length = m + n + 1 := ⟨a.length - 1 - n, by omega⟩
 have hq : (pdivide a b p).1.length = m + 1 := by omega
 have dq := Dl_ps (p : Int) (pdivide a b p).1
 have db := Dl_ps (p : Int) b
 rw [hq] at dq
 rw [hn] at db
 have h1 := d1.at (m + n)
 have ha1 := ha.one
 have hb1 := hb.one
 rw [hm, Nat.add_sub_cancel] at ha1
 rw [hn, Nat.add_sub_cancel] at hb1
 have hr : (ps (pdivide a b p).2) (m + n) = 0 := by rw [ps_at]; exact getD_ge _ (by omega)
 rw [PS.add_at, hr, Int.add_zero, dq.top db, ps_at, ps_at, ps_at, ha1, hb1, Int.mul_one] at h1
 have h2 := d2 m
 rw [H.one, Int.emod_eq_of_lt h2.1 h2.2] at h1
 have ht : (pdivide a b p).1.getD ((pdivide a b p).1.length - 1) 0 = 1 := by rw [hq, Nat.add_sub_cancel]; exact h1.symm
 refine ⟨⟨d2, .inr (by rw [ht]; decide)⟩, fun e => by rw [e] at hq; simp at hq, ht⟩
theorem rem_iff (H : P31 p) {a b : List Int} (ha : pcan p a) (hb : pcan p b) (hb0 : b ≠ []) : (pdivide a b p).2 = [] ↔ (fx b : Fx p) ∣ fx a := by
 obtain ⟨d1, d2, d3, d4, d5, d6⟩ := pdiv_ok H.hp H.le ha.1 hb hb0
 have e : (fx a : Fx p) = fx (pdivide a b p).1 * fx b + fx (pdivide a b p).2 := mk_eq.2 d1
 have pb := List.length_pos_iff.2 hb0
 constructor
 ·intro h
  rw [e, h, fx_nil, add_zero]; exact dvd_mul_left _ _
 ·intro h
  rw [e] at h
  have h1 := dvd_small H (dvd_of_add h (dvd_mul_left _ _)) (by rw [sz_fx (d5 ha), sz_fx hb]; omega)
  rw [← fx_nil] at h1
  exact fx_inj (d5 ha) (pcan_nil H.pos) h1
theorem quo_eq (H : P31 p) {a b : List Int} (ha : pcan p a) (hb : pcan p b) (hb0 : b ≠ []) (h : (fx b : Fx p) ∣ fx a) : (fx a : Fx p) = fx (pdivide a b p).1 * fx b := by
 obtain ⟨d1, d2, d3, d4, d5, d6⟩ := pdiv_ok H.hp H.le ha.1 hb hb0
 have e : (fx a : Fx p) = fx (pdivide a b p).1 * fx b + fx (pdivide a b p).2 := mk_eq.2 d1
 rwa [(rem_iff H ha hb hb0).2 h, fx_nil, add_zero] at e
theorem rem_cong (H : P31 p) {a b : List Int} (ha : pcan p a) (hb : pcan p b) (hb0 : b ≠ []) : (fx b : Fx p) ∣ fx (pdivide a b p).2 - fx a := by
 obtain ⟨d1, _⟩ := pdiv_ok H.hp H.le ha.1 hb hb0
 have e : (fx a : Fx p) = fx (pdivide a b p).1 * fx b + fx (pdivide a b p).2 := mk_eq.2 d1
 refine dvd_sub_comm ?_
 rw [e, add_sub]; exact dvd_mul_left _ _
theorem gcdL_fx (H : P31 p) : ∀ (k : Nat) (f g : List Int), pcan p f → pcan p g → g.length < k → (fx (gcdL p k f g) : Fx p) ∣ fx f ∧ (fx (gcdL p k f g) : Fx p) ∣ fx g ∧ ∃ U V, (fx (gcdL p k f g) : Fx p) = U * fx f + V * fx g
 | 0, _, _, _, _, h => by omega
 | k + 1, f, g, hf, hg, h => by
  rw [gcdL]
  split
  ·rename_i e
   subst e
   exact ⟨dvd_refl _, by rw [fx_nil]; exact dvd_zero _, 1, 0, by rw [one_mul, zero_mul, add_zero]⟩
  ·rename_i e
   obtain ⟨d1, d2, d3, d4, d5, d6⟩ := pdiv_ok H.hp H.le hf.1 hg e
   have hl := List.length_pos_iff.2 e
   have e1 : (fx f : Fx p) = fx (pdivide f g p).1 * fx g + fx (pdivide f g p).2 := mk_eq.2 d1
   obtain ⟨i1, i2, U, V, i3⟩ := gcdL_fx H k g (pdivide f g p).2 hg (d5 hf) (by omega)
   refine ⟨by rw [e1]; exact dvd_add (dvd_mul_l i1 _) i2, i1, V, U - V * fx (pdivide f g p).1, ?_⟩
   rw [i3, e1, mul_add, sub_mul]
   have : V * (fx (pdivide f g p).1 * fx g) + V * fx (pdivide f g p).2 + (U * fx g - V * fx (pdivide f g p).1 * fx g) = (U * fx g - V * fx (pdivide f g p).1 * fx g + V * fx (pdivide f g p).1 * fx g) + V * fx (pdivide f g p).2 := by ac_rfl
   rw [this, sub_add]
theorem monicL_fx (H : P31 p) {a : List Int} (ha : pcan p a) (h0 : a ≠ []) : Mon p (monicL p a) ∧ (monicL p a).length = a.length ∧ (fx (monicL p a) : Fx p) ∣ fx a ∧ (∃ c, (fx (monicL p a) : Fx p) = K c * fx a) ∧ (fx a : Fx p) = K (a.getD (a.length - 1) 0) * fx (monicL p a) := by
 obtain ⟨m1, m2, m3, m4, m5⟩ := monicL_ok H.hp H.le ha h0
 have hl := List.length_pos_iff.2 h0
 have e : (fx a : Fx p) = K (a.getD (a.length - 1) 0) * fx (monicL p a) := by
  rw [mul_comm]; exact mk_eq.2 m5
 refine ⟨⟨m1, fun e => by rw [e] at m2; simp at m2; omega, by rw [m2]; exact m3⟩, m2, ⟨_, e⟩, ⟨((invM (a.getD (a.length - 1) 0).toNat ((p : Nat) : Int).toNat : Nat) : Int), ?_⟩, e⟩
 rw [mul_comm]; exact mk_eq.2 m4
theorem gcdP_fx (H : P31 p) {f g : List Int} (hf : pcan p f) (hg : pcan p g) (hf0 : f ≠ []) : Mon p (gcdP p f g) ∧ (fx (gcdP p f g) : Fx p) ∣ fx f ∧ (fx (gcdP p f g) : Fx p) ∣ fx g ∧ ∃ U V, (fx (gcdP p f g) : Fx p) = U * fx f + V * fx g := by
 obtain ⟨h1, h2, U, V, h3⟩ := gcdL_fx H (g.length + 1) f g hf hg (Nat.lt_succ_self _)
 obtain ⟨k1, _, _⟩ := gcdL_ok H.hp H.le (g.length + 1) f g hf hg (Nat.lt_succ_self _)
 have h0 : gcdL p (g.length + 1) f g ≠ [] := fun e => by
  rw [e, fx_nil] at h1
  obtain ⟨w, hw⟩ := h1
  rw [mul_zero, ← fx_nil] at hw
  exact hf0 (fx_inj hf (pcan_nil H.pos) hw)
 obtain ⟨m1, m2, m3, ⟨c, m4⟩, _⟩ := monicL_fx H k1 h0
 exact ⟨m1, dvd_trans m3 h1, dvd_trans m3 h2, K c * U, K c * V, by rw [gcdP, m4, h3, mul_add, mul_assoc, mul_assoc]⟩
end Fx
end Go.El

/- The engine, part 44: slices of slices: families of vectors; other ids; cells that hold vectors. Own work; no condition. -/
namespace Go.El
open Go Go.RowKit
section
variable {P : Program} {tt : TT}
theorem rg_runs2 {n : Nat} {ops : Array Oper} {draw : Bool} {nx : Nat} {Q : St → Prop} (htt : ttB P tt = true) : ∀ (os os2 : List Oper) (i : Nat) (st : St) (p : Pr) (ks : List Ks) {i' : Nat} {st' : St} {p' : Pr} {ks' : List Ks},
  runs tt n nx draw ops.toList os i st p ks = ([], i', st', p', ks') → p'.h → (RG P n ops draw nx i' os2 st' ks' Q) → p.h ∧ RG P n ops draw nx i (os ++ os2) st ks Q
 | [], os2, i, st, p, ks, i', st', p', ks', h, hp, hr => by
  simp only [runs, Prod.mk.injEq] at h
  obtain ⟨_, rfl, rfl, rfl, rfl⟩ := h
  exact ⟨hp, hr⟩
 | o :: os, os2, i, st, p, ks, i', st', p', ks', h, hp, hr => by
  simp only [runs] at h
  split at h
  ·rename_i st1 q k hs
   obtain ⟨h12, h3⟩ := rg_runs2 htt os os2 (i + 1) st1 (.an p q) (addK draw ks k) h hp hr
   obtain ⟨h1, h2⟩ := Pr.an_h h12
   exact ⟨h1, rg_step htt hs h2 (rg_addK h3)⟩
  ·simp only [Prod.mk.injEq] at h
   obtain ⟨h0, _⟩ := h
   cases h0
theorem rg_runK {n : Nat} {ops : Array Oper} {draw : Bool} {nx i : Nat} {os : List Oper} {st : St} {ks : List Ks} {Q : St → Prop} {i' : Nat} {st' : St} {p' : Pr} {ks' : List Ks} (htt : ttB P tt = true) (k : Nat)
  (h : runs tt n nx draw ops.toList (os.take k) i st .t ks = ([], i', st', p', ks')) (hp : p') {o : Oper} {os' : List Oper} (hos : os.drop k = o :: os') (hr : RG P n ops draw nx i' (o :: os') st' ks' Q) : RG P n ops draw nx i os st ks Q := by
 have := (rg_runs2 htt (os.take k) (os.drop k) i st .t ks h hp (by rw [hos]; exact hr)).2
 rwa [List.take_append_drop] at this
theorem rg_ldC {n : Nat} {ops : Array Oper} {draw : Bool} {nx i : Nat} {d : Nat} {t : TypeId} {x : Operand} {ty : TypeId} {pos : String} {aft : Array Edge} {os : List Oper} {sl : List (Nat × AV)} {mem : List (Nat × Blk)} {n0 : Nat} {gd : List (Nat × Bool)} {ks : List Ks} {Q : St → Prop} (htt : ttB P tt = true)
  {id off : Nat} {E : TypeId} {bz : Nat} {cs : List C} {c : C} (hx : St.ev ⟨sl, mem, n0, gd⟩ x = some (.c (.P id off))) (hl : lookA id mem = some (.box E bz cs)) (hc : cs[off]? = some c) (hts : tySz tt t = some (1, false))
  (h : RG P n ops draw nx (i + 1) os ⟨(d, .c c) :: sl, mem, n0, gd⟩ (addK draw ks (okeys [x] ++ mkeys [id], [.s d])) Q) (hdn : Nat.blt d n = true := by rfl) :
  RG P n ops draw nx i (⟨some d, .load t x, ty, pos, aft, none⟩ :: os) ⟨sl, mem, n0, gd⟩ ks Q := by
 have hdn : d < n := Nat.le_of_ble_eq_true hdn
 refine rg_step (p := .t) htt (st1 := ⟨(d, .c c) :: sl, mem, n0, gd⟩) (k := (okeys [x] ++ mkeys [id], [.s d])) ?_ trivial (rg_addK h)
 simp only [step1, step0, hdn, if_true, hx, ldA, hts, hl, partA, Bool.false_eq_true, if_false, hc, Option.map_some]
theorem rg_idxX {n : Nat} {ops : Array Oper} {draw : Bool} {nx i : Nat} {d : Nat} {t : TypeId} {x y : Operand} {ty : TypeId} {pos : String} {aft : Array Edge} {os : List Oper} {sl : List (Nat × AV)} {mem : List (Nat × Blk)} {n0 : Nat} {gd : List (Nat × Bool)} {ks : List Ks} {Q : St → Prop} (htt : ttB P tt = true)
  {id : Nat} {E : TypeId} {T : ET} {xs : List T.den} {k : IntKind} {j : Int} (hx : St.ev ⟨sl, mem, n0, gd⟩ x = some (.c (.X id))) (hl : lookA id mem = some (.vec E T xs)) (hy : St.ev ⟨sl, mem, n0, gd⟩ y = some (.c (.I k j))) (hst : slTy tt t T.n = true) (h0 : 0 ≤ j) (h1 : j < xs.length)
  (h : RG P n ops draw nx (i + 1) os ⟨(d, .c (.Y id T.n j.toNat 0)) :: sl, mem, n0, gd⟩ (addK draw ks (okeys [x, y] ++ mkeys [id], [.s d])) Q) (hdn : Nat.blt d n = true := by rfl) :
  RG P n ops draw nx i (⟨some d, .indexAddr t x y, ty, pos, aft, none⟩ :: os) ⟨sl, mem, n0, gd⟩ ks Q := by
 have hdn : d < n := Nat.le_of_ble_eq_true hdn
 refine rg_step (p := .and (.le 0 j) (.lt j xs.length)) htt (st1 := ⟨(d, .c (.Y id T.n j.toNat 0)) :: sl, mem, n0, gd⟩) (k := (okeys [x, y] ++ mkeys [id], [.s d])) ?_ ⟨h0, h1⟩ (rg_addK h)
 simp only [step1, step0, hdn, if_true, hx, hy, idxX, hl, hst]
theorem rg_ldY {n : Nat} {ops : Array Oper} {draw : Bool} {nx i : Nat} {d : Nat} {t : TypeId} {x : Operand} {ty : TypeId} {pos : String} {aft : Array Edge} {os : List Oper} {sl : List (Nat × AV)} {mem : List (Nat × Blk)} {n0 : Nat} {gd : List (Nat × Bool)} {ks : List Ks} {Q : St → Prop} (htt : ttB P tt = true)
  {id m j off : Nat} {E : TypeId} {T : ET} {xs : List T.den} {sz : Nat} {ag : Bool} {y : AV} (hx : St.ev ⟨sl, mem, n0, gd⟩ x = some (.c (.Y id m j off))) (hl : lookA id mem = some (.vec E T xs)) (hm : T.n = m) (hts : tySz tt t = some (sz, ag)) (hp : partA (av T (xs.getD j T.dflt)) off sz ag = some y) (hj : j < xs.length)
  (h : RG P n ops draw nx (i + 1) os ⟨(d, y) :: sl, mem, n0, gd⟩ (addK draw ks (okeys [x] ++ mkeys [id], [.s d])) Q) (hdn : Nat.blt d n = true := by rfl) :
  RG P n ops draw nx i (⟨some d, .load t x, ty, pos, aft, none⟩ :: os) ⟨sl, mem, n0, gd⟩ ks Q := by
 have hdn : d < n := Nat.le_of_ble_eq_true hdn
 refine rg_step (p := .ltN j xs.length) htt (st1 := ⟨(d, y) :: sl, mem, n0, gd⟩) (k := (okeys [x] ++ mkeys [id], [.s d])) ?_ hj (rg_addK h)
 simp only [step1, step0, hdn, if_true, hx, ldA, hts, hl, hm, hp]
theorem evalL_ok (htt : ttB P tt = true) {n new : Nat} {ops : Array Oper} {i : Nat} {o : Oper} (ho : ops[i]? = some o) (hg : o.guard = none) {d : Nat} (hd : o.dst = some d) (hdn : d < n) {st : St} {x : AV} {p : Pr} (he : evalL tt st o.op = some (x, p)) (hp : p) : StepOk P n ops i st (st.put d x) new (okeys o.op.operands.toList, [.s d]) := by
 refine ⟨rdV st o.op, [(.s d, some (.v x))], evalL_sound htt ho hg hd hdn he hp new, ?_, kn_put st d x, okeys_opd st _, fun k hk => by simpa [keysOf] using hk⟩
 intro kx hkx
 obtain ⟨x, _, h⟩ := List.mem_flatMap.1 hkx
 exact opd_kn st x kx h
theorem rg_evalL {n : Nat} {ops : Array Oper} {draw : Bool} {nx i : Nat} {d : Nat} {op : Op} {ty : TypeId} {pos : String} {aft : Array Edge} {os : List Oper} {sl : List (Nat × AV)} {mem : List (Nat × Blk)} {n0 : Nat} {gd : List (Nat × Bool)} {ks : List Ks} {Q : St → Prop} (htt : ttB P tt = true) {x : AV} {p : Pr} (he : evalL tt ⟨sl, mem, n0, gd⟩ op = some (x, p)) (hp : p)
  (h : RG P n ops draw nx (i + 1) os ⟨(d, x) :: sl, mem, n0, gd⟩ (addK draw ks (okeys op.operands.toList, [.s d])) Q) (hdn : Nat.blt d n = true := by rfl) :
  RG P n ops draw nx i (⟨some d, op, ty, pos, aft, none⟩ :: os) ⟨sl, mem, n0, gd⟩ ks Q :=
 rg_ok (fun ho => evalL_ok htt ho rfl rfl (Nat.le_of_ble_eq_true hdn) he hp) (rg_addK h)
theorem rg_makeL {n : Nat} {ops : Array Oper} {draw : Bool} {nx i : Nat} {d t : Nat} {x : Operand} {ty : TypeId} {pos : String} {aft : Array Edge} {os : List Oper} {sl : List (Nat × AV)} {mem : List (Nat × Blk)} {n0 : Nat} {gd : List (Nat × Bool)} {ks : List Ks} {Q : St → Prop} (htt : ttB P tt = true)
  (m : Nat) {k : IntKind} (hx : St.ev ⟨sl, mem, n0, gd⟩ x = some (.c (.I k (m : Int)))) {E : Nat} {ti ei : TI} (hti : lookA t tt = some ti) (hk : ti.kind = .sl E) (hei : lookA E tt = some ei) (hpos : 0 < ei.size) (hb : m * ei.bytes ≤ 16777216) (hb2 : m ≤ 16777216)
  (h : RG P n ops draw nx (i + 1) os ⟨(d, .c (.L (1000000 * nx + 1000 * i) 0 m (some m))) :: sl, (1000000 * nx + 1000 * i, .box E 0 (flatRep (ei.zero.map ZV.toC) m)) :: mem, n0, gd⟩ (addK draw ks (okeys [x, x], [.s d, .m (1000000 * nx + 1000 * i)])) Q) (hdn : Nat.blt d n = true := by rfl) :
  RG P n ops draw nx i (⟨some d, .makeSlice t x x, ty, pos, aft, none⟩ :: os) ⟨sl, mem, n0, gd⟩ ks Q := by
 refine rg_ok (fun ho => ⟨_, _, makeL_sound htt ho rfl rfl (Nat.le_of_ble_eq_true hdn) rfl hx hx hti hk hei hpos hb hb2 _, ?_, kn_put_pm ⟨sl, mem, n0, gd⟩ d _ _ _, fun k hk => okeys_opd ⟨sl, mem, n0, gd⟩ [x, x] k hk, fun k hk => by simpa [keysOf] using hk⟩) (rg_addK h)
 intro kx hkx
 obtain ⟨x, _, h⟩ := List.mem_flatMap.1 hkx
 exact opd_kn _ x kx h
theorem storeX_sound (htt : ttB P tt = true) {ops : Array Oper} {i : Nat} {o : Oper} (ho : ops[i]? = some o) (hg : o.guard = none) (hd : o.dst = none) {n : Nat} {t : TypeId} {x y : Operand} (hop : o.op = .store t x y)
  {st : St} {id off j : Nat} {E : TypeId} {bz : Nat} {cs : List C} {E2 : TypeId} {T : ET} {xs : List T.den} (hx : st.ev x = some (.c (.P id off))) (hy : st.ev y = some (.c (.X j))) (hl : lookA id st.mem = some (.box E bz cs)) (hj : lookA j st.mem = some (.vec E2 T xs)) {ag : Bool} (hts : tySz tt t = some (1, ag)) (h1 : off < cs.length) (new : Nat) :
  StepS P n ops i (opd st x ++ opd st y ++ mrd st [id, j]) [(.m id, some (.b (.box E bz (over cs [.X j] off))))] new := by
 intro F hFn Q known σ g W a K hnew hsem hrd hK
 have hrx := ev_rel hsem st x _ hx (fun kx hkx => hrd kx (by simp [hkx]))
 have hry := ev_rel hsem st y _ hy (fun kx hkx => hrd kx (by simp [hkx]))
 have hmy := ev_mids hsem st y _ hy (fun kx hkx => hrd kx (by simp [hkx]))
 have hσ : σ (.m id) = some (.b (.box E bz cs)) := hrd (.m id, .b (.box E bz cs)) (by simp [mrd, hl])
 have hσj : σ (.m j) = some (.b (.vec E2 T xs)) := hrd (.m j, .b (.vec E2 T xs)) (by simp [mrd, hj])
 obtain ⟨b, vs, rest, hγ, hh, hr, hN, hz, hcp⟩ := hsem.blks id _ hσ
 have hrj := hsem.blks j _ hσj
 obtain ⟨b', hγ', hv⟩ := hrx
 rw [hγ] at hγ'
 simp only [Option.some.injEq] at hγ'
 subst hγ'
 have hyv : a.eval y = g.γ j := hry
 have hone : oneB (a.eval y) = true := by
  rw [hyv]
  rcases hrj with ⟨e, _⟩ | ⟨_, _, _, e, _⟩ <;> rw [e] <;> rfl
 have hcells : (a.eval y).cells = [a.eval y].toArray := by
  rw [hyv]
  rcases hrj with ⟨e, _⟩ | ⟨_, _, _, e, _⟩ <;> rw [e] <;> rfl
 have hrw : RelL g [.X j] [a.eval y] := ⟨_, _, rfl, hry, rfl⟩
 obtain ⟨_, ⟨ti, hti, htsz⟩, _⟩ := tySz_ok htt hts
 have hlenv := hr.length
 have hrun : (Instr.storeAt t (a.eval x) (a.eval y)).run P W = .ok () (setBlk W b (over (vs ++ rest) [a.eval y] off) E) := by
  rw [hv]
  simp only [Instr.storeAt, Instr.sureAddr, storeVar, Sem.run_bind, Sem.run_pure, Result.andThen, run_sizeOf hti, hcells]
  have : ¬ ([a.eval y].toArray.size ≠ ti.size) := by simp; omega
  simp only [this, if_false]
  have := run_storeCells (P := P) b [a.eval y] W (vs ++ rest) off 0 hh (by simp; omega) (by simpa using hone)
  simp only [Nat.add_zero] at this
  simpa using this
 unfold wpOp
 simp only [ho, Region.wanted, hg, if_true]
 refine .inl ?_
 unfold Oper.wp
 have hex : (execOp a.eval o).run P W = .ok .skip (setBlk W b (over (vs ++ rest) [a.eval y] off) E) := by
  rw [execOp, hop]
  simp [hrun, Sem.run, pure]
 rw [hex]
 simp only [Oper.upon, hd, Act.put]
 have hb : b < W.heap.size := (Array.getElem?_eq_some_iff.1 hh).1
 refine hK g _ a (hsem.step (chg := fun j => j = id) (g' := g) ⟨⟨FLe.refl _, fun _ _ => rfl⟩, fun _ _ _ => rfl, Sub_setBlk hsem.sub hz, by simp [setBlk], ?_, rfl, rfl, rfl⟩ _ new hnew rfl hsem.defers (fun _ _ => rfl) ?_ ?_ ?_ ?_ ?_)
 ·intro k hk hne
  have : b ≠ k := fun e => hne id rfl (by rw [hγ, e])
  exact setBlk_ne this
 ·intro j hj
  subst hj
  exact ⟨by simp [says], _, hσ⟩
 ·intro t' v' ht; simp [says] at ht
 ·intro q bk hq
  simp only [says] at hq
  split at hq
  ·rename_i e
   simp only [Key.m.injEq] at e
   subst e
   simp only [Option.some.injEq, Info.b.injEq] at hq
   subst hq
   have hov : over (vs ++ rest) [a.eval y] off = over vs [a.eval y] off ++ rest := over_app vs rest _ off (by simp; omega)
   exact ⟨⟨b, over vs [a.eval y] off, rest, hγ, by rw [setBlk_at hb, hov], hr.over hrw off, hN, hz, fun h0 => by
    obtain ⟨c, e1, e2⟩ := hcp h0
    refine ⟨c, e1, ?_⟩
    rw [← hov, over_length _ _ _ (by simp; omega)]; exact e2⟩, .inl ⟨hsem.mkn _ _ hσ, _, hσ⟩⟩
  ·simp at hq
 ·intro k z hz'
  simp only [says] at hz'
  split at hz'
  ·simp only [Option.some.injEq] at hz'
   subst hz'
   intro q hq
   rcases midsL_over _ _ _ q hq with h | h
   ·exact .inl (hsem.mids _ _ hσ q h)
   ·exact .inl (hmy q (by simpa [midsL, AV.mids] using h))
  ·simp at hz'
 ·intro q z hz'
  simp only [says] at hz'
  split at hz'
  ·rename_i e
   simp only [Key.m.injEq] at e
   subst e
   exact .inl (hsem.mkn _ _ hσ)
  ·simp at hz'
theorem over_one {α : Type} (vs : List α) (u : α) (off : Nat) (h : off < vs.length) : over vs [u] off = vs.set off u := by
 unfold over
 rw [List.set_eq_take_append_cons_drop, if_pos h, List.append_assoc]; rfl
theorem rg_stX {n : Nat} {ops : Array Oper} {draw : Bool} {nx i : Nat} {t : TypeId} {x y : Operand} {ty : TypeId} {pos : String} {aft : Array Edge} {os : List Oper} {sl : List (Nat × AV)} {mem : List (Nat × Blk)} {n0 : Nat} {gd : List (Nat × Bool)} {ks : List Ks} {Q : St → Prop} (htt : ttB P tt = true)
  {id off j : Nat} {E : TypeId} {bz : Nat} {cs : List C} {E2 : TypeId} {T : ET} {xs : List T.den} (hx : St.ev ⟨sl, mem, n0, gd⟩ x = some (.c (.P id off))) (hy : St.ev ⟨sl, mem, n0, gd⟩ y = some (.c (.X j))) (hl : lookA id mem = some (.box E bz cs)) (hj : lookA j mem = some (.vec E2 T xs)) {ag : Bool} (hts : tySz tt t = some (1, ag)) (h1 : off < cs.length)
  (h : RG P n ops draw nx (i + 1) os ⟨sl, (id, .box E bz (cs.set off (.X j))) :: mem, n0, gd⟩ (addK draw ks (okeys [x, y] ++ mkeys [id, j], [.m id])) Q) :
  RG P n ops draw nx i (⟨none, .store t x y, ty, pos, aft, none⟩ :: os) ⟨sl, mem, n0, gd⟩ ks Q := by
 refine rg_ok (fun ho => ⟨_, _, storeX_sound htt ho rfl rfl rfl hx hy hl hj hts h1 _, ?_, ?_, ?_, fun k hk => by simpa [keysOf] using hk⟩) (rg_addK h)
 ·intro kx hkx
  rcases List.mem_append.1 hkx with h | h
  ·rcases List.mem_append.1 h with h | h
   ·exact opd_kn _ x kx h
   ·exact opd_kn _ y kx h
  ·exact mrd_kn _ [id, j] kx h
 ·rw [over_one _ _ _ h1]; exact kn_pm ⟨sl, mem, n0, gd⟩ id _
 ·intro k hk
  simp only [rkeysOf, List.map_append, List.mem_append] at hk
  rcases hk with (h | h) | h
  ·exact List.mem_append_left _ (okeys_opd ⟨sl, mem, n0, gd⟩ [x, y] k (by simp only [rkeysOf, List.flatMap_cons, List.map_append, List.mem_append]; exact .inl h))
  ·exact List.mem_append_left _ (okeys_opd ⟨sl, mem, n0, gd⟩ [x, y] k (by simp only [rkeysOf, List.flatMap_cons, List.map_append, List.mem_append]; exact .inr (.inl h)))
  ·exact List.mem_append_right _ (mkeys_mrd ⟨sl, mem, n0, gd⟩ [id, j] k h)
end
end Go.El

/- The engine, part 45: weakening with other ids; families of vectors; a slice of slices as a result. Own work; no condition. -/
namespace Go.El
open Go Go.RowKit
def mpC (ρ : Nat → Nat) : C → C
 | .P id o => .P (ρ id) o
 | .X id => .X (ρ id)
 | .Y id n i o => .Y (ρ id) n i o
 | .L id o l c => .L (ρ id) o l c
 | .W id o l => .W (ρ id) o l
 | c => c
def mpA (ρ : Nat → Nat) : AV → AV
 | .c x => .c (mpC ρ x)
 | .a cs => .a (cs.map (mpC ρ))
 | .t ss => .t (ss.map fun s => (s.1, s.2.map (mpC ρ)))
def mpB (ρ : Nat → Nat) : Blk → Blk
 | .box E bz cs => .box E bz (cs.map (mpC ρ))
 | .vec E T xs => .vec E T xs
 | .clo f a b => .clo f (a.map fun s => (s.1, s.2.map (mpC ρ))) (b.map fun s => (s.1, s.2.map (mpC ρ)))
 | .fz E cs => .fz E (cs.map (mpC ρ))
theorem mpC_rel {g : Gh} {ρ : Nat → Nat} : ∀ {c : C} {v : Value}, RelC g (mpC ρ c) v → RelC ⟨g.H, fun id => g.γ (ρ id)⟩ c v
 | .any, _, h => h
 | .B _, _, h => h
 | .I _ _, _, h => h
 | .V _, _, h => h
 | .S _ _, _, h => h
 | .P _ _, _, h => h
 | .X _, _, h => h
 | .Y _ _ _ _, _, h => h
 | .E _ _ _, _, h => h
 | .M _, _, h => h
 | .L _ _ _ (some _), _, h => h
 | .L _ _ _ none, _, h => h
 | .W _ _ _, _, h => h
theorem mpL_rel {g : Gh} {ρ : Nat → Nat} : ∀ {cs : List C} {vs : List Value}, RelL g (cs.map (mpC ρ)) vs → RelL ⟨g.H, fun id => g.γ (ρ id)⟩ cs vs
 | [], _, h => h
 | _ :: _, _, h => by
  obtain ⟨v, r, e, h1, h2⟩ := h
  exact ⟨v, r, e, mpC_rel h1, mpL_rel h2⟩
theorem mpT_rel {g : Gh} {ρ : Nat → Nat} : ∀ {cs : List (Bool × List C)} {vs : List Value}, RelT g (cs.map fun s => (s.1, s.2.map (mpC ρ))) vs → RelT ⟨g.H, fun id => g.γ (ρ id)⟩ cs vs
 | [], _, h => h
 | (b, c) :: _, _, h => by
  obtain ⟨v, r, e, h1, h2⟩ := h
  refine ⟨v, r, e, ?_, mpT_rel h2⟩
  match b, c, h1 with
  | true, c, h1 => obtain ⟨vs, e, h⟩ := h1; exact ⟨vs, e, mpL_rel h⟩
  | false, [c], h1 => exact mpC_rel h1
  | false, [], h1 => exact h1.elim
  | false, _ :: _ :: _, h1 => exact h1.elim
theorem mpA_rel {g : Gh} {ρ : Nat → Nat} {x : AV} {v : Value} (h : RelV g (mpA ρ x) v) : RelV ⟨g.H, fun id => g.γ (ρ id)⟩ x v := by
 cases x with
 | c y => exact mpC_rel h
 | a cs => obtain ⟨vs, e, h⟩ := h; exact ⟨vs, e, mpL_rel h⟩
 | t ss => obtain ⟨vs, e, h⟩ := h; exact ⟨vs, e, mpT_rel h⟩
theorem mpB_rel {N : Nat → Prop} {g : Gh} {W : World} {ρ : Nat → Nat} {id : Nat} {b : Blk} (h : RepB N g W (ρ id) (mpB ρ b)) : RepB N ⟨g.H, fun id => g.γ (ρ id)⟩ W id b := by
 cases b with
 | box E bz cs =>
  obtain ⟨k, vs, rest, e1, e2, e3, e4, e5, e6⟩ := h
  exact ⟨k, vs, rest, e1, e2, mpL_rel e3, e4, e5, e6⟩
 | vec E T ys =>
  rcases h with ⟨e1, e2⟩ | ⟨k, cap, vs, e1, e2⟩
  ·exact .inl ⟨e1, e2⟩
  ·exact .inr ⟨k, cap, vs, e1, e2⟩
 | clo f first caps =>
  obtain ⟨us, ws, e1, e2, e3⟩ := h
  exact ⟨us, ws, e1, mpT_rel e2, mpT_rel e3⟩
 | fz E cs =>
  obtain ⟨k, vs, rest, e1, e2, e3, e4, e5⟩ := h
  exact ⟨k, vs, rest, e1, e2, mpL_rel e3, e4, e5⟩
def WkS2 (ρ : Nat → Nat) (l : List (Nat × AV)) : List (Nat × AV) → Prop
 | [] => True
 | (t, v') :: r => (∃ v, lookA t l = some v ∧ AVle v (mpA ρ v')) ∧ WkS2 ρ l r
def WkM2 (ρ : Nat → Nat) (l : List (Nat × Blk)) : List (Nat × Blk) → Prop
 | [] => True
 | (t, v') :: r => (∃ v, lookA (ρ t) l = some v ∧ BLe v (mpB ρ v')) ∧ WkM2 ρ l r
theorem WkS2.get {ρ : Nat → Nat} {l : List (Nat × AV)} : ∀ {m : List (Nat × AV)}, WkS2 ρ l m → ∀ {t v'}, lookA t m = some v' → ∃ v, lookA t l = some v ∧ AVle v (mpA ρ v')
 | [], _, _, _, h => by simp [lookA] at h
 | (k, x) :: m, hw, t, v', h => by
  simp only [lookA] at h
  split at h
  ·rename_i e; subst e; cases h; exact hw.1
  ·exact WkS2.get hw.2 h
theorem WkM2.get {ρ : Nat → Nat} {l : List (Nat × Blk)} : ∀ {m : List (Nat × Blk)}, WkM2 ρ l m → ∀ {t v'}, lookA t m = some v' → ∃ v, lookA (ρ t) l = some v ∧ BLe v (mpB ρ v')
 | [], _, _, _, h => by simp [lookA] at h
 | (k, x) :: m, hw, t, v', h => by
  simp only [lookA] at h
  split at h
  ·rename_i e; subst e; cases h; exact hw.1
  ·exact WkM2.get hw.2 h
def MemP (K : Nat) (m : List (Nat × Blk)) : Prop := ∀ t v, lookA t m = some v → t < K ∧ ∀ id ∈ v.mids, id < K
theorem wk_map (ρ : Nat → Nat) {st st' : St} (hs : WkS2 ρ st.sl st'.sl) (hm : WkM2 ρ st.mem st'.mem) (h0 : ρ 0 = 0) (hinj : ∀ id id', (lookA id st'.mem).isSome = true → (lookA id' st'.mem).isSome = true → ρ id = ρ id' → id = id')
  (hbm : MemP (1000000 * st'.nx) st'.mem) (hbs : slB (1000000 * st'.nx) st'.sl = true := by rfl) (hnx : Nat.ble 1 st'.nx = true := by rfl) : Wk st st' := by
 intro F hk0 g W a h
 have hnx := Nat.le_of_ble_eq_true hnx
 let g' : Gh := ⟨g.H, fun id => g.γ (ρ id)⟩
 have hS : ∀ t v', st'.kn (.s t) = some (.v v') → (∃ v, st.kn (.s t) = some (.v v) ∧ AVle v (mpA ρ v')) ∧ ∀ id ∈ v'.mids, id < 1000000 * st'.nx := by
  intro t v' e
  simp only [St.kn, Option.map_eq_some_iff] at e
  obtain ⟨x, hx, he⟩ := e
  cases he
  obtain ⟨v, hv, hle⟩ := hs.get hx
  exact ⟨⟨v, by simp [St.kn, hv], hle⟩, slB_ok hbs t v' hx⟩
 have hM : ∀ id b', st'.kn (.m id) = some (.b b') → (∃ b, st.kn (.m (ρ id)) = some (.b b) ∧ BLe b (mpB ρ b')) ∧ (id < 1000000 * st'.nx ∧ ∀ j ∈ b'.mids, j < 1000000 * st'.nx) ∧ (lookA id st'.mem).isSome = true := by
  intro t v' e
  simp only [St.kn, Option.map_eq_some_iff] at e
  obtain ⟨x, hx, he⟩ := e
  cases he
  obtain ⟨v, hv, hle⟩ := hm.get hx
  exact ⟨⟨v, by simp [St.kn, hv], hle⟩, hbm t v' hx, by rw [hx]; rfl⟩
 refine ⟨g', h.size, h.defers, ?_, ?_, ?_, ?_, ?_, h.sub, h.below, h.le, h.fresh, ?_⟩
 ·intro t v' e
  obtain ⟨⟨v, hv, hle⟩, _⟩ := hS t v' e
  exact mpA_rel (hle.1 _ _ (h.slots t v hv))
 ·intro id b' e
  obtain ⟨⟨b, hb, hle⟩, _⟩ := hM id b' e
  exact mpB_rel (hle.1 _ _ _ _ (h.blks (ρ id) b hb))
 ·intro id id' b b' k e e' hk hk'
  obtain ⟨⟨c, hc, _⟩, _, h1⟩ := hM id b e
  obtain ⟨⟨c', hc', _⟩, _, h2⟩ := hM id' b' e'
  exact hinj id id' h1 h2 (h.inj (ρ id) (ρ id') c c' k hc hc' hk hk')
 ·intro k x e id hid
  cases k with
  | s t =>
   cases x with
   | v v' => exact (hS t v' e).2 id hid
   | b b' => simp only [St.kn, Option.map_eq_some_iff] at e; obtain ⟨_, _, he⟩ := e; cases he
  | m j =>
   cases x with
   | v v' => simp only [St.kn, Option.map_eq_some_iff] at e; obtain ⟨_, _, he⟩ := e; cases he
   | b b' => exact (hM j b' e).2.1.2 id hid
 ·intro id x e
  cases x with
  | v v' => simp only [St.kn, Option.map_eq_some_iff] at e; obtain ⟨_, _, he⟩ := e; cases he
  | b b' => exact (hM id b' e).2.1.1
 ·intro id hid
  have hz : id = 0 := by omega
  subst hz
  refine ⟨?_, ?_⟩
  ·show 0 < 1000000 * st'.nx; omega
  ·show g.γ (ρ 0) = _; rw [h0]; exact (h.kfix 0 hid).2
theorem MemP.cons {K id : Nat} {b : Blk} {m : List (Nat × Blk)} (h1 : id < K) (h2 : ∀ j ∈ b.mids, j < K) (h : MemP K m) : MemP K ((id, b) :: m) := fun t v e => by
 simp only [lookA] at e
 split at e
 ·rename_i e2; cases e; subst e2; exact ⟨h1, h2⟩
 ·exact h t v e
theorem MemP.of {K : Nat} {m : List (Nat × Blk)} (h : memB K m = true) : MemP K m := memB_ok h
theorem mids_cells {cs : List C} {K : Nat} (h : ∀ c ∈ cs, ∀ id ∈ c.mids, id < K) : ∀ j ∈ midsL cs, j < K := by
 induction cs with
 | nil => intro j hj; cases hj
 | cons c cs ih =>
  intro j hj
  rcases List.mem_append.1 hj with h1 | h1
  ·exact h c (by simp) j h1
  ·exact ih (fun d hd => h d (by simp [hd])) j h1
def fam (r : Nat) (E : TypeId) (T : ET) (f : Nat → List T.den) : List (Nat × Blk) := (List.range r).map fun i => (1 + i, Blk.vec E T (f i))
theorem lookA_append {α : Type} (t : Nat) : ∀ (a b : List (Nat × α)), lookA t (a ++ b) = (lookA t a).or (lookA t b)
 | [], _ => rfl
 | (k, x) :: a, b => by
  simp only [List.cons_append, lookA]
  split
  ·rfl
  ·exact lookA_append t a b
theorem lookA_fam {r : Nat} {E : TypeId} {T : ET} {f : Nat → List T.den} : ∀ {i : Nat}, i < r → lookA (1 + i) (fam r E T f) = some (.vec E T (f i)) := by
 induction r with
 | zero => intro i h; omega
 | succ r ih =>
  intro i h
  unfold fam at ih ⊢
  rw [List.range_succ, List.map_append, lookA_append]
  by_cases e : i < r
  ·rw [ih e]; rfl
  ·have : i = r := by omega
   subst this
   have hn : ∀ n, n ≤ i → lookA (1 + i) ((List.range n).map fun j => (1 + j, Blk.vec E T (f j))) = none := by
    intro n hn
    induction n with
    | zero => rfl
    | succ n ih2 =>
     rw [List.range_succ, List.map_append, lookA_append, ih2 (by omega)]
     simp only [List.map_cons, List.map_nil, lookA]
     rw [if_neg (by omega)]; rfl
   rw [hn i (Nat.le_refl _)]
   simp [lookA]
theorem lookA_fam_inv {r : Nat} {E : TypeId} {T : ET} {f : Nat → List T.den} {id : Nat} {b : Blk} : lookA id (fam r E T f) = some b → ∃ i, i < r ∧ id = 1 + i ∧ b = .vec E T (f i) := by
 induction r with
 | zero => intro h; cases h
 | succ r ih =>
  intro h
  unfold fam at ih h
  rw [List.range_succ, List.map_append, lookA_append] at h
  cases h1 : lookA id ((List.range r).map fun i => (1 + i, Blk.vec E T (f i))) with
  | some b' =>
   rw [h1] at h
   cases h
   obtain ⟨i, h2, h3, h4⟩ := ih h1
   exact ⟨i, by omega, h3, h4⟩
  | none =>
   rw [h1] at h
   simp only [List.map_cons, List.map_nil, lookA, Option.none_or] at h
   split at h
   ·rename_i e; cases h; exact ⟨r, by omega, e.symm, rfl⟩
   ·cases h
def cncB : List (Nat × Blk) → Bool
 | [] => true
 | (id, _) :: r => (Nat.beq id 0 || Nat.ble 1000 id) && cncB r
theorem cnc_none {m : List (Nat × Blk)} : cncB m = true → ∀ {i : Nat}, i < 900 → lookA (1 + i) m = none := by
 induction m with
 | nil => intro _ i _; rfl
 | cons x m ih =>
  obtain ⟨id, b⟩ := x
  intro h i hi
  simp only [cncB, Bool.and_eq_true, Bool.or_eq_true] at h
  simp only [lookA]
  rw [if_neg]
  ·exact ih h.2 hi
  ·intro e
   rcases h.1 with h1 | h1
   ·have := Nat.eq_of_beq_eq_true h1; omega
   ·have := Nat.le_of_ble_eq_true h1; omega
theorem MemP.fam {K r : Nat} (h : 1 + r ≤ K) {E : TypeId} {T : ET} {f : Nat → List T.den} : MemP K (fam r E T f) := fun t v e => by
 obtain ⟨i, h1, rfl, rfl⟩ := lookA_fam_inv e
 exact ⟨by omega, fun id hid => by cases hid⟩
theorem WkM2.app {ρ : Nat → Nat} {l : List (Nat × Blk)} : ∀ {a b : List (Nat × Blk)}, WkM2 ρ l a → WkM2 ρ l b → WkM2 ρ l (a ++ b)
 | [], _, _, h => h
 | _ :: _, _, h, k => ⟨h.1, WkM2.app h.2 k⟩
theorem WkM2.map {ρ : Nat → Nat} {l : List (Nat × Blk)} {g : Nat → Nat × Blk} : ∀ {L : List Nat}, (∀ i ∈ L, ∃ v, lookA (ρ (g i).1) l = some v ∧ BLe v (mpB ρ (g i).2)) → WkM2 ρ l (L.map g)
 | [], _ => trivial
 | i :: L, h => ⟨h i (by simp), WkM2.map fun j hj => h j (by simp [hj])⟩
theorem WkM2.fam {ρ : Nat → Nat} {l : List (Nat × Blk)} {r : Nat} {E : TypeId} {T : ET} {f : Nat → List T.den} (h : ∀ i, i < r → lookA (ρ (1 + i)) l = some (.vec E T (f i))) : WkM2 ρ l (fam r E T f) :=
 WkM2.map fun i hi => ⟨_, h i (List.mem_range.1 hi), BLe.refl _⟩
theorem WkM.app {l : List (Nat × Blk)} : ∀ {a b : List (Nat × Blk)}, WkM l a → WkM l b → WkM l (a ++ b)
 | [], _, _, h => h
 | _ :: _, _, h, k => ⟨h.1, WkM.app h.2 k⟩
theorem WkM.map {l : List (Nat × Blk)} {g : Nat → Nat × Blk} : ∀ {L : List Nat}, (∀ i ∈ L, ∃ v, lookA (g i).1 l = some v ∧ BLe v (g i).2) → WkM l (L.map g)
 | [], _ => trivial
 | i :: L, h => ⟨h i (by simp), WkM.map fun j hj => h j (by simp [hj])⟩
theorem WkM.fam {l : List (Nat × Blk)} {r : Nat} {E : TypeId} {T : ET} {f : Nat → List T.den} (h : ∀ i, i < r → lookA (1 + i) l = some (.vec E T (f i))) : WkM l (fam r E T f) :=
 WkM.map fun i hi => ⟨_, h i (List.mem_range.1 hi), BLe.refl _⟩
theorem memB_append {K : Nat} : ∀ {a b : List (Nat × Blk)}, memB K a = true → memB K b = true → memB K (a ++ b) = true
 | [], _, _, h => h
 | (id, v) :: a, b, h, k => by
  simp only [memB, Bool.and_eq_true, List.cons_append] at h ⊢
  exact ⟨h.1, memB_append h.2 k⟩
theorem memB_fam {K r : Nat} (h : 1 + r ≤ K) {E : TypeId} {T : ET} {f : Nat → List T.den} : memB K (fam r E T f) = true := by
 unfold Go.El.fam
 have : ∀ L : List Nat, (∀ i ∈ L, i < r) → memB K (L.map fun i => (1 + i, Blk.vec E T (f i))) = true := by
  intro L hL
  induction L with
  | nil => rfl
  | cons i L ih =>
   have hi := hL i (by simp)
   simp only [List.map_cons, memB, Blk.mids, midsB, Bool.and_true, Bool.and_eq_true]
   refine ⟨Nat.ble_eq_true_of_le (by omega), ih fun j hj => hL j (by simp [hj])⟩
 exact this _ fun i hi => List.mem_range.1 hi
theorem midsB_cells {K : Nat} : ∀ {cs : List C}, (∀ c ∈ cs, ∀ id ∈ c.mids, id < K) → midsB K (midsL cs) = true
 | [], _ => rfl
 | c :: cs, h => by
  have h1 : ∀ {l m : List Nat}, midsB K l = true → midsB K m = true → midsB K (l ++ m) = true := by
   intro l m hl hm
   induction l with
   | nil => exact hm
   | cons x l ih =>
    simp only [midsB, Bool.and_eq_true, List.cons_append] at hl ⊢
    exact ⟨hl.1, ih hl.2⟩
  have h2 : ∀ {l : List Nat}, (∀ id ∈ l, id < K) → midsB K l = true := by
   intro l hl
   induction l with
   | nil => rfl
   | cons x l ih =>
    simp only [midsB, Bool.and_eq_true]
    exact ⟨Nat.ble_eq_true_of_le (hl x (by simp)), ih fun y hy => hl y (by simp [hy])⟩
  exact h1 (h2 (h c (by simp))) (midsB_cells fun d hd => h d (by simp [hd]))
section
variable {P : Program} {tt : TT} {n : Nat} {st : St}
end
def aheadB2 (m : Nat) (b : Ks) : List Ks → Nat → Bool
 | [], _ => true
 | a :: l, i => (m.testBit i || !clash a b) && aheadB2 m b l (i + 1)
def pairsB2 : List Nat → List Ks → List Ks → Bool
 | m :: ms, b :: bs, done => aheadB2 m b done 0 && pairsB2 ms bs (done ++ [b])
 | [], [], _ => true
 | _, _, _ => false
def ordB2 (ops : List Oper) (ks : List Ks) : Bool := edgesB ops 0 && pairsB2 (masks ops []) ks []
theorem aheadB2_eq (m : Nat) (b : Ks) : ∀ (l : List Ks) (i : Nat), aheadB2 m b l i = aheadB m b l i
 | [], _ => rfl
 | a :: l, i => by rw [aheadB2, aheadB, aheadB2_eq m b l, Bool.or_comm]
theorem pairsB2_eq : ∀ (ms : List Nat) (bs done : List Ks), pairsB2 ms bs done = pairsB ms bs done
 | [], [], _ => rfl
 | [], _ :: _, _ => rfl
 | _ :: _, [], _ => rfl
 | m :: ms, b :: bs, done => by rw [pairsB2, pairsB, aheadB2_eq, pairsB2_eq ms bs]
theorem ord2 {draw : Bool} {ops : List Oper} {ks : List Ks} (h : (!draw || ordB2 ops ks) = true) : (!draw || ordB ops ks) = true := by
 have : ordB2 ops ks = ordB ops ks := by rw [ordB2, ordB, pairsB2_eq]
 rwa [this] at h
end Go.El

/- The engine, part 46: function values as arguments; calls through them; data that are read in place by a call; a pointer to frozen data; contracts that use up what they are handed. Own work; no condition. -/
namespace Go.El
open Go Go.RowKit
def cloM (f : FuncId) (first caps : List (Bool × List C)) : MP where
 p := fun H v => ∃ H0, ∃ us ws : List Value, FLe H0 H ∧ v = .func (.func f) us.toArray ws.toArray ∧ RelT ⟨H0, noγ⟩ first us ∧ RelT ⟨H0, noγ⟩ caps ws
 mono := by
  rintro H H' v hl ⟨H0, us, ws, h0, h⟩
  exact ⟨H0, us, ws, h0.trans hl, h⟩
theorem RelT.noid {g : Gh} {ss : List (Bool × List C)} {vs : List Value} (h : RelT g ss vs) (hm : midsT ss = []) {H : FH} (hl : FLe g.H H) (γ : Nat → Value) : RelT ⟨H, γ⟩ ss vs :=
 RelT.mono (known := fun _ => False) ⟨hl, fun _ h => h.elim⟩ (by simp [hm]) h
section
variable {P : Program} {tt : TT}
theorem mkfn_ok {n new : Nat} {ops : Array Oper} {i : Nat} {o : Oper} (ho : ops[i]? = some o) (hg : o.guard = none) {d : Nat} (hd : o.dst = some d) (hdn : d < n) {f : FuncId} {first caps : Array Operand} (hop : o.op = .makeFunc (.func f) first caps)
  {st : St} {fs cs : List (Bool × List C)} (hf : evT st first.toList = some fs) (hc : evT st caps.toList = some cs) (h1 : midsT fs = []) (h2 : midsT cs = []) : StepOk P n ops i st (st.put d (.c (.M (cloM f fs cs)))) new (okeys (first.toList ++ caps.toList), [.s d]) := by
 refine ⟨(first.toList ++ caps.toList).flatMap (opd st), [(.s d, some (.v (.c (.M (cloM f fs cs)))))], ?_, ?_, kn_put st d _, okeys_opd st _, fun k hk => by simpa [keysOf] using hk⟩
 ·refine stepS_val ho hg hd hdn _ _ new ?_
  intro F known σ g W a hsem hrd
  obtain ⟨hf1, _⟩ := evT_rel hsem st _ _ hf (fun kx hkx => hrd kx (by rw [List.flatMap_append]; exact List.mem_append_left _ hkx))
  obtain ⟨hc1, _⟩ := evT_rel hsem st _ _ hc (fun kx hkx => hrd kx (by rw [List.flatMap_append]; exact List.mem_append_right _ hkx))
  refine ⟨fun j hj => by simp [AV.mids, C.mids] at hj, .func (.func f) (first.toList.map a.eval).toArray (caps.toList.map a.eval).toArray, ?_, g.H, _, _, FLe.refl _, rfl, hf1.noid h1 (FLe.refl _) noγ, hc1.noid h2 (FLe.refl _) noγ⟩
  rw [execOp, hop]
  have e1 : first.map a.eval = (first.toList.map a.eval).toArray := by apply Array.ext'; simp
  have e2 : caps.map a.eval = (caps.toList.map a.eval).toArray := by apply Array.ext'; simp
  simp only [Instr.makeFunc, e1, e2]
  rfl
 ·intro kx hkx
  obtain ⟨x, _, h⟩ := List.mem_flatMap.1 hkx
  exact opd_kn st x kx h
def FnA (c : C) (f : FuncId) (us ws : List AV) : Prop := (c = .V (.func (.func f) ⟨[]⟩ ⟨[]⟩) ∧ us = [] ∧ ws = []) ∨ ∃ fs cs, c = .M (cloM f fs cs) ∧ unSs fs = some us ∧ unSs cs = some ws
theorem after_call {n new : Nat} {ops : Array Oper} {i : Nat} {o : Oper} (ho : ops[i]? = some o) (hg : o.guard = none) {d : Nat} (hd : o.dst = some d) (hdn : d < n) {f : FuncId} {vs : List AV} {r : AV} (hf : FnS P f vs r)
  {F : Fix} (hFn : F.n = n) {Q : Exit → Act → World → Prop} {known : Nat → Prop} {σ : Kn} {g : Gh} {W : World} {a : Act} {K : Act → World → Prop} (hnew : ¬ known new) (hsem : Hold F known σ g W a) (hK : ∀ g' W' a', Hold F (fun id => known id ∨ id = new) (upd σ [(.s d, some (.v r))]) g' W' a' → K a' W') {us : List Value} (hus : RelVs ⟨g.H, noγ⟩ vs us) (hex : (execOp a.eval o).run P W = .ok (.enter f us.toArray) W) : wpOp P ops Q i K a W := by
 have hc := hf.spec g.H W us hsem.sub hus
 unfold wpOp
 simp only [ho, Region.wanted, hg, if_true]
 refine .inl ?_
 unfold Oper.wp
 rw [hex]
 simp only [Oper.upon]
 refine hc.mono ?_
 rintro e W' ⟨v, H', rfl, hrel, hle, hfr, hsub, hbl⟩
 simp only [hd]
 have hsz : d < a.tmps.size := by rw [hsem.size, hFn]; exact hdn
 refine hK ⟨H', g.γ⟩ W' _ (hsem.step (chg := fun _ => False) (g' := ⟨H', g.γ⟩) ⟨⟨hle, fun _ _ => rfl⟩, hfr, hsub, hbl.size, fun k hk _ => hbl.block k hk, hbl.os, hbl.tape, hbl.output⟩ _ new hnew (by simp [Act.put]) hsem.defers ?_ (fun _ h => h.elim) ?_ ?_ ?_ ?_)
 ·intro t ht
  have hne : d ≠ t := by intro e; subst e; simp [says] at ht
  simp [Act.put, Array.getElem?_setIfInBounds_ne hne]
 ·intro t u ht
  simp only [says] at ht
  split at ht
  ·rename_i e
   simp only [Key.s.injEq] at e
   simp only [Option.some.injEq, Info.v.injEq] at ht
   subst e; subst ht
   have := hrel.noid hf.noid (FLe.refl _) g.γ
   simpa [Act.put, hsz] using this
  ·simp at ht
 ·intro id b ht; simp [says] at ht
 ·intro k y ht
  simp only [says] at ht
  split at ht
  ·simp only [Option.some.injEq] at ht
   subst ht
   intro id hid
   have : id ∈ r.mids := hid
   rw [hf.noid] at this
   cases this
  ·simp at ht
 ·intro id y ht; simp [says] at ht
theorem callSl_ok {n new : Nat} {ops : Array Oper} {i : Nat} {o : Oper} (ho : ops[i]? = some o) (hg : o.guard = none) {d : Nat} (hd : o.dst = some d) (hdn : d < n) {cf : Operand} {args : Array Operand} {tys : Array TypeId} (hop : o.op = .call ⟨.value cf, args, tys⟩)
  {st : St} {c : C} {f : FuncId} {us ws vs : List AV} {r : AV} (hcf : st.ev cf = some (.c c)) (hfa : FnA c f us ws) (hv : evs st args.toList = some vs) (hm : midsVs (us ++ (vs ++ ws)) = []) (hf : FnS P f (us ++ (vs ++ ws)) r) : StepOk P n ops i st (st.put d r) new (okeys (cf :: args.toList), [.s d]) := by
 refine ⟨(cf :: args.toList).flatMap (opd st), [(.s d, some (.v r))], ?_, ?_, kn_put st d r, okeys_opd st _, fun k hk => by simpa [keysOf] using hk⟩
 ·intro F hFn Q known σ g W a K hnew hsem hrd hK
  have hargs := evs_rel hsem st _ _ hv (fun kx hkx => hrd kx (by simp only [List.flatMap_cons, List.mem_append]; exact .inr hkx))
  have hcv := ev_rel hsem st cf _ hcf (fun kx hkx => hrd kx (by simp only [List.flatMap_cons, List.mem_append]; exact .inl hkx))
  have hma : args.map a.eval = (args.toList.map a.eval).toArray := by apply Array.ext'; simp
  have hm2 : midsVs us = [] ∧ midsVs vs = [] ∧ midsVs ws = [] := by
   rw [midsVs_append, midsVs_append, List.append_eq_nil_iff, List.append_eq_nil_iff] at hm; exact hm
  rcases hfa with ⟨rfl, rfl, rfl⟩ | ⟨fs, cs, rfl, h1, h2⟩
  ·have hcv : a.eval cf = .func (.func f) #[] #[] := hcv
   refine after_call ho hg hd hdn hf hFn hnew hsem hK (us := args.toList.map a.eval) ?_ ?_
   ·simpa using hargs.noid (γ := noγ) hm2.2.1
   ·rw [execOp, hop]
    simp only [resolve, hcv, Deferred.ofValue, pure_bind, enter_run hf.call, hma]
    simp
  ·obtain ⟨H0, fu, fw, hle, hval, hr1, hr2⟩ := hcv
   have k1 := unSs_rel h1 hr1
   have k2 := unSs_rel h2 hr2
   have up : ∀ {xs : List AV} {zs : List Value}, RelVs ⟨H0, noγ⟩ xs zs → midsVs xs = [] → RelVs ⟨g.H, noγ⟩ xs zs := by
    intro xs
    induction xs with
    | nil => intro zs h _; exact h
    | cons x xs ih =>
     intro zs h hm
     simp only [midsVs, List.append_eq_nil_iff] at hm
     obtain ⟨v, r, rfl, h1, h2⟩ := h
     exact ⟨v, r, rfl, h1.noid hm.1 hle noγ, ih h2 hm.2⟩
   refine after_call ho hg hd hdn hf hFn hnew hsem hK (us := fu ++ (args.toList.map a.eval ++ fw)) ?_ ?_
   ·exact (up k1 hm2.1).append ((hargs.noid (γ := noγ) hm2.2.1).append (up k2 hm2.2.2))
   ·rw [execOp, hop]
    simp only [resolve, hval, Deferred.ofValue, pure_bind, enter_run hf.call, hma]
    simp
 ·intro kx hkx
  obtain ⟨x, _, h⟩ := List.mem_flatMap.1 hkx
  exact opd_kn st x kx h
theorem callT_ok {n new : Nat} {ops : Array Oper} {i : Nat} {o : Oper} (ho : ops[i]? = some o) (hg : o.guard = none) {d : Nat} (hd : o.dst = some d) (hdn : d < n) {f : FuncId} {args : Array Operand} {tys : Array TypeId} (hop : o.op = .call ⟨.value (.func f), args, tys⟩)
  {st : St} {vs vs' : List AV} {r : AV} {ids : List Nat} (hv : evs st args.toList = some vs) (hf : FnS P f vs' r) (hr : ∀ g g' v, RelV g r v → RelV g' r v)
  (hfz : ∀ (F : Fix) (known : Nat → Prop) (σ : Kn) (g : Gh) (W : World) (a : Act) (us : List Value), Hold F known σ g W a → (∀ kx ∈ mrd st ids, σ kx.1 = some kx.2) → RelVs g vs us → ∃ HF, Sub HF W ∧ RelVs ⟨HF, noγ⟩ vs' us) :
  StepOk P n ops i st (st.put d r) new (okeys args.toList ++ mkeys ids, [.s d]) := by
 refine ⟨args.toList.flatMap (opd st) ++ mrd st ids, [(.s d, some (.v r))], ?_, ?_, kn_put st d r, ?_, fun k hk => by simpa [keysOf] using hk⟩
 ·intro F hFn Q known σ g W a K hnew hsem hrd hK
  have hargs := evs_rel hsem st _ _ hv (fun kx hkx => hrd kx (List.mem_append_left _ hkx))
  obtain ⟨HF, hsubF, hrel'⟩ := hfz F known σ g W a _ hsem (fun kx hkx => hrd kx (List.mem_append_right _ hkx)) hargs
  have hc := hf.spec HF W _ hsubF hrel'
  have hma : args.map a.eval = (args.toList.map a.eval).toArray := by apply Array.ext'; simp
  have hex : (execOp a.eval o).run P W = .ok (.enter f (args.toList.map a.eval).toArray) W := by
   have hcb := hf.call
   unfold callB at hcb
   rw [execOp, hop]
   cases hfn : P.funcs[f]? with
   | none => rw [hfn] at hcb; simp at hcb
   | some fn =>
    rw [hfn] at hcb
    simp only [Bool.and_eq_true, bne_iff_ne, ne_eq] at hcb
    have h2 : fn.body ≠ none := by
     intro hb
     rw [hb] at hcb
     simp at hcb
    simp [resolve, Act.eval, Deferred.ofValue, invoke, callFunc, hfn, hcb.1, h2]
    exact hma
  unfold wpOp
  simp only [ho, Region.wanted, hg, if_true]
  refine .inl ?_
  unfold Oper.wp
  rw [hex]
  simp only [Oper.upon]
  refine hc.mono ?_
  rintro e W' ⟨v, H', rfl, hrel, hle, hfr, hsub, hbl⟩
  simp only [hd]
  have hsz : d < a.tmps.size := by rw [hsem.size, hFn]; exact hdn
  have hsub' : Sub g.H W' := by
   intro b o v hv
   have h0 := hsem.sub b o v hv
   have hlt : b < W.heap.size := by
    simp only [World.cell?] at h0
    cases hb : W.heap[b]? with
    | none => rw [hb] at h0; cases h0
    | some x => exact (Array.getElem?_eq_some_iff.1 hb).1
   simp only [World.cell?, hbl.block b hlt]
   exact h0
  refine hK g W' _ (hsem.step (chg := fun _ => False) (g' := g) ⟨⟨FLe.refl _, fun _ _ => rfl⟩, fun _ _ _ => rfl, hsub', hbl.size, fun k hk _ => hbl.block k hk, hbl.os, hbl.tape, hbl.output⟩ _ new hnew (by simp [Act.put]) hsem.defers ?_ (fun _ h => h.elim) ?_ ?_ ?_ ?_)
  ·intro t ht
   have hne : d ≠ t := by intro e; subst e; simp [says] at ht
   simp [Act.put, Array.getElem?_setIfInBounds_ne hne]
  ·intro t u ht
   simp only [says] at ht
   split at ht
   ·rename_i e
    simp only [Key.s.injEq] at e
    simp only [Option.some.injEq, Info.v.injEq] at ht
    subst e; subst ht
    have := hr _ g _ hrel
    simpa [Act.put, hsz] using this
   ·simp at ht
  ·intro id b ht; simp [says] at ht
  ·intro k y ht
   simp only [says] at ht
   split at ht
   ·simp only [Option.some.injEq] at ht
    subst ht
    intro id hid
    have : id ∈ r.mids := hid
    rw [hf.noid] at this
    cases this
   ·simp at ht
  ·intro id y ht; simp [says] at ht
 ·intro kx hkx
  rcases List.mem_append.1 hkx with hkx | hkx
  ·obtain ⟨x, _, h⟩ := List.mem_flatMap.1 hkx
   exact opd_kn st x kx h
  ·exact mrd_kn st ids kx hkx
 ·intro k hk
  simp only [rkeysOf, List.map_append, List.mem_append] at hk
  rcases hk with h | h
  ·exact List.mem_append_left _ (okeys_opd st _ k h)
  ·exact List.mem_append_right _ (mkeys_mrd st ids k h)
end
end Go.El

/- The engine, part 47: a box is frozen; contracts that use up the blocks that they are handed; a slice of slices that a call reads in place. Own work; no condition. -/
namespace Go.El
open Go Go.RowKit
def WkB (l : List (Nat × AV)) (id : Nat) (T : ET) (x : T.den) : List (Nat × AV) → Prop
 | [] => True
 | (t, v') :: r => ((∃ v, lookA t l = some v ∧ AVle v v') ∨ ∃ off, lookA t l = some (.c (.P id off)) ∧ v' = .c (.E T x off)) ∧ WkB l id T x r
theorem WkB.get {l : List (Nat × AV)} {id : Nat} {T : ET} {x : T.den} : ∀ {m : List (Nat × AV)}, WkB l id T x m → ∀ {t v'}, lookA t m = some v' → (∃ v, lookA t l = some v ∧ AVle v v') ∨ ∃ off, lookA t l = some (.c (.P id off)) ∧ v' = .c (.E T x off)
 | [], _, _, _, h => by simp [lookA] at h
 | (k, x) :: m, hw, t, v', h => by
  simp only [lookA] at h
  split at h
  ·rename_i e; subst e; cases h; exact hw.1
  ·exact WkB.get hw.2 h
theorem wk_box (id : Nat) {E : TypeId} {bz : Nat} {T : ET} {x : T.den} {sl sl' : List (Nat × AV)} {mem mem' : List (Nat × Blk)} {nx nx' : Nat} {gd gd' : List (Nat × Bool)} (hl : lookA id mem = some (.box E bz (av T x))) (hs : WkB sl id T x sl') (hm : WkM mem mem') (hno : lookA id mem' = none)
  (hbm : MemP (1000000 * nx') mem') (hbs : slB (1000000 * nx') sl' = true := by rfl) (hnx : Nat.ble 1 nx' = true := by rfl) : Wk ⟨sl, mem, nx, gd⟩ ⟨sl', mem', nx', gd'⟩ := by
 generalize hst : (⟨sl, mem, nx, gd⟩ : St) = st
 generalize hst' : (⟨sl', mem', nx', gd'⟩ : St) = st'
 obtain rfl : sl = st.sl := by rw [← hst]
 obtain rfl : mem = st.mem := by rw [← hst]
 obtain rfl : sl' = st'.sl := by rw [← hst']
 obtain rfl : mem' = st'.mem := by rw [← hst']
 obtain rfl : nx' = st'.nx := by rw [← hst']
 clear hst hst'
 intro F hk0 g W a h
 have hkf : ∀ id, id < F.k0 → kb st' id ∧ g.γ id = F.γ0 id := by
  intro id hid
  obtain ⟨h1, h2⟩ := h.kfix id hid
  refine ⟨?_, h2⟩
  have h1 : id < 1000000 * st.nx := h1
  show id < 1000000 * st'.nx
  have := Nat.le_of_ble_eq_true hnx
  omega
 have hid : st.kn (.m id) = some (.b (.box E bz (av T x))) := by simp [St.kn, hl]
 obtain ⟨b, vs, rest, hγ, hh, hr, hN, hz, _⟩ := h.blks id _ hid
 let H' : FH := fun b' o => if b' = b then (vs ++ rest)[o]? else g.H b' o
 let g' : Gh := ⟨H', g.γ⟩
 have hFLe : FLe g.H H' := by
  intro b' o v hv
  by_cases e : b' = b
  ·subst e; rw [hz] at hv; cases hv
  ·simp [H', e, hv]
 have hle : GLe (fun _ => True) g g' := ⟨hFLe, fun _ _ => rfl⟩
 have hd : RelD H' T x vs := RelD.mono hFLe T x vs (av_relD T x vs hr)
 have hH : ∀ k o, k ≠ b → H' k o = g.H k o := fun k o hk => by simp [H', hk]
 have hS : ∀ t v', st'.kn (.s t) = some (.v v') → ((∃ v, st.kn (.s t) = some (.v v) ∧ AVle v v') ∨ ∃ off, st.kn (.s t) = some (.v (.c (.P id off))) ∧ v' = .c (.E T x off)) ∧ ∀ id ∈ v'.mids, id < 1000000 * st'.nx := by
  intro t v' e
  simp only [St.kn, Option.map_eq_some_iff] at e
  obtain ⟨y, hy, he⟩ := e
  cases he
  refine ⟨?_, slB_ok hbs t v' hy⟩
  rcases hs.get hy with ⟨v, hv, hle⟩ | ⟨off, hv, e⟩
  ·exact .inl ⟨v, by simp [St.kn, hv], hle⟩
  ·exact .inr ⟨off, by simp [St.kn, hv], e⟩
 have hM : ∀ j b', st'.kn (.m j) = some (.b b') → (∃ b, st.kn (.m j) = some (.b b) ∧ BLe b b') ∧ (j < 1000000 * st'.nx ∧ ∀ i ∈ b'.mids, i < 1000000 * st'.nx) ∧ j ≠ id := by
  intro t v' e
  simp only [St.kn, Option.map_eq_some_iff] at e
  obtain ⟨y, hy, he⟩ := e
  cases he
  obtain ⟨v, hv, hle⟩ := hm.get hy
  exact ⟨⟨v, by simp [St.kn, hv], hle⟩, hbm t v' hy, fun e => by subst e; rw [hno] at hy; cases hy⟩
 refine ⟨g', h.size, h.defers, ?_, ?_, ?_, ?_, ?_, ?_, h.below, h.le.trans hFLe, ?_, hkf⟩
 ·intro t v' e
  rcases (hS t v' e).1 with ⟨v, hv, hav⟩ | ⟨off, hv, rfl⟩
  ·exact hav.1 _ _ (RelV.mono hle (fun _ _ => trivial) (h.slots t v hv))
  ·obtain ⟨b', e1, e2⟩ : RelC g (.P id off) (a.tmps.getD t undef) := h.slots t _ hv
   rw [hγ] at e1
   cases e1
   refine ⟨b, 0, vs, by rw [e2]; simp, hd, fun j hj => ?_⟩
   simp only [g', H', if_true, Nat.zero_add]
   rw [List.getElem?_append_left hj]
   exact List.getElem?_eq_getElem hj
 ·intro j b' e
  obtain ⟨⟨c, hc, hbl⟩, _, hne⟩ := hM j b' e
  refine hbl.1 _ _ _ _ ((h.blks j c hc).keep hle trivial (fun _ _ => trivial) (fun k hk => ⟨rfl, fun o => ?_⟩))
  have hkb : k ≠ b := fun e => hne (by subst e; exact h.inj j id c _ k hc hid hk hγ)
  exact hH k o hkb
 ·intro i j b1 b2 k e e' hk hk'
  obtain ⟨⟨c, hc, _⟩, _⟩ := hM i b1 e
  obtain ⟨⟨c', hc', _⟩, _⟩ := hM j b2 e'
  exact h.inj i j c c' k hc hc' hk hk'
 ·intro k y e i hi
  cases k with
  | s t =>
   cases y with
   | v v' => exact (hS t v' e).2 i hi
   | b b' => simp only [St.kn, Option.map_eq_some_iff] at e; obtain ⟨_, _, he⟩ := e; cases he
  | m j =>
   cases y with
   | v v' => simp only [St.kn, Option.map_eq_some_iff] at e; obtain ⟨_, _, he⟩ := e; cases he
   | b b' => exact (hM j b' e).2.1.2 i hi
 ·intro j y e
  cases y with
  | v v' => simp only [St.kn, Option.map_eq_some_iff] at e; obtain ⟨_, _, he⟩ := e; cases he
  | b b' => exact (hM j b' e).2.1.1
 ·intro b' o v hv
  by_cases e : b' = b
  ·subst e
   simp only [g', H', if_true] at hv
   simp [World.cell?, hh, hv]
  ·simp only [g', H', e, if_false] at hv
   exact h.sub b' o v hv
 ·intro b' o hb' hno'
  have : b' ≠ b := by
   intro e
   subst e
   rcases hN with h1 | h1
   ·omega
   ·exact hno' h1
  show H' b' o = _
  rw [hH b' o this]
  exact h.fresh b' o hb' hno'
def OwnM (g : Gh) (fm : List (Nat × Blk)) (b : Nat) : Prop := ∃ id bb, lookA id fm = some bb ∧ blk (g.γ id) = some b
def RetC (g : Gh) (W : World) (fm : List (Nat × Blk)) (r : AV) (e : Ending) (W' : World) : Prop :=
 ∃ v H', e = .returned v ∧ RelV ⟨H', noγ⟩ r v ∧ FLe g.H H' ∧ (∀ b o, b < W.heap.size → ¬ OwnM g fm b → H' b o = g.H b o) ∧ Sub H' W' ∧ BelowX (OwnM g fm) W W'
structure FnC (P : Program) (f : FuncId) (args : List AV) (fm : List (Nat × Blk)) (r : AV) : Prop where
 call : callB P f = true
 noid : r.mids = []
 spec : ∀ g W vs, Sub g.H W → RelVs g args vs → (∀ id b, lookA id fm = some b → RepB (fun _ => True) g W id b) → (∀ id id' b b' k, lookA id fm = some b → lookA id' fm = some b' → blk (g.γ id) = some k → blk (g.γ id') = some k → id = id') → Calls P f vs.toArray W (RetC g W fm r)
def RetQC (P : Program) (fn : Func) (r : AV) : Post := fun F e a W => bodyPost P fn (fun e W' => ∃ v H', e = .returned v ∧ RelV ⟨H', noγ⟩ r v ∧ FLe F.H0 H' ∧ (∀ b o, b < F.w0.heap.size → ¬ F.own b → H' b o = F.H0 b o) ∧ Sub H' W' ∧ BelowX F.own F.w0 W') e a W
section
variable {P : Program} {tt : TT} {n : Nat} {st : St}
theorem at_retC (htt : ttB P tt = true) {fn : Func} {rs : List ResultVar} {r' r : AV} (hr : resAll tt st rs = some r') (hle : AVle r' r) (hrs : fn.results = rs.toArray := by rfl) (hm : r.mids = [] := by rfl) : AtQ n .ret st (RetQC P fn r) := by
 intro F hF g W a h
 obtain ⟨u, hu, hrel⟩ := run_results htt h hrs hr
 exact ⟨h.defers.trans hF.ds, u, hu, u, g.H, rfl, (hle.1 _ _ hrel).noid hm (FLe.refl _) noγ, h.le, h.fresh, h.sub, h.below⟩
theorem fc_intro {f : FuncId} {fn : Func} {c : Code} {args : List AV} {fm : List (Nat × Blk)} {r : AV} (nx0 : Nat) (hf : P.funcs[f]? = some fn) (hb : fn.body = some c) (hN : fn.ntmps = n) (hle : Nat.ble args.length n = true) (hma : ∀ id ∈ midsVs args, id < 1000000 * nx0) (hmm : MemP (1000000 * nx0) fm) (hmr : r.mids = []) (hname : (fn.name != "runtime.NumGoroutine") = true)
  (h : TR P n c ⟨argSl 0 args, fm, nx0, []⟩ (RetQC P fn r)) : FnC P f args fm r := by
 refine ⟨by simp [callB, hf, hb, hname], hmr, ?_⟩
 intro g W vs hsub hrel hrep hinj
 refine calls_of_wp hf hb ?_
 have hlen := relVs_length hrel
 have hle := Nat.le_of_ble_eq_true hle
 have hmem : ∀ id b, St.kn ⟨argSl 0 args, fm, nx0, []⟩ (.m id) = some (.b b) → lookA id fm = some b := by
  intro id b e
  simp only [St.kn, Option.map_eq_some_iff] at e
  obtain ⟨x, hx, he⟩ := e
  cases he
  exact hx
 let F : Fix := { w0 := W, H0 := g.H, n := n, own := OwnM g fm, k0 := 0 }
 refine wp_mono (h F ⟨rfl, Nat.zero_le _, rfl, rfl⟩ g W _ ⟨?_, rfl, ?_, ?_, ?_, ?_, ?_, hsub, ⟨rfl, rfl, rfl, Nat.le_refl _, fun _ _ _ => rfl⟩, FLe.refl _, fun _ _ _ _ => rfl, fun _ h => absurd h (Nat.not_lt_zero _)⟩) (fun e a W' hq => hq)
 ·simp [hN, F]; omega
 ·intro t v ht
  simp only [St.kn, Option.map_eq_some_iff] at ht
  obtain ⟨x, hx, he⟩ := ht
  cases he
  obtain ⟨_, u, hu, hr, _⟩ := argSl_look args vs 0 hrel t v hx
  have hu' : vs[t]? = some u := by simpa using hu
  have hlt : t < vs.length := (List.getElem?_eq_some_iff.1 hu').1
  have : (vs.toArray ++ Array.replicate (fn.ntmps - vs.toArray.size) undef).getD t undef = u := by
   rw [Array.getD_eq_getD_getElem?, Array.getElem?_append_left (by simpa using hlt)]
   simp [hu']
  rw [this]
  exact hr
 ·intro id b e
  have e' := hmem id b e
  exact (hrep id b e').reN (fun k hk => .inr ⟨id, b, e', hk⟩) rfl rfl ⟨FLe.refl _, fun _ _ => rfl⟩
 ·intro id id' b b' k e e' h1 h2
  exact hinj id id' b b' k (hmem id b e) (hmem id' b' e') h1 h2
 ·intro k x e id hid
  cases k with
  | m j =>
   cases x with
   | v y => simp only [St.kn, Option.map_eq_some_iff] at e; obtain ⟨_, _, he⟩ := e; cases he
   | b b => exact (hmm j b (hmem j b e)).2 id hid
  | s t =>
   simp only [St.kn, Option.map_eq_some_iff] at e
   obtain ⟨y, hy, he⟩ := e
   subst he
   obtain ⟨_, u, _, _, h6⟩ := argSl_look args vs 0 hrel t y hy
   exact hma id (h6 id hid)
 ·intro id x e
  cases x with
  | v y => simp only [St.kn, Option.map_eq_some_iff] at e; obtain ⟨_, _, he⟩ := e; cases he
  | b b => exact (hmm id b (hmem id b e)).1
theorem lookA_some_mem {α : Type} {id : Nat} {b : α} : ∀ {l : List (Nat × α)}, lookA id l = some b → id ∈ l.map (·.1)
 | [], h => by simp [lookA] at h
 | (j, x) :: l, h => by
  simp only [lookA] at h
  split at h
  ·rename_i e; simp [e]
  ·exact List.mem_cons_of_mem _ (lookA_some_mem h)
theorem lookA_mem_some {α : Type} {id : Nat} : ∀ {l : List (Nat × α)}, id ∈ l.map (·.1) → ∃ b, lookA id l = some b
 | [], h => by cases h
 | (j, x) :: l, h => by
  simp only [lookA]
  split
  ·exact ⟨x, rfl⟩
  ·rename_i e
   rcases List.mem_cons.1 h with h | h
   ·exact absurd h.symm e
   ·exact lookA_mem_some h
theorem says_dels (l : List Nat) : ∀ k, says (l.map fun id => ((.m id : Key), (none : Option Info))) k = (match k with | .m id => if id ∈ l then some none else none | .s _ => none) := by
 induction l with
 | nil => intro k; cases k <;> simp [says]
 | cons x l ih =>
  intro k
  simp only [List.map_cons, says]
  cases k with
  | s t => simp [ih]
  | m id =>
   by_cases e : x = id
   ·subst e; simp
   ·simp only [Key.m.injEq, e, if_false, ih, List.mem_cons]
    have : ¬ id = x := fun h => e h.symm
    simp [this]
theorem callC_ok {n new : Nat} {ops : Array Oper} {i : Nat} {o : Oper} (ho : ops[i]? = some o) (hg : o.guard = none) {d : Nat} (hd : o.dst = some d) (hdn : d < n) {f : FuncId} {args : Array Operand} {tys : Array TypeId} (hop : o.op = .call ⟨.value (.func f), args, tys⟩)
  {sl : List (Nat × AV)} {conc fm : List (Nat × Blk)} {nx : Nat} {gd : List (Nat × Bool)} {vs : List AV} {r : AV} (hv : evs ⟨sl, conc ++ fm, nx, gd⟩ args.toList = some vs) (hf : FnC P f vs fm r) (hdis : ∀ id b, lookA id fm = some b → lookA id conc = none) :
  StepOk P n ops i ⟨sl, conc ++ fm, nx, gd⟩ ⟨(d, r) :: sl, conc, nx, gd⟩ new (okeys args.toList ++ mkeys (fm.map (·.1)), .s d :: (fm.map (·.1)).map .m) := by
 have hlook : ∀ id b, lookA id fm = some b → lookA id (conc ++ fm) = some b := fun id b hb => by
  rw [lookA_append, hdis id b hb, hb]; rfl
 refine ⟨args.toList.flatMap (opd ⟨sl, conc ++ fm, nx, gd⟩) ++ mrd ⟨sl, conc ++ fm, nx, gd⟩ (fm.map (·.1)), (.s d, some (.v r)) :: (fm.map (·.1)).map (fun id => (.m id, none)), ?_, ?_, ?_, ?_, ?_⟩
 ·intro F hFn Q known σ g W a K hnew hsem hrd hK
  have hargs := evs_rel hsem _ _ _ hv (fun kx hkx => hrd kx (List.mem_append_left _ hkx))
  have hmm := mrd_mem (st := ⟨sl, conc ++ fm, nx, gd⟩) (ids := fm.map (·.1)) (σ := σ) (fun kx hkx => hrd kx (List.mem_append_right _ hkx))
  have hσ : ∀ id b, lookA id fm = some b → σ (.m id) = some (.b b) := fun id b hb => hmm id (lookA_some_mem hb) b (hlook id b hb)
  have hc := hf.spec g W _ hsem.sub hargs (fun id b hb => (hsem.blks id b (hσ id b hb)).reN (fun _ _ => trivial) rfl rfl ⟨FLe.refl _, fun _ _ => rfl⟩) (fun id id' b b' k h1 h2 h3 h4 => hsem.inj id id' b b' k (hσ id b h1) (hσ id' b' h2) h3 h4)
  unfold wpOp
  simp only [ho, Region.wanted, hg, if_true]
  refine .inl ?_
  unfold Oper.wp
  have hma : args.map a.eval = (args.toList.map a.eval).toArray := by apply Array.ext'; simp
  have hex : (execOp a.eval o).run P W = .ok (.enter f (args.toList.map a.eval).toArray) W := by
   have hcb := hf.call
   unfold callB at hcb
   rw [execOp, hop]
   cases hfn : P.funcs[f]? with
   | none => rw [hfn] at hcb; simp at hcb
   | some fn =>
    rw [hfn] at hcb
    simp only [Bool.and_eq_true, bne_iff_ne, ne_eq] at hcb
    have h2 : fn.body ≠ none := by
     intro hb
     rw [hb] at hcb
     simp at hcb
    simp [resolve, Act.eval, Deferred.ofValue, invoke, callFunc, hfn, hcb.1, h2]
    exact hma
  rw [hex]
  simp only [Oper.upon]
  refine hc.mono ?_
  rintro e W' ⟨v, H', rfl, hrel, hle, hfr, hsub, hbl⟩
  simp only [hd]
  have hsz : d < a.tmps.size := by rw [hsem.size, hFn]; exact hdn
  have hGle : GLe (fun _ => True) g ⟨H', g.γ⟩ := ⟨hle, fun _ _ => rfl⟩
  have hN : ∀ b, OwnM g fm b → F.N b := by
   rintro b ⟨id, bb, h1, h2⟩
   exact ((hsem.blks id bb (hσ id bb h1)).block h2).1
  have hM : ∀ j b, upd σ ((.s d, some (.v r)) :: (fm.map (·.1)).map (fun id => (.m id, none))) (.m j) = some (.b b) → σ (.m j) = some (.b b) ∧ ∀ k, blk (g.γ j) = some k → ¬ OwnM g fm k := by
   intro j b hb
   simp only [upd, says, reduceCtorEq, if_false, says_dels] at hb
   by_cases e : j ∈ fm.map (·.1)
   ·rw [if_pos e] at hb; cases hb
   ·rw [if_neg e] at hb
    refine ⟨hb, fun k hk => ?_⟩
    rintro ⟨id, bb, h1, h2⟩
    have := hsem.inj j id b bb k hb (hσ id bb h1) hk h2
    subst this
    exact e (lookA_some_mem h1)
  refine hK ⟨H', g.γ⟩ W' _ ⟨by simp [Act.put, hsem.size], hsem.defers, ?_, ?_, ?_, ?_, ?_, hsub, ?_, hsem.le.trans hle, ?_, fun id hid => ⟨.inl (hsem.kfix id hid).1, (hsem.kfix id hid).2⟩⟩
  ·intro t u ht
   simp only [upd, says, says_dels] at ht
   by_cases e : d = t
   ·subst e
    simp only [if_true, Option.some.injEq, Info.v.injEq] at ht
    subst ht
    have := hrel.noid hf.noid (FLe.refl _) g.γ
    simpa [Act.put, hsz] using this
   ·have e' : ¬ (Key.s d = Key.s t) := fun h => e (by simpa using h)
    simp only [e', if_false] at ht
    have hv : (a.put (some d) v).tmps.getD t undef = a.tmps.getD t undef := by simp [Act.put, Array.getElem?_setIfInBounds_ne e]
    rw [hv]
    exact RelV.mono hGle (fun _ _ => trivial) (hsem.slots t u ht)
  ·intro j b hb
   obtain ⟨h1, h2⟩ := hM j b hb
   have hrep := hsem.blks j b h1
   refine hrep.keep hGle trivial (fun _ _ => trivial) (fun k hk => ?_)
   have hlt := (hrep.block hk).2
   exact ⟨hbl.block k hlt (h2 k hk), fun o => hfr k o hlt (h2 k hk)⟩
  ·intro j j' b b' k hb hb' h1 h2
   exact hsem.inj j j' b b' k (hM j b hb).1 (hM j' b' hb').1 h1 h2
  ·intro k x hx id hid
   cases k with
   | s t =>
    simp only [upd, says, says_dels] at hx
    by_cases e : d = t
    ·subst e
     simp only [if_true, Option.some.injEq] at hx
     subst hx
     have : id ∈ r.mids := hid
     rw [hf.noid] at this
     cases this
    ·have e' : ¬ (Key.s d = Key.s t) := fun h => e (by simpa using h)
     simp only [e', if_false] at hx
     exact .inl (hsem.mids _ _ hx id hid)
   | m j =>
    simp only [upd, says, reduceCtorEq, if_false, says_dels] at hx
    by_cases e : j ∈ fm.map (·.1)
    ·rw [if_pos e] at hx; cases hx
    ·rw [if_neg e] at hx; exact .inl (hsem.mids _ _ hx id hid)
  ·intro j x hx
   simp only [upd, says, reduceCtorEq, if_false, says_dels] at hx
   by_cases e : j ∈ fm.map (·.1)
   ·rw [if_pos e] at hx; cases hx
   ·rw [if_neg e] at hx; exact .inl (hsem.mkn _ _ hx)
  ·refine ⟨hbl.os.trans hsem.below.os, hbl.tape.trans hsem.below.tape, hbl.output.trans hsem.below.output, Nat.le_trans hsem.below.size hbl.size, fun k hk hno => ?_⟩
   have hlt : k < W.heap.size := Nat.lt_of_lt_of_le hk hsem.below.size
   rw [← hsem.below.block k hk hno]
   refine hbl.block k hlt (fun ho => ?_)
   rcases hN k ho with h1 | h1
   ·omega
   ·exact hno h1
  ·intro k o hk hno
   have hlt : k < W.heap.size := Nat.lt_of_lt_of_le hk hsem.below.size
   show H' k o = _
   rw [hfr k o hlt (fun ho => ?_)]
   ·exact hsem.fresh k o hk hno
   ·rcases hN k ho with h1 | h1
    ·omega
    ·exact hno h1
 ·intro kx hkx
  rcases List.mem_append.1 hkx with hkx | hkx
  ·obtain ⟨x, _, h⟩ := List.mem_flatMap.1 hkx
   exact opd_kn _ x kx h
  ·exact mrd_kn _ _ kx hkx
 ·funext k
  cases k with
  | s t =>
   simp only [upd, says, says_dels, St.kn, lookA]
   by_cases e : d = t
   ·simp [e]
   ·have e' : ¬ (Key.s d = Key.s t) := fun h => e (by simpa using h)
    simp [e, e']
  | m j =>
   simp only [upd, says, reduceCtorEq, if_false, says_dels, St.kn]
   by_cases e : j ∈ fm.map (·.1)
   ·rw [if_pos e]
    obtain ⟨b, hb⟩ := lookA_mem_some e
    simp [hdis j b hb]
   ·rw [if_neg e]
    show _ = Option.map Info.b (lookA j (conc ++ fm))
    rw [lookA_append]
    cases h1 : lookA j fm with
    | some b => exact absurd (lookA_some_mem h1) e
    | none => rw [Option.or_none]
 ·intro k hk
  simp only [rkeysOf, List.map_append, List.mem_append] at hk
  rcases hk with h | h
  ·exact List.mem_append_left _ (okeys_opd _ _ k h)
  ·exact List.mem_append_right _ (mkeys_mrd _ _ k h)
 ·intro k hk
  simp only [keysOf, List.map_cons, List.mem_cons, List.map_map] at hk
  rcases hk with h | h
  ·exact List.mem_cons.2 (.inl h)
  ·refine List.mem_cons.2 (.inr ?_)
   simpa [Function.comp] using h
end
end Go.El

/- Short rules: slices of slices. Own work; no condition. -/
namespace Go.El
open Go Go.RowKit Go.Proofs
def nst (o : Nat) (E0 : TypeId) (r : Nat) (E : TypeId) (T : ET) (f : Nat → List T.den) : List (Nat × Blk) := (o, .box E0 0 ((List.range r).map fun i => .X (1 + i))) :: fam r E T f
theorem lookA_skip {α : Type} {k t : Nat} {x : α} {l : List (Nat × α)} (h : k ≠ t) : lookA t ((k, x) :: l) = lookA t l := by simp only [lookA, if_neg h]
theorem lookA_hit {α : Type} {t : Nat} {x : α} {l : List (Nat × α)} : lookA t ((t, x) :: l) = some x := by simp only [lookA, if_pos]
theorem memB_nst {K o : Nat} {E0 : TypeId} {r : Nat} {E : TypeId} {T : ET} {f : Nat → List T.den} (ho : o < K) (hr : 1 + r ≤ K) : memB K (nst o E0 r E T f) = true := by
 simp only [nst, memB, Blk.mids, Bool.and_eq_true]
 refine ⟨⟨Nat.ble_eq_true_of_le ho, midsB_cells fun c hc id hid => ?_⟩, memB_fam hr⟩
 obtain ⟨i, hi, rfl⟩ := List.mem_map.1 hc
 have := List.mem_range.1 hi
 simp only [C.mids, List.mem_singleton] at hid
 omega
theorem wk_nst {st : St} {sl' : List (Nat × AV)} {conc : List (Nat × Blk)} {nx' : Nat} {gd' : List (Nat × Bool)} {o : Nat} {E0 : TypeId} {r : Nat} {E : TypeId} {T : ET} {f : Nat → List T.den} (hs : WkS st.sl sl') (hm : WkM st.mem conc)
  (hbox : lookA o st.mem = some (.box E0 0 ((List.range r).map fun i => .X (1 + i)))) (hf : ∀ i, i < r → lookA (1 + i) st.mem = some (.vec E T (f i))) (hr : r ≤ 900) (hb : (slB (1000000 * nx') sl' && memB (1000000 * nx') conc && Nat.ble 1 nx' && Nat.blt o (1000000 * nx')) = true := by rfl) : Wk st ⟨sl', conc ++ nst o E0 r E T f, nx', gd'⟩ := by
 simp only [Bool.and_eq_true] at hb
 obtain ⟨⟨⟨h1, h2⟩, h3⟩, h4⟩ := hb
 have h4' : o < 1000000 * nx' := Nat.le_of_ble_eq_true h4
 have h3' := Nat.le_of_ble_eq_true h3
 refine wk hs (WkM.app hm ⟨⟨_, hbox, BLe.refl _⟩, WkM.fam hf⟩) ?_
 simp only [Bool.and_eq_true, Bool.or_eq_true]
 exact ⟨⟨h1, memB_append h2 (memB_nst h4' (by omega))⟩, .inl h3⟩
theorem frzMem_append (id : Nat) (T : ET) (xs : List T.den) : ∀ a b : List (Nat × Blk), frzMem id T xs (a ++ b) = frzMem id T xs a ++ frzMem id T xs b
 | [], _ => rfl
 | (j, x) :: a, b => by
  simp only [List.cons_append, frzMem]
  split
  ·exact frzMem_append id T xs a b
  ·rw [frzMem_append id T xs a b]; rfl
theorem frzL_cells {id : Nat} {T : ET} {xs : List T.den} : ∀ {L : List Nat}, (∀ i ∈ L, 1 + i ≠ id) → frzL id T xs (L.map fun i => C.X (1 + i)) = L.map fun i => C.X (1 + i)
 | [], _ => rfl
 | i :: L, h => by
  simp only [List.map_cons, frzL, frzC]
  rw [if_neg (h i (by simp)), frzL_cells fun j hj => h j (by simp [hj])]
theorem frzMem_fam {id : Nat} {T' : ET} {xs : List T'.den} {E : TypeId} {T : ET} {f : Nat → List T.den} : ∀ {L : List Nat}, (∀ i ∈ L, 1 + i ≠ id) → frzMem id T' xs (L.map fun i => (1 + i, Blk.vec E T (f i))) = L.map fun i => (1 + i, Blk.vec E T (f i))
 | [], _ => rfl
 | i :: L, h => by
  simp only [List.map_cons, frzMem, frzB]
  rw [if_neg (h i (by simp)), frzMem_fam fun j hj => h j (by simp [hj])]
theorem frzMem_nst {id : Nat} {T' : ET} {xs : List T'.den} {o : Nat} {E0 : TypeId} {r : Nat} {E : TypeId} {T : ET} {f : Nat → List T.den} (ho : o ≠ id) (hid : 1000 ≤ id) (hr : r ≤ 900) : frzMem id T' xs (nst o E0 r E T f) = nst o E0 r E T f := by
 have hne : ∀ i ∈ List.range r, 1 + i ≠ id := fun i hi => by have := List.mem_range.1 hi; omega
 unfold nst fam
 simp only [frzMem, if_neg ho, frzB]
 rw [frzL_cells hne, frzMem_fam hne]
section
variable {n : Nat} {Q : Post}
theorem tr_frzN (id : Nat) {E1 : TypeId} {T1 : ET} {xs : List T1.den} {c : Code} {sl : List (Nat × AV)} {conc : List (Nat × Blk)} {nx : Nat} {gd : List (Nat × Bool)} {o : Nat} {E0 : TypeId} {r : Nat} {E : TypeId} {T : ET} {f : Nat → List T.den} (hl : lookA id (conc ++ nst o E0 r E T f) = some (.vec E1 T1 xs)) {sl' : List (Nat × AV)} {conc' : List (Nat × Blk)} (hs : frzSl id T1 xs sl = sl') (hm : frzMem id T1 xs conc = conc') (hr : r ≤ 900)
  (h : TR Tryz.prog n c ⟨sl', conc' ++ nst o E0 r E T f, nx, gd⟩ Q) (ho : (Nat.ble 1000 id && !Nat.beq o id) = true := by rfl) : TR Tryz.prog n c ⟨sl, conc ++ nst o E0 r E T f, nx, gd⟩ Q := by
 simp only [Bool.and_eq_true, Bool.not_eq_true'] at ho
 have h1 := Nat.le_of_ble_eq_true ho.1
 have h2 : o ≠ id := fun e => by rw [e, Nat.beq_refl] at ho; cases ho.2
 refine tr_frz id hl hs rfl ?_
 rw [frzMem_append, hm, frzMem_nst h2 h1 hr]
 exact h
end
section
variable {n : Nat} {sl sl' : List (Nat × AV)} {mem mem' : List (Nat × Blk)} {nx : Nat} {gd gd' : List (Nat × Bool)} {ops : Array Oper} {draw : Bool} {p : Pr} {ks ks' : List Ks} {i i' n0 n0' : Nat} {os os' : List Oper} {d : Nat} {ty : TypeId} {pos : String} {aft : Array Edge} {R : St → Prop}
theorem rk (k : Nat) {o : Oper} (h : runs TTab n nx draw ops.toList (os.take k) i ⟨sl, mem, n0, gd⟩ .t ks = ([], i', ⟨sl', mem', n0', gd'⟩, p, ks')) (hos : os.drop k = o :: os') (hk : RG Tryz.prog n ops draw nx i' (o :: os') ⟨sl', mem', n0', gd'⟩ ks' R)
  (hp : p := by first | trivial | (simp only [Pr.an, Pr.h, num, i64r, true_and, and_true]; first | done | omega)) : RG Tryz.prog n ops draw nx i os ⟨sl, mem, n0, gd⟩ ks R := rg_runK TT_ok k h hp hos hk
theorem rxl {op : Op} {x : AV} {pm : Pr} (h : runs TTab n nx draw ops.toList os i ⟨sl, mem, n0, gd⟩ .t ks = (⟨some d, op, ty, pos, aft, none⟩ :: os', i', ⟨sl', mem', n0', gd'⟩, p, ks')) (he : evalL TTab ⟨sl', mem', n0', gd'⟩ op = some (x, pm)) (hpm : pm)
  (hk : RG Tryz.prog n ops draw nx (i' + 1) os' ⟨(d, x) :: sl', mem', n0', gd'⟩ (addK draw ks' (okeys op.operands.toList, [.s d])) R)
  (hp : p := by first | trivial | (simp only [Pr.an, Pr.h, num, i64r, true_and, and_true]; first | done | omega)) (hdn : Nat.blt d n = true := by rfl) : RG Tryz.prog n ops draw nx i os ⟨sl, mem, n0, gd⟩ ks R :=
 rg_run TT_ok h hp (rg_evalL TT_ok he hpm hk hdn)
end
theorem flatRep1 (c : C) : ∀ m, flatRep [c] m = List.replicate m c
 | 0 => rfl
 | m + 1 => by rw [flatRep, flatRep1 c m]; rfl
end Go.El

/- The engine, part 48: a slice of slices that a call reads in place; short rules for function values. Own work; no condition. -/
namespace Go.El
open Go Go.RowKit Go.Proofs
theorem nst_frz {F : Fix} {known : Nat → Prop} {σ : Kn} {g : Gh} {W : World} {a : Act} (h : Hold F known σ g W a) {o r : Nat} {E0 : TypeId} {bz : Nat} {E : TypeId} {T : ET} {f : Nat → List T.den} (ho : σ (.m o) = some (.b (.box E0 bz ((List.range r).map fun i => .X (1 + i))))) (hf : ∀ i, i < r → σ (.m (1 + i)) = some (.b (.vec E T (f i)))) (hr : r ≤ 140737488355328) :
  ∃ HF, FLe g.H HF ∧ Sub HF W ∧ ∀ k len cap v, RelC g (.L o k len (some cap)) v → k + len ≤ r → len ≤ cap → RelSl (RelD HF (.sl T)) 1 HF ((List.range len).map fun i => f (k + i)) v := by
 obtain ⟨b, vs, rest, hγ, hh, hrl, hN, hz, _⟩ := h.blks o _ ho
 have hrep := fun i (hi : i < r) => h.blks (1 + i) (.vec E T (f i)) (hf i hi)
 let S : Nat → Prop := fun k => k = b ∨ ∃ i, i < r ∧ blk (g.γ (1 + i)) = some k
 have hSz : ∀ k, S k → ∀ o, g.H k o = none := by
  rintro k (rfl | ⟨i, hi, hk⟩) o
  ·exact hz o
  ·rcases hrep i hi with ⟨e, _⟩ | ⟨b2, cap, us, e, _, _, _, _, _, _, hz2⟩
   ·rw [e] at hk; cases hk
   ·rw [e] at hk; simp only [blk, Option.some.injEq] at hk; subst hk; exact hz2 o
 classical
 let H' : FH := fun k o => if S k then W.cell? ⟨k, o, none⟩ else g.H k o
 have hle : FLe g.H H' := by
  intro k o v hv
  by_cases e : S k
  ·rw [hSz k e o] at hv; cases hv
  ·simp only [H', if_neg e]; exact hv
 have hvl := hrl.length
 simp only [List.length_map, List.length_range] at hvl
 refine ⟨H', hle, ?_, ?_⟩
 ·intro k o v hv
  by_cases e : S k
  ·simp only [H', if_pos e] at hv; exact hv
  ·simp only [H', if_neg e] at hv; exact h.sub k o v hv
 ·rintro k len cap v ⟨b', hγ', huv⟩ hkl hlc
  rw [hγ] at hγ'
  simp only [Option.some.injEq] at hγ'
  subst hγ'
  refine ⟨some ⟨b, k, none⟩, cap, by rw [huv]; simp, by simpa using hlc, by simp only [List.length_map, List.length_range]; omega, ?_⟩
  by_cases h0 : len = 0
  ·subst h0; exact .inl rfl
  refine .inr ⟨b, k, rfl, fun i hi => ?_⟩
  have hi' : i < len := by simpa using hi
  have hki : k + i < r := by omega
  have hcell : ((List.range r).map fun i => C.X (1 + i))[k + i]? = some (.X (1 + (k + i))) := by simp [hki]
  obtain ⟨w, hw, hwr⟩ := RelL.get hrl hcell
  have hwv : w = g.γ (1 + (k + i)) := hwr
  refine ⟨[w], rfl, ?_, ?_⟩
  ·simp only [List.getElem_map, List.getElem_range]
   refine ⟨w, rfl, ?_⟩
   rw [hwv]
   rcases hrep (k + i) hki with ⟨e, e2⟩ | ⟨b2, cap, us, e, e2, e3, e4, e5, e6, e7, e8⟩
   ·rw [e, e2]; exact ⟨none, 0, rfl, by simp, by simp, .inl rfl⟩
   ·refine ⟨some ⟨b2, 0, none⟩, cap, e, e4, e5, ?_⟩
    by_cases hx : f (k + i) = []
    ·exact .inl hx
    refine .inr ⟨b2, 0, rfl, fun q hq => ⟨(us.drop (q * T.n)).take T.n, RelD.length T _ _ (e6 q hq), RelD.mono hle T _ _ (e6 q hq), fun j hj => ?_⟩⟩
    have hS : S b2 := .inr ⟨k + i, hki, by rw [e]; rfl⟩
    have hk2 : (q + 1) * T.n ≤ cap * T.n := Nat.mul_le_mul_right _ (by omega)
    rw [Nat.add_mul, Nat.one_mul] at hk2
    simp only [List.length_take, List.length_drop] at hj
    simp only [H', if_pos hS, Nat.zero_add, List.getElem_take, List.getElem_drop]
    exact cell_of_block e2 _ (by omega)
  ·intro j hj
   have hj0 : j = 0 := by simpa using hj
   subst hj0
   have hS : S b := .inl rfl
   have hwi : k + i < vs.length := by omega
   have hwe : vs[k + i] = w := by
    rw [List.getElem?_eq_getElem hwi] at hw
    exact Option.some.inj hw
   simp only [H', if_pos hS, List.getElem_cons_zero, Nat.mul_one, Nat.add_zero]
   rw [cell_of_block hh (k + i) (by simp; omega), List.getElem_append_left hwi, hwe]
section
variable {n : Nat} {Q : Post} {sl sl' : List (Nat × AV)} {mem mem' : List (Nat × Blk)} {nx : Nat} {gd gd' : List (Nat × Bool)} {ops : Array Oper} {draw : Bool} {p : Pr} {ks ks' : List Ks} {i i' n0 n0' : Nat} {os os' : List Oper} {d : Nat} {ty : TypeId} {pos : String} {aft : Array Edge} {R : St → Prop}
theorem rmf {f : FuncId} {first caps : Array Operand} {fs cs : List (Bool × List C)} (h : runs TTab n nx draw ops.toList os i ⟨sl, mem, n0, gd⟩ .t ks = (⟨some d, .makeFunc (.func f) first caps, ty, pos, aft, none⟩ :: os', i', ⟨sl', mem', n0', gd'⟩, p, ks')) (hf : evT ⟨sl', mem', n0', gd'⟩ first.toList = some fs) (hc : evT ⟨sl', mem', n0', gd'⟩ caps.toList = some cs)
  (hk : RG Tryz.prog n ops draw nx (i' + 1) os' ⟨(d, .c (.M (cloM f fs cs))) :: sl', mem', n0', gd'⟩ (addK draw ks' (okeys (first.toList ++ caps.toList), [.s d])) R) (h1 : midsT fs = [] := by rfl) (h2 : midsT cs = [] := by rfl)
  (hp : p := by first | trivial | (simp only [Pr.an, Pr.h, num, i64r, true_and, and_true]; first | done | omega)) (hdn : Nat.blt d n = true := by rfl) : RG Tryz.prog n ops draw nx i os ⟨sl, mem, n0, gd⟩ ks R :=
 rg_run TT_ok h hp (rg_ok (fun ho => mkfn_ok ho rfl rfl (Nat.le_of_ble_eq_true hdn) rfl hf hc h1 h2) (rg_addK hk))
theorem rcs {cf : Operand} {args : Array Operand} {tys : Array TypeId} {c : C} {f : FuncId} {us ws vs : List AV} {r : AV} (h : runs TTab n nx draw ops.toList os i ⟨sl, mem, n0, gd⟩ .t ks = (⟨some d, .call ⟨.value cf, args, tys⟩, ty, pos, aft, none⟩ :: os', i', ⟨sl', mem', n0', gd'⟩, p, ks')) (hcf : St.ev ⟨sl', mem', n0', gd'⟩ cf = some (.c c)) (hfa : FnA c f us ws) (hv : evs ⟨sl', mem', n0', gd'⟩ args.toList = some vs) (hf : FnS Tryz.prog f (us ++ (vs ++ ws)) r)
  (hk : RG Tryz.prog n ops draw nx (i' + 1) os' ⟨(d, r) :: sl', mem', n0', gd'⟩ (addK draw ks' (okeys (cf :: args.toList), [.s d])) R) (hm : midsVs (us ++ (vs ++ ws)) = [] := by rfl)
  (hp : p := by first | trivial | (simp only [Pr.an, Pr.h, num, i64r, true_and, and_true]; first | done | omega)) (hdn : Nat.blt d n = true := by rfl) : RG Tryz.prog n ops draw nx i os ⟨sl, mem, n0, gd⟩ ks R :=
 rg_run TT_ok h hp (rg_ok (fun ho => callSl_ok ho rfl rfl (Nat.le_of_ble_eq_true hdn) rfl hcf hfa hv hm hf) (rg_addK hk))
theorem rcsg {j tg : Nat} {want b : Bool} {cf : Operand} {args : Array Operand} {tys : Array TypeId} {c : C} {f : FuncId} {us ws vs : List AV} {r : AV} (h : runs TTab n nx draw ops.toList os i ⟨sl, mem, n0, gd⟩ .t ks = (⟨some d, .call ⟨.value cf, args, tys⟩, ty, pos, aft, some (j, want)⟩ :: os', i', ⟨sl', mem', n0', gd'⟩, p, ks')) (hj : gslot ops.toList j = some tg) (hb : lookA tg sl' = some (.c (.B b))) (hbw : b = want) (hcf : St.ev ⟨sl', mem', n0', gd'⟩ cf = some (.c c)) (hfa : FnA c f us ws) (hv : evs ⟨sl', mem', n0', gd'⟩ args.toList = some vs) (hf : FnS Tryz.prog f (us ++ (vs ++ ws)) r)
  (hk : RG Tryz.prog n ops draw nx (i' + 1) os' ⟨(d, r) :: sl', mem', n0', gd'⟩ (addK draw ks' (.s tg :: okeys (cf :: args.toList), [.s d])) R) (hm : midsVs (us ++ (vs ++ ws)) = [] := by rfl)
  (hp : p := by first | trivial | (simp only [Pr.an, Pr.h, num, i64r, true_and, and_true]; first | done | omega)) (hdn : Nat.blt d n = true := by rfl) : RG Tryz.prog n ops draw nx i os ⟨sl, mem, n0, gd⟩ ks R :=
 rg_run TT_ok h hp (rg_ok (fun ho => guard_go ho rfl hj hb hbw (callSl_ok (ops := #[⟨some d, .call ⟨.value cf, args, tys⟩, ty, pos, aft, none⟩]) (i := 0) rfl rfl rfl (Nat.le_of_ble_eq_true hdn) rfl hcf hfa hv hm hf)) (rg_addK hk))
theorem rct {f : FuncId} {args : Array Operand} {tys : Array TypeId} {o r k len cap : Nat} {E0 : TypeId} {bz : Nat} {E : TypeId} {T : ET} {F : Nat → List T.den} {m : MP} {z : C} (h : runs TTab n nx draw ops.toList os i ⟨sl, mem, n0, gd⟩ .t ks = (⟨some d, .call ⟨.value (.func f), args, tys⟩, ty, pos, aft, none⟩ :: os', i', ⟨sl', mem', n0', gd'⟩, p, ks')) (hv : evs ⟨sl', mem', n0', gd'⟩ args.toList = some [.c (.L o k len (some cap)), .c (.M m)])
  (ho : lookA o mem' = some (.box E0 bz ((List.range r).map fun i => .X (1 + i)))) (hF : ∀ i, i < r → lookA (1 + i) mem' = some (.vec E T (F i))) (hr : r ≤ 140737488355328) (hkl : k + len ≤ r) (hlc : len ≤ cap)
  (hf : FnS Tryz.prog f [cS (.sl T) ((List.range len).map fun i => F (k + i)), .c (.M m)] (.c z)) (hz : ∀ g g' v, RelC g z v → RelC g' z v)
  (hk : RG Tryz.prog n ops draw nx (i' + 1) os' ⟨(d, .c z) :: sl', mem', n0', gd'⟩ (addK draw ks' (okeys args.toList ++ mkeys (o :: (List.range r).map fun i => 1 + i), [.s d])) R)
  (hp : p := by first | trivial | (simp only [Pr.an, Pr.h, num, i64r, true_and, and_true]; first | done | omega)) (hdn : Nat.blt d n = true := by rfl) : RG Tryz.prog n ops draw nx i os ⟨sl, mem, n0, gd⟩ ks R := by
 refine rg_run TT_ok h hp (rg_ok (fun hop => callT_ok hop rfl rfl (Nat.le_of_ble_eq_true hdn) rfl hv hf hz (ids := o :: (List.range r).map fun i => 1 + i) ?_) (rg_addK hk))
 intro Fx known σ g W a us hsem hrd hus
 have hmm := mrd_mem (st := ⟨sl', mem', n0', gd'⟩) (ids := o :: (List.range r).map fun i => 1 + i) (σ := σ) hrd
 obtain ⟨HF, h1, h2, h3⟩ := nst_frz hsem (hmm o (by simp) _ ho) (fun i hi => hmm (1 + i) (List.mem_cons_of_mem _ (List.mem_map.2 ⟨i, List.mem_range.2 hi, rfl⟩)) _ (hF i hi)) hr
 refine ⟨HF, h2, ?_⟩
 obtain ⟨u1, r1, rfl, k1, u2, r2, rfl, k2, k3⟩ := hus
 exact ⟨u1, _, rfl, h3 k len cap u1 k1 hkl hlc, u2, r2, rfl, m.mono _ _ _ h1 k2, k3⟩
theorem rcc {f : FuncId} {args : Array Operand} {tys : Array TypeId} {conc fm : List (Nat × Blk)} {vs : List AV} {r : AV} (h : runs TTab n nx draw ops.toList os i ⟨sl, mem, n0, gd⟩ .t ks = (⟨some d, .call ⟨.value (.func f), args, tys⟩, ty, pos, aft, none⟩ :: os', i', ⟨sl', conc ++ fm, n0', gd'⟩, p, ks')) (hv : evs ⟨sl', conc ++ fm, n0', gd'⟩ args.toList = some vs) (hf : FnC Tryz.prog f vs fm r) (hdis : ∀ id b, lookA id fm = some b → lookA id conc = none)
  (hk : RG Tryz.prog n ops draw nx (i' + 1) os' ⟨(d, r) :: sl', conc, n0', gd'⟩ (addK draw ks' (okeys args.toList ++ mkeys (fm.map (·.1)), .s d :: (fm.map (·.1)).map .m)) R)
  (hp : p := by first | trivial | (simp only [Pr.an, Pr.h, num, i64r, true_and, and_true]; first | done | omega)) (hdn : Nat.blt d n = true := by rfl) : RG Tryz.prog n ops draw nx i os ⟨sl, mem, n0, gd⟩ ks R :=
 rg_run TT_ok h hp (rg_ok (fun ho => callC_ok ho rfl rfl (Nat.le_of_ble_eq_true hdn) rfl hv hf hdis) (rg_addK hk))
end
end Go.El

/- The engine, part 49: nil as an owned slice. Own work; no condition. -/
namespace Go.El
open Go Go.RowKit
def WkO (l : List (Nat × AV)) (id : Nat) : List (Nat × AV) → Prop
 | [] => True
 | (t, v') :: r => ((∃ v, lookA t l = some v ∧ AVle v v') ∨ (lookA t l = some (.c (.V (.slice none 0 0))) ∧ v' = .c (.X id))) ∧ WkO l id r
theorem WkO.get {l : List (Nat × AV)} {id : Nat} : ∀ {m : List (Nat × AV)}, WkO l id m → ∀ {t v'}, lookA t m = some v' → (∃ v, lookA t l = some v ∧ AVle v v') ∨ (lookA t l = some (.c (.V (.slice none 0 0))) ∧ v' = .c (.X id))
 | [], _, _, _, h => by simp [lookA] at h
 | (k, x) :: m, hw, t, v', h => by
  simp only [lookA] at h
  split at h
  ·rename_i e; subst e; cases h; exact hw.1
  ·exact WkO.get hw.2 h
theorem wk_nil (id : Nat) (E : TypeId) (T : ET) {sl : List (Nat × AV)} {mem : List (Nat × Blk)} {nx : Nat} {gd : List (Nat × Bool)} {sl' : List (Nat × AV)} {m2 : List (Nat × Blk)} {nx' : Nat} {gd' : List (Nat × Bool)} (hs : WkO sl id sl') (hm : WkM mem m2) (hid : Nat.ble (1000000 * nx) id = true)
  (hbm : MemP (1000000 * nx') ((id, .vec E T []) :: m2)) (hbs : slB (1000000 * nx') sl' = true := by rfl) (hnx : (Nat.ble 1 nx' && Nat.ble 1 id) = true := by rfl) : Wk ⟨sl, mem, nx, gd⟩ ⟨sl', (id, .vec E T []) :: m2, nx', gd'⟩ := by
 generalize hst : (⟨sl, mem, nx, gd⟩ : St) = st
 obtain rfl : sl = st.sl := by rw [← hst]
 obtain rfl : mem = st.mem := by rw [← hst]
 obtain rfl : nx = st.nx := by rw [← hst]
 clear hst
 intro F hk0 g W a h
 simp only [Bool.and_eq_true] at hnx
 obtain ⟨hnx, hid1⟩ := hnx
 have hnx := Nat.le_of_ble_eq_true hnx
 have hid1 := Nat.le_of_ble_eq_true hid1
 have hid := Nat.le_of_ble_eq_true hid
 let g' : Gh := ⟨g.H, fun j => if j = id then .slice none 0 0 else g.γ j⟩
 have hle : GLe (kb st) g g' := ⟨FLe.refl _, fun j hj => by
  have hj : j < 1000000 * st.nx := hj
  have : j ≠ id := by omega
  simp [g', this]⟩
 have hgi : g'.γ id = .slice none 0 0 := by simp [g']
 have hkf : ∀ id, id < F.k0 → id < 1000000 * nx' ∧ g'.γ id = F.γ0 id := by
  intro j hj
  obtain ⟨h1, h2⟩ := h.kfix j hj
  refine ⟨by omega, ?_⟩
  rw [hle.γ j h1]; exact h2
 have hS : ∀ t v', St.kn ⟨sl', (id, .vec E T []) :: m2, nx', gd'⟩ (.s t) = some (.v v') → ((∃ v, st.kn (.s t) = some (.v v) ∧ AVle v v') ∨ (st.kn (.s t) = some (.v (.c (.V (.slice none 0 0)))) ∧ v' = .c (.X id))) ∧ ∀ id ∈ v'.mids, id < 1000000 * nx' := by
  intro t v' e
  simp only [St.kn, Option.map_eq_some_iff] at e
  obtain ⟨y, hy, he⟩ := e
  cases he
  refine ⟨?_, slB_ok hbs t v' hy⟩
  rcases hs.get hy with ⟨v, hv, hle⟩ | ⟨hv, e⟩
  ·exact .inl ⟨v, by simp [St.kn, hv], hle⟩
  ·exact .inr ⟨by simp [St.kn, hv], e⟩
 have hM : ∀ j b', St.kn ⟨sl', (id, .vec E T []) :: m2, nx', gd'⟩ (.m j) = some (.b b') → ((j = id ∧ b' = .vec E T []) ∨ ∃ b, st.kn (.m j) = some (.b b) ∧ BLe b b') ∧ (j < 1000000 * nx' ∧ ∀ i ∈ b'.mids, i < 1000000 * nx') := by
  intro t v' e
  simp only [St.kn, Option.map_eq_some_iff] at e
  obtain ⟨y, hy, he⟩ := e
  cases he
  refine ⟨?_, hbm t v' hy⟩
  simp only [lookA] at hy
  split at hy
  ·rename_i e; cases hy; exact .inl ⟨e.symm, rfl⟩
  ·obtain ⟨v, hv, hle⟩ := hm.get hy
   exact .inr ⟨v, by simp [St.kn, hv], hle⟩
 refine ⟨g', h.size, h.defers, ?_, ?_, ?_, ?_, ?_, h.sub, h.below, h.le, h.fresh, hkf⟩
 ·intro t v' e
  rcases (hS t v' e).1 with ⟨v, hv, hav⟩ | ⟨hv, rfl⟩
  ·exact hav.1 _ _ (RelV.mono hle (h.mids _ _ hv) (h.slots t v hv))
  ·have h1 : a.tmps.getD t undef = .slice none 0 0 := h.slots t _ hv
   show _ = g'.γ id
   rw [hgi]; exact h1
 ·intro j b' e
  rcases (hM j b' e).1 with ⟨rfl, rfl⟩ | ⟨b, hb, hbl⟩
  ·exact .inl ⟨hgi, rfl⟩
  ·exact hbl.1 _ _ _ _ ((h.blks j b hb).keep hle (h.mkn _ _ hb) (h.mids _ _ hb) (fun k hk => ⟨rfl, fun o => rfl⟩))
 ·intro i j b1 b2 k e e' hk hk'
  rcases (hM i b1 e).1 with ⟨rfl, _⟩ | ⟨c, hc, _⟩
  ·rw [hgi] at hk; cases hk
  ·rcases (hM j b2 e').1 with ⟨rfl, _⟩ | ⟨c', hc', _⟩
   ·rw [hgi] at hk'; cases hk'
   ·rw [hle.γ i (h.mkn _ _ hc)] at hk
    rw [hle.γ j (h.mkn _ _ hc')] at hk'
    exact h.inj i j c c' k hc hc' hk hk'
 ·intro k y e i hi
  cases k with
  | s t =>
   cases y with
   | v v' => exact (hS t v' e).2 i hi
   | b b' => simp only [St.kn, Option.map_eq_some_iff] at e; obtain ⟨_, _, he⟩ := e; cases he
  | m j =>
   cases y with
   | v v' => simp only [St.kn, Option.map_eq_some_iff] at e; obtain ⟨_, _, he⟩ := e; cases he
   | b b' => exact (hM j b' e).2.2 i hi
 ·intro j y e
  cases y with
  | v v' => simp only [St.kn, Option.map_eq_some_iff] at e; obtain ⟨_, _, he⟩ := e; cases he
  | b b' => exact (hM j b' e).2.1
end Go.El

/- Contracts: powers modulo a polynomial; derivatives. Own work; no condition. -/
namespace Go.El
open Go Go.Proofs Fx
noncomputable def lst {p : Nat} (H : P31 p) (A : Fx p) : List Int := Classical.choose (rep H.pos A)
theorem lst_c {p : Nat} (H : P31 p) (A : Fx p) : pcan p (lst H A) := (Classical.choose_spec (rep H.pos A)).1
theorem lst_fx {p : Nat} (H : P31 p) (A : Fx p) : fx (lst H A) = A := (Classical.choose_spec (rep H.pos A)).2
noncomputable def modF {p : Nat} (H : P31 p) (f : List Int) (A : Fx p) : List Int := (pdivide (lst H A) f p).2
section
variable {p : Nat} (H : P31 p) {f : List Int} (hf : pcan p f) (hf0 : f ≠ [])
include hf hf0
theorem modF_ok (A : Fx p) : pcan p (modF H f A) ∧ (modF H f A).length < f.length ∧ fx f ∣ fx (modF H f A) - A := by
 obtain ⟨d1, d2, d3, d4, d5, d6⟩ := pdiv_ok H.hp H.le (lst_c H A).1 hf hf0
 have hl := List.length_pos_iff.2 hf0
 refine ⟨d5 (lst_c H A), by show (pdivide (lst H A) f p).2.length < _; omega, ?_⟩
 have := rem_cong H (lst_c H A) hf hf0
 rwa [lst_fx] at this
theorem modF_uniq {A : Fx p} {r : List Int} (hr : pcan p r) (hl : r.length < f.length) (hc : fx f ∣ fx r - A) : r = modF H f A := by
 obtain ⟨m1, m2, m3⟩ := modF_ok H hf hf0 A
 have h1 : fx f ∣ fx r - fx (modF H f A) := dvd_sub_trans hc (dvd_sub_comm m3)
 have h2 := dvd_small H h1 (by
  have := sz_sub H.pos (fx r : Fx p) (fx (modF H f A))
  rw [sz_fx hr, sz_fx m1] at this
  rw [sz_fx hf]; omega)
 exact fx_inj hr m1 (eq_of_sub h2)
end
def prodF (p : Nat) (f a b : List Int) : List Int := (pdivide (ptimes a b p) f p).2
theorem prodF_ok {p : Nat} (H : P31 p) {f a b : List Int} (hf : pcan p f) (hf0 : f ≠ []) : pcan p (prodF p f a b) ∧ (prodF p f a b).length < f.length ∧ (fx f : Fx p) ∣ fx (prodF p f a b) - fx a * fx b := by
 obtain ⟨d1, d2, d3, d4, d5, d6⟩ := pdiv_ok H.hp H.le (ptimes_pcan H.pos a b).1 hf hf0
 have hl := List.length_pos_iff.2 hf0
 refine ⟨d5 (ptimes_pcan H.pos a b), by show (pdivide (ptimes a b p) f p).2.length < _; omega, ?_⟩
 have := rem_cong H (ptimes_pcan H.pos a b) hf hf0
 rwa [fx_times] at this
abbrev cloP (f : List Int) (p : Int) : AV := .c (.M (cloM 159 [(true, [.S U64 f, .I .u64 p])] []))
set_option maxHeartbeats 4000000 in
theorem power_s {p : Nat} (H : P31 p) (f a : List Int) (n : Nat) (lf : f.length ≤ 200) (hf : pcan p f) (ha : pcan p a) (hal : a.length < f.length) (hn0 : 0 < n) (hn : n < 18446744073709551616) :
  FnS Tryz.prog 182 [aP a p, cU n, cloP f p] (aP (modF H f (pk (fx a) n)) p) := by
 refine fs_intro Tryz.func182 rfl rfl rfl rfl rfl (by decide) ?_
 have hf0 : f ≠ [] := fun e => by rw [e] at hal; simp at hal
 refine rr rfl (rr rfl (tr_seq (rr rfl ?_)))
 refine tr_block (tr_loop (α := List Int × List Int × Nat) (fun x => ⟨[(1, cU x.2.2), (2, cloP f p), (3, .c (.P 0 0)), (6, .c (.P 1000 0)), (7, .c (.P 1001000 0))], [(0, .box 101 0 [.S U64 x.2.1, .I .u64 p]), (1000, .box 101 0 [.V (.slice none 0 0), .I .u64 0]), (1001000, .box 101 0 [.S U64 x.1, .I .u64 p])], 3, []⟩) (fun x => pcan p x.1 ∧ pcan p x.2.1 ∧ x.1.length < f.length ∧ x.2.1.length < f.length ∧ x.2.2 < 18446744073709551616 ∧ (fx f : Fx p) ∣ fx x.1 * pk (fx x.2.1) x.2.2 - pk (fx a) n) (fun x => x.2.2) (a, a, n - 1) ⟨ha, ha, hal, hal, by show n - 1 < _; omega, ?_⟩ (wk ⟨⟨_, rfl, AVle.of_eq ?_⟩, sR rfl, sR rfl, sR rfl, sR rfl, trivial⟩ ⟨⟨_, rfl, BLe.of_eq rfl⟩, ⟨_, rfl, BLe.of_eq rfl⟩, ⟨_, rfl, BLe.of_eq rfl⟩, trivial⟩) ?_)
 ·obtain ⟨m, rfl⟩ : ∃ m, n = m + 1 := ⟨n - 1, by omega⟩
  show fx f ∣ fx a * pk (fx a) (m + 1 - 1) - pk (fx a) (m + 1)
  rw [Nat.add_sub_cancel, pk, mul_comm (fx a)]; exact cong_refl _ _
 ·exact congrArg (fun z => AV.c (C.I .u64 z)) (show IntKind.wrap .u64 ((n : Int) - 1) = ((n - 1 : Nat) : Int) from (wrap_u64 _ (by omega) (by omega)).trans (by omega))
 rintro ⟨r, b, m⟩ ⟨hr, hb, lr, lb, hm, hc⟩
 simp only at hr hb lr lb hm hc
 have hsq := prodF_ok H (a := b) (b := b) hf hf0
 have hfb : FnS Tryz.prog 159 ([aP f p] ++ ([aP b p, aP b p] ++ [])) (aP (prodF p f b b) p) := pproduct_s p H.hp H.le f b b (by omega) (by omega) (by omega) hf hb hb hf0
 refine tr_seq (rr rfl (tr_cond rfl (fun h => ?_) (fun h => ?_)))
 ·have h : 0 < m := by
   have h : (m : Int) > 0 := of_decide_eq_true h
   omega
  refine tr_skip (at_then (tr_seq (tr_block (tr_seq (rr rfl (hp := by simp only [Pr.an, Pr.h, num, i64r, true_and, and_true]; first | done | omega) (tr_cond rfl (fun h2 => ?_) (fun h2 => ?_)))))))
  ·have h2 : (m : Int).tmod 2 = 1 := eq_of_beq h2
   have hod : m % 2 = 1 := by rw [show (2 : Int) = ((2 : Nat) : Int) from rfl, tmod_nat] at h2; omega
   obtain ⟨k, rfl⟩ : ∃ k, m = 2 * k + 1 := ⟨m / 2, by omega⟩
   have hrb := prodF_ok H (a := r) (b := b) hf hf0
   have hfr : FnS Tryz.prog 159 ([aP f p] ++ ([aP r p, aP b p] ++ [])) (aP (prodF p f r b) p) := pproduct_s p H.hp H.le f r b (by omega) (by omega) (by omega) hf hr hb hf0
   refine rbt (rcs rfl rfl (.inr ⟨_, _, rfl, rfl, rfl⟩) rfl hfr (re rfl (at_then ?_)))
   refine rbt (rcs rfl rfl (.inr ⟨_, _, rfl, rfl, rfl⟩) rfl hfb (re rfl (at_block (at_then (rt rfl (hp := by simp only [Pr.an, Pr.h, num, i64r, true_and, and_true]; first | done | omega) (at_loop (prodF p f r b, prodF p f b b, k) ⟨hrb.1, hsq.1, hrb.2.1, hsq.2.1, by show k < _; omega, ?_⟩ (by show k < 2 * k + 1; omega) (wk ⟨⟨_, rfl, AVle.of_eq ?_⟩, sR rfl, sR rfl, sR rfl, sR rfl, trivial⟩ ⟨⟨_, rfl, BLe.of_eq rfl⟩, ⟨_, rfl, BLe.of_eq rfl⟩, ⟨_, rfl, BLe.of_eq rfl⟩, trivial⟩)))))))
   ·show fx f ∣ fx (prodF p f r b) * pk (fx (prodF p f b b)) k - pk (fx a) n
    refine dvd_sub_trans (cong_mul hrb.2.2 (cong_pk hsq.2.2 k)) ?_
    rw [mul_pk, mul_assoc, ← pk_add]
    have e : fx b * pk (fx b) (k + k) = (pk (fx b) (2 * k + 1) : Fx p) := by rw [mul_comm, show k + k = 2 * k by omega]; rfl
    rw [e]; exact hc
   ·exact congrArg (fun z => AV.c (C.I .u64 z)) ((half_nat (2 * k + 1) hm).trans (show ((((2 * k + 1) / 2 : Nat)) : Int) = (k : Int) by omega))
  ·have h2 : (m : Int).tmod 2 ≠ 1 := beq_z' h2
   have hev : m % 2 = 0 := by rw [show (2 : Int) = ((2 : Nat) : Int) from rfl, tmod_nat] at h2; omega
   obtain ⟨k, rfl⟩ : ∃ k, m = 2 * k := ⟨m / 2, by omega⟩
   refine tr_skip (at_then ?_)
   refine rbt (rcs rfl rfl (.inr ⟨_, _, rfl, rfl, rfl⟩) rfl hfb (re rfl (at_block (at_then (rt rfl (hp := by simp only [Pr.an, Pr.h, num, i64r, true_and, and_true]; first | done | omega) (at_loop (r, prodF p f b b, k) ⟨hr, hsq.1, lr, hsq.2.1, by show k < _; omega, ?_⟩ (by show k < 2 * k; omega) (wk ⟨⟨_, rfl, AVle.of_eq ?_⟩, sR rfl, sR rfl, sR rfl, sR rfl, trivial⟩ ⟨⟨_, rfl, BLe.of_eq rfl⟩, ⟨_, rfl, BLe.of_eq rfl⟩, ⟨_, rfl, BLe.of_eq rfl⟩, trivial⟩)))))))
   ·show fx f ∣ fx r * pk (fx (prodF p f b b)) k - pk (fx a) n
    refine dvd_sub_trans (cong_mul (cong_refl _ (fx r)) (cong_pk hsq.2.2 k)) ?_
    rw [mul_pk, ← pk_add, show k + k = 2 * k by omega]
    exact hc
   ·exact congrArg (fun z => AV.c (C.I .u64 z)) ((half_nat (2 * k) hm).trans (show ((((2 * k) / 2 : Nat)) : Int) = (k : Int) by omega))
 ·have h : m = 0 := by
   have h : ¬ (m : Int) > 0 := of_decide_eq_false h
   omega
  subst h
  rw [pk, mul_one] at hc
  rw [modF_uniq H hf hf0 hr lr hc]
  exact tr_exit (at_then_exit (at_loop_exit (at_block_exit (at_then (rr rfl (tr_ret (at_ret TT_ok rfl (AVle.refl _))))))))
end Go.El
