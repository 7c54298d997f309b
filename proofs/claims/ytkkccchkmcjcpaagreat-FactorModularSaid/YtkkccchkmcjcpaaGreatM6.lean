/- Contracts: polynomials modulo p: quotient and remainder. Own work; no condition. -/
import Derived.Test.YtkkccchkmcjcpaaGreatM5
import Derived.Test.YtkkccchkmcjcpaaGreatM4
set_option linter.unusedVariables false
set_option linter.unusedSimpArgs false
namespace Go.El
open Go Go.Proofs
theorem sclone_s (x : Int) (ws : List Int) (hl : ws.length ≤ 1000000) : FnV Tryz.prog 181 [cS U64 (x :: ws)] 25 U64 (x :: ws) := by
 refine fv_intro Tryz.func181 rfl rfl rfl rfl (by decide) ?_
 refine rr rfl (tr_seq (rb (rx rfl rfl trivial (re rfl ?_))))
 refine tr_cond rfl (fun h => by simp at h) (fun h => ?_)
 refine tr_skip (at_then (rb (rlv U64 [] rfl rfl (ra rfl rfl rfl rfl rfl rfl rfl rfl rfl ?_ ?_ (re rfl (tr_ret (at_retV (id := 2002000) TT_ok rfl rfl)))))))
 ·show (_ + (_ + 1) + (_ + (_ + 1)) / 4 + 192) * 8 ≤ _; simp only [List.length_nil]; omega
 ·show (_ + (_ + 1)) * 1 ≤ _; simp only [List.length_nil]; omega
theorem pdegree_s (ws : List Int) (p : Int) (hl : ws.length ≤ 1000000) : FnS Tryz.prog 93 [aP ws p] (cI ((ws.length : Int) - 1)) := by
 refine fs_intro Tryz.func93 rfl rfl rfl rfl rfl (by decide) ?_
 exact rr rfl (rr rfl (tr_ret (at_ret TT_ok rfl (AVle.refl _))))
def dRow (b : List Int) (p c : Int) (i : Nat) : Nat → List Int → List Int
 | 0, r => r
 | j + 1, r => (dRow b p c i j r).set (i + j) (((dRow b p c i j r).getD (i + j) 0 + (p - c) * b.getD j 0) % p)
def dSt (a b : List Int) (p v : Int) (m n : Nat) : Nat → List Int × List Int
 | 0 => (List.replicate m 0, a)
 | k + 1 => ((dSt a b p v m n k).1.set (m - (k + 1)) ((dSt a b p v m n k).2.getD (m - (k + 1) + n) 0 * v % p), dRow b p ((dSt a b p v m n k).2.getD (m - (k + 1) + n) 0 * v % p) (m - (k + 1)) b.length (dSt a b p v m n k).2)
theorem dRow_len (b : List Int) (p c : Int) (i : Nat) (r : List Int) : ∀ j, (dRow b p c i j r).length = r.length
 | 0 => rfl
 | j + 1 => by rw [dRow, List.length_set, dRow_len b p c i r j]
theorem dRow_rp {b : List Int} {p c : Int} (hp : 0 < p) (i : Nat) {r : List Int} (h : rp p r) : ∀ j, rp p (dRow b p c i j r)
 | 0 => h
 | j + 1 => rp_set (dRow_rp hp i h j) _ (Int.emod_nonneg _ (by omega)) (Int.emod_lt_of_pos _ hp)
theorem dSt_len (a b : List Int) (p v : Int) (m n : Nat) : ∀ k, (dSt a b p v m n k).1.length = m ∧ (dSt a b p v m n k).2.length = a.length
 | 0 => by simp [dSt]
 | k + 1 => by
  have := dSt_len a b p v m n k
  simp only [dSt, List.length_set, dRow_len]; exact this
theorem dSt_rp {a : List Int} (b : List Int) {p : Int} (v : Int) (m n : Nat) (hp : 0 < p) (ha : rp p a) : ∀ k, rp p (dSt a b p v m n k).1 ∧ rp p (dSt a b p v m n k).2
 | 0 => ⟨rp_rep hp _, ha⟩
 | k + 1 => by
  have h := dSt_rp b v m n hp ha k
  exact ⟨rp_set h.1 _ (Int.emod_nonneg _ (by omega)) (Int.emod_lt_of_pos _ hp), dRow_rp hp _ h.2 _⟩
def pdivide (a b : List Int) (p : Int) : List Int × List Int :=
 if a.length ≤ b.length - 1 then ([], a)
 else (fun x => (x.1, trimW (x.2.take (b.length - 1)))) (dSt a b p (invM (b.getD (b.length - 1) 0).toNat p.toNat : Nat) (a.length - (b.length - 1)) (b.length - 1) (a.length - (b.length - 1)))
theorem muladd_mod2 (x y z p : Int) (hx : 0 ≤ x ∧ x < p) (hy : 0 ≤ y ∧ y ≤ p) (hz : 0 ≤ z ∧ z < p) (hp : p ≤ 2147483648) : (IntKind.wrap .u64 (x + IntKind.wrap .u64 (y * z))).tmod p = (x + y * z) % p := by
 have h0 : 0 ≤ y * z := Int.mul_nonneg hy.1 hz.1
 have h1 : y * z ≤ 2147483648 * 2147483648 := Int.mul_le_mul (by omega) (by omega) hz.1 (by omega)
 rw [wrap_u64 (y * z) h0 (by omega), wrap_u64 _ (by omega) (by omega), Int.tmod_eq_emod_of_nonneg (by omega)]
theorem mul_mod2 (y z p : Int) (hy : 0 ≤ y ∧ y < p) (hz : 0 ≤ z ∧ z < p) (hp : p ≤ 2147483648) : (IntKind.wrap .u64 (y * z)).tmod p = y * z % p := by
 have h0 : 0 ≤ y * z := Int.mul_nonneg hy.1 hz.1
 have h1 : y * z ≤ 2147483648 * 2147483648 := Int.mul_le_mul (by omega) (by omega) hz.1 (by omega)
 rw [wrap_u64 (y * z) h0 (by omega), Int.tmod_eq_emod_of_nonneg (by omega)]
theorem minv_z (a p : Int) (ha : 0 ≤ a ∧ a < p) (hz : a ≠ 0) (hp0 : 2 ≤ p) (hp : p ≤ 2147483648) : FnS Tryz.prog 124 [cU a, cU p] (.t [(false, [.I .u64 (invM a.toNat p.toNat : Nat)]), (false, [.I .i64 0])]) := by
 have h := minv_s a.toNat p.toNat (by omega) (by rw [Nat.mod_eq_of_lt (by omega)]; omega) (by omega) (by omega)
 rwa [Int.toNat_of_nonneg ha.1, Int.toNat_of_nonneg (by omega : 0 ≤ p)] at h
theorem AVle.ta {x x' y : C} {r : List (Bool × List C)} (h : AVle (.c x) (.c x')) : AVle (.t ((true, [x, y]) :: r)) (.t ((true, [x', y]) :: r)) := by
 refine ⟨?_, ?_⟩
 ·rintro g v ⟨vs, rfl, v1, r1, rfl, ⟨us, rfl, v2, r2, rfl, h1, h2⟩, h3⟩
  exact ⟨_, rfl, _, _, rfl, ⟨_, rfl, v2, r2, rfl, h.1 g v2 h1, h2⟩, h3⟩
 ·intro id hid
  have h2 := h.2 id
  simp only [AV.mids, midsT, midsL, List.append_nil, List.mem_append] at hid h2 ⊢
  rcases hid with (hid | hid) | hid
  ·exact .inl (.inl (h2 hid))
  ·exact .inl (.inr hid)
  ·exact .inr hid
set_option maxHeartbeats 4000000 in
theorem pdivide_s (x : Int) (a' b : List Int) (p : Int) {a : List Int} (ea : a = x :: a') (la : a.length ≤ 1000) (lb : b.length ≤ 1000) (hp0 : 2 ≤ p) (hp : p ≤ 2147483648) (ha : rp p a) (hb : rp p b) (hb0 : b ≠ []) (hbl : b.getD (b.length - 1) 0 ≠ 0) : FnS Tryz.prog 127 [aP a p, aP b p] (.t [(true, [.S U64 (pdivide a b p).1, .I .u64 p]), (true, [.S U64 (pdivide a b p).2, .I .u64 p])]) := by
 refine fs_intro Tryz.func127 rfl rfl rfl rfl rfl (by decide) ?_
 have hpz : p ≠ 0 := by omega
 have pb := List.length_pos_iff.2 hb0
 have hcl : FnV Tryz.prog 181 [cS U64 a] 25 U64 a := by
  rw [ea] at la ⊢
  exact sclone_s x a' (by simp at la; omega)
 refine rr rfl (rb (rcv rfl rfl hcl (re rfl (rb (rc rfl rfl (pdegree_s b p (by omega)) (re rfl (tr_seq (rr rfl ?_)))))))) 
 refine tr_cond rfl (fun h => ?_) (fun h => ?_)
 ·have h : a.length ≤ b.length - 1 := by
   have h : (a.length : Int) ≤ (b.length : Int) - 1 := by simpa using h
   omega
  have e : pdivide a b p = ([], a) := by rw [pdivide, if_pos h]
  rw [e]
  refine rr rfl (tr_ret (at_then_ret (at_ret TT_ok rfl ?_)))
  exact AVle.ta (AVle.nil U64)
 ·have h : ¬ a.length ≤ b.length - 1 := by
   have h : ¬ (a.length : Int) ≤ (b.length : Int) - 1 := by simpa using h
   omega
  obtain ⟨n, hn⟩ : ∃ n, b.length = n + 1 := ⟨b.length - 1, by omega⟩
  obtain ⟨m, hm⟩ : ∃ m, a.length = n + m := ⟨a.length - n, by omega⟩
  have e : pdivide a b p = ((dSt a b p (invM (b.getD n 0).toNat p.toNat : Nat) m n m).1, trimW ((dSt a b p (invM (b.getD n 0).toNat p.toNat : Nat) m n m).2.take n)) := by
   rw [pdivide, if_neg h, hn, hm, Nat.add_sub_cancel, Nat.add_sub_cancel_left]
  rw [e]
  rw [hn, Nat.add_sub_cancel] at hbl
  have en : (b.length : Int) - 1 = (n : Int) := by omega
  generalize hv : (invM (b.getD n 0).toNat p.toNat : Nat) = v
  have hvp : (0 : Int) ≤ (v : Int) ∧ (v : Int) < p := by
   have := powM_lt (b.getD n 0).toNat (p.toNat - 2) p.toNat (by omega)
   unfold invM at hv
   omega
  rw [en]
  have hinv := minv_z (b.getD n 0) p (hb n) hbl hp0 hp
  rw [hv] at hinv
  refine tr_skip (at_then (rb (rc rfl rfl hinv (re rfl (rb ?_)))))
  refine rm U64 m rfl rfl rfl rfl rfl rfl (zr_int .u64) (by omega) ?_ ?_ ?_
  ·show _ * 8 ≤ _; omega
  ·show _ * 1 ≤ _; omega
  refine re rfl (tr_seq (rr rfl ?_))
  refine tr_block (tr_loop (α := Nat) (fun k => ⟨[(2, .c (.P 0 0)), (3, .c (.P 1000 0)), (4, .c (.P 2000 0)), (5, .c (.P 3000 0)), (6, .c (.X 1002000)), (7, cI n), (8, cU v), (10, .c (.X 5004000)), (11, cI ((m : Int) - 1 - k))], [(0, .box 101 0 [.S U64 a, .I .u64 p]), (1000, .box 101 0 [.S U64 b, .I .u64 p]), (2000, .box 101 0 [.V (.slice none 0 0), .I .u64 0]), (3000, .box 101 0 [.V (.slice none 0 0), .I .u64 0]), (1002000, .vec 25 U64 (dSt a b p v m n k).2), (5004000, .vec 25 U64 (dSt a b p v m n k).1)], 7, []⟩) (fun k => k ≤ m) (fun k => m - k) 0 (Nat.zero_le _) (wk ⟨sR rfl, sR rfl, sR rfl, sR rfl, sR rfl, sR rfl, sR rfl, sR rfl, ⟨_, rfl, AVle.of_eq ?_⟩, trivial⟩ ⟨⟨_, rfl, BLe.of_eq rfl⟩, ⟨_, rfl, BLe.of_eq rfl⟩, ⟨_, rfl, BLe.of_eq rfl⟩, ⟨_, rfl, BLe.of_eq rfl⟩, ⟨_, rfl, BLe.of_eq rfl⟩, ⟨_, rfl, BLe.of_eq rfl⟩, trivial⟩) ?_)
  ·exact congrArg cI (by simp only [List.length_replicate]; omega)
  intro k hk
  have hlk := dSt_len a b p v m n k
  have hrk := dSt_rp b v m n (by omega) ha k
  refine tr_seq (rr rfl ?_)
  refine tr_cond rfl (fun h3 => ?_) (fun h3 => ?_)
  ·have h3 : k < m := by
    have h3 : (m : Int) - 1 - k ≥ 0 := by simpa using h3
    omega
   obtain ⟨i, hi⟩ : ∃ i, m = i + (k + 1) := ⟨m - (k + 1), by omega⟩
   have ei : (m : Int) - 1 - k = (i : Int) := by omega
   have ei2 : m - (k + 1) = i := by omega
   rw [ei]
   have ein : ((i : Int) + (n : Int)).toNat = i + n := by omega
   generalize hc : (dSt a b p v m n k).2.getD (i + n) 0 * v % p = c
   have hcp : 0 ≤ c ∧ c < p := by
    rw [← hc]
    exact ⟨Int.emod_nonneg _ (by omega), Int.emod_lt_of_pos _ (by omega)⟩
   have hgi := hrk.2 (i + n)
   refine tr_skip (at_then (tr_seq (tr_block (rr rfl (hp := by simp only [Pr.an, Pr.h, num, i64r, true_and, and_true]; omega) (rr rfl ?_)))))
   refine tr_block (tr_loop (α := Nat) (fun j => ⟨[(2, .c (.P 0 0)), (3, .c (.P 1000 0)), (4, .c (.P 2000 0)), (5, .c (.P 3000 0)), (6, .c (.X 1002000)), (7, cI n), (8, cU v), (10, .c (.X 5004000)), (11, cI i), (65, cI b.length), (66, cI j)], [(0, .box 101 0 [.S U64 a, .I .u64 p]), (1000, .box 101 0 [.S U64 b, .I .u64 p]), (2000, .box 101 0 [.V (.slice none 0 0), .I .u64 0]), (3000, .box 101 0 [.V (.slice none 0 0), .I .u64 0]), (1002000, .vec 25 U64 (dRow b p c i j (dSt a b p v m n k).2)), (5004000, .vec 25 U64 ((dSt a b p v m n k).1.set i c))], 10, []⟩) (fun j => j ≤ b.length) (fun j => b.length - j) 0 (Nat.zero_le _) (wk ⟨sR rfl, sR rfl, sR rfl, sR rfl, sR rfl, sR rfl, sR rfl, sR rfl, sR rfl, sR rfl, sR rfl, trivial⟩ ⟨⟨_, rfl, BLe.of_eq rfl⟩, ⟨_, rfl, BLe.of_eq rfl⟩, ⟨_, rfl, BLe.of_eq rfl⟩, ⟨_, rfl, BLe.of_eq rfl⟩, ⟨_, rfl, BLe.of_eq rfl⟩, ⟨_, rfl, BLe.of_eq ?_⟩, trivial⟩) ?_)
   ·rw [← hc, ← mul_mod2 _ _ p hgi hvp hp, ← ein]; rfl
   intro j hj
   have hlj := dRow_len b p c i (dSt a b p v m n k).2 j
   have hrj := dRow_rp (b := b) (p := p) (c := c) (by omega) i hrk.2 j (i + j)
   refine rr rfl (tr_seq ?_)
   refine tr_cond rfl (fun h4 => ?_) (fun h4 => ?_)
   ·have h4 : j < b.length := by simpa using h4
    have gb := hb j
    have eij : ((i : Int) + (j : Int)).toNat = i + j := by omega
    have hset : ((dSt a b p v m n k).1.set i c).getD i 0 = c := by
     rw [List.getD_eq_getElem?_getD, List.getElem?_set_self (by omega)]; rfl
    have hll : ((dSt a b p v m n k).1.set i c).length = m := by rw [List.length_set]; exact hlk.1
    refine tr_skip (at_then (tr_seq (tr_block (rr rfl (rt rfl ?_ (hp := by simp only [Pr.an, Pr.h, num, i64r, true_and, and_true]; omega))))))
    refine at_block (at_then (rt rfl (at_loop (j + 1) h4 (by show b.length - (j + 1) < b.length - j; omega) (wk ⟨sR rfl, sR rfl, sR rfl, sR rfl, sR rfl, sR rfl, sR rfl, sR rfl, sR rfl, sR rfl, sR rfl, trivial⟩ ⟨⟨_, rfl, BLe.of_eq rfl⟩, ⟨_, rfl, BLe.of_eq rfl⟩, ⟨_, rfl, BLe.of_eq rfl⟩, ⟨_, rfl, BLe.of_eq rfl⟩, ⟨_, rfl, BLe.of_eq ?_⟩, ⟨_, rfl, BLe.of_eq rfl⟩, trivial⟩))))
    rw [dRow, eij, ← muladd_mod2 _ (p - c) _ p hrj (by omega) gb hp]
    have e2 : IntKind.wrap .u64 (p - ((dSt a b p v m n k).1.set i c).getD (i : Int).toNat 0) = p - c := by
     rw [Int.toNat_natCast, hset, wrap_u64 _ (by omega) (by omega)]
    rw [← e2]; rfl
   ·have h4 : ¬ j < b.length := by simpa using h4
    have e : j = b.length := by omega
    subst e
    refine tr_exit (at_then_exit (at_loop_exit (at_block_exit (at_block (at_then (rt rfl (at_loop (k + 1) h3 (by show m - (k + 1) < m - k; omega) (wk ⟨sR rfl, sR rfl, sR rfl, sR rfl, sR rfl, sR rfl, sR rfl, sR rfl, ⟨_, rfl, AVle.of_eq ?_⟩, trivial⟩ ⟨⟨_, rfl, BLe.of_eq rfl⟩, ⟨_, rfl, BLe.of_eq rfl⟩, ⟨_, rfl, BLe.of_eq rfl⟩, ⟨_, rfl, BLe.of_eq rfl⟩, ⟨_, rfl, BLe.of_eq ?_⟩, ⟨_, rfl, BLe.of_eq ?_⟩, trivial⟩))))))))
    ·exact congrArg cI (by omega)
    ·rw [dSt, ei2, hc]
    ·rw [dSt, ei2, hc]
  ·have h3 : ¬ k < m := by
    have h3 : ¬ (m : Int) - 1 - k ≥ 0 := by simpa using h3
    omega
   have e : k = m := by omega
   subst e
   refine tr_exit (at_then_exit (at_loop_exit (at_block_exit (at_then (tr_frz 1002000 rfl rfl rfl (tr_frz 5004000 rfl rfl rfl (rb (rc rfl rfl (ptrim_s ((dSt a b p v k n k).2.take n) p (by rw [List.length_take]; omega)) (re rfl (tr_ret (at_ret TT_ok rfl (AVle.refl _)))))))))))) 
end Go.El

/- Plain: the ring of formal power series with integer coefficients. Own work; no condition. -/
namespace Go.El
def sm (f : Nat → Int) : Nat → Int
 | 0 => 0
 | k + 1 => sm f k + f k
theorem convS_sm (A B : Nat → Int) (n : Nat) : ∀ k, convS A B n k = sm (fun i => A i * B (n - i)) k
 | 0 => rfl
 | k + 1 => by rw [convS, sm, convS_sm A B n k]
theorem sm_congr {f g : Nat → Int} : ∀ {k : Nat}, (∀ i, i < k → f i = g i) → sm f k = sm g k
 | 0, _ => rfl
 | k + 1, h => by rw [sm, sm, sm_congr (fun i hi => h i (by omega)), h k (by omega)]
theorem sm_zero {f : Nat → Int} {k : Nat} (h : ∀ i, i < k → f i = 0) : sm f k = 0 := by
 induction k with
 | zero => rfl
 | succ k ih => rw [sm, ih (fun i hi => h i (by omega)), h k (by omega)]; rfl
theorem sm_add (f g : Nat → Int) : ∀ k, sm (fun i => f i + g i) k = sm f k + sm g k
 | 0 => rfl
 | k + 1 => by simp only [sm, sm_add f g k]; omega
theorem sm_mul (c : Int) (f : Nat → Int) : ∀ k, sm (fun i => c * f i) k = c * sm f k
 | 0 => by simp [sm]
 | k + 1 => by simp only [sm, sm_mul c f k, Int.mul_add]
theorem sm_mul_r (c : Int) (f : Nat → Int) (k : Nat) : sm (fun i => f i * c) k = sm f k * c := by
 rw [Int.mul_comm, ← sm_mul]; exact sm_congr (fun i _ => Int.mul_comm _ _)
theorem sm_head (f : Nat → Int) : ∀ k, sm f (k + 1) = f 0 + sm (fun i => f (i + 1)) k
 | 0 => by simp [sm]
 | k + 1 => by rw [sm, sm_head f k, sm]; omega
theorem sm_rev (f : Nat → Int) : ∀ k, sm f k = sm (fun i => f (k - 1 - i)) k
 | 0 => rfl
 | k + 1 => by
  rw [sm, sm_rev f k, sm_head (fun i => f (k + 1 - 1 - i))]
  have : sm (fun i => f (k + 1 - 1 - (i + 1))) k = sm (fun i => f (k - 1 - i)) k := sm_congr (fun i _ => by congr 1; omega)
  rw [this, show k + 1 - 1 - 0 = k by omega]; omega
theorem sm_swap (F : Nat → Nat → Int) : ∀ n, sm (fun i => sm (fun j => F i j) (i + 1)) n = sm (fun j => sm (fun k => F (j + k) j) (n - j)) n
 | 0 => rfl
 | n + 1 => by
  rw [sm, sm_swap F n]
  have h1 : sm (fun j => sm (fun k => F (j + k) j) (n + 1 - j)) n = sm (fun j => sm (fun k => F (j + k) j) (n - j) + F n j) n := by
   refine sm_congr (fun j hj => ?_)
   rw [show n + 1 - j = (n - j) + 1 by omega, sm, show j + (n - j) = n by omega]
  rw [show sm (fun j => sm (fun k => F (j + k) j) (n + 1 - j)) (n + 1) = sm (fun j => sm (fun k => F (j + k) j) (n + 1 - j)) n + sm (fun k => F (n + k) n) (n + 1 - n) from rfl, h1, sm_add]
  rw [show n + 1 - n = 1 by omega, show sm (fun j => F n j) (n + 1) = sm (fun j => F n j) n + F n n from rfl, show sm (fun k => F (n + k) n) 1 = 0 + F (n + 0) n from rfl, Nat.add_zero]
  have e9 : sm (fun j => F n j) n = sm (F n) n := rfl
  omega
def PS : Type := Nat → Int
namespace PS
instance : Add PS := ⟨fun A B i => A i + B i⟩
instance : Mul PS := ⟨fun A B => conv A B⟩
instance : Neg PS := ⟨fun A i => -(A i)⟩
instance : _root_.Sub PS := ⟨fun A B i => A i - B i⟩
instance : OfNat PS 0 := ⟨fun _ => (0 : Int)⟩
instance : OfNat PS 1 := ⟨fun i => if i = 0 then (1 : Int) else 0⟩
def K (c : Int) : PS := fun i => if i = 0 then c else 0
def X (k : Nat) : PS := fun i => if i = k then 1 else 0
theorem ext {A B : PS} (h : ∀ i, A i = B i) : A = B := funext h
theorem add_at (A B : PS) (i : Nat) : (A + B) i = A i + B i := rfl
theorem neg_at (A : PS) (i : Nat) : (-A) i = -(A i) := rfl
theorem sub_at (A B : PS) (i : Nat) : (A - B) i = A i - B i := rfl
theorem zero_at (i : Nat) : (0 : PS) i = 0 := rfl
theorem mul_at (A B : PS) (n : Nat) : (A * B) n = sm (fun i => A i * B (n - i)) (n + 1) := convS_sm A B n (n + 1)
theorem add_comm (A B : PS) : A + B = B + A := ext fun i => Int.add_comm _ _
theorem add_assoc (A B C : PS) : A + B + C = A + (B + C) := ext fun i => Int.add_assoc _ _ _
theorem zero_add (A : PS) : 0 + A = A := ext fun i => Int.zero_add _
theorem add_zero (A : PS) : A + 0 = A := ext fun i => Int.add_zero _
theorem add_neg (A : PS) : A + -A = 0 := ext fun i => Int.add_right_neg _
theorem neg_add_self (A : PS) : -A + A = 0 := ext fun i => Int.add_left_neg _
theorem sub_def (A B : PS) : A - B = A + -B := ext fun i => Int.sub_eq_add_neg
theorem neg_zero : -(0 : PS) = 0 := rfl
theorem neg_add (A B : PS) : -(A + B) = -A + -B := ext fun i => Int.neg_add
theorem mul_comm (A B : PS) : A * B = B * A := by
 refine ext fun n => ?_
 rw [mul_at, mul_at, sm_rev]
 refine sm_congr (fun i hi => ?_)
 rw [Int.mul_comm]
 congr 1 <;> congr 1 <;> omega
theorem mul_add (A B C : PS) : A * (B + C) = A * B + A * C := by
 refine ext fun n => ?_
 rw [add_at, mul_at, mul_at, mul_at, ← sm_add]
 exact sm_congr (fun i _ => by rw [add_at, Int.mul_add])
theorem add_mul (A B C : PS) : (A + B) * C = A * C + B * C := by rw [mul_comm, mul_add, mul_comm C A, mul_comm C B]
theorem mul_assoc (A B C : PS) : A * B * C = A * (B * C) := by
 refine ext fun n => ?_
 rw [mul_at, mul_at]
 have h1 : sm (fun i => (A * B) i * C (n - i)) (n + 1) = sm (fun i => sm (fun j => A j * B (i - j) * C (n - i)) (i + 1)) (n + 1) := sm_congr (fun i _ => by rw [mul_at, sm_mul_r])
 rw [h1, sm_swap (fun i j => A j * B (i - j) * C (n - i))]
 refine sm_congr (fun j hj => ?_)
 rw [mul_at, ← sm_mul, show n + 1 - j = n - j + 1 by omega]
 refine sm_congr (fun k hk => ?_)
 rw [Int.mul_assoc, show j + k - j = k by omega, show n - (j + k) = n - j - k by omega]
theorem mul_zero (A : PS) : A * 0 = 0 := by
 refine ext fun n => ?_
 rw [mul_at]
 exact sm_zero (fun i _ => by rw [zero_at, Int.mul_zero])
theorem zero_mul (A : PS) : 0 * A = 0 := by rw [mul_comm, mul_zero]
theorem X_mul (k : Nat) (A : PS) (i : Nat) : (X k * A) i = if k ≤ i then A (i - k) else 0 := by
 rw [mul_at]
 by_cases h : k ≤ i
 ·rw [if_pos h]
  have e : sm (fun j => X k j * A (i - j)) (i + 1) = X k k * A (i - k) := by
   have := convS_one (X k) A i k (i + 1) (by omega) (fun j _ hj => by simp [X, hj])
   exact (convS_sm (X k) A i (i + 1)).symm.trans this
  rw [e]; simp [X]
 ·rw [if_neg h]
  exact sm_zero (fun j hj => by simp [X, show j ≠ k by omega])
theorem K_mul (c : Int) (A : PS) (i : Nat) : (K c * A) i = c * A i := by
 rw [mul_at]
 have := convS_one (K c) A i 0 (i + 1) (by omega) (fun j _ hj => by simp [K, hj])
 rw [show sm (fun j => K c j * A (i - j)) (i + 1) = K c 0 * A (i - 0) from (convS_sm (K c) A i (i + 1)).symm.trans this]
 simp [K]
theorem one_eq : (1 : PS) = K 1 := rfl
theorem K_zero : K 0 = 0 := ext fun i => by simp [K, zero_at]
theorem one_mul (A : PS) : 1 * A = A := ext fun i => by rw [one_eq, K_mul, Int.one_mul]
theorem mul_one (A : PS) : A * 1 = A := by rw [mul_comm, one_mul]
theorem neg_eq (A : PS) : -A = K (-1) * A := ext fun i => by rw [K_mul, neg_at]; omega
theorem neg_mul (A B : PS) : -A * B = -(A * B) := by rw [neg_eq, neg_eq (A * B), mul_assoc]
theorem mul_neg (A B : PS) : A * -B = -(A * B) := by rw [mul_comm, neg_mul, mul_comm B A]
theorem K_add (a b : Int) : K (a + b) = K a + K b := ext fun i => by
 rw [add_at]; unfold K; split <;> rfl
theorem K_mulK (a b : Int) : K (a * b) = K a * K b := ext fun i => by
 rw [K_mul]; unfold K; split <;> simp
theorem X_add (j k : Nat) : X (j + k) = X j * X k := ext fun i => by
 rw [X_mul]; unfold X
 by_cases h : j ≤ i
 ·rw [if_pos h]
  by_cases h2 : i = j + k
  ·rw [if_pos h2, if_pos (by omega)]
  ·rw [if_neg h2, if_neg (by omega)]
 ·rw [if_neg h, if_neg (by omega)]
instance : Std.Associative (α := PS) (· + ·) := ⟨add_assoc⟩
instance : Std.Commutative (α := PS) (· + ·) := ⟨add_comm⟩
instance : Std.Associative (α := PS) (· * ·) := ⟨mul_assoc⟩
instance : Std.Commutative (α := PS) (· * ·) := ⟨mul_comm⟩
end PS
def ps (a : List Int) : PS := fun i => a.getD i 0
theorem ps_at (a : List Int) (i : Nat) : ps a i = a.getD i 0 := rfl
def Cg (m : Int) (A B : PS) : Prop := ∃ U : PS, A = B + PS.K m * U
theorem Cg.at {m : Int} {A B : PS} (h : Cg m A B) (i : Nat) : A i % m = B i % m := by
 obtain ⟨U, rfl⟩ := h
 rw [PS.add_at, PS.K_mul]
 exact Int.add_mul_emod_self_left _ _ _
theorem Cg.of {m : Int} {A B : PS} (h : ∀ i, A i % m = B i % m) : Cg m A B := by
 let U : PS := fun i => A i / m - B i / m
 refine ⟨U, PS.ext fun i => ?_⟩
 have h1 := Int.emod_add_mul_ediv (A i) m
 have h2 := Int.emod_add_mul_ediv (B i) m
 have := h i
 have e : U i = A i / m - B i / m := rfl
 rw [PS.add_at, PS.K_mul, e, Int.mul_sub]
 omega
theorem Cg.refl (m : Int) (A : PS) : Cg m A A := ⟨0, by rw [PS.mul_zero, PS.add_zero]⟩
theorem Cg.of_eq {m : Int} {A B : PS} (h : A = B) : Cg m A B := h ▸ Cg.refl m A
theorem Cg.symm {m : Int} {A B : PS} (h : Cg m A B) : Cg m B A := Cg.of fun i => (h.at i).symm
theorem Cg.trans {m : Int} {A B C : PS} (h : Cg m A B) (k : Cg m B C) : Cg m A C := Cg.of fun i => (h.at i).trans (k.at i)
theorem Cg.add {m : Int} {A B C D : PS} (h : Cg m A B) (k : Cg m C D) : Cg m (A + C) (B + D) := by
 obtain ⟨U, rfl⟩ := h
 obtain ⟨V, rfl⟩ := k
 exact ⟨U + V, by rw [PS.mul_add]; ac_rfl⟩
theorem Cg.neg {m : Int} {A B : PS} (h : Cg m A B) : Cg m (-A) (-B) := by
 obtain ⟨U, rfl⟩ := h
 exact ⟨-U, by rw [PS.neg_add, PS.mul_neg]⟩
theorem Cg.sub {m : Int} {A B C D : PS} (h : Cg m A B) (k : Cg m C D) : Cg m (A - C) (B - D) := by
 rw [PS.sub_def, PS.sub_def]; exact h.add k.neg
theorem Cg.mul {m : Int} {A B C D : PS} (h : Cg m A B) (k : Cg m C D) : Cg m (A * C) (B * D) := by
 obtain ⟨U, rfl⟩ := h
 obtain ⟨V, rfl⟩ := k
 refine ⟨B * V + U * D + PS.K m * U * V, ?_⟩
 simp only [PS.mul_add, PS.add_mul]
 ac_rfl
theorem Cg.mul_l {m : Int} (A : PS) {C D : PS} (k : Cg m C D) : Cg m (A * C) (A * D) := (Cg.refl m A).mul k
theorem Cg.mul_r {m : Int} {A B : PS} (k : Cg m A B) (C : PS) : Cg m (A * C) (B * C) := k.mul (Cg.refl m C)
theorem Cg.add_l {m : Int} (A : PS) {C D : PS} (k : Cg m C D) : Cg m (A + C) (A + D) := (Cg.refl m A).add k
theorem Cg.add_r {m : Int} {A B : PS} (k : Cg m A B) (C : PS) : Cg m (A + C) (B + C) := k.add (Cg.refl m C)
theorem Cg.K {m a b : Int} (h : a % m = b % m) : Cg m (PS.K a) (PS.K b) := Cg.of fun i => by
 unfold PS.K; split
 ·exact h
 ·rfl
theorem Cg.Km (m : Int) : Cg m (PS.K m) 0 := ⟨1, by rw [PS.mul_one, PS.zero_add]⟩
def Dl (p : Int) (n : Nat) (A : PS) : Prop := ∀ i, n ≤ i → A i % p = 0
theorem Dl.cg {p : Int} {n : Nat} {A B : PS} (h : Dl p n A) (k : Cg p A B) : Dl p n B := fun i hi => by rw [← k.at i]; exact h i hi
theorem Dl.le {p : Int} {n m : Nat} {A : PS} (h : Dl p n A) (k : n ≤ m) : Dl p m A := fun i hi => h i (by omega)
theorem Dl.add {p : Int} {n : Nat} {A B : PS} (h : Dl p n A) (k : Dl p n B) : Dl p n (A + B) := fun i hi => by
 rw [PS.add_at, Int.add_emod, h i hi, k i hi]; rfl
theorem Dl.neg {p : Int} {n : Nat} {A : PS} (h : Dl p n A) : Dl p n (-A) := fun i hi => by
 rw [PS.neg_at]; exact Int.emod_eq_zero_of_dvd (Int.dvd_neg.2 (Int.dvd_of_emod_eq_zero (h i hi)))
theorem Dl.sub {p : Int} {n : Nat} {A B : PS} (h : Dl p n A) (k : Dl p n B) : Dl p n (A - B) := by rw [PS.sub_def]; exact h.add k.neg
theorem sm_mod0 {p : Int} {f : Nat → Int} {k : Nat} (h : ∀ i, i < k → f i % p = 0) : sm f k % p = 0 := by
 induction k with
 | zero => exact Int.zero_emod _
 | succ k ih => rw [sm, Int.add_emod, ih (fun i hi => h i (by omega)), h k (by omega)]; rfl
theorem mul_mod0_l {p a b : Int} (h : a % p = 0) : a * b % p = 0 := by rw [Int.mul_emod, h, Int.zero_mul, Int.zero_emod]
theorem mul_mod0_r {p a b : Int} (h : b % p = 0) : a * b % p = 0 := by rw [Int.mul_comm]; exact mul_mod0_l h
theorem Dl.mul {p : Int} {n m : Nat} {A B : PS} (h : Dl p (n + 1) A) (k : Dl p m B) : Dl p (n + m) (A * B) := fun i hi => by
 rw [PS.mul_at]
 refine sm_mod0 (fun j hj => ?_)
 by_cases hj2 : n + 1 ≤ j
 ·exact mul_mod0_l (h j hj2)
 ·exact mul_mod0_r (k (i - j) (by omega))
theorem Dl.mul' {p : Int} {n m : Nat} {A B : PS} (h : Dl p n A) (k : Dl p m B) : Dl p (n + m) (A * B) := by
 cases n with
 | zero =>
  intro i hi
  rw [PS.mul_at]
  exact sm_mod0 (fun j hj => mul_mod0_l (h j (Nat.zero_le _)))
 | succ n => exact (h.mul k).le (by omega)
theorem Dl.top {p : Int} {n m : Nat} {A B : PS} (h : Dl p (n + 1) A) (k : Dl p (m + 1) B) : (A * B) (n + m) % p = A n * B m % p := by
 rw [PS.mul_at]
 have : ∀ r, r ≤ n + m + 1 → sm (fun i => A i * B (n + m - i)) r % p = if n < r then A n * B m % p else 0 := by
  intro r hr
  induction r with
  | zero => simp [sm]
  | succ r ih =>
   rw [sm, Int.add_emod, ih (by omega)]
   by_cases h1 : n < r
   ·rw [if_pos h1, if_pos (by omega), mul_mod0_l (h r (by omega)), Int.add_zero, Int.emod_emod]
   ·rw [if_neg h1]
    by_cases h2 : n = r
    ·subst h2
     rw [if_pos (by omega), Int.zero_add, Int.emod_emod, show n + m - n = m by omega]
    ·rw [if_neg (by omega), mul_mod0_r (k _ (by omega))]; rfl
 rw [this _ (Nat.le_refl _), if_pos (by omega)]
theorem Dl_zero {p : Int} {A : PS} (h : Dl p 0 A) : Cg p A 0 := Cg.of fun i => by rw [h i (Nat.zero_le _), PS.zero_at, Int.zero_emod]
theorem Dl_ps (p : Int) (a : List Int) : Dl p a.length (ps a) := fun i hi => by
 rw [ps_at, List.getD_eq_getElem?_getD, List.getElem?_eq_none hi]; simp
theorem Dl_X (p : Int) (k : Nat) : Dl p (k + 1) (PS.X k) := fun i hi => by
 unfold PS.X; rw [if_neg (by omega)]; simp
theorem Dl_K (p c : Int) : Dl p 1 (PS.K c) := fun i hi => by
 unfold PS.K; rw [if_neg (by omega)]; simp
theorem Dl_0 (p : Int) (n : Nat) : Dl p n 0 := fun i _ => by rw [PS.zero_at, Int.zero_emod]
theorem Dl_1 (p : Int) : Dl p 1 1 := Dl_K p 1
end Go.El

/- Plain: primes, binomials, powers modulo a prime. Own work; no condition. -/
namespace Go.El
def IsP (p : Nat) : Prop := 2 ≤ p ∧ ∀ d, 2 ≤ d → d * d ≤ p → p % d ≠ 0
theorem IsP.divs {p d : Nat} (h : IsP p) (hd : d ∣ p) : d = 1 ∨ d = p := by
 obtain ⟨e, he⟩ := hd
 have h2 := h.1
 have d0 : d ≠ 0 := by intro e0; subst e0; simp at he; omega
 have e0 : e ≠ 0 := by intro e0; subst e0; simp at he; omega
 by_cases d1 : d = 1
 ·exact .inl d1
 by_cases e1 : e = 1
 ·subst e1; right; omega
 exfalso
 by_cases hde : d ≤ e
 ·exact h.2 d (by omega) (by rw [he]; exact Nat.mul_le_mul_left d hde) (by rw [he]; exact Nat.mul_mod_right d e)
 ·exact h.2 e (by omega) (by rw [he]; exact Nat.mul_le_mul_right e (by omega)) (by rw [he]; exact Nat.mul_mod_left d e)
theorem IsP.coprime {p a : Nat} (h : IsP p) (ha : ¬ p ∣ a) : Nat.Coprime p a := by
 rcases h.divs (Nat.gcd_dvd_left p a) with e | e
 ·exact e
 ·exact absurd (e ▸ Nat.gcd_dvd_right p a) ha
theorem IsP.dvd_mul {p a b : Nat} (h : IsP p) (hd : p ∣ a * b) : p ∣ a ∨ p ∣ b := by
 by_cases ha : p ∣ a
 ·exact .inl ha
 ·exact .inr ((h.coprime ha).dvd_of_dvd_mul_left hd)
theorem IsP.idvd_mul {p : Nat} {a b : Int} (h : IsP p) (hd : (p : Int) ∣ a * b) : (p : Int) ∣ a ∨ (p : Int) ∣ b := by
 have : p ∣ a.natAbs * b.natAbs := by rw [← Int.natAbs_mul]; have := Int.natAbs_dvd_natAbs.2 hd; rwa [Int.natAbs_natCast] at this
 rcases h.dvd_mul this with e | e
 ·exact .inl (Int.natAbs_dvd_natAbs.1 (by rwa [Int.natAbs_natCast]))
 ·exact .inr (Int.natAbs_dvd_natAbs.1 (by rwa [Int.natAbs_natCast]))
theorem IsP.mul_ne {p : Nat} {a b : Int} (h : IsP p) (ha : a % (p : Int) ≠ 0) (hb : b % (p : Int) ≠ 0) : a * b % (p : Int) ≠ 0 := fun e => by
 rcases h.idvd_mul (Int.dvd_of_emod_eq_zero e) with e | e
 ·exact ha (Int.emod_eq_zero_of_dvd e)
 ·exact hb (Int.emod_eq_zero_of_dvd e)
def ch : Nat → Nat → Nat
 | _, 0 => 1
 | 0, _ + 1 => 0
 | n + 1, k + 1 => ch n k + ch n (k + 1)
theorem ch_zero (n : Nat) : ch n 0 = 1 := by cases n <;> rfl
theorem ch_gt : ∀ (n k : Nat), n < k → ch n k = 0
 | 0, 0, h => by omega
 | 0, k + 1, _ => rfl
 | n + 1, 0, h => by omega
 | n + 1, k + 1, h => by rw [ch, ch_gt n k (by omega), ch_gt n (k + 1) (by omega)]
theorem ch_self : ∀ n, ch n n = 1
 | 0 => rfl
 | n + 1 => by rw [ch, ch_self n, ch_gt n (n + 1) (by omega)]
theorem ch_mul : ∀ (n k : Nat), (k + 1) * ch (n + 1) (k + 1) = (n + 1) * ch n k
 | 0, 0 => rfl
 | 0, k + 1 => by rw [ch_gt 1 (k + 1 + 1) (by omega)]; rfl
 | n + 1, 0 => by
  have := ch_mul n 0
  rw [ch_zero] at this
  rw [show ch (n + 1 + 1) (0 + 1) = ch (n + 1) 0 + ch (n + 1) (0 + 1) from rfl, ch_zero]
  omega
 | n + 1, k + 1 => by
  have h1 := ch_mul n k
  have h2 := ch_mul n (k + 1)
  rw [ch, Nat.mul_add, h2]
  rw [show (k + 1 + 1) * ch (n + 1) (k + 1) = (k + 1) * ch (n + 1) (k + 1) + ch (n + 1) (k + 1) by rw [Nat.add_mul, Nat.one_mul], h1]
  rw [show ch (n + 1) (k + 1) = ch n k + ch n (k + 1) from rfl]
  grind
theorem IsP.ch_dvd {p k : Nat} (h : IsP p) (h0 : 0 < k) (h1 : k < p) : p ∣ ch p k := by
 obtain ⟨n, rfl⟩ : ∃ n, p = n + 1 := ⟨p - 1, by omega⟩
 obtain ⟨j, rfl⟩ : ∃ j, k = j + 1 := ⟨k - 1, by omega⟩
 have h2 : n + 1 ∣ (j + 1) * ch (n + 1) (j + 1) := ⟨ch n j, ch_mul n j⟩
 rcases h.dvd_mul h2 with e | e
 ·have := Nat.le_of_dvd (by omega) e
  omega
 ·exact e
def pw (A : PS) : Nat → PS
 | 0 => 1
 | n + 1 => pw A n * A
def sP (f : Nat → PS) : Nat → PS
 | 0 => 0
 | k + 1 => sP f k + f k
theorem sP_congr {f g : Nat → PS} : ∀ {k : Nat}, (∀ i, i < k → f i = g i) → sP f k = sP g k
 | 0, _ => rfl
 | k + 1, h => by rw [sP, sP, sP_congr (fun i hi => h i (by omega)), h k (by omega)]
theorem sP_add (f g : Nat → PS) : ∀ k, sP (fun i => f i + g i) k = sP f k + sP g k
 | 0 => (PS.add_zero 0).symm
 | k + 1 => by simp only [sP, sP_add f g k]; ac_rfl
theorem sP_mul (f : Nat → PS) (A : PS) : ∀ k, sP (fun i => f i * A) k = sP f k * A
 | 0 => (PS.zero_mul A).symm
 | k + 1 => by simp only [sP, sP_mul f A k, PS.add_mul]
theorem sP_head (f : Nat → PS) : ∀ k, sP f (k + 1) = f 0 + sP (fun i => f (i + 1)) k
 | 0 => by simp only [sP]; exact PS.add_comm _ _
 | k + 1 => by rw [sP, sP_head f k, sP, PS.add_assoc]
theorem sP_zero {m : Int} {f : Nat → PS} {k : Nat} (h : ∀ i, i < k → Cg m (f i) 0) : Cg m (sP f k) 0 := by
 induction k with
 | zero => exact Cg.refl m _
 | succ k ih =>
  have := (ih (fun i hi => h i (by omega))).add (h k (by omega))
  rwa [PS.add_zero] at this
theorem binom (A B : PS) : ∀ n, pw (A + B) n = sP (fun k => PS.K (ch n k) * (pw A k * pw B (n - k))) (n + 1)
 | 0 => by
  rw [show sP (fun k => PS.K (ch 0 k) * (pw A k * pw B (0 - k))) (0 + 1) = 0 + 1 * (1 * 1) from rfl, PS.zero_add, PS.mul_one, PS.mul_one]
  rfl
 | n + 1 => by
  rw [pw, binom A B n, PS.mul_add, ← sP_mul, ← sP_mul]
  rw [sP_head (fun k => PS.K (ch (n + 1) k) * (pw A k * pw B (n + 1 - k))) (n + 1)]
  have e1 : sP (fun i => PS.K (ch (n + 1) (i + 1)) * (pw A (i + 1) * pw B (n + 1 - (i + 1)))) (n + 1) = sP (fun i => PS.K (ch n i) * (pw A i * pw B (n - i)) * A) (n + 1) + sP (fun i => PS.K (ch n (i + 1)) * (pw A (i + 1) * pw B (n - i))) (n + 1) := by
   rw [← sP_add]
   refine sP_congr (fun i _ => ?_)
   rw [show n + 1 - (i + 1) = n - i by omega, ch, Int.natCast_add, PS.K_add, PS.add_mul, pw]
   ac_rfl
  have e2 : sP (fun i => PS.K (ch n i) * (pw A i * pw B (n - i)) * B) (n + 1) = PS.K (ch (n + 1) 0) * (pw A 0 * pw B (n + 1 - 0)) + sP (fun i => PS.K (ch n (i + 1)) * (pw A (i + 1) * pw B (n - i))) (n + 1) := by
   rw [sP_head, show sP (fun i => PS.K (ch n (i + 1)) * (pw A (i + 1) * pw B (n - i))) (n + 1) = sP (fun i => PS.K (ch n (i + 1)) * (pw A (i + 1) * pw B (n - i))) n + PS.K (ch n (n + 1)) * (pw A (n + 1) * pw B (n - n)) from rfl]
   rw [ch_gt n (n + 1) (by omega), ch_zero, ch_zero, show PS.K ((0 : Nat) : Int) = 0 from PS.K_zero, PS.zero_mul, PS.add_zero]
   have e3 : sP (fun i => PS.K (ch n (i + 1)) * (pw A (i + 1) * pw B (n - (i + 1))) * B) n = sP (fun i => PS.K (ch n (i + 1)) * (pw A (i + 1) * pw B (n - i))) n := by
    refine sP_congr (fun i hi => ?_)
    rw [show n - i = n - (i + 1) + 1 by omega, pw.eq_2 B]
    ac_rfl
   rw [e3]
   have e4 : pw B (n + 1 - 0) = pw B (n - 0) * B := rfl
   rw [e4]
   ac_rfl
  rw [e1, e2]
  ac_rfl
theorem IsP.frob {p : Nat} (h : IsP p) (A B : PS) : Cg p (pw (A + B) p) (pw A p + pw B p) := by
 rw [binom]
 obtain ⟨n, rfl⟩ : ∃ n, p = n + 1 := ⟨p - 1, by have := h.1; omega⟩
 rw [sP, sP_head]
 rw [ch_self, ch_zero, show n + 1 - (n + 1) = 0 by omega, Nat.sub_zero]
 have e : Cg ((n + 1 : Nat) : Int) (sP (fun i => PS.K (ch (n + 1) (i + 1)) * (pw A (i + 1) * pw B (n + 1 - (i + 1)))) n) 0 := by
  refine sP_zero (fun i hi => ?_)
  have hd := h.ch_dvd (k := i + 1) (by omega) (by omega)
  have : Cg ((n + 1 : Nat) : Int) (PS.K (ch (n + 1) (i + 1) : Nat)) (PS.K 0) := Cg.K (by rw [Int.zero_emod]; exact Int.emod_eq_zero_of_dvd (Int.natCast_dvd_natCast.2 hd))
  rw [PS.K_zero] at this
  have h3 := this.mul_r (pw A (i + 1) * pw B (n + 1 - (i + 1)))
  rwa [PS.zero_mul] at h3
 have e1 : PS.K ((1 : Nat) : Int) * (pw A 0 * pw B (n + 1)) = pw B (n + 1) := by
  rw [show PS.K ((1 : Nat) : Int) = 1 from rfl, PS.one_mul, show pw A 0 = 1 from rfl, PS.one_mul]
 have e2 : PS.K ((1 : Nat) : Int) * (pw A (n + 1) * pw B 0) = pw A (n + 1) := by
  rw [show PS.K ((1 : Nat) : Int) = 1 from rfl, PS.one_mul, show pw B 0 = 1 from rfl, PS.mul_one]
 rw [e1, e2]
 have := ((Cg.refl ((n + 1 : Nat) : Int) (pw B (n + 1))).add e).add (Cg.refl _ (pw A (n + 1)))
 rw [PS.add_zero] at this
 rw [PS.add_comm (pw A (n + 1))]
 exact this
theorem pw_K (a : Int) : ∀ n, pw (PS.K a) n = PS.K (a ^ n)
 | 0 => by rw [Int.pow_zero]; rfl
 | n + 1 => by rw [pw, pw_K a n, ← PS.K_mulK, Int.pow_succ]
theorem pw_one : ∀ n, pw 1 n = 1
 | 0 => rfl
 | n + 1 => by rw [pw, pw_one n, PS.mul_one]
theorem IsP.fermat {p : Nat} (h : IsP p) : ∀ a : Nat, ((a : Int) ^ p) % (p : Int) = (a : Int) % (p : Int)
 | 0 => by
  obtain ⟨n, rfl⟩ : ∃ n, p = n + 1 := ⟨p - 1, by have := h.1; omega⟩
  rw [Int.pow_succ]; simp
 | a + 1 => by
  have ih := h.fermat a
  have h1 := (h.frob (PS.K (a : Int)) 1).at 0
  rw [show PS.K (a : Int) + 1 = PS.K ((a + 1 : Nat) : Int) by rw [PS.one_eq, ← PS.K_add]; rfl, pw_K, pw_one, PS.add_at, pw_K] at h1
  have h2 : ∀ c : Int, PS.K c 0 = c := fun c => by simp [PS.K]
  rw [h2, h2, PS.one_eq, h2, Int.add_emod, ih, ← Int.add_emod] at h1
  exact h1
theorem IsP.fermat1 {p a : Nat} (h : IsP p) (ha : ¬ p ∣ a) : a ^ (p - 1) % p = 1 := by
 have h1 := h.fermat a
 obtain ⟨n, rfl⟩ : ∃ n, p = n + 1 := ⟨p - 1, by have := h.1; omega⟩
 have h2 : ((n + 1 : Nat) : Int) ∣ (a : Int) * ((a : Int) ^ n - 1) := by
  rw [Int.mul_sub, Int.mul_one, Int.mul_comm, ← Int.pow_succ]
  exact Int.dvd_of_emod_eq_zero (Int.emod_eq_emod_iff_emod_sub_eq_zero.1 h1)
 rcases h.idvd_mul h2 with e | e
 ·exact absurd (Int.natCast_dvd_natCast.1 e) ha
 ·have h3 : ((a : Int) ^ n) % ((n + 1 : Nat) : Int) = 1 % ((n + 1 : Nat) : Int) := Int.emod_eq_emod_iff_emod_sub_eq_zero.2 (Int.emod_eq_zero_of_dvd e)
  have h4 : (1 : Int) % ((n + 1 : Nat) : Int) = 1 := Int.emod_eq_of_lt (by decide) (by have := h.1; omega)
  rw [h4] at h3
  simp only [Nat.add_sub_cancel]
  have : ((a ^ n % (n + 1) : Nat) : Int) = 1 := by simpa using h3
  omega
theorem IsP.root1 {p x : Nat} (h : IsP p) (hx : x < p) (h1 : x * x % p = 1) : x = 1 ∨ x = p - 1 := by
 have h2 := h.1
 have hx0 : x ≠ 0 := by intro e; subst e; simp at h1
 have hd : (p : Int) ∣ ((x : Int) - 1) * ((x : Int) + 1) := by
  have e1 : x * x = 1 + p * (x * x / p) := by have := Nat.mod_add_div (x * x) p; omega
  have e2 : (x : Int) * x = 1 + (p : Int) * ((x * x / p : Nat) : Int) := by exact_mod_cast e1
  refine ⟨((x * x / p : Nat) : Int), ?_⟩
  rw [Int.sub_mul, Int.mul_add, e2]
  omega
 rcases h.idvd_mul hd with ⟨k, e⟩ | ⟨k, e⟩
 ·left
  by_cases hk : k = 0
  ·subst hk; omega
  ·exfalso
   have : k ≥ 1 ∨ k ≤ -1 := by omega
   rcases this with hk | hk
   ·have := Int.mul_le_mul_of_nonneg_left hk (show (0 : Int) ≤ p by omega)
    omega
   ·have := Int.mul_le_mul_of_nonneg_left hk (show (0 : Int) ≤ p by omega)
    omega
 ·right
  have hk : k = 1 := by
   by_cases h0 : k ≤ 0
   ·have := Int.mul_le_mul_of_nonneg_left h0 (show (0 : Int) ≤ p by omega)
    omega
   ·by_cases h3 : 2 ≤ k
    ·have := Int.mul_le_mul_of_nonneg_left h3 (show (0 : Int) ≤ p by omega)
     omega
    ·omega
  subst hk
  omega
theorem IsP.inv {p a : Nat} (h : IsP p) (ha : ¬ p ∣ a) : a * (a ^ (p - 2) % p) % p = 1 := by
 rw [Nat.mul_mod, Nat.mod_mod, ← Nat.mul_mod]
 have := h.fermat1 ha
 have h2 := h.1
 rwa [show p - 1 = p - 2 + 1 by omega, Nat.pow_succ, Nat.mul_comm] at this
end Go.El

/- Contracts: primes. Own work; no condition. -/
namespace Go.El
open Go Go.Proofs
theorem powL_eq : ∀ (f r a n p : Nat), n < 2 ^ f → r < p → powL f r a n p = r * a ^ n % p
 | 0, r, a, n, p, h, hr => by
  have : n = 0 := by simpa using h
  subst this
  rw [powL, Nat.pow_zero, Nat.mul_one, Nat.mod_eq_of_lt hr]
 | f + 1, r, a, n, p, h, hr => by
  rw [powL]
  split
  ·rename_i h0; subst h0; rw [Nat.pow_zero, Nat.mul_one, Nat.mod_eq_of_lt hr]
  ·have hp : 0 < p := by omega
   have h2 : n / 2 < 2 ^ f := by rw [Nat.pow_succ] at h; omega
   have ea : (a * a % p) ^ (n / 2) % p = a ^ (2 * (n / 2)) % p := by
    rw [← Nat.pow_mod, ← Nat.pow_two, Nat.pow_mul]
   split
   ·rename_i h1
    rw [powL_eq f _ _ _ _ h2 (Nat.mod_lt _ hp), Nat.mul_mod, ea, ← Nat.mul_mod, Nat.mod_mul_mod]
    have : a ^ n = a * a ^ (2 * (n / 2)) := by
     rw [Nat.mul_comm, ← Nat.pow_succ]; congr 1; omega
    rw [this, Nat.mul_assoc]
   ·rename_i h1
    rw [powL_eq f _ _ _ _ h2 hr, Nat.mul_mod, ea, ← Nat.mul_mod]
    have : 2 * (n / 2) = n := by omega
    rw [this]
theorem powM_eq (a n p : Nat) (hn : n < 18446744073709551616) (hp : 1 < p) : powM a n p = a ^ n % p := by
 rw [powM, powL_eq _ _ _ _ _ hn (Nat.mod_lt _ (by omega)), Nat.mod_eq_of_lt hp, Nat.one_mul, ← Nat.pow_mod]
theorem invM_eq (a p : Nat) (hp2 : p < 18446744073709551616) (hp : 1 < p) : invM a p = a ^ (p - 2) % p := powM_eq a (p - 2) p (by omega) hp
def trial (n : Nat) : Nat → Bool := fun k => Nat.rec (motive := fun _ => Bool) true (fun i ih => match Nat.beq (n % (i + 2)) 0 with | true => false | false => ih) k
theorem trial_ok {n : Nat} : ∀ {k : Nat}, trial n k = true → ∀ d, 2 ≤ d → d < k + 2 → n % d ≠ 0
 | 0, _, d, h2, h3 => by omega
 | k + 1, h, d, h2, h3 => by
  have h' : (match Nat.beq (n % (k + 2)) 0 with | true => false | false => trial n k) = true := h
  split at h'
  ·cases h'
  ·rename_i hb
   by_cases e : d = k + 2
   ·subst e
    intro h0
    rw [h0] at hb
    cases hb
   ·exact trial_ok h' d h2 (by omega)
theorem mersenne_trial : trial 2147483647 46340 = true := by kernel_rfl
theorem mersenne : IsP 2147483647 := ⟨by decide, fun d h1 h2 => trial_ok mersenne_trial d h1 (by
 by_cases e : d < 46342
 ·exact e
 ·have : 46342 * 46342 ≤ d * d := Nat.mul_le_mul (by omega) (by omega)
  omega)⟩
theorem next_prime : ∀ (m n : Nat), m + n = 2147483647 → 0 < m → ∃ p, IsP p ∧ n < p ∧ p ≤ 2147483647 ∧ ∀ q, n < q → q < p → ¬ IsP q
 | 0, _, _, h => by omega
 | m + 1, n, h, _ => by
  by_cases e : IsP (n + 1)
  ·exact ⟨n + 1, e, by omega, by omega, fun q h1 h2 => by omega⟩
  ·by_cases h0 : m = 0
   ·subst h0
    have : n + 1 = 2147483647 := by omega
    rw [this] at e
    exact absurd mersenne e
   ·obtain ⟨p, h1, h2, h3, h4⟩ := next_prime m (n + 1) (by omega) (by omega)
    refine ⟨p, h1, by omega, h3, fun q h5 h6 => ?_⟩
    by_cases e2 : q = n + 1
    ·rw [e2]; exact e
    ·exact h4 q (by omega) h6
set_option maxHeartbeats 1000000 in
theorem rPrime_yes (n : Nat) (h : IsP n) (hm : n ≤ 2147483647) : FnS Tryz.prog 83 [cU n] (cB true) := by
 refine fs_intro Tryz.func83 rfl rfl rfl rfl rfl (by decide) ?_
 have h2 := h.1
 refine rr rfl (tr_seq (rb (rg 6 rfl rfl (fun h3 => ?_) (fun h3 => ?_))))
 ·exfalso
  have h3 : (n : Int) < 2 := of_decide_eq_true h3
  omega
 refine re rfl (tr_cond rfl (fun h4 => ?_) (fun _ => tr_skip (at_then ?_)))
 ·exfalso
  have h4 : (n : Int) > 2147483647 := of_decide_eq_true h4
  omega
 refine tr_seq (rr rfl (tr_block (tr_loop (α := Nat) (fun d => ⟨[(0, cU n), (3, cU d)], [], 4, []⟩) (fun d => 2 ≤ d ∧ (d - 1) * (d - 1) ≤ n) (fun d => n + 2 - d) 2 ⟨by decide, by omega⟩ (wk ⟨sR rfl, sR rfl, trivial⟩ trivial) ?_)))
 rintro d ⟨hd, hdd⟩
 have hd1 : d < 65536 := by
  by_cases e : d < 65536
  ·exact e
  ·have : 65535 * 65535 ≤ (d - 1) * (d - 1) := Nat.mul_le_mul (by omega) (by omega)
   omega
 have hdm : d * d < 4294967296 := Nat.mul_lt_mul'' hd1 hd1
 have e1 : IntKind.wrap .u64 ((d : Int) * (d : Int)) = ((d * d : Nat) : Int) := by
  rw [← Int.natCast_mul, wrap_u64 _ (by omega) (by omega)]
 refine tr_seq (rr rfl (tr_cond rfl (fun h5 => ?_) (fun h5 => ?_)))
 ·have h5 : IntKind.wrap .u64 ((d : Int) * (d : Int)) ≤ (n : Int) := of_decide_eq_true h5
  rw [e1] at h5
  have h5 : d * d ≤ n := by omega
  have hne := h.2 d hd h5
  refine tr_skip (at_then (tr_seq (tr_block (rr rfl (hp := by simp only [Pr.an, Pr.h, num, i64r, true_and, and_true]; first | done | omega) (tr_cond rfl (fun h6 => ?_) (fun _ => tr_skip (at_block (at_then ?_))))))))
  ·exfalso
   have h6 : (n : Int).tmod (d : Int) = 0 := eq_of_beq h6
   rw [tmod_nat] at h6
   omega
  ·have : d ≤ n := Nat.le_trans (Nat.le_mul_of_pos_left d (by omega)) h5
   refine rt rfl (at_loop (d + 1) ⟨by omega, by rw [Nat.add_sub_cancel]; exact h5⟩ (by show n + 2 - (d + 1) < n + 2 - d; omega) (wk ⟨sR rfl, ⟨_, rfl, AVle.of_eq ?_⟩, trivial⟩ trivial))
   refine congrArg (fun z => AV.c (C.I .u64 z)) ?_
   show IntKind.wrap .u64 ((d : Int) + 1) = ((d + 1 : Nat) : Int)
   rw [wrap_u64 _ (by omega) (by omega)]; omega
 ·exact tr_exit (at_then_exit (at_loop_exit (at_block_exit (at_then (rr rfl (tr_ret (at_ret TT_ok rfl (AVle.refl _))))))))
set_option maxHeartbeats 1000000 in
theorem rPrime_no (n : Nat) (h : ¬ IsP n) (hm : n ≤ 2147483647) : FnS Tryz.prog 83 [cU n] (cB false) := by
 refine fs_intro Tryz.func83 rfl rfl rfl rfl rfl (by decide) ?_
 refine rr rfl (tr_seq (rb (rg 6 rfl rfl (fun h3 => ?_) (fun h3 => ?_))))
 ·exact re rfl (tr_cond rfl (fun _ => rr rfl (tr_ret (at_then_ret (at_ret TT_ok rfl (AVle.refl _))))) (fun h4 => by cases h4))
 have h2 : 2 ≤ n := by
  have h3 : ¬ (n : Int) < 2 := of_decide_eq_false h3
  omega
 refine re rfl (tr_cond rfl (fun h4 => ?_) (fun _ => tr_skip (at_then ?_)))
 ·exfalso
  have h4 : (n : Int) > 2147483647 := of_decide_eq_true h4
  omega
 refine tr_seq (rr rfl (tr_block (tr_loop (α := Nat) (fun d => ⟨[(0, cU n), (3, cU d)], [], 4, []⟩) (fun d => 2 ≤ d ∧ (d - 1) * (d - 1) ≤ n ∧ ∀ k, 2 ≤ k → k < d → n % k ≠ 0) (fun d => n + 2 - d) 2 ⟨by decide, by omega, fun k h1 h2 => by omega⟩ (wk ⟨sR rfl, sR rfl, trivial⟩ trivial) ?_)))
 rintro d ⟨hd, hdd, hall⟩
 have hd1 : d < 65536 := by
  by_cases e : d < 65536
  ·exact e
  ·have : 65535 * 65535 ≤ (d - 1) * (d - 1) := Nat.mul_le_mul (by omega) (by omega)
   omega
 have hdm : d * d < 4294967296 := Nat.mul_lt_mul'' hd1 hd1
 have e1 : IntKind.wrap .u64 ((d : Int) * (d : Int)) = ((d * d : Nat) : Int) := by
  rw [← Int.natCast_mul, wrap_u64 _ (by omega) (by omega)]
 refine tr_seq (rr rfl (tr_cond rfl (fun h5 => ?_) (fun h5 => ?_)))
 ·have h5 : IntKind.wrap .u64 ((d : Int) * (d : Int)) ≤ (n : Int) := of_decide_eq_true h5
  rw [e1] at h5
  have h5 : d * d ≤ n := by omega
  refine tr_skip (at_then (tr_seq (tr_block (rr rfl (hp := by simp only [Pr.an, Pr.h, num, i64r, true_and, and_true]; first | done | omega) (tr_cond rfl (fun h6 => ?_) (fun h6 => tr_skip (at_block (at_then ?_))))))))
  ·refine rr rfl (tr_ret ?_)
   repeat (first | refine at_then_ret ?_ | refine at_block_ret ?_ | refine at_loop_ret ?_)
   exact at_ret TT_ok rfl (AVle.refl _)
  ·have h6 : (n : Int).tmod (d : Int) ≠ 0 := beq_z' h6
   rw [tmod_nat] at h6
   have : d ≤ n := Nat.le_trans (Nat.le_mul_of_pos_left d (by omega)) h5
   refine rt rfl (at_loop (d + 1) ⟨by omega, by rw [Nat.add_sub_cancel]; exact h5, fun k h1 h2 => ?_⟩ (by show n + 2 - (d + 1) < n + 2 - d; omega) (wk ⟨sR rfl, ⟨_, rfl, AVle.of_eq ?_⟩, trivial⟩ trivial))
   ·by_cases e : k = d
    ·subst e; omega
    ·exact hall k h1 (by omega)
   ·refine congrArg (fun z => AV.c (C.I .u64 z)) ?_
    show IntKind.wrap .u64 ((d : Int) + 1) = ((d + 1 : Nat) : Int)
    rw [wrap_u64 _ (by omega) (by omega)]; omega
 ·exfalso
  have h5 : ¬ IntKind.wrap .u64 ((d : Int) * (d : Int)) ≤ (n : Int) := of_decide_eq_false h5
  rw [e1] at h5
  refine h ⟨h2, fun k h1 h3 => hall k h1 ?_⟩
  by_cases e : k < d
  ·exact e
  ·have : d * d ≤ k * k := Nat.mul_le_mul (by omega) (by omega)
   omega
theorem rNext_s (n : Nat) (hn : n < 2147483647) : ∃ p, IsP p ∧ n < p ∧ p ≤ 2147483647 ∧ FnS Tryz.prog 59 [cU n] (.t [(false, [.I .u64 p]), (false, [.I .i64 0])]) := by
 obtain ⟨p, h1, h2, h3, h4⟩ := next_prime (2147483647 - n) n (by omega) (by omega)
 refine ⟨p, h1, h2, h3, ?_⟩
 refine fs_intro Tryz.func59 rfl rfl rfl rfl rfl (by decide) ?_
 refine rr rfl (tr_seq (rr rfl (tr_cond rfl (fun h => ?_) (fun _ => tr_skip (at_then ?_)))))
 ·exfalso
  have h : (n : Int) ≥ 2147483647 := of_decide_eq_true h
  omega
 refine rr rfl (tr_seq (tr_block (tr_loop (α := Nat) (fun q => ⟨[(4, cU q)], [], 4, []⟩) (fun q => n < q ∧ q ≤ p) (fun q => p - q) (n + 1) ⟨by omega, by omega⟩ (wk ⟨⟨_, rfl, AVle.of_eq ?_⟩, trivial⟩ trivial) ?_)))
 ·refine congrArg (fun z => AV.c (C.I .u64 z)) ?_
  show IntKind.wrap .u64 ((n : Int) + 1) = ((n + 1 : Nat) : Int)
  rw [wrap_u64 _ (by omega) (by omega)]; omega
 rintro q ⟨hq1, hq2⟩
 by_cases e : q = p
 ·subst e
  refine tr_seq (rb (rc rfl rfl (rPrime_yes q h1 h3) (re rfl (tr_cond rfl (fun h => by cases h) (fun _ => ?_)))))
  exact tr_exit (at_then_exit (at_loop_exit (at_block_exit (at_then (rr rfl (tr_ret (at_ret TT_ok rfl (AVle.refl _))))))))
 ·refine tr_seq (rb (rc rfl rfl (rPrime_no q (h4 q hq1 (by omega)) (by omega)) (re rfl (tr_cond rfl (fun _ => ?_) (fun h => by cases h)))))
  refine tr_skip (at_then (tr_block (rt rfl (at_block (at_loop (q + 1) ⟨by omega, by omega⟩ (by show p - (q + 1) < p - q; omega) (wk ⟨⟨_, rfl, AVle.of_eq ?_⟩, trivial⟩ trivial))))))
  refine congrArg (fun z => AV.c (C.I .u64 z)) ?_
  show IntKind.wrap .u64 ((q : Int) + 1) = ((q + 1 : Nat) : Int)
  rw [wrap_u64 _ (by omega) (by omega)]; omega
theorem lprime_s (n : Nat) (hn : n < 4294967296) : ∃ p, IsP p ∧ p ≤ 2147483647 ∧ FnS Tryz.prog 10 [cW n] (cU p) := by
 have hm := Nat.mod_lt n (show 0 < 2147483000 by decide)
 have e1 : IntKind.wrap .u64 ((n : Int).tmod 2147483000) = ((n % 2147483000 : Nat) : Int) := by rw [show ((n : Int).tmod 2147483000) = ((n % 2147483000 : Nat) : Int) from tmod_nat n 2147483000, wrap_u64 _ (by omega) (by omega)]
 by_cases h : n % 2 = 0
 ·obtain ⟨p, h1, h2, h3, h4⟩ := rNext_s (n % 2147483000 / 2 % 30) (by omega)
  refine ⟨p, h1, h3, ?_⟩
  refine fs_intro Tryz.func10 rfl rfl rfl rfl rfl (by decide) ?_
  refine rr rfl (rr rfl (hp := by simp only [Pr.an, Pr.h, num, i64r, true_and, and_true]; first | done | omega) (tr_seq (rr rfl (hp := by simp only [Pr.an, Pr.h, num, i64r, true_and, and_true]; first | done | omega) (tr_cond rfl (fun _ => ?_) (fun h5 => ?_)))))
  ·refine rt rfl (hp := by simp only [Pr.an, Pr.h, num, i64r, true_and, and_true]; first | done | omega) (at_then ?_)
   refine tr_wk (st' := ⟨[(3, cU ((n % 2147483000 / 2 % 30 : Nat) : Int))], [], 10, []⟩) (wk ⟨⟨_, rfl, AVle.of_eq ?_⟩, trivial⟩ trivial) ?_
   ·refine congrArg (fun z => AV.c (C.I .u64 z)) ?_
    rw [e1, half_nat _ (by omega)]
    exact tmod_nat _ 30
   exact rb (rc rfl rfl h4 (re rfl (rr rfl (tr_ret (at_ret TT_ok rfl (AVle.refl _))))))
  ·exfalso
   have h5 : (n : Int).tmod 2 ≠ 0 := beq_z' h5
   exact h5 (by rw [show (n : Int).tmod 2 = ((n % 2 : Nat) : Int) from tmod_nat n 2]; omega)
 ·obtain ⟨p, h1, h2, h3, h4⟩ := rNext_s (n % 2147483000) (by omega)
  refine ⟨p, h1, h3, ?_⟩
  refine fs_intro Tryz.func10 rfl rfl rfl rfl rfl (by decide) ?_
  refine rr rfl (rr rfl (hp := by simp only [Pr.an, Pr.h, num, i64r, true_and, and_true]; first | done | omega) (tr_seq (rr rfl (hp := by simp only [Pr.an, Pr.h, num, i64r, true_and, and_true]; first | done | omega) (tr_cond rfl (fun h5 => ?_) (fun _ => tr_skip (at_then ?_))))))
  ·exfalso
   have h5 : (n : Int).tmod 2 = 0 := eq_of_beq h5
   rw [show (n : Int).tmod 2 = ((n % 2 : Nat) : Int) from tmod_nat n 2] at h5
   omega
  ·refine tr_wk (st' := ⟨[(3, cU ((n % 2147483000 : Nat) : Int))], [], 10, []⟩) (wk ⟨⟨_, rfl, AVle.of_eq ?_⟩, trivial⟩ trivial) ?_
   ·exact congrArg (fun z => AV.c (C.I .u64 z)) e1
   exact rb (rc rfl rfl h4 (re rfl (rr rfl (tr_ret (at_ret TT_ok rfl (AVle.refl _))))))
end Go.El

/- Contracts: the test of primes of the program; powers of the reference. Own work; no condition. -/
namespace Go.El
open Go Go.Proofs
set_option maxHeartbeats 2000000 in
theorem passes_s (p w : Nat) (hp : IsP p) (hpm : p ≤ 2147483647) (hod : p % 2 = 1) (hw : ¬ p ∣ w) (hwb : w < 18446744073709551616) : FnS Tryz.prog 122 [cU p, cU w] (cB true) := by
 refine fs_intro Tryz.func122 rfl rfl rfl rfl rfl (by decide) ?_
 have hp2 := hp.1
 refine rr rfl (rr rfl ?_)
 refine tr_mid (α := Nat × Nat) (fun x => ⟨[(0, cU p), (1, cU w), (5, cU x.1), (6, cI x.2)], [], 20, []⟩) (fun x => x.1 * 2 ^ x.2 = p - 1 ∧ x.2 < 32 ∧ x.1 % 2 = 1) ?_ (fun mid => tr_block (tr_loop (α := Nat × Nat) (fun x => ⟨[(0, cU p), (1, cU w), (5, cU x.1), (6, cI x.2)], [], 4, []⟩) (fun x => x.1 * 2 ^ x.2 = p - 1 ∧ 0 < x.1) (fun x => x.1) (p - 1, 0) ⟨by simp, by show 0 < p - 1; omega⟩ (wk ⟨sR rfl, sR rfl, ⟨_, rfl, AVle.of_eq ?_⟩, sR rfl, trivial⟩ trivial) ?_))
 ·rintro ⟨o, t⟩ ⟨h1, h2, h3⟩
  simp only at h1 h2 h3
  have ht : 1 ≤ t := by
   by_cases e : t = 0
   ·subst e; simp at h1; omega
   ·omega
  have ho : o ≤ p - 1 := by rw [← h1]; exact Nat.le_mul_of_pos_right _ (Nat.pow_pos (by decide))
  refine rb (rc rfl rfl (mpow_s w o p hwb (by omega) (by omega) (by omega)) (re rfl ?_))
  rw [powM_eq w o p (by omega) (by omega)]
  have hx := Nat.mod_lt (w ^ o) (show 0 < p by omega)
  have hf : (w ^ o % p) ^ 2 ^ t % p = 1 := by
   rw [← Nat.pow_mod, ← Nat.pow_mul, h1]
   exact hp.fermat1 hw
  generalize w ^ o % p = x at hx hf
  refine tr_seq (rb (rg 23 rfl rfl (fun h => ?_) (fun h => ?_)))
  ·exact re rfl (tr_cond rfl (fun _ => rr rfl (tr_ret (at_then_ret (at_ret TT_ok rfl (AVle.refl _))))) (fun h4 => by cases h4))
  have hx1 : x ≠ 1 := by
   have h := beq_z' h
   omega
  have e1 : IntKind.wrap .u64 ((p : Int) - 1) = ((p - 1 : Nat) : Int) := by rw [wrap_u64 _ (by omega) (by omega)]; omega
  refine re rfl (tr_cond rfl (fun h4 => ?_) (fun h4 => tr_skip (at_then ?_)))
  ·exact rr rfl (tr_ret (at_then_ret (at_ret TT_ok rfl (AVle.refl _))))
  have hx2 : x ≠ p - 1 := by
   have h4 : (x : Int) ≠ IntKind.wrap .u64 ((p : Int) - 1) := beq_z' h4
   rw [e1] at h4
   omega
  refine tr_seq (rr rfl (tr_block (tr_loop (α := Nat × Nat) (fun y => ⟨[(0, cU p), (7, cU y.2), (30, cI ((t : Int) - 1)), (31, cI y.1)], [], 30, []⟩) (fun y => y.1 ≤ t - 1 ∧ y.2 < p ∧ y.2 ≠ 1 ∧ y.2 ≠ p - 1 ∧ y.2 ^ 2 ^ (t - y.1) % p = 1) (fun y => t - 1 - y.1) (0, x) ⟨Nat.zero_le _, hx, hx1, hx2, hf⟩ (wk ⟨sR rfl, sR rfl, sR rfl, sR rfl, trivial⟩ trivial) ?_)))
  rintro ⟨i, x⟩ ⟨g1, g2, g3, g4, g5⟩
  simp only at g1 g2 g3 g4 g5
  have hsq : ∀ j, x ^ 2 ^ (j + 1) % p = (x * x % p) ^ 2 ^ j % p := by
   intro j
   rw [← Nat.pow_mod, ← Nat.pow_two, ← Nat.pow_mul]
   congr 2
   rw [Nat.pow_succ, Nat.mul_comm]
  have hr1 := fun h => hp.root1 g2 h
  refine rr rfl (tr_seq (tr_cond rfl (fun h5 => ?_) (fun h5 => ?_)))
  ·have h5 : i < t - 1 := by
    have h5 : (i : Int) < (t : Int) - 1 := of_decide_eq_true h5
    omega
   have em : (IntKind.wrap .u64 ((x : Int) * (x : Int))).tmod (p : Int) = ((x * x % p : Nat) : Int) := mulmod_nat x x p g2 g2 (by omega)
   refine tr_skip (at_then (tr_seq (tr_block (rr rfl (hp := by simp only [Pr.an, Pr.h, num, i64r, true_and, and_true]; first | done | omega) (rr rfl (tr_cond rfl (fun h6 => ?_) (fun h6 => tr_skip (at_block (at_then ?_)))))))))
   ·refine rr rfl (tr_ret ?_)
    repeat (first | refine at_then_ret ?_ | refine at_block_ret ?_ | refine at_loop_ret ?_)
    exact at_ret TT_ok rfl (AVle.refl _)
   ·have h6 : (IntKind.wrap .u64 ((x : Int) * (x : Int))).tmod (p : Int) ≠ IntKind.wrap .u64 ((p : Int) - 1) := beq_z' h6
    rw [em, e1] at h6
    refine rt rfl (hp := by simp only [Pr.an, Pr.h, num, i64r, true_and, and_true]; first | done | omega) (at_loop (i + 1, x * x % p) ⟨by show i + 1 ≤ t - 1; omega, Nat.mod_lt _ (by omega), fun e => ?_, by show x * x % p ≠ p - 1; omega, ?_⟩ (by show t - 1 - (i + 1) < t - 1 - i; omega) (wk ⟨sR rfl, ⟨_, rfl, AVle.of_eq ?_⟩, sR rfl, sR rfl, trivial⟩ trivial))
    ·rcases hr1 e with e | e
     ·exact g3 e
     ·exact g4 e
    ·show (x * x % p) ^ 2 ^ (t - (i + 1)) % p = 1
     rw [← hsq, show t - (i + 1) + 1 = t - i by omega]
     exact g5
    ·exact congrArg (fun z => AV.c (C.I .u64 z)) em
  ·exfalso
   have h5 : i = t - 1 := by
    have h5 : ¬ (i : Int) < (t : Int) - 1 := of_decide_eq_false h5
    omega
   rw [h5, show t - (t - 1) = 0 + 1 by omega, hsq 0] at g5
   simp at g5
   rcases hr1 g5 with e | e
   ·exact g3 e
   ·exact g4 e
 ·refine congrArg (fun z => AV.c (C.I .u64 z)) ?_
  show IntKind.wrap .u64 ((p : Int) - 1) = ((p - 1 : Nat) : Int)
  rw [wrap_u64 _ (by omega) (by omega)]; omega
 ·rintro ⟨o, t⟩ ⟨h1, h2⟩
  simp only at h1 h2
  have htb : t < 32 := by
   by_cases e : t < 32
   ·exact e
   ·have h5 : 2 ^ 32 ≤ 2 ^ t := Nat.pow_le_pow_right (by decide) (by omega)
    have h6 : 1 * 2 ^ t ≤ o * 2 ^ t := Nat.mul_le_mul_right _ h2
    omega
  have hob : o ≤ p - 1 := by rw [← h1]; exact Nat.le_mul_of_pos_right _ (Nat.pow_pos (by decide))
  refine tr_seq (rr rfl (hp := by simp only [Pr.an, Pr.h, num, i64r, true_and, and_true]; first | done | omega) (tr_cond rfl (fun h => ?_) (fun h => ?_)))
  ·have h : (o : Int).tmod 2 = 0 := eq_of_beq h
   have e2 : (o : Int).tmod 2 = ((o % 2 : Nat) : Int) := tmod_nat o 2
   refine tr_skip (at_then (tr_block (rr rfl (hp := by simp only [Pr.an, Pr.h, num, i64r, true_and, and_true]; first | done | omega) (rt rfl (hp := by simp only [Pr.an, Pr.h, num, i64r, true_and, and_true]; first | done | omega) (at_block (at_loop (o / 2, t + 1) ⟨?_, by show 0 < o / 2; omega⟩ (by show o / 2 < o; omega) (wk ⟨sR rfl, sR rfl, ⟨_, rfl, AVle.of_eq ?_⟩, sR rfl, trivial⟩ trivial)))))))
   ·show o / 2 * 2 ^ (t + 1) = p - 1
    rw [← h1, Nat.pow_succ, Nat.mul_comm (2 ^ t) 2, ← Nat.mul_assoc]
    congr 1
    omega
   ·exact congrArg (fun z => AV.c (C.I .u64 z)) (half_nat o (by omega))
  ·have h : (o : Int).tmod 2 ≠ 0 := beq_z' h
   have e2 : (o : Int).tmod 2 = ((o % 2 : Nat) : Int) := tmod_nat o 2
   exact tr_exit (at_then_exit (at_loop_exit (at_block_exit (at_mid (mid (o, t) ⟨h1, htb, by show o % 2 = 1; omega⟩) (wk ⟨sR rfl, sR rfl, sR rfl, sR rfl, trivial⟩ trivial)))))
set_option maxHeartbeats 2000000 in
theorem mPrime_s (p : Nat) (hp : IsP p) (hpm : p ≤ 2147483647) : FnS Tryz.prog 60 [cU p] (cB true) := by
 refine fs_intro Tryz.func60 rfl rfl rfl rfl rfl (by decide) ?_
 have hp2 := hp.1
 refine rr rfl (tr_seq (rb (rg 7 rfl rfl (fun h3 => ?_) (fun h3 => ?_))))
 ·exfalso
  have h3 : (p : Int) < 2 := of_decide_eq_true h3
  omega
 refine re rfl (tr_cond rfl (fun h4 => ?_) (fun _ => tr_skip (at_then ?_)))
 ·exfalso
  have h4 : (p : Int) > 2147483647 := of_decide_eq_true h4
  omega
 refine tr_seq (rb (rx rfl rfl trivial (re rfl ?_)))
 refine tr_block (tr_loop (α := Nat) (fun i => ⟨[(0, cU p), (11, .a [.I .u64 2, .I .u64 3, .I .u64 5, .I .u64 7]), (12, cI i)], [], 8, []⟩) (fun i => i ≤ 4 ∧ (0 < i → p % 2 = 1)) (fun i => 4 - i) 0 ⟨by decide, fun h => absurd h (by decide)⟩ (wk ⟨sR rfl, sR rfl, sR rfl, trivial⟩ trivial) ?_)
 rintro i ⟨hi, ho⟩
 rcases (show i = 0 ∨ i = 1 ∨ i = 2 ∨ i = 3 ∨ i = 4 by omega) with e | e | e | e | e
 ·subst e
  refine rr rfl (tr_seq (tr_cond rfl (fun _ => tr_skip (at_then ?_)) (fun h => by cases h)))
  refine tr_seq (tr_block (rb (rx rfl rfl ?_ (re rfl (tr_seq (rr rfl (hp := by simp only [Pr.an, Pr.h, num, i64r, true_and, and_true]; first | done | omega) ?_))))))
  ·exact ⟨by show (0 : Int) ≤ _; decide, by show (_ : Int) < _; decide⟩
  refine tr_cond rfl (fun h => ?_) (fun h => tr_skip (at_then ?_))
  ·have h : (p : Int).tmod 2 = 0 := eq_of_beq h
   have h2 : 2 ∣ p := by
    have h8 : (p : Int).tmod 2 = ((p % 2 : Nat) : Int) := tmod_nat p 2
    exact Nat.dvd_of_mod_eq_zero (by omega)
   have h3 : p = 2 := by
    rcases hp.divs h2 with e | e <;> omega
   refine rr rfl (tr_ret ?_)
   repeat (first | refine at_then_ret ?_ | refine at_block_ret ?_ | refine at_loop_ret ?_)
   refine at_ret TT_ok rfl (AVle.of_eq (congrArg cB ?_))
   rw [h3]; rfl
  ·have h : (p : Int).tmod 2 ≠ 0 := beq_z' h
   have h2 : ¬ 2 ∣ p := fun hd => h (by
    have h8 : (p : Int).tmod 2 = ((p % 2 : Nat) : Int) := tmod_nat p 2
    have h3 : p % 2 = 0 := Nat.mod_eq_zero_of_dvd hd
    omega)
   have hod : p % 2 = 1 := by have h9 : ¬ p % 2 = 0 := fun e => h2 (Nat.dvd_of_mod_eq_zero e); omega
   have hdv : ¬ p ∣ 2 := fun hd => by
    have h5 : p ≤ 2 := Nat.le_of_dvd (by decide) hd
    have h6 := hp.1
    have h7 : 2 % p = 0 := Nat.mod_eq_zero_of_dvd hd
    have h10 : p % 2 ≠ 0 := fun e => h2 (Nat.dvd_of_mod_eq_zero e)
    rcases (show p = 2 ∨ p = 3 ∨ p = 4 ∨ p = 5 ∨ p = 6 ∨ p = 7 by omega) with e | e | e | e | e | e <;> subst e <;> first | omega | (simp at h7 h10 hod)
   refine rb (rc rfl rfl (passes_s p 2 hp hpm hod hdv (by decide)) (re rfl (tr_cond rfl (fun h => by cases h) (fun _ => tr_skip (at_block (at_then (rt rfl (hp := by simp only [Pr.an, Pr.h, num, i64r, true_and, and_true]; first | done | omega) (at_loop 1 ⟨by decide, fun _ => hod⟩ (by decide) (wk ⟨sR rfl, sR rfl, sR rfl, trivial⟩ trivial)))))))))
 ·subst e
  refine rr rfl (tr_seq (tr_cond rfl (fun _ => tr_skip (at_then ?_)) (fun h => by cases h)))
  refine tr_seq (tr_block (rb (rx rfl rfl ?_ (re rfl (tr_seq (rr rfl (hp := by simp only [Pr.an, Pr.h, num, i64r, true_and, and_true]; first | done | omega) ?_))))))
  ·exact ⟨by show (0 : Int) ≤ _; decide, by show (_ : Int) < _; decide⟩
  refine tr_cond rfl (fun h => ?_) (fun h => tr_skip (at_then ?_))
  ·have h : (p : Int).tmod 3 = 0 := eq_of_beq h
   have h2 : 3 ∣ p := by
    have h8 : (p : Int).tmod 3 = ((p % 3 : Nat) : Int) := tmod_nat p 3
    exact Nat.dvd_of_mod_eq_zero (by omega)
   have h3 : p = 3 := by
    rcases hp.divs h2 with e | e <;> omega
   refine rr rfl (tr_ret ?_)
   repeat (first | refine at_then_ret ?_ | refine at_block_ret ?_ | refine at_loop_ret ?_)
   refine at_ret TT_ok rfl (AVle.of_eq (congrArg cB ?_))
   rw [h3]; rfl
  ·have h : (p : Int).tmod 3 ≠ 0 := beq_z' h
   have h2 : ¬ 3 ∣ p := fun hd => h (by
    have h8 : (p : Int).tmod 3 = ((p % 3 : Nat) : Int) := tmod_nat p 3
    have h3 : p % 3 = 0 := Nat.mod_eq_zero_of_dvd hd
    omega)
   have hod : p % 2 = 1 := ho (by decide)
   have hdv : ¬ p ∣ 3 := fun hd => by
    have h5 : p ≤ 3 := Nat.le_of_dvd (by decide) hd
    have h6 := hp.1
    have h7 : 3 % p = 0 := Nat.mod_eq_zero_of_dvd hd
    have h10 : p % 3 ≠ 0 := fun e => h2 (Nat.dvd_of_mod_eq_zero e)
    rcases (show p = 2 ∨ p = 3 ∨ p = 4 ∨ p = 5 ∨ p = 6 ∨ p = 7 by omega) with e | e | e | e | e | e <;> subst e <;> first | omega | (simp at h7 h10 hod)
   refine rb (rc rfl rfl (passes_s p 3 hp hpm hod hdv (by decide)) (re rfl (tr_cond rfl (fun h => by cases h) (fun _ => tr_skip (at_block (at_then (rt rfl (hp := by simp only [Pr.an, Pr.h, num, i64r, true_and, and_true]; first | done | omega) (at_loop 2 ⟨by decide, fun _ => hod⟩ (by decide) (wk ⟨sR rfl, sR rfl, sR rfl, trivial⟩ trivial)))))))))
 ·subst e
  refine rr rfl (tr_seq (tr_cond rfl (fun _ => tr_skip (at_then ?_)) (fun h => by cases h)))
  refine tr_seq (tr_block (rb (rx rfl rfl ?_ (re rfl (tr_seq (rr rfl (hp := by simp only [Pr.an, Pr.h, num, i64r, true_and, and_true]; first | done | omega) ?_))))))
  ·exact ⟨by show (0 : Int) ≤ _; decide, by show (_ : Int) < _; decide⟩
  refine tr_cond rfl (fun h => ?_) (fun h => tr_skip (at_then ?_))
  ·have h : (p : Int).tmod 5 = 0 := eq_of_beq h
   have h2 : 5 ∣ p := by
    have h8 : (p : Int).tmod 5 = ((p % 5 : Nat) : Int) := tmod_nat p 5
    exact Nat.dvd_of_mod_eq_zero (by omega)
   have h3 : p = 5 := by
    rcases hp.divs h2 with e | e <;> omega
   refine rr rfl (tr_ret ?_)
   repeat (first | refine at_then_ret ?_ | refine at_block_ret ?_ | refine at_loop_ret ?_)
   refine at_ret TT_ok rfl (AVle.of_eq (congrArg cB ?_))
   rw [h3]; rfl
  ·have h : (p : Int).tmod 5 ≠ 0 := beq_z' h
   have h2 : ¬ 5 ∣ p := fun hd => h (by
    have h8 : (p : Int).tmod 5 = ((p % 5 : Nat) : Int) := tmod_nat p 5
    have h3 : p % 5 = 0 := Nat.mod_eq_zero_of_dvd hd
    omega)
   have hod : p % 2 = 1 := ho (by decide)
   have hdv : ¬ p ∣ 5 := fun hd => by
    have h5 : p ≤ 5 := Nat.le_of_dvd (by decide) hd
    have h6 := hp.1
    have h7 : 5 % p = 0 := Nat.mod_eq_zero_of_dvd hd
    have h10 : p % 5 ≠ 0 := fun e => h2 (Nat.dvd_of_mod_eq_zero e)
    rcases (show p = 2 ∨ p = 3 ∨ p = 4 ∨ p = 5 ∨ p = 6 ∨ p = 7 by omega) with e | e | e | e | e | e <;> subst e <;> first | omega | (simp at h7 h10 hod)
   refine rb (rc rfl rfl (passes_s p 5 hp hpm hod hdv (by decide)) (re rfl (tr_cond rfl (fun h => by cases h) (fun _ => tr_skip (at_block (at_then (rt rfl (hp := by simp only [Pr.an, Pr.h, num, i64r, true_and, and_true]; first | done | omega) (at_loop 3 ⟨by decide, fun _ => hod⟩ (by decide) (wk ⟨sR rfl, sR rfl, sR rfl, trivial⟩ trivial)))))))))
 ·subst e
  refine rr rfl (tr_seq (tr_cond rfl (fun _ => tr_skip (at_then ?_)) (fun h => by cases h)))
  refine tr_seq (tr_block (rb (rx rfl rfl ?_ (re rfl (tr_seq (rr rfl (hp := by simp only [Pr.an, Pr.h, num, i64r, true_and, and_true]; first | done | omega) ?_))))))
  ·exact ⟨by show (0 : Int) ≤ _; decide, by show (_ : Int) < _; decide⟩
  refine tr_cond rfl (fun h => ?_) (fun h => tr_skip (at_then ?_))
  ·have h : (p : Int).tmod 7 = 0 := eq_of_beq h
   have h2 : 7 ∣ p := by
    have h8 : (p : Int).tmod 7 = ((p % 7 : Nat) : Int) := tmod_nat p 7
    exact Nat.dvd_of_mod_eq_zero (by omega)
   have h3 : p = 7 := by
    rcases hp.divs h2 with e | e <;> omega
   refine rr rfl (tr_ret ?_)
   repeat (first | refine at_then_ret ?_ | refine at_block_ret ?_ | refine at_loop_ret ?_)
   refine at_ret TT_ok rfl (AVle.of_eq (congrArg cB ?_))
   rw [h3]; rfl
  ·have h : (p : Int).tmod 7 ≠ 0 := beq_z' h
   have h2 : ¬ 7 ∣ p := fun hd => h (by
    have h8 : (p : Int).tmod 7 = ((p % 7 : Nat) : Int) := tmod_nat p 7
    have h3 : p % 7 = 0 := Nat.mod_eq_zero_of_dvd hd
    omega)
   have hod : p % 2 = 1 := ho (by decide)
   have hdv : ¬ p ∣ 7 := fun hd => by
    have h5 : p ≤ 7 := Nat.le_of_dvd (by decide) hd
    have h6 := hp.1
    have h7 : 7 % p = 0 := Nat.mod_eq_zero_of_dvd hd
    have h10 : p % 7 ≠ 0 := fun e => h2 (Nat.dvd_of_mod_eq_zero e)
    rcases (show p = 2 ∨ p = 3 ∨ p = 4 ∨ p = 5 ∨ p = 6 ∨ p = 7 by omega) with e | e | e | e | e | e <;> subst e <;> first | omega | (simp at h7 h10 hod)
   refine rb (rc rfl rfl (passes_s p 7 hp hpm hod hdv (by decide)) (re rfl (tr_cond rfl (fun h => by cases h) (fun _ => tr_skip (at_block (at_then (rt rfl (hp := by simp only [Pr.an, Pr.h, num, i64r, true_and, and_true]; first | done | omega) (at_loop 4 ⟨by decide, fun _ => hod⟩ (by decide) (wk ⟨sR rfl, sR rfl, sR rfl, trivial⟩ trivial)))))))))
 ·subst e
  refine rr rfl (tr_seq (tr_cond rfl (fun h => by cases h) (fun _ => ?_)))
  exact tr_exit (at_then_exit (at_loop_exit (at_block_exit (at_then (rr rfl (tr_ret (at_ret TT_ok rfl (AVle.refl _))))))))
end Go.El

/- Contracts: modular numbers of the reference; lists of numbers modulo p. Own work; no condition. -/
namespace Go.El
open Go Go.Proofs
set_option maxHeartbeats 2000000 in
theorem rPow3_s (a n p : Nat) (hn : n < 18446744073709551616) (hp0 : 0 < p) (hp : p ≤ 4294967296) : FnS Tryz.prog 229 [cU a, cU n, cU p] (cU (powM a n p)) := by
 refine fs_intro Tryz.func229 rfl rfl rfl rfl rfl (by decide) ?_
 have hpz : (p : Int) ≠ 0 := by omega
 refine rr rfl (rr rfl (hp := by simp only [Pr.an, Pr.h, num, i64r, true_and, and_true]; first | done | omega) (rr rfl (hp := by simp only [Pr.an, Pr.h, num, i64r, true_and, and_true]; first | done | omega) (tr_seq (rr rfl ?_))))
 refine tr_block (tr_loop (α := Nat × Nat × Nat × Nat) (fun x => ⟨[(2, cU p), (7, cU x.2.1), (8, cU x.2.2.1), (9, cU x.2.2.2)], [], 4, []⟩) (fun x => powL x.1 x.2.1 x.2.2.1 x.2.2.2 p = powM a n p ∧ x.2.2.2 < 2 ^ x.1 ∧ x.2.1 < p ∧ x.2.2.1 < p ∧ x.2.2.2 < 18446744073709551616) (fun x => x.2.2.2) (64, 1 % p, a % p, n) ⟨rfl, hn, Nat.mod_lt _ hp0, Nat.mod_lt _ hp0, hn⟩ (wk ⟨sR rfl, ⟨_, rfl, AVle.of_eq ?_⟩, ⟨_, rfl, AVle.of_eq ?_⟩, sR rfl, trivial⟩ trivial) ?_)
 ·exact congrArg (fun z => AV.c (C.I .u64 z)) (tmod_nat 1 p)
 ·exact congrArg (fun z => AV.c (C.I .u64 z)) (tmod_nat a p)
 ·rintro ⟨f, r, b, m⟩ ⟨hL, hm, hr, hb, hmm⟩
  simp only at hL hm hr hb hmm
  refine tr_seq (rr rfl (tr_cond rfl (fun h2 => ?_) (fun h2 => ?_)))
  ·have h2 : (m : Int) > 0 := of_decide_eq_true h2
   cases f with
   | zero => rw [Nat.pow_zero] at hm; omega
   | succ f =>
    have hm2 : m / 2 < 2 ^ f := by rw [Nat.pow_succ] at hm; omega
    rw [powL, if_neg (by omega)] at hL
    have e2 : (m : Int).tmod 2 = ((m % 2 : Nat) : Int) := tmod_nat m 2
    refine tr_skip (at_then (tr_seq (tr_block (tr_seq (rr rfl (hp := by simp only [Pr.an, Pr.h, num, i64r, true_and, and_true]; first | done | omega) (tr_cond rfl (fun h3 => ?_) (fun h3 => ?_)))))))
    ·have h3 : (m : Int).tmod 2 = 1 := eq_of_beq h3
     rw [if_pos (by omega)] at hL
     refine rt rfl (hp := by simp only [Pr.an, Pr.h, num, i64r, true_and, and_true]; first | done | omega) (at_then (rt rfl (hp := by simp only [Pr.an, Pr.h, num, i64r, true_and, and_true]; first | done | omega) (at_block (at_then (rt rfl (hp := by simp only [Pr.an, Pr.h, num, i64r, true_and, and_true]; first | done | omega) (at_loop (f, r * b % p, b * b % p, m / 2) ⟨hL, hm2, Nat.mod_lt _ hp0, Nat.mod_lt _ hp0, by show m / 2 < 18446744073709551616; omega⟩ (by show m / 2 < m; omega) (wk ⟨sR rfl, ⟨_, rfl, AVle.of_eq ?_⟩, ⟨_, rfl, AVle.of_eq ?_⟩, ⟨_, rfl, AVle.of_eq ?_⟩, trivial⟩ trivial)))))))
     ·exact congrArg (fun z => AV.c (C.I .u64 z)) (mulmod_nat r b p hr hb hp)
     ·exact congrArg (fun z => AV.c (C.I .u64 z)) (mulmod_nat b b p hb hb hp)
     ·exact congrArg (fun z => AV.c (C.I .u64 z)) (half_nat m hmm)
    ·have h3 : (m : Int).tmod 2 ≠ 1 := beq_z' h3
     rw [if_neg (by omega)] at hL
     refine tr_skip (at_then (rt rfl (hp := by simp only [Pr.an, Pr.h, num, i64r, true_and, and_true]; first | done | omega) (at_block (at_then (rt rfl (hp := by simp only [Pr.an, Pr.h, num, i64r, true_and, and_true]; first | done | omega) (at_loop (f, r, b * b % p, m / 2) ⟨hL, hm2, hr, Nat.mod_lt _ hp0, by show m / 2 < 18446744073709551616; omega⟩ (by show m / 2 < m; omega) (wk ⟨sR rfl, sR rfl, ⟨_, rfl, AVle.of_eq ?_⟩, ⟨_, rfl, AVle.of_eq ?_⟩, trivial⟩ trivial)))))))
     ·exact congrArg (fun z => AV.c (C.I .u64 z)) (mulmod_nat b b p hb hb hp)
     ·exact congrArg (fun z => AV.c (C.I .u64 z)) (half_nat m hmm)
  ·have h2 : ¬ (m : Int) > 0 := of_decide_eq_false h2
   have : m = 0 := by omega
   subst this
   refine tr_exit (at_then_exit (at_loop_exit (at_block_exit (at_then (rr rfl (tr_ret (at_ret TT_ok rfl (AVle.of_eq ?_))))))))
   rw [← hL]
   cases f with
   | zero => rfl
   | succ f => rw [powL, if_pos rfl]
theorem rInv3_s (a p : Int) (ha : 0 ≤ a ∧ a < p) (hz : a ≠ 0) (hp0 : 2 ≤ p) (hp : p ≤ 2147483648) : FnS Tryz.prog 154 [cU a, cU p] (.t [(false, [.I .u64 (invM a.toNat p.toNat : Nat)]), (false, [.I .i64 0])]) := by
 obtain ⟨a, rfl⟩ := Int.eq_ofNat_of_zero_le ha.1
 obtain ⟨p, rfl⟩ := Int.eq_ofNat_of_zero_le (show 0 ≤ p by omega)
 rw [Int.toNat_natCast, Int.toNat_natCast]
 refine fs_intro Tryz.func154 rfl rfl rfl rfl rfl (by decide) ?_
 have hpz : (p : Int) ≠ 0 := by omega
 refine rr rfl (tr_seq (rr rfl (hp := by simp only [Pr.an, Pr.h, num, i64r, true_and, and_true]; first | done | omega) (tr_cond rfl (fun h2 => ?_) (fun h2 => tr_skip (at_then ?_)))))
 ·exfalso
  have h2 : (a : Int).tmod (p : Int) = 0 := eq_of_beq h2
  rw [tmod_nat, Nat.mod_eq_of_lt (by omega)] at h2
  omega
 ·have e : FnS Tryz.prog 229 [cU a, .c (num .u64 ((p : Int) - 2)).1, cU p] (cU (powM a (p - 2) p)) := by
   rw [show (AV.c (num .u64 ((p : Int) - 2)).1) = cU ((p - 2 : Nat) : Int) from congrArg (fun z => AV.c (C.I .u64 z)) ((wrap_u64 _ (by omega) (by omega)).trans (by omega))]
   exact rPow3_s a (p - 2) p (by omega) (by omega) (by omega)
  exact rb (rc rfl rfl e (re rfl (tr_ret (at_ret TT_ok rfl (AVle.refl _)))))
theorem rat_s (a : List Int) (i : Nat) : FnS Tryz.prog 133 [cS U64 a, cI i] (cU (a.getD i 0)) := by
 refine fs_intro Tryz.func133 rfl rfl rfl rfl rfl (by decide) ?_
 refine rr rfl (tr_seq (rr rfl (tr_cond rfl (fun h => ?_) (fun h => tr_skip (at_then ?_)))))
 ·have h : (i : Int) < (a.length : Int) := of_decide_eq_true h
  refine rr rfl (hp := by simp only [Pr.an, Pr.h, num, i64r, true_and, and_true]; first | done | omega) (tr_ret (at_then_ret (at_ret TT_ok rfl (AVle.of_eq (congrArg (fun z => AV.c (C.I .u64 z)) ?_)))))
  rw [Int.toNat_natCast]
 ·have h : ¬ (i : Int) < (a.length : Int) := of_decide_eq_false h
  refine rr rfl (tr_ret (at_ret TT_ok rfl (AVle.of_eq (congrArg (fun z => AV.c (C.I .u64 z)) ?_))))
  rw [List.getD_eq_getElem?_getD, List.getElem?_eq_none (by omega)]; rfl
def md (p : Int) (a : List Int) : List Int := a.map (· % p)
theorem md_len (p : Int) (a : List Int) : (md p a).length = a.length := List.length_map _
theorem getD_map {f : Int → Int} (hf : f 0 = 0) (a : List Int) (i : Nat) : (a.map f).getD i 0 = f (a.getD i 0) := by
 rw [List.getD_eq_getElem?_getD, List.getElem?_map, List.getD_eq_getElem?_getD]
 cases a[i]? with
 | none => exact hf.symm
 | some x => rfl
theorem md_get (p : Int) (a : List Int) (i : Nat) : (md p a).getD i 0 = a.getD i 0 % p := getD_map (Int.zero_emod p) a i
theorem md_rp {p : Int} (hp : 0 < p) (a : List Int) : rp p (md p a) := fun i => by
 rw [md_get]; exact ⟨Int.emod_nonneg _ (by omega), Int.emod_lt_of_pos _ hp⟩
theorem md_self {p : Int} {a : List Int} (h : rp p a) : md p a = a := by
 refine List.ext_getElem (md_len p a) (fun i h1 h2 => ?_)
 have := h i
 rw [List.getD_eq_getElem?_getD, List.getElem?_eq_getElem h2, Option.getD_some] at this
 simp only [md, List.getElem_map]
 exact Int.emod_eq_of_lt this.1 this.2
theorem take_succ_get (a : List Int) (i : Nat) (h : i < a.length) : a.take (i + 1) = a.take i ++ [a.getD i 0] := by
 rw [List.take_add_one, List.getD_eq_getElem?_getD, List.getElem?_eq_getElem h]; rfl
set_option maxHeartbeats 2000000 in
theorem rTrim9_s (a : List Int) (p : Int) (la : a.length ≤ 1000000) (hp0 : 0 < p) (hp : p < 18446744073709551616) (ha : ∀ i, 0 ≤ a.getD i 0) : FnS Tryz.prog 11 [cS U64 a, cU p] (cS U64 (trimW (md p a))) := by
 refine fs_intro Tryz.func11 rfl rfl rfl rfl rfl (by decide) ?_
 have hpz : p ≠ 0 := by omega
 have hml := md_len p a
 refine rr rfl (rb (rlv U64 [] rfl rfl (re rfl (tr_seq (rr rfl ?_)))))
 refine tr_block (tr_loop (α := Nat) (fun i => ⟨[(0, cS U64 a), (1, cU p), (5, .c (.X 1000000)), (6, cI i)], [(1000000, .vec 25 U64 ((md p a).take i))], 3, []⟩) (fun i => i ≤ a.length) (fun i => a.length - i) 0 (Nat.zero_le _) (wk ⟨sR rfl, sR rfl, sR rfl, sR rfl, trivial⟩ ⟨bR rfl, trivial⟩) ?_)
 ·intro i hi
  refine tr_seq (rr rfl (tr_cond rfl (fun h => ?_) (fun h => ?_)))
  ·have h : i < a.length := by
    have h : (i : Int) < (a.length : Int) := of_decide_eq_true h
    omega
   have hl : ((md p a).take i).length = i := by simp; omega
   refine tr_skip (at_then (tr_seq (tr_block (rbt ?_))))
   refine rl U64 [_] rfl rfl (hp := by simp only [Pr.an, Pr.h, num, i64r, true_and, and_true]; first | done | omega) (ra rfl rfl rfl rfl rfl rfl rfl rfl rfl ?_ ?_ (re rfl ?_))
   ·show (_ + 1 + (_ + 1) / 4 + 192) * 8 ≤ _; omega
   ·show (_ + 1) * 1 ≤ _; omega
   refine at_block (at_then (rt rfl (at_loop (i + 1) h (by show a.length - (i + 1) < a.length - i; omega) (Wk.trans (wk (st' := ⟨[(0, cS U64 a), (1, cU p), (5, .c (.X 4008000)), (6, cI ((i + 1 : Nat) : Int))], [(4008000, .vec 25 U64 ((md p a).take (i + 1)))], 8, []⟩) ⟨sR rfl, sR rfl, sR rfl, sR rfl, trivial⟩ ⟨⟨_, rfl, BLe.of_eq ?_⟩, trivial⟩) (Wk.trans (wk_ren 1000000 4008000 rfl rfl rfl) (wk ⟨sR rfl, sR rfl, sR rfl, sR rfl, trivial⟩ ⟨bR rfl, trivial⟩))))))
   refine congrArg (Blk.vec 25 U64) ?_
   rw [take_succ_get _ i (by omega), md_get, Int.toNat_natCast, Int.tmod_eq_emod_of_nonneg (ha i)]
  ·have h : i = a.length := by
    have h : ¬ (i : Int) < (a.length : Int) := of_decide_eq_false h
    omega
   subst h
   refine tr_exit (at_then_exit (at_loop_exit (at_block_exit (at_then (tr_frz 1000000 rfl rfl rfl ?_)))))
   generalize hL : md p a = L at *
   refine tr_seq (tr_block (tr_loop (α := Nat) (fun k => ⟨[(5, cS U64 (L.take k))], [], 10, []⟩) (fun k => k ≤ L.length ∧ trimN L k = trimN L L.length) (fun k => k) L.length ⟨Nat.le_refl _, rfl⟩ (wk ⟨⟨_, rfl, AVle.of_eq ?_⟩, trivial⟩ trivial) ?_))
   ·rw [List.take_of_length_le (show L.length ≤ a.length by omega), List.take_length]; rfl
   rintro k ⟨hk, hrec⟩
   have hlen : (L.take k).length = k := by simp; omega
   refine tr_seq (rb ?_)
   refine rg 26 rfl rfl (fun h => ?_) (fun h => ?_)
   ·have h : 0 < k := by
     have h : (((L.take k).length : Nat) : Int) > 0 := of_decide_eq_true h
     rw [hlen] at h; omega
    obtain ⟨j, rfl⟩ : ∃ j, k = j + 1 := ⟨k - 1, by omega⟩
    have ej : (((L.take (j + 1)).length : Int) - 1).toNat = j := by rw [hlen]; omega
    have ev : (L.take (j + 1)).getD j 0 = L.getD j 0 := by
     rw [List.getD_eq_getElem?_getD, List.getElem?_take_of_lt (by omega), ← List.getD_eq_getElem?_getD]
    refine re rfl (hp := by simp only [Pr.an, Pr.h, num, i64r, true_and, and_true]; first | done | omega) (tr_cond rfl (fun h2 => ?_) (fun h2 => ?_))
    ·have h2 : L.getD j 0 = 0 := by
      have h2 : (L.take (j + 1)).getD (((L.take (j + 1)).length : Int) - 1).toNat 0 = 0 := eq_of_beq h2
      rwa [ej, ev] at h2
     refine tr_skip (at_then (tr_block (rt rfl (hp := by simp only [Pr.an, Pr.h, num, i64r, true_and, and_true]; first | done | omega) (at_block (at_loop j ⟨by omega, ?_⟩ (by show j < j + 1; omega) (wk ⟨⟨_, rfl, AVle.of_eq ?_⟩, trivial⟩ trivial))))))
     ·rw [← hrec, trimN, if_pos h2]
     ·rw [ej]; simp only [List.drop_zero, List.take_take]; rw [Nat.min_eq_left (by omega)]
    ·have h2 : L.getD j 0 ≠ 0 := by
      have h2 : (L.take (j + 1)).getD (((L.take (j + 1)).length : Int) - 1).toNat 0 ≠ 0 := beq_z' h2
      rwa [ej, ev] at h2
     refine tr_exit (at_then_exit (at_loop_exit (at_block_exit (at_then (rr rfl (tr_ret (at_ret TT_ok rfl (AVle.of_eq ?_))))))))
     unfold trimW
     rw [← hrec, trimN, if_neg h2]
   ·have h : k = 0 := by
     have h : ¬ (((L.take k).length : Nat) : Int) > 0 := of_decide_eq_false h
     rw [hlen] at h; omega
    subst h
    refine re rfl (tr_cond rfl (fun h2 => by cases h2) (fun _ => ?_))
    refine tr_exit (at_then_exit (at_loop_exit (at_block_exit (at_then (rr rfl (tr_ret (at_ret TT_ok rfl (AVle.of_eq ?_))))))))
    unfold trimW
    rw [← hrec]; rfl
set_option maxHeartbeats 2000000 in
theorem rMul9_s (a b : List Int) (p : Int) (la : a.length ≤ 1000) (lb : b.length ≤ 1000) (hp0 : 0 < p) (hp : p ≤ 2147483648) (ha : rp p a) (hb : rp p b) : FnS Tryz.prog 16 [cS U64 a, cS U64 b, cU p] (cS U64 (ptimes a b p)) := by
 refine fs_intro Tryz.func16 rfl rfl rfl rfl rfl (by decide) ?_
 have hpz : p ≠ 0 := by omega
 have fin : a = [] ∨ b = [] → cS U64 [] = cS U64 (ptimes a b p) := fun h => by rw [ptimes, if_pos h]
 refine rr rfl (tr_seq (rb ?_))
 refine rg 13 rfl rfl (fun h => ?_) (fun h => ?_)
 ·have h : a = [] := by simpa using h
  refine re rfl (tr_cond rfl (fun h2 => ?_) (fun h2 => by cases h2))
  exact rr rfl (tr_ret (at_then_ret (at_ret TT_ok rfl (AVle.trans (AVle.nil U64) (AVle.of_eq (fin (.inl h)))))))
 ·have h : a ≠ [] := by simpa using h
  refine re rfl (tr_cond rfl (fun h2 => ?_) (fun h2 => ?_))
  ·have h2 : b = [] := by simpa using h2
   exact rr rfl (tr_ret (at_then_ret (at_ret TT_ok rfl (AVle.trans (AVle.nil U64) (AVle.of_eq (fin (.inr h2)))))))
  ·have h2 : b ≠ [] := by simpa using h2
   have pa := List.length_pos_iff.2 h
   have pb := List.length_pos_iff.2 h2
   refine tr_skip (at_then (rb ?_))
   refine rm U64 (a.length + b.length - 1) rfl rfl rfl rfl rfl rfl (zr_int .u64) (by omega) ?_ ?_ ?_
   ·show _ * 8 ≤ _; omega
   ·show _ * 1 ≤ _; omega
   refine re rfl (tr_seq (rr rfl ?_))
   refine tr_block (tr_loop (α := Nat) (fun i => ⟨[(0, cS U64 a), (1, cS U64 b), (2, cU p), (7, .c (.X 2006000)), (8, cI i)], [(2006000, .vec 25 U64 (tAll a b p i))], 4, []⟩) (fun i => i ≤ a.length) (fun i => a.length - i) 0 (Nat.zero_le _) (wk ⟨sR rfl, sR rfl, sR rfl, sR rfl, sR rfl, trivial⟩ ⟨bR rfl, trivial⟩) ?_)
   intro i hi
   have hli := tAll_len a b p i
   refine tr_seq (rr rfl (tr_cond rfl (fun h3 => ?_) (fun h3 => ?_)))
   ·have h3 : i < a.length := by
     have h3 : (i : Int) < (a.length : Int) := of_decide_eq_true h3
     omega
    refine tr_skip (at_then (tr_seq (tr_block (rr rfl ?_))))
    refine tr_block (tr_loop (α := Nat) (fun j => ⟨[(0, cS U64 a), (1, cS U64 b), (2, cU p), (7, .c (.X 2006000)), (8, cI i), (9, cI j)], [(2006000, .vec 25 U64 (tRow a b p i j (tAll a b p i)))], 7, []⟩) (fun j => j ≤ b.length) (fun j => b.length - j) 0 (Nat.zero_le _) (wk ⟨sR rfl, sR rfl, sR rfl, sR rfl, sR rfl, sR rfl, trivial⟩ ⟨bR rfl, trivial⟩) ?_)
    intro j hj
    have hlj := tRow_len a b p i (tAll a b p i) j
    refine tr_seq (rr rfl (tr_cond rfl (fun h4 => ?_) (fun h4 => ?_)))
    ·have h4 : j < b.length := by
      have h4 : (j : Int) < (b.length : Int) := of_decide_eq_true h4
      omega
     have ga := ha i
     have gb := hb j
     have gr := tRow_rp hp0 (a := a) (b := b) i (tAll_rp a b hp0 i) j (i + j)
     have eij : ((i : Int) + (j : Int)).toNat = i + j := by omega
     refine tr_skip (at_then (tr_seq (tr_block (rt rfl (hp := by simp only [Pr.an, Pr.h, num, i64r, true_and, and_true]; first | done | omega) ?_))))
     refine at_block (at_then (rt rfl (at_loop (j + 1) h4 (by show b.length - (j + 1) < b.length - j; omega) (wk ⟨sR rfl, sR rfl, sR rfl, sR rfl, sR rfl, sR rfl, trivial⟩ ⟨⟨_, rfl, BLe.of_eq ?_⟩, trivial⟩))))
     refine congrArg (Blk.vec 25 U64) ?_
     rw [tRow, eij, ← muladd_mod _ _ _ p gr ga gb hp]; rfl
    ·have h4 : j = b.length := by
      have h4 : ¬ (j : Int) < (b.length : Int) := of_decide_eq_false h4
      omega
     subst h4
     exact tr_exit (at_then_exit (at_loop_exit (at_block_exit (at_block (at_then (rt rfl (at_loop (i + 1) h3 (by show a.length - (i + 1) < a.length - i; omega) (wk ⟨sR rfl, sR rfl, sR rfl, sR rfl, sR rfl, trivial⟩ ⟨⟨_, rfl, BLe.of_eq rfl⟩, trivial⟩))))))))
   ·have h3 : i = a.length := by
     have h3 : ¬ (i : Int) < (a.length : Int) := of_decide_eq_false h3
     omega
    subst h3
    have hr := tAll_rp a b hp0 a.length
    have ht := rTrim9_s (tAll a b p a.length) p (by omega) hp0 (by omega) (fun i => (hr i).1)
    rw [md_self hr] at ht
    refine tr_exit (at_then_exit (at_loop_exit (at_block_exit (at_then (tr_frz 2006000 rfl rfl rfl (rb (rc rfl rfl ht (re rfl (tr_ret (at_ret TT_ok rfl (AVle.of_eq ?_)))))))))))
    rw [ptimes, if_neg (fun e => e.elim h h2)]
def psubL (a b : List Int) (p : Int) : List Int := (List.range (max a.length b.length)).map fun i => (a.getD i 0 + p - b.getD i 0) % p
theorem psubL_len (a b : List Int) (p : Int) : (psubL a b p).length = max a.length b.length := by simp [psubL]
theorem psubL_rp {p : Int} (hp : 0 < p) (a b : List Int) : rp p (psubL a b p) := fun i => by
 unfold psubL
 rw [List.getD_eq_getElem?_getD, List.getElem?_map]
 by_cases h : i < max a.length b.length
 ·rw [List.getElem?_range h]
  exact ⟨Int.emod_nonneg _ (by omega), Int.emod_lt_of_pos _ hp⟩
 ·rw [List.getElem?_eq_none (by simp; omega)]
  exact ⟨Int.le_refl _, hp⟩
set_option maxHeartbeats 2000000 in
theorem rSub9_s (a b : List Int) (p : Int) (la : a.length ≤ 1000) (lb : b.length ≤ 1000) (hp0 : 0 < p) (hp : p ≤ 2147483648) (ha : rp p a) (hb : rp p b) : FnS Tryz.prog 71 [cS U64 a, cS U64 b, cU p] (cS U64 (trimW (psubL a b p))) := by
 refine fs_intro Tryz.func71 rfl rfl rfl rfl rfl (by decide) ?_
 generalize hM : max a.length b.length = M
 have hMb : M ≤ 1000 := by omega
 let L := (List.range M).map fun i => a.getD i 0 + p - b.getD i 0
 have hL : L.length = M := by simp [L]
 have hLg : ∀ i, i < M → L.getD i 0 = a.getD i 0 + p - b.getD i 0 := fun i hi => by
  simp only [L]
  rw [List.getD_eq_getElem?_getD, List.getElem?_map, List.getElem?_range hi]; rfl
 have hmd : md p L = psubL a b p := by
  simp only [L, md, psubL, List.map_map, hM]; rfl
 have hL0 : ∀ i, 0 ≤ L.getD i 0 := fun i => by
  by_cases h : i < M
  ·rw [hLg i h]; have h1 := ha i; have h2 := hb i; omega
  ·rw [List.getD_eq_getElem?_getD, List.getElem?_eq_none (by omega)]; exact Int.le_refl _
 clear_value L
 refine rr rfl (rb (rlv U64 [] rfl rfl (re rfl (tr_seq (rr rfl ?_)))))
 refine tr_block (tr_loop (α := Nat) (fun i => ⟨[(0, cS U64 a), (1, cS U64 b), (2, cU p), (7, .c (.X 1000000)), (8, cI i)], [(1000000, .vec 25 U64 (L.take i))], 3, []⟩) (fun i => i ≤ M) (fun i => M - i) 0 (Nat.zero_le _) (wk ⟨sR rfl, sR rfl, sR rfl, sR rfl, sR rfl, trivial⟩ ⟨bR rfl, trivial⟩) ?_)
 intro i hi
 have hl : (L.take i).length = i := by simp; omega
 by_cases hiM : i < M
 ·refine tr_mid1 ⟨[(0, cS U64 a), (1, cS U64 b), (2, cU p), (7, .c (.X 1000000)), (8, cI i)], [(1000000, .vec 25 U64 (L.take i))], 4, []⟩ ?_ (fun mid => rb (rg 14 rfl rfl (fun h => re rfl (tr_cond rfl (fun _ => tr_skip (at_mid mid (wk ⟨sR rfl, sR rfl, sR rfl, sR rfl, sR rfl, trivial⟩ ⟨bR rfl, trivial⟩))) (fun h2 => by cases h2))) (fun h => re rfl (tr_cond rfl (fun _ => tr_skip (at_mid mid (wk ⟨sR rfl, sR rfl, sR rfl, sR rfl, sR rfl, trivial⟩ ⟨bR rfl, trivial⟩))) (fun h2 => ?_)))))
  ·have h1 := ha i
   have h2 := hb i
   refine tr_seq (tr_block (rbt ?_))
   refine rc rfl rfl (rat_s a i) (rc rfl rfl (rat_s b i) ?_)
   refine rl U64 [_] rfl rfl (ra rfl rfl rfl rfl rfl rfl rfl rfl rfl ?_ ?_ (re rfl ?_))
   ·show (_ + 1 + (_ + 1) / 4 + 192) * 8 ≤ _; omega
   ·show (_ + 1) * 1 ≤ _; omega
   refine at_block (at_then (rt rfl (at_loop (i + 1) hiM (by show M - (i + 1) < M - i; omega) (Wk.trans (wk (st' := ⟨[(0, cS U64 a), (1, cS U64 b), (2, cU p), (7, .c (.X 4011000)), (8, cI ((i + 1 : Nat) : Int))], [(4011000, .vec 25 U64 (L.take (i + 1)))], 8, []⟩) ⟨sR rfl, sR rfl, sR rfl, sR rfl, sR rfl, trivial⟩ ⟨⟨_, rfl, BLe.of_eq ?_⟩, trivial⟩) (Wk.trans (wk_ren 1000000 4011000 rfl rfl rfl) (wk ⟨sR rfl, sR rfl, sR rfl, sR rfl, sR rfl, trivial⟩ ⟨bR rfl, trivial⟩))))))
   refine congrArg (Blk.vec 25 U64) ?_
   rw [take_succ_get _ i (by omega), hLg i hiM, wrap_u64 (a.getD i 0 + p) (by omega) (by omega), wrap_u64 _ (by omega) (by omega)]
  ·exfalso
   have h : ¬ (i : Int) < (a.length : Int) := of_decide_eq_false h
   have h2 : ¬ (i : Int) < (b.length : Int) := of_decide_eq_false h2
   omega
 ·have hi2 : i = M := by omega
  subst hi2
  have ht := rTrim9_s L p (by omega) hp0 (by omega) hL0
  rw [hmd] at ht
  refine tr_seq (rb (rg 14 rfl rfl (fun h => ?_) (fun h => ?_)))
  ·exfalso
   have h : (i : Int) < (a.length : Int) := of_decide_eq_true h
   omega
  ·refine re rfl (tr_cond rfl (fun h2 => ?_) (fun h2 => ?_))
   ·exfalso
    have h2 : (i : Int) < (b.length : Int) := of_decide_eq_true h2
    omega
   ·rw [List.take_of_length_le (by omega)]
    exact tr_exit (at_then_exit (at_loop_exit (at_block_exit (at_then (tr_frz 1000000 rfl rfl rfl (rb (rc rfl rfl ht (re rfl (tr_ret (at_ret TT_ok rfl (AVle.refl _)))))))))))
end Go.El

/- Plain: polynomials modulo a prime, as lists. Own work; no condition. -/
namespace Go.El
def pcan (p : Int) (a : List Int) : Prop := rp p a ∧ can a
theorem trimN_zero (ws : List Int) : ∀ n i, trimN ws n ≤ i → i < n → ws.getD i 0 = 0
 | 0, i, _, h => by omega
 | n + 1, i, h1, h2 => by
  rw [trimN] at h1
  split at h1
  ·rename_i h
   by_cases e : i = n
   ·rw [e]; exact h
   ·exact trimN_zero ws n i h1 (by omega)
  ·omega
theorem getD_take (a : List Int) (n i : Nat) : (a.take n).getD i 0 = if i < n then a.getD i 0 else 0 := by
 rw [List.getD_eq_getElem?_getD, List.getElem?_take]
 split
 ·rw [List.getD_eq_getElem?_getD]
 ·rfl
theorem getD_ge (a : List Int) {i : Nat} (h : a.length ≤ i) : a.getD i 0 = 0 := by
 rw [List.getD_eq_getElem?_getD, List.getElem?_eq_none h]; rfl
theorem ps_trimW (a : List Int) : ps (trimW a) = ps a := PS.ext fun i => by
 rw [ps_at, ps_at, trimW, getD_take]
 split
 ·rfl
 ·rename_i h
  by_cases e : i < a.length
  ·exact (trimN_zero a a.length i (by omega) e).symm
  ·exact (getD_ge a (by omega)).symm
theorem rp_take {p : Int} (hp : 0 < p) {a : List Int} (h : rp p a) (n : Nat) : rp p (a.take n) := fun i => by
 rw [getD_take]
 split
 ·exact h i
 ·exact ⟨Int.le_refl _, hp⟩
theorem rp_trimW {p : Int} (hp : 0 < p) {a : List Int} (h : rp p a) : rp p (trimW a) := rp_take hp h _
theorem pcan_trim {p : Int} (hp : 0 < p) {a : List Int} (h : rp p a) : pcan p (trimW a) := ⟨rp_trimW hp h, trimW_can a⟩
theorem pcan_nil {p : Int} (hp : 0 < p) : pcan p [] := ⟨fun i => by simp; exact hp, .inl rfl⟩
theorem trimW_len (a : List Int) : (trimW a).length ≤ a.length := by
 unfold trimW; rw [List.length_take]; omega
theorem trimW_self {a : List Int} (h : can a) : trimW a = a := by
 have : trimN a a.length = a.length := by
  cases hl : a.length with
  | zero => rfl
  | succ n =>
   rw [trimN, if_neg]
   rcases h with h | h
   ·rw [h] at hl; cases hl
   ·rw [hl] at h; exact h
 rw [trimW, this, List.take_length]
theorem pcan.top {p : Int} {a : List Int} (h : pcan p a) {n : Nat} (hn : a.length = n + 1) : a.getD n 0 % p ≠ 0 := by
 rcases h.2 with e | e
 ·rw [e] at hn; cases hn
 ·rw [hn, Nat.add_sub_cancel] at e
  have := h.1 n
  rw [Int.emod_eq_of_lt this.1 this.2]; exact e
theorem pcan.len {p : Int} {a : List Int} (h : pcan p a) {n : Nat} (hd : Dl p n (ps a)) : a.length ≤ n := by
 by_cases e : a.length ≤ n
 ·exact e
 ·obtain ⟨m, hm⟩ : ∃ m, a.length = m + 1 := ⟨a.length - 1, by omega⟩
  exact absurd (hd m (by omega)) (h.top hm)
theorem pcan_eq {p : Int} {a b : List Int} (ha : pcan p a) (hb : pcan p b) (h : Cg p (ps a) (ps b)) : a = b := by
 have h1 := ha.len ((Dl_ps p b).cg h.symm)
 have h2 := hb.len ((Dl_ps p a).cg h)
 refine List.ext_getElem (by omega) (fun i h3 h4 => ?_)
 have h5 := h.at i
 have h6 := ha.1 i
 have h7 := hb.1 i
 rw [ps_at, ps_at, Int.emod_eq_of_lt h6.1 h6.2, Int.emod_eq_of_lt h7.1 h7.2, List.getD_eq_getElem?_getD, List.getD_eq_getElem?_getD, List.getElem?_eq_getElem h3, List.getElem?_eq_getElem h4] at h5
 exact h5
theorem ps_nil : ps [] = 0 := PS.ext fun i => by rw [ps_at, PS.zero_at]; rfl
theorem ps_set {r : List Int} {k : Nat} (v : Int) (h : k < r.length) : ps (r.set k v) = ps r + PS.K (v - r.getD k 0) * PS.X k := PS.ext fun i => by
 rw [PS.add_at, PS.K_mul, ps_at, ps_at, getD_set_eq _ _ _ _ h]
 unfold PS.X
 split
 ·rename_i e
  first
   | (subst e; simp; omega)
   | (rw [e]; simp; omega)
 ·rename_i e
  rw [if_neg (fun h => e h.symm)]
  omega
theorem ps_take_succ (a : List Int) (i : Nat) : ps (a.take (i + 1)) = ps (a.take i) + PS.K (a.getD i 0) * PS.X i := PS.ext fun j => by
 rw [PS.add_at, PS.K_mul, ps_at, ps_at, getD_take, getD_take]
 unfold PS.X
 by_cases h : j < i
 ·rw [if_pos h, if_pos (by omega), if_neg (by omega)]; omega
 ·by_cases e : j = i
  ·subst e; rw [if_pos (by omega), if_neg (by omega), if_pos rfl]; omega
  ·rw [if_neg (by omega), if_neg (by omega), if_neg e]; omega
theorem ps_take_zero (a : List Int) : ps (a.take 0) = 0 := by rw [List.take_zero, ps_nil]
theorem ps_one : ps [1] = 1 := PS.ext fun i => by
 cases i with
 | zero => rfl
 | succ i => rfl
theorem ps_rep (n : Nat) : ps (List.replicate n 0) = 0 := PS.ext fun i => by
 rw [ps_at, PS.zero_at, List.getD_eq_getElem?_getD, List.getElem?_replicate]
 split <;> rfl
theorem Cg.Kmul {p a b : Int} (h : a % p = b % p) (A : PS) : Cg p (PS.K a * A) (PS.K b * A) := (Cg.K h).mul_r A
theorem tRow_ps (a b : List Int) (p : Int) (i : Nat) (r : List Int) : ∀ j, i + j ≤ r.length → Cg p (ps (tRow a b p i j r)) (ps r + PS.K (a.getD i 0) * PS.X i * ps (b.take j))
 | 0, _ => by rw [tRow, ps_take_zero, PS.mul_zero, PS.add_zero]; exact Cg.refl _ _
 | j + 1, h => by
  have ih := tRow_ps a b p i r j (by omega)
  rw [tRow, ps_set _ (by rw [tRow_len]; omega), ps_take_succ, PS.mul_add, ← PS.add_assoc]
  refine ih.add ?_
  have e : PS.K (a.getD i 0) * PS.X i * (PS.K (b.getD j 0) * PS.X j) = PS.K (a.getD i 0 * b.getD j 0) * PS.X (i + j) := by
   rw [PS.K_mulK, PS.X_add]; ac_rfl
  rw [e]
  refine Cg.Kmul ?_ _
  rw [Int.sub_emod, Int.emod_emod, ← Int.sub_emod]
  congr 1; omega
theorem tAll_ps (a b : List Int) (p : Int) : ∀ i, i ≤ a.length → Cg p (ps (tAll a b p i)) (ps (a.take i) * ps b)
 | 0, _ => by rw [tAll, ps_rep, ps_take_zero, PS.zero_mul]; exact Cg.refl _ _
 | i + 1, h => by
  have ih := tAll_ps a b p i (by omega)
  have h2 := tRow_ps a b p i (tAll a b p i) b.length (by rw [tAll_len]; omega)
  rw [List.take_length] at h2
  rw [tAll, ps_take_succ, PS.add_mul]
  exact h2.trans (ih.add_r _)
theorem ptimes_ps (a b : List Int) (p : Int) : Cg p (ps (ptimes a b p)) (ps a * ps b) := by
 unfold ptimes
 split
 ·rename_i h
  rcases h with h | h
  ·rw [h, ps_nil, PS.zero_mul]; exact Cg.refl _ _
  ·rw [h, ps_nil, PS.mul_zero]; exact Cg.refl _ _
 ·rw [ps_trimW]
  have := tAll_ps a b p a.length (Nat.le_refl _)
  rwa [List.take_length] at this
theorem ptimes_pcan {p : Int} (hp : 0 < p) (a b : List Int) : pcan p (ptimes a b p) := by
 unfold ptimes
 split
 ·exact pcan_nil hp
 ·exact pcan_trim hp (tAll_rp a b hp _)
theorem ptimes_len (a b : List Int) (p : Int) : (ptimes a b p).length ≤ a.length + b.length - 1 := by
 unfold ptimes
 split
 ·exact Nat.zero_le _
 ·have := trimW_len (tAll a b p a.length)
  rwa [tAll_len] at this
theorem psub_ps (a b : List Int) (p : Int) : Cg p (ps (trimW (psubL a b p))) (ps a - ps b) := by
 rw [ps_trimW]
 refine Cg.of fun i => ?_
 rw [PS.sub_at, ps_at, ps_at, ps_at, psubL, List.getD_eq_getElem?_getD, List.getElem?_map]
 by_cases h : i < max a.length b.length
 ·rw [List.getElem?_range h]
  show ((a.getD i 0 + p - b.getD i 0) % p) % p = _
  rw [Int.emod_emod, show a.getD i 0 + p - b.getD i 0 = a.getD i 0 - b.getD i 0 + p by omega, Int.add_emod_right]
 ·rw [List.getElem?_eq_none (by simp; omega), getD_ge a (by omega), getD_ge b (by omega)]; rfl
theorem deg_ex {p : Int} {A : PS} : ∀ {m : Nat}, Dl p m A → Cg p A 0 ∨ ∃ d, d < m ∧ A d % p ≠ 0 ∧ Dl p (d + 1) A
 | 0, h => .inl (Dl_zero h)
 | m + 1, h => by
  by_cases e : A m % p = 0
  ·rcases deg_ex (m := m) (A := A) (p := p) (fun i hi => by
    by_cases e2 : i = m
    ·rw [e2]; exact e
    ·exact h i (by omega)) with h1 | ⟨d, h1, h2, h3⟩
   ·exact .inl h1
   ·exact .inr ⟨d, by omega, h2, h3⟩
  ·exact .inr ⟨m, by omega, e, h⟩
theorem mul_top {p : Nat} (hp : IsP p) {A B : PS} {d e : Nat} (hA : Dl p (d + 1) A) (hB : Dl p (e + 1) B) (ha : A d % p ≠ 0) (hb : B e % p ≠ 0) : (A * B) (d + e) % (p : Int) ≠ 0 := by
 rw [hA.top hB]; exact hp.mul_ne ha hb
theorem mul_zero_of {p : Nat} (hp : IsP p) {D B : PS} {m n : Nat} (hD : Dl p m D) (hB : Dl p (n + 1) B) (hb : B n % p ≠ 0) (h : Dl p n (D * B)) : Cg p D 0 := by
 rcases deg_ex hD with h1 | ⟨d, h1, h2, h3⟩
 ·exact h1
 ·exact absurd (h (d + n) (by omega)) (mul_top hp h3 hB h2 hb)
theorem div_uniq {p : Nat} (hp : IsP p) {Q R Q' R' B : PS} {m n : Nat} (hB : Dl p (n + 1) B) (hb : B n % p ≠ 0) (hQ : Dl p m Q) (hQ' : Dl p m Q') (hR : Dl p n R) (hR' : Dl p n R') (h : Cg p (Q * B + R) (Q' * B + R')) : Cg p Q Q' ∧ Cg p R R' := by
 have e : Cg p ((Q - Q') * B) (R' - R) := by
  have h1 : (Q - Q') * B = (Q * B + R) + -(Q' * B + R) := by
   rw [PS.sub_def, PS.add_mul, PS.neg_mul, PS.neg_add]
   have : Q * B + R + (-(Q' * B) + -R) = Q * B + -(Q' * B) + (R + -R) := by ac_rfl
   rw [this, PS.add_neg, PS.add_zero]
  have h2 : R' - R = (Q' * B + R') + -(Q' * B + R) := by
   rw [PS.sub_def, PS.neg_add]
   have : Q' * B + R' + (-(Q' * B) + -R) = Q' * B + -(Q' * B) + (R' + -R) := by ac_rfl
   rw [this, PS.add_neg, PS.zero_add]
  rw [h1, h2]
  exact h.add_r _
 have h0 := mul_zero_of hp (hQ.sub hQ') hB hb ((hR'.sub hR).cg e.symm)
 have hQQ : Cg p Q Q' := by
  have := h0.add_r Q'
  have e1 : Q - Q' + Q' = Q := by rw [PS.sub_def, PS.add_assoc, PS.neg_add_self, PS.add_zero]
  rwa [e1, PS.zero_add] at this
 refine ⟨hQQ, ?_⟩
 have h3 : Cg p (R' - R) 0 := by
  have := h0.mul_r B
  rw [PS.zero_mul] at this
  exact e.symm.trans this
 have := h3.add_r R
 have e1 : R' - R + R = R' := by rw [PS.sub_def, PS.add_assoc, PS.neg_add_self, PS.add_zero]
 rw [e1, PS.zero_add] at this
 exact this.symm
theorem unit_deg {p : Nat} (hp : IsP p) {A B : PS} {m n : Nat} (hA : Dl p m A) (hB : Dl p n B) (h : Cg p (A * B) 1) : Dl p 1 A := by
 have h10 : ¬ (1 : Int) % (p : Int) = 0 := by
  have := hp.1
  rw [Int.emod_eq_of_lt (by decide) (by omega)]; decide
 have h0 : ¬ Cg p (A * B) 0 := fun e => h10 (by
  have := (e.symm.trans h).at 0
  rw [PS.zero_at, Int.zero_emod] at this
  exact this.symm)
 rcases deg_ex hA with h1 | ⟨d, _, h2, h3⟩
 ·exact absurd (by have := h1.mul_r B; rwa [PS.zero_mul] at this) h0
 ·rcases deg_ex hB with h4 | ⟨e, _, h5, h6⟩
  ·exact absurd (by have := h4.mul_l A; rwa [PS.mul_zero] at this) h0
  ·have h7 := mul_top hp h3 h6 h2 h5
   rw [h.at (d + e)] at h7
   by_cases e0 : d = 0
   ·subst e0; exact h3
   ·exact absurd (Dl_1 (p : Int) (d + e) (by omega)) h7
end Go.El

/- Plain: division and greatest common divisors modulo a prime. Own work; no condition. -/
namespace Go.El
theorem dRow_ps (b : List Int) (p c : Int) (i : Nat) (r : List Int) : ∀ j, i + j ≤ r.length → Cg p (ps (dRow b p c i j r)) (ps r - PS.K c * PS.X i * ps (b.take j))
 | 0, _ => by rw [dRow, ps_take_zero, PS.mul_zero, PS.sub_def, PS.neg_zero, PS.add_zero]; exact Cg.refl _ _
 | j + 1, h => by
  have ih := dRow_ps b p c i r j (by omega)
  have e : ps r - PS.K c * PS.X i * ps (b.take (j + 1)) = (ps r - PS.K c * PS.X i * ps (b.take j)) + PS.K (-(c * b.getD j 0)) * PS.X (i + j) := by
   rw [ps_take_succ, PS.mul_add, PS.sub_def, PS.neg_add, PS.sub_def, ← PS.add_assoc]
   congr 1
   have e2 : PS.K c * PS.X i * (PS.K (b.getD j 0) * PS.X j) = PS.K (c * b.getD j 0) * PS.X (i + j) := by
    rw [PS.K_mulK, PS.X_add]; ac_rfl
   rw [e2, PS.neg_eq, ← PS.mul_assoc, ← PS.K_mulK]
   congr 2; omega
  rw [dRow, ps_set _ (by rw [dRow_len]; omega), e]
  refine ih.add (Cg.Kmul ?_ _)
  rw [Int.sub_emod, Int.emod_emod, ← Int.sub_emod, show ∀ x : Int, x + (p - c) * b.getD j 0 - x = -(c * b.getD j 0) + p * b.getD j 0 by intro x; rw [Int.sub_mul]; omega, Int.add_mul_emod_self_left]
structure DvI (a b : List Int) (p : Int) (m n k : Nat) (x : List Int × List Int) : Prop where
 cg : Cg p (ps a) (ps x.1 * ps b + ps x.2)
 dl : Dl p (n + (m - k)) (ps x.2)
 z : ∀ j, j < m - k → x.1.getD j 0 = 0
theorem dSt_inv {p : Int} {a b : List Int} {v : Int} {n m : Nat} (hb : b.length = n + 1) (ha : a.length = n + m) (hv : b.getD n 0 * v % p = 1 % p) : ∀ k, k ≤ m → DvI a b p m n k (dSt a b p v m n k)
 | 0, _ => by
  refine ⟨?_, ?_, fun j hj => ?_⟩
  ·rw [dSt, ps_rep, PS.zero_mul, PS.zero_add]; exact Cg.refl _ _
  ·rw [dSt, Nat.sub_zero, ← ha]; exact Dl_ps p a
  ·rw [dSt, List.getD_eq_getElem?_getD, List.getElem?_replicate]; split <;> rfl
 | k + 1, hk => by
  have ih := dSt_inv hb ha hv k (by omega)
  have hl := dSt_len a b p v m n k
  obtain ⟨i, hi⟩ : ∃ i, m = i + (k + 1) := ⟨m - (k + 1), by omega⟩
  have ei : m - (k + 1) = i := by omega
  rw [dSt, ei]
  generalize hx : dSt a b p v m n k = x at *
  generalize hc : x.2.getD (i + n) 0 * v % p = c
  have hd := dRow_ps b p c i x.2 b.length (by omega)
  rw [List.take_length] at hd
  have hz : x.1.getD i 0 = 0 := ih.z i (by omega)
  have hq : ps (x.1.set i c) = ps x.1 + PS.K c * PS.X i := by rw [ps_set c (by omega), hz, Int.sub_zero]
  refine ⟨?_, ?_, fun j hj => ?_⟩
  ·simp only
   rw [hq]
   have h1 : ps x.1 * ps b + ps x.2 = (ps x.1 + PS.K c * PS.X i) * ps b + (ps x.2 - PS.K c * PS.X i * ps b) := by
    rw [PS.add_mul, PS.sub_def]
    have : ps x.1 * ps b + PS.K c * PS.X i * ps b + (ps x.2 + -(PS.K c * PS.X i * ps b)) = ps x.1 * ps b + ps x.2 + (PS.K c * PS.X i * ps b + -(PS.K c * PS.X i * ps b)) := by ac_rfl
    rw [this, PS.add_neg, PS.add_zero]
   exact (ih.cg.trans (Cg.of_eq h1)).trans (hd.symm.add_l _)
  ·simp only
   refine Dl.cg (fun j hj => ?_) hd.symm
   rw [PS.sub_at, PS.mul_assoc, PS.K_mul, PS.X_mul]
   by_cases e : j = n + i
   ·subst e
    rw [if_pos (by omega), show n + i - i = n by omega, ps_at, ps_at, ← hc, Nat.add_comm i n]
    generalize x.2.getD (n + i) 0 = y
    rw [Int.sub_emod, Int.mul_emod, Int.emod_emod, ← Int.mul_emod, Int.mul_assoc, Int.mul_comm v, Int.mul_emod, hv, ← Int.mul_emod, Int.mul_one, Int.sub_self, Int.zero_emod]
   ·have h1 := ih.dl j (by omega)
    have h2 := Dl_ps p b (j - i) (by omega)
    rw [if_pos (by omega), Int.sub_emod, h1, Int.mul_emod, h2, Int.mul_zero, Int.zero_emod]; rfl
  ·simp only
   rw [getD_set_eq _ _ _ _ (by omega)]
   split
   ·omega
   ·exact ih.z j (by omega)
theorem lead_inv {p : Nat} (hp : IsP p) (hp31 : p ≤ 2147483648) {x : Int} (h0 : 0 ≤ x) (hx : x < p) (hn : x ≠ 0) : x * ((invM x.toNat ((p : Nat) : Int).toNat : Nat) : Int) % (p : Int) = 1 := by
 obtain ⟨y, rfl⟩ := Int.eq_ofNat_of_zero_le h0
 have h2 := hp.1
 rw [Int.toNat_natCast, Int.toNat_natCast, invM_eq y p (by omega) (by omega)]
 have h3 : ¬ p ∣ y := fun hd => by
  have := Nat.le_of_dvd (by omega) hd
  omega
 have h4 := hp.inv h3
 rw [← Int.natCast_mul]
 omega
theorem ps_take_of {p : Int} {r : List Int} {n : Nat} (h : rp p r) (hd : Dl p n (ps r)) : ps (r.take n) = ps r := PS.ext fun i => by
 rw [ps_at, ps_at, getD_take]
 split
 ·rfl
 ·have h1 := hd i (by omega)
  have h2 := h i
  rw [ps_at, Int.emod_eq_of_lt h2.1 h2.2] at h1
  exact h1.symm
theorem pdiv_ok {p : Nat} (hp : IsP p) (hp31 : p ≤ 2147483648) {a b : List Int} (ha : rp p a) (hb : pcan p b) (hb0 : b ≠ []) :
  Cg p (ps a) (ps (pdivide a b p).1 * ps b + ps (pdivide a b p).2) ∧ rp p (pdivide a b p).1 ∧ rp p (pdivide a b p).2 ∧ (pdivide a b p).2.length ≤ b.length - 1 ∧ (pcan p a → pcan p (pdivide a b p).2) ∧ (pdivide a b p).1.length = a.length - (b.length - 1) := by
 have h2 := hp.1
 have hp0 : (0 : Int) < (p : Int) := by omega
 obtain ⟨n, hn⟩ : ∃ n, b.length = n + 1 := ⟨b.length - 1, by have := List.length_pos_iff.2 hb0; omega⟩
 rw [pdivide, hn, Nat.add_sub_cancel]
 by_cases h : a.length ≤ n
 ·rw [if_pos h]
  refine ⟨?_, (pcan_nil hp0).1, ha, h, fun hc => hc, ?_⟩
  ·rw [ps_nil, PS.zero_mul, PS.zero_add]; exact Cg.refl _ _
  ·show 0 = _; omega
 ·rw [if_neg h]
  obtain ⟨m, hm⟩ : ∃ m, a.length = n + m := ⟨a.length - n, by omega⟩
  rw [hm, Nat.add_sub_cancel_left]
  have hbn := hb.1 n
  have hbt : b.getD n 0 ≠ 0 := by
   have := hb.top hn
   exact fun e => this (by rw [e]; exact Int.zero_emod _)
  have hv := lead_inv hp hp31 hbn.1 hbn.2 hbt
  generalize ((invM (b.getD n 0).toNat ((p : Nat) : Int).toNat : Nat) : Int) = v at *
  have hI := dSt_inv (p := p) (v := v) hn hm (by rw [hv, Int.emod_eq_of_lt (by decide) (by omega)]) m (Nat.le_refl _)
  have hl := dSt_len a b p v m n m
  have hr := dSt_rp b v m n hp0 ha m
  have hd := hI.dl
  rw [Nat.sub_self, Nat.add_zero] at hd
  refine ⟨?_, hr.1, rp_trimW hp0 (rp_take hp0 hr.2 n), ?_, fun _ => pcan_trim hp0 (rp_take hp0 hr.2 n), hl.1⟩
  ·simp only
   rw [ps_trimW, ps_take_of hr.2 hd]
   exact hI.cg
  ·simp only
   have := trimW_len ((dSt a b p v m n m).2.take n)
   rw [List.length_take] at this
   omega
def gcdL (p : Int) : Nat → List Int → List Int → List Int
 | 0, f, _ => f
 | k + 1, f, g => if g = [] then f else gcdL p k g (pdivide f g p).2
def monicL (p : Int) (a : List Int) : List Int := if a = [] then [] else ptimes a [((invM (a.getD (a.length - 1) 0).toNat p.toNat : Nat) : Int)] p
def gcdP (p : Int) (f g : List Int) : List Int := monicL p (gcdL p (g.length + 1) f g)
def Pol (p : Int) (A : PS) : Prop := ∃ n, Dl p n A
theorem Pol.add {p : Int} {A B : PS} (h : Pol p A) (k : Pol p B) : Pol p (A + B) := by
 obtain ⟨n, h⟩ := h
 obtain ⟨m, k⟩ := k
 exact ⟨max n m, (h.le (by omega)).add (k.le (by omega))⟩
theorem Pol.neg {p : Int} {A : PS} (h : Pol p A) : Pol p (-A) := by obtain ⟨n, h⟩ := h; exact ⟨n, h.neg⟩
theorem Pol.sub {p : Int} {A B : PS} (h : Pol p A) (k : Pol p B) : Pol p (A - B) := by rw [PS.sub_def]; exact h.add k.neg
theorem Pol.mul {p : Int} {A B : PS} (h : Pol p A) (k : Pol p B) : Pol p (A * B) := by
 obtain ⟨n, h⟩ := h
 obtain ⟨m, k⟩ := k
 exact ⟨n + m, h.mul' k⟩
theorem Pol.ps (p : Int) (a : List Int) : Pol p (ps a) := ⟨_, Dl_ps p a⟩
theorem Pol.K (p c : Int) : Pol p (PS.K c) := ⟨_, Dl_K p c⟩
theorem Pol.zero (p : Int) : Pol p 0 := ⟨0, Dl_0 p 0⟩
theorem Pol.one (p : Int) : Pol p 1 := ⟨1, Dl_1 p⟩
theorem Pol.cg {p : Int} {A B : PS} (h : Pol p A) (k : Cg p A B) : Pol p B := by obtain ⟨n, h⟩ := h; exact ⟨n, h.cg k⟩
def Cop (p : Int) (A B : PS) : Prop := ∃ U V, Pol p U ∧ Pol p V ∧ Cg p (U * A + V * B) 1
theorem Cop.step {p : Int} {A B Q R : PS} (h : Cop p A B) (hQ : Pol p Q) (e : Cg p A (Q * B + R)) : Cop p B R := by
 obtain ⟨U, V, h1, h2, h3⟩ := h
 refine ⟨U * Q + V, U, (h1.mul hQ).add h2, h1, ?_⟩
 have : (U * Q + V) * B + U * R = U * (Q * B + R) + V * B := by
  simp only [PS.mul_add, PS.add_mul]; ac_rfl
 rw [this]
 exact ((e.symm.mul_l U).add_r _).trans h3
theorem Cop.unstep {p : Int} {A B Q R : PS} (h : Cop p B R) (hQ : Pol p Q) (e : Cg p A (Q * B + R)) : Cop p A B := by
 obtain ⟨U, V, h1, h2, h3⟩ := h
 refine ⟨V, U - V * Q, h2, h1.sub (h2.mul hQ), ?_⟩
 have e1 : V * (Q * B + R) + (U - V * Q) * B = U * B + V * R := by
  rw [PS.mul_add, PS.sub_def, PS.add_mul, PS.neg_mul]
  have : V * (Q * B) + V * R + (U * B + -(V * Q * B)) = (U * B + V * R) + (V * Q * B + -(V * Q * B)) := by ac_rfl
  rw [this, PS.add_neg, PS.add_zero]
 exact ((e.mul_l V).add_r _).trans ((Cg.of_eq e1).trans h3)
theorem gcdL_ok {p : Nat} (hp : IsP p) (hp31 : p ≤ 2147483648) : ∀ (k : Nat) (f g : List Int), pcan p f → pcan p g → g.length < k → pcan p (gcdL p k f g) ∧ (Cop p (ps f) (ps g) ↔ (gcdL p k f g).length = 1) ∧ (gcdL p k f g).length ≤ max f.length g.length
 | 0, _, _, _, _, h => by omega
 | k + 1, f, g, hf, hg, h => by
  rw [gcdL]
  have h2 := hp.1
  split
  ·rename_i e
   subst e
   refine ⟨hf, ⟨fun hc => ?_, fun hl => ?_⟩, by omega⟩
   ·obtain ⟨U, V, hU, hV, hc⟩ := hc
    rw [ps_nil, PS.mul_zero, PS.add_zero, PS.mul_comm] at hc
    obtain ⟨m, hU⟩ := hU
    have h3 := hf.len (unit_deg hp (Dl_ps p f) hU hc)
    by_cases e : f.length = 0
    ·exfalso
     have := List.eq_nil_of_length_eq_zero e
     subst this
     rw [ps_nil, PS.zero_mul] at hc
     have := hc.at 0
     rw [PS.zero_at, Int.zero_emod] at this
     have h4 : (1 : Int) % (p : Int) = 1 := Int.emod_eq_of_lt (by decide) (by omega)
     have h5 : (0 : Int) = 1 % (p : Int) := this
     omega
    ·omega
   ·have h3 := hf.top (n := 0) (by omega)
    have h4 := hf.1 0
    have h5 : f.getD 0 0 ≠ 0 := fun e => h3 (by rw [e]; exact Int.zero_emod _)
    have h6 := lead_inv hp hp31 h4.1 h4.2 h5
    refine ⟨PS.K ((invM (f.getD 0 0).toNat ((p : Nat) : Int).toNat : Nat) : Int), 0, Pol.K _ _, Pol.zero _, ?_⟩
    rw [PS.zero_mul, PS.add_zero]
    have e1 : ps f = PS.K (f.getD 0 0) := PS.ext fun i => by
     unfold PS.K
     split
     ·rename_i e; subst e; rfl
     ·exact getD_ge f (by omega)
    rw [e1, ← PS.K_mulK, PS.one_eq, Int.mul_comm]
    exact Cg.K (by rw [h6, Int.emod_eq_of_lt (by decide) (by omega)])
  ·rename_i e
   obtain ⟨d1, d2, d3, d4, d5, d6⟩ := pdiv_ok hp hp31 hf.1 hg e
   have hl := List.length_pos_iff.2 e
   obtain ⟨i1, i2, i3⟩ := gcdL_ok hp hp31 k g (pdivide f g p).2 hg (d5 hf) (by omega)
   refine ⟨i1, ⟨fun hc => i2.1 (hc.step (Pol.ps _ _) d1), fun h => (i2.2 h).unstep (Pol.ps _ _) d1⟩, by omega⟩
theorem monicL_ok {p : Nat} (hp : IsP p) (hp31 : p ≤ 2147483648) {a : List Int} (ha : pcan p a) (h0 : a ≠ []) : pcan p (monicL p a) ∧ (monicL p a).length = a.length ∧ (monicL p a).getD (a.length - 1) 0 = 1 ∧ Cg p (ps (monicL p a)) (ps a * PS.K ((invM (a.getD (a.length - 1) 0).toNat ((p : Nat) : Int).toNat : Nat) : Int)) ∧ Cg p (ps a) (ps (monicL p a) * PS.K (a.getD (a.length - 1) 0)) := by
 have h2 := hp.1
 obtain ⟨n, hn⟩ : ∃ n, a.length = n + 1 := ⟨a.length - 1, by have := List.length_pos_iff.2 h0; omega⟩
 have hb := ha.1 n
 have hbt : a.getD n 0 ≠ 0 := fun e => ha.top hn (by rw [e]; exact Int.zero_emod _)
 have hv := lead_inv hp hp31 hb.1 hb.2 hbt
 rw [monicL, if_neg h0, hn, Nat.add_sub_cancel]
 generalize ((invM (a.getD n 0).toNat ((p : Nat) : Int).toNat : Nat) : Int) = v at *
 have hps : ps [v] = PS.K v := PS.ext fun i => by
  cases i with
  | zero => rfl
  | succ i => rfl
 have h3 := ptimes_ps a [v] p
 rw [hps] at h3
 have h4 := ptimes_pcan (show (0 : Int) < p by omega) a [v]
 have htop : (ps (ptimes a [v] p)) n % (p : Int) = 1 := by
  rw [h3.at n, PS.mul_comm, PS.K_mul, Int.mul_comm, ps_at]; exact hv
 have hn1 : n < (ptimes a [v] p).length := by
  by_cases e : n < (ptimes a [v] p).length
  ·exact e
  ·rw [ps_at, getD_ge _ (by omega)] at htop
   simp at htop
 have hn2 := ptimes_len a [v] p
 have hl : (ptimes a [v] p).length = n + 1 := by simp only [List.length_cons, List.length_nil] at hn2; omega
 refine ⟨h4, hl, ?_, h3, ?_⟩
 ·have h5 := h4.1 n
  rw [ps_at, Int.emod_eq_of_lt h5.1 h5.2] at htop
  exact htop
 ·refine Cg.symm ((h3.mul_r _).trans ?_)
  rw [PS.mul_assoc, ← PS.K_mulK, Int.mul_comm v]
  have : Cg p (ps a * PS.K (a.getD n 0 * v)) (ps a * PS.K 1) := (Cg.K (by rw [hv, Int.emod_eq_of_lt (by decide) (by omega)])).mul_l _
  rw [← PS.one_eq, PS.mul_one] at this
  exact this
end Go.El

/- Contracts: division and greatest common divisors modulo p, of the reference and of the program. Own work; no condition. -/
namespace Go.El
open Go Go.Proofs
theorem ps_rep_app (k : Nat) (l : List Int) : ps (List.replicate k 0 ++ l) = PS.X k * ps l := PS.ext fun i => by
 rw [PS.X_mul, ps_at, ps_at, List.getD_eq_getElem?_getD, List.getElem?_append, List.length_replicate]
 by_cases h : i < k
 ·rw [if_pos h, if_neg (by omega), List.getElem?_replicate, if_pos h]; rfl
 ·rw [if_neg h, if_pos (by omega), ← List.getD_eq_getElem?_getD]
theorem rp_rep_app {p : Int} (hp : 0 < p) (k : Nat) {l : List Int} (h : rp p l) : rp p (List.replicate k 0 ++ l) := fun i => by
 rw [List.getD_eq_getElem?_getD, List.getElem?_append, List.length_replicate]
 split
 ·rw [List.getElem?_replicate]
  split <;> exact ⟨Int.le_refl _, hp⟩
 ·have := h (i - k)
  rwa [List.getD_eq_getElem?_getD] at this
theorem ps_single (x : Int) : ps [x] = PS.K x := PS.ext fun i => by
 cases i with
 | zero => rfl
 | succ i => rfl
theorem rp_single {p x : Int} (h0 : 0 ≤ x) (h1 : x < p) : rp p [x] := fun i => by
 cases i with
 | zero => exact ⟨h0, h1⟩
 | succ i => exact ⟨Int.le_refl _, by show (0 : Int) < p; omega⟩
structure RdI (p : Int) (a b : List Int) (M : Nat) (x : List Int × List Int) : Prop where
 c : pcan p x.1
 l : x.1.length ≤ a.length
 ql : x.2.length = M
 qr : rp p x.2
 cg : Cg p (ps a) (ps x.2 * ps b + ps x.1)
 z : ∀ j, j + b.length ≤ x.1.length → x.2.getD j 0 = 0
theorem RdI.next {p : Nat} (hp : IsP p) (hp31 : p ≤ 2147483648) {a b : List Int} {M : Nat} {r q : List Int} (h : RdI p a b M (r, q)) (hb : pcan p b) (hb0 : b ≠ []) (hl : b.length ≤ r.length) (hM : a.length - b.length < M)
  {f : Int} (hf : f = r.getD (r.length - 1) 0 * ((invM (b.getD (b.length - 1) 0).toNat ((p : Nat) : Int).toNat : Nat) : Int) % (p : Int)) :
  RdI p a b M (trimW (psubL r (List.replicate (r.length - b.length) 0 ++ ptimes [f] b p) p), q.set (r.length - b.length) f) ∧ (trimW (psubL r (List.replicate (r.length - b.length) 0 ++ ptimes [f] b p) p)).length < r.length := by
 have h2 := hp.1
 have hp0 : (0 : Int) < (p : Int) := by omega
 have hl0 := List.length_pos_iff.2 hb0
 obtain ⟨n, hn⟩ : ∃ n, b.length = n + 1 := ⟨b.length - 1, by omega⟩
 obtain ⟨k, hk⟩ : ∃ k, r.length = k + (n + 1) := ⟨r.length - (n + 1), by omega⟩
 rw [hk, hn, Nat.add_sub_cancel, show k + (n + 1) - 1 = n + k by omega] at hf
 rw [hk, hn, Nat.add_sub_cancel]
 have hbn := hb.1 n
 have hbt : b.getD n 0 ≠ 0 := fun e => hb.top hn (by rw [e]; exact Int.zero_emod _)
 have hv := lead_inv hp hp31 hbn.1 hbn.2 hbt
 generalize ((invM (b.getD n 0).toNat ((p : Nat) : Int).toNat : Nat) : Int) = v at *
 have hf0 : 0 ≤ f ∧ f < p := by rw [hf]; exact ⟨Int.emod_nonneg _ (by omega), Int.emod_lt_of_pos _ hp0⟩
 generalize hS : List.replicate k 0 ++ ptimes [f] b p = S
 have hSp : Cg p (ps S) (PS.K f * PS.X k * ps b) := by
  rw [← hS, ps_rep_app]
  have h3 := ptimes_ps [f] b p
  rw [ps_single] at h3
  have h4 := h3.mul_l (PS.X k)
  have e : PS.X k * (PS.K f * ps b) = PS.K f * PS.X k * ps b := by ac_rfl
  rwa [e] at h4
 have hr' : Cg p (ps (trimW (psubL r S p))) (ps r - PS.K f * PS.X k * ps b) := (psub_ps r S p).trans ((Cg.refl _ _).sub hSp)
 have hc' : pcan p (trimW (psubL r S p)) := pcan_trim hp0 (psubL_rp hp0 r S)
 have hlen : (trimW (psubL r S p)).length ≤ n + k := by
  refine hc'.len (Dl.cg (fun j hj => ?_) hr'.symm)
  rw [PS.sub_at, PS.mul_assoc, PS.K_mul, PS.X_mul]
  by_cases e : j = n + k
  ·subst e
   rw [if_pos (by omega), show n + k - k = n by omega, ps_at, ps_at, hf]
   generalize r.getD (n + k) 0 = y
   rw [Int.sub_emod, Int.mul_emod, Int.emod_emod, ← Int.mul_emod, Int.mul_assoc, Int.mul_comm v, Int.mul_emod, hv, Int.mul_one, Int.emod_emod, Int.sub_self, Int.zero_emod]
  ·have h3 := Dl_ps p r j (by show r.length ≤ j; omega)
   have h4 := Dl_ps p b (j - k) (by omega)
   rw [if_pos (by omega), Int.sub_emod, h3, Int.mul_emod, h4, Int.mul_zero, Int.zero_emod]; rfl
 have hkM : k < q.length := by
  have h5 : r.length ≤ a.length := h.l
  have h6 : q.length = M := h.ql
  omega
 have hqz : q.getD k 0 = 0 := h.z k (by show k + b.length ≤ r.length; omega)
 refine ⟨⟨hc', ?_, ?_, rp_set h.qr _ hf0.1 hf0.2, ?_, fun j hj => ?_⟩, by omega⟩
 ·have h5 : r.length ≤ a.length := h.l
  show (trimW (psubL r S p)).length ≤ a.length
  omega
 ·show (q.set k f).length = M
  rw [List.length_set]; exact h.ql
 ·simp only
  rw [ps_set f hkM, hqz, Int.sub_zero]
  have h1 : ps q * ps b + ps r = (ps q + PS.K f * PS.X k) * ps b + (ps r - PS.K f * PS.X k * ps b) := by
   rw [PS.add_mul, PS.sub_def]
   have : ps q * ps b + PS.K f * PS.X k * ps b + (ps r + -(PS.K f * PS.X k * ps b)) = ps q * ps b + ps r + (PS.K f * PS.X k * ps b + -(PS.K f * PS.X k * ps b)) := by ac_rfl
   rw [this, PS.add_neg, PS.add_zero]
  have h3 : Cg p (ps a) (ps q * ps b + ps r) := h.cg
  exact (h3.trans (Cg.of_eq h1)).trans (hr'.symm.add_l _)
 ·simp only at hj ⊢
  rw [getD_set_eq _ _ _ _ hkM]
  split
  ·omega
  ·exact h.z j (by show j + b.length ≤ r.length; omega)
set_option maxHeartbeats 4000000 in
theorem rDiv9_s (p : Nat) (hp : IsP p) (hp31 : p ≤ 2147483648) (a b : List Int) (la : a.length ≤ 500) (lb : b.length ≤ 500) (ha : pcan p a) (hb : pcan p b) (hb0 : b ≠ []) :
  FnS Tryz.prog 87 [cS U64 a, cS U64 b, cU p] (.a [.S U64 (trimW (pdivide a b p).1), .S U64 (pdivide a b p).2]) := by
 refine fs_intro Tryz.func87 rfl rfl rfl rfl rfl (by decide) ?_
 have h2 := hp.1
 have hp0 : (0 : Int) < (p : Int) := by omega
 have hpz : (p : Int) ≠ 0 := by omega
 have hl0 := List.length_pos_iff.2 hb0
 have hta := rTrim9_s a p (by omega) hp0 (by omega) (fun i => (ha.1 i).1)
 rw [md_self ha.1, trimW_self ha.2] at hta
 refine rr rfl (rb (rc rfl rfl hta (re rfl (rb ?_))))
 obtain ⟨M, hM⟩ : ∃ M : Nat, max ((a.length : Int) - (b.length : Int) + 1) 0 = (M : Int) := ⟨(max ((a.length : Int) - (b.length : Int) + 1) 0).toNat, by omega⟩
 refine rm U64 M rfl rfl rfl rfl rfl rfl (zr_int .u64) (by rw [if_pos rfl]; split <;> omega) ?_ ?_ (re rfl ?_)
 ·show _ * 8 ≤ _; omega
 ·show _ * 1 ≤ _; omega
 have a2 : ((b.length : Int) - 1).toNat = b.length - 1 := by omega
 have hbn := hb.1 (b.length - 1)
 have hbt : b.getD (b.length - 1) 0 ≠ 0 := fun e => hb.top (n := b.length - 1) (by omega) (by rw [e]; exact Int.zero_emod _)
 have hinv := rInv3_s (b.getD (b.length - 1) 0) p hbn hbt (by omega) (by omega)
 have hinv' : FnS Tryz.prog 154 [cU (b.getD ((b.length : Int) - 1).toNat 0), cU p] (.t [(false, [.I .u64 (invM (b.getD (b.length - 1) 0).toNat ((p : Nat) : Int).toNat : Nat)]), (false, [.I .i64 0])]) := by rw [a2]; exact hinv
 refine rb (rc rfl rfl hinv' (re rfl (hp := by simp only [Pr.an, Pr.h, num, i64r, true_and, and_true]; first | done | omega) ?_))
 generalize hv : ((invM (b.getD (b.length - 1) 0).toNat ((p : Nat) : Int).toNat : Nat) : Int) = v
 have hvb : 0 ≤ v ∧ v < p := by
  have := powM_lt (b.getD (b.length - 1) 0).toNat (p - 2) p (by omega)
  rw [← hv, invM, Int.toNat_natCast]
  omega
 have hI0 : RdI p a b M (a, List.replicate M 0) := by
  refine ⟨ha, Nat.le_refl _, List.length_replicate, rp_rep hp0 M, ?_, fun j _ => ?_⟩
  ·show Cg p (ps a) (ps (List.replicate M 0) * ps b + ps a)
   rw [ps_rep, PS.zero_mul, PS.zero_add]; exact Cg.refl _ _
  ·show (List.replicate M (0 : Int)).getD j 0 = 0
   rw [List.getD_eq_getElem?_getD, List.getElem?_replicate]; split <;> rfl
 refine tr_seq (tr_block (tr_loop (α := List Int × List Int) (fun x => ⟨[(1, cS U64 b), (2, cU p), (6, .c (.P 0 0)), (7, cS U64 x.1), (8, .c (.X 2007000)), (9, cU v)], [(0, .box 120 0 [.V (.slice none 0 0), .V (.slice none 0 0)]), (2007000, .vec 25 U64 x.2)], 4, []⟩) (RdI p a b M) (fun x => x.1.length) (a, List.replicate M 0) hI0 (wk ⟨sR rfl, sR rfl, sR rfl, sR rfl, sR rfl, sR rfl, trivial⟩ ⟨⟨_, rfl, BLe.of_eq rfl⟩, bR rfl, trivial⟩) ?_))
 rintro ⟨r, q⟩ hI
 have hc : pcan p r := hI.c
 have hrl : r.length ≤ a.length := hI.l
 have hql : q.length = M := hI.ql
 refine tr_seq (rr rfl (tr_cond rfl (fun h => ?_) (fun h => ?_)))
 ·have h : b.length ≤ r.length := by
   have h : (r.length : Int) ≥ (b.length : Int) := of_decide_eq_true h
   omega
  generalize hf : r.getD (r.length - 1) 0 * v % (p : Int) = f
  obtain ⟨hn1, hn2⟩ := hI.next hp hp31 hb hb0 h (by omega) (f := f) (by rw [hv]; exact hf.symm)
  have hf0 : 0 ≤ f ∧ f < p := by rw [← hf]; exact ⟨Int.emod_nonneg _ (by omega), Int.emod_lt_of_pos _ hp0⟩
  have hg := hc.1 (r.length - 1)
  have a3 : ((r.length : Int) - 1).toNat = r.length - 1 := by omega
  obtain ⟨k, hk⟩ : ∃ k, r.length = k + b.length := ⟨r.length - b.length, by omega⟩
  have ek : (r.length : Int) - (b.length : Int) = (k : Int) := by omega
  rw [show r.length - b.length = k by omega] at hn1 hn2
  refine tr_skip (at_then (tr_block (rr rfl (rr rfl (hp := by simp only [Pr.an, Pr.h, num, i64r, true_and, and_true]; first | done | omega) ?_))))
  refine tr_wk (st' := ⟨[(1, cS U64 b), (2, cU p), (6, .c (.P 0 0)), (7, cS U64 r), (8, .c (.X 2007000)), (9, cU v), (11, cI k), (12, cU f)], [(0, .box 120 0 [.V (.slice none 0 0), .V (.slice none 0 0)]), (2007000, .vec 25 U64 q)], 8, []⟩) (wk ⟨sR rfl, sR rfl, sR rfl, sR rfl, sR rfl, sR rfl, ⟨_, rfl, AVle.of_eq ?_⟩, ⟨_, rfl, AVle.of_eq ?_⟩, trivial⟩ ⟨bR rfl, bR rfl, trivial⟩) ?_
  ·exact congrArg (fun z => AV.c (C.I .i64 z)) ek
  ·refine congrArg (fun z => AV.c (C.I .u64 z)) ?_
   rw [a3, ← hf]
   exact mul_mod2 _ v p hg hvb (by omega)
  refine rr rfl (hp := by simp only [Pr.an, Pr.h, num, i64r, true_and, and_true]; first | done | omega) (rb ?_)
  refine rm U64 k rfl rfl rfl rfl rfl rfl (zr_int .u64) rfl ?_ ?_ ?_
  ·show _ * 8 ≤ _; omega
  ·show _ * 1 ≤ _; omega
  have hml := rMul9_s [f] b p (by simp) (by omega) hp0 (by omega) (rp_single hf0.1 hf0.2) hb.1
  have hpl := ptimes_len [f] b p
  simp only [List.length_cons, List.length_nil] at hpl
  refine rl U64 [_] rfl rfl (rc rfl rfl hml (ra rfl rfl rfl rfl rfl rfl rfl rfl rfl ?_ ?_ (re rfl ?_)))
  ·show (_ + _ + (_ + _) / 4 + 192) * 8 ≤ _; rw [List.length_replicate]; omega
  ·show (_ + _) * 1 ≤ _; rw [List.length_replicate]; omega
  refine tr_frz 9007000 rfl rfl rfl ?_
  have hsb := rSub9_s r (List.replicate k 0 ++ ptimes [f] b p) p (by omega) (by rw [List.length_append, List.length_replicate]; omega) hp0 (by omega) hc.1 (rp_rep_app hp0 k (ptimes_pcan hp0 _ _).1)
  refine rbt (rc rfl rfl hsb (re rfl (at_block (at_loop (trimW (psubL r (List.replicate k 0 ++ ptimes [f] b p) p), q.set k f) hn1 hn2 (wk ⟨sR rfl, sR rfl, sR rfl, sR rfl, sR rfl, sR rfl, trivial⟩ ⟨bR rfl, ⟨_, rfl, BLe.of_eq ?_⟩, trivial⟩)))))
  refine congrArg (Blk.vec 25 U64) ?_
  rw [Int.toNat_natCast]
 ·have h : r.length < b.length := by
   have h : ¬ (r.length : Int) ≥ (b.length : Int) := of_decide_eq_false h
   omega
  have hqr : rp p q := hI.qr
  have hcg : Cg p (ps a) (ps q * ps b + ps r) := hI.cg
  obtain ⟨d1, d2, d3, d4, d5, d6⟩ := pdiv_ok hp hp31 ha.1 hb hb0
  obtain ⟨n, hn⟩ : ∃ n, b.length = n + 1 := ⟨b.length - 1, by omega⟩
  obtain ⟨e1, e2⟩ := div_uniq hp (m := max q.length (pdivide a b p).1.length) (n := n) (hn ▸ Dl_ps p b) (hb.top hn) ((Dl_ps p q).le (by omega)) ((Dl_ps p (pdivide a b p).1).le (by omega)) ((Dl_ps p r).le (by omega)) ((Dl_ps p (pdivide a b p).2).le (by omega)) (hcg.symm.trans d1)
  have f2 : r = (pdivide a b p).2 := pcan_eq hc (d5 ha) e2
  have f1 : trimW q = trimW (pdivide a b p).1 := pcan_eq (pcan_trim hp0 hqr) (pcan_trim hp0 d2) (by rw [ps_trimW, ps_trimW]; exact e1)
  have ht := rTrim9_s q p (by omega) hp0 (by omega) (fun i => (hqr i).1)
  rw [md_self hqr, f1] at ht
  refine tr_exit (at_then_exit (at_loop_exit (at_block_exit (at_then (tr_frz 2007000 rfl rfl rfl (rb (rc rfl rfl ht (re rfl (tr_ret (at_ret TT_ok rfl (AVle.of_eq ?_)))))))))))
  rw [f2]; rfl
theorem rRem9_s (p : Nat) (hp : IsP p) (hp31 : p ≤ 2147483648) (a b : List Int) (la : a.length ≤ 500) (lb : b.length ≤ 500) (ha : pcan p a) (hb : pcan p b) (hb0 : b ≠ []) :
  FnS Tryz.prog 68 [cS U64 a, cS U64 b, cU p] (cS U64 (pdivide a b p).2) := by
 refine fs_intro Tryz.func68 rfl rfl rfl rfl rfl (by decide) ?_
 exact rr rfl (rb (rc rfl rfl (rDiv9_s p hp hp31 a b la lb ha hb hb0) (re rfl (tr_ret (at_ret TT_ok rfl (AVle.refl _))))))
theorem rMonic9_s (p : Nat) (hp : IsP p) (hp31 : p ≤ 2147483648) (a : List Int) (la : a.length ≤ 500) (ha : pcan p a) :
  FnS Tryz.prog 84 [cS U64 a, cU p] (cS U64 (monicL p a)) := by
 refine fs_intro Tryz.func84 rfl rfl rfl rfl rfl (by decide) ?_
 have h2 := hp.1
 have hp0 : (0 : Int) < (p : Int) := by omega
 refine rr rfl (tr_seq (rr rfl (tr_cond rfl (fun h => ?_) (fun h => tr_skip (at_then ?_)))))
 ·have h : (a.length : Int) = 0 := eq_of_beq h
  have h0 : a = [] := List.eq_nil_of_length_eq_zero (by omega)
  refine rr rfl (tr_ret (at_then_ret (at_ret TT_ok rfl ?_)))
  rw [monicL, if_pos h0]
  exact AVle.nil U64
 ·have h : (a.length : Int) ≠ 0 := beq_z' h
  have h0 : a ≠ [] := fun e => h (by rw [e]; rfl)
  have a2 : ((a.length : Int) - 1).toNat = a.length - 1 := by omega
  have hbn := ha.1 (a.length - 1)
  have hbt : a.getD (a.length - 1) 0 ≠ 0 := fun e => ha.top (n := a.length - 1) (by omega) (by rw [e]; exact Int.zero_emod _)
  have hinv := rInv3_s (a.getD (a.length - 1) 0) p hbn hbt (by omega) (by omega)
  have hinv' : FnS Tryz.prog 154 [cU (a.getD ((a.length : Int) - 1).toNat 0), cU p] (.t [(false, [.I .u64 (invM (a.getD (a.length - 1) 0).toNat ((p : Nat) : Int).toNat : Nat)]), (false, [.I .i64 0])]) := by rw [a2]; exact hinv
  refine rb (rc rfl rfl hinv' (hp := by simp only [Pr.an, Pr.h, num, i64r, true_and, and_true]; first | done | omega) (re rfl ?_))
  have hm := monicL_ok hp hp31 ha h0
  generalize hv : ((invM (a.getD (a.length - 1) 0).toNat ((p : Nat) : Int).toNat : Nat) : Int) = v at *
  have hvb : 0 ≤ v ∧ v < p := by
   have := powM_lt (a.getD (a.length - 1) 0).toNat (p - 2) p (by omega)
   rw [← hv, invM, Int.toNat_natCast]
   omega
  have hml := rMul9_s [v] a p (by simp) (by omega) hp0 (by omega) (rp_single hvb.1 hvb.2) ha.1
  have e : ptimes [v] a p = monicL p a := by
   refine pcan_eq (ptimes_pcan hp0 _ _) hm.1 ((ptimes_ps [v] a p).trans ?_)
   rw [ps_single, PS.mul_comm]
   exact hm.2.2.2.1.symm
  rw [e] at hml
  exact rb (rl U64 [_] rfl rfl (rc rfl rfl hml (re rfl (tr_ret (at_ret TT_ok rfl (AVle.refl _))))))
theorem rGcd9_s (p : Nat) (hp : IsP p) (hp31 : p ≤ 2147483648) (a b : List Int) (la : a.length ≤ 500) (lb : b.length ≤ 500) (ha : pcan p a) (hb : pcan p b) :
  FnS Tryz.prog 70 [cS U64 a, cS U64 b, cU p] (cS U64 (gcdP p a b)) := by
 refine fs_intro Tryz.func70 rfl rfl rfl rfl rfl (by decide) ?_
 refine rr rfl (tr_seq (tr_block (tr_loop (α := Nat × List Int × List Int) (fun x => ⟨[(0, cS U64 x.2.1), (1, cS U64 x.2.2), (2, cU p)], [], 1, []⟩) (fun x => gcdL p x.1 x.2.1 x.2.2 = gcdL p (b.length + 1) a b ∧ x.2.2.length < x.1 ∧ pcan p x.2.1 ∧ pcan p x.2.2 ∧ x.2.1.length ≤ 500 ∧ x.2.2.length ≤ 500) (fun x => x.2.2.length) (b.length + 1, a, b) ⟨rfl, Nat.lt_succ_self _, ha, hb, la, lb⟩ (wk ⟨sR rfl, sR rfl, sR rfl, trivial⟩ trivial) ?_)))
 rintro ⟨k, f, g⟩ ⟨h1, h2, h3, h4, h5, h6⟩
 simp only at h1 h2 h3 h4 h5 h6
 cases k with
 | zero => omega
 | succ k =>
 rw [gcdL] at h1
 refine tr_seq (rr rfl (tr_cond rfl (fun h => ?_) (fun h => ?_)))
 ·have h0 : g ≠ [] := by
   have h : (g.length : Int) > 0 := of_decide_eq_true h
   intro e; rw [e] at h; simp at h
  rw [if_neg h0] at h1
  obtain ⟨d1, d2, d3, d4, d5, d6⟩ := pdiv_ok hp hp31 h3.1 h4 h0
  have hl := List.length_pos_iff.2 h0
  exact tr_skip (at_then (tr_block (rb (rc rfl rfl (rRem9_s p hp hp31 f g h5 h6 h3 h4 h0) (re rfl (rr rfl (rt rfl (at_block (at_loop (k, g, (pdivide f g p).2) ⟨h1, by show (pdivide f g p).2.length < k; omega, h4, d5 h3, h6, by show (pdivide f g p).2.length ≤ 500; omega⟩ (by show (pdivide f g p).2.length < g.length; omega) (wk ⟨sR rfl, sR rfl, sR rfl, trivial⟩ trivial))))))))))
 ·have h0 : g = [] := by
   have h : ¬ (g.length : Int) > 0 := of_decide_eq_false h
   exact List.eq_nil_of_length_eq_zero (by omega)
  rw [if_pos h0] at h1
  refine tr_exit (at_then_exit (at_loop_exit (at_block_exit (at_then (rb (rc rfl rfl (rMonic9_s p hp hp31 f h5 h3) (re rfl (tr_ret (at_ret TT_ok rfl (AVle.of_eq ?_))))))))))
  rw [gcdP, ← h1]
theorem rSame9_s (a b : List Int) (la : a.length ≤ 1000000) : FnS Tryz.prog 13 [cS U64 a, cS U64 b] (cB (decide (a = b))) := by
 refine fs_intro Tryz.func13 rfl rfl rfl rfl rfl (by decide) ?_
 refine rr rfl (tr_seq (rr rfl (tr_cond rfl (fun h => ?_) (fun h => tr_skip (at_then ?_)))))
 ·have h := bne_z h
  refine rr rfl (tr_ret (at_then_ret (at_ret TT_ok rfl (AVle.of_eq (congrArg cB ?_)))))
  rw [decide_eq_false (fun e => h (by rw [e]))]
 ·have h := bne_z' h
  have hl : a.length = b.length := by omega
  refine tr_seq (rr rfl (tr_block (tr_loop (α := Nat) (fun i => ⟨[(0, cS U64 a), (1, cS U64 b), (5, cI i)], [], 4, []⟩) (fun i => i ≤ a.length ∧ a.take i = b.take i) (fun i => a.length - i) 0 ⟨Nat.zero_le _, by simp⟩ (wk ⟨sR rfl, sR rfl, sR rfl, trivial⟩ trivial) ?_)))
  rintro i ⟨hi, ht⟩
  refine tr_seq (rr rfl (tr_cond rfl (fun h2 => ?_) (fun h2 => ?_)))
  ·have h2 : i < a.length := by
    have h2 : (i : Int) < (a.length : Int) := of_decide_eq_true h2
    omega
   refine tr_skip (at_then (tr_seq (tr_block (rr rfl (hp := by simp only [Pr.an, Pr.h, num, i64r, true_and, and_true]; first | done | omega) (tr_cond rfl (fun h3 => ?_) (fun h3 => tr_skip (at_block (at_then ?_))))))))
   ·have h3 : a.getD i 0 ≠ b.getD i 0 := bne_z h3
    refine rr rfl (tr_ret ?_)
    repeat (first | refine at_then_ret ?_ | refine at_block_ret ?_ | refine at_loop_ret ?_)
    refine at_ret TT_ok rfl (AVle.of_eq (congrArg cB ?_))
    rw [decide_eq_false (fun e => h3 (by rw [e]))]
   ·have h3 : a.getD i 0 = b.getD i 0 := bne_z' h3
    exact rt rfl (at_loop (i + 1) ⟨h2, by rw [take_succ_get a i h2, take_succ_get b i (by omega), ht, h3]⟩ (by show a.length - (i + 1) < a.length - i; omega) (wk ⟨sR rfl, sR rfl, sR rfl, trivial⟩ trivial))
  ·have h2 : i = a.length := by
    have h2 : ¬ (i : Int) < (a.length : Int) := of_decide_eq_false h2
    omega
   subst h2
   rw [List.take_length, List.take_of_length_le (by omega)] at ht
   refine tr_exit (at_then_exit (at_loop_exit (at_block_exit (at_then (rr rfl (tr_ret (at_ret TT_ok rfl (AVle.of_eq (congrArg cB ?_)))))))))
   rw [decide_eq_true ht]
end Go.El

/- Contracts: polynomials modulo p of the program. Own work; no condition. -/
namespace Go.El
open Go Go.Proofs
theorem preduced_s (a : List Int) (p : Int) (la : a.length ≤ 1000) (hp0 : 0 < p) (hp : p < 18446744073709551616) (ha : ∀ i, 0 ≤ a.getD i 0) : FnS Tryz.prog 61 [cS U64 a, cU p] (aP (trimW (md p a)) p) := by
 refine fs_intro Tryz.func61 rfl rfl rfl rfl rfl (by decide) ?_
 have hpz : p ≠ 0 := by omega
 have hml := md_len p a
 refine rr rfl (rb (rm U64 a.length rfl rfl rfl rfl rfl rfl (zr_int .u64) rfl ?_ ?_ (re rfl (tr_seq (rr rfl ?_)))))
 ·show _ * 8 ≤ _; omega
 ·show _ * 1 ≤ _; omega
 refine tr_block (tr_loop (α := Nat) (fun i => ⟨[(0, cS U64 a), (1, cU p), (4, .c (.P 0 0)), (5, .c (.X 1002000)), (11, cI a.length), (12, cI i)], [(0, .box 101 0 [.V (.slice none 0 0), .I .u64 0]), (1002000, .vec 25 U64 ((md p a).take i ++ List.replicate (a.length - i) 0))], 3, []⟩) (fun i => i ≤ a.length) (fun i => a.length - i) 0 (Nat.zero_le _) (wk ⟨sR rfl, sR rfl, sR rfl, sR rfl, sR rfl, sR rfl, trivial⟩ ⟨⟨_, rfl, BLe.of_eq rfl⟩, ⟨_, rfl, BLe.of_eq ?_⟩, trivial⟩) ?_)
 ·simp
 intro i hi
 have hl : ((md p a).take i).length = i := by simp; omega
 have hll : ((md p a).take i ++ List.replicate (a.length - i) (0 : Int)).length = a.length := by simp; omega
 refine rr rfl (tr_seq (tr_cond rfl (fun h => ?_) (fun h => ?_)))
 ·have h : i < a.length := by
   have h : (i : Int) < (a.length : Int) := of_decide_eq_true h
   omega
  refine tr_skip (at_then (tr_seq (tr_block (rr rfl (rt rfl (hp := by simp only [Pr.an, Pr.h, num, i64r, true_and, and_true]; first | done | omega) (at_block (at_then (rt rfl (at_loop (i + 1) h (by show a.length - (i + 1) < a.length - i; omega) (wk ⟨sR rfl, sR rfl, sR rfl, sR rfl, sR rfl, sR rfl, trivial⟩ ⟨⟨_, rfl, BLe.of_eq rfl⟩, ⟨_, rfl, BLe.of_eq ?_⟩, trivial⟩))))))))))
  refine congrArg (Blk.vec 25 U64) ?_
  have e2 := set_mid ((md p a).take i) (a.length - (i + 1)) (a.getD i 0 % p)
  rw [hl, show a.length - (i + 1) + 1 = a.length - i by omega] at e2
  rw [Int.toNat_natCast, Int.tmod_eq_emod_of_nonneg (ha i), e2, take_succ_get _ i (by omega), md_get]
 ·have h : i = a.length := by
   have h : ¬ (i : Int) < (a.length : Int) := of_decide_eq_false h
   omega
  subst h
  rw [Nat.sub_self, List.replicate_zero, List.append_nil, List.take_of_length_le (by omega)]
  exact tr_exit (at_then_exit (at_loop_exit (at_block_exit (at_then (tr_frz 1002000 rfl rfl rfl (rb (rc rfl rfl (ptrim_s (md p a) p (by omega)) (re rfl (tr_ret (at_ret TT_ok rfl (AVle.refl _)))))))))))
theorem trimW_single {x : Int} (h : x ≠ 0) : trimW [x] = [x] := trimW_self (.inr h)
theorem pconst_s (f : List Int) (n p : Int) (hp0 : 0 < p) (hp : p < 18446744073709551616) (hn : 0 ≤ n) (hnp : n < p) : FnS Tryz.prog 125 [aP f p, cU n] (aP (trimW [n]) p) := by
 refine fs_intro Tryz.func125 rfl rfl rfl rfl rfl (by decide) ?_
 have hr := preduced_s [n] p (by simp) hp0 hp (fun i => (rp_single hn hnp i).1)
 rw [md_self (rp_single hn hnp)] at hr
 exact rr rfl (rb (rl U64 [_] rfl rfl (rc rfl rfl hr (re rfl (tr_ret (at_ret TT_ok rfl (AVle.refl _)))))))
theorem mono_aux {p : Nat} (hp : IsP p) {a : List Int} (ha : pcan p a) (h0 : a ≠ []) : 0 ≤ a.getD (a.length - 1) 0 ∧ a.getD (a.length - 1) 0 < p ∧ a.getD (a.length - 1) 0 ≠ 0 ∧ (0 ≤ ((invM (a.getD (a.length - 1) 0).toNat ((p : Nat) : Int).toNat : Nat) : Int) ∧ ((invM (a.getD (a.length - 1) 0).toNat ((p : Nat) : Int).toNat : Nat) : Int) < p) := by
 have h2 := hp.1
 have hl := List.length_pos_iff.2 h0
 have hbn := ha.1 (a.length - 1)
 refine ⟨hbn.1, hbn.2, fun e => ha.top (n := a.length - 1) (by omega) (by rw [e]; exact Int.zero_emod _), ?_⟩
 have := powM_lt (a.getD (a.length - 1) 0).toNat (p - 2) p (by omega)
 rw [invM, Int.toNat_natCast]
 omega
theorem pmonic_s (p : Nat) (hp : IsP p) (hp31 : p ≤ 2147483648) (a : List Int) (la : a.length ≤ 500) (ha : pcan p a) : FnS Tryz.prog 62 [aP a p] (aP (monicL p a) p) := by
 refine fs_intro Tryz.func62 rfl rfl rfl rfl rfl (by decide) ?_
 have h2 := hp.1
 have hp0 : (0 : Int) < (p : Int) := by omega
 refine rr rfl (tr_seq (rr rfl (tr_cond rfl (fun h => ?_) (fun h => tr_skip (at_then ?_)))))
 ·have h : (a.length : Int) = 0 := eq_of_beq h
  have h0 : a = [] := List.eq_nil_of_length_eq_zero (by omega)
  subst h0
  exact rr rfl (tr_ret (at_then_ret (at_ret TT_ok rfl (AVle.refl _))))
 ·have h : (a.length : Int) ≠ 0 := beq_z' h
  have h0 : a ≠ [] := fun e => h (by rw [e]; rfl)
  have hl := List.length_pos_iff.2 h0
  have a2 : ((a.length : Int) - 1).toNat = a.length - 1 := by omega
  obtain ⟨m1, m2, m3, m4⟩ := mono_aux hp ha h0
  have hinv := minv_z (a.getD (a.length - 1) 0) p ⟨m1, m2⟩ m3 (by omega) (by omega)
  have hinv' : FnS Tryz.prog 124 [cU (a.getD ((a.length : Int) - 1).toNat 0), cU p] (.t [(false, [.I .u64 (invM (a.getD (a.length - 1) 0).toNat ((p : Nat) : Int).toNat : Nat)]), (false, [.I .i64 0])]) := by rw [a2]; exact hinv
  have hm := monicL_ok hp hp31 ha h0
  have hv1 := lead_inv hp hp31 m1 m2 m3
  refine rb (rc rfl rfl (pdegree_s a p (by omega)) (rc rfl rfl hinv' (hp := by simp only [Pr.an, Pr.h, num, i64r, true_and, and_true]; first | done | omega) (re rfl ?_)))
  have ed : monicL p a = ptimes a [((invM (a.getD (a.length - 1) 0).toNat ((p : Nat) : Int).toNat : Nat) : Int)] p := by rw [monicL, if_neg h0]
  generalize ((invM (a.getD (a.length - 1) 0).toNat ((p : Nat) : Int).toNat : Nat) : Int) = v at *
  have hv0 : v ≠ 0 := fun e => by rw [e, Int.mul_zero, Int.zero_emod] at hv1; cases hv1
  have hc := pconst_s a v p hp0 (by omega) m4.1 m4.2
  rw [trimW_single hv0] at hc
  have ht := ptimes_s a [v] p (by omega) (by simp) hp0 (by omega) ha.1 (rp_single m4.1 m4.2)
  rw [← ed] at ht
  exact rb (rc rfl rfl hc (rc rfl rfl ht (re rfl (tr_ret (at_ret TT_ok rfl (AVle.refl _))))))
theorem cons_of {a : List Int} (h : a ≠ []) : ∃ x t, a = x :: t := by
 cases a with
 | nil => exact absurd rfl h
 | cons x t => exact ⟨x, t, rfl⟩
theorem pdivideP_s (p : Nat) (hp : IsP p) (hp31 : p ≤ 2147483648) (a b : List Int) (la : a.length ≤ 1000) (lb : b.length ≤ 1000) (ha : rp p a) (hb : pcan p b) (ha0 : a ≠ []) (hb0 : b ≠ []) : FnS Tryz.prog 127 [aP a p, aP b p] (.t [(true, [.S U64 (pdivide a b p).1, .I .u64 p]), (true, [.S U64 (pdivide a b p).2, .I .u64 p])]) := by
 have h2 := hp.1
 obtain ⟨x, t, e⟩ := cons_of ha0
 have hl := List.length_pos_iff.2 hb0
 exact pdivide_s x t b p e la lb (by omega) (by omega) ha hb.1 hb0 (fun e => hb.top (n := b.length - 1) (by omega) (by rw [e]; exact Int.zero_emod _))
theorem pgcd_s (p : Nat) (hp : IsP p) (hp31 : p ≤ 2147483648) (a b : List Int) (la : a.length ≤ 500) (lb : b.length ≤ 500) (ha : pcan p a) (hb : pcan p b) (ha0 : a ≠ []) : FnS Tryz.prog 92 [aP a p, aP b p] (aP (gcdP p a b) p) := by
 refine fs_intro Tryz.func92 rfl rfl rfl rfl rfl (by decide) ?_
 refine rr rfl (tr_seq (tr_block (tr_loop (α := Nat × List Int × List Int) (fun x => ⟨[(2, .c (.P 0 0)), (3, .c (.P 1000 0)), (4, .c (.P 2000 0))], [(0, .box 101 0 [.S U64 x.2.1, .I .u64 p]), (1000, .box 101 0 [.S U64 x.2.2, .I .u64 p]), (2000, .box 101 0 [.V (.slice none 0 0), .I .u64 0])], 1, []⟩) (fun x => gcdL p x.1 x.2.1 x.2.2 = gcdL p (b.length + 1) a b ∧ x.2.2.length < x.1 ∧ pcan p x.2.1 ∧ pcan p x.2.2 ∧ x.2.1.length ≤ 500 ∧ x.2.2.length ≤ 500 ∧ x.2.1 ≠ []) (fun x => x.2.2.length) (b.length + 1, a, b) ⟨rfl, Nat.lt_succ_self _, ha, hb, la, lb, ha0⟩ (wk ⟨sR rfl, sR rfl, sR rfl, trivial⟩ ⟨⟨_, rfl, BLe.of_eq rfl⟩, ⟨_, rfl, BLe.of_eq rfl⟩, ⟨_, rfl, BLe.of_eq rfl⟩, trivial⟩) ?_)))
 rintro ⟨k, f, g⟩ ⟨h1, h2, h3, h4, h5, h6, h7⟩
 simp only at h1 h2 h3 h4 h5 h6 h7
 cases k with
 | zero => omega
 | succ k =>
 rw [gcdL] at h1
 refine tr_seq (rr rfl (tr_cond rfl (fun h => ?_) (fun h => ?_)))
 ·have h0 : g ≠ [] := by
   have h : (g.length : Int) > 0 := of_decide_eq_true h
   intro e; rw [e] at h; simp at h
  rw [if_neg h0] at h1
  obtain ⟨d1, d2, d3, d4, d5, d6⟩ := pdiv_ok hp hp31 h3.1 h4 h0
  have hl := List.length_pos_iff.2 h0
  exact tr_skip (at_then (tr_block (rb (rc rfl rfl (pdivideP_s p hp hp31 f g (by omega) (by omega) h3.1 h4 h7 h0) (re rfl (rt rfl (at_block (at_loop (k, g, (pdivide f g p).2) ⟨h1, by show (pdivide f g p).2.length < k; omega, h4, d5 h3, h6, by show (pdivide f g p).2.length ≤ 500; omega, h0⟩ (by show (pdivide f g p).2.length < g.length; omega) (wk ⟨sR rfl, sR rfl, sR rfl, trivial⟩ ⟨⟨_, rfl, BLe.of_eq rfl⟩, ⟨_, rfl, BLe.of_eq rfl⟩, ⟨_, rfl, BLe.of_eq rfl⟩, trivial⟩)))))))))
 ·have h0 : g = [] := by
   have h : ¬ (g.length : Int) > 0 := of_decide_eq_false h
   exact List.eq_nil_of_length_eq_zero (by omega)
  rw [if_pos h0] at h1
  refine tr_exit (at_then_exit (at_loop_exit (at_block_exit (at_then (rb (rc rfl rfl (pmonic_s p hp hp31 f h5 h3) (re rfl (tr_ret (at_ret TT_ok rfl (AVle.of_eq ?_))))))))))
  rw [gcdP, ← h1]; rfl
def plusL (f : List Int) (s : Int) (g : List Int) (p : Int) : List Int := (List.range (max f.length g.length)).map fun i => if i < g.length then (f.getD i 0 + s * g.getD i 0) % p else f.getD i 0
theorem plusL_len (f : List Int) (s : Int) (g : List Int) (p : Int) : (plusL f s g p).length = max f.length g.length := by simp [plusL]
theorem plusL_get (f : List Int) (s : Int) (g : List Int) (p : Int) (i : Nat) : (plusL f s g p).getD i 0 = if i < g.length then (f.getD i 0 + s * g.getD i 0) % p else f.getD i 0 := by
 unfold plusL
 rw [List.getD_eq_getElem?_getD, List.getElem?_map]
 by_cases h : i < max f.length g.length
 ·rw [List.getElem?_range h]; rfl
 ·rw [List.getElem?_eq_none (by simp; omega), if_neg (by omega), getD_ge f (by omega)]; rfl
theorem plusL_rp {p : Int} (hp : 0 < p) {f : List Int} (hf : rp p f) (s : Int) (g : List Int) : rp p (plusL f s g p) := fun i => by
 rw [plusL_get]
 split
 ·exact ⟨Int.emod_nonneg _ (by omega), Int.emod_lt_of_pos _ hp⟩
 ·exact hf i
theorem plusL_ps (f : List Int) (s : Int) (g : List Int) (p : Int) : Cg p (ps (plusL f s g p)) (ps f + PS.K s * ps g) := Cg.of fun i => by
 rw [ps_at, plusL_get, PS.add_at, PS.K_mul, ps_at, ps_at]
 split
 ·rw [Int.emod_emod]
 ·rename_i h
  rw [getD_ge g (by omega), Int.mul_zero, Int.add_zero]
set_option maxHeartbeats 2000000 in
theorem pplus_s (f : List Int) (s : Int) (g : List Int) (p : Int) (lf : f.length ≤ 1000) (lg : g.length ≤ 1000) (hp0 : 0 < p) (hp : p ≤ 2147483648) (hf : rp p f) (hg : rp p g) (hs : 0 ≤ s ∧ s < p) (hne : f ≠ [] ∨ g ≠ []) : FnS Tryz.prog 233 [aP f p, cU s, aP g p] (aP (trimW (plusL f s g p)) p) := by
 refine fs_intro Tryz.func233 rfl rfl rfl rfl rfl (by decide) ?_
 have hpz : p ≠ 0 := by omega
 generalize hM : max f.length g.length = M
 have hM0 : 0 < M := by
  rcases hne with e | e
  ·have := List.length_pos_iff.2 e; omega
  ·have := List.length_pos_iff.2 e; omega
 have hL := plusL_len f s g p
 have hLg := plusL_get f s g p
 have hLr := plusL_rp hp0 hf s g
 generalize plusL f s g p = L at *
 refine rr rfl (rb (rm U64 M rfl rfl rfl rfl rfl rfl (zr_int .u64) (by rw [if_pos rfl]; split <;> omega) ?_ ?_ (re rfl ?_)))
 ·show _ * 8 ≤ _; omega
 ·show _ * 1 ≤ _; omega
 refine rb (rcp rfl rfl rfl rfl rfl (by rw [List.length_replicate]; omega) (fun e => by have := congrArg List.length e; rw [List.length_replicate] at this; simp at this; omega) (re rfl ?_))
 refine tr_seq (rr rfl ?_)
 refine tr_block (tr_loop (α := Nat) (fun i => ⟨[(1, cU s), (3, .c (.P 0 0)), (5, .c (.P 1000 0)), (6, .c (.P 2000 0)), (7, .c (.X 1007000)), (23, cI g.length), (24, cI i)], [(0, .box 101 0 [.S U64 f, .I .u64 p]), (1000, .box 101 0 [.S U64 g, .I .u64 p]), (2000, .box 101 0 [.V (.slice none 0 0), .I .u64 0]), (1007000, .vec 25 U64 (L.take i ++ (f ++ List.replicate (M - f.length) 0).drop i))], 5, []⟩) (fun i => i ≤ g.length) (fun i => g.length - i) 0 (Nat.zero_le _) (wk ⟨sR rfl, sR rfl, sR rfl, sR rfl, sR rfl, sR rfl, sR rfl, trivial⟩ ⟨⟨_, rfl, BLe.of_eq rfl⟩, ⟨_, rfl, BLe.of_eq rfl⟩, ⟨_, rfl, BLe.of_eq rfl⟩, ⟨_, rfl, BLe.of_eq ?_⟩, trivial⟩) ?_)
 ·refine congrArg (Blk.vec 25 U64) ?_
  simp
 intro i hi
 have hl : (L.take i).length = i := by simp; omega
 have hF : ∀ j, (f ++ List.replicate (M - f.length) (0 : Int)).getD j 0 = f.getD j 0 := fun j => by
  rw [List.getD_eq_getElem?_getD, List.getElem?_append]
  split
  ·rw [← List.getD_eq_getElem?_getD]
  ·rw [List.getElem?_replicate, getD_ge f (by omega)]; split <;> rfl
 have hFl : (f ++ List.replicate (M - f.length) (0 : Int)).length = M := by simp; omega
 generalize f ++ List.replicate (M - f.length) (0 : Int) = F at *
 have hll : (L.take i ++ F.drop i).length = M := by simp; omega
 have hgi : (L.take i ++ F.drop i).getD i 0 = f.getD i 0 := by
  rw [List.getD_eq_getElem?_getD, List.getElem?_append_right (by omega), hl, Nat.sub_self, List.getElem?_drop, Nat.add_zero, ← List.getD_eq_getElem?_getD, hF]
 refine rr rfl (tr_seq (tr_cond rfl (fun h => ?_) (fun h => ?_)))
 ·have h : i < g.length := by
   have h : (i : Int) < (g.length : Int) := of_decide_eq_true h
   omega
  refine tr_skip (at_then (tr_seq (tr_block (rr rfl (rt rfl (hp := by simp only [Pr.an, Pr.h, num, i64r, true_and, and_true]; first | done | omega) (at_block (at_then (rt rfl (at_loop (i + 1) h (by show g.length - (i + 1) < g.length - i; omega) (wk ⟨sR rfl, sR rfl, sR rfl, sR rfl, sR rfl, sR rfl, sR rfl, trivial⟩ ⟨⟨_, rfl, BLe.of_eq rfl⟩, ⟨_, rfl, BLe.of_eq rfl⟩, ⟨_, rfl, BLe.of_eq rfl⟩, ⟨_, rfl, BLe.of_eq ?_⟩, trivial⟩))))))))))
  refine congrArg (Blk.vec 25 U64) ?_
  have hx := muladd_mod (f.getD i 0) s (g.getD i 0) p (hf i) hs (hg i) hp
  show (L.take i ++ F.drop i).set (i : Int).toNat _ = _
  rw [Int.toNat_natCast]
  refine Eq.trans (congrArg ((L.take i ++ F.drop i).set i) (show _ = L.getD i 0 from ?_)) ?_
  ·show (IntKind.wrap .u64 ((L.take i ++ F.drop i).getD (i : Int).toNat 0 + IntKind.wrap .u64 (s * g.getD (i : Int).toNat 0))).tmod p = _
   rw [Int.toNat_natCast, hgi, hx, hLg, if_pos h]
  ·rw [take_succ_get L i (by omega), List.append_assoc]
   conv => lhs; rw [List.set_append_right _ _ (by omega), hl, Nat.sub_self, List.drop_eq_getElem_cons (by omega), List.set_cons_zero]
   rfl
 ·have h : i = g.length := by
   have h : ¬ (i : Int) < (g.length : Int) := of_decide_eq_false h
   omega
  subst h
  have e : L.take g.length ++ F.drop g.length = L := by
   refine List.ext_getElem (by rw [hll]; omega) (fun j h1 h2 => ?_)
   have : (L.take g.length ++ F.drop g.length).getD j 0 = L.getD j 0 := by
    rw [List.getD_eq_getElem?_getD, List.getElem?_append, hl]
    split
    ·rename_i hj
     rw [List.getElem?_take_of_lt hj, ← List.getD_eq_getElem?_getD]
    ·rename_i hj
     rw [List.getElem?_drop, show g.length + (j - g.length) = j by omega, ← List.getD_eq_getElem?_getD, hF, hLg, if_neg hj]
   rw [List.getD_eq_getElem?_getD, List.getD_eq_getElem?_getD, List.getElem?_eq_getElem h1, List.getElem?_eq_getElem h2] at this
   exact this
  rw [e]
  exact tr_exit (at_then_exit (at_loop_exit (at_block_exit (at_then (tr_frz 1007000 rfl rfl rfl (rb (rc rfl rfl (ptrim_s L p (by omega)) (re rfl (tr_ret (at_ret TT_ok rfl (AVle.refl _)))))))))))
end Go.El

/- Contracts: products and inverses modulo a polynomial, of the program. Own work; no condition. -/
namespace Go.El
open Go Go.Proofs
abbrev vN : C := .V (.slice none 0 0)
theorem ptimes_nil_s (a b : List Int) (p : Int) (h : a = [] ∨ b = []) : FnS Tryz.prog 94 [aP a p, aP b p] (.a [vN, .I .u64 p]) := by
 refine fs_intro Tryz.func94 rfl rfl rfl rfl rfl (by decide) ?_
 refine rr rfl (tr_seq (rb ?_))
 refine rg 12 rfl rfl (fun h1 => ?_) (fun h1 => ?_)
 ·exact re rfl (tr_cond rfl (fun h2 => rr rfl (tr_ret (at_then_ret (at_ret TT_ok rfl (AVle.refl _))))) (fun h2 => by cases h2))
 ·have h1 : ¬ (a.length : Int) = 0 := beq_z' h1
  have ha : a ≠ [] := fun e => h1 (by rw [e]; rfl)
  refine re rfl (tr_cond rfl (fun h2 => rr rfl (tr_ret (at_then_ret (at_ret TT_ok rfl (AVle.refl _))))) (fun h2 => ?_))
  exfalso
  have h2 : ¬ (b.length : Int) = 0 := beq_z' h2
  exact h2 (by rw [h.resolve_left ha]; rfl)
theorem sclone_nil_s : FnS Tryz.prog 181 [.c vN] (.c vN) := by
 refine fs_intro Tryz.func181 rfl rfl rfl rfl rfl (by decide) ?_
 refine rr rfl (tr_seq (rb (rx rfl rfl trivial (re rfl ?_))))
 exact tr_cond rfl (fun h => rr rfl (tr_ret (at_then_ret (at_ret TT_ok rfl (AVle.refl _))))) (fun h => by cases h)
theorem pdivide_nil_s (b : List Int) (p : Int) (lb : b.length ≤ 1000) (hb : b ≠ []) : FnS Tryz.prog 127 [.a [vN, .I .u64 p], aP b p] (.t [(true, [.S U64 [], .I .u64 p]), (true, [.S U64 [], .I .u64 p])]) := by
 refine fs_intro Tryz.func127 rfl rfl rfl rfl rfl (by decide) ?_
 have hl := List.length_pos_iff.2 hb
 refine rr rfl (rb (rc rfl rfl sclone_nil_s (re rfl (rb (rc rfl rfl (pdegree_s b p (by omega)) (re rfl (tr_seq (rr rfl ?_)))))))) 
 refine tr_cond rfl (fun h => ?_) (fun h => ?_)
 ·refine rr rfl (tr_ret (at_then_ret (at_ret TT_ok rfl ?_)))
  refine ⟨?_, fun id hid => by cases hid⟩
  rintro g v ⟨vs, rfl, v1, r1, rfl, ⟨us, rfl, v2, r2, rfl, h1, h2⟩, w1, r3, rfl, ⟨us', rfl, v3, r4, rfl, h3, h4⟩, h5⟩
  exact ⟨_, rfl, _, _, rfl, ⟨_, rfl, v2, r2, rfl, (AVle.nil U64).1 g v2 h1, h2⟩, _, _, rfl, ⟨_, rfl, v3, r4, rfl, (AVle.nil U64).1 g v3 h3, h4⟩, h5⟩
 ·exfalso
  have h : ¬ (0 : Int) ≤ (b.length : Int) - 1 := of_decide_eq_false h
  omega
theorem ptimes_ne {p : Nat} (hp : IsP p) {a b : List Int} (ha : pcan p a) (hb : pcan p b) (ha0 : a ≠ []) (hb0 : b ≠ []) : ptimes a b p ≠ [] := fun e => by
 have h := ptimes_ps a b p
 rw [e, ps_nil] at h
 obtain ⟨n, hn⟩ : ∃ n, a.length = n + 1 := ⟨a.length - 1, by have := List.length_pos_iff.2 ha0; omega⟩
 obtain ⟨m, hm⟩ : ∃ m, b.length = m + 1 := ⟨b.length - 1, by have := List.length_pos_iff.2 hb0; omega⟩
 have h2 := mul_top hp (hn ▸ Dl_ps p a) (hm ▸ Dl_ps p b) (ha.top hn) (hb.top hm)
 rw [← h.at (n + m), PS.zero_at, Int.zero_emod] at h2
 exact h2 rfl
theorem pproduct_s (p : Nat) (hp : IsP p) (hp31 : p ≤ 2147483648) (f a b : List Int) (lf : f.length ≤ 400) (la : a.length ≤ 400) (lb : b.length ≤ 400) (hf : pcan p f) (ha : pcan p a) (hb : pcan p b) (hf0 : f ≠ []) : FnS Tryz.prog 159 [aP f p, aP a p, aP b p] (aP (pdivide (ptimes a b p) f p).2 p) := by
 refine fs_intro Tryz.func159 rfl rfl rfl rfl rfl (by decide) ?_
 have h2 := hp.1
 have hl := List.length_pos_iff.2 hf0
 have hpl := ptimes_len a b p
 by_cases h : a = [] ∨ b = []
 ·have e : (pdivide (ptimes a b p) f p).2 = [] := by
   rw [ptimes, if_pos h, pdivide, if_pos (by simp)]
  rw [e]
  exact rr rfl (rb (rc rfl rfl (ptimes_nil_s a b p h) (rc rfl rfl (pdivide_nil_s f p (by omega) hf0) (re rfl (rr rfl (tr_ret (at_ret TT_ok rfl (AVle.refl _))))))))
 ·have ha0 : a ≠ [] := fun e => h (.inl e)
  have hb0 : b ≠ [] := fun e => h (.inr e)
  exact rr rfl (rb (rc rfl rfl (ptimes_s a b p (by omega) (by omega) (by omega) (by omega) ha.1 hb.1) (rc rfl rfl (pdivideP_s p hp hp31 _ f (by omega) (by omega) (ptimes_pcan (by omega) a b).1 hf (ptimes_ne hp ha hb ha0 hb0) hf0) (re rfl (rr rfl (tr_ret (at_ret TT_ok rfl (AVle.refl _))))))))
end Go.El
