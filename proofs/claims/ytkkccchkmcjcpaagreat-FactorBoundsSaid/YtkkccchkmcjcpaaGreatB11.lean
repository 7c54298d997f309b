/- Contracts: polynomials modulo p: quotient and remainder. Own work; no condition. -/
import Derived.RangeFuncOwn
import Derived.RangeFuncLeaves
import Derived.Scope
import Derived.Test.YtkkccchkmcjcpaaGreatB10
namespace Go.El
open Go Go.Proofs

theorem sclone_s (x : Int) (ws : List Int) (hl : ws.length ≤ 1000000) : FnV Tryz.prog 181 [cS U64 (x :: ws)] 25 U64 (x :: ws) := by
  refine fv_intro Tryz.func181 rfl rfl rfl rfl (by decide) ?_
  refine rr rfl (tr_seq (rb (rx rfl rfl trivial (re rfl ?_))))
  refine tr_cond rfl (fun h => by simp at h) (fun h => ?_)
  refine tr_skip (at_then (rb (rlv U64 [] rfl rfl (ra rfl rfl rfl rfl rfl rfl rfl rfl rfl ?_ ?_ (re rfl (tr_ret (at_retV (id := 2002000) TT_ok rfl rfl)))))))
  · show (_ + (_ + 1) + (_ + (_ + 1)) / 4 + 192) * 8 ≤ _; simp only [List.length_nil]; omega
  · show (_ + (_ + 1)) * 1 ≤ _; simp only [List.length_nil]; omega
theorem pdegree_s (ws : List Int) (p : Int) (hl : ws.length ≤ 1000000) : FnS Tryz.prog 93 [aP ws p] (cI ((ws.length : Int) - 1)) := by
  refine fs_intro Tryz.func93 rfl rfl rfl rfl rfl (by decide) ?_
  exact rr rfl (rr rfl (tr_ret (at_ret TT_ok rfl (AVle.refl _))))

def dRow (b : List Int) (p c : Int) (i : Nat) : Nat → List Int → List Int
  | 0, r => r
  | j + 1, r => (dRow b p c i j r).set (i + j) (((dRow b p c i j r).getD (i + j) 0 + (p - c) * b.getD j 0) % p)
/-- Quotient and rest after k steps. -/
def dSt (a b : List Int) (p v : Int) (m n : Nat) : Nat → List Int × List Int
  | 0 => (List.replicate m 0, a)
  | k + 1 => ((dSt a b p v m n k).1.set (m - (k + 1)) ((dSt a b p v m n k).2.getD (m - (k + 1) + n) 0 * v % p), dRow b p ((dSt a b p v m n k).2.getD (m - (k + 1) + n) 0 * v % p) (m - (k + 1)) b.length (dSt a b p v m n k).2)
theorem dRow_len (b : List Int) (p c : Int) (i : Nat) (r : List Int) : ∀ j, (dRow b p c i j r).length = r.length
  | 0 => rfl
  | j + 1 => by rw [dRow, List.length_set, dRow_len b p c i r j]
theorem dRow_rp {b : List Int} {p c : Int} (hp : 0 < p) (i : Nat) {r : List Int} (h : rp p r) : ∀ j, rp p (dRow b p c i j r)
  | 0 => h
  | j + 1 => rp_set (dRow_rp hp i h j) _ (Int.emod_nonneg _ (by omega)) (Int.emod_lt_of_pos _ hp)
theorem dSt_len (a b : List Int) (p v : Int) (m n : Nat) : ∀ k, (dSt a b p v m n k).1.length = m ∧ (dSt a b p v m n k).2.length = a.length
  | 0 => by simp [dSt]
  | k + 1 => by
    have := dSt_len a b p v m n k
    simp only [dSt, List.length_set, dRow_len]; exact this
theorem dSt_rp {a : List Int} (b : List Int) {p : Int} (v : Int) (m n : Nat) (hp : 0 < p) (ha : rp p a) : ∀ k, rp p (dSt a b p v m n k).1 ∧ rp p (dSt a b p v m n k).2
  | 0 => ⟨rp_rep hp _, ha⟩
  | k + 1 => by
    have h := dSt_rp b v m n hp ha k
    exact ⟨rp_set h.1 _ (Int.emod_nonneg _ (by omega)) (Int.emod_lt_of_pos _ hp), dRow_rp hp _ h.2 _⟩
/-- Quotient and remainder modulo p. -/
def pdivide (a b : List Int) (p : Int) : List Int × List Int :=
  if a.length ≤ b.length - 1 then ([], a)
  else (fun x => (x.1, trimW (x.2.take (b.length - 1)))) (dSt a b p (invM (b.getD (b.length - 1) 0).toNat p.toNat : Nat) (a.length - (b.length - 1)) (b.length - 1) (a.length - (b.length - 1)))
theorem muladd_mod2 (x y z p : Int) (hx : 0 ≤ x ∧ x < p) (hy : 0 ≤ y ∧ y ≤ p) (hz : 0 ≤ z ∧ z < p) (hp : p ≤ 2147483648) : (IntKind.wrap .u64 (x + IntKind.wrap .u64 (y * z))).tmod p = (x + y * z) % p := by
  have h0 : 0 ≤ y * z := Int.mul_nonneg hy.1 hz.1
  have h1 : y * z ≤ 2147483648 * 2147483648 := Int.mul_le_mul (by omega) (by omega) hz.1 (by omega)
  rw [wrap_u64 (y * z) h0 (by omega), wrap_u64 _ (by omega) (by omega), Int.tmod_eq_emod_of_nonneg (by omega)]
theorem mul_mod2 (y z p : Int) (hy : 0 ≤ y ∧ y < p) (hz : 0 ≤ z ∧ z < p) (hp : p ≤ 2147483648) : (IntKind.wrap .u64 (y * z)).tmod p = y * z % p := by
  have h0 : 0 ≤ y * z := Int.mul_nonneg hy.1 hz.1
  have h1 : y * z ≤ 2147483648 * 2147483648 := Int.mul_le_mul (by omega) (by omega) hz.1 (by omega)
  rw [wrap_u64 (y * z) h0 (by omega), Int.tmod_eq_emod_of_nonneg (by omega)]
theorem minv_z (a p : Int) (ha : 0 ≤ a ∧ a < p) (hz : a ≠ 0) (hp0 : 2 ≤ p) (hp : p ≤ 2147483648) : FnS Tryz.prog 124 [cU a, cU p] (.t [(false, [.I .u64 (invM a.toNat p.toNat : Nat)]), (false, [.I .i64 0])]) := by
  have h := minv_s a.toNat p.toNat (by omega) (by rw [Nat.mod_eq_of_lt (by omega)]; omega) (by omega) (by omega)
  rwa [Int.toNat_of_nonneg ha.1, Int.toNat_of_nonneg (by omega : 0 ≤ p)] at h
theorem AVle.ta {x x' y : C} {r : List (Bool × List C)} (h : AVle (.c x) (.c x')) : AVle (.t ((true, [x, y]) :: r)) (.t ((true, [x', y]) :: r)) := by
  refine ⟨?_, ?_⟩
  · rintro g v ⟨vs, rfl, v1, r1, rfl, ⟨us, rfl, v2, r2, rfl, h1, h2⟩, h3⟩
    exact ⟨_, rfl, _, _, rfl, ⟨_, rfl, v2, r2, rfl, h.1 g v2 h1, h2⟩, h3⟩
  · intro id hid
    have h2 := h.2 id
    simp only [AV.mids, midsT, midsL, List.append_nil, List.mem_append] at hid h2 ⊢
    rcases hid with (hid | hid) | hid
    · exact .inl (.inl (h2 hid))
    · exact .inl (.inr hid)
    · exact .inr hid
set_option maxHeartbeats 4000000 in
theorem pdivide_s (x : Int) (a' b : List Int) (p : Int) {a : List Int} (ea : a = x :: a') (la : a.length ≤ 1000) (lb : b.length ≤ 1000) (hp0 : 2 ≤ p) (hp : p ≤ 2147483648) (ha : rp p a) (hb : rp p b) (hb0 : b ≠ []) (hbl : b.getD (b.length - 1) 0 ≠ 0) : FnS Tryz.prog 127 [aP a p, aP b p] (.t [(true, [.S U64 (pdivide a b p).1, .I .u64 p]), (true, [.S U64 (pdivide a b p).2, .I .u64 p])]) := by
  refine fs_intro Tryz.func127 rfl rfl rfl rfl rfl (by decide) ?_
  have hpz : p ≠ 0 := by omega
  have pb := List.length_pos_iff.2 hb0
  have hcl : FnV Tryz.prog 181 [cS U64 a] 25 U64 a := by
    rw [ea] at la ⊢
    exact sclone_s x a' (by simp at la; omega)
  refine rr rfl (rb (rcv rfl rfl hcl (re rfl (rb (rc rfl rfl (pdegree_s b p (by omega)) (re rfl (tr_seq (rr rfl ?_)))))))) 
  refine tr_cond rfl (fun h => ?_) (fun h => ?_)
  · have h : a.length ≤ b.length - 1 := by
      have h : (a.length : Int) ≤ (b.length : Int) - 1 := by simpa using h
      omega
    have e : pdivide a b p = ([], a) := by rw [pdivide, if_pos h]
    rw [e]
    refine rr rfl (tr_ret (at_then_ret (at_ret TT_ok rfl ?_)))
    exact AVle.ta (AVle.nil U64)
  · have h : ¬ a.length ≤ b.length - 1 := by
      have h : ¬ (a.length : Int) ≤ (b.length : Int) - 1 := by simpa using h
      omega
    obtain ⟨n, hn⟩ : ∃ n, b.length = n + 1 := ⟨b.length - 1, by omega⟩
    obtain ⟨m, hm⟩ : ∃ m, a.length = n + m := ⟨a.length - n, by omega⟩
    have e : pdivide a b p = ((dSt a b p (invM (b.getD n 0).toNat p.toNat : Nat) m n m).1, trimW ((dSt a b p (invM (b.getD n 0).toNat p.toNat : Nat) m n m).2.take n)) := by
      rw [pdivide, if_neg h, hn, hm, Nat.add_sub_cancel, Nat.add_sub_cancel_left]
    rw [e]
    rw [hn, Nat.add_sub_cancel] at hbl
    have en : (b.length : Int) - 1 = (n : Int) := by omega
    generalize hv : (invM (b.getD n 0).toNat p.toNat : Nat) = v
    have hvp : (0 : Int) ≤ (v : Int) ∧ (v : Int) < p := by
      have := powM_lt (b.getD n 0).toNat (p.toNat - 2) p.toNat (by omega)
      unfold invM at hv
      omega
    rw [en]
    have hinv := minv_z (b.getD n 0) p (hb n) hbl hp0 hp
    rw [hv] at hinv
    refine tr_skip (at_then (rb (rc rfl rfl hinv (re rfl (rb ?_)))))
    refine rm U64 m rfl rfl rfl rfl rfl rfl (zr_int .u64) (by omega) ?_ ?_ ?_
    · show _ * 8 ≤ _; omega
    · show _ * 1 ≤ _; omega
    refine re rfl (tr_seq (rr rfl ?_))
    refine tr_block (tr_loop (α := Nat) (fun k => ⟨[(2, .c (.P 0 0)), (3, .c (.P 1000 0)), (4, .c (.P 2000 0)), (5, .c (.P 3000 0)), (6, .c (.X 1002000)), (7, cI n), (8, cU v), (10, .c (.X 5004000)), (11, cI ((m : Int) - 1 - k))], [(0, .box 101 0 [.S U64 a, .I .u64 p]), (1000, .box 101 0 [.S U64 b, .I .u64 p]), (2000, .box 101 0 [.V (.slice none 0 0), .I .u64 0]), (3000, .box 101 0 [.V (.slice none 0 0), .I .u64 0]), (1002000, .vec 25 U64 (dSt a b p v m n k).2), (5004000, .vec 25 U64 (dSt a b p v m n k).1)], 7, []⟩) (fun k => k ≤ m) (fun k => m - k) 0 (Nat.zero_le _) (wk ⟨⟨_, rfl, AVle.refl _⟩, ⟨_, rfl, AVle.refl _⟩, ⟨_, rfl, AVle.refl _⟩, ⟨_, rfl, AVle.refl _⟩, ⟨_, rfl, AVle.refl _⟩, ⟨_, rfl, AVle.refl _⟩, ⟨_, rfl, AVle.refl _⟩, ⟨_, rfl, AVle.refl _⟩, ⟨_, rfl, AVle.of_eq ?_⟩, trivial⟩ ⟨⟨_, rfl, BLe.of_eq rfl⟩, ⟨_, rfl, BLe.of_eq rfl⟩, ⟨_, rfl, BLe.of_eq rfl⟩, ⟨_, rfl, BLe.of_eq rfl⟩, ⟨_, rfl, BLe.of_eq rfl⟩, ⟨_, rfl, BLe.of_eq rfl⟩, trivial⟩) ?_)
    · exact congrArg cI (by simp only [List.length_replicate]; omega)
    intro k hk
    have hlk := dSt_len a b p v m n k
    have hrk := dSt_rp b v m n (by omega) ha k
    refine tr_seq (rr rfl ?_)
    refine tr_cond rfl (fun h3 => ?_) (fun h3 => ?_)
    · have h3 : k < m := by
        have h3 : (m : Int) - 1 - k ≥ 0 := by simpa using h3
        omega
      obtain ⟨i, hi⟩ : ∃ i, m = i + (k + 1) := ⟨m - (k + 1), by omega⟩
      have ei : (m : Int) - 1 - k = (i : Int) := by omega
      have ei2 : m - (k + 1) = i := by omega
      rw [ei]
      have ein : ((i : Int) + (n : Int)).toNat = i + n := by omega
      generalize hc : (dSt a b p v m n k).2.getD (i + n) 0 * v % p = c
      have hcp : 0 ≤ c ∧ c < p := by
        rw [← hc]
        exact ⟨Int.emod_nonneg _ (by omega), Int.emod_lt_of_pos _ (by omega)⟩
      have hgi := hrk.2 (i + n)
      refine tr_skip (at_then (tr_seq (tr_block (rr rfl (hp := by simp only [Pr.an, Pr.h, num, i64r, true_and, and_true]; omega) (rr rfl ?_)))))
      refine tr_block (tr_loop (α := Nat) (fun j => ⟨[(2, .c (.P 0 0)), (3, .c (.P 1000 0)), (4, .c (.P 2000 0)), (5, .c (.P 3000 0)), (6, .c (.X 1002000)), (7, cI n), (8, cU v), (10, .c (.X 5004000)), (11, cI i), (65, cI b.length), (66, cI j)], [(0, .box 101 0 [.S U64 a, .I .u64 p]), (1000, .box 101 0 [.S U64 b, .I .u64 p]), (2000, .box 101 0 [.V (.slice none 0 0), .I .u64 0]), (3000, .box 101 0 [.V (.slice none 0 0), .I .u64 0]), (1002000, .vec 25 U64 (dRow b p c i j (dSt a b p v m n k).2)), (5004000, .vec 25 U64 ((dSt a b p v m n k).1.set i c))], 10, []⟩) (fun j => j ≤ b.length) (fun j => b.length - j) 0 (Nat.zero_le _) (wk ⟨⟨_, rfl, AVle.refl _⟩, ⟨_, rfl, AVle.refl _⟩, ⟨_, rfl, AVle.refl _⟩, ⟨_, rfl, AVle.refl _⟩, ⟨_, rfl, AVle.refl _⟩, ⟨_, rfl, AVle.refl _⟩, ⟨_, rfl, AVle.refl _⟩, ⟨_, rfl, AVle.refl _⟩, ⟨_, rfl, AVle.refl _⟩, ⟨_, rfl, AVle.refl _⟩, ⟨_, rfl, AVle.refl _⟩, trivial⟩ ⟨⟨_, rfl, BLe.of_eq rfl⟩, ⟨_, rfl, BLe.of_eq rfl⟩, ⟨_, rfl, BLe.of_eq rfl⟩, ⟨_, rfl, BLe.of_eq rfl⟩, ⟨_, rfl, BLe.of_eq rfl⟩, ⟨_, rfl, BLe.of_eq ?_⟩, trivial⟩) ?_)
      · rw [← hc, ← mul_mod2 _ _ p hgi hvp hp, ← ein]; rfl
      intro j hj
      have hlj := dRow_len b p c i (dSt a b p v m n k).2 j
      have hrj := dRow_rp (b := b) (p := p) (c := c) (by omega) i hrk.2 j (i + j)
      refine rr rfl (tr_seq ?_)
      refine tr_cond rfl (fun h4 => ?_) (fun h4 => ?_)
      · have h4 : j < b.length := by simpa using h4
        have gb := hb j
        have eij : ((i : Int) + (j : Int)).toNat = i + j := by omega
        have hset : ((dSt a b p v m n k).1.set i c).getD i 0 = c := by
          rw [List.getD_eq_getElem?_getD, List.getElem?_set_self (by omega)]; rfl
        have hll : ((dSt a b p v m n k).1.set i c).length = m := by rw [List.length_set]; exact hlk.1
        refine tr_skip (at_then (tr_seq (tr_block (rr rfl (rt rfl ?_ (hp := by simp only [Pr.an, Pr.h, num, i64r, true_and, and_true]; omega))))))
        refine at_block (at_then (rt rfl (at_loop (j + 1) h4 (by show b.length - (j + 1) < b.length - j; omega) (wk ⟨⟨_, rfl, AVle.refl _⟩, ⟨_, rfl, AVle.refl _⟩, ⟨_, rfl, AVle.refl _⟩, ⟨_, rfl, AVle.refl _⟩, ⟨_, rfl, AVle.refl _⟩, ⟨_, rfl, AVle.refl _⟩, ⟨_, rfl, AVle.refl _⟩, ⟨_, rfl, AVle.refl _⟩, ⟨_, rfl, AVle.refl _⟩, ⟨_, rfl, AVle.refl _⟩, ⟨_, rfl, AVle.refl _⟩, trivial⟩ ⟨⟨_, rfl, BLe.of_eq rfl⟩, ⟨_, rfl, BLe.of_eq rfl⟩, ⟨_, rfl, BLe.of_eq rfl⟩, ⟨_, rfl, BLe.of_eq rfl⟩, ⟨_, rfl, BLe.of_eq ?_⟩, ⟨_, rfl, BLe.of_eq rfl⟩, trivial⟩))))
        rw [dRow, eij, ← muladd_mod2 _ (p - c) _ p hrj (by omega) gb hp]
        have e2 : IntKind.wrap .u64 (p - ((dSt a b p v m n k).1.set i c).getD (i : Int).toNat 0) = p - c := by
          rw [Int.toNat_natCast, hset, wrap_u64 _ (by omega) (by omega)]
        rw [← e2]; rfl
      · have h4 : ¬ j < b.length := by simpa using h4
        have e : j = b.length := by omega
        subst e
        refine tr_exit (at_then_exit (at_loop_exit (at_block_exit (at_block (at_then (rt rfl (at_loop (k + 1) h3 (by show m - (k + 1) < m - k; omega) (wk ⟨⟨_, rfl, AVle.refl _⟩, ⟨_, rfl, AVle.refl _⟩, ⟨_, rfl, AVle.refl _⟩, ⟨_, rfl, AVle.refl _⟩, ⟨_, rfl, AVle.refl _⟩, ⟨_, rfl, AVle.refl _⟩, ⟨_, rfl, AVle.refl _⟩, ⟨_, rfl, AVle.refl _⟩, ⟨_, rfl, AVle.of_eq ?_⟩, trivial⟩ ⟨⟨_, rfl, BLe.of_eq rfl⟩, ⟨_, rfl, BLe.of_eq rfl⟩, ⟨_, rfl, BLe.of_eq rfl⟩, ⟨_, rfl, BLe.of_eq rfl⟩, ⟨_, rfl, BLe.of_eq ?_⟩, ⟨_, rfl, BLe.of_eq ?_⟩, trivial⟩))))))))
        · exact congrArg cI (by omega)
        · rw [dSt, ei2, hc]
        · rw [dSt, ei2, hc]
    · have h3 : ¬ k < m := by
        have h3 : ¬ (m : Int) - 1 - k ≥ 0 := by simpa using h3
        omega
      have e : k = m := by omega
      subst e
      refine tr_exit (at_then_exit (at_loop_exit (at_block_exit (at_then (tr_frz 1002000 rfl rfl rfl (tr_frz 5004000 rfl rfl rfl (rb (rc rfl rfl (ptrim_s ((dSt a b p v k n k).2.take n) p (by rw [List.length_take]; omega)) (re rfl (tr_ret (at_ret TT_ok rfl (AVle.refl _)))))))))))) 
end Go.El

/- The table of contracts that closed runs use: modular arithmetic. Own work; no condition. -/
namespace Go.El
open Go Go.Proofs

noncomputable def frc {β : Type} (n : Nat) (f : Nat → β) : β := Nat.rec (motive := fun _ => β) (f 0) (fun k _ => f (Nat.add k 1)) n
theorem frc_eq {β : Type} (n : Nat) (f : Nat → β) : frc n f = f n := by cases n <;> rfl
noncomputable def frcI {β : Type} (x : Int) (f : Int → β) : β := Int.rec (motive := fun _ => β) (fun n => frc n (fun m => f (Int.ofNat m))) (fun n => f (Int.negSucc n)) x
theorem frcI_eq {β : Type} (x : Int) (f : Int → β) : frcI x f = f x := by
  cases x with
  | ofNat n => exact frc_eq n (fun m => f (Int.ofNat m))
  | negSucc n => rfl
/-- The numbers of a list are computed, then the rest goes on. -/
noncomputable def frcL {β : Type} (l : List Int) : (List Int → β) → β := List.rec (motive := fun _ => (List Int → β) → β) (fun f => f []) (fun x _ ih f => frcI x (fun y => ih (fun t => f (y :: t)))) l
theorem frcL_eq {β : Type} : ∀ (l : List Int) (f : List Int → β), frcL l f = f l
  | [], _ => rfl
  | x :: l, f => by
    show frcI x (fun y => frcL l (fun t => f (y :: t))) = _
    rw [frcI_eq, frcL_eq l]

def intsC : List C → Option (List Int)
  | [] => some []
  | .I .u64 n :: r => (match intsC r with
    | some l => some (n :: l)
    | none => none)
  | _ => none
/-- A slice of words of 64 bits, as data. -/
noncomputable def dSl (ms : Ms) : C → Option (List Int)
  | .S (.int .u64) xs => some xs
  | .V (.slice none 0 0) => some []
  | .L id off len _ => (match lookS id ms with
    | some (.box _ _ cs) => intsC ((cs.drop off).take len)
    | some (.fz _ cs) => intsC ((cs.drop off).take len)
    | _ => none)
  | _ => none
def inB (p x : Int) : Bool := decide (0 ≤ x) && decide (x < p)
def rpB (p : Int) (l : List Int) : Bool := l.all (inB p)
theorem rpB_ok {p : Int} (hp : 0 < p) {l : List Int} (h : rpB p l = true) : rp p l := by
  intro i
  rw [List.getD_eq_getElem?_getD]
  cases hl : l[i]? with
  | none => exact ⟨Int.le_refl _, hp⟩
  | some x =>
    have := List.all_eq_true.1 h x (List.mem_of_getElem? hl)
    simp only [inB, Bool.and_eq_true, decide_eq_true_eq] at this
    exact this
noncomputable def cnPow : List AV → Option (List AV × AV)
  | [.c (.I .u64 a), .c (.I .u64 n), .c (.I .u64 p)] => (match inB 18446744073709551616 a && inB 18446744073709551616 n && decide (0 < p) && decide (p ≤ 4294967296) with
    | true => frc (powM a.toNat n.toNat p.toNat) (fun r => some ([cU a, cU n, cU p], cU (Int.ofNat r)))
    | false => none)
  | _ => none
noncomputable def cnInv : List AV → Option (List AV × AV)
  | [.c (.I .u64 a), .c (.I .u64 p)] => (match inB p a && decide (a ≠ 0) && decide (2 ≤ p) && decide (p ≤ 2147483648) with
    | true => frc (invM a.toNat p.toNat) (fun r => some ([cU a, cU p], .t [(false, [.I .u64 (Int.ofNat r)]), (false, [.I .i64 0])]))
    | false => none)
  | _ => none
def okP (a b : List Int) (p : Int) : Bool := Nat.ble a.length 1000 && Nat.ble b.length 1000 && decide (2 ≤ p) && decide (p ≤ 2147483648) && rpB p a && rpB p b
noncomputable def cnTimes (ms : Ms) : List AV → Option (List AV × AV)
  | [.a [x, .I .u64 p], .a [y, .I .u64 q]] => (match dSl ms x, dSl ms y with
    | some a, some b => (match decide (p = q) && okP a b p with
      | true => frcL (ptimes a b p) (fun l => some ([aP a p, aP b p], aP l p))
      | false => none)
    | _, _ => none)
  | _ => none
noncomputable def cnDivide (ms : Ms) : List AV → Option (List AV × AV)
  | [.a [x, .I .u64 p], .a [y, .I .u64 q]] => (match dSl ms x, dSl ms y with
    | some a, some b => (match decide (p = q) && okP a b p && !a.isEmpty && !b.isEmpty && decide (b.getD (b.length - 1) 0 ≠ 0) with
      | true => frcL (pdivide a b p).1 (fun l => frcL (pdivide a b p).2 (fun r => some ([aP a p, aP b p], .t [(true, [.S U64 l, .I .u64 p]), (true, [.S U64 r, .I .u64 p])])))
      | false => none)
    | _, _ => none)
  | _ => none
noncomputable def conP (f : FuncId) (vs : List AV) (ms : Ms) : Option (List AV × AV) :=
  match Nat.beq f 180 with
  | true => cnPow vs
  | false => (match Nat.beq f 124 with
    | true => cnInv vs
    | false => (match Nat.beq f 94 with
      | true => cnTimes ms vs
      | false => (match Nat.beq f 127 with
        | true => cnDivide ms vs
        | false => none)))
theorem okP_ok {a b : List Int} {p : Int} (h : okP a b p = true) : a.length ≤ 1000 ∧ b.length ≤ 1000 ∧ 2 ≤ p ∧ p ≤ 2147483648 ∧ rp p a ∧ rp p b := by
  simp only [okP, Bool.and_eq_true, decide_eq_true_eq] at h
  obtain ⟨⟨⟨⟨⟨h1, h2⟩, h3⟩, h4⟩, h5⟩, h6⟩ := h
  exact ⟨Nat.le_of_ble_eq_true h1, Nat.le_of_ble_eq_true h2, h3, h4, rpB_ok (by omega) h5, rpB_ok (by omega) h6⟩
theorem conP_ok : ∀ f vs ms vs' r, conP f vs ms = some (vs', r) → FnS Tryz.prog f vs' r := by
  intro f vs ms vs' r h
  unfold conP at h
  split at h
  · rename_i hf
    rw [Nat.eq_of_beq_eq_true hf]
    unfold cnPow at h
    split at h
    · rename_i a n p
      split at h
      · rename_i hc
        simp only [Bool.and_eq_true, inB, decide_eq_true_eq] at hc
        rw [frc_eq] at h
        cases h
        have := mpow_s a.toNat n.toNat p.toNat (by omega) (by omega) (by omega) (by omega)
        rwa [Int.toNat_of_nonneg (by omega : 0 ≤ a), Int.toNat_of_nonneg (by omega : 0 ≤ n), Int.toNat_of_nonneg (by omega : 0 ≤ p)] at this
      · cases h
    · cases h
  · split at h
    · rename_i hf
      rw [Nat.eq_of_beq_eq_true hf]
      unfold cnInv at h
      split at h
      · rename_i a p
        split at h
        · rename_i hc
          simp only [Bool.and_eq_true, inB, decide_eq_true_eq] at hc
          rw [frc_eq] at h
          cases h
          exact minv_z a p (by omega) (by omega) (by omega) (by omega)
        · cases h
      · cases h
    · split at h
      · rename_i hf
        rw [Nat.eq_of_beq_eq_true hf]
        unfold cnTimes at h
        split at h
        · rename_i x p y q
          split at h
          · rename_i a b _ _
            split at h
            · rename_i hc
              simp only [Bool.and_eq_true] at hc
              obtain ⟨h1, h2, h3, h4, h5, h6⟩ := okP_ok hc.2
              rw [frcL_eq] at h
              cases h
              exact ptimes_s a b p h1 h2 (by omega) h4 h5 h6
            · cases h
          · cases h
        · cases h
      · split at h
        · rename_i hf
          rw [Nat.eq_of_beq_eq_true hf]
          unfold cnDivide at h
          split at h
          · rename_i x p y q
            split at h
            · rename_i a b _ _
              split at h
              · rename_i hc
                simp only [Bool.and_eq_true, decide_eq_true_eq] at hc
                obtain ⟨⟨⟨⟨_, hc⟩, ha⟩, hb⟩, hl⟩ := hc
                obtain ⟨h1, h2, h3, h4, h5, h6⟩ := okP_ok hc
                rw [frcL_eq, frcL_eq] at h
                cases h
                cases a with
                | nil => simp at ha
                | cons x a' => exact pdivide_s x a' b p rfl h1 h2 h3 h4 h5 h6 (by intro e; rw [e] at hb; simp at hb) hl
              · cases h
            · cases h
          · cases h
        · cases h
end Go.El

/- Ranges over functions, part 1: what a piece of code keeps; frames side by side. Own work; no condition. -/
namespace Go.El
open Go Go.RowKit

/-- The same frame, begun anew here: only cells may turn. -/
def Fix.re (F : Fix) (W : World) (g : Gh) (k : Nat) : Fix := { F with w0 := W, H0 := g.H, own := fun b => F.N b ∧ ∀ o : Obj, W.heap[b]? = some o → o.isCells = true, k0 := k, γ0 := g.γ }

theorem RepB.reM {N N' : Nat → Prop} {g : Gh} {W : World} {id : Nat} {b : Blk} (hN : ∀ (x : Nat) (vs : Array Value) (E : TypeId) (p : Nat × Nat), W.heap[x]? = some (.cells vs E p) → N x → N' x) (h : RepB N g W id b) : RepB N' g W id b := by
  cases b with
  | box E sz cs =>
    obtain ⟨b, vs, rest, e, hh, hr, hn, hz⟩ := h
    exact ⟨b, vs, rest, e, hh, hr, hN _ _ _ _ hh hn, hz⟩
  | vec E T xs =>
    rcases h with h | ⟨b, cap, vs, e, hh, h1, h2, h2', h3, hn, hz⟩
    · exact .inl h
    · exact .inr ⟨b, cap, vs, e, hh, h1, h2, h2', h3, hN _ _ _ _ hh hn, hz⟩
  | clo f first caps => exact h
  | fz E cs =>
    obtain ⟨b, vs, rest, e, hh, hr, hn, hz⟩ := h
    exact ⟨b, vs, rest, e, hh, hr, hN _ _ _ _ hh hn, hz⟩

section
variable {F : Fix} {k k' : Nat} {σ σ' : Kn} {g g' : Gh} {W W' : World} {a a' : Act}

theorem Hold.re (h : Hold F (· < k) σ g W a) : Hold (F.re W g k) (· < k) σ g W a := by
  refine ⟨h.size, h.defers, h.slots, fun id b hb => (h.blks id b hb).reM ?_, h.inj, h.mids, h.mkn, h.sub, ⟨rfl, rfl, rfl, Nat.le_refl _, fun _ _ _ => rfl⟩, FLe.refl _, fun _ _ _ _ => rfl, fun id hid => ⟨hid, rfl⟩⟩
  intro x vs E p hx hn
  refine .inr ⟨hn, fun o ho => ?_⟩
  rw [hx] at ho
  cases ho
  rfl

theorem Hold.un (h0 : Hold F (· < k) σ g W a) (h : Hold (F.re W g k) (· < k') σ' g' W' a') :
    Hold F (· < k') σ' g' W' a' ∧ KeepsOthers W W' ∧ GLe (· < k) g g' := by
  refine ⟨⟨h.size, h.defers, h.slots, fun id b hb => (h.blks id b hb).reM ?_, h.inj, h.mids, h.mkn, h.sub, ?_, h0.le.trans h.le, ?_, ?_⟩, ?_, h.le, fun id hid => (h.kfix id hid).2⟩
  · intro x vs E p hx hn
    rcases hn with hn | hn
    · exact .inl (Nat.le_trans h0.below.size hn)
    · exact hn.1
  · refine ⟨h.below.os.trans h0.below.os, h.below.tape.trans h0.below.tape, h.below.output.trans h0.below.output, Nat.le_trans h0.below.size h.below.size, fun j hj hno => ?_⟩
    rw [← h0.below.block j hj hno]
    refine h.below.block j (Nat.lt_of_lt_of_le hj h0.below.size) (fun hc => ?_)
    rcases hc.1 with h1 | h1
    · omega
    · exact hno h1
  · intro b o hb hno
    rw [← h0.fresh b o hb hno]
    refine h.fresh b o (Nat.lt_of_lt_of_le hb h0.below.size) (fun hc => ?_)
    rcases hc.1 with h1 | h1
    · omega
    · exact hno h1
  · intro id hid
    have h1 := h0.kfix id hid
    have h2 := h.kfix id h1.1
    exact ⟨h2.1, h2.2.trans h1.2⟩
  · refine ⟨h.below.size, fun j o hj ho => ?_⟩
    rw [← hj]
    refine h.below.block j (Array.getElem?_eq_some_iff.1 hj).1 (fun hc => ?_)
    rw [hc.2 o hj] at ho
    cases ho

/-- A world in which cells lie as they lay, and all that lay at the start. -/
structure WX (B : Nat) (W W' : World) : Prop where
  os : W'.os = W.os
  tape : W'.tape = W.tape
  output : W'.output = W.output
  size : W.heap.size ≤ W'.heap.size
  same : ∀ (k : Nat) (o : Obj), W.heap[k]? = some o → o.isCells = true ∨ k < B → W'.heap[k]? = some o

theorem Hold.wx {known : Nat → Prop} (h : Hold F known σ g W a) (hx : WX F.w0.heap.size W W') : Hold F known σ g W' a := by
  refine ⟨h.size, h.defers, h.slots, fun id b hb => ?_, h.inj, h.mids, h.mkn, ?_, ⟨hx.os.trans h.below.os, hx.tape.trans h.below.tape, hx.output.trans h.below.output, Nat.le_trans h.below.size hx.size, fun j hj hno => ?_⟩, h.le, h.fresh, h.kfix⟩
  · have hr := h.blks id b hb
    cases b with
    | box E sz cs =>
      obtain ⟨b, vs, rest, e, hh, hr, hn, hz⟩ := hr
      exact ⟨b, vs, rest, e, hx.same _ _ hh (.inl rfl), hr, hn, hz⟩
    | vec E T xs =>
      rcases hr with h | ⟨b, cap, vs, e, hh, h1, h2, h2', h3, hn, hz⟩
      · exact .inl h
      · exact .inr ⟨b, cap, vs, e, hx.same _ _ hh (.inl rfl), h1, h2, h2', h3, hn, hz⟩
    | clo f first caps => exact hr
    | fz E cs =>
      obtain ⟨b, vs, rest, e, hh, hr, hn, hz⟩ := hr
      exact ⟨b, vs, rest, e, hx.same _ _ hh (.inl rfl), hr, hn, hz⟩
  · intro b o v hv
    have hc := h.sub b o v hv
    obtain ⟨ob, ho, hi⟩ := cells_of_cell hc
    rw [← hc]
    exact World.cell?_of_block ((hx.same _ _ ho (.inl hi)).trans ho.symm)
  · have hk : j < W.heap.size := Nat.lt_of_lt_of_le hj h.below.size
    have hj' : W.heap[j]? = some W.heap[j] := Array.getElem?_eq_getElem hk
    rw [hx.same j _ hj' (.inr hj), ← h.below.block j hj hno, hj']

theorem WX.refl (B : Nat) (W : World) : WX B W W := ⟨rfl, rfl, rfl, Nat.le_refl _, fun _ _ h _ => h⟩
theorem WX.trans {B : Nat} {A C D : World} (h : WX B A C) (h' : WX B C D) : WX B A D :=
  ⟨h'.os.trans h.os, h'.tape.trans h.tape, h'.output.trans h.output, Nat.le_trans h.size h'.size, fun k o hk hc => h'.same k o (h.same k o hk hc) hc⟩
theorem WX.alloc (B : Nat) (W : World) (o : Obj) : WX B W (W.alloc o) :=
  ⟨rfl, rfl, rfl, by simp, fun k _ hk _ => (Below.heap_alloc W o k (Array.getElem?_eq_some_iff.1 hk).1).trans hk⟩
theorem WX.putObj {B : Nat} {W : World} {l : Nat} {o : Obj} (o' : Obj) (hl : W.heap[l]? = some o) (ho : o.isCells = false) (hB : B ≤ l) : WX B W (W.putObj l o') :=
  ⟨rfl, rfl, rfl, by simp, fun k ob hk hc => by
    have hne : k ≠ l := by
      intro e
      subst e
      rw [hl] at hk
      cases hk
      rcases hc with hc | hc
      · rw [ho] at hc; cases hc
      · omega
    rw [World.putObj_heap_other hne]; exact hk⟩

/-- One more id, that stands for a value. -/
def Gh.new (g : Gh) (k : Nat) (u : Value) : Gh := ⟨g.H, fun id => if id = k then u else g.γ id⟩
theorem Hold.newId (h : Hold F (· < k) σ g W a) (u : Value) : Hold F (· < k + 1) σ (g.new k u) W a := by
  have h1 := h.step (chg := fun _ => False) (g' := g.new k u) (W' := W) (a' := a) ⟨⟨FLe.refl _, fun id hid => by have : id ≠ k := Nat.ne_of_lt hid; simp [Gh.new, this]⟩, fun _ _ _ => rfl, h.sub, Nat.le_refl _, fun _ _ _ => rfl, rfl, rfl, rfl⟩ [] k (Nat.lt_irrefl k) rfl h.defers (fun _ _ => rfl) (fun _ h => h.elim) (fun _ _ h => by simp [says] at h) (fun _ _ h => by simp [says] at h) (fun _ _ h => by simp [says] at h) (fun _ _ h => by simp [says] at h)
  refine h1.weaken ?_
  rintro id (hid | rfl)
  · exact Nat.lt_succ_of_lt hid
  · exact Nat.lt_succ_self _
end

section
variable {F : Fix} {k k' : Nat} {g g' : Gh} {W W' : World} {a a' : Act} {dep n dep' n' : Nat} {t t' : Tr} {m m' : Mem} {ds ds' : List Deferred} {rd rd' : Option Nat}

/-- The slots of one frame, with the memory that another frame leaves. -/
theorem Hold.swap {nn : Nat} (h : Hold { F with n := nn, ds := ds, rd := rd } (· < k) (absS dep n t m).kn g W a) (h' : Hold { F with n := n', ds := ds', rd := rd' } (· < k') (absS dep' n' t' m').kn g' W' a') (hk : k ≤ k') (hl : GLe (· < k) g g') :
    Hold { F with n := nn, ds := ds, rd := rd } (· < k') (absS dep n t m').kn g' W' a := by
  have hm : ∀ id x, (absS dep n t m').kn (.m id) = some x → (absS dep' n' t' m').kn (.m id) = some x := fun id x hx => hx
  refine ⟨h.size, h.defers, fun s v hs => ?_, fun id b hb => h'.blks id b (hm _ _ hb), fun id id' b b' kk h1 h2 h3 h4 => h'.inj id id' b b' kk (hm _ _ h1) (hm _ _ h2) h3 h4, fun key x hx id hid => ?_, fun id x hx => h'.mkn id x (hm _ _ hx), h'.sub, h'.below, h'.le, h'.fresh, h'.kfix⟩
  · exact RelV.mono hl (fun id hid => h.mids (.s s) (.v v) hs id hid) (h.slots s v hs)
  · cases key with
    | s j => exact Nat.lt_of_lt_of_le (h.mids (.s j) x hx id hid) hk
    | m j => exact h'.mids (.m j) x (hm _ _ hx) id hid

/-- A frame's deferred calls and round do not matter to what it knows. -/
theorem Hold.defer {known : Nat → Prop} {σ : Kn} {nn : Nat} (h : Hold { F with n := nn, ds := ds, rd := rd } known σ g W a) (ds' : List Deferred) (rd' : Option Nat) : Hold { F with n := nn, ds := ds', rd := rd' } known σ g W { a with defers := ds' } :=
  ⟨h.size, rfl, h.slots, h.blks, h.inj, h.mids, h.mkn, h.sub, h.below, h.le, h.fresh, h.kfix⟩

/-- A slot is set. -/
theorem Hold.setS {nn : Nat} (h : Hold { F with n := nn, ds := ds, rd := rd } (· < k) (absS dep n t m).kn g W a) (hn : n ≤ 4 ^ dep) (hnn : nn = n) {d : Nat} (hd : d < n) {v : AV} {u : Value} (hv : RelV g v u) (hid : ∀ id ∈ v.mids, id < k) :
    Hold { F with n := nn, ds := ds, rd := rd } (· < k) (absS dep n (setT (pth dep d) v t) m).kn g W { a with tmps := a.tmps.setIfInBounds d u } := by
  subst hnn
  have hkn := abs_set dep nn t m d v hn hd
  have hsl : ∀ s x, (absS dep nn (setT (pth dep d) v t) m).kn (.s s) = some (.v x) → (s = d ∧ x = v) ∨ (s ≠ d ∧ (absS dep nn t m).kn (.s s) = some (.v x)) := by
    intro s x hx
    rw [hkn] at hx
    by_cases e : s = d
    · subst e; simp [upd, says] at hx; exact .inl ⟨rfl, hx.symm⟩
    · have e' : d ≠ s := fun h => e h.symm
      simp [upd, says, e'] at hx; exact .inr ⟨e, hx⟩
  have hmm : ∀ id, (absS dep nn (setT (pth dep d) v t) m).kn (.m id) = (absS dep nn t m).kn (.m id) := fun _ => rfl
  refine ⟨by simpa using h.size, h.defers, fun s x hs => ?_, fun id b hb => h.blks id b hb, fun id id' b b' kk h1 h2 h3 h4 => h.inj id id' b b' kk h1 h2 h3 h4, fun key x hx id hid' => ?_, fun id x hx => h.mkn id x hx, h.sub, h.below, h.le, h.fresh, h.kfix⟩
  · rcases hsl s x hs with ⟨rfl, rfl⟩ | ⟨hne, hx⟩
    · have hsz : s < a.tmps.size := by rw [h.size]; exact hd
      simpa [hsz] using hv
    · have e' : d ≠ s := fun h => hne h.symm
      have := h.slots s x hx
      simpa [Array.getElem?_setIfInBounds_ne e'] using this
  · cases key with
    | m j => exact h.mids (.m j) x hx id hid'
    | s j =>
      cases x with
      | b _ => simp [absS, St.kn] at hx
      | v y =>
        rcases hsl j y hx with ⟨_, rfl⟩ | ⟨_, hx⟩
        · exact hid id hid'
        · exact h.mids (.s j) _ hx id hid'
end

section
variable {P : Program} {F : Fix} {n : Nat} {c : Code} {st st' : St} {k k' : Nat} {e : Ex} {g : Gh} {W : World} {a : Act}
/-- What is gone through keeps all that is no cells. -/
theorem Gone.keep (h : Gone P n c st k e st' k') (hn : F.n = n) (hnd : ndC F.rd c) (hh : Hold F (· < k) st.kn g W a) :
    c.wpIn (fen F.rd) 0 P (fun e' a' W' => e' = e.toE ∧ ∃ g', Hold F (· < k') st'.kn g' W' a' ∧ KeepsOthers W W' ∧ GLe (· < k) g g') a W := by
  refine wpIn_mono (h.2 (F.re W g k) hn hnd g W a hh.re) ?_
  rintro e' a' W' ⟨rfl, g', h'⟩
  exact ⟨rfl, g', hh.un h'⟩
end
end Go.El

/- Ranges over functions, part 2: code gone through by its structure. Own work; no condition. -/
namespace Go.El
open Go Go.RowKit

inductive Res (S : Type) where
  | no
  | nor (s : S)
  | exi (id : Nat) (s : S)
  | ret (s : S)

def Res.post {S : Type} (I : S → Act → World → Prop) : Res S → Exit → Act → World → Prop
  | .nor s, e, a, W => e = .normal ∧ I s a W
  | .exi id s, e, a, W => e = .exit id ∧ I s a W
  | .ret s, e, a, W => e = .ret ∧ I s a W
  | .no, _, _, _ => False

section
variable {S : Type} (leaf : Code → S → Res S) (ev : Operand → S → Option Bool)
noncomputable def genS (ih : Code → S → Res S) (x y : Code) (s : S) : Res S := match ih x s with
  | .nor s1 => ih y s1
  | r => r
noncomputable def genC (ih : Code → S → Res S) (c : Operand) (x y : Code) (s : S) : Res S := match ev c s with
  | some b => (match b with
    | true => ih x s
    | false => ih y s)
  | none => .no
noncomputable def genB (ih : Code → S → Res S) (id : Nat) (x : Code) (s : S) : Res S := match ih x s with
  | .exi id' s1 => (match Nat.beq id' id with
    | true => .nor s1
    | false => .exi id' s1)
  | r => r
noncomputable def genL (ih : Code → S → Res S) (x : Code) (s : S) : Res S := match ih x s with
  | .nor s1 => ih (.loop x) s1
  | r => r
noncomputable def genStep (ih : Code → S → Res S) : Code → S → Res S
  | .skip => .nor
  | .label _ => .nor
  | .exit id => .exi id
  | .ret => .ret
  | .seq x y => genS ih x y
  | .cond c x y => genC ev ih c x y
  | .block id x => genB ih id x
  | .scope x => ih x
  | .loop x => genL ih x
  | c => leaf c
/-- Code by its structure; what is a leaf is gone through by 'leaf'. -/
noncomputable def gen (fuel : Nat) : Code → S → Res S := Nat.rec (motive := fun _ => Code → S → Res S) (fun _ _ => .no) (fun _ ih => genStep leaf ev ih) fuel
end

section
variable {P : Program} {Fe : Fence} {n : Nat} {Q : Exit → Act → World → Prop} {a : Act} {w : World}
theorem wpIn_scope {c : Code} (h : c.wpIn Fe n P (Exit.noGoto Q) a w) : (Code.scope c).wpIn Fe n P Q a w := by
  intro b k cs hro hb hr
  have s1 : step P (lone (b.atR a (.code (.scope c) :: k)) cs w) = .next (lone (b.atR a (.code c :: .inScope c :: k)) cs w) := step_lone_go (by simp [Go.stepG, Go.stepG.exec, Frame.atR])
  have s2 : ∀ a w, step P (lone (b.atR a (.inScope c :: k)) cs w) = .next (lone (b.atR a k) cs w) := fun a w => step_lone_go (by simp [Go.stepG, Go.stepG.exec, Frame.atR])
  have h0 : (lone (b.atR a (.code (.scope c) :: k)) cs w).fenced P Fe := fenced_calm hb hr rfl
  obtain ⟨e, a₁, w₁, hq, harr⟩ := h b (.inScope c :: k) cs hro hb hr
  cases e with
  | normal => exact ⟨.normal, a₁, w₁, hq, .head h0 s1 (StepsIn.trans harr (.one (fenced_calm hb hr rfl) (s2 _ _)))⟩
  | exit id =>
    refine ⟨.exit id, a₁, w₁, hq, fun k' hk => .head h0 s1 (harr.1 k' (by simp [exitTo, hk])), fun hr' hk => ?_⟩
    obtain ⟨k₁, h1, h2⟩ := harr.2 hr' (by simp [exitTo, hk])
    exact ⟨k₁, h1, .head h0 s1 h2⟩
  | goto l => exact hq.elim
  | ret => exact ⟨_, a₁, w₁, hq, .of_steps (.one h0 s1) harr⟩
  | panic ch => exact ⟨_, a₁, w₁, hq, .of_steps (.one h0 s1) harr⟩
  | outgrown => exact ⟨_, a₁, w₁, hq, .of_steps (.one h0 s1) harr⟩
end

section
variable {P : Program} {Fe : Fence} {S : Type} {leaf : Code → S → Res S} {ev : Operand → S → Option Bool} {I : S → Act → World → Prop}

theorem genR_sound (hleaf : ∀ c s r, leaf c s = r → r ≠ .no → ∀ a W, I s a W → c.wpIn Fe 0 P (r.post I) a W)
    (hev : ∀ c s b, ev c s = some b → ∀ a W, I s a W → a.eval c = .bool b) :
    ∀ (fuel : Nat) (c : Code) (s : S) (r : Res S), gen leaf ev fuel c s = r → r ≠ .no → ∀ a W, I s a W → c.wpIn Fe 0 P (r.post I) a W := by
  intro fuel
  induction fuel using Nat.strongRecOn with
  | _ fuel ihs =>
  cases fuel with
  | zero => intro c s r h hr; exact absurd h.symm hr
  | succ f =>
    have ih := ihs f (by omega)
    intro c s r h hr a W hI
    cases c with
    | skip => have h : Res.nor s = r := h; subst h; exact wpIn_skip ⟨rfl, hI⟩
    | label _ => have h : Res.nor s = r := h; subst h; exact wpIn_label ⟨rfl, hI⟩
    | exit id => have h : Res.exi id s = r := h; subst h; exact wpIn_exit ⟨rfl, hI⟩
    | ret => have h : Res.ret s = r := h; subst h; exact wpIn_ret ⟨rfl, hI⟩
    | seq x y =>
      have h : genS (gen leaf ev f) x y s = r := h
      unfold genS at h
      refine wpIn_seq ?_
      cases hx : gen leaf ev f x s with
      | no => rw [hx] at h; exact absurd h.symm hr
      | nor s1 =>
        rw [hx] at h
        refine wpIn_mono (ih x s _ hx (by simp) a W hI) ?_
        rintro e a' W' ⟨rfl, h1⟩
        exact ih y s1 r h hr a' W' h1
      | exi id s1 =>
        rw [hx] at h
        subst h
        refine wpIn_mono (ih x s _ hx (by simp) a W hI) ?_
        rintro e a' W' ⟨rfl, h1⟩
        exact ⟨rfl, h1⟩
      | ret s1 =>
        rw [hx] at h
        subst h
        refine wpIn_mono (ih x s _ hx (by simp) a W hI) ?_
        rintro e a' W' ⟨rfl, h1⟩
        exact ⟨rfl, h1⟩
    | cond cnd x y =>
      have h : genC ev (gen leaf ev f) cnd x y s = r := h
      unfold genC at h
      cases hc : ev cnd s with
      | none => rw [hc] at h; exact absurd h.symm hr
      | some b =>
        rw [hc] at h
        have he := hev cnd s b hc a W hI
        cases b with
        | true => exact wpIn_cond_split he (fun _ => ih x s r h hr a W hI) (fun e => by cases e)
        | false => exact wpIn_cond_split he (fun e => by cases e) (fun _ => ih y s r h hr a W hI)
    | block id x =>
      have h : genB (gen leaf ev f) id x s = r := h
      unfold genB at h
      refine wpIn_block ?_
      cases hx : gen leaf ev f x s with
      | no => rw [hx] at h; exact absurd h.symm hr
      | nor s1 =>
        rw [hx] at h
        subst h
        refine wpIn_mono (ih x s _ hx (by simp) a W hI) ?_
        rintro e a' W' ⟨rfl, h1⟩
        exact ⟨rfl, h1⟩
      | exi id' s1 =>
        rw [hx] at h
        dsimp only at h
        refine wpIn_mono (ih x s _ hx (by simp) a W hI) ?_
        rintro e a' W' ⟨rfl, h1⟩
        cases hid : Nat.beq id' id with
        | true =>
          rw [hid] at h
          subst h
          have := Nat.eq_of_beq_eq_true hid
          subst this
          simp only [Exit.inBlock, if_true]
          exact ⟨rfl, h1⟩
        | false =>
          rw [hid] at h
          subst h
          have hne : id' ≠ id := by intro e'; subst e'; rw [Nat.beq_refl] at hid; cases hid
          simp only [Exit.inBlock, hne, if_false]
          exact ⟨rfl, h1⟩
      | ret s1 =>
        rw [hx] at h
        subst h
        refine wpIn_mono (ih x s _ hx (by simp) a W hI) ?_
        rintro e a' W' ⟨rfl, h1⟩
        exact ⟨rfl, h1⟩
    | scope x =>
      have h : gen leaf ev f x s = r := h
      refine wpIn_scope (wpIn_mono (ih x s r h hr a W hI) ?_)
      intro e a' W' hp
      cases r with
      | no => exact hp.elim
      | nor s1 => obtain ⟨rfl, h1⟩ := hp; exact ⟨rfl, h1⟩
      | exi id s1 => obtain ⟨rfl, h1⟩ := hp; exact ⟨rfl, h1⟩
      | ret s1 => obtain ⟨rfl, h1⟩ := hp; exact ⟨rfl, h1⟩
    | loop x =>
      refine wpIn_loop_x (fun (y : Nat × S) a W => y.1 ≤ f + 1 ∧ gen leaf ev y.1 (.loop x) y.2 = r ∧ I y.2 a W) (fun y => y.1) (f + 1, s) ⟨Nat.le_refl _, h, hI⟩ ?_
      rintro ⟨f', s0⟩ a W ⟨hf, h0, hI⟩
      simp only at hf h0 hI ⊢
      cases f' with
      | zero => exact absurd h0.symm hr
      | succ f' =>
        have h0 : genL (gen leaf ev f') x s0 = r := h0
        unfold genL at h0
        have ih' := ihs f' (by omega)
        cases hx : gen leaf ev f' x s0 with
        | no => rw [hx] at h0; exact absurd h0.symm hr
        | nor s1 =>
          rw [hx] at h0
          refine wpIn_mono (ih' x s0 _ hx (by simp) a W hI) ?_
          rintro e a' W' ⟨rfl, h1⟩
          exact ⟨(f', s1), ⟨by simp only; omega, h0, h1⟩, by simp⟩
        | exi id s1 =>
          rw [hx] at h0
          subst h0
          refine wpIn_mono (ih' x s0 _ hx (by simp) a W hI) ?_
          rintro e a' W' ⟨rfl, h1⟩
          exact ⟨rfl, h1⟩
        | ret s1 =>
          rw [hx] at h0
          subst h0
          refine wpIn_mono (ih' x s0 _ hx (by simp) a W hI) ?_
          rintro e a' W' ⟨rfl, h1⟩
          exact ⟨rfl, h1⟩
    | region id ops draw => exact hleaf _ s r h hr a W hI
    | rangeFunc _ _ _ _ => exact hleaf _ s r h hr a W hI
    | goto _ => exact hleaf _ s r h hr a W hI
    | refuse _ => exact hleaf _ s r h hr a W hI
end
end Go.El

/- Ranges over functions, part 3: the function that is ranged over, and the rounds that it asks for. Own work; no condition. -/
namespace Go.El
open Go Go.RowKit

section
variable {P : Program} {tt : TT} {con : FuncId → List AV → Ms → Option (List AV × AV)}

/-- Some operations of a region, in the text's order. -/
theorem regT_ops (htt : ttB P tt = true) {cal : CallG} (hcal : CalOk P cal) {dep n : Nat} (hn : n ≤ 4 ^ dep) {ops : Array Oper} : ∀ (os : List Oper) (i : Nat) {gs : List GI} {t : Tr} {ms : Ms} {k : Nat} {wl : List Nat} {t' : Tr} {ms' : Ms} {k' : Nat} {wl' : List Nat} {f : Ft},
    regT cal tt n 0 gs t ms k wl = .ok t' ms' k' wl' f → compR dep n ops.toList os = some gs → (∀ j o, os[j]? = some o → ops[i + j]? = some o) → wfT dep n t k → wfM ms k →
    k ≤ k' ∧ wfT dep n t' k' ∧ wfM ms' k' ∧ ∀ (F : Fix), F.n = n → ndO F.rd ops → ∀ (Q : Exit → Act → World → Prop) (rest : List Nat) g W a, Hold F (· < k) (absS dep n t ms.flatten).kn g W a →
      (∀ g' W' a', Hold F (· < k') (absS dep n t' ms'.flatten).kn g' W' a' → wpOpsIn (fen F.rd) 0 P ops Q rest a' W') → wpOpsIn (fen F.rd) 0 P ops Q (List.range' i os.length ++ rest) a W
  | [], i, gs, t, ms, k, wl, t', ms', k', wl', f, h, hc, _, hwT, hwM => by
    simp only [compR, Option.some.injEq] at hc
    subst hc
    have h' : Rs.ok t ms k wl .n = .ok t' ms' k' wl' f := h
    simp only [Rs.ok.injEq] at h'
    obtain ⟨rfl, rfl, rfl, rfl, rfl⟩ := h'
    exact ⟨Nat.le_refl _, hwT, hwM, fun F hF hnd Q rest g W a hh hK => hK g W a hh⟩
  | o :: os, i, gs, t, ms, k, wl, t', ms', k', wl', f, h, hc, hget, hwT, hwM => by
    simp only [compR] at hc
    split at hc
    · rename_i gi gs' hg hgs
      cases hc
      have e1 : regT cal tt n 0 (gi :: gs') t ms k wl = match stepGI cal tt n 0 gi t ms k wl with | .ok t' ms' k' wl' _ => regT cal tt n 0 gs' t' ms' k' wl' | .no => .no := rfl
      rw [e1] at h
      split at h
      · rename_i t1 ms1 k1 wl1 f1 hs
        have ho : ops[i]? = some o := by have := hget 0 o rfl; simpa using this
        obtain ⟨⟨ks, ⟨rd, wr, hst, hrd, hkn, hle, _, _⟩, _, hL⟩, _⟩ := stepGI_sound htt hcal (Nat.zero_le _) hn ho hg hwT hwM hs
        obtain ⟨h1, h2, h3, h4⟩ := regT_ops htt hcal hn os (i + 1) h hgs (fun j o' hj => by have := hget (j + 1) o' (by simpa using hj); rwa [show i + (j + 1) = i + 1 + j by omega] at this) hL.wfT hL.wfM
        refine ⟨Nat.le_trans hle h1, h2, h3, fun F hF hnd Q rest g W a hh hK => ?_⟩
        rw [List.length_cons, List.range'_succ, List.cons_append, wpOpsIn_cons]
        refine wpOpIn_of (hnd i) ?_
        refine hst F hF _ (· < k) _ g W a _ (fun id h1 h2 => by omega) hh hrd (fun g' W' a' h' => ?_)
        rw [← hkn] at h'
        exact h4 F hF hnd Q rest g' W' a' (h'.weaken (fun id hid => by rcases hid with hid | hid <;> omega)) hK
      · cases h
    · cases hc

/-- The loop's record. -/
def recL (fn : FuncId) (tmps : Array Value) (p : Nat) (asg bd : Code) (D : Nat) (pd : Option Code) : Loop :=
  { state := if pd.isNone then .ready else .done, pending := pd, fn := fn, tmps := tmps, params := #[p], assign := asg, body := bd, defers := D }

structure SY where
  t : Tr
  ms : Ms
  k : Nat
  pd : Option Code

/-- One round, in the frame of the loop. -/
noncomputable def rndF (P : Program) (tt : TT) (con : FuncId → List AV → Ms → Option (List AV × AV)) (fu dep0 n0 : Nat) (t0 : Tr) (p : Nat) (asg bd : Code) (v : AV) (ms : Ms) (k : Nat) : Option (Option Code × Ms × Nat) :=
  match runF P tt con fu dep0 n0 0 asg (setT (pth dep0 p) v t0) ms k [] with
  | .nor t1 ms1 k1 _ => (match runF P tt con fu dep0 n0 0 bd t1 ms1 k1 [] with
    | .nor _ ms2 k2 _ => some (none, ms2, k2)
    | .exi id _ ms2 k2 _ => some (some (.exit id), ms2, k2)
    | .ret _ ms2 k2 _ => some (some .ret, ms2, k2)
    | .no => none)
  | _ => none

def yOp (o : Oper) : Option (Nat × Nat × Nat) := match o.dst, o.op with
  | some d, .call ⟨.value (.tmp j), ⟨[.tmp x]⟩, _⟩ => some (d, j, x)
  | _, _ => none
def spY : List Oper → Nat → List Oper → Option (Nat × Oper × (Nat × Nat × Nat))
  | _, _, [] => none
  | all, i, o :: os => match yOp o with
    | some q => some (i, o, q)
    | none => spY all (i + 1) os
noncomputable def gdY (dep n : Nat) (opsL : List Oper) (o : Oper) (t : Tr) : Bool := match o.guard with
  | none => true
  | some (j, want) => (match gslot opsL j with
    | some tg => (match Nat.blt tg n, getT (pth dep tg) t with
      | true, some (.c (.B b)) => b == want
      | _, _ => false)
    | none => false)

noncomputable def leafY2 (P : Program) (tt : TT) (con : FuncId → List AV → Ms → Option (List AV × AV)) (fu dep n kt : Nat) (rnd : AV → Ms → Nat → Option (Option Code × Ms × Nat)) (ops : Array Oper) (s : SY) : Res SY :=
  match spY ops.toList 0 ops.toList with
  | some (i, o, (d, j, x)) => (match compR dep n ops.toList (ops.toList.take i), compR dep n ops.toList (ops.toList.drop (i + 1)) with
    | some gp, some gq => (match regT (callF P tt con (runF P tt con fu)) tt n 0 gp s.t s.ms s.k [] with
      | .ok t1 ms1 k1 _ _ => (match gdY dep n ops.toList o t1 && Nat.blt d n && Nat.blt j n && Nat.blt x n with
        | true => (match getT (pth dep j) t1, getT (pth dep x) t1 with
          | some (.c (.X kt')), some v => (match Nat.beq kt' kt with
            | true => (match rnd v ms1 k1 with
              | some (pd, ms2, k2) => (match regT (callF P tt con (runF P tt con fu)) tt n 0 gq (setT (pth dep d) (.c (.B pd.isNone)) t1) ms2 k2 [] with
                | .ok t3 ms3 k3 _ _ => .nor ⟨t3, ms3, k3, pd⟩
                | .no => .no)
              | none => .no)
            | false => .no)
          | _, _ => .no)
        | false => .no)
      | .no => .no)
    | _, _ => .no)
  | none => .no
noncomputable def leafY (P : Program) (tt : TT) (con : FuncId → List AV → Ms → Option (List AV × AV)) (fu dep n kt : Nat) (rnd : AV → Ms → Nat → Option (Option Code × Ms × Nat)) (c : Code) (s : SY) : Res SY := match c with
  | .region id ops draw => (match runF P tt con fu dep n 0 (.region id ops draw) s.t s.ms s.k [] with
    | .nor t' ms' k' _ => .nor ⟨t', ms', k', s.pd⟩
    | _ => (match draw with
      | false => (match s.pd with
        | none => leafY2 P tt con fu dep n kt rnd ops s
        | some _ => .no)
      | true => .no))
  | _ => .no
noncomputable def evY (dep n : Nat) (c : Operand) (s : SY) : Option Bool := match compP dep n c with
  | some p => (match evP s.t p with
    | some (.c (.B b)) => some b
    | _ => none)
  | none => none

/-- What is known while the function runs. -/
def IY (F : Fix) (dep n dep0 n0 : Nat) (t0 : Tr) (a0 : Act) (ds0 : List Deferred) (kt l : Nat) (rc : Option Code → Loop) (mk : List Nat) (s : SY) (a : Act) (W : World) : Prop :=
  ∃ g, wfT dep n s.t s.k ∧ wfM s.ms s.k ∧ wfT dep0 n0 t0 s.k ∧ Hold { F with n := n, ds := [], rd := none } (· < s.k) (absS dep n s.t s.ms.flatten).kn g W a ∧
    Hold { F with n := n0, ds := ds0, rd := none } (· < s.k) (absS dep0 n0 t0 s.ms.flatten).kn g W a0 ∧ kt < s.k ∧ g.γ kt = .func (.yield l) #[] #[] ∧ W.heap[l]? = some (.loop (rc s.pd)) ∧ ∀ D ∈ mk, W.heap[D]? = some (.deferred (some []))

theorem spY_at {all : List Oper} : ∀ {os : List Oper} {i i' : Nat} {o : Oper} {q : Nat × Nat × Nat}, spY all i os = some (i', o, q) → yOp o = some q ∧ i ≤ i' ∧ os[i' - i]? = some o
  | [], i, i', o, q, h => by simp [spY] at h
  | x :: os, i, i', o, q, h => by
    simp only [spY] at h
    split at h
    · rename_i q' hq
      simp only [Option.some.injEq, Prod.mk.injEq] at h
      obtain ⟨rfl, rfl, rfl⟩ := h
      exact ⟨hq, Nat.le_refl _, by simp⟩
    · obtain ⟨h1, h2, h3⟩ := spY_at h
      refine ⟨h1, by omega, ?_⟩
      rw [show i' - i = (i' - (i + 1)) + 1 by omega]
      simpa using h3

theorem yOp_eq {o : Oper} {d j x : Nat} (h : yOp o = some (d, j, x)) : o.dst = some d ∧ ∃ tys, o.op = .call ⟨.value (.tmp j), ⟨[.tmp x]⟩, tys⟩ := by
  unfold yOp at h
  split at h
  · rename_i d' j' x' tys hd hop
    simp only [Option.some.injEq, Prod.mk.injEq] at h
    obtain ⟨rfl, rfl, rfl⟩ := h
    exact ⟨hd, tys, hop⟩
  · cases h

theorem kn_slot {dep n : Nat} {t : Tr} {m : Mem} {j : Nat} {v : AV} (hj : j < n) (h : getT (pth dep j) t = some v) : (absS dep n t m).kn (.s j) = some (.v v) := by
  rw [abs_kn]; simp [hj, h]

variable {F : Fix} {dep n dep0 n0 : Nat} {t0 : Tr} {a0 : Act} {ds0 : List Deferred} {kt l : Nat} {fnid : FuncId} {p D : Nat} {asg bd : Code} {mk : List Nat}

/-- A round goes through. -/
theorem round_ok (hmx : P.follows .mixedOrders = true) (htt : ttB P tt = true) (hcon : ∀ f vs ms vs' r, con f vs ms = some (vs', r) → FnS P f vs' r) (fu : Nat) (hn0 : n0 ≤ 4 ^ dep0) (hp : p < n0) (hnda : noDef asg = true) (hndb : noDef bd = true) (hl : F.w0.heap.size ≤ l) (hlm : l ∉ mk)
    {v : AV} {ms ms' : Ms} {k k' : Nat} {pd : Option Code} (h : rndF P tt con fu dep0 n0 t0 p asg bd v ms k = some (pd, ms', k'))
    (hw0 : wfT dep0 n0 t0 k) (hwM : wfM ms k) {g : Gh} {W : World} (hh : Hold { F with n := n0, ds := ds0, rd := none } (· < k) (absS dep0 n0 t0 ms.flatten).kn g W a0) {u : Value} (hv : RelV g v u) (hvi : ∀ id ∈ v.mids, id < k)
    (hrec : W.heap[l]? = some (.loop (recL fnid a0.tmps p asg bd D none))) (hmk : ∀ D ∈ mk, W.heap[D]? = some (.deferred (some [])))
    {R : Ending → World → Prop} (hR : ∀ g' W', k ≤ k' → wfM ms' k' → Hold { F with n := n0, ds := ds0, rd := none } (· < k') (absS dep0 n0 t0 ms'.flatten).kn g' W' a0 → GLe (· < k) g g' → W'.heap[l]? = some (.loop (recL fnid a0.tmps p asg bd D pd)) → (∀ D ∈ mk, W'.heap[D]? = some (.deferred (some []))) → R (.returned (.bool pd.isNone)) W') :
    RoundIn (fen none) 0 P l fnid (a0.tmps.setIfInBounds p u) asg bd W R := by
  unfold rndF at h
  split at h
  · rename_i t1 ms1 k1 wl1 h1
    have hkey : ∀ (e : Ex) t2 wl2, RcIs (runF P tt con fu dep0 n0 0 bd t1 ms1 k1 []) e t2 ms' k' wl2 → (∀ W5 : World, W5.heap[l]? = some (.loop { recL fnid a0.tmps p asg bd D none with state := .busy }) → ∀ W6 v6, (Instr.endRound l pd).run P W5 = .ok v6 W6 → R (.returned v6) W6 → ∀ a5, roundPost P l R e.toE a5 W5) →
        RoundIn (fen none) 0 P l fnid (a0.tmps.setIfInBounds p u) asg bd W R := by
      intro e t2 wl2 h2 hpost
      have h0 : Hold { F with n := n0, ds := [], rd := some l } (· < k) (absS dep0 n0 (setT (pth dep0 p) v t0) ms.flatten).kn g W { tmps := a0.tmps.setIfInBounds p u, defers := [] } := (hh.defer [] (some l)).setS hn0 rfl hp hv hvi
      have g1 := runF_sound hmx htt hcon fu dep0 n0 0 asg _ ms k [] .nor t1 ms1 k1 wl1 hn0 (Nat.zero_le _) (hw0.set hn0 hp hvi) hwM h1
      have g2 := runF_sound hmx htt hcon fu dep0 n0 0 bd t1 ms1 k1 [] e t2 ms' k' wl2 hn0 (Nat.zero_le _) g1.1.wfT g1.1.wfM h2
      refine roundIn_of_wpIn (F := fen none) trivial ?_
      refine wpIn_mono (F := fen (some l)) (g1.2.keep (F := { F with n := n0, ds := [], rd := some l }) rfl (.inr hnda) h0) ?_
      rintro e1 a1 W1 ⟨rfl, ga, ha, hka, hga⟩
      have hr1 := hka.same _ _ hrec rfl
      have hr1s : (recL fnid a0.tmps p asg bd D none).state = .ready := rfl
      refine ⟨_, run_beginRound hr1 hr1s, ?_⟩
      have hlt1 : l < W1.heap.size := (Array.getElem?_eq_some_iff.1 hr1).1
      have hb0 := ha.wx (WX.putObj (.loop { recL fnid a0.tmps p asg bd D none with state := .busy }) hr1 rfl hl)
      refine wpIn_mono (F := fen (some l)) (g2.2.keep (F := { F with n := n0, ds := [], rd := some l }) rfl (.inr hndb) hb0) ?_
      rintro e2 a2 W2 ⟨rfl, gb, hb, hkb, hgb⟩
      have hr2 := hkb.same _ _ (World.putObj_heap_same (o := .loop { recL fnid a0.tmps p asg bd D none with state := .busy }) hlt1) rfl
      have hend := run_endRound (P := P) pd hr2
      refine hpost W2 hr2 _ _ hend ?_ a2
      have hlt2 : l < W2.heap.size := (Array.getElem?_eq_some_iff.1 hr2).1
      have hgl : GLe (· < k) g gb := ⟨hga.H.trans hgb.H, fun id hid => (hgb.γ id (Nat.lt_of_lt_of_le hid g1.1.le)).trans (hga.γ id hid)⟩
      refine hR gb _ (Nat.le_trans g1.1.le g2.1.le) g2.1.wfM ((hh.swap hb (Nat.le_trans g1.1.le g2.1.le) hgl).wx (WX.putObj _ hr2 rfl hl)) hgl ?_ ?_
      · rw [World.putObj_heap_same hlt2]; rfl
      · intro D' hD'
        have hne : D' ≠ l := fun e => hlm (e ▸ hD')
        rw [World.putObj_heap_other hne]
        refine hkb.same _ _ ?_ rfl
        rw [World.putObj_heap_other hne]
        exact hka.same _ _ (hmk D' hD') rfl
    split at h
    · rename_i t2 ms2 k2 wl2 h2
      simp only [Option.some.injEq, Prod.mk.injEq] at h
      obtain ⟨rfl, rfl, rfl⟩ := h
      exact hkey .nor t2 wl2 h2 (fun W5 _ W6 v6 he hr a5 => ⟨v6, W6, he, hr⟩)
    · rename_i id t2 ms2 k2 wl2 h2
      simp only [Option.some.injEq, Prod.mk.injEq] at h
      obtain ⟨rfl, rfl, rfl⟩ := h
      exact hkey (.exi id) t2 wl2 h2 (fun W5 _ W6 v6 he hr a5 => ⟨v6, W6, he, hr⟩)
    · rename_i t2 ms2 k2 wl2 h2
      simp only [Option.some.injEq, Prod.mk.injEq] at h
      obtain ⟨rfl, rfl, rfl⟩ := h
      exact hkey .ret t2 wl2 h2 (fun W5 _ W6 v6 he hr a5 => ⟨v6, W6, he, hr⟩)
    · cases h
  · cases h
end
end Go.El

/- Ranges over functions, part 4: the leaves of the function that is ranged over are sound. Own work; no condition. -/
namespace Go.El
open Go Go.RowKit

section
variable {P : Program} {tt : TT} {con : FuncId → List AV → Ms → Option (List AV × AV)}
variable {F : Fix} {dep n dep0 n0 : Nat} {t0 : Tr} {a0 : Act} {ds0 : List Deferred} {kt l : Nat} {fnid : FuncId} {p D : Nat} {asg bd : Code} {mk : List Nat}

theorem evY_ok {rc : Option Code → Loop} : ∀ c s b, evY dep n c s = some b → ∀ a W, IY F dep n dep0 n0 t0 a0 ds0 kt l rc mk s a W → a.eval c = .bool b := by
  intro c s b h a W hI
  obtain ⟨g, _, _, _, hh, _⟩ := hI
  unfold evY at h
  split at h
  · rename_i q hq
    split at h
    · rename_i b' hb
      cases h
      have hev := compP_ev (m := s.ms.flatten) hq hb
      exact ev_rel hh _ c _ hev (opd_kn _ c)
    · cases h
  · cases h

theorem leafY_ok (hmx : P.follows .mixedOrders = true) (htt : ttB P tt = true) (hcon : ∀ f vs ms vs' r, con f vs ms = some (vs', r) → FnS P f vs' r) (fu : Nat) (hn : n ≤ 4 ^ dep) (hn0 : n0 ≤ 4 ^ dep0) (hp : p < n0) (hnda : noDef asg = true) (hndb : noDef bd = true) (hl : F.w0.heap.size ≤ l) (hlm : l ∉ mk) :
    ∀ c s r, leafY P tt con fu dep n kt (rndF P tt con fu dep0 n0 t0 p asg bd) c s = r → r ≠ .no → ∀ a W, IY F dep n dep0 n0 t0 a0 ds0 kt l (recL fnid a0.tmps p asg bd D) mk s a W →
      c.wpIn (fen none) 0 P (r.post (IY F dep n dep0 n0 t0 a0 ds0 kt l (recL fnid a0.tmps p asg bd D) mk)) a W := by
  intro c s r h hr a W hI
  unfold leafY at h
  split at h
  · rename_i id ops draw
    obtain ⟨g, hwT, hwM, hw0, hh, hh0, hkt, htok, hrec, hmk⟩ := hI
    split at h
    · rename_i t' ms' k' wl' h1
      subst h
      have g1 := runF_sound hmx htt hcon fu dep n 0 _ s.t s.ms s.k [] .nor t' ms' k' wl' hn (Nat.zero_le _) hwT hwM h1
      refine wpIn_mono (F := fen none) (g1.2.keep (F := { F with n := n, ds := [], rd := none }) rfl (.inl rfl) hh) ?_
      rintro e1 a1 W1 ⟨rfl, ga, ha, hka, hga⟩
      exact ⟨rfl, ga, g1.1.wfT, g1.1.wfM, hw0.le g1.1.le, ha, hh0.swap ha g1.1.le hga, Nat.lt_of_lt_of_le hkt g1.1.le, (hga.γ kt hkt).trans htok, hka.same _ _ hrec rfl, fun D hD => hka.same _ _ (hmk D hD) rfl⟩
    · split at h
      · split at h
        · rename_i hpd
          rw [hpd] at hrec
          unfold leafY2 at h
          split at h
          · rename_i i o d j x hsp
            obtain ⟨hy, _, hoi⟩ := spY_at hsp
            obtain ⟨hdst, tys, hop⟩ := yOp_eq hy
            have hoi' : ops[i]? = some o := by simpa using hoi
            have hilt : i < ops.size := (Array.getElem?_eq_some_iff.1 hoi').1
            split at h
            · rename_i gp gq hgp hgq
              split at h
              · rename_i t1 ms1 k1 wl1 f1 hrun1
                split at h
                · rename_i hchk
                  simp only [Bool.and_eq_true, Nat.blt_eq] at hchk
                  obtain ⟨⟨⟨hgd, hdn⟩, hjn⟩, hxn⟩ := hchk
                  split at h
                  · rename_i kt' v hgj hgx
                    split at h
                    · rename_i hkk
                      have := Nat.eq_of_beq_eq_true hkk
                      subst this
                      split at h
                      · rename_i pd ms2 k2 hrnd
                        split at h
                        · rename_i t3 ms3 k3 wl3 f3 hrun3
                          subst h
                          have hcal : CalOk P (callF P tt con (runF P tt con fu)) := callF_ok htt hcon (runF_sound hmx htt hcon fu)
                          obtain ⟨hle1, hwT1, hwM1, hseg1⟩ := regT_ops htt hcal hn (ops := ops) (ops.toList.take i) 0 hrun1 hgp (fun j o' hj => by
                            rw [List.getElem?_take] at hj
                            split at hj
                            · simpa using hj
                            · cases hj) hwT hwM
                          refine wpIn_region ?_
                          have hrange : List.range ops.size = List.range' 0 (ops.toList.take i).length ++ (i :: (List.range' (i + 1) (ops.toList.drop (i + 1)).length ++ [])) := by
                            rw [List.append_nil, List.range_eq_range']
                            have e1 : (ops.toList.take i).length = i := by simp; omega
                            have e2 : (ops.toList.drop (i + 1)).length = ops.size - (i + 1) := by simp
                            rw [e1, e2, ← List.range'_succ]
                            have : ops.size - (i + 1) + 1 = ops.size - i := by omega
                            rw [this]
                            have := List.range'_append (s := 0) (m := i) (n := ops.size - i) (step := 1)
                            simp only [Nat.one_mul, Nat.zero_add] at this
                            rw [this]
                            congr 1
                            omega
                          rw [hrange]
                          refine hseg1 ({ F with n := n, ds := [], rd := none }.re W g s.k) rfl (fun _ _ _ => .inl rfl) _ _ g W a hh.re ?_
                          intro g1 W1 a1 hh1
                          obtain ⟨hA, hK1, hG1⟩ := hh.un hh1
                          have hC := hh0.swap hA hle1 hG1
                          have hw01 := hw0.le hle1
                          have hv := hA.slots x v (kn_slot hxn hgx)
                          have hvi : ∀ id ∈ v.mids, id < k1 := fun id hid => hA.mids (.s x) (.v v) (kn_slot hxn hgx) id hid
                          have htokv : a1.tmps.getD j undef = .func (.yield l) #[] #[] := by
                            have h1 : RelV g1 (.c (.X kt')) (a1.tmps.getD j undef) := hA.slots j _ (kn_slot hjn hgj)
                            have h2 : a1.tmps.getD j undef = g1.γ kt' := h1
                            rw [h2, hG1.γ kt' hkt, htok]
                          show wpOpsIn (fen none) 0 P ops _ (i :: _) a1 W1
                          rw [wpOpsIn_cons]
                          unfold wpOpIn
                          rw [hoi']
                          have hwant : Region.wanted o (yielded ops a1.tmps) = true := by
                            unfold gdY at hgd
                            unfold Region.wanted
                            split at hgd
                            · rename_i hg; rw [hg]
                            · rename_i gj want hg
                              rw [hg]
                              split at hgd
                              · rename_i tg htg
                                split at hgd
                                · rename_i b hb1 hb2
                                  have := hA.slots tg _ (kn_slot (Nat.le_of_ble_eq_true hb1) hb2)
                                  simp only [yielded_of htg this]
                                  simpa using hgd
                                · cases hgd
                              · cases hgd
                          simp only [hwant, if_true]
                          refine ⟨fun _ _ => trivial, ?_⟩
                          have hex : (o.semAt (fen none).round a1.eval).run P W1 = .ok (.round l fnid (a0.tmps.setIfInBounds p (a1.tmps.getD x undef)) asg bd) W1 := by
                            show (execOp a1.eval o).run P W1 = _
                            have hy := run_yield (P := P) (args := #[a1.tmps.getD x undef]) (hK1.same _ _ hrec rfl) rfl
                            rw [execOp, hop]
                            have e1 : a1.eval (.tmp j) = .func (.yield l) #[] #[] := htokv
                            have e3 : a1.eval (.tmp x) = a1.tmps.getD x undef := rfl
                            have e2 : (#[Operand.tmp x] : Array Operand).map a1.eval = #[a1.tmps.getD x undef] := by simp [e3]
                            simp only [resolve, e1, e2, Deferred.ofValue, pure_bind, invoke]
                            simpa [recL] using hy
                          rw [hex]
                          simp only [Oper.uponIn_round]
                          refine ⟨fun hh => by simp [fen, Fence.wide] at hh, ?_⟩
                          refine round_ok (mk := mk) (D := D) hmx htt hcon fu hn0 hp hnda hndb hl hlm hrnd hw01 hwM1 hC hv hvi (hK1.same _ _ hrec rfl) (fun D hD => hK1.same _ _ (hmk D hD) rfl) ?_
                          intro g2 W2 hle2 hwM2 hC2 hG2 hrec2 hmk2
                          simp only
                          have hA2 := (hA.swap hC2 hle2 hG2).setS (dep := dep) (n := n) hn rfl hdn (v := .c (.B pd.isNone)) (u := .bool pd.isNone) rfl (fun id hid => by cases hid)
                          have hwT2 : wfT dep n (setT (pth dep d) (.c (.B pd.isNone)) t1) k2 := (hwT1.le hle2).set hn hdn (fun id hid => by cases hid)
                          obtain ⟨hle3, hwT3, hwM3, hseg3⟩ := regT_ops htt hcal hn (ops := ops) (ops.toList.drop (i + 1)) (i + 1) hrun3 hgq (fun j o' hj => by
                            rw [List.getElem?_drop] at hj
                            simpa using hj) hwT2 hwM2
                          rw [hdst]
                          refine hseg3 ({ F with n := n, ds := [], rd := none }.re W2 g2 k2) rfl (fun _ _ _ => .inl rfl) _ _ g2 W2 _ hA2.re ?_
                          intro g3 W3 a3 hh3
                          obtain ⟨hA3, hK3, hG3⟩ := hA2.un hh3
                          have hk3 : s.k ≤ k3 := by omega
                          refine ⟨rfl, g3, hwT3, hwM3, hw0.le hk3, hA3, hC2.swap hA3 hle3 hG3, Nat.lt_of_lt_of_le hkt hk3, ?_, hK3.same _ _ hrec2 rfl, fun D hD => hK3.same _ _ (hmk2 D hD) rfl⟩
                          rw [hG3.γ kt' (by omega), hG2.γ kt' (by omega), hG1.γ kt' hkt, htok]
                        · exact absurd h.symm hr
                      · exact absurd h.symm hr
                    · exact absurd h.symm hr
                  · exact absurd h.symm hr
                · exact absurd h.symm hr
              · exact absurd h.symm hr
            · exact absurd h.symm hr
          · exact absurd h.symm hr
        · exact absurd h.symm hr
      · exact absurd h.symm hr
  · exact absurd h.symm hr
end
end Go.El

/- Ranges over functions, part 5: the statement, and the function that holds it. Own work; no condition. -/
namespace Go.El
open Go Go.RowKit

def markD (D : Nat) : Deferred := { target := .collected D, args := #[] }
structure SR where
  t : Tr
  ms : Ms
  k : Nat
noncomputable def finR (s : SR) (s' : SY) : Res SR := match s'.pd with
  | none => .nor ⟨s.t, s'.ms, s'.k⟩
  | some (.exit id) => .exi id ⟨s.t, s'.ms, s'.k⟩
  | some .ret => .ret ⟨s.t, s'.ms, s'.k⟩
  | _ => .no
noncomputable def leafR3 (P : Program) (tt : TT) (con : FuncId → List AV → Ms → Option (List AV × AV)) (fu fy dep n p : Nat) (asg bd : Code) (ws : List AV) (fn : Func) (cb : Code) (s : SR) : Res SR :=
  match fn.name != "runtime.NumGoroutine" && Nat.ble (ws.length + 1) fn.ntmps && Nat.ble fn.ntmps 4096 && fn.results.isEmpty with
  | true => (match gen (leafY P tt con fu (depOf fn.ntmps) fn.ntmps s.k (rndF P tt con fu dep n s.t p asg bd)) (evY (depOf fn.ntmps) fn.ntmps) fy cb ⟨argT (depOf fn.ntmps) (.c (.X s.k) :: ws) 0 .e, s.ms, s.k + 1, none⟩ with
    | .nor s' => finR s s'
    | .ret s' => finR s s'
    | _ => .no)
  | false => .no
noncomputable def leafR2 (P : Program) (tt : TT) (con : FuncId → List AV → Ms → Option (List AV × AV)) (fu fy dep n p : Nat) (asg bd : Code) (id : Nat) (s : SR) : Res SR :=
  match lookS id s.ms with
  | some (.clo f [] caps) => (match unSs caps with
    | some ws => (match P.funcs[f]? with
      | some fn => (match fn.body with
        | some cb => leafR3 P tt con fu fy dep n p asg bd ws fn cb s
        | none => .no)
      | none => .no)
    | none => .no)
  | _ => .no
noncomputable def leafR (P : Program) (tt : TT) (con : FuncId → List AV → Ms → Option (List AV × AV)) (fu fy dep n : Nat) (c : Code) (s : SR) : Res SR := match c with
  | .region id ops draw => (match runF P tt con fu dep n 0 (.region id ops draw) s.t s.ms s.k [] with
    | .nor t' ms' k' _ => .nor ⟨t', ms', k'⟩
    | _ => .no)
  | .rangeFunc g ⟨[p]⟩ asg bd => (match Nat.blt p n && noDef asg && noDef bd with
    | true => (match compP dep n g with
      | some pg => (match evP s.t pg with
        | some (.c (.X id)) => leafR2 P tt con fu fy dep n p asg bd id s
        | _ => .no)
      | none => .no)
    | false => .no)
  | _ => .no
noncomputable def evR (dep n : Nat) (c : Operand) (s : SR) : Option Bool := match compP dep n c with
  | some p => (match evP s.t p with
    | some (.c (.B b)) => some b
    | _ => none)
  | none => none

def IR (F : Fix) (dep n : Nat) (s : SR) (a : Act) (W : World) : Prop :=
  ∃ (g : Gh) (mk : List Nat), wfT dep n s.t s.k ∧ wfM s.ms s.k ∧ Hold { F with n := n, ds := mk.map markD, rd := none } (· < s.k) (absS dep n s.t s.ms.flatten).kn g W a ∧
    (∀ D ∈ mk, W.heap[D]? = some (.deferred (some [])) ∧ F.w0.heap.size ≤ D) ∧ mk.Nodup

section
variable {P : Program} {tt : TT} {con : FuncId → List AV → Ms → Option (List AV × AV)} {F : Fix}

/-- A call's frame. -/
theorem Hold.args {nn dep n k dep' n' : Nat} {t : Tr} {m : Mem} {g : Gh} {W : World} {a : Act} {ds : List Deferred} {rd : Option Nat} (h : Hold { F with n := nn, ds := ds, rd := rd } (· < k) (absS dep n t m).kn g W a) {vs : List AV} {us : List Value} (hr : RelVs g vs us) (hid : ∀ id ∈ midsVs vs, id < k) (hle : vs.length ≤ n') (hn' : n' ≤ 4 ^ dep') :
    Hold { F with n := n', ds := [], rd := none } (· < k) (absS dep' n' (argT dep' vs 0 .e) m).kn g W { tmps := us.toArray ++ Array.replicate (n' - us.toArray.size) undef, defers := [] } := by
  have hul := relVs_length hr
  have hsl : ∀ j v, (absS dep' n' (argT dep' vs 0 .e) m).kn (.s j) = some (.v v) → lookA j (argSl 0 vs) = some v := by
    intro j v hj
    rw [abs_kn] at hj
    simp only at hj
    by_cases hjn : j < n'
    · rw [if_pos hjn, get_argT _ vs 0 .e j (by omega) (by omega), get_e] at hj
      cases hl : lookA j (argSl 0 vs) with
      | none => rw [hl] at hj; simp at hj
      | some x => rw [hl] at hj; simp only [Option.map_some, Option.some.injEq, Info.v.injEq] at hj; rw [hj]
    · rw [if_neg hjn] at hj; simp at hj
  refine ⟨by simp; omega, rfl, fun j v hj => ?_, h.blks, h.inj, fun key x hx id hid' => ?_, h.mkn, h.sub, h.below, h.le, h.fresh, h.kfix⟩
  · obtain ⟨_, u, hu, hrv, _⟩ := argSl_look vs us 0 hr j v (hsl j v hj)
    have hu' : us[j]? = some u := by simpa using hu
    have hlt : j < us.length := (List.getElem?_eq_some_iff.1 hu').1
    rw [Array.getD_eq_getD_getElem?, Array.getElem?_append_left (by simpa using hlt)]
    simpa [hu'] using hrv
  · cases key with
    | m j => exact h.mids (.m j) x hx id hid'
    | s j =>
      cases x with
      | b _ => simp [absS, St.kn] at hx
      | v y => exact hid id ((argSl_lt vs 0 j y (hsl j y hx)).2 id hid')

theorem evR_ok {dep n : Nat} : ∀ c s b, evR dep n c s = some b → ∀ a W, IR F dep n s a W → a.eval c = .bool b := by
  intro c s b h a W hI
  obtain ⟨g, mk, _, _, hh, _⟩ := hI
  unfold evR at h
  split at h
  · rename_i q hq
    split at h
    · rename_i b' hb
      cases h
      have hev := compP_ev (m := s.ms.flatten) hq hb
      exact ev_rel hh _ c _ hev (opd_kn _ c)
    · cases h
  · cases h

theorem leafR_ok (hmx : P.follows .mixedOrders = true) (htt : ttB P tt = true) (hcon : ∀ f vs ms vs' r, con f vs ms = some (vs', r) → FnS P f vs' r) (fu fy : Nat) {dep n : Nat} (hn : n ≤ 4 ^ dep) :
    ∀ c s r, leafR P tt con fu fy dep n c s = r → r ≠ .no → ∀ a W, IR F dep n s a W → c.wpIn (fen none) 0 P (r.post (IR F dep n)) a W := by
  intro c s r h hr a W hI
  unfold leafR at h
  split at h
  · rename_i id ops draw
    obtain ⟨g, mk, hwT, hwM, hh, hmk, hnd⟩ := hI
    split at h
    · rename_i t' ms' k' wl' h1
      subst h
      have g1 := runF_sound hmx htt hcon fu dep n 0 _ s.t s.ms s.k [] .nor t' ms' k' wl' hn (Nat.zero_le _) hwT hwM h1
      refine wpIn_mono (F := fen none) (g1.2.keep (F := { F with n := n, ds := mk.map markD, rd := none }) rfl (.inl rfl) hh) ?_
      rintro e1 a1 W1 ⟨rfl, ga, ha, hka, hga⟩
      exact ⟨rfl, ga, mk, g1.1.wfT, g1.1.wfM, ha, fun D hD => ⟨hka.same _ _ (hmk D hD).1 rfl, (hmk D hD).2⟩, hnd⟩
    · exact absurd h.symm hr
  · rename_i gop p asg bd
    obtain ⟨g, mk, hwT, hwM, hh, hmk, hnd⟩ := hI
    split at h
    · rename_i hchk
      simp only [Bool.and_eq_true, Nat.blt_eq] at hchk
      obtain ⟨⟨hp, hnda⟩, hndb⟩ := hchk
      split at h
      · rename_i pg hpg
        split at h
        · rename_i id hid
          unfold leafR2 at h
          split at h
          · rename_i f caps hlk
            split at h
            · rename_i ws hws
              split at h
              · rename_i fn hfn
                split at h
                · rename_i cb hcb
                  unfold leafR3 at h
                  split at h
                  · rename_i hchk2
                    simp only [Bool.and_eq_true] at hchk2
                    obtain ⟨⟨⟨hname, hlen⟩, hsz⟩, hres⟩ := hchk2
                    have hlen : ws.length + 1 ≤ fn.ntmps := Nat.le_of_ble_eq_true hlen
                    have hn' : fn.ntmps ≤ 4 ^ depOf fn.ntmps := depOf_ok (Nat.le_of_ble_eq_true hsz)
                    have hcallB : callB P f = true := by simp [callB, hfn, hcb, hname]
                    -- the closure
                    have hev : a.eval gop = g.γ id := ev_rel hh _ gop _ (compP_ev (m := s.ms.flatten) hpg hid) (opd_kn _ gop)
                    have hmem : (absS dep n s.t s.ms.flatten).kn (.m id) = some (.b (.clo f [] caps)) := by
                      show (lookA id s.ms.flatten).map Info.b = _
                      rw [look_flat, hlk]; rfl
                    obtain ⟨us0, wv, hγ, hus0, hwv⟩ := hh.blks id _ hmem
                    have hus0 : us0 = [] := hus0
                    subst hus0
                    have hwr := unSs_rel hws hwv
                    have hwid : ∀ j ∈ midsVs ws, j < s.k := fun j hj => hh.mids (.m id) _ hmem j (List.mem_append_right _ (unSs_mids hws j hj))
                    refine wpIn_rangeFunc (F := fen none) (fun fnid _ => ?_)
                    obtain ⟨W1, hW1⟩ : ∃ W1, (W.alloc (.deferred (some []))).alloc (.loop { state := .ready, pending := none, fn := fnid, tmps := a.tmps, params := #[p], assign := asg, body := bd, defers := W.heap.size }) = W1 := ⟨_, rfl⟩
                    refine ⟨W.heap.size + 1, [markD W.heap.size], W1, { target := .fn (.func f) wv.toArray, args := #[.func (.yield (W.heap.size + 1)) #[] #[]] }, W1, f, #[.func (.yield (W.heap.size + 1)) #[] #[]] ++ wv.toArray, W1, ?_, ?_, fun _ _ => trivial, enter_run hcallB, fun hh => by simp [fen, Fence.wide] at hh, ?_⟩
                    · rw [← hW1]; exact run_enterLoop_outer fnid a.tmps #[p] asg bd
                    · simp only [resolve, hev, hγ, Deferred.ofValue]
                      simp [Act.eval]
                    · have hx1 : WX F.w0.heap.size W W1 := by rw [← hW1]; exact (WX.alloc _ _ _).trans (WX.alloc _ _ _)
                      have hB : F.w0.heap.size ≤ W.heap.size := hh.below.size
                      have hD1 : W1.heap[W.heap.size]? = some (.deferred (some [])) := by
                        rw [← hW1]; exact (Below.heap_alloc _ _ _ (by simp)).trans (World.alloc_heap_new W _)
                      have hL1 : W1.heap[W.heap.size + 1]? = some (.loop (recL fnid a.tmps p asg bd W.heap.size none)) := by
                        rw [← hW1]; have := World.alloc_heap_new (w := W.alloc (.deferred (some []))) (.loop { state := .ready, pending := none, fn := fnid, tmps := a.tmps, params := #[p], assign := asg, body := bd, defers := W.heap.size }); rwa [World.size_alloc] at this
                      have hmk1 : ∀ D ∈ W.heap.size :: mk, W1.heap[D]? = some (.deferred (some [])) := by
                        intro D hD
                        rcases List.mem_cons.1 hD with rfl | hD
                        · exact hD1
                        · have h1 := (hmk D hD).1
                          rw [← hW1]
                          exact (Below.heap_alloc _ _ _ (by have := (Array.getElem?_eq_some_iff.1 h1).1; simp; omega)).trans ((Below.heap_alloc _ _ _ (Array.getElem?_eq_some_iff.1 h1).1).trans h1)
                      have hlm : W.heap.size + 1 ∉ W.heap.size :: mk := by
                        intro hc
                        have := hmk1 _ hc
                        rw [hL1] at this
                        cases this
                      have hC1 := (hh.newId (.func (.yield (W.heap.size + 1)) #[] #[])).wx hx1
                      have htok : (g.new s.k (.func (.yield (W.heap.size + 1)) #[] #[])).γ s.k = .func (.yield (W.heap.size + 1)) #[] #[] := by simp [Gh.new]
                      have hgl : GLe (· < s.k) g (g.new s.k (.func (.yield (W.heap.size + 1)) #[] #[])) := ⟨FLe.refl _, fun j hj => by have : j ≠ s.k := Nat.ne_of_lt hj; simp [Gh.new, this]⟩
                      have hrv : RelVs (g.new s.k (.func (.yield (W.heap.size + 1)) #[] #[])) (.c (.X s.k) :: ws) (.func (.yield (W.heap.size + 1)) #[] #[] :: wv) := by
                        refine ⟨_, _, rfl, htok.symm, ?_⟩
                        have key : ∀ {xs : List AV} {vv : List Value}, RelVs g xs vv → (∀ j ∈ midsVs xs, j < s.k) → RelVs (g.new s.k (.func (.yield (W.heap.size + 1)) #[] #[])) xs vv := by
                          intro xs
                          induction xs with
                          | nil => intro vv h _; exact h
                          | cons x xs ih =>
                            rintro vv ⟨u, r, rfl, h1, h2⟩ hb
                            exact ⟨u, r, rfl, RelV.mono hgl (fun j hj => hb j (List.mem_append_left _ hj)) h1, ih h2 (fun j hj => hb j (List.mem_append_right _ hj))⟩
                        exact key hwr hwid
                      have hvid : ∀ j ∈ midsVs (.c (.X s.k) :: ws), j < s.k + 1 := by
                        intro j hj
                        simp only [midsVs, List.mem_append] at hj
                        rcases hj with hj | hj
                        · have : j = s.k := by simpa [AV.mids, C.mids] using hj
                          omega
                        · exact Nat.lt_succ_of_lt (hwid j hj)
                      have hA1 := hC1.args hrv hvid (by simpa using hlen) hn'
                      have hwTi : wfT (depOf fn.ntmps) fn.ntmps (argT (depOf fn.ntmps) (.c (.X s.k) :: ws) 0 .e) (s.k + 1) := by
                        intro j v hj hv i hi
                        rw [get_argT _ _ 0 .e j (by simp; omega) (by omega), get_e] at hv
                        split at hv
                        · rename_i u hu
                          cases hv
                          exact hvid i ((argSl_lt _ 0 j v hu).2 i hi)
                        · cases hv
                      have hI0 : IY F (depOf fn.ntmps) fn.ntmps dep n s.t a (mk.map markD) s.k (W.heap.size + 1) (recL fnid a.tmps p asg bd W.heap.size) (W.heap.size :: mk) ⟨argT (depOf fn.ntmps) (.c (.X s.k) :: ws) 0 .e, s.ms, s.k + 1, none⟩ { tmps := (.func (.yield (W.heap.size + 1)) #[] #[] :: wv).toArray ++ Array.replicate (fn.ntmps - (.func (.yield (W.heap.size + 1)) #[] #[] :: wv).toArray.size) undef, defers := [] } W1 :=
                        ⟨_, hwTi, hwM.le (Nat.le_succ _), hwT.le (Nat.le_succ _), hA1, hC1, Nat.lt_succ_self _, htok, hL1, hmk1⟩
                      have hargs : (#[.func (.yield (W.heap.size + 1)) #[] #[]] ++ wv.toArray : Array Value) = (.func (.yield (W.heap.size + 1)) #[] #[] :: wv).toArray := by simp
                      rw [hargs]
                      refine callsIn_of_wp (F := fen none) hfn hcb trivial ?_
                      have hgen := genR_sound (P := P) (Fe := fen none) (leafY_ok (F := F) (t0 := s.t) (mk := W.heap.size :: mk) (ds0 := mk.map markD) (a0 := a) (kt := s.k) (l := W.heap.size + 1) (fnid := fnid) (D := W.heap.size) hmx htt hcon fu hn' hn hp hnda hndb (by omega : F.w0.heap.size ≤ W.heap.size + 1) hlm) evY_ok fy cb
                      have hfin : ∀ (s' : SY) (a' : Act) (W' : World), finR s s' = r → IY F (depOf fn.ntmps) fn.ntmps dep n s.t a (mk.map markD) s.k (W.heap.size + 1) (recL fnid a.tmps p asg bd W.heap.size) (W.heap.size :: mk) s' a' W' →
                          a'.defers = [] ∧ ∃ v, (results fn a'.tmps).run P W' = .ok v W' ∧ rangePost (fen none) 0 P (W.heap.size + 1) (r.post (IR F dep n)) { a with defers := [markD W.heap.size] ++ a.defers } (.returned v) W' := by
                        intro s' a' W' hf hI'
                        obtain ⟨g', hwT', hwM', hw0', hA', hC', hkt', htok', hrec', hmk'⟩ := hI'
                        refine ⟨hA'.defers, .tuple #[], ?_, ?_⟩
                        · have hre : fn.results = #[] := by simpa using hres
                          simp [results, hre]
                        · have hlt : W.heap.size + 1 < W'.heap.size := (Array.getElem?_eq_some_iff.1 hrec').1
                          refine ⟨s'.pd, _, run_endLoop (P := P) hrec' (by cases s'.pd <;> simp [recL]), ?_⟩
                          have hw4 : WX F.w0.heap.size W' (W'.putObj (W.heap.size + 1) (.loop { recL fnid a.tmps p asg bd W.heap.size s'.pd with state := .exhausted })) := WX.putObj _ hrec' rfl (by omega)
                          have hIR : IR F dep n ⟨s.t, s'.ms, s'.k⟩ { a with defers := [markD W.heap.size] ++ a.defers } (W'.putObj (W.heap.size + 1) (.loop { recL fnid a.tmps p asg bd W.heap.size s'.pd with state := .exhausted })) := by
                            refine ⟨g', W.heap.size :: mk, hw0', hwM', ?_, fun D hD => ⟨?_, ?_⟩, ?_⟩
                            · have h5 := ((hC'.wx hw4).defer (markD W.heap.size :: mk.map markD) none)
                              have h6 : a.defers = mk.map markD := hh.defers
                              rw [h6]
                              exact h5
                            · have hne : D ≠ W.heap.size + 1 := fun e => hlm (e ▸ hD)
                              rw [World.putObj_heap_other hne]
                              exact hmk' D hD
                            · rcases List.mem_cons.1 hD with rfl | hD
                              · exact hB
                              · exact (hmk D hD).2
                            · refine List.nodup_cons.2 ⟨fun hc => ?_, hnd⟩
                              have := (Array.getElem?_eq_some_iff.1 (hmk _ hc).1).1
                              omega
                          unfold finR at hf
                          split at hf
                          · rename_i hpd; rw [hpd] at hIR ⊢; subst hf; exact ⟨rfl, hIR⟩
                          · rename_i id' hpd; rw [hpd] at hIR ⊢; subst hf; exact wpIn_exit ⟨rfl, hIR⟩
                          · rename_i hpd; rw [hpd] at hIR ⊢; subst hf; exact wpIn_ret ⟨rfl, hIR⟩
                          · exact absurd hf.symm hr
                      split at h
                      · rename_i s' hg
                        refine wpIn_mono (F := fen none) (hgen _ _ hg (by simp) _ _ hI0) ?_
                        rintro e a' W' ⟨rfl, hI'⟩
                        exact hfin s' a' W' h hI'
                      · rename_i s' hg
                        refine wpIn_mono (F := fen none) (hgen _ _ hg (by simp) _ _ hI0) ?_
                        rintro e a' W' ⟨rfl, hI'⟩
                        exact hfin s' a' W' h hI'
                      · exact absurd h.symm hr
                  · exact absurd h.symm hr
                · exact absurd h.symm hr
              · exact absurd h.symm hr
            · exact absurd h.symm hr
          · exact absurd h.symm hr
        · exact absurd h.symm hr
      · exact absurd h.symm hr
    · exact absurd h.symm hr
  · exact absurd h.symm hr
end
end Go.El

/- Ranges over functions, part 6: a contract out of a run. Own work; no condition. -/
namespace Go.El
open Go Go.RowKit

noncomputable def endR (tt : TT) (fn : Func) (dep : Nat) (r' : AV) : Res SR → Bool
  | .nor s => (match resAllF tt dep fn.ntmps s.t s.ms fn.results.toList with
    | some r => matA (fun id => lookA id s.ms.flatten) r r'
    | none => false)
  | .ret s => (match resAllF tt dep fn.ntmps s.t s.ms fn.results.toList with
    | some r => matA (fun id => lookA id s.ms.flatten) r r'
    | none => false)
  | _ => false
noncomputable def runRF (P : Program) (tt : TT) (con : FuncId → List AV → Ms → Option (List AV × AV)) (fu fy fr : Nat) (f : FuncId) (vs : List AV) (r' : AV) : Bool := match P.funcs[f]? with
  | some fn => (match fn.body with
    | some c => (match fn.name != "runtime.NumGoroutine" && Nat.ble vs.length fn.ntmps && Nat.ble fn.ntmps 4096 with
      | true => endR tt fn (depOf fn.ntmps) r' (gen (leafR P tt con fu fy (depOf fn.ntmps) fn.ntmps) (evR (depOf fn.ntmps) fn.ntmps) fr c ⟨argT (depOf fn.ntmps) vs 0 .e, [[]], 0⟩)
      | false => false)
    | none => false)
  | none => false

section
variable {P : Program} {tt : TT} {con : FuncId → List AV → Ms → Option (List AV × AV)}

/-- The end of a call, with marks among its deferred calls. -/
theorem leaves_marks {fn : Func} {tmps : Array Value} {R : Ending → World → Prop} {B : Nat} : ∀ (mk : List Nat) (W : World), (∀ D ∈ mk, W.heap[D]? = some (.deferred (some [])) ∧ B ≤ D) → mk.Nodup →
    (∀ W', WX B W W' → ∃ v, (results fn tmps).run P W' = .ok v W' ∧ R (.returned v) W') → LeavesInM (fen none) 0 P fn tmps R (mk.map markD) .returning W
  | [], W, _, _, h => h W (WX.refl _ _)
  | D :: mk, W, hm, hnd, h => by
    have h0 := hm D (by simp)
    have hx := WX.putObj (B := B) (.deferred none) h0.1 rfl h0.2
    refine ⟨by simp, .inl ⟨D, _, rfl, run_takeDeferred h0.1, ?_⟩⟩
    refine leaves_marks mk _ (fun D' hD' => ⟨?_, (hm D' (by simp [hD'])).2⟩) (List.nodup_cons.1 hnd).2 (fun W' hx' => h W' (hx.trans hx'))
    have hne : D' ≠ D := fun e => (List.nodup_cons.1 hnd).1 (e ▸ hD')
    rw [World.putObj_heap_other hne]
    exact (hm D' (by simp [hD'])).1

theorem rf_cx (hmx : P.follows .mixedOrders = true) (htt : ttB P tt = true) (hcon : ∀ f vs ms vs' r, con f vs ms = some (vs', r) → FnS P f vs' r) (fu fy fr : Nat) {f : FuncId} {fn : Func} {c : Code} (hf : P.funcs[f]? = some fn) (hb : fn.body = some c) (hname : (fn.name != "runtime.NumGoroutine") = true) {vs : List AV} (hle : vs.length ≤ fn.ntmps) (hsz : fn.ntmps ≤ 4096)
    {s : SR} {rr : Res SR} (hrun : gen (leafR P tt con fu fy (depOf fn.ntmps) fn.ntmps) (evR (depOf fn.ntmps) fn.ntmps) fr c ⟨argT (depOf fn.ntmps) vs 0 .e, [[]], 0⟩ = rr) (hrr : rr = .nor s ∨ rr = .ret s) {r : AV} (hr : resAllF tt (depOf fn.ntmps) fn.ntmps s.t s.ms fn.results.toList = some r) (hm : midsVs vs = []) : CX P f vs [] 0 r s.ms.flatten s.k := by
  refine ⟨by simp [callB, hf, hb, hname], Nat.zero_le _, ?_⟩
  intro F g W us hn hul hh
  have hn4 : fn.ntmps ≤ 4 ^ depOf fn.ntmps := depOf_ok hsz
  refine callsIn_wide.1 (callsIn_of_wp_marks (n := 0) (F := fen none) hf hb trivial ?_)
  have hds : F.ds = [] := hh.defers.symm
  -- the frame
  have hsz' : (us.toArray ++ Array.replicate (fn.ntmps - us.toArray.size) undef).size = fn.ntmps := by simp; omega
  have hsl : ∀ j v, (absS (depOf fn.ntmps) fn.ntmps (argT (depOf fn.ntmps) vs 0 .e) []).kn (.s j) = some (.v v) → lookA j (argSl 0 vs) = some v := by
    intro j v hj
    rw [abs_kn] at hj
    simp only at hj
    by_cases hjn : j < fn.ntmps
    · rw [if_pos hjn, get_argT _ vs 0 .e j (by omega) (by omega), get_e] at hj
      cases hl : lookA j (argSl 0 vs) with
      | none => rw [hl] at hj; simp at hj
      | some x => rw [hl] at hj; simp only [Option.map_some, Option.some.injEq, Info.v.injEq] at hj; rw [hj]
    · rw [if_neg hjn] at hj; simp at hj
  have h0 : Hold { F with n := fn.ntmps, ds := [].map markD, rd := none } (· < 0) (absS (depOf fn.ntmps) fn.ntmps (argT (depOf fn.ntmps) vs 0 .e) ([[]] : Ms).flatten).kn g W { tmps := us.toArray ++ Array.replicate (fn.ntmps - us.toArray.size) undef, defers := [] } := by
    refine ⟨hsz', rfl, fun j v hj => ?_, fun id b hb => ?_, fun id id' b b' kk h1 => ?_, fun key x hx id hid => ?_, fun id x hx => ?_, hh.sub, hh.below, hh.le, hh.fresh, hh.kfix⟩
    · have hl := hsl j v hj
      have h1 := hh.slots j v (by simp [St.kn, hl])
      have hlt := (argSl_lt vs 0 j v hl).1
      have : (us.toArray ++ Array.replicate (fn.ntmps - us.toArray.size) undef).getD j undef = us.toArray.getD j undef := by
        rw [Array.getD_eq_getD_getElem?, Array.getD_eq_getD_getElem?, Array.getElem?_append_left (by simp; omega)]
      rw [this]
      exact h1
    · simp [absS, St.kn, lookA] at hb
    · simp [absS, St.kn, lookA] at h1
    · cases key with
      | m j => simp [absS, St.kn, lookA] at hx
      | s j =>
        cases x with
        | b _ => simp [absS, St.kn] at hx
        | v y =>
          have := (argSl_lt vs 0 j y (hsl j y hx)).2 id hid
          rw [hm] at this
          cases this
    · simp [absS, St.kn, lookA] at hx
  have hwT0 : wfT (depOf fn.ntmps) fn.ntmps (argT (depOf fn.ntmps) vs 0 .e) 0 := by
    intro j v hj hv id hid
    rw [get_argT _ vs 0 .e j (by omega) (by omega), get_e] at hv
    split at hv
    · rename_i u hu
      cases hv
      have := (argSl_lt vs 0 j v hu).2 id hid
      rw [hm] at this
      cases this
    · cases hv
  have hI0 : IR F (depOf fn.ntmps) fn.ntmps ⟨argT (depOf fn.ntmps) vs 0 .e, [[]], 0⟩ { tmps := us.toArray ++ Array.replicate (fn.ntmps - us.toArray.size) undef, defers := [] } W :=
    ⟨g, [], hwT0, fun id b hb => (by simp [lookS, lookF] at hb), h0, fun D hD => (by cases hD), List.nodup_nil⟩
  have hfin : ∀ (a' : Act) (W' : World), IR F (depOf fn.ntmps) fn.ntmps s a' W' → LeavesInM (fen none) 0 P fn a'.tmps (fun e W' => ∃ v g', e = .returned v ∧ Hold { F with n := 1 } (· < s.k) (St.kn ⟨[(0, r)], s.ms.flatten, 0, []⟩) g' W' (actN [v])) a'.defers .returning W' := by
    intro a' W' hI
    obtain ⟨g', mk, hwT, hwM, h', hmk, hnd⟩ := hI
    have hd : a'.defers = mk.map markD := h'.defers
    rw [hd]
    refine leaves_marks (B := F.w0.heap.size) mk W' hmk hnd ?_
    intro W2 hx
    have h2 := h'.wx hx
    have hra := resAllF_eq hr
    obtain ⟨u, hu, hrel⟩ := run_results (P := P) (tt := tt) (st := absS (depOf fn.ntmps) fn.ntmps s.t s.ms.flatten) htt h2 (fn := fn) (rs := fn.results.toList) (by simp) hra
    have hmr := resAll_mids (tt := tt) h2 hra
    refine ⟨u, hu, u, g', rfl, ⟨rfl, hds.symm, ?_, ?_, ?_, ?_, ?_, h2.sub, h2.below, h2.le, h2.fresh, h2.kfix⟩⟩
    · intro t x hx
      simp only [St.kn, lookA, Option.map_eq_some_iff] at hx
      obtain ⟨y, hy, he⟩ := hx
      cases he
      split at hy
      · rename_i e
        subst e
        cases hy
        simpa [actN] using hrel
      · cases hy
    · intro id b hb; exact h2.blks id b hb
    · intro id id' b b' kk hb hb' h1 h3; exact h2.inj id id' b b' kk hb hb' h1 h3
    · intro key x hx id hid
      cases key with
      | s t =>
        simp only [St.kn, lookA, Option.map_eq_some_iff] at hx
        obtain ⟨y, hy, he⟩ := hx
        subst he
        split at hy
        · cases hy; exact hmr id hid
        · cases hy
      | m j => exact h2.mids (.m j) x hx id hid
    · intro id x hx; exact h2.mkn id x hx
  have hgen := genR_sound (P := P) (Fe := fen none) (leafR_ok (F := F) hmx htt hcon fu fy hn4) evR_ok fr c _ rr hrun (by rcases hrr with e | e <;> rw [e] <;> simp) _ W hI0
  refine wpIn_mono (F := fen none) hgen ?_
  intro e a' W' hp
  rcases hrr with e1 | e1
  · rw [e1] at hp
    obtain ⟨rfl, hI⟩ := hp
    exact hfin a' W' hI
  · rw [e1] at hp
    obtain ⟨rfl, hI⟩ := hp
    exact hfin a' W' hI

/-- Whatever the run of a function that holds ranges over functions finds is a contract. -/
theorem fs_rf (hmx : P.follows .mixedOrders = true) (htt : ttB P tt = true) (hcon : ∀ f vs ms vs' r, con f vs ms = some (vs', r) → FnS P f vs' r) (fu fy fr : Nat) {f : FuncId} {vs : List AV} {r' : AV}
    (h : runRF P tt con fu fy fr f vs r' = true) (hm : midsVs vs = []) (hr : r'.mids = []) : FnS P f vs r' := by
  unfold runRF at h
  split at h
  · rename_i fn hf
    split at h
    · rename_i c hb
      split at h
      · rename_i hchk
        simp only [Bool.and_eq_true] at hchk
        obtain ⟨⟨hname, hlen⟩, hsz⟩ := hchk
        unfold endR at h
        split at h
        · rename_i s hrun
          split at h
          · rename_i r hrr
            exact cx_fz (rf_cx hmx htt hcon fu fy fr hf hb hname (Nat.le_of_ble_eq_true hlen) (Nat.le_of_ble_eq_true hsz) hrun (.inl rfl) hrr hm) hm hr h
          · cases h
        · rename_i s hrun
          split at h
          · rename_i r hrr
            exact cx_fz (rf_cx hmx htt hcon fu fy fr hf hb hname (Nat.le_of_ble_eq_true hlen) (Nat.le_of_ble_eq_true hsz) hrun (.inr rfl) hrr hm) hm hr h
          · cases h
        · cases h
      · cases h
    · cases h
  · cases h
end
end Go.El

/- Closed calls as a table. Own work; no condition. -/
namespace Go.El
open Go Go.Proofs

abbrev Cl := FuncId × List AV × AV
/-- The table of closed calls, and then of modular arithmetic. -/
noncomputable def conL (l : List Cl) (f : FuncId) (vs : List AV) (ms : Ms) : Option (List AV × AV) := List.rec (motive := fun _ => Option (List AV × AV)) (conP f vs ms)
  (fun e _ ih => match Nat.beq f e.1 with
    | true => (match matVs (fun id => lookS id ms) vs e.2.1 with
      | true => some (e.2.1, e.2.2)
      | false => ih)
    | false => ih) l
def AllS : List Cl → Prop
  | [] => True
  | e :: r => FnS Tryz.prog e.1 e.2.1 e.2.2 ∧ AllS r
theorem conL_ok : ∀ {l : List Cl}, AllS l → ∀ f vs ms vs' r, conL l f vs ms = some (vs', r) → FnS Tryz.prog f vs' r
  | [], _, f, vs, ms, vs', r, h => conP_ok f vs ms vs' r h
  | e :: l, hl, f, vs, ms, vs', r, h => by
    have h' : (match Nat.beq f e.1 with
      | true => (match matVs (fun id => lookS id ms) vs e.2.1 with
        | true => some (e.2.1, e.2.2)
        | false => conL l f vs ms)
      | false => conL l f vs ms) = some (vs', r) := h
    split at h'
    · rename_i hf
      have hf := Nat.eq_of_beq_eq_true hf
      split at h'
      · simp only [Option.some.injEq, Prod.mk.injEq] at h'
        obtain ⟨rfl, rfl⟩ := h'
        rw [hf]
        exact hl.1
      · exact conL_ok hl.2 f vs ms vs' r h'
    · exact conL_ok hl.2 f vs ms vs' r h'

/-- A closed call of a function that holds no range over a function. -/
theorem cl_fz {l : List Cl} (hl : AllS l) {f : FuncId} {vs : List AV} {r' : AV} (h : endIs r' (callF Tryz.prog TTab (conL l) (runF Tryz.prog TTab (conL l) 100000) f vs [] 0) = true) (hm : midsVs vs = []) (hr : r'.mids = []) : FnS Tryz.prog f vs r' :=
  fs_fz MX TT_ok (conL_ok hl) 100000 h hm hr
theorem cl_rf {l : List Cl} (hl : AllS l) {f : FuncId} {vs : List AV} {r' : AV} (h : runRF Tryz.prog TTab (conL l) 100000 200 200 f vs r' = true) (hm : midsVs vs = []) (hr : r'.mids = []) : FnS Tryz.prog f vs r' :=
  fs_rf MX TT_ok (conL_ok hl) 100000 200 200 h hm hr

def qI (n : Int) : Rat := Rat.ofInt n
abbrev uP (l : List Rat) : AV := .c (.S .q l)
abbrev zP (l : List Int) : AV := .c (.S .z l)
abbrev zzP (l : List (List Int)) : AV := .c (.S (.sl .z) l)
abbrev pL (l : List (List Int × Int)) : AV := .c (.S (.pr (.sl U64) U64) l)
abbrev PQ : Int := 1073741827
end Go.El
