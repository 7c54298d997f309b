/- Contracts: integers of known size; integer polynomials of the reference. Own work; no condition. -/
import Derived.Test.YtkkccchkmcjcpaaGreatL8
import Derived.Test.YtkkccchkmcjcpaaGreatL7
import Derived.Test.YtkkccchkmcjcpaaGreatL4
import Derived.Test.YtkkccchkmcjcpaaGreatL3
set_option linter.unusedVariables false
set_option linter.unusedSimpArgs false
namespace Go.El
open Go Go.Proofs
def SmB (n : Nat) (z : Int) : Prop := z.natAbs < 4294967296 ^ n
theorem SmB.sm {n : Nat} {z : Int} (h : SmB n z) (hn : n ≤ 1099511627776) : Sm z := by
 refine Nat.le_trans (words_len_le (k := n) ?_) hn
 have : ((z.natAbs : Nat) : Int) < ((4294967296 ^ n : Nat) : Int) := by
  have h : z.natAbs < 4294967296 ^ n := h
  omega
 rwa [Int.natCast_pow] at this
theorem SmB.le {m n : Nat} {z : Int} (h : SmB m z) (k : m ≤ n) : SmB n z := Nat.lt_of_lt_of_le h (Nat.pow_le_pow_right (by decide) k)
theorem SmB.mul {m n : Nat} {a b : Int} (h : SmB m a) (k : SmB n b) : SmB (m + n) (a * b) := by
 unfold SmB at *
 rw [Int.natAbs_mul, Nat.pow_add]
 exact Nat.mul_lt_mul'' h k
theorem SmB.add {n : Nat} {a b : Int} (h : SmB n a) (k : SmB n b) : SmB (n + 1) (a + b) := by
 unfold SmB at *
 have := Int.natAbs_add_le a b
 rw [Nat.pow_succ]; omega
theorem SmB.neg {n : Nat} {a : Int} (h : SmB n a) : SmB n (-a) := by unfold SmB at *; rwa [Int.natAbs_neg]
theorem SmB.sub {n : Nat} {a b : Int} (h : SmB n a) (k : SmB n b) : SmB (n + 1) (a - b) := by rw [Int.sub_eq_add_neg]; exact h.add k.neg
theorem SmB.zero (n : Nat) : SmB n 0 := by unfold SmB; exact Nat.pow_pos (by decide)
theorem SmB.emod {n : Nat} {a m : Int} (hm : 0 < m) (h : SmB n m) : SmB n (a % m) := by
 have h1 := Int.emod_nonneg a (show m ≠ 0 by omega)
 have h2 := Int.emod_lt_of_pos a hm
 unfold SmB at *; omega
theorem SmB.ediv {n : Nat} {a m : Int} (h0 : 0 ≤ a) (hm : 0 < m) (h : SmB n a) : SmB n (a / m) := by
 have h1 := Int.ediv_nonneg h0 (show 0 ≤ m by omega)
 have h2 := Int.ediv_le_self m h0
 unfold SmB at *; omega
theorem SmB.lt {n : Nat} {a m : Int} (h0 : 0 ≤ a) (hm : a < m) (h : SmB n m) : SmB n a := by unfold SmB at *; omega
theorem SmB.one {a : Int} (h : a.natAbs < 4294967296) : SmB 1 a := by unfold SmB; rwa [Nat.pow_one]
theorem SmB.pow {n : Nat} {a : Int} (h : SmB n a) : ∀ k, SmB (n * k + 1) (a ^ k)
 | 0 => by unfold SmB; simp
 | k + 1 => by
  rw [Int.pow_succ]
  exact ((SmB.pow h k).mul h).le (by rw [Nat.mul_succ]; omega)
theorem convS_B (a b : List Int) (u v : Nat) (ha : ∀ i, SmB u (a.getD i 0)) (hb : ∀ i, SmB v (b.getD i 0)) (n : Nat) : ∀ k, k ≤ 4294967296 → SmB (u + v + 1) (convS (fun i => a.getD i 0) (fun i => b.getD i 0) n k) := by
 have key : ∀ k, (convS (fun i => a.getD i 0) (fun i => b.getD i 0) n k).natAbs ≤ k * 4294967296 ^ (u + v) := by
  intro k
  induction k with
  | zero => simp [convS]
  | succ k ih =>
   have h := (ha k).mul (hb (n - k))
   unfold SmB at h
   have h2 := Int.natAbs_add_le (convS (fun i => a.getD i 0) (fun i => b.getD i 0) n k) (a.getD k 0 * b.getD (n - k) 0)
   rw [Nat.add_mul, Nat.one_mul]
   simp only [convS]
   omega
 intro k hk
 by_cases h0 : k = 4294967296
 ·subst h0
  unfold SmB
  have hp : 0 < 4294967296 ^ (u + v) := Nat.pow_pos (by decide)
  have : ∀ k, (convS (fun i => a.getD i 0) (fun i => b.getD i 0) n k).natAbs < 4294967296 ^ (u + v) ∨ (convS (fun i => a.getD i 0) (fun i => b.getD i 0) n k).natAbs < k * 4294967296 ^ (u + v) := by
   intro k
   induction k with
   | zero => left; simp [convS]; exact hp
   | succ k ih =>
    right
    have h := (ha k).mul (hb (n - k))
    unfold SmB at h
    have h2 := Int.natAbs_add_le (convS (fun i => a.getD i 0) (fun i => b.getD i 0) n k) (a.getD k 0 * b.getD (n - k) 0)
    have h3 := key k
    rw [Nat.add_mul, Nat.one_mul]
    simp only [convS]
    omega
  rcases this 4294967296 with h | h
  ·exact Nat.lt_of_lt_of_le h (Nat.pow_le_pow_right (by decide) (by omega))
  ·rwa [Nat.pow_succ, Nat.mul_comm]
 ·have h := key k
  unfold SmB
  have hp : 0 < 4294967296 ^ (u + v) := Nat.pow_pos (by decide)
  have h2 : k * 4294967296 ^ (u + v) < 4294967296 * 4294967296 ^ (u + v) := Nat.mul_lt_mul_of_pos_right (by omega) hp
  rw [Nat.pow_succ, Nat.mul_comm (4294967296 ^ (u + v))]
  omega
set_option maxHeartbeats 2000000 in
theorem rImulB_s (a b : List Int) (u v : Nat) (la : a.length ≤ 1000) (lb : b.length ≤ 1000) (huv : u + v ≤ 100000) (ha : ∀ i, SmB u (a.getD i 0)) (hb : ∀ i, SmB v (b.getD i 0)) : FnS Tryz.prog 43 [cS .z a, cS .z b] (cS .z (trimW (imulL a b))) := by
 refine fs_intro Tryz.func43 rfl rfl rfl rfl rfl (by decide) ?_
 refine rr rfl (rb (rlv .z [] rfl rfl (re rfl (tr_seq (rr rfl ?_)))))
 generalize hA : (fun i => a.getD i 0) = A
 generalize hB : (fun i => b.getD i 0) = B
 refine tr_block (tr_loop (α := Nat) (fun n => ⟨[(0, cS .z a), (1, cS .z b), (5, .c (.X 1000000)), (6, cI n)], [(1000000, .vec 44 .z ((List.range n).map (conv A B)))], 3, []⟩) (fun n => n ≤ a.length + b.length - 1) (fun n => a.length + b.length - n) 0 (Nat.zero_le _) (wk ⟨sR rfl, sR rfl, sR rfl, sR rfl, trivial⟩ ⟨bR rfl, trivial⟩) ?_)
 intro n hn
 refine tr_seq (rr rfl ?_)
 refine tr_cond rfl (fun h => ?_) (fun h => ?_)
 ·have h : n + 1 < a.length + b.length := by
   have h : (n : Int) + 1 < a.length + b.length := by simpa using h
   omega
  refine tr_skip (at_then (tr_seq (tr_block (rb (rc rfl rfl (rOf_s 0 (by decide) (by decide)) (re rfl (tr_seq (rr rfl ?_))))))))
  refine tr_block (tr_loop (α := Nat) (fun k => ⟨[(0, cS .z a), (1, cS .z b), (5, .c (.X 1000000)), (6, cI n), (7, .c (.P 4001000 0)), (8, cI k)], [(4001000, .box 44 0 (av .z (convS A B n k))), (1000000, .vec 44 .z ((List.range n).map (conv A B)))], 6, []⟩) (fun k => k ≤ n + 1) (fun k => n + 1 - k) 0 (Nat.zero_le _) (wk ⟨sR rfl, sR rfl, sR rfl, sR rfl, sR rfl, sR rfl, trivial⟩ ⟨⟨_, rfl, BLe.of_eq rfl⟩, bR rfl, trivial⟩) ?_)
  intro k hk
  refine tr_seq (rr rfl ?_)
  refine tr_cond rfl (fun h2 => ?_) (fun h2 => ?_)
  ·have h2 : k ≤ n := by
    have h2 : (k : Int) ≤ n := by simpa using h2
    omega
   have hs := convS_B a b u v ha hb n k (by omega)
   rw [hA, hB] at hs
   refine tr_skip (at_then (tr_seq (tr_block (rbt ?_))))
   refine rc rfl rfl (riat_s a k) ?_
   refine rc rfl rfl (f := 115) (r := aZ (b.getD (n - k) 0)) (by have := riat_s b (n - k); rw [show ((n - k : Nat) : Int) = (n : Int) - (k : Int) by omega] at this; exact this) ?_
   refine rc rfl rfl (rMul_s (a.getD k 0) (b.getD (n - k) 0) ((ha k).sm (by omega)) ((hb (n - k)).sm (by omega))) ?_
   refine rc rfl rfl (rAdd_s (convS A B n k) (a.getD k 0 * b.getD (n - k) 0) (hs.sm (by omega)) (((ha k).mul (hb (n - k))).sm (by omega))) (re rfl ?_)
   refine at_block (at_then (rt rfl (at_loop (k + 1) (by omega) (by show n + 1 - (k + 1) < n + 1 - k; omega) (wk ⟨sR rfl, sR rfl, sR rfl, sR rfl, sR rfl, ⟨_, rfl, AVle.of_eq rfl⟩, trivial⟩ ⟨⟨_, rfl, BLe.of_eq ?_⟩, bR rfl, trivial⟩))))
   have e : convS A B n (k + 1) = convS A B n k + a.getD k 0 * b.getD (n - k) 0 := by simp only [convS, ← hA, ← hB]
   rw [e]; rfl
  ·have h2 : ¬ k ≤ n := by
    have h2 : ¬ (k : Int) ≤ n := by simpa using h2
    omega
   have hk : k = n + 1 := by omega
   subst hk
   refine tr_exit (at_then_exit (at_loop_exit (at_block_exit (at_then ?_))))
   refine rbt (rl .z [conv A B n] rfl rfl (ra rfl rfl rfl rfl rfl rfl rfl rfl rfl ?_ ?_ (re rfl ?_)))
   ·show (_ + 1 + (_ + 1) / 4 + 192) * 32 ≤ _
    simp only [List.length_map, List.length_range]; omega
   ·show (_ + 1) * 2 ≤ _
    simp only [List.length_map, List.length_range]; omega
   refine at_block (at_then (rt rfl (at_loop (n + 1) (by omega) (by show a.length + b.length - (n + 1) < a.length + b.length - n; omega) (Wk.trans (wk (st' := ⟨[(0, cS .z a), (1, cS .z b), (5, .c (.X 7003000)), (6, cI ((n + 1 : Nat) : Int))], [(7003000, .vec 44 .z ((List.range (n + 1)).map (conv A B)))], 9, []⟩) ⟨sR rfl, sR rfl, sR rfl, ⟨_, rfl, AVle.of_eq ?_⟩, trivial⟩ ⟨⟨_, rfl, BLe.of_eq ?_⟩, trivial⟩) (Wk.trans (wk_ren 1000000 7003000 rfl rfl rfl) (wk ⟨sR rfl, sR rfl, sR rfl, sR rfl, trivial⟩ ⟨bR rfl, trivial⟩))))))
   ·rfl
   ·rw [List.range_succ, List.map_append]; rfl
 ·have h : ¬ n + 1 < a.length + b.length := by
   have h : ¬ (n : Int) + 1 < a.length + b.length := by simpa using h
   omega
  have hn : n = a.length + b.length - 1 := by omega
  refine tr_exit (at_then_exit (at_loop_exit (at_block_exit (at_then (tr_frz 1000000 rfl rfl rfl (rb (rc rfl rfl (rtrimZ_s _) (re rfl (tr_ret (at_ret TT_ok rfl (AVle.of_eq ?_)))))))))))
  unfold imulL
  rw [hA, hB, ← hn]
theorem rResidue_s (a : Int) (p : Nat) (hp0 : 2 ≤ p) (hp : p ≤ 2147483648) (ha : Sm a) : FnS Tryz.prog 89 [aZ a, cU p] (cU (a % p)) := by
 refine fs_intro Tryz.func89 rfl rfl rfl rfl rfl (by decide) ?_
 have h1 := Int.emod_nonneg a (show (p : Int) ≠ 0 by omega)
 have h2 := Int.emod_lt_of_pos a (show (0 : Int) < p by omega)
 refine rr rfl (rb (rc rfl rfl (rOf_s p (by omega) (by omega)) (hp := by simp only [Pr.an, Pr.h, num, i64r, true_and, and_true]; first | done | omega) (rc rfl rfl (rDivModA_s a p (by omega) ha (Sm.of (by omega))) (re rfl ?_))))
 refine rb (rc rfl rfl (rSmall_s (a % p) h1 (by omega)) (re rfl ?_))
 refine rr rfl (tr_ret (at_ret TT_ok rfl (AVle.of_eq (congrArg (fun z => AV.c (C.I .u64 z)) ?_))))
 exact wrap_u64 _ h1 (by omega)
theorem iresidue_s (a : Int) (p : Nat) (hp0 : 2 ≤ p) (hp : p ≤ 2147483648) (ha : Sm a) : FnS Tryz.prog 158 [aZ a, cU p] (cU (a % p)) := by
 refine fs_intro Tryz.func158 rfl rfl rfl rfl rfl (by decide) ?_
 have h1 := Int.emod_nonneg a (show (p : Int) ≠ 0 by omega)
 have h2 := Int.emod_lt_of_pos a (show (0 : Int) < p by omega)
 refine rr rfl (rb (rc rfl rfl (iOf_s p (by omega) (by omega)) (hp := by simp only [Pr.an, Pr.h, num, i64r, true_and, and_true]; first | done | omega) (rc rfl rfl (iDivMod_s a p (by omega) ha (Sm.of (by omega))) (re rfl ?_))))
 refine rb (rc rfl rfl (iSmall_s (a % p) h1 (by omega)) (re rfl ?_))
 refine rr rfl (tr_ret (at_ret TT_ok rfl (AVle.of_eq (congrArg (fun z => AV.c (C.I .u64 z)) ?_))))
 exact wrap_u64 _ h1 (by omega)
set_option maxHeartbeats 1000000 in
theorem pimage_s (a : List Int) (p : Nat) (la : a.length ≤ 1000) (hp0 : 2 ≤ p) (hp : p ≤ 2147483648) (ha : ∀ i, Sm (a.getD i 0)) : FnS Tryz.prog 96 [cS .z a, cU p] (aP (trimW (md p a)) p) := by
 refine fs_intro Tryz.func96 rfl rfl rfl rfl rfl (by decide) ?_
 have hml := md_len p a
 refine rr rfl (rb (rm U64 a.length rfl rfl rfl rfl rfl rfl (zr_int .u64) rfl ?_ ?_ (re rfl (tr_seq (rr rfl ?_)))))
 ·show _ * 8 ≤ _; omega
 ·show _ * 1 ≤ _; omega
 refine tr_block (tr_loop (α := Nat) (fun i => ⟨[(0, cS .z a), (1, cU p), (4, .c (.P 0 0)), (5, .c (.X 1002000)), (11, cI a.length), (12, cI i)], [(0, .box 101 0 [.V (.slice none 0 0), .I .u64 0]), (1002000, .vec 25 U64 ((md p a).take i ++ List.replicate (a.length - i) 0))], 3, []⟩) (fun i => i ≤ a.length) (fun i => a.length - i) 0 (Nat.zero_le _) (wk ⟨sR rfl, sR rfl, sR rfl, sR rfl, sR rfl, sR rfl, trivial⟩ ⟨⟨_, rfl, BLe.of_eq rfl⟩, ⟨_, rfl, BLe.of_eq ?_⟩, trivial⟩) ?_)
 ·simp
 intro i hi
 have hl : ((md p a).take i).length = i := by simp; omega
 have hll : ((md p a).take i ++ List.replicate (a.length - i) (0 : Int)).length = a.length := by simp; omega
 refine rr rfl (tr_seq (tr_cond rfl (fun h => ?_) (fun h => ?_)))
 ·have h : i < a.length := by
   have h : (i : Int) < (a.length : Int) := of_decide_eq_true h
   omega
  have hre : FnS Tryz.prog 158 [.a (av .z (a.getD ((i : Int)).toNat 0)), cU p] (cU (a.getD i 0 % p)) := by
   rw [Int.toNat_natCast]; exact iresidue_s (a.getD i 0) p hp0 hp (ha i)
  refine tr_skip (at_then (tr_seq (tr_block (rr rfl (rbt (rc rfl rfl hre (hp := by simp only [Pr.an, Pr.h, num, i64r, true_and, and_true]; first | done | omega) (re rfl (hp := by simp only [Pr.an, Pr.h, num, i64r, true_and, and_true]; first | done | omega) (at_block (at_then (rt rfl (at_loop (i + 1) h (by show a.length - (i + 1) < a.length - i; omega) (wk ⟨sR rfl, sR rfl, sR rfl, sR rfl, sR rfl, sR rfl, trivial⟩ ⟨⟨_, rfl, BLe.of_eq rfl⟩, ⟨_, rfl, BLe.of_eq ?_⟩, trivial⟩))))))))))))
  refine congrArg (Blk.vec 25 U64) ?_
  have e2 := set_mid ((md p a).take i) (a.length - (i + 1)) (a.getD i 0 % p)
  rw [hl, show a.length - (i + 1) + 1 = a.length - i by omega] at e2
  rw [Int.toNat_natCast, e2, take_succ_get _ i (by omega), md_get]
 ·have h : i = a.length := by
   have h : ¬ (i : Int) < (a.length : Int) := of_decide_eq_false h
   omega
  subst h
  rw [Nat.sub_self, List.replicate_zero, List.append_nil, List.take_of_length_le (by omega)]
  exact tr_exit (at_then_exit (at_loop_exit (at_block_exit (at_then (tr_frz 1002000 rfl rfl rfl (rb (rc rfl rfl (ptrim_s (md p a) p (by omega)) (re rfl (tr_ret (at_ret TT_ok rfl (AVle.refl _)))))))))))
theorem md_md (p : Int) (a : List Int) : md p (md p a) = md p a := by
 unfold md
 rw [List.map_map]
 exact List.map_congr_left fun x _ => Int.emod_emod x p
set_option maxHeartbeats 1000000 in
theorem rImage_s (a : List Int) (p : Nat) (la : a.length ≤ 1000) (hp0 : 2 ≤ p) (hp : p ≤ 2147483648) (ha : ∀ i, Sm (a.getD i 0)) : FnS Tryz.prog 28 [cS .z a, cU p] (cS U64 (trimW (md p a))) := by
 refine fs_intro Tryz.func28 rfl rfl rfl rfl rfl (by decide) ?_
 have hml := md_len p a
 have hrp := md_rp (show (0 : Int) < (p : Int) by omega) a
 have ht := rTrim9_s (md p a) p (by omega) (by omega) (by omega) (fun i => (hrp i).1)
 rw [md_md] at ht
 refine rr rfl (rb (rlv U64 [] rfl rfl (re rfl (tr_seq (rr rfl ?_)))))
 refine tr_block (tr_loop (α := Nat) (fun i => ⟨[(0, cS .z a), (1, cU p), (5, .c (.X 1000000)), (6, cI i)], [(1000000, .vec 25 U64 ((md p a).take i))], 3, []⟩) (fun i => i ≤ a.length) (fun i => a.length - i) 0 (Nat.zero_le _) (wk ⟨sR rfl, sR rfl, sR rfl, sR rfl, trivial⟩ ⟨bR rfl, trivial⟩) ?_)
 intro i hi
 have hl : ((md p a).take i).length = i := by simp; omega
 refine tr_seq (rr rfl (tr_cond rfl (fun h => ?_) (fun h => ?_)))
 ·have h : i < a.length := by
   have h : (i : Int) < (a.length : Int) := of_decide_eq_true h
   omega
  have hre : FnS Tryz.prog 89 [.a (av .z (a.getD ((i : Int)).toNat 0)), cU p] (cU (a.getD i 0 % p)) := by
   rw [Int.toNat_natCast]; exact rResidue_s (a.getD i 0) p hp0 hp (ha i)
  refine tr_skip (at_then (tr_seq (tr_block (rbt (rc rfl rfl hre (hp := by simp only [Pr.an, Pr.h, num, i64r, true_and, and_true]; first | done | omega) ?_)))))
  refine rl U64 [_] rfl rfl (ra rfl rfl rfl rfl rfl rfl rfl rfl rfl ?_ ?_ (re rfl ?_))
  ·show (_ + 1 + (_ + 1) / 4 + 192) * 8 ≤ _; omega
  ·show (_ + 1) * 1 ≤ _; omega
  refine at_block (at_then (rt rfl (at_loop (i + 1) h (by show a.length - (i + 1) < a.length - i; omega) (Wk.trans (wk (st' := ⟨[(0, cS .z a), (1, cU p), (5, .c (.X 4008000)), (6, cI ((i + 1 : Nat) : Int))], [(4008000, .vec 25 U64 ((md p a).take (i + 1)))], 8, []⟩) ⟨sR rfl, sR rfl, sR rfl, sR rfl, trivial⟩ ⟨⟨_, rfl, BLe.of_eq ?_⟩, trivial⟩) (Wk.trans (wk_ren 1000000 4008000 rfl rfl rfl) (wk ⟨sR rfl, sR rfl, sR rfl, sR rfl, trivial⟩ ⟨bR rfl, trivial⟩))))))
  refine congrArg (Blk.vec 25 U64) ?_
  rw [take_succ_get _ i (by omega), md_get]
 ·have h : i = a.length := by
   have h : ¬ (i : Int) < (a.length : Int) := of_decide_eq_false h
   omega
  subst h
  rw [List.take_of_length_le (by omega)]
  exact tr_exit (at_then_exit (at_loop_exit (at_block_exit (at_then (tr_frz 1000000 rfl rfl rfl (rb (rc rfl rfl ht (re rfl (tr_ret (at_ret TT_ok rfl (AVle.refl _)))))))))))
end Go.El

/- Contracts: integer polynomials of the reference. Own work; no condition. -/
namespace Go.El
open Go Go.Proofs
theorem FnS.a1 {P : Program} {f : FuncId} {x y : AV} {xs : List AV} {r : AV} (h : FnS P f (y :: xs) r) (hle : AVle x y) : FnS P f (x :: xs) r :=
 ⟨h.call, h.noid, fun H W vs hs hv => h.spec H W vs hs (by
  obtain ⟨v, r, rfl, h1, h2⟩ := hv
  exact ⟨v, r, rfl, hle.1 _ _ h1, h2⟩)⟩
def addL (a : List Int) (m : Int) (b : List Int) : List Int := (List.range (max a.length b.length)).map fun i => a.getD i 0 + m * b.getD i 0
theorem range_snoc (f : Nat → Int) (i : Nat) : (List.range (i + 1)).map f = (List.range i).map f ++ [f i] := by
 rw [List.range_succ, List.map_append]; rfl
set_option maxHeartbeats 1000000 in
theorem radd_s (a : List Int) (m : Int) (b : List Int) (u : Nat) (hu : u ≤ 100000) (la : a.length ≤ 1000) (lb : b.length ≤ 1000) (ha : ∀ i, SmB u (a.getD i 0)) (hm : SmB u m) (hb : ∀ i, 0 ≤ b.getD i 0 ∧ b.getD i 0 < 4294967296) : FnS Tryz.prog 113 [cS .z a, aZ m, cS U64 b] (cS .z (trimW (addL a m b))) := by
 refine fs_intro Tryz.func113 rfl rfl rfl rfl rfl (by decide) ?_
 generalize hM : max a.length b.length = M
 have hMb : M ≤ 1000 := by omega
 have hadd : addL a m b = (List.range M).map fun i => a.getD i 0 + m * b.getD i 0 := by rw [addL, hM]
 rw [hadd]
 refine rr rfl (rb (rlv .z [] rfl rfl (re rfl (tr_seq (rr rfl ?_)))))
 refine tr_block (tr_loop (α := Nat) (fun i => ⟨[(0, cS .z a), (2, cS U64 b), (4, .c (.P 0 0)), (7, .c (.X 1000000)), (8, cI i)], [(0, .box 44 0 (av .z m)), (1000000, .vec 44 .z ((List.range i).map fun i => a.getD i 0 + m * b.getD i 0))], 3, []⟩) (fun i => i ≤ M) (fun i => M - i) 0 (Nat.zero_le _) (wk ⟨sR rfl, sR rfl, sR rfl, sR rfl, sR rfl, trivial⟩ ⟨⟨_, rfl, BLe.of_eq rfl⟩, bR rfl, trivial⟩) ?_)
 intro i hi
 have hl : ((List.range i).map fun i => a.getD i 0 + m * b.getD i 0).length = i := by simp
 by_cases hiM : i < M
 ·refine tr_mid1 ⟨[(0, cS .z a), (2, cS U64 b), (4, .c (.P 0 0)), (7, .c (.X 1000000)), (8, cI i)], [(0, .box 44 0 (av .z m)), (1000000, .vec 44 .z ((List.range i).map fun i => a.getD i 0 + m * b.getD i 0))], 4, []⟩ ?_ (fun mid => rb (rg 14 rfl rfl (fun h => re rfl (tr_cond rfl (fun _ => tr_skip (at_mid mid (wk ⟨sR rfl, sR rfl, sR rfl, sR rfl, sR rfl, trivial⟩ ⟨bR rfl, bR rfl, trivial⟩))) (fun h2 => by cases h2))) (fun h => re rfl (tr_cond rfl (fun _ => tr_skip (at_mid mid (wk ⟨sR rfl, sR rfl, sR rfl, sR rfl, sR rfl, trivial⟩ ⟨bR rfl, bR rfl, trivial⟩))) (fun h2 => ?_)))))
  ·have h2 := hb i
   have hbi : SmB 1 (b.getD i 0) := .one (by omega)
   refine tr_seq (tr_block (rbt ?_))
   refine rc rfl rfl (riat_s a i) (rc rfl rfl (rat_s b i) (rc rfl rfl (rOf_s (b.getD i 0) (by omega) (by omega)) (hp := by simp only [Pr.an, Pr.h, num, i64r, true_and, and_true]; first | done | omega) (rc rfl rfl (rMul_s m (b.getD i 0) (hm.sm (by omega)) (hbi.sm (by omega))) (rc rfl rfl (rAdd_s (a.getD i 0) (m * b.getD i 0) ((ha i).sm (by omega)) ((hm.mul hbi).sm (by omega))) ?_))))
   refine rl .z [a.getD i 0 + m * b.getD i 0] rfl rfl (ra rfl rfl rfl rfl rfl rfl rfl rfl rfl ?_ ?_ (re rfl ?_))
   ·show (_ + 1 + (_ + 1) / 4 + 192) * 32 ≤ _; omega
   ·show (_ + 1) * 2 ≤ _; omega
   refine at_block (at_then (rt rfl (at_loop (i + 1) hiM (by show M - (i + 1) < M - i; omega) (Wk.trans (wk (st' := ⟨[(0, cS .z a), (2, cS U64 b), (4, .c (.P 0 0)), (7, .c (.X 4013000)), (8, cI ((i + 1 : Nat) : Int))], [(0, .box 44 0 (av .z m)), (4013000, .vec 44 .z ((List.range (i + 1)).map fun i => a.getD i 0 + m * b.getD i 0))], 8, []⟩) ⟨sR rfl, sR rfl, sR rfl, sR rfl, sR rfl, trivial⟩ ⟨bR rfl, ⟨_, rfl, BLe.of_eq ?_⟩, trivial⟩) (Wk.trans (wk_ren 1000000 4013000 rfl rfl rfl) (wk ⟨sR rfl, sR rfl, sR rfl, sR rfl, sR rfl, trivial⟩ ⟨bR rfl, bR rfl, trivial⟩))))))
   exact congrArg (Blk.vec 44 .z) (range_snoc _ i).symm
  ·exfalso
   have h : ¬ (i : Int) < (a.length : Int) := of_decide_eq_false h
   have h2 : ¬ (i : Int) < (b.length : Int) := of_decide_eq_false h2
   omega
 ·have hi2 : i = M := by omega
  subst hi2
  refine tr_seq (rb (rg 14 rfl rfl (fun h => ?_) (fun h => ?_)))
  ·exfalso
   have h : (i : Int) < (a.length : Int) := of_decide_eq_true h
   omega
  ·refine re rfl (tr_cond rfl (fun h2 => ?_) (fun h2 => ?_))
   ·exfalso
    have h2 : (i : Int) < (b.length : Int) := of_decide_eq_true h2
    omega
   ·exact tr_exit (at_then_exit (at_loop_exit (at_block_exit (at_then (tr_frz 1000000 rfl rfl rfl (rb (rc rfl rfl (rtrimZ_s _) (re rfl (tr_ret (at_ret TT_ok rfl (AVle.refl _)))))))))))
theorem addL_nil (m : Int) (b : List Int) : addL [] m b = b.map (m * ·) := by
 refine List.ext_getElem (by simp [addL]) (fun i h1 h2 => ?_)
 have h3 : i < b.length := by simpa using h2
 simp only [addL, List.getElem_map, List.getElem_range]
 rw [List.getD_eq_getElem?_getD (l := b), List.getElem?_eq_getElem h3]
 simp
theorem rInts_s (b : List Int) (lb : b.length ≤ 1000) (hb : ∀ i, 0 ≤ b.getD i 0 ∧ b.getD i 0 < 4294967296) : FnS Tryz.prog 40 [cS U64 b] (cS .z (trimW b)) := by
 refine fs_intro Tryz.func40 rfl rfl rfl rfl rfl (by decide) ?_
 have h := radd_s [] 1 b 1 (by decide) (by simp) lb (fun i => SmB.zero 1) (.one (by decide)) hb
 rw [addL_nil, show (fun x : Int => 1 * x) = id from funext fun x => Int.one_mul x, List.map_id] at h
 exact rr rfl (rb (rc rfl rfl (rOf_s 1 (by decide) (by decide)) (rc rfl rfl (h.a1 (AVle.nil .z)) (re rfl (tr_ret (at_ret TT_ok rfl (AVle.refl _)))))))
theorem rPower_s (p k : Nat) (hp : p < 4294967296) (hk : k ≤ 100000) : FnS Tryz.prog 39 [cU p, cI k] (aZ ((p : Int) ^ k)) := by
 refine fs_intro Tryz.func39 rfl rfl rfl rfl rfl (by decide) ?_
 have hpb : SmB 1 (p : Int) := .one (by omega)
 refine rr rfl (rb (rc rfl rfl (rOf_s 1 (by decide) (by decide)) (re rfl (tr_seq (rr rfl ?_)))))
 refine tr_block (tr_loop (α := Nat) (fun i => ⟨[(0, cU p), (1, cI k), (4, .c (.P 0 0)), (5, .c (.P 1001000 0)), (6, cI i)], [(0, .box 44 0 [.B false, .V (.slice none 0 0)]), (1001000, .box 44 0 (av .z ((p : Int) ^ i)))], 3, []⟩) (fun i => i ≤ k) (fun i => k - i) 0 (Nat.zero_le _) (wk ⟨sR rfl, sR rfl, sR rfl, sR rfl, sR rfl, trivial⟩ ⟨⟨_, rfl, BLe.of_eq rfl⟩, ⟨_, rfl, BLe.of_eq ?_⟩, trivial⟩) ?_)
 ·rw [Int.pow_zero]; rfl
 intro i hi
 refine tr_seq (rr rfl (tr_cond rfl (fun h => ?_) (fun h => ?_)))
 ·have h : i < k := by
   have h : (i : Int) < (k : Int) := of_decide_eq_true h
   omega
  refine tr_skip (at_then (tr_seq (tr_block (rbt ?_))))
  refine rc rfl rfl (rOf_s p (by omega) (by omega)) (hp := by simp only [Pr.an, Pr.h, num, i64r, true_and, and_true]; first | done | omega) (rc rfl rfl (rMul_s ((p : Int) ^ i) p ((hpb.pow i).sm (by omega)) (hpb.sm (by omega))) (re rfl ?_))
  refine at_block (at_then (rt rfl (at_loop (i + 1) h (by show k - (i + 1) < k - i; omega) (wk ⟨sR rfl, sR rfl, sR rfl, sR rfl, sR rfl, trivial⟩ ⟨⟨_, rfl, BLe.of_eq rfl⟩, ⟨_, rfl, BLe.of_eq ?_⟩, trivial⟩))))
  rw [Int.pow_succ]; rfl
 ·have h : i = k := by
   have h : ¬ (i : Int) < (k : Int) := of_decide_eq_false h
   omega
  subst h
  exact tr_exit (at_then_exit (at_loop_exit (at_block_exit (at_then (rr rfl (tr_ret (at_ret TT_ok rfl (AVle.of_eq rfl))))))))
def nearZ (a m : Int) : Int := if a % m + a % m > m then a % m - m else a % m
theorem nearZ_B {n : Nat} {a m : Int} (hm : 0 < m) (h : SmB n m) : SmB n (nearZ a m) := by
 have h1 := Int.emod_nonneg a (show m ≠ 0 by omega)
 have h2 := Int.emod_lt_of_pos a hm
 unfold nearZ SmB at *
 split <;> omega
theorem cmp_gt {a b : Int} : cmpN a b > 0 ↔ a > b := by
 unfold cmpN
 split
 ·omega
 ·split <;> omega
set_option maxHeartbeats 2000000 in
theorem rNear_s (a : List Int) (m : Int) (u : Nat) (hu : u ≤ 100000) (la : a.length ≤ 1000) (hm0 : 0 < m) (ha : ∀ i, SmB u (a.getD i 0)) (hm : SmB u m) : FnS Tryz.prog 41 [cS .z a, aZ m] (cS .z (trimW (a.map (nearZ · m)))) := by
 refine fs_intro Tryz.func41 rfl rfl rfl rfl rfl (by decide) ?_
 refine rr rfl (rb (rlv .z [] rfl rfl (re rfl (tr_seq (rr rfl ?_)))))
 refine tr_block (tr_loop (α := Nat) (fun i => ⟨[(0, cS .z a), (3, .c (.P 0 0)), (5, .c (.X 1000000)), (6, cI i)], [(0, .box 44 0 (av .z m)), (1000000, .vec 44 .z ((a.take i).map (nearZ · m)))], 3, []⟩) (fun i => i ≤ a.length) (fun i => a.length - i) 0 (Nat.zero_le _) (wk ⟨sR rfl, sR rfl, sR rfl, sR rfl, trivial⟩ ⟨⟨_, rfl, BLe.of_eq rfl⟩, bR rfl, trivial⟩) ?_)
 intro i hi
 have hl : ((a.take i).map (nearZ · m)).length = i := by simp; omega
 refine tr_seq (rr rfl (tr_cond rfl (fun h => ?_) (fun h => ?_)))
 ·have h : i < a.length := by
   have h : (i : Int) < (a.length : Int) := of_decide_eq_true h
   omega
  have hdm : FnS Tryz.prog 81 [.a (av .z (a.getD ((i : Int)).toNat 0)), aZ m] (.t [(true, av .z (a.getD i 0 / m)), (true, av .z (a.getD i 0 % m)), (false, [.I .i64 0])]) := by
   rw [Int.toNat_natCast]; exact rDivModA_s (a.getD i 0) m (by omega) ((ha i).sm (by omega)) (hm.sm (by omega))
  have hr : SmB u (a.getD i 0 % m) := SmB.emod hm0 hm
  have hadd := rAdd_s (a.getD i 0 % m) (a.getD i 0 % m) (hr.sm (by omega)) (hr.sm (by omega))
  refine tr_skip (at_then (tr_seq (tr_block (rb (rc rfl rfl hdm (hp := by simp only [Pr.an, Pr.h, num, i64r, true_and, and_true]; first | done | omega) (re rfl ?_))))))
  refine tr_mid1 ⟨[(0, cS .z a), (3, .c (.P 0 0)), (5, .c (.X 1000000)), (6, cI i), (8, .c (.P 4011000 0))], [(0, .box 44 0 (av .z m)), (1000000, .vec 44 .z ((a.take i).map (nearZ · m))), (4011000, .box 44 0 (av .z (nearZ (a.getD i 0) m)))], 7, []⟩ ?_ (fun mid => ?_)
  ·refine rbt (rl .z [nearZ (a.getD i 0) m] rfl rfl (ra rfl rfl rfl rfl rfl rfl rfl rfl rfl ?_ ?_ (re rfl ?_)))
   ·show (_ + 1 + (_ + 1) / 4 + 192) * 32 ≤ _; omega
   ·show (_ + 1) * 2 ≤ _; omega
   refine at_block (at_then (rt rfl (at_loop (i + 1) h (by show a.length - (i + 1) < a.length - i; omega) (Wk.trans (wk (st' := ⟨[(0, cS .z a), (3, .c (.P 0 0)), (5, .c (.X 7003000)), (6, cI ((i + 1 : Nat) : Int))], [(0, .box 44 0 (av .z m)), (7003000, .vec 44 .z ((a.take (i + 1)).map (nearZ · m)))], 9, []⟩) ⟨sR rfl, sR rfl, sR rfl, sR rfl, trivial⟩ ⟨bR rfl, ⟨_, rfl, BLe.of_eq ?_⟩, trivial⟩) (Wk.trans (wk_ren 1000000 7003000 rfl rfl rfl) (wk ⟨sR rfl, sR rfl, sR rfl, sR rfl, trivial⟩ ⟨bR rfl, bR rfl, trivial⟩))))))
   refine congrArg (Blk.vec 44 .z) ?_
   rw [take_succ_get a i h, List.map_append]; rfl
  ·refine rb (rc rfl rfl hadd (rc rfl rfl (rCmp_s (a.getD i 0 % m + a.getD i 0 % m) m) (re rfl (tr_cond rfl (fun h2 => ?_) (fun h2 => ?_)))))
   ·have h2 : cmpN (a.getD i 0 % m + a.getD i 0 % m) m > 0 := of_decide_eq_true h2
    rw [cmp_gt] at h2
    refine rbt (rc rfl rfl (rSub_s (a.getD i 0 % m) m (hr.sm (by omega)) (hm.sm (by omega))) (re rfl (at_mid mid (wk ⟨sR rfl, sR rfl, sR rfl, sR rfl, sR rfl, trivial⟩ ⟨⟨_, rfl, BLe.of_eq rfl⟩, bR rfl, ⟨_, rfl, BLe.of_eq ?_⟩, trivial⟩))))
    rw [nearZ, if_pos h2]; rfl
   ·have h2 : ¬ cmpN (a.getD i 0 % m + a.getD i 0 % m) m > 0 := of_decide_eq_false h2
    rw [cmp_gt] at h2
    refine tr_skip (at_mid mid (wk ⟨sR rfl, sR rfl, sR rfl, sR rfl, sR rfl, trivial⟩ ⟨⟨_, rfl, BLe.of_eq rfl⟩, bR rfl, ⟨_, rfl, BLe.of_eq ?_⟩, trivial⟩))
    rw [nearZ, if_neg h2]; rfl
 ·have h : i = a.length := by
   have h : ¬ (i : Int) < (a.length : Int) := of_decide_eq_false h
   omega
  subst h
  rw [List.take_length]
  exact tr_exit (at_then_exit (at_loop_exit (at_block_exit (at_then (tr_frz 1000000 rfl rfl rfl (rb (rc rfl rfl (rtrimZ_s _) (re rfl (tr_ret (at_ret TT_ok rfl (AVle.refl _)))))))))))
theorem zmag_eq {a b : Int} (h1 : zneg a = zneg b) (h2 : zmag a = zmag b) : a = b := by
 have h3 : val (wordsN a.natAbs) = val (wordsN b.natAbs) := congrArg val h2
 rw [val_words, val_words] at h3
 have h4 := sg_self a
 have h5 := sg_self b
 rw [← h4, ← h5, h1, show a.natAbs = b.natAbs by omega]
theorem bool_bne {x y : Bool} : (x != y) = true ↔ x ≠ y := by cases x <;> cases y <;> decide
theorem rSameInt_s (a b : Int) (ha : Sm a) : FnS Tryz.prog 32 [aZ a, aZ b] (cB (decide (a = b))) := by
 refine fs_intro Tryz.func32 rfl rfl rfl rfl rfl (by decide) ?_
 have ha : (zmag a).length ≤ 1099511627776 := ha
 refine rr rfl (tr_seq (rb (rg 11 rfl rfl (fun h => ?_) (fun h => ?_))))
 ·have h : zneg a ≠ zneg b := bool_bne.1 h
  refine re rfl (tr_cond rfl (fun _ => rr rfl (tr_ret (at_then_ret (at_ret TT_ok rfl (AVle.of_eq (congrArg cB ?_)))))) (fun h2 => by cases h2))
  rw [decide_eq_false (fun e => h (by rw [e]))]
 ·have h : zneg a = zneg b := by
   have h : ¬ (zneg a != zneg b) = true := by rw [h]; decide
   rw [bool_bne] at h
   exact Decidable.not_not.1 h
  refine re rfl (tr_cond rfl (fun h2 => ?_) (fun h2 => tr_skip (at_then ?_)))
  ·have h2 := bne_z h2
   refine rr rfl (tr_ret (at_then_ret (at_ret TT_ok rfl (AVle.of_eq (congrArg cB ?_)))))
   rw [decide_eq_false (fun e => h2 (by rw [e]))]
  ·have h2 := bne_z' h2
   have hl : (zmag a).length = (zmag b).length := by omega
   refine tr_seq (rr rfl (tr_block (tr_loop (α := Nat) (fun i => ⟨[(2, .c (.P 0 0)), (3, .c (.P 1000 0)), (5, cI i)], [(0, .box 44 0 (av .z a)), (1000, .box 44 0 (av .z b))], 4, []⟩) (fun i => i ≤ (zmag a).length ∧ (zmag a).take i = (zmag b).take i) (fun i => (zmag a).length - i) 0 ⟨Nat.zero_le _, by simp⟩ (wk ⟨sR rfl, sR rfl, sR rfl, trivial⟩ ⟨⟨_, rfl, BLe.of_eq rfl⟩, ⟨_, rfl, BLe.of_eq rfl⟩, trivial⟩) ?_)))
   rintro i ⟨hi, ht⟩
   refine tr_seq (rr rfl (tr_cond rfl (fun h3 => ?_) (fun h3 => ?_)))
   ·have h3 : i < (zmag a).length := by
     have h3 : (i : Int) < ((zmag a).length : Int) := of_decide_eq_true h3
     omega
    refine tr_skip (at_then (tr_seq (tr_block (rr rfl (hp := by simp only [Pr.an, Pr.h, num, i64r, true_and, and_true]; first | done | omega) (tr_cond rfl (fun h4 => ?_) (fun h4 => tr_skip (at_block (at_then ?_))))))))
    ·have h4 : (zmag a).getD i 0 ≠ (zmag b).getD i 0 := bne_z h4
     refine rr rfl (tr_ret ?_)
     repeat (first | refine at_then_ret ?_ | refine at_block_ret ?_ | refine at_loop_ret ?_)
     refine at_ret TT_ok rfl (AVle.of_eq (congrArg cB ?_))
     rw [decide_eq_false (fun e => h4 (by rw [e]))]
    ·have h4 : (zmag a).getD i 0 = (zmag b).getD i 0 := bne_z' h4
     exact rt rfl (at_loop (i + 1) ⟨h3, by rw [take_succ_get _ i h3, take_succ_get _ i (by omega), ht, h4]⟩ (by show (zmag a).length - (i + 1) < (zmag a).length - i; omega) (wk ⟨sR rfl, sR rfl, sR rfl, trivial⟩ ⟨⟨_, rfl, BLe.of_eq rfl⟩, ⟨_, rfl, BLe.of_eq rfl⟩, trivial⟩))
   ·have h3 : i = (zmag a).length := by
     have h3 : ¬ (i : Int) < ((zmag a).length : Int) := of_decide_eq_false h3
     omega
    subst h3
    rw [List.take_length, List.take_of_length_le (by omega)] at ht
    refine tr_exit (at_then_exit (at_loop_exit (at_block_exit (at_then (rr rfl (tr_ret (at_ret TT_ok rfl (AVle.of_eq (congrArg cB ?_)))))))))
    rw [decide_eq_true (zmag_eq h ht)]
theorem rSameInts_s (a b : List Int) (la : a.length ≤ 1000000) (ha : ∀ i, Sm (a.getD i 0)) : FnS Tryz.prog 31 [cS .z a, cS .z b] (cB (decide (a = b))) := by
 refine fs_intro Tryz.func31 rfl rfl rfl rfl rfl (by decide) ?_
 refine rr rfl (tr_seq (rr rfl (tr_cond rfl (fun h => ?_) (fun h => tr_skip (at_then ?_)))))
 ·have h := bne_z h
  refine rr rfl (tr_ret (at_then_ret (at_ret TT_ok rfl (AVle.of_eq (congrArg cB ?_)))))
  rw [decide_eq_false (fun e => h (by rw [e]))]
 ·have h := bne_z' h
  have hl : a.length = b.length := by omega
  refine tr_seq (rr rfl (tr_block (tr_loop (α := Nat) (fun i => ⟨[(0, cS .z a), (1, cS .z b), (5, cI i)], [], 4, []⟩) (fun i => i ≤ a.length ∧ a.take i = b.take i) (fun i => a.length - i) 0 ⟨Nat.zero_le _, by simp⟩ (wk ⟨sR rfl, sR rfl, sR rfl, trivial⟩ trivial) ?_)))
  rintro i ⟨hi, ht⟩
  refine tr_seq (rr rfl (tr_cond rfl (fun h2 => ?_) (fun h2 => ?_)))
  ·have h2 : i < a.length := by
    have h2 : (i : Int) < (a.length : Int) := of_decide_eq_true h2
    omega
   have hs : FnS Tryz.prog 32 [.a (av .z (a.getD ((i : Int)).toNat 0)), .a (av .z (b.getD ((i : Int)).toNat 0))] (cB (decide (a.getD i 0 = b.getD i 0))) := by
    rw [Int.toNat_natCast]; exact rSameInt_s _ _ (ha i)
   refine tr_skip (at_then (tr_seq (tr_block (rb (rc rfl rfl hs (hp := by simp only [Pr.an, Pr.h, num, i64r, true_and, and_true]; first | done | omega) (re rfl (tr_cond rfl (fun h3 => ?_) (fun h3 => tr_skip (at_block (at_then ?_))))))))))
   ·have h3 : a.getD i 0 ≠ b.getD i 0 := by
     intro e
     have h3 : (!decide (a.getD i 0 = b.getD i 0)) = true := h3
     rw [decide_eq_true e] at h3
     cases h3
    refine rr rfl (tr_ret ?_)
    repeat (first | refine at_then_ret ?_ | refine at_block_ret ?_ | refine at_loop_ret ?_)
    refine at_ret TT_ok rfl (AVle.of_eq (congrArg cB ?_))
    rw [decide_eq_false (fun e => h3 (by rw [e]))]
   ·have h3 : a.getD i 0 = b.getD i 0 := by
     refine Decidable.byContradiction fun e => ?_
     have h3 : (!decide (a.getD i 0 = b.getD i 0)) = false := h3
     rw [decide_eq_false e] at h3
     cases h3
    exact rt rfl (at_loop (i + 1) ⟨h2, by rw [take_succ_get a i h2, take_succ_get b i (by omega), ht, h3]⟩ (by show a.length - (i + 1) < a.length - i; omega) (wk ⟨sR rfl, sR rfl, sR rfl, trivial⟩ trivial))
  ·have h2 : i = a.length := by
    have h2 : ¬ (i : Int) < (a.length : Int) := of_decide_eq_false h2
    omega
   subst h2
   rw [List.take_length, List.take_of_length_le (by omega)] at ht
   refine tr_exit (at_then_exit (at_loop_exit (at_block_exit (at_then (rr rfl (tr_ret (at_ret TT_ok rfl (AVle.of_eq (congrArg cB ?_)))))))))
   rw [decide_eq_true ht]
end Go.El

/- Contracts: integer polynomials of the program. Own work; no condition. -/
namespace Go.El
open Go Go.Proofs
theorem isymmetric_s (a m : Int) (u : Nat) (hu : u ≤ 100000) (hm0 : 0 < m) (ha : Sm a) (hm : SmB u m) : FnS Tryz.prog 164 [aZ a, aZ m] (aZ (nearZ a m)) := by
 refine fs_intro Tryz.func164 rfl rfl rfl rfl rfl (by decide) ?_
 have hr : SmB u (a % m) := SmB.emod hm0 hm
 refine rr rfl (rb (rc rfl rfl (iDivMod_s a m (by omega) ha (hm.sm (by omega))) (re rfl ?_)))
 refine tr_seq (rb (rc rfl rfl (iAdd_s (a % m) (a % m) (hr.sm (by omega)) (hr.sm (by omega))) (rc rfl rfl (iCmp_s (a % m + a % m) m) (re rfl (tr_cond rfl (fun h => ?_) (fun h => tr_skip (at_then ?_)))))))
 ·have h : cmpN (a % m + a % m) m > 0 := of_decide_eq_true h
  rw [cmp_gt] at h
  refine rbt (rc rfl rfl (iSub_s (a % m) m (hr.sm (by omega)) (hm.sm (by omega))) (re rfl (at_then (rr rfl (tr_ret (at_ret TT_ok rfl (AVle.of_eq ?_)))))))
  rw [nearZ, if_pos h]; rfl
 ·have h : ¬ cmpN (a % m + a % m) m > 0 := of_decide_eq_false h
  rw [cmp_gt] at h
  refine rr rfl (tr_ret (at_ret TT_ok rfl (AVle.of_eq ?_)))
  rw [nearZ, if_neg h]; rfl
def zRow (a b : List Int) (i : Nat) : Nat → List Int → List Int
 | 0, r => r
 | j + 1, r => (zRow a b i j r).set (i + j) ((zRow a b i j r).getD (i + j) 0 + a.getD i 0 * b.getD j 0)
def zAll (a b : List Int) : Nat → List Int
 | 0 => List.replicate (a.length + b.length - 1) 0
 | i + 1 => zRow a b i b.length (zAll a b i)
def tmL (a b : List Int) (m : Int) : List Int := (zAll a b a.length).map (· % m)
theorem zRow_len (a b : List Int) (i : Nat) (r : List Int) : ∀ j, (zRow a b i j r).length = r.length
 | 0 => rfl
 | j + 1 => by rw [zRow, List.length_set, zRow_len a b i r j]
theorem zAll_len (a b : List Int) : ∀ i, (zAll a b i).length = a.length + b.length - 1
 | 0 => by simp [zAll]
 | i + 1 => by rw [zAll, zRow_len, zAll_len a b i]
def ZB (u v c : Nat) (r : List Int) : Prop := ∀ k, (r.getD k 0).natAbs ≤ c * 4294967296 ^ (u + v)
theorem zRow_ZB {a b : List Int} {u v c : Nat} (ha : ∀ i, SmB u (a.getD i 0)) (hb : ∀ i, SmB v (b.getD i 0)) {i : Nat} {r : List Int} (h : ZB u v c r) : ∀ j, (∀ k, i + j ≤ k → (zRow a b i j r).getD k 0 = r.getD k 0) ∧ ZB u v (c + 1) (zRow a b i j r)
 | 0 => ⟨fun k _ => rfl, fun k => Nat.le_trans (h k) (Nat.mul_le_mul_right _ (Nat.le_succ c))⟩
 | j + 1 => by
  obtain ⟨h1, h2⟩ := zRow_ZB (a := a) (b := b) ha hb (i := i) h j
  refine ⟨fun k hk => ?_, fun k => ?_⟩
  ·rw [zRow, List.getD_eq_getElem?_getD, List.getElem?_set_ne (by omega), ← List.getD_eq_getElem?_getD]
   exact h1 k (by omega)
  ·rw [zRow]
   by_cases e : i + j < (zRow a b i j r).length
   ·rw [getD_set_eq _ _ _ _ e]
    split
    ·rw [h1 _ (Nat.le_refl _)]
     have h3 := h (i + j)
     have h4 := (ha i).mul (hb j)
     unfold SmB at h4
     have h5 := Int.natAbs_add_le (r.getD (i + j) 0) (a.getD i 0 * b.getD j 0)
     rw [Nat.add_mul, Nat.one_mul]
     omega
    ·exact h2 k
   ·rw [List.set_eq_of_length_le (by omega)]; exact h2 k
theorem zAll_ZB {a b : List Int} {u v : Nat} (ha : ∀ i, SmB u (a.getD i 0)) (hb : ∀ i, SmB v (b.getD i 0)) : ∀ i, ZB u v i (zAll a b i)
 | 0 => fun k => by
  rw [zAll, List.getD_eq_getElem?_getD, List.getElem?_replicate]
  split <;> simp
 | i + 1 => by rw [zAll]; exact (zRow_ZB ha hb (zAll_ZB ha hb i) _).2
theorem ZB.sm {u v c : Nat} {r : List Int} (h : ZB u v c r) (hc : c < 4294967296) (k : Nat) : SmB (u + v + 1) (r.getD k 0) := by
 have h1 := h k
 have hp : 0 < 4294967296 ^ (u + v) := Nat.pow_pos (by decide)
 have h2 : c * 4294967296 ^ (u + v) < 4294967296 * 4294967296 ^ (u + v) := Nat.mul_lt_mul_of_pos_right hc hp
 unfold SmB
 rw [Nat.pow_succ, Nat.mul_comm (4294967296 ^ (u + v))]
 omega
theorem zAll_B {a b : List Int} {u v : Nat} (ha : ∀ i, SmB u (a.getD i 0)) (hb : ∀ i, SmB v (b.getD i 0)) (i : Nat) (hi : i ≤ 1000) (k : Nat) : SmB (u + v + 1) ((zAll a b i).getD k 0) := (zAll_ZB ha hb i).sm (by omega) k
theorem zRow_B {a b : List Int} {u v i : Nat} (ha : ∀ i, SmB u (a.getD i 0)) (hb : ∀ i, SmB v (b.getD i 0)) (hi : i ≤ 1000) (_ : ∀ k, SmB (u + v + 1) ((zAll a b i).getD k 0)) (j k : Nat) : SmB (u + v + 1) ((zRow a b i j (zAll a b i)).getD k 0) := (zRow_ZB ha hb (zAll_ZB ha hb i) j).2.sm (by omega) k
theorem zRow_ps (a b : List Int) (i : Nat) (r : List Int) : ∀ j, i + j ≤ r.length → ps (zRow a b i j r) = ps r + PS.K (a.getD i 0) * PS.X i * ps (b.take j)
 | 0, _ => by rw [zRow, ps_take_zero, PS.mul_zero, PS.add_zero]
 | j + 1, h => by
  rw [zRow, ps_set _ (by rw [zRow_len]; omega), ps_take_succ, PS.mul_add, ← PS.add_assoc, zRow_ps a b i r j (by omega)]
  congr 1
  rw [show ∀ x y : Int, x + y - x = y by intros; omega]
  rw [PS.K_mulK, PS.X_add]; ac_rfl
theorem zAll_ps (a b : List Int) : ∀ i, i ≤ a.length → ps (zAll a b i) = ps (a.take i) * ps b
 | 0, _ => by rw [zAll, ps_rep, ps_take_zero, PS.zero_mul]
 | i + 1, h => by
  have h2 := zRow_ps a b i (zAll a b i) b.length (by rw [zAll_len]; omega)
  rw [List.take_length] at h2
  rw [zAll, h2, zAll_ps a b i (by omega), ps_take_succ, PS.add_mul]
theorem tmL_ps (a b : List Int) (m : Int) : Cg m (ps (tmL a b m)) (ps a * ps b) := by
 have h := zAll_ps a b a.length (Nat.le_refl _)
 rw [List.take_length] at h
 rw [← h]
 exact Cg_md m _
theorem tmL_len (a b : List Int) (m : Int) : (tmL a b m).length = a.length + b.length - 1 := by rw [tmL, List.length_map, zAll_len]
set_option maxHeartbeats 4000000 in
theorem itimes_s (a b : List Int) (m : Int) (u v : Nat) (huv : u + v ≤ 100000) (la : a.length ≤ 1000) (lb : b.length ≤ 1000) (la0 : a ≠ []) (lb0 : b ≠ []) (hm0 : 0 < m) (ha : ∀ i, SmB u (a.getD i 0)) (hb : ∀ i, SmB v (b.getD i 0)) (hm : SmB (u + v) m) :
  FnS Tryz.prog 161 [cS .z a, cS .z b, aZ m] (cS .z (tmL a b m)) := by
 refine fs_intro Tryz.func161 rfl rfl rfl rfl rfl (by decide) ?_
 have pa := List.length_pos_iff.2 la0
 have pb := List.length_pos_iff.2 lb0
 have hzl : ∀ i, (zAll a b i).length = a.length + b.length - 1 := zAll_len a b
 refine rr rfl (rb (rm .z (a.length + b.length - 1) rfl rfl rfl rfl rfl rfl (fun g => zr_z g) (by omega) ?_ ?_ (re rfl ?_)))
 ·show _ * 32 ≤ _; omega
 ·show _ * 2 ≤ _; omega
 refine tr_seq (rr rfl ?_)
 refine tr_block (tr_loop (α := Nat) (fun i => ⟨[(0, cS .z a), (1, cS .z b), (5, .c (.P 0 0)), (7, .c (.X 1006000)), (19, cI a.length), (20, cI i)], [(0, .box 44 0 (av .z m)), (1006000, .vec 44 .z (zAll a b i))], 5, []⟩) (fun i => i ≤ a.length) (fun i => a.length - i) 0 (Nat.zero_le _) (wk ⟨sR rfl, sR rfl, sR rfl, sR rfl, sR rfl, sR rfl, trivial⟩ ⟨⟨_, rfl, BLe.of_eq rfl⟩, bR rfl, trivial⟩) ?_)
 ·intro i hi
  refine rr rfl (tr_seq (tr_cond rfl (fun h => ?_) (fun h => ?_)))
  ·have h : i < a.length := by
    have h : (i : Int) < (a.length : Int) := of_decide_eq_true h
    omega
   refine tr_skip (at_then (tr_seq (tr_block (rr rfl (rr rfl ?_)))))
   refine tr_block (tr_loop (α := Nat) (fun j => ⟨[(0, cS .z a), (1, cS .z b), (5, .c (.P 0 0)), (7, .c (.X 1006000)), (8, cI i), (19, cI a.length), (20, cI i), (24, cI b.length), (25, cI j)], [(0, .box 44 0 (av .z m)), (1006000, .vec 44 .z (zRow a b i j (zAll a b i)))], 8, []⟩) (fun j => j ≤ b.length) (fun j => b.length - j) 0 (Nat.zero_le _) (wk ⟨sR rfl, sR rfl, sR rfl, sR rfl, sR rfl, sR rfl, sR rfl, sR rfl, sR rfl, trivial⟩ ⟨bR rfl, bR rfl, trivial⟩) ?_)
   intro j hj
   have hl2 : (zRow a b i j (zAll a b i)).length = a.length + b.length - 1 := by rw [zRow_len, hzl]
   refine rr rfl (tr_seq (tr_cond rfl (fun h2 => ?_) (fun h2 => ?_)))
   ·have h2 : j < b.length := by
     have h2 : (j : Int) < (b.length : Int) := of_decide_eq_true h2
     omega
    have eij : ((i : Int) + (j : Int)).toNat = i + j := by omega
    have hz := zRow_B ha hb (i := i) (by omega) (zAll_B ha hb i (by omega)) j (i + j)
    have hmul : FnS Tryz.prog 105 [.a (av .z (a.getD ((i : Int)).toNat 0)), .a (av .z (b.getD ((j : Int)).toNat 0))] (aZ (a.getD i 0 * b.getD j 0)) := by
     rw [Int.toNat_natCast, Int.toNat_natCast]
     exact iMul_s _ _ ((ha i).sm (by omega)) ((hb j).sm (by omega))
    have hadd : FnS Tryz.prog 103 [.a (av .z ((zRow a b i j (zAll a b i)).getD ((i : Int) + (j : Int)).toNat 0)), aZ (a.getD i 0 * b.getD j 0)] (aZ ((zRow a b i j (zAll a b i)).getD (i + j) 0 + a.getD i 0 * b.getD j 0)) := by
     rw [eij]
     exact iAdd_s _ _ (hz.sm (by omega)) (((ha i).mul (hb j)).sm (by omega))
    refine tr_skip (at_then (tr_seq (tr_block (rr rfl (rbt (rc rfl rfl hmul (hp := by simp only [Pr.an, Pr.h, num, i64r, true_and, and_true]; first | done | omega) (rc rfl rfl hadd (rsv ((zRow a b i j (zAll a b i)).getD (i + j) 0 + a.getD i 0 * b.getD j 0) rfl rfl rfl rfl rfl (by rw [hl2]; omega) (re rfl ?_) (hp := by simp only [Pr.an, Pr.h, num, i64r, true_and, and_true]; first | done | omega)))))))))
    refine at_block (at_then (rt rfl (at_loop (j + 1) h2 (by show b.length - (j + 1) < b.length - j; omega) (wk ⟨sR rfl, sR rfl, sR rfl, sR rfl, sR rfl, sR rfl, sR rfl, sR rfl, sR rfl, trivial⟩ ⟨bR rfl, ⟨_, rfl, BLe.of_eq ?_⟩, trivial⟩))))
    rw [zRow, eij]
   ·have h2 : j = b.length := by
     have h2 : ¬ (j : Int) < (b.length : Int) := of_decide_eq_false h2
     omega
    subst h2
    exact tr_exit (at_then_exit (at_loop_exit (at_block_exit (at_block (at_then (rt rfl (at_loop (i + 1) h (by show a.length - (i + 1) < a.length - i; omega) (wk ⟨sR rfl, sR rfl, sR rfl, sR rfl, sR rfl, sR rfl, trivial⟩ ⟨bR rfl, ⟨_, rfl, BLe.of_eq rfl⟩, trivial⟩))))))))
  ·have h : i = a.length := by
    have h : ¬ (i : Int) < (a.length : Int) := of_decide_eq_false h
    omega
   subst h
   have hZ := zAll_B ha hb a.length (by omega)
   have hZl := hzl a.length
   have htm : tmL a b m = (zAll a b a.length).map (· % m) := rfl
   rw [htm]
   generalize zAll a b a.length = Z at *
   refine tr_exit (at_then_exit (at_loop_exit (at_block_exit (at_then ?_))))
   refine tr_seq (rr rfl ?_)
   refine tr_block (tr_loop (α := Nat) (fun i => ⟨[(1, cS .z b), (5, .c (.P 0 0)), (7, .c (.X 1006000)), (52, cI Z.length), (53, cI i)], [(0, .box 44 0 (av .z m)), (1006000, .vec 44 .z ((Z.map (· % m)).take i ++ Z.drop i))], 12, []⟩) (fun i => i ≤ Z.length) (fun i => Z.length - i) 0 (Nat.zero_le _) (wk ⟨sR rfl, sR rfl, sR rfl, sR rfl, sR rfl, trivial⟩ ⟨bR rfl, bR rfl, trivial⟩) ?_)
   intro i hi
   have hl3 : ((Z.map (· % m)).take i).length = i := by simp; omega
   have hl4 : ((Z.map (· % m)).take i ++ Z.drop i).length = Z.length := by simp; omega
   have hgi : ((Z.map (· % m)).take i ++ Z.drop i).getD i 0 = Z.getD i 0 := by
    rw [List.getD_eq_getElem?_getD, List.getElem?_append_right (by omega), hl3, Nat.sub_self, List.getElem?_drop, Nat.add_zero, ← List.getD_eq_getElem?_getD]
   refine rr rfl (tr_seq (tr_cond rfl (fun h => ?_) (fun h => ?_)))
   ·have h : i < Z.length := by
     have h : (i : Int) < (Z.length : Int) := of_decide_eq_true h
     omega
    have hdm : FnS Tryz.prog 162 [.a (av .z (((Z.map (· % m)).take i ++ Z.drop i).getD ((i : Int)).toNat 0)), aZ m] (.t [(true, av .z (Z.getD i 0 / m)), (true, av .z (Z.getD i 0 % m)), (false, [.I .i64 0])]) := by
     rw [Int.toNat_natCast, hgi]
     exact iDivMod_s _ m (by omega) ((hZ i).sm (by omega)) (hm.sm (by omega))
    refine tr_skip (at_then (tr_seq (tr_block (rr rfl (rbt (rc rfl rfl hdm (hp := by simp only [Pr.an, Pr.h, num, i64r, true_and, and_true]; first | done | omega) (rsv (Z.getD i 0 % m) rfl rfl rfl rfl rfl (by show (i : Int).toNat < _; rw [Int.toNat_natCast, hl4]; exact h) (re rfl ?_) (hp := by simp only [Pr.an, Pr.h, num, i64r, true_and, and_true]; first | done | omega))))))))
    refine at_block (at_then (rt rfl (at_loop (i + 1) h (by show Z.length - (i + 1) < Z.length - i; omega) (wk ⟨sR rfl, sR rfl, sR rfl, sR rfl, sR rfl, trivial⟩ ⟨bR rfl, ⟨_, rfl, BLe.of_eq ?_⟩, trivial⟩))))
    refine congrArg (Blk.vec 44 .z) ?_
    rw [Int.toNat_natCast, take_succ_get _ i (by simp; exact h), List.append_assoc, List.set_append_right _ _ (by omega), hl3, Nat.sub_self, List.drop_eq_getElem_cons h, List.set_cons_zero, getD_map (Int.zero_emod m)]
    rfl
   ·have h : i = Z.length := by
     have h : ¬ (i : Int) < (Z.length : Int) := of_decide_eq_false h
     omega
    subst h
    rw [List.drop_length, List.append_nil, List.take_of_length_le (by simp)]
    exact tr_exit (at_then_exit (at_loop_exit (at_block_exit (at_then (tr_frz 1006000 rfl rfl rfl (rr rfl (tr_ret (at_ret TT_ok rfl (AVle.refl _))))))))) 
set_option maxHeartbeats 4000000 in
theorem itimesM_s (a b : List Int) (m : Int) (u v : Nat) (huv : u + v ≤ 100000) (la : a.length ≤ 1000) (lb : b.length ≤ 1000) (la0 : a ≠ []) (lb0 : b ≠ []) (hm0 : 0 < m) (ha : ∀ i, SmB u (a.getD i 0)) (hb : ∀ i, SmB v (b.getD i 0)) (hm : SmB (u + v) m) :
  FnM Tryz.prog 161 [cS .z a, .c (.X 0), aZ m] 44 .z b (cS .z (tmL a b m)) b := by
 refine fm_intro Tryz.func161 rfl rfl rfl rfl rfl (by decide) ?_
 have pa := List.length_pos_iff.2 la0
 have pb := List.length_pos_iff.2 lb0
 have hzl : ∀ i, (zAll a b i).length = a.length + b.length - 1 := zAll_len a b
 refine rr rfl (rb (rm .z (a.length + b.length - 1) rfl rfl rfl rfl rfl rfl (fun g => zr_z g) (by omega) ?_ ?_ (re rfl ?_)))
 ·show _ * 32 ≤ _; omega
 ·show _ * 2 ≤ _; omega
 refine tr_seq (rr rfl ?_)
 refine tr_block (tr_loop (α := Nat) (fun i => ⟨[(0, cS .z a), (1, .c (.X 0)), (5, .c (.P 1000000 0)), (7, .c (.X 2006000)), (19, cI a.length), (20, cI i)], [(0, .vec 44 .z b), (1000000, .box 44 0 (av .z m)), (2006000, .vec 44 .z (zAll a b i))], 5, []⟩) (fun i => i ≤ a.length) (fun i => a.length - i) 0 (Nat.zero_le _) (wk ⟨sR rfl, sR rfl, sR rfl, sR rfl, sR rfl, sR rfl, trivial⟩ ⟨bR rfl, ⟨_, rfl, BLe.of_eq rfl⟩, bR rfl, trivial⟩) ?_)
 ·intro i hi
  refine rr rfl (tr_seq (tr_cond rfl (fun h => ?_) (fun h => ?_)))
  ·have h : i < a.length := by
    have h : (i : Int) < (a.length : Int) := of_decide_eq_true h
    omega
   refine tr_skip (at_then (tr_seq (tr_block (rr rfl (rr rfl ?_)))))
   refine tr_block (tr_loop (α := Nat) (fun j => ⟨[(0, cS .z a), (1, .c (.X 0)), (5, .c (.P 1000000 0)), (7, .c (.X 2006000)), (8, cI i), (19, cI a.length), (20, cI i), (24, cI b.length), (25, cI j)], [(0, .vec 44 .z b), (1000000, .box 44 0 (av .z m)), (2006000, .vec 44 .z (zRow a b i j (zAll a b i)))], 8, []⟩) (fun j => j ≤ b.length) (fun j => b.length - j) 0 (Nat.zero_le _) (wk ⟨sR rfl, sR rfl, sR rfl, sR rfl, sR rfl, sR rfl, sR rfl, sR rfl, sR rfl, trivial⟩ ⟨bR rfl, bR rfl, bR rfl, trivial⟩) ?_)
   intro j hj
   have hl2 : (zRow a b i j (zAll a b i)).length = a.length + b.length - 1 := by rw [zRow_len, hzl]
   refine rr rfl (tr_seq (tr_cond rfl (fun h2 => ?_) (fun h2 => ?_)))
   ·have h2 : j < b.length := by
     have h2 : (j : Int) < (b.length : Int) := of_decide_eq_true h2
     omega
    have eij : ((i : Int) + (j : Int)).toNat = i + j := by omega
    have hz := zRow_B ha hb (i := i) (by omega) (zAll_B ha hb i (by omega)) j (i + j)
    have hmul : FnS Tryz.prog 105 [.a (av .z (a.getD ((i : Int)).toNat 0)), .a (av .z (b.getD ((j : Int)).toNat 0))] (aZ (a.getD i 0 * b.getD j 0)) := by
     rw [Int.toNat_natCast, Int.toNat_natCast]
     exact iMul_s _ _ ((ha i).sm (by omega)) ((hb j).sm (by omega))
    have hadd : FnS Tryz.prog 103 [.a (av .z ((zRow a b i j (zAll a b i)).getD ((i : Int) + (j : Int)).toNat 0)), aZ (a.getD i 0 * b.getD j 0)] (aZ ((zRow a b i j (zAll a b i)).getD (i + j) 0 + a.getD i 0 * b.getD j 0)) := by
     rw [eij]
     exact iAdd_s _ _ (hz.sm (by omega)) (((ha i).mul (hb j)).sm (by omega))
    refine tr_skip (at_then (tr_seq (tr_block (rr rfl (rbt (rc rfl rfl hmul (hp := by simp only [Pr.an, Pr.h, num, i64r, true_and, and_true]; first | done | omega) (rc rfl rfl hadd (rsv ((zRow a b i j (zAll a b i)).getD (i + j) 0 + a.getD i 0 * b.getD j 0) rfl rfl rfl rfl rfl (by rw [hl2]; omega) (re rfl ?_) (hp := by simp only [Pr.an, Pr.h, num, i64r, true_and, and_true]; first | done | omega)))))))))
    refine at_block (at_then (rt rfl (at_loop (j + 1) h2 (by show b.length - (j + 1) < b.length - j; omega) (wk ⟨sR rfl, sR rfl, sR rfl, sR rfl, sR rfl, sR rfl, sR rfl, sR rfl, sR rfl, trivial⟩ ⟨bR rfl, bR rfl, ⟨_, rfl, BLe.of_eq ?_⟩, trivial⟩))))
    rw [zRow, eij]
   ·have h2 : j = b.length := by
     have h2 : ¬ (j : Int) < (b.length : Int) := of_decide_eq_false h2
     omega
    subst h2
    exact tr_exit (at_then_exit (at_loop_exit (at_block_exit (at_block (at_then (rt rfl (at_loop (i + 1) h (by show a.length - (i + 1) < a.length - i; omega) (wk ⟨sR rfl, sR rfl, sR rfl, sR rfl, sR rfl, sR rfl, trivial⟩ ⟨bR rfl, bR rfl, ⟨_, rfl, BLe.of_eq rfl⟩, trivial⟩))))))))
  ·have h : i = a.length := by
    have h : ¬ (i : Int) < (a.length : Int) := of_decide_eq_false h
    omega
   subst h
   have hZ := zAll_B ha hb a.length (by omega)
   have hZl := hzl a.length
   have htm : tmL a b m = (zAll a b a.length).map (· % m) := rfl
   rw [htm]
   generalize zAll a b a.length = Z at *
   refine tr_exit (at_then_exit (at_loop_exit (at_block_exit (at_then ?_))))
   refine tr_seq (rr rfl ?_)
   refine tr_block (tr_loop (α := Nat) (fun i => ⟨[(1, .c (.X 0)), (5, .c (.P 1000000 0)), (7, .c (.X 2006000)), (52, cI Z.length), (53, cI i)], [(0, .vec 44 .z b), (1000000, .box 44 0 (av .z m)), (2006000, .vec 44 .z ((Z.map (· % m)).take i ++ Z.drop i))], 12, []⟩) (fun i => i ≤ Z.length) (fun i => Z.length - i) 0 (Nat.zero_le _) (wk ⟨sR rfl, sR rfl, sR rfl, sR rfl, sR rfl, trivial⟩ ⟨bR rfl, bR rfl, bR rfl, trivial⟩) ?_)
   intro i hi
   have hl3 : ((Z.map (· % m)).take i).length = i := by simp; omega
   have hl4 : ((Z.map (· % m)).take i ++ Z.drop i).length = Z.length := by simp; omega
   have hgi : ((Z.map (· % m)).take i ++ Z.drop i).getD i 0 = Z.getD i 0 := by
    rw [List.getD_eq_getElem?_getD, List.getElem?_append_right (by omega), hl3, Nat.sub_self, List.getElem?_drop, Nat.add_zero, ← List.getD_eq_getElem?_getD]
   refine rr rfl (tr_seq (tr_cond rfl (fun h => ?_) (fun h => ?_)))
   ·have h : i < Z.length := by
     have h : (i : Int) < (Z.length : Int) := of_decide_eq_true h
     omega
    have hdm : FnS Tryz.prog 162 [.a (av .z (((Z.map (· % m)).take i ++ Z.drop i).getD ((i : Int)).toNat 0)), aZ m] (.t [(true, av .z (Z.getD i 0 / m)), (true, av .z (Z.getD i 0 % m)), (false, [.I .i64 0])]) := by
     rw [Int.toNat_natCast, hgi]
     exact iDivMod_s _ m (by omega) ((hZ i).sm (by omega)) (hm.sm (by omega))
    refine tr_skip (at_then (tr_seq (tr_block (rr rfl (rbt (rc rfl rfl hdm (hp := by simp only [Pr.an, Pr.h, num, i64r, true_and, and_true]; first | done | omega) (rsv (Z.getD i 0 % m) rfl rfl rfl rfl rfl (by show (i : Int).toNat < _; rw [Int.toNat_natCast, hl4]; exact h) (re rfl ?_) (hp := by simp only [Pr.an, Pr.h, num, i64r, true_and, and_true]; first | done | omega))))))))
    refine at_block (at_then (rt rfl (at_loop (i + 1) h (by show Z.length - (i + 1) < Z.length - i; omega) (wk ⟨sR rfl, sR rfl, sR rfl, sR rfl, sR rfl, trivial⟩ ⟨bR rfl, bR rfl, ⟨_, rfl, BLe.of_eq ?_⟩, trivial⟩))))
    refine congrArg (Blk.vec 44 .z) ?_
    rw [Int.toNat_natCast, take_succ_get _ i (by simp; exact h), List.append_assoc, List.set_append_right _ _ (by omega), hl3, Nat.sub_self, List.drop_eq_getElem_cons h, List.set_cons_zero, getD_map (Int.zero_emod m)]
    rfl
   ·have h : i = Z.length := by
     have h : ¬ (i : Int) < (Z.length : Int) := of_decide_eq_false h
     omega
    subst h
    rw [List.drop_length, List.append_nil, List.take_of_length_le (by simp)]
    exact tr_exit (at_then_exit (at_loop_exit (at_block_exit (at_then (tr_frz 2006000 rfl rfl rfl (rr rfl (tr_ret (at_retM TT_ok rfl (AVle.refl _) rfl)))))))) 
theorem iisMonic_s (a : List Int) (la : a.length ≤ 1000) (h0 : a ≠ []) (ha : ∀ i, Sm (a.getD i 0)) (h1 : a.getD (a.length - 1) 0 = 1) : FnS Tryz.prog 90 [cS .z a] (cB true) := by
 refine fs_intro Tryz.func90 rfl rfl rfl rfl rfl (by decide) ?_
 have hl := List.length_pos_iff.2 h0
 refine rr rfl (tr_seq (rr rfl (tr_block (tr_loop (α := Nat) (fun i => ⟨[(0, cS .z a), (5, cS .z a), (6, cI a.length), (7, cI i)], [], 2, []⟩) (fun i => i ≤ a.length) (fun i => a.length - i) 0 (Nat.zero_le _) (wk ⟨sR rfl, sR rfl, sR rfl, sR rfl, trivial⟩ trivial) ?_))))
 intro i hi
 refine rr rfl (tr_seq (tr_cond rfl (fun h => ?_) (fun h => ?_)))
 ·have h : i < a.length := by
   have h : (i : Int) < (a.length : Int) := of_decide_eq_true h
   omega
  have hv : FnS Tryz.prog 157 [.a (av .z (a.getD ((i : Int)).toNat 0))] (cB true) := by
   rw [Int.toNat_natCast]; exact iValid_s _ (ha i)
  refine tr_skip (at_then (tr_seq (tr_block (rr rfl (hp := by simp only [Pr.an, Pr.h, num, i64r, true_and, and_true]; first | done | omega) (rb (rc rfl rfl hv (re rfl ?_)))))))
  refine tr_cond rfl (fun h2 => by cases h2) (fun _ => tr_skip (at_block (at_then ?_)))
  exact rt rfl (at_loop (i + 1) h (by show a.length - (i + 1) < a.length - i; omega) (wk ⟨sR rfl, sR rfl, sR rfl, sR rfl, trivial⟩ trivial))
 ·refine tr_exit (at_then_exit (at_loop_exit (at_block_exit (at_then (rb (rg 18 rfl rfl (fun h2 => ?_) (fun h2 => ?_)))))))
  ·have e : FnS Tryz.prog 149 [.a (av .z (a.getD (((a.length : Int) - 1)).toNat 0)), aZ 1] (cI 0) := by
    have := iCmp_s (a.getD (((a.length : Int) - 1)).toNat 0) 1
    rw [show ((a.length : Int) - 1).toNat = a.length - 1 by omega, h1] at this ⊢
    exact this
   refine rcg rfl rfl rfl rfl rfl (iOf_s 1 (by decide) (by decide)) (rcg rfl rfl rfl rfl rfl e (re rfl (tr_ret (at_ret TT_ok rfl (AVle.refl _)))) (hp := by simp only [Pr.an, Pr.h, num, i64r, true_and, and_true]; first | done | omega)) (hp := by simp only [Pr.an, Pr.h, num, i64r, true_and, and_true]; first | done | omega)
  ·exfalso
   have h2 : ¬ (a.length : Int) > 0 := of_decide_eq_false h2
   omega
def mxL (c : List Int) : Nat → Int
 | 0 => c.getD 0 0
 | i + 1 => if c.getD (i + 1) 0 > mxL c i then c.getD (i + 1) 0 else mxL c i
theorem smax_s (c : List Int) (p : Int) (lc : c.length ≤ 1000) (h0 : c ≠ []) (hc : rp p c) : ∃ M : Int, 0 ≤ M ∧ M < p ∧ FnS Tryz.prog 91 [cS U64 c] (cU M) := by
 have hl := List.length_pos_iff.2 h0
 have hf : ∀ i, 0 ≤ mxL c i ∧ mxL c i < p := by
  intro i
  induction i with
  | zero => exact hc 0
  | succ i ih =>
   rw [mxL]
   split
   ·exact hc _
   ·exact ih
 refine ⟨mxL c (c.length - 1), (hf _).1, (hf _).2, ?_⟩
 refine fs_intro Tryz.func91 rfl rfl rfl rfl rfl (by decide) ?_
 refine rr rfl (tr_seq (rr rfl (tr_cond rfl (fun h => ?_) (fun h => tr_skip (at_then ?_)))))
 ·exfalso
  have h : (c.length : Int) < 1 := of_decide_eq_true h
  omega
 refine rr rfl (hp := by simp only [Pr.an, Pr.h, num, i64r, true_and, and_true]; first | done | omega) (tr_seq (rr rfl (tr_block (tr_loop (α := Nat) (fun i => ⟨[(0, cS U64 c), (3, cU (mxL c i)), (4, cI ((i : Int) + 1))], [], 5, []⟩) (fun i => i + 1 ≤ c.length) (fun i => c.length - i) 0 hl (wk ⟨sR rfl, sR rfl, sR rfl, trivial⟩ trivial) ?_))))
 intro i hi
 refine tr_seq (rr rfl (tr_cond rfl (fun h => ?_) (fun h => ?_)))
 ·have h : i + 1 < c.length := by
   have h : (i : Int) + 1 < (c.length : Int) := of_decide_eq_true h
   omega
  refine tr_skip (at_then (tr_seq (tr_block (rt rfl (hp := by simp only [Pr.an, Pr.h, num, i64r, true_and, and_true]; first | done | omega) (at_block (at_then (rt rfl (at_loop (i + 1) h (by show c.length - (i + 1) < c.length - i; omega) (wk ⟨sR rfl, ⟨_, rfl, AVle.of_eq ?_⟩, sR rfl, trivial⟩ trivial)))))))))
  refine congrArg (fun z => AV.c (C.I .u64 z)) ?_
  rw [show ((i : Int) + 1).toNat = i + 1 by omega]
  rfl
 ·have h : i = c.length - 1 := by
   have h : ¬ (i : Int) + 1 < (c.length : Int) := of_decide_eq_false h
   omega
  subst h
  exact tr_exit (at_then_exit (at_loop_exit (at_block_exit (at_then (rr rfl (tr_ret (at_ret TT_ok rfl (AVle.refl _))))))))
theorem sequal_s (a b : List Int) (la : a.length ≤ 1000000) : FnS Tryz.prog 95 [cS U64 a, cS U64 b] (cB (decide (a = b))) := by
 refine fs_intro Tryz.func95 rfl rfl rfl rfl rfl (by decide) ?_
 refine rr rfl (tr_seq (rr rfl (tr_cond rfl (fun h => ?_) (fun h => tr_skip (at_then ?_)))))
 ·have h := bne_z h
  refine rr rfl (tr_ret (at_then_ret (at_ret TT_ok rfl (AVle.of_eq (congrArg cB ?_)))))
  rw [decide_eq_false (fun e => h (by rw [e]))]
 ·have h := bne_z' h
  have hl : a.length = b.length := by omega
  refine tr_seq (rr rfl (tr_block (tr_loop (α := Nat) (fun i => ⟨[(0, cS U64 a), (1, cS U64 b), (12, cI a.length), (13, cI i)], [], 4, []⟩) (fun i => i ≤ a.length ∧ a.take i = b.take i) (fun i => a.length - i) 0 ⟨Nat.zero_le _, by simp⟩ (wk ⟨sR rfl, sR rfl, sR rfl, sR rfl, trivial⟩ trivial) ?_)))
  rintro i ⟨hi, ht⟩
  refine rr rfl (tr_seq (tr_cond rfl (fun h2 => ?_) (fun h2 => ?_)))
  ·have h2 : i < a.length := by
    have h2 : (i : Int) < (a.length : Int) := of_decide_eq_true h2
    omega
   refine tr_skip (at_then (tr_seq (tr_block (rr rfl (rr rfl (hp := by simp only [Pr.an, Pr.h, num, i64r, true_and, and_true]; first | done | omega) (tr_cond rfl (fun h3 => ?_) (fun h3 => tr_skip (at_block (at_then ?_)))))))))
   ·have h3 : a.getD i 0 ≠ b.getD i 0 := bne_z h3
    refine rr rfl (tr_ret ?_)
    repeat (first | refine at_then_ret ?_ | refine at_block_ret ?_ | refine at_loop_ret ?_)
    refine at_ret TT_ok rfl (AVle.of_eq (congrArg cB ?_))
    rw [decide_eq_false (fun e => h3 (by rw [e]))]
   ·have h3 : a.getD i 0 = b.getD i 0 := bne_z' h3
    exact rt rfl (at_loop (i + 1) ⟨h2, by rw [take_succ_get a i h2, take_succ_get b i (by omega), ht, h3]⟩ (by show a.length - (i + 1) < a.length - i; omega) (wk ⟨sR rfl, sR rfl, sR rfl, sR rfl, trivial⟩ trivial))
  ·have h2 : i = a.length := by
    have h2 : ¬ (i : Int) < (a.length : Int) := of_decide_eq_false h2
    omega
   subst h2
   rw [List.take_length, List.take_of_length_le (by omega)] at ht
   refine tr_exit (at_then_exit (at_loop_exit (at_block_exit (at_then (rr rfl (tr_ret (at_ret TT_ok rfl (AVle.of_eq (congrArg cB ?_)))))))))
   rw [decide_eq_true ht]
end Go.El

/- The engine, part 44: slices of slices: families of vectors; other ids; cells that hold vectors. Own work; no condition. -/
namespace Go.El
open Go Go.RowKit
section
variable {P : Program} {tt : TT}
theorem rg_runs2 {n : Nat} {ops : Array Oper} {draw : Bool} {nx : Nat} {Q : St → Prop} (htt : ttB P tt = true) : ∀ (os os2 : List Oper) (i : Nat) (st : St) (p : Pr) (ks : List Ks) {i' : Nat} {st' : St} {p' : Pr} {ks' : List Ks},
  runs tt n nx draw ops.toList os i st p ks = ([], i', st', p', ks') → p'.h → (RG P n ops draw nx i' os2 st' ks' Q) → p.h ∧ RG P n ops draw nx i (os ++ os2) st ks Q
 | [], os2, i, st, p, ks, i', st', p', ks', h, hp, hr => by
  simp only [runs, Prod.mk.injEq] at h
  obtain ⟨_, rfl, rfl, rfl, rfl⟩ := h
  exact ⟨hp, hr⟩
 | o :: os, os2, i, st, p, ks, i', st', p', ks', h, hp, hr => by
  simp only [runs] at h
  split at h
  ·rename_i st1 q k hs
   obtain ⟨h12, h3⟩ := rg_runs2 htt os os2 (i + 1) st1 (.an p q) (addK draw ks k) h hp hr
   obtain ⟨h1, h2⟩ := Pr.an_h h12
   exact ⟨h1, rg_step htt hs h2 (rg_addK h3)⟩
  ·simp only [Prod.mk.injEq] at h
   obtain ⟨h0, _⟩ := h
   cases h0
theorem rg_runK {n : Nat} {ops : Array Oper} {draw : Bool} {nx i : Nat} {os : List Oper} {st : St} {ks : List Ks} {Q : St → Prop} {i' : Nat} {st' : St} {p' : Pr} {ks' : List Ks} (htt : ttB P tt = true) (k : Nat)
  (h : runs tt n nx draw ops.toList (os.take k) i st .t ks = ([], i', st', p', ks')) (hp : p') {o : Oper} {os' : List Oper} (hos : os.drop k = o :: os') (hr : RG P n ops draw nx i' (o :: os') st' ks' Q) : RG P n ops draw nx i os st ks Q := by
 have := (rg_runs2 htt (os.take k) (os.drop k) i st .t ks h hp (by rw [hos]; exact hr)).2
 rwa [List.take_append_drop] at this
theorem rg_ldC {n : Nat} {ops : Array Oper} {draw : Bool} {nx i : Nat} {d : Nat} {t : TypeId} {x : Operand} {ty : TypeId} {pos : String} {aft : Array Edge} {os : List Oper} {sl : List (Nat × AV)} {mem : List (Nat × Blk)} {n0 : Nat} {gd : List (Nat × Bool)} {ks : List Ks} {Q : St → Prop} (htt : ttB P tt = true)
  {id off : Nat} {E : TypeId} {bz : Nat} {cs : List C} {c : C} (hx : St.ev ⟨sl, mem, n0, gd⟩ x = some (.c (.P id off))) (hl : lookA id mem = some (.box E bz cs)) (hc : cs[off]? = some c) (hts : tySz tt t = some (1, false))
  (h : RG P n ops draw nx (i + 1) os ⟨(d, .c c) :: sl, mem, n0, gd⟩ (addK draw ks (okeys [x] ++ mkeys [id], [.s d])) Q) (hdn : Nat.blt d n = true := by rfl) :
  RG P n ops draw nx i (⟨some d, .load t x, ty, pos, aft, none⟩ :: os) ⟨sl, mem, n0, gd⟩ ks Q := by
 have hdn : d < n := Nat.le_of_ble_eq_true hdn
 refine rg_step (p := .t) htt (st1 := ⟨(d, .c c) :: sl, mem, n0, gd⟩) (k := (okeys [x] ++ mkeys [id], [.s d])) ?_ trivial (rg_addK h)
 simp only [step1, step0, hdn, if_true, hx, ldA, hts, hl, partA, Bool.false_eq_true, if_false, hc, Option.map_some]
theorem rg_idxX {n : Nat} {ops : Array Oper} {draw : Bool} {nx i : Nat} {d : Nat} {t : TypeId} {x y : Operand} {ty : TypeId} {pos : String} {aft : Array Edge} {os : List Oper} {sl : List (Nat × AV)} {mem : List (Nat × Blk)} {n0 : Nat} {gd : List (Nat × Bool)} {ks : List Ks} {Q : St → Prop} (htt : ttB P tt = true)
  {id : Nat} {E : TypeId} {T : ET} {xs : List T.den} {k : IntKind} {j : Int} (hx : St.ev ⟨sl, mem, n0, gd⟩ x = some (.c (.X id))) (hl : lookA id mem = some (.vec E T xs)) (hy : St.ev ⟨sl, mem, n0, gd⟩ y = some (.c (.I k j))) (hst : slTy tt t T.n = true) (h0 : 0 ≤ j) (h1 : j < xs.length)
  (h : RG P n ops draw nx (i + 1) os ⟨(d, .c (.Y id T.n j.toNat 0)) :: sl, mem, n0, gd⟩ (addK draw ks (okeys [x, y] ++ mkeys [id], [.s d])) Q) (hdn : Nat.blt d n = true := by rfl) :
  RG P n ops draw nx i (⟨some d, .indexAddr t x y, ty, pos, aft, none⟩ :: os) ⟨sl, mem, n0, gd⟩ ks Q := by
 have hdn : d < n := Nat.le_of_ble_eq_true hdn
 refine rg_step (p := .and (.le 0 j) (.lt j xs.length)) htt (st1 := ⟨(d, .c (.Y id T.n j.toNat 0)) :: sl, mem, n0, gd⟩) (k := (okeys [x, y] ++ mkeys [id], [.s d])) ?_ ⟨h0, h1⟩ (rg_addK h)
 simp only [step1, step0, hdn, if_true, hx, hy, idxX, hl, hst]
theorem rg_ldY {n : Nat} {ops : Array Oper} {draw : Bool} {nx i : Nat} {d : Nat} {t : TypeId} {x : Operand} {ty : TypeId} {pos : String} {aft : Array Edge} {os : List Oper} {sl : List (Nat × AV)} {mem : List (Nat × Blk)} {n0 : Nat} {gd : List (Nat × Bool)} {ks : List Ks} {Q : St → Prop} (htt : ttB P tt = true)
  {id m j off : Nat} {E : TypeId} {T : ET} {xs : List T.den} {sz : Nat} {ag : Bool} {y : AV} (hx : St.ev ⟨sl, mem, n0, gd⟩ x = some (.c (.Y id m j off))) (hl : lookA id mem = some (.vec E T xs)) (hm : T.n = m) (hts : tySz tt t = some (sz, ag)) (hp : partA (av T (xs.getD j T.dflt)) off sz ag = some y) (hj : j < xs.length)
  (h : RG P n ops draw nx (i + 1) os ⟨(d, y) :: sl, mem, n0, gd⟩ (addK draw ks (okeys [x] ++ mkeys [id], [.s d])) Q) (hdn : Nat.blt d n = true := by rfl) :
  RG P n ops draw nx i (⟨some d, .load t x, ty, pos, aft, none⟩ :: os) ⟨sl, mem, n0, gd⟩ ks Q := by
 have hdn : d < n := Nat.le_of_ble_eq_true hdn
 refine rg_step (p := .ltN j xs.length) htt (st1 := ⟨(d, y) :: sl, mem, n0, gd⟩) (k := (okeys [x] ++ mkeys [id], [.s d])) ?_ hj (rg_addK h)
 simp only [step1, step0, hdn, if_true, hx, ldA, hts, hl, hm, hp]
theorem rg_lenX {n : Nat} {ops : Array Oper} {draw : Bool} {nx i : Nat} {d : Nat} {t : TypeId} {x : Operand} {ty : TypeId} {pos : String} {aft : Array Edge} {os : List Oper} {sl : List (Nat × AV)} {mem : List (Nat × Blk)} {n0 : Nat} {gd : List (Nat × Bool)} {ks : List Ks} {Q : St → Prop} (htt : ttB P tt = true)
  {id : Nat} {v : AV} (hx : St.ev ⟨sl, mem, n0, gd⟩ x = some (.c (.X id))) (hl : lenX tt ⟨sl, mem, n0, gd⟩ t id = some v)
  (h : RG P n ops draw nx (i + 1) os ⟨(d, v) :: sl, mem, n0, gd⟩ (addK draw ks (okeys [x] ++ mkeys [id], [.s d])) Q) (hdn : Nat.blt d n = true := by rfl) :
  RG P n ops draw nx i (⟨some d, .call ⟨.builtin .len, #[x], #[t]⟩, ty, pos, aft, none⟩ :: os) ⟨sl, mem, n0, gd⟩ ks Q := by
 have hdn : d < n := Nat.le_of_ble_eq_true hdn
 refine rg_step (p := .t) htt (st1 := ⟨(d, v) :: sl, mem, n0, gd⟩) (k := (okeys [x] ++ mkeys [id], [.s d])) ?_ trivial (rg_addK h)
 simp only [step1, step0, hdn, if_true, hx, hl]
theorem evalL_ok (htt : ttB P tt = true) {n new : Nat} {ops : Array Oper} {i : Nat} {o : Oper} (ho : ops[i]? = some o) (hg : o.guard = none) {d : Nat} (hd : o.dst = some d) (hdn : d < n) {st : St} {x : AV} {p : Pr} (he : evalL tt st o.op = some (x, p)) (hp : p) : StepOk P n ops i st (st.put d x) new (okeys o.op.operands.toList, [.s d]) := by
 refine ⟨rdV st o.op, [(.s d, some (.v x))], evalL_sound htt ho hg hd hdn he hp new, ?_, kn_put st d x, okeys_opd st _, fun k hk => by simpa [keysOf] using hk⟩
 intro kx hkx
 obtain ⟨x, _, h⟩ := List.mem_flatMap.1 hkx
 exact opd_kn st x kx h
theorem rg_evalL {n : Nat} {ops : Array Oper} {draw : Bool} {nx i : Nat} {d : Nat} {op : Op} {ty : TypeId} {pos : String} {aft : Array Edge} {os : List Oper} {sl : List (Nat × AV)} {mem : List (Nat × Blk)} {n0 : Nat} {gd : List (Nat × Bool)} {ks : List Ks} {Q : St → Prop} (htt : ttB P tt = true) {x : AV} {p : Pr} (he : evalL tt ⟨sl, mem, n0, gd⟩ op = some (x, p)) (hp : p)
  (h : RG P n ops draw nx (i + 1) os ⟨(d, x) :: sl, mem, n0, gd⟩ (addK draw ks (okeys op.operands.toList, [.s d])) Q) (hdn : Nat.blt d n = true := by rfl) :
  RG P n ops draw nx i (⟨some d, op, ty, pos, aft, none⟩ :: os) ⟨sl, mem, n0, gd⟩ ks Q :=
 rg_ok (fun ho => evalL_ok htt ho rfl rfl (Nat.le_of_ble_eq_true hdn) he hp) (rg_addK h)
theorem rg_makeL {n : Nat} {ops : Array Oper} {draw : Bool} {nx i : Nat} {d t : Nat} {x : Operand} {ty : TypeId} {pos : String} {aft : Array Edge} {os : List Oper} {sl : List (Nat × AV)} {mem : List (Nat × Blk)} {n0 : Nat} {gd : List (Nat × Bool)} {ks : List Ks} {Q : St → Prop} (htt : ttB P tt = true)
  (m : Nat) {k : IntKind} (hx : St.ev ⟨sl, mem, n0, gd⟩ x = some (.c (.I k (m : Int)))) {E : Nat} {ti ei : TI} (hti : lookA t tt = some ti) (hk : ti.kind = .sl E) (hei : lookA E tt = some ei) (hpos : 0 < ei.size) (hb : m * ei.bytes ≤ 16777216) (hb2 : m ≤ 16777216)
  (h : RG P n ops draw nx (i + 1) os ⟨(d, .c (.L (1000000 * nx + 1000 * i) 0 m (some m))) :: sl, (1000000 * nx + 1000 * i, .box E 0 (flatRep (ei.zero.map ZV.toC) m)) :: mem, n0, gd⟩ (addK draw ks (okeys [x, x], [.s d, .m (1000000 * nx + 1000 * i)])) Q) (hdn : Nat.blt d n = true := by rfl) :
  RG P n ops draw nx i (⟨some d, .makeSlice t x x, ty, pos, aft, none⟩ :: os) ⟨sl, mem, n0, gd⟩ ks Q := by
 refine rg_ok (fun ho => ⟨_, _, makeL_sound htt ho rfl rfl (Nat.le_of_ble_eq_true hdn) rfl hx hx hti hk hei hpos hb hb2 _, ?_, kn_put_pm ⟨sl, mem, n0, gd⟩ d _ _ _, fun k hk => okeys_opd ⟨sl, mem, n0, gd⟩ [x, x] k hk, fun k hk => by simpa [keysOf] using hk⟩) (rg_addK h)
 intro kx hkx
 obtain ⟨x, _, h⟩ := List.mem_flatMap.1 hkx
 exact opd_kn _ x kx h
theorem storeX_sound (htt : ttB P tt = true) {ops : Array Oper} {i : Nat} {o : Oper} (ho : ops[i]? = some o) (hg : o.guard = none) (hd : o.dst = none) {n : Nat} {t : TypeId} {x y : Operand} (hop : o.op = .store t x y)
  {st : St} {id off j : Nat} {E : TypeId} {bz : Nat} {cs : List C} {E2 : TypeId} {T : ET} {xs : List T.den} (hx : st.ev x = some (.c (.P id off))) (hy : st.ev y = some (.c (.X j))) (hl : lookA id st.mem = some (.box E bz cs)) (hj : lookA j st.mem = some (.vec E2 T xs)) {ag : Bool} (hts : tySz tt t = some (1, ag)) (h1 : off < cs.length) (new : Nat) :
  StepS P n ops i (opd st x ++ opd st y ++ mrd st [id, j]) [(.m id, some (.b (.box E bz (over cs [.X j] off))))] new := by
 intro F hFn Q known σ g W a K hnew hsem hrd hK
 have hrx := ev_rel hsem st x _ hx (fun kx hkx => hrd kx (by simp [hkx]))
 have hry := ev_rel hsem st y _ hy (fun kx hkx => hrd kx (by simp [hkx]))
 have hmy := ev_mids hsem st y _ hy (fun kx hkx => hrd kx (by simp [hkx]))
 have hσ : σ (.m id) = some (.b (.box E bz cs)) := hrd (.m id, .b (.box E bz cs)) (by simp [mrd, hl])
 have hσj : σ (.m j) = some (.b (.vec E2 T xs)) := hrd (.m j, .b (.vec E2 T xs)) (by simp [mrd, hj])
 obtain ⟨b, vs, rest, hγ, hh, hr, hN, hz, hcp⟩ := hsem.blks id _ hσ
 have hrj := hsem.blks j _ hσj
 obtain ⟨b', hγ', hv⟩ := hrx
 rw [hγ] at hγ'
 simp only [Option.some.injEq] at hγ'
 subst hγ'
 have hyv : a.eval y = g.γ j := hry
 have hone : oneB (a.eval y) = true := by
  rw [hyv]
  rcases hrj with ⟨e, _⟩ | ⟨_, _, _, e, _⟩ <;> rw [e] <;> rfl
 have hcells : (a.eval y).cells = [a.eval y].toArray := by
  rw [hyv]
  rcases hrj with ⟨e, _⟩ | ⟨_, _, _, e, _⟩ <;> rw [e] <;> rfl
 have hrw : RelL g [.X j] [a.eval y] := ⟨_, _, rfl, hry, rfl⟩
 obtain ⟨_, ⟨ti, hti, htsz⟩, _⟩ := tySz_ok htt hts
 have hlenv := hr.length
 have hrun : (Instr.storeAt t (a.eval x) (a.eval y)).run P W = .ok () (setBlk W b (over (vs ++ rest) [a.eval y] off) E) := by
  rw [hv]
  simp only [Instr.storeAt, Instr.sureAddr, storeVar, Sem.run_bind, Sem.run_pure, Result.andThen, run_sizeOf hti, hcells]
  have : ¬ ([a.eval y].toArray.size ≠ ti.size) := by simp; omega
  simp only [this, if_false]
  have := run_storeCells (P := P) b [a.eval y] W (vs ++ rest) off 0 hh (by simp; omega) (by simpa using hone)
  simp only [Nat.add_zero] at this
  simpa using this
 unfold wpOp
 simp only [ho, Region.wanted, hg, if_true]
 refine .inl ?_
 unfold Oper.wp
 have hex : (execOp a.eval o).run P W = .ok .skip (setBlk W b (over (vs ++ rest) [a.eval y] off) E) := by
  rw [execOp, hop]
  simp [hrun, Sem.run, pure]
 rw [hex]
 simp only [Oper.upon, hd, Act.put]
 have hb : b < W.heap.size := (Array.getElem?_eq_some_iff.1 hh).1
 refine hK g _ a (hsem.step (chg := fun j => j = id) (g' := g) ⟨⟨FLe.refl _, fun _ _ => rfl⟩, fun _ _ _ => rfl, Sub_setBlk hsem.sub hz, by simp [setBlk], ?_, rfl, rfl, rfl⟩ _ new hnew rfl hsem.defers (fun _ _ => rfl) ?_ ?_ ?_ ?_ ?_)
 ·intro k hk hne
  have : b ≠ k := fun e => hne id rfl (by rw [hγ, e])
  exact setBlk_ne this
 ·intro j hj
  subst hj
  exact ⟨by simp [says], _, hσ⟩
 ·intro t' v' ht; simp [says] at ht
 ·intro q bk hq
  simp only [says] at hq
  split at hq
  ·rename_i e
   simp only [Key.m.injEq] at e
   subst e
   simp only [Option.some.injEq, Info.b.injEq] at hq
   subst hq
   have hov : over (vs ++ rest) [a.eval y] off = over vs [a.eval y] off ++ rest := over_app vs rest _ off (by simp; omega)
   exact ⟨⟨b, over vs [a.eval y] off, rest, hγ, by rw [setBlk_at hb, hov], hr.over hrw off, hN, hz, fun h0 => by
    obtain ⟨c, e1, e2⟩ := hcp h0
    refine ⟨c, e1, ?_⟩
    rw [← hov, over_length _ _ _ (by simp; omega)]; exact e2⟩, .inl ⟨hsem.mkn _ _ hσ, _, hσ⟩⟩
  ·simp at hq
 ·intro k z hz'
  simp only [says] at hz'
  split at hz'
  ·simp only [Option.some.injEq] at hz'
   subst hz'
   intro q hq
   rcases midsL_over _ _ _ q hq with h | h
   ·exact .inl (hsem.mids _ _ hσ q h)
   ·exact .inl (hmy q (by simpa [midsL, AV.mids] using h))
  ·simp at hz'
 ·intro q z hz'
  simp only [says] at hz'
  split at hz'
  ·rename_i e
   simp only [Key.m.injEq] at e
   subst e
   exact .inl (hsem.mkn _ _ hσ)
  ·simp at hz'
theorem over_one {α : Type} (vs : List α) (u : α) (off : Nat) (h : off < vs.length) : over vs [u] off = vs.set off u := by
 unfold over
 rw [List.set_eq_take_append_cons_drop, if_pos h, List.append_assoc]; rfl
theorem rg_stX {n : Nat} {ops : Array Oper} {draw : Bool} {nx i : Nat} {t : TypeId} {x y : Operand} {ty : TypeId} {pos : String} {aft : Array Edge} {os : List Oper} {sl : List (Nat × AV)} {mem : List (Nat × Blk)} {n0 : Nat} {gd : List (Nat × Bool)} {ks : List Ks} {Q : St → Prop} (htt : ttB P tt = true)
  {id off j : Nat} {E : TypeId} {bz : Nat} {cs : List C} {E2 : TypeId} {T : ET} {xs : List T.den} (hx : St.ev ⟨sl, mem, n0, gd⟩ x = some (.c (.P id off))) (hy : St.ev ⟨sl, mem, n0, gd⟩ y = some (.c (.X j))) (hl : lookA id mem = some (.box E bz cs)) (hj : lookA j mem = some (.vec E2 T xs)) {ag : Bool} (hts : tySz tt t = some (1, ag)) (h1 : off < cs.length)
  (h : RG P n ops draw nx (i + 1) os ⟨sl, (id, .box E bz (cs.set off (.X j))) :: mem, n0, gd⟩ (addK draw ks (okeys [x, y] ++ mkeys [id, j], [.m id])) Q) :
  RG P n ops draw nx i (⟨none, .store t x y, ty, pos, aft, none⟩ :: os) ⟨sl, mem, n0, gd⟩ ks Q := by
 refine rg_ok (fun ho => ⟨_, _, storeX_sound htt ho rfl rfl rfl hx hy hl hj hts h1 _, ?_, ?_, ?_, fun k hk => by simpa [keysOf] using hk⟩) (rg_addK h)
 ·intro kx hkx
  rcases List.mem_append.1 hkx with h | h
  ·rcases List.mem_append.1 h with h | h
   ·exact opd_kn _ x kx h
   ·exact opd_kn _ y kx h
  ·exact mrd_kn _ [id, j] kx h
 ·rw [over_one _ _ _ h1]; exact kn_pm ⟨sl, mem, n0, gd⟩ id _
 ·intro k hk
  simp only [rkeysOf, List.map_append, List.mem_append] at hk
  rcases hk with (h | h) | h
  ·exact List.mem_append_left _ (okeys_opd ⟨sl, mem, n0, gd⟩ [x, y] k (by simp only [rkeysOf, List.flatMap_cons, List.map_append, List.mem_append]; exact .inl h))
  ·exact List.mem_append_left _ (okeys_opd ⟨sl, mem, n0, gd⟩ [x, y] k (by simp only [rkeysOf, List.flatMap_cons, List.map_append, List.mem_append]; exact .inr (.inl h)))
  ·exact List.mem_append_right _ (mkeys_mrd ⟨sl, mem, n0, gd⟩ [id, j] k h)
end
end Go.El

/- The engine, part 45: weakening with other ids; families of vectors; a slice of slices as a result. Own work; no condition. -/
namespace Go.El
open Go Go.RowKit
def mpC (ρ : Nat → Nat) : C → C
 | .P id o => .P (ρ id) o
 | .X id => .X (ρ id)
 | .Y id n i o => .Y (ρ id) n i o
 | .L id o l c => .L (ρ id) o l c
 | .W id o l => .W (ρ id) o l
 | c => c
def mpA (ρ : Nat → Nat) : AV → AV
 | .c x => .c (mpC ρ x)
 | .a cs => .a (cs.map (mpC ρ))
 | .t ss => .t (ss.map fun s => (s.1, s.2.map (mpC ρ)))
def mpB (ρ : Nat → Nat) : Blk → Blk
 | .box E bz cs => .box E bz (cs.map (mpC ρ))
 | .vec E T xs => .vec E T xs
 | .clo f a b => .clo f (a.map fun s => (s.1, s.2.map (mpC ρ))) (b.map fun s => (s.1, s.2.map (mpC ρ)))
 | .fz E cs => .fz E (cs.map (mpC ρ))
theorem mpC_rel {g : Gh} {ρ : Nat → Nat} : ∀ {c : C} {v : Value}, RelC g (mpC ρ c) v → RelC ⟨g.H, fun id => g.γ (ρ id)⟩ c v
 | .any, _, h => h
 | .B _, _, h => h
 | .I _ _, _, h => h
 | .V _, _, h => h
 | .S _ _, _, h => h
 | .P _ _, _, h => h
 | .X _, _, h => h
 | .Y _ _ _ _, _, h => h
 | .E _ _ _, _, h => h
 | .M _, _, h => h
 | .L _ _ _ (some _), _, h => h
 | .L _ _ _ none, _, h => h
 | .W _ _ _, _, h => h
theorem mpL_rel {g : Gh} {ρ : Nat → Nat} : ∀ {cs : List C} {vs : List Value}, RelL g (cs.map (mpC ρ)) vs → RelL ⟨g.H, fun id => g.γ (ρ id)⟩ cs vs
 | [], _, h => h
 | _ :: _, _, h => by
  obtain ⟨v, r, e, h1, h2⟩ := h
  exact ⟨v, r, e, mpC_rel h1, mpL_rel h2⟩
theorem mpT_rel {g : Gh} {ρ : Nat → Nat} : ∀ {cs : List (Bool × List C)} {vs : List Value}, RelT g (cs.map fun s => (s.1, s.2.map (mpC ρ))) vs → RelT ⟨g.H, fun id => g.γ (ρ id)⟩ cs vs
 | [], _, h => h
 | (b, c) :: _, _, h => by
  obtain ⟨v, r, e, h1, h2⟩ := h
  refine ⟨v, r, e, ?_, mpT_rel h2⟩
  match b, c, h1 with
  | true, c, h1 => obtain ⟨vs, e, h⟩ := h1; exact ⟨vs, e, mpL_rel h⟩
  | false, [c], h1 => exact mpC_rel h1
  | false, [], h1 => exact h1.elim
  | false, _ :: _ :: _, h1 => exact h1.elim
theorem mpA_rel {g : Gh} {ρ : Nat → Nat} {x : AV} {v : Value} (h : RelV g (mpA ρ x) v) : RelV ⟨g.H, fun id => g.γ (ρ id)⟩ x v := by
 cases x with
 | c y => exact mpC_rel h
 | a cs => obtain ⟨vs, e, h⟩ := h; exact ⟨vs, e, mpL_rel h⟩
 | t ss => obtain ⟨vs, e, h⟩ := h; exact ⟨vs, e, mpT_rel h⟩
theorem mpB_rel {N : Nat → Prop} {g : Gh} {W : World} {ρ : Nat → Nat} {id : Nat} {b : Blk} (h : RepB N g W (ρ id) (mpB ρ b)) : RepB N ⟨g.H, fun id => g.γ (ρ id)⟩ W id b := by
 cases b with
 | box E bz cs =>
  obtain ⟨k, vs, rest, e1, e2, e3, e4, e5, e6⟩ := h
  exact ⟨k, vs, rest, e1, e2, mpL_rel e3, e4, e5, e6⟩
 | vec E T ys =>
  rcases h with ⟨e1, e2⟩ | ⟨k, cap, vs, e1, e2⟩
  ·exact .inl ⟨e1, e2⟩
  ·exact .inr ⟨k, cap, vs, e1, e2⟩
 | clo f first caps =>
  obtain ⟨us, ws, e1, e2, e3⟩ := h
  exact ⟨us, ws, e1, mpT_rel e2, mpT_rel e3⟩
 | fz E cs =>
  obtain ⟨k, vs, rest, e1, e2, e3, e4, e5⟩ := h
  exact ⟨k, vs, rest, e1, e2, mpL_rel e3, e4, e5⟩
def WkS2 (ρ : Nat → Nat) (l : List (Nat × AV)) : List (Nat × AV) → Prop
 | [] => True
 | (t, v') :: r => (∃ v, lookA t l = some v ∧ AVle v (mpA ρ v')) ∧ WkS2 ρ l r
def WkM2 (ρ : Nat → Nat) (l : List (Nat × Blk)) : List (Nat × Blk) → Prop
 | [] => True
 | (t, v') :: r => (∃ v, lookA (ρ t) l = some v ∧ BLe v (mpB ρ v')) ∧ WkM2 ρ l r
theorem WkS2.get {ρ : Nat → Nat} {l : List (Nat × AV)} : ∀ {m : List (Nat × AV)}, WkS2 ρ l m → ∀ {t v'}, lookA t m = some v' → ∃ v, lookA t l = some v ∧ AVle v (mpA ρ v')
 | [], _, _, _, h => by simp [lookA] at h
 | (k, x) :: m, hw, t, v', h => by
  simp only [lookA] at h
  split at h
  ·rename_i e; subst e; cases h; exact hw.1
  ·exact WkS2.get hw.2 h
theorem WkM2.get {ρ : Nat → Nat} {l : List (Nat × Blk)} : ∀ {m : List (Nat × Blk)}, WkM2 ρ l m → ∀ {t v'}, lookA t m = some v' → ∃ v, lookA (ρ t) l = some v ∧ BLe v (mpB ρ v')
 | [], _, _, _, h => by simp [lookA] at h
 | (k, x) :: m, hw, t, v', h => by
  simp only [lookA] at h
  split at h
  ·rename_i e; subst e; cases h; exact hw.1
  ·exact WkM2.get hw.2 h
def MemP (K : Nat) (m : List (Nat × Blk)) : Prop := ∀ t v, lookA t m = some v → t < K ∧ ∀ id ∈ v.mids, id < K
theorem wk_map (ρ : Nat → Nat) {st st' : St} (hs : WkS2 ρ st.sl st'.sl) (hm : WkM2 ρ st.mem st'.mem) (h0 : ρ 0 = 0) (hinj : ∀ id id', (lookA id st'.mem).isSome = true → (lookA id' st'.mem).isSome = true → ρ id = ρ id' → id = id')
  (hbm : MemP (1000000 * st'.nx) st'.mem) (hbs : slB (1000000 * st'.nx) st'.sl = true := by rfl) (hnx : Nat.ble 1 st'.nx = true := by rfl) : Wk st st' := by
 intro F hk0 g W a h
 have hnx := Nat.le_of_ble_eq_true hnx
 let g' : Gh := ⟨g.H, fun id => g.γ (ρ id)⟩
 have hS : ∀ t v', st'.kn (.s t) = some (.v v') → (∃ v, st.kn (.s t) = some (.v v) ∧ AVle v (mpA ρ v')) ∧ ∀ id ∈ v'.mids, id < 1000000 * st'.nx := by
  intro t v' e
  simp only [St.kn, Option.map_eq_some_iff] at e
  obtain ⟨x, hx, he⟩ := e
  cases he
  obtain ⟨v, hv, hle⟩ := hs.get hx
  exact ⟨⟨v, by simp [St.kn, hv], hle⟩, slB_ok hbs t v' hx⟩
 have hM : ∀ id b', st'.kn (.m id) = some (.b b') → (∃ b, st.kn (.m (ρ id)) = some (.b b) ∧ BLe b (mpB ρ b')) ∧ (id < 1000000 * st'.nx ∧ ∀ j ∈ b'.mids, j < 1000000 * st'.nx) ∧ (lookA id st'.mem).isSome = true := by
  intro t v' e
  simp only [St.kn, Option.map_eq_some_iff] at e
  obtain ⟨x, hx, he⟩ := e
  cases he
  obtain ⟨v, hv, hle⟩ := hm.get hx
  exact ⟨⟨v, by simp [St.kn, hv], hle⟩, hbm t v' hx, by rw [hx]; rfl⟩
 refine ⟨g', h.size, h.defers, ?_, ?_, ?_, ?_, ?_, h.sub, h.below, h.le, h.fresh, ?_⟩
 ·intro t v' e
  obtain ⟨⟨v, hv, hle⟩, _⟩ := hS t v' e
  exact mpA_rel (hle.1 _ _ (h.slots t v hv))
 ·intro id b' e
  obtain ⟨⟨b, hb, hle⟩, _⟩ := hM id b' e
  exact mpB_rel (hle.1 _ _ _ _ (h.blks (ρ id) b hb))
 ·intro id id' b b' k e e' hk hk'
  obtain ⟨⟨c, hc, _⟩, _, h1⟩ := hM id b e
  obtain ⟨⟨c', hc', _⟩, _, h2⟩ := hM id' b' e'
  exact hinj id id' h1 h2 (h.inj (ρ id) (ρ id') c c' k hc hc' hk hk')
 ·intro k x e id hid
  cases k with
  | s t =>
   cases x with
   | v v' => exact (hS t v' e).2 id hid
   | b b' => simp only [St.kn, Option.map_eq_some_iff] at e; obtain ⟨_, _, he⟩ := e; cases he
  | m j =>
   cases x with
   | v v' => simp only [St.kn, Option.map_eq_some_iff] at e; obtain ⟨_, _, he⟩ := e; cases he
   | b b' => exact (hM j b' e).2.1.2 id hid
 ·intro id x e
  cases x with
  | v v' => simp only [St.kn, Option.map_eq_some_iff] at e; obtain ⟨_, _, he⟩ := e; cases he
  | b b' => exact (hM id b' e).2.1.1
 ·intro id hid
  have hz : id = 0 := by omega
  subst hz
  refine ⟨?_, ?_⟩
  ·show 0 < 1000000 * st'.nx; omega
  ·show g.γ (ρ 0) = _; rw [h0]; exact (h.kfix 0 hid).2
theorem wkP {st st' : St} (hs : WkS st.sl st'.sl) (hm : WkM st.mem st'.mem) (hbm : MemP (1000000 * st'.nx) st'.mem) (hbs : slB (1000000 * st'.nx) st'.sl = true := by rfl) (hnx : Nat.ble 1 st'.nx = true := by rfl) : Wk st st' := by
 intro F hk0 g W a h
 have hkf : ∀ id, id < F.k0 → kb st' id ∧ g.γ id = F.γ0 id := by
  intro id hid
  obtain ⟨h1, h2⟩ := h.kfix id hid
  refine ⟨?_, h2⟩
  have h1 : id < 1000000 * st.nx := h1
  show id < 1000000 * st'.nx
  have := Nat.le_of_ble_eq_true hnx
  omega
 have hS : ∀ t v', st'.kn (.s t) = some (.v v') → (∃ v, st.kn (.s t) = some (.v v) ∧ AVle v v') ∧ ∀ id ∈ v'.mids, id < 1000000 * st'.nx := by
  intro t v' e
  simp only [St.kn, Option.map_eq_some_iff] at e
  obtain ⟨x, hx, he⟩ := e
  cases he
  obtain ⟨v, hv, hle⟩ := hs.get hx
  exact ⟨⟨v, by simp [St.kn, hv], hle⟩, slB_ok hbs t v' hx⟩
 have hM : ∀ id b', st'.kn (.m id) = some (.b b') → (∃ b, st.kn (.m id) = some (.b b) ∧ BLe b b') ∧ id < 1000000 * st'.nx ∧ ∀ j ∈ b'.mids, j < 1000000 * st'.nx := by
  intro t v' e
  simp only [St.kn, Option.map_eq_some_iff] at e
  obtain ⟨x, hx, he⟩ := e
  cases he
  obtain ⟨v, hv, hle⟩ := hm.get hx
  exact ⟨⟨v, by simp [St.kn, hv], hle⟩, hbm t v' hx⟩
 refine ⟨g, h.size, h.defers, ?_, ?_, ?_, ?_, ?_, h.sub, h.below, h.le, h.fresh, hkf⟩
 ·intro t v' e
  obtain ⟨⟨v, hv, hle⟩, _⟩ := hS t v' e
  exact hle.1 _ _ (h.slots t v hv)
 ·intro id b' e
  obtain ⟨⟨b, hb, hle⟩, _⟩ := hM id b' e
  exact hle.1 _ _ _ _ (h.blks id b hb)
 ·intro id id' b b' k e e' hk hk'
  obtain ⟨⟨c, hc, _⟩, _⟩ := hM id b e
  obtain ⟨⟨c', hc', _⟩, _⟩ := hM id' b' e'
  exact h.inj id id' c c' k hc hc' hk hk'
 ·intro k x e id hid
  cases k with
  | s t =>
   cases x with
   | v v' => exact (hS t v' e).2 id hid
   | b b' => simp only [St.kn, Option.map_eq_some_iff] at e; obtain ⟨_, _, he⟩ := e; cases he
  | m j =>
   cases x with
   | v v' => simp only [St.kn, Option.map_eq_some_iff] at e; obtain ⟨_, _, he⟩ := e; cases he
   | b b' => exact (hM j b' e).2.2 id hid
 ·intro id x e
  cases x with
  | v v' => simp only [St.kn, Option.map_eq_some_iff] at e; obtain ⟨_, _, he⟩ := e; cases he
  | b b' => exact (hM id b' e).2.1
theorem MemP.nil {K : Nat} : MemP K [] := fun _ _ h => by cases h
theorem MemP.cons {K id : Nat} {b : Blk} {m : List (Nat × Blk)} (h1 : id < K) (h2 : ∀ j ∈ b.mids, j < K) (h : MemP K m) : MemP K ((id, b) :: m) := fun t v e => by
 simp only [lookA] at e
 split at e
 ·rename_i e2; cases e; subst e2; exact ⟨h1, h2⟩
 ·exact h t v e
theorem MemP.of {K : Nat} {m : List (Nat × Blk)} (h : memB K m = true) : MemP K m := memB_ok h
theorem mids_cells {cs : List C} {K : Nat} (h : ∀ c ∈ cs, ∀ id ∈ c.mids, id < K) : ∀ j ∈ midsL cs, j < K := by
 induction cs with
 | nil => intro j hj; cases hj
 | cons c cs ih =>
  intro j hj
  rcases List.mem_append.1 hj with h1 | h1
  ·exact h c (by simp) j h1
  ·exact ih (fun d hd => h d (by simp [hd])) j h1
def fam (r : Nat) (E : TypeId) (T : ET) (f : Nat → List T.den) : List (Nat × Blk) := (List.range r).map fun i => (1 + i, Blk.vec E T (f i))
theorem lookA_append {α : Type} (t : Nat) : ∀ (a b : List (Nat × α)), lookA t (a ++ b) = (lookA t a).or (lookA t b)
 | [], _ => rfl
 | (k, x) :: a, b => by
  simp only [List.cons_append, lookA]
  split
  ·rfl
  ·exact lookA_append t a b
theorem lookA_fam {r : Nat} {E : TypeId} {T : ET} {f : Nat → List T.den} : ∀ {i : Nat}, i < r → lookA (1 + i) (fam r E T f) = some (.vec E T (f i)) := by
 induction r with
 | zero => intro i h; omega
 | succ r ih =>
  intro i h
  unfold fam at ih ⊢
  rw [List.range_succ, List.map_append, lookA_append]
  by_cases e : i < r
  ·rw [ih e]; rfl
  ·have : i = r := by omega
   subst this
   have hn : ∀ n, n ≤ i → lookA (1 + i) ((List.range n).map fun j => (1 + j, Blk.vec E T (f j))) = none := by
    intro n hn
    induction n with
    | zero => rfl
    | succ n ih2 =>
     rw [List.range_succ, List.map_append, lookA_append, ih2 (by omega)]
     simp only [List.map_cons, List.map_nil, lookA]
     rw [if_neg (by omega)]; rfl
   rw [hn i (Nat.le_refl _)]
   simp [lookA]
theorem lookA_fam_inv {r : Nat} {E : TypeId} {T : ET} {f : Nat → List T.den} {id : Nat} {b : Blk} : lookA id (fam r E T f) = some b → ∃ i, i < r ∧ id = 1 + i ∧ b = .vec E T (f i) := by
 induction r with
 | zero => intro h; cases h
 | succ r ih =>
  intro h
  unfold fam at ih h
  rw [List.range_succ, List.map_append, lookA_append] at h
  cases h1 : lookA id ((List.range r).map fun i => (1 + i, Blk.vec E T (f i))) with
  | some b' =>
   rw [h1] at h
   cases h
   obtain ⟨i, h2, h3, h4⟩ := ih h1
   exact ⟨i, by omega, h3, h4⟩
  | none =>
   rw [h1] at h
   simp only [List.map_cons, List.map_nil, lookA, Option.none_or] at h
   split at h
   ·rename_i e; cases h; exact ⟨r, by omega, e.symm, rfl⟩
   ·cases h
theorem MemP.app {K : Nat} {a b : List (Nat × Blk)} (ha : MemP K a) (hb : MemP K b) : MemP K (a ++ b) := fun t v h => by
 rw [lookA_append] at h
 cases h1 : lookA t a with
 | some x => rw [h1] at h; cases h; exact ha t _ h1
 | none => rw [h1] at h; exact hb t v h
theorem MemP.fam {K r : Nat} (h : 1 + r ≤ K) {E : TypeId} {T : ET} {f : Nat → List T.den} : MemP K (fam r E T f) := fun t v e => by
 obtain ⟨i, h1, rfl, rfl⟩ := lookA_fam_inv e
 exact ⟨by omega, fun id hid => by cases hid⟩
theorem WkM2.map {ρ : Nat → Nat} {l : List (Nat × Blk)} {g : Nat → Nat × Blk} : ∀ {L : List Nat}, (∀ i ∈ L, ∃ v, lookA (ρ (g i).1) l = some v ∧ BLe v (mpB ρ (g i).2)) → WkM2 ρ l (L.map g)
 | [], _ => trivial
 | i :: L, h => ⟨h i (by simp), WkM2.map fun j hj => h j (by simp [hj])⟩
theorem WkM2.fam {ρ : Nat → Nat} {l : List (Nat × Blk)} {r : Nat} {E : TypeId} {T : ET} {f : Nat → List T.den} (h : ∀ i, i < r → lookA (ρ (1 + i)) l = some (.vec E T (f i))) : WkM2 ρ l (fam r E T f) :=
 WkM2.map fun i hi => ⟨_, h i (List.mem_range.1 hi), BLe.refl _⟩
theorem WkM.app {l : List (Nat × Blk)} : ∀ {a b : List (Nat × Blk)}, WkM l a → WkM l b → WkM l (a ++ b)
 | [], _, _, h => h
 | _ :: _, _, h, k => ⟨h.1, WkM.app h.2 k⟩
theorem WkM.map {l : List (Nat × Blk)} {g : Nat → Nat × Blk} : ∀ {L : List Nat}, (∀ i ∈ L, ∃ v, lookA (g i).1 l = some v ∧ BLe v (g i).2) → WkM l (L.map g)
 | [], _ => trivial
 | i :: L, h => ⟨h i (by simp), WkM.map fun j hj => h j (by simp [hj])⟩
theorem WkM.fam {l : List (Nat × Blk)} {r : Nat} {E : TypeId} {T : ET} {f : Nat → List T.den} (h : ∀ i, i < r → lookA (1 + i) l = some (.vec E T (f i))) : WkM l (fam r E T f) :=
 WkM.map fun i hi => ⟨_, h i (List.mem_range.1 hi), BLe.refl _⟩
theorem memB_append {K : Nat} : ∀ {a b : List (Nat × Blk)}, memB K a = true → memB K b = true → memB K (a ++ b) = true
 | [], _, _, h => h
 | (id, v) :: a, b, h, k => by
  simp only [memB, Bool.and_eq_true, List.cons_append] at h ⊢
  exact ⟨h.1, memB_append h.2 k⟩
theorem memB_fam {K r : Nat} (h : 1 + r ≤ K) {E : TypeId} {T : ET} {f : Nat → List T.den} : memB K (fam r E T f) = true := by
 unfold Go.El.fam
 have : ∀ L : List Nat, (∀ i ∈ L, i < r) → memB K (L.map fun i => (1 + i, Blk.vec E T (f i))) = true := by
  intro L hL
  induction L with
  | nil => rfl
  | cons i L ih =>
   have hi := hL i (by simp)
   simp only [List.map_cons, memB, Blk.mids, midsB, Bool.and_true, Bool.and_eq_true]
   refine ⟨Nat.ble_eq_true_of_le (by omega), ih fun j hj => hL j (by simp [hj])⟩
 exact this _ fun i hi => List.mem_range.1 hi
theorem midsB_cells {K : Nat} : ∀ {cs : List C}, (∀ c ∈ cs, ∀ id ∈ c.mids, id < K) → midsB K (midsL cs) = true
 | [], _ => rfl
 | c :: cs, h => by
  have h1 : ∀ {l m : List Nat}, midsB K l = true → midsB K m = true → midsB K (l ++ m) = true := by
   intro l m hl hm
   induction l with
   | nil => exact hm
   | cons x l ih =>
    simp only [midsB, Bool.and_eq_true, List.cons_append] at hl ⊢
    exact ⟨hl.1, ih hl.2⟩
  have h2 : ∀ {l : List Nat}, (∀ id ∈ l, id < K) → midsB K l = true := by
   intro l hl
   induction l with
   | nil => rfl
   | cons x l ih =>
    simp only [midsB, Bool.and_eq_true]
    exact ⟨Nat.ble_eq_true_of_le (hl x (by simp)), ih fun y hy => hl y (by simp [hy])⟩
  exact h1 (h2 (h c (by simp))) (midsB_cells fun d hd => h d (by simp [hd]))
section
variable {P : Program} {tt : TT} {n : Nat} {st : St}
theorem at_retN (htt : ttB P tt = true) {fn : Func} {t id r : Nat} {E0 : TypeId} {bz : Nat} {E : TypeId} {T : ET} {f : Nat → List T.den} (hl : lookA t st.sl = some (.c (.L id 0 r (some r)))) (hm : lookA id st.mem = some (.box E0 bz ((List.range r).map fun i => .X (1 + i)))) (hf : ∀ i, i < r → lookA (1 + i) st.mem = some (.vec E T (f i))) (hr : r ≤ 140737488355328) (hrs : fn.results = #[.tmp t] := by rfl) : AtQ n .ret st (RetQ P fn (.c (.S (.sl T) ((List.range r).map f)))) := by
 intro F hF g W a h hown
 obtain ⟨u, hu, hrel⟩ := run_results (rs := [.tmp t]) (v := .c (.L id 0 r (some r))) htt h hrs (by simp [resAll, resOne, hl])
 obtain ⟨b, vs, rest, hγ, hh, hrl, hN, hz, _⟩ := h.blks id (.box E0 bz ((List.range r).map fun i => .X (1 + i))) (by simp [St.kn, hm])
 obtain ⟨b', hγ', huv⟩ := hrel
 rw [hγ] at hγ'
 simp only [Option.some.injEq] at hγ'
 subst hγ'
 have hrep := fun i (hi : i < r) => h.blks (1 + i) (.vec E T (f i)) (by simp [St.kn, hf i hi])
 let S : Nat → Prop := fun k => k = b ∨ ∃ i, i < r ∧ blk (g.γ (1 + i)) = some k
 have hSz : ∀ k, S k → ∀ o, g.H k o = none := by
  rintro k (rfl | ⟨i, hi, hk⟩) o
  ·exact hz o
  ·rcases hrep i hi with ⟨e, _⟩ | ⟨b2, cap, us, e, _, _, _, _, _, _, hz2⟩
   ·rw [e] at hk; cases hk
   ·rw [e] at hk; simp only [blk, Option.some.injEq] at hk; subst hk; exact hz2 o
 have hSN : ∀ k, S k → F.N k := by
  rintro k (rfl | ⟨i, hi, hk⟩)
  ·exact hN
  ·exact ((hrep i hi).block hk).1
 classical
 let H' : FH := fun k o => if S k then W.cell? ⟨k, o, none⟩ else g.H k o
 have hle : FLe g.H H' := by
  intro k o v hv
  by_cases e : S k
  ·rw [hSz k e o] at hv; cases hv
  ·simp only [H', if_neg e]; exact hv
 refine ⟨h.defers.trans hF.ds, u, hu, u, H', rfl, ?_, FLe.trans h.le hle, ?_, ?_, ⟨h.below.os, h.below.tape, h.below.output, h.below.size, fun k hk => h.below.block k hk (hown k)⟩⟩
 ·have hvl := hrl.length
  simp only [List.length_map, List.length_range] at hvl
  refine ⟨some ⟨b, 0, none⟩, r, by rw [huv]; simp, by simp, by simpa using hr, ?_⟩
  by_cases h0 : r = 0
  ·subst h0; exact .inl rfl
  refine .inr ⟨b, 0, rfl, fun i hi => ?_⟩
  have hi' : i < r := by simpa using hi
  have hcell : ((List.range r).map fun i => C.X (1 + i))[i]? = some (.X (1 + i)) := by simp [hi']
  obtain ⟨w, hw, hwr⟩ := RelL.get hrl hcell
  have hwv : w = g.γ (1 + i) := hwr
  refine ⟨[w], rfl, ?_, ?_⟩
  ·simp only [List.getElem_map, List.getElem_range]
   refine ⟨w, rfl, ?_⟩
   rw [hwv]
   rcases hrep i hi' with ⟨e, e2⟩ | ⟨b2, cap, us, e, e2, e3, e4, e5, e6, e7, e8⟩
   ·rw [e, e2]; exact ⟨none, 0, rfl, by simp, by simp, .inl rfl⟩
   ·refine ⟨some ⟨b2, 0, none⟩, cap, e, e4, e5, ?_⟩
    by_cases hx : f i = []
    ·exact .inl hx
    refine .inr ⟨b2, 0, rfl, fun k hk => ⟨(us.drop (k * T.n)).take T.n, RelD.length T _ _ (e6 k hk), RelD.mono hle T _ _ (e6 k hk), fun j hj => ?_⟩⟩
    have hS : S b2 := .inr ⟨i, hi', by rw [e]; rfl⟩
    have hk2 : (k + 1) * T.n ≤ cap * T.n := Nat.mul_le_mul_right _ (by omega)
    rw [Nat.add_mul, Nat.one_mul] at hk2
    simp only [List.length_take, List.length_drop] at hj
    simp only [H', if_pos hS, Nat.zero_add, List.getElem_take, List.getElem_drop]
    exact cell_of_block e2 _ (by omega)
  ·intro j hj
   have hj0 : j = 0 := by simpa using hj
   subst hj0
   have hS : S b := .inl rfl
   have hwi : i < vs.length := by omega
   have hwe : vs[i] = w := by
    rw [List.getElem?_eq_getElem hwi] at hw
    exact Option.some.inj hw
   simp only [H', if_pos hS, Nat.zero_add, List.getElem_cons_zero, ET.n, Nat.mul_one, Nat.add_zero]
   rw [cell_of_block hh i (by simp; omega), List.getElem_append_left hwi, hwe]
 ·intro k o hk
  have hS : ¬ S k := fun e => by
   rcases hSN k e with h1 | h1
   ·omega
   ·exact hown k h1
  simp only [H', if_neg hS]
  exact h.fresh k o hk (hown k)
 ·intro k o v hv
  by_cases e : S k
  ·simp only [H', if_pos e] at hv; exact hv
  ·simp only [H', if_neg e] at hv; exact h.sub k o v hv
end
def aheadB2 (m : Nat) (b : Ks) : List Ks → Nat → Bool
 | [], _ => true
 | a :: l, i => (m.testBit i || !clash a b) && aheadB2 m b l (i + 1)
def pairsB2 : List Nat → List Ks → List Ks → Bool
 | m :: ms, b :: bs, done => aheadB2 m b done 0 && pairsB2 ms bs (done ++ [b])
 | [], [], _ => true
 | _, _, _ => false
def ordB2 (ops : List Oper) (ks : List Ks) : Bool := edgesB ops 0 && pairsB2 (masks ops []) ks []
theorem aheadB2_eq (m : Nat) (b : Ks) : ∀ (l : List Ks) (i : Nat), aheadB2 m b l i = aheadB m b l i
 | [], _ => rfl
 | a :: l, i => by rw [aheadB2, aheadB, aheadB2_eq m b l, Bool.or_comm]
theorem pairsB2_eq : ∀ (ms : List Nat) (bs done : List Ks), pairsB2 ms bs done = pairsB ms bs done
 | [], [], _ => rfl
 | [], _ :: _, _ => rfl
 | _ :: _, [], _ => rfl
 | m :: ms, b :: bs, done => by rw [pairsB2, pairsB, aheadB2_eq, pairsB2_eq ms bs]
theorem ord2 {draw : Bool} {ops : List Oper} {ks : List Ks} (h : (!draw || ordB2 ops ks) = true) : (!draw || ordB ops ks) = true := by
 have : ordB2 ops ks = ordB ops ks := by rw [ordB2, ordB, pairsB2_eq]
 rwa [this] at h
end Go.El

/- Short rules: slices of slices. Own work; no condition. -/
namespace Go.El
open Go Go.RowKit Go.Proofs
def nst (o : Nat) (E0 : TypeId) (r : Nat) (E : TypeId) (T : ET) (f : Nat → List T.den) : List (Nat × Blk) := (o, .box E0 0 ((List.range r).map fun i => .X (1 + i))) :: fam r E T f
theorem lookA_skip {α : Type} {k t : Nat} {x : α} {l : List (Nat × α)} (h : k ≠ t) : lookA t ((k, x) :: l) = lookA t l := by simp only [lookA, if_neg h]
theorem lookA_hit {α : Type} {t : Nat} {x : α} {l : List (Nat × α)} : lookA t ((t, x) :: l) = some x := by simp only [lookA, if_pos]
theorem memB_nst {K o : Nat} {E0 : TypeId} {r : Nat} {E : TypeId} {T : ET} {f : Nat → List T.den} (ho : o < K) (hr : 1 + r ≤ K) : memB K (nst o E0 r E T f) = true := by
 simp only [nst, memB, Blk.mids, Bool.and_eq_true]
 refine ⟨⟨Nat.ble_eq_true_of_le ho, midsB_cells fun c hc id hid => ?_⟩, memB_fam hr⟩
 obtain ⟨i, hi, rfl⟩ := List.mem_map.1 hc
 have := List.mem_range.1 hi
 simp only [C.mids, List.mem_singleton] at hid
 omega
theorem wk_nst {st : St} {sl' : List (Nat × AV)} {conc : List (Nat × Blk)} {nx' : Nat} {gd' : List (Nat × Bool)} {o : Nat} {E0 : TypeId} {r : Nat} {E : TypeId} {T : ET} {f : Nat → List T.den} (hs : WkS st.sl sl') (hm : WkM st.mem conc)
  (hbox : lookA o st.mem = some (.box E0 0 ((List.range r).map fun i => .X (1 + i)))) (hf : ∀ i, i < r → lookA (1 + i) st.mem = some (.vec E T (f i))) (hr : r ≤ 900) (hb : (slB (1000000 * nx') sl' && memB (1000000 * nx') conc && Nat.ble 1 nx' && Nat.blt o (1000000 * nx')) = true := by rfl) : Wk st ⟨sl', conc ++ nst o E0 r E T f, nx', gd'⟩ := by
 simp only [Bool.and_eq_true] at hb
 obtain ⟨⟨⟨h1, h2⟩, h3⟩, h4⟩ := hb
 have h4' : o < 1000000 * nx' := Nat.le_of_ble_eq_true h4
 have h3' := Nat.le_of_ble_eq_true h3
 refine wk hs (WkM.app hm ⟨⟨_, hbox, BLe.refl _⟩, WkM.fam hf⟩) ?_
 simp only [Bool.and_eq_true, Bool.or_eq_true]
 exact ⟨⟨h1, memB_append h2 (memB_nst h4' (by omega))⟩, .inl h3⟩
theorem frzMem_append (id : Nat) (T : ET) (xs : List T.den) : ∀ a b : List (Nat × Blk), frzMem id T xs (a ++ b) = frzMem id T xs a ++ frzMem id T xs b
 | [], _ => rfl
 | (j, x) :: a, b => by
  simp only [List.cons_append, frzMem]
  split
  ·exact frzMem_append id T xs a b
  ·rw [frzMem_append id T xs a b]; rfl
theorem frzL_cells {id : Nat} {T : ET} {xs : List T.den} : ∀ {L : List Nat}, (∀ i ∈ L, 1 + i ≠ id) → frzL id T xs (L.map fun i => C.X (1 + i)) = L.map fun i => C.X (1 + i)
 | [], _ => rfl
 | i :: L, h => by
  simp only [List.map_cons, frzL, frzC]
  rw [if_neg (h i (by simp)), frzL_cells fun j hj => h j (by simp [hj])]
theorem frzMem_fam {id : Nat} {T' : ET} {xs : List T'.den} {E : TypeId} {T : ET} {f : Nat → List T.den} : ∀ {L : List Nat}, (∀ i ∈ L, 1 + i ≠ id) → frzMem id T' xs (L.map fun i => (1 + i, Blk.vec E T (f i))) = L.map fun i => (1 + i, Blk.vec E T (f i))
 | [], _ => rfl
 | i :: L, h => by
  simp only [List.map_cons, frzMem, frzB]
  rw [if_neg (h i (by simp)), frzMem_fam fun j hj => h j (by simp [hj])]
theorem frzMem_nst {id : Nat} {T' : ET} {xs : List T'.den} {o : Nat} {E0 : TypeId} {r : Nat} {E : TypeId} {T : ET} {f : Nat → List T.den} (ho : o ≠ id) (hid : 1000 ≤ id) (hr : r ≤ 900) : frzMem id T' xs (nst o E0 r E T f) = nst o E0 r E T f := by
 have hne : ∀ i ∈ List.range r, 1 + i ≠ id := fun i hi => by have := List.mem_range.1 hi; omega
 unfold nst fam
 simp only [frzMem, if_neg ho, frzB]
 rw [frzL_cells hne, frzMem_fam hne]
section
variable {n : Nat} {Q : Post}
theorem tr_frzN (id : Nat) {E1 : TypeId} {T1 : ET} {xs : List T1.den} {c : Code} {sl : List (Nat × AV)} {conc : List (Nat × Blk)} {nx : Nat} {gd : List (Nat × Bool)} {o : Nat} {E0 : TypeId} {r : Nat} {E : TypeId} {T : ET} {f : Nat → List T.den} (hl : lookA id (conc ++ nst o E0 r E T f) = some (.vec E1 T1 xs)) {sl' : List (Nat × AV)} {conc' : List (Nat × Blk)} (hs : frzSl id T1 xs sl = sl') (hm : frzMem id T1 xs conc = conc') (hr : r ≤ 900)
  (h : TR Tryz.prog n c ⟨sl', conc' ++ nst o E0 r E T f, nx, gd⟩ Q) (ho : (Nat.ble 1000 id && !Nat.beq o id) = true := by rfl) : TR Tryz.prog n c ⟨sl, conc ++ nst o E0 r E T f, nx, gd⟩ Q := by
 simp only [Bool.and_eq_true, Bool.not_eq_true'] at ho
 have h1 := Nat.le_of_ble_eq_true ho.1
 have h2 : o ≠ id := fun e => by rw [e, Nat.beq_refl] at ho; cases ho.2
 refine tr_frz id hl hs rfl ?_
 rw [frzMem_append, hm, frzMem_nst h2 h1 hr]
 exact h
end
section
variable {n : Nat} {sl sl' : List (Nat × AV)} {mem mem' : List (Nat × Blk)} {nx : Nat} {gd gd' : List (Nat × Bool)} {ops : Array Oper} {draw : Bool} {p : Pr} {ks ks' : List Ks} {i i' n0 n0' : Nat} {os os' : List Oper} {d : Nat} {ty : TypeId} {pos : String} {aft : Array Edge} {R : St → Prop}
theorem rk (k : Nat) {o : Oper} (h : runs TTab n nx draw ops.toList (os.take k) i ⟨sl, mem, n0, gd⟩ .t ks = ([], i', ⟨sl', mem', n0', gd'⟩, p, ks')) (hos : os.drop k = o :: os') (hk : RG Tryz.prog n ops draw nx i' (o :: os') ⟨sl', mem', n0', gd'⟩ ks' R)
  (hp : p := by first | trivial | (simp only [Pr.an, Pr.h, num, i64r, true_and, and_true]; first | done | omega)) : RG Tryz.prog n ops draw nx i os ⟨sl, mem, n0, gd⟩ ks R := rg_runK TT_ok k h hp hos hk
theorem rxl {op : Op} {x : AV} {pm : Pr} (h : runs TTab n nx draw ops.toList os i ⟨sl, mem, n0, gd⟩ .t ks = (⟨some d, op, ty, pos, aft, none⟩ :: os', i', ⟨sl', mem', n0', gd'⟩, p, ks')) (he : evalL TTab ⟨sl', mem', n0', gd'⟩ op = some (x, pm)) (hpm : pm)
  (hk : RG Tryz.prog n ops draw nx (i' + 1) os' ⟨(d, x) :: sl', mem', n0', gd'⟩ (addK draw ks' (okeys op.operands.toList, [.s d])) R)
  (hp : p := by first | trivial | (simp only [Pr.an, Pr.h, num, i64r, true_and, and_true]; first | done | omega)) (hdn : Nat.blt d n = true := by rfl) : RG Tryz.prog n ops draw nx i os ⟨sl, mem, n0, gd⟩ ks R :=
 rg_run TT_ok h hp (rg_evalL TT_ok he hpm hk hdn)
end
theorem flatRep1 (c : C) : ∀ m, flatRep [c] m = List.replicate m c
 | 0 => rfl
 | m + 1 => by rw [flatRep, flatRep1 c m]; rfl
end Go.El

/- Plain: what the lifting of factors computes. Own work; no condition. -/
namespace Go.El
open Go Go.Proofs
def othL (p : Nat) (l : Nat → List Int) (i : Nat) : Nat → List Int
 | 0 => [1]
 | j + 1 => if j = i then othL p l i j else (pdivide (ptimes (othL p l i j) (l j) p) (l i) p).2
def prL (F : Nat → List Int) (m : Int) : Nat → List Int
 | 0 => [1]
 | j + 1 => tmL (prL F m j) (F j) m
def restL (a pr : List Int) (next q : Int) : List Int := (List.range a.length).map fun i => (a.getD i 0 - pr.getD i 0) % next / q
def misL (p : Nat) (a : List Int) (r : Nat) (q : Int) (F : Nat → List Int) : List Int := trimW (md p (restL a (prL F (q * p) r) (q * p) q))
def cofL (p : Nat) (a : List Int) (l : Nat → List Int) (r : Nat) (q : Int) (F : Nat → List Int) (i : Nat) : List Int := (pdivide (ptimes (misL p a r q F) (invL p (othL p l i r) (l i)) p) (l i) p).2
def updP (F c : List Int) (q : Int) (t : Nat) : List Int := (List.range F.length).map fun j => if j < t then F.getD j 0 + q * c.getD j 0 else F.getD j 0
def updL (F c : List Int) (q : Int) : List Int := updP F c q F.length
def liftS (p : Nat) (a : List Int) (l : Nat → List Int) (r : Nat) : Nat → Nat → List Int
 | 0 => l
 | s + 1 => fun i => updL (liftS p a l r s i) (cofL p a l r ((p : Int) ^ (s + 1)) (liftS p a l r s) i) ((p : Int) ^ (s + 1))
def liftL (p : Nat) (a : List Int) (l : Nat → List Int) (r k : Nat) : List (List Int) := (List.range r).map fun i => (liftS p a l r (k - 1) i).map (nearZ · ((p : Int) ^ k))
theorem updP_len (F c : List Int) (q : Int) (t : Nat) : (updP F c q t).length = F.length := by simp [updP]
theorem updP_get (F c : List Int) (q : Int) (t j : Nat) (hj : j < F.length) : (updP F c q t).getD j 0 = if j < t then F.getD j 0 + q * c.getD j 0 else F.getD j 0 := by
 unfold updP
 rw [List.getD_eq_getElem?_getD, List.getElem?_map, List.getElem?_range hj]; rfl
theorem updP_zero (F c : List Int) (q : Int) : updP F c q 0 = F := by
 refine List.ext_getElem (updP_len F c q 0) (fun j h1 h2 => ?_)
 have := updP_get F c q 0 j h2
 rw [if_neg (by omega), List.getD_eq_getElem?_getD, List.getD_eq_getElem?_getD, List.getElem?_eq_getElem h1, List.getElem?_eq_getElem h2] at this
 exact this
theorem ext_getD {a b : List Int} (hl : a.length = b.length) (h : ∀ j, j < a.length → a.getD j 0 = b.getD j 0) : a = b := by
 refine List.ext_getElem hl (fun j h1 h2 => ?_)
 have := h j h1
 rw [List.getD_eq_getElem?_getD, List.getD_eq_getElem?_getD, List.getElem?_eq_getElem h1, List.getElem?_eq_getElem h2] at this
 exact this
theorem updP_succ (F c : List Int) (q : Int) (t : Nat) (ht : t < F.length) : (updP F c q t).set t (F.getD t 0 + q * c.getD t 0) = updP F c q (t + 1) := by
 refine ext_getD (by rw [List.length_set, updP_len, updP_len]) (fun j hj => ?_)
 rw [List.length_set, updP_len] at hj
 rw [getD_set_eq _ _ _ _ (by rw [updP_len]; exact ht), updP_get _ _ _ _ _ hj, updP_get _ _ _ _ _ hj]
 by_cases e : t = j
 ·subst e; rw [if_pos (by simp), if_pos (by omega)]
 ·by_cases e2 : j < t
  ·rw [if_neg (by omega), if_pos e2, if_pos (by omega)]
  ·rw [if_neg (by omega), if_neg e2, if_neg (by omega)]
theorem updP_all {F c : List Int} (q : Int) {t : Nat} (hc : c.length ≤ t) : updP F c q t = updL F c q := by
 refine ext_getD (by rw [updL, updP_len, updP_len]) (fun j hj => ?_)
 rw [updP_len] at hj
 rw [updL, updP_get _ _ _ _ _ hj, updP_get _ _ _ _ _ hj, if_pos hj]
 split
 ·rfl
 ·rw [getD_ge c (by omega), Int.mul_zero, Int.add_zero]
structure LiH (p : Nat) (l : Nat → List Int) (r : Nat) : Prop where
 hp : IsP p
 hp31 : p ≤ 2147483648
 r100 : r ≤ 100
 c : ∀ i, i < r → pcan p (l i)
 l2 : ∀ i, i < r → 2 ≤ (l i).length
 l100 : ∀ i, i < r → (l i).length ≤ 100
 cop : ∀ i, i < r → Cop p (ps (othL p l i r)) (ps (l i))
section
variable {p : Nat} {l : Nat → List Int} {r : Nat} (h : LiH p l r)
include h
theorem LiH.ne {i : Nat} (hi : i < r) : l i ≠ [] := fun e => by have := h.l2 i hi; rw [e] at this; simp at this
theorem LiH.oth {i : Nat} (hi : i < r) : ∀ j, j ≤ r → pcan p (othL p l i j) ∧ (othL p l i j).length ≤ (l i).length - 1
 | 0, _ => by
  have h2 := h.hp.1
  have := h.l2 i hi
  exact ⟨⟨rp_single (by decide) (by omega), .inr (by simp [othL])⟩, by simp [othL]; omega⟩
 | j + 1, hj => by
  rw [othL]
  split
  ·exact LiH.oth hi j (by omega)
  ·have ih := LiH.oth hi j (by omega)
   have hp0 : (0 : Int) < (p : Int) := by have := h.hp.1; omega
   obtain ⟨d1, d2, d3, d4, d5, d6⟩ := pdiv_ok h.hp h.hp31 (ptimes_pcan hp0 (othL p l i j) (l j)).1 (h.c i hi) (h.ne hi)
   exact ⟨d5 (ptimes_pcan hp0 _ _), d4⟩
theorem LiH.inv {i : Nat} (hi : i < r) : pcan p (invL p (othL p l i r) (l i)) ∧ (invL p (othL p l i r) (l i)).length ≤ (l i).length - 1 ∧ ∃ W, Pol p W ∧ Cg p (ps (invL p (othL p l i r) (l i)) * ps (othL p l i r)) (1 + W * ps (l i)) := by
 have ho := h.oth hi r (Nat.le_refl _)
 have h2 := h.l2 i hi
 obtain ⟨z1, z2, z3, _⟩ := invL_ok h.hp h.hp31 ho.1 (h.c i hi) (by omega) (h.cop i hi) h2
 exact ⟨z1, z2, z3⟩
theorem LiH.cof {i : Nat} (hi : i < r) (a : List Int) (q : Int) (F : Nat → List Int) : pcan p (misL p a r q F) ∧ (misL p a r q F).length ≤ a.length ∧ pcan p (cofL p a l r q F i) ∧ (cofL p a l r q F i).length ≤ (l i).length - 1 := by
 have hp0 : (0 : Int) < (p : Int) := by have := h.hp.1; omega
 have hm : pcan p (misL p a r q F) := pcan_trim hp0 (md_rp hp0 _)
 obtain ⟨d1, d2, d3, d4, d5, d6⟩ := pdiv_ok h.hp h.hp31 (ptimes_pcan hp0 (misL p a r q F) (invL p (othL p l i r) (l i))).1 (h.c i hi) (h.ne hi)
 refine ⟨hm, ?_, d5 (ptimes_pcan hp0 _ _), d4⟩
 have := trimW_len (md p (restL a (prL F (q * p) r) (q * p) q))
 rw [md_len] at this
 simp only [restL, List.length_map, List.length_range] at this
 exact this
theorem LiH.st (a : List Int) : ∀ (s i : Nat), i < r → (liftS p a l r s i).length = (l i).length ∧ ∀ j, 0 ≤ (liftS p a l r s i).getD j 0 ∧ (liftS p a l r s i).getD j 0 < (p : Int) ^ (s + 1)
 | 0, i, hi => by
  rw [Int.pow_one]
  exact ⟨rfl, (h.c i hi).1⟩
 | s + 1, i, hi => by
  obtain ⟨h1, h2⟩ := LiH.st a s i hi
  obtain ⟨_, _, c1, _⟩ := h.cof hi a ((p : Int) ^ (s + 1)) (liftS p a l r s)
  have hq : (0 : Int) < (p : Int) ^ (s + 1) := Int.pow_pos (by have := h.hp.1; omega)
  have e0 : liftS p a l r (s + 1) i = updP (liftS p a l r s i) (cofL p a l r ((p : Int) ^ (s + 1)) (liftS p a l r s) i) ((p : Int) ^ (s + 1)) (liftS p a l r s i).length := rfl
  rw [e0]
  refine ⟨by rw [updP_len, h1], fun j => ?_⟩
  by_cases e : j < (liftS p a l r s i).length
  ·rw [updP_get _ _ _ _ _ e, if_pos e]
   have h3 := h2 j
   have h4 := c1.1 j
   generalize (cofL p a l r ((p : Int) ^ (s + 1)) (liftS p a l r s) i).getD j 0 = c at *
   generalize (liftS p a l r s i).getD j 0 = x at *
   have h5 := Int.mul_nonneg (Int.le_of_lt hq) h4.1
   have h6 : (p : Int) ^ (s + 1) * (c + 1) ≤ (p : Int) ^ (s + 1) * p := Int.mul_le_mul_of_nonneg_left (by omega) (Int.le_of_lt hq)
   rw [Int.mul_add, Int.mul_one] at h6
   rw [Int.pow_succ (p : Int) (s + 1)]
   omega
  ·rw [getD_ge _ (by rw [updP_len]; omega)]
   have hq2 : (0 : Int) < (p : Int) ^ (s + 1 + 1) := Int.pow_pos (by have := h.hp.1; omega)
   omega
end
theorem powp_B {p : Nat} (hp : p ≤ 2147483648) : ∀ k : Nat, SmB (k + 1) ((p : Int) ^ k)
 | 0 => by unfold SmB; simp
 | k + 1 => by
  have h := (powp_B hp k).mul (SmB.one (a := (p : Int)) (by omega))
  rwa [← Int.pow_succ] at h
theorem prL_len {F : Nat → List Int} {m : Int} : ∀ j, (∀ i, i < j → 1 ≤ (F i).length) → 1 ≤ (prL F m j).length
 | 0, _ => Nat.le_refl _
 | j + 1, h => by
  have h1 := prL_len (F := F) (m := m) j fun i hi => h i (by omega)
  have h2 := h j (Nat.lt_succ_self j)
  rw [prL, tmL_len]; omega
theorem prL_len2 {F G : Nat → List Int} {m m' : Int} : ∀ j, (∀ i, i < j → (F i).length = (G i).length) → (prL F m j).length = (prL G m' j).length
 | 0, _ => rfl
 | j + 1, h => by rw [prL, tmL_len, prL, tmL_len, prL_len2 j (fun i hi => h i (by omega)), h j (Nat.lt_succ_self j)]
theorem tmL_rng (a b : List Int) {m : Int} (hm : 0 < m) (k : Nat) : 0 ≤ (tmL a b m).getD k 0 ∧ (tmL a b m).getD k 0 < m := by
 rw [tmL, getD_map (Int.zero_emod m)]
 exact ⟨Int.emod_nonneg _ (by omega), Int.emod_lt_of_pos _ hm⟩
theorem prL_rng {F : Nat → List Int} {m : Int} (hm : 1 < m) : ∀ j k, 0 ≤ (prL F m j).getD k 0 ∧ (prL F m j).getD k 0 < m
 | 0, k => by
  cases k with
  | zero => exact ⟨by show (0 : Int) ≤ 1; decide, hm⟩
  | succ k => exact ⟨Int.le_refl _, by show (0 : Int) < m; omega⟩
 | j + 1, k => tmL_rng _ _ (by omega) k
end Go.El

/- Contracts: lifting of factors, the first part: the inverses. Own work; no condition. -/
namespace Go.El
open Go Go.RowKit Go.Proofs
abbrev TP : ET := .pr (.sl U64) U64
def lsL (l : Nat → List Int) (r : Nat) (p : Int) : List (List Int × Int) := (List.range r).map fun i => (l i, p)
theorem getDm {α : Type} (f : Nat → α) (d : α) {i r : Nat} (h : i < r) : ((List.range r).map f).getD i d = f i := by
 rw [List.getD_eq_getElem?_getD, List.getElem?_map, List.getElem?_range h]; rfl
theorem zr_pr (g : Gh) : RelL g (av TP (TP.dflt)) ([ZV.s, ZV.i .u64].map ZV.toV) := RelL.append (zr_sl U64 g) (zr_int .u64 g)
def cellI (r i : Nat) : List C := (List.range i).map (fun j => C.X (1 + j)) ++ List.replicate (r - i) vN
theorem cellI_mids {r i K : Nat} (h : 1 + i ≤ K) : ∀ j ∈ midsL (cellI r i), j < K := mids_cells fun c hc id hid => by
 rcases List.mem_append.1 hc with h1 | h1
 ·obtain ⟨j, hj, rfl⟩ := List.mem_map.1 h1
  have := List.mem_range.1 hj
  simp only [C.mids, List.mem_singleton] at hid
  omega
 ·rw [List.eq_of_mem_replicate h1] at hid; cases hid
theorem cellI_all (r : Nat) : cellI r r = (List.range r).map fun j => C.X (1 + j) := by
 unfold cellI; rw [Nat.sub_self]; simp
theorem cellI_len (r i : Nat) (h : i ≤ r) : (cellI r i).length = r := by unfold cellI; simp; omega
theorem cellI_set (r i : Nat) (h : i < r) (c : C) : (cellI r i).set i c = (List.range i).map (fun j => C.X (1 + j)) ++ c :: List.replicate (r - (i + 1)) vN := by
 unfold cellI
 rw [List.set_append_right _ _ (by simp), show r - i = (r - (i + 1)) + 1 by omega, List.replicate_succ]
 simp
theorem cellI_nil (r i : Nat) (h : i < r) : (cellI r i)[i]? = some vN := by
 unfold cellI
 rw [List.getElem?_append_right (by simp), List.length_map, List.length_range, Nat.sub_self, List.getElem?_replicate, if_pos (by omega)]
theorem cellI_step (r i : Nat) (h : i < r) : (cellI r i).set i (.X (1 + i)) = cellI r (i + 1) := by
 rw [cellI_set r i h, cellI, List.range_succ, List.map_append]; simp
theorem take_succ1 (l : List Int) {j : Nat} (h : j < l.length) : l.take j ++ [l.getD j 0] = l.take (j + 1) := by
 rw [List.take_add_one, List.getD_eq_getElem?_getD, List.getElem?_eq_getElem h]; rfl
def mv (A B id : Nat) : Nat := cond (Nat.beq id A) B id
theorem mv_ne {A B id : Nat} (h : id ≠ A) : mv A B id = id := by
 unfold mv
 cases e : Nat.beq id A with
 | true => exact absurd (Nat.eq_of_beq_eq_true e) h
 | false => rfl
theorem mv_eq (A B : Nat) : mv A B A = B := by unfold mv; rw [Nat.beq_refl]; rfl
theorem mv_inj {α : Type} {A B : Nat} {m : List (Nat × α)} (hB : lookA B m = none) : ∀ id id', (lookA id m).isSome = true → (lookA id' m).isSome = true → mv A B id = mv A B id' → id = id' := by
 intro a b ha hb h
 by_cases e1 : a = A
 ·by_cases e2 : b = A
  ·omega
  ·subst e1; rw [mv_eq, mv_ne e2] at h; subst h; rw [hB] at hb; cases hb
 ·by_cases e2 : b = A
  ·subst e2; rw [mv_eq, mv_ne e1] at h; subst h; rw [hB] at ha; cases ha
  ·rwa [mv_ne e1, mv_ne e2] at h
theorem mvl {A B id : Nat} {l : List (Nat × Blk)} {v : Blk} (h : id ≠ A) (e : lookA id l = some v) : lookA (mv A B id) l = some v := by rwa [mv_ne h]
theorem lookA_del2 {α : Type} {t k : Nat} {l : List (Nat × α)} (h : t ≠ k) : lookA k (delA t l) = lookA k l := by rw [lookA_del, if_neg h]
theorem lookA_fam_none {r : Nat} {E : TypeId} {T : ET} {f : Nat → List T.den} {id : Nat} (h : r < id) : lookA id (fam r E T f) = none := by
 cases e : lookA id (fam r E T f) with
 | none => rfl
 | some b => obtain ⟨i, h1, h2, _⟩ := lookA_fam_inv e; omega
theorem map_id_of {α : Type} {f : α → α} : ∀ {l : List α}, (∀ x ∈ l, f x = x) → l.map f = l
 | [], _ => rfl
 | x :: l, h => by rw [List.map_cons, h x (by simp), map_id_of fun y hy => h y (by simp [hy])]
theorem cellI_mv {r i A B : Nat} (h : i < A) : (cellI r i).map (mpC (mv A B)) = cellI r i := map_id_of fun c hc => by
 rcases List.mem_append.1 hc with h1 | h1
 ·obtain ⟨j, hj, rfl⟩ := List.mem_map.1 h1
  have := List.mem_range.1 hj
  show C.X (mv A B (1 + j)) = _
  rw [mv_ne (by omega)]
 ·rw [List.eq_of_mem_replicate h1]; rfl
theorem map_set' {α β : Type} (f : α → β) (c : α) : ∀ (l : List α) (i : Nat), (l.set i c).map f = (l.map f).set i (f c)
 | [], _ => rfl
 | _ :: _, 0 => rfl
 | x :: l, i + 1 => by rw [List.set_cons_succ, List.map_cons, List.map_cons, List.set_cons_succ, map_set' f c l i]
theorem midsL_mem {c : C} {id : Nat} (hid : id ∈ c.mids) : ∀ {cs : List C}, c ∈ cs → id ∈ midsL cs
 | d :: cs, h => by
  rcases List.mem_cons.1 h with e | e
  ·subst e; exact List.mem_append_left _ hid
  ·exact List.mem_append_right _ (midsL_mem hid e)
theorem cellX_mids {r i K q : Nat} (h : 1 + i ≤ K) (hq : q < K) : ∀ j ∈ midsL ((cellI r i).set i (.X q)), j < K := mids_cells fun c hc id hid => by
 rcases List.mem_or_eq_of_mem_set hc with h1 | h1
 ·exact cellI_mids h id (midsL_mem hid h1)
 ·subst h1; simp only [C.mids, List.mem_singleton] at hid; omega
def invI (p : Nat) (l : Nat → List Int) (r i : Nat) : List (List Int × Int) := (List.range i).map (fun j => (invL p (othL p l j r) (l j), (p : Int))) ++ List.replicate (r - i) ([], 0)
theorem invI_set (p : Nat) (l : Nat → List Int) (r i : Nat) (h : i < r) : (invI p l r i).set i (invL p (othL p l i r) (l i), (p : Int)) = invI p l r (i + 1) := by
 unfold invI
 rw [List.set_append_right _ _ (by simp), show r - i = (r - (i + 1)) + 1 by omega, List.replicate_succ, List.range_succ, List.map_append]
 simp
theorem invI_len (p : Nat) (l : Nat → List Int) (r i : Nat) (h : i ≤ r) : (invI p l r i).length = r := by unfold invI; simp; omega
theorem invI_get (p : Nat) (l : Nat → List Int) (r : Nat) {i : Nat} (h : i < r) : (invI p l r r).getD i ([], 0) = (invL p (othL p l i r) (l i), (p : Int)) := by
 unfold invI
 rw [Nat.sub_self, List.replicate_zero, List.append_nil, getDm _ _ h]
abbrev memI (l : Nat → List Int) (xs : List (List Int × Int)) (cs : List C) (ex : List (Nat × Blk)) (i : Nat) : List (Nat × Blk) := (1002000, .box 57 0 cs) :: (2002000, .vec 101 TP xs) :: (ex ++ fam i 44 .z l)
theorem memI_P {l : Nat → List Int} {xs : List (List Int × Int)} {cs : List C} {ex : List (Nat × Blk)} {i K : Nat} (hcs : ∀ j ∈ midsL cs, j < K) (hex : MemP K ex) (h : i ≤ 100) (hK : 3000000 ≤ K) : MemP K (memI l xs cs ex i) :=
 .cons (by omega) hcs (.cons (by omega) (fun j hj => by cases hj) (.app hex (.fam (by omega))))
abbrev memA (l : Nat → List Int) (xs : List (List Int × Int)) (r i : Nat) : Nat → List (Nat × Blk)
 | 0 => memI l xs (cellI r i) [] i
 | j + 1 => memI l xs ((cellI r i).set i (.X 900000)) [(900000, .vec 44 .z ((l i).take (j + 1)))] i
set_option maxHeartbeats 4000000 in
theorem lift_inv {Q : Post} {p : Nat} {l : Nat → List Int} {r : Nat} (H : LiH p l r) (a : List Int) (k : Nat) (y : Code)
  (rest : TR Tryz.prog 231 y ⟨[(0, cS .z a), (1, cS TP (lsL l r p)), (2, cU p), (3, cI k), (9, .c (.L 1002000 0 r (some r))), (10, .c (.X 2002000))], [(2002000, .vec 101 TP (invI p l r r))] ++ nst 1002000 57 r 44 .z l, 5, []⟩ Q) {c0 c1 c2 c3 : Code} (hc : Tryz.f97.body = some (.seq c0 (.seq c1 (.seq c2 (.seq c3 y))))) :
  TR Tryz.prog 231 (.seq c0 (.seq c1 (.seq c2 (.seq c3 y)))) ⟨argSl 0 [cS .z a, cS TP (lsL l r p), cU p, cI k], [], 0, []⟩ Q := by
 generalize hz : y = z at rest ⊢
 cases hc
 clear hz
 have hr := H.r100
 have h2 := H.hp.1
 have hp31 := H.hp31
 have hlsl : (lsL l r p).length = r := by simp [lsL]
 have hls : ∀ i, i < r → (lsL l r p).getD i ([], 0) = (l i, (p : Int)) := fun i hi => getDm _ _ hi
 refine rr rfl (rb ?_)
 refine rk 2 rfl rfl (rg_makeL TT_ok r (hx := congrArg (fun z : Nat => some (cI (z : Int))) hlsl) rfl rfl rfl (by decide) (by show r * 24 ≤ _; omega) (by omega) (re rfl ?_))
 refine rb (rm TP r rfl rfl rfl rfl rfl rfl zr_pr (by rw [hlsl]) ?_ ?_ (re rfl ?_))
 ·show _ * 32 ≤ _; omega
 ·show _ * 2 ≤ _; omega
 refine tr_mid1 _ rest (fun mid => rr rfl (tr_block (tr_loop (α := Nat) (fun i => ⟨[(0, cS .z a), (1, cS TP (lsL l r p)), (2, cU p), (3, cI k), (9, .c (.L 1002000 0 r (some r))), (10, .c (.X 2002000)), (43, cS TP (lsL l r p)), (44, cI r), (45, cI i)], memI l (invI p l r i) (cellI r i) [] i, 4, []⟩) (fun i => i ≤ r) (fun i => r - i) 0 (Nat.zero_le _) ?_ ?_)))
 ·refine wkP ⟨sR rfl, sR rfl, sR rfl, sR rfl, sR rfl, sR rfl, sR rfl, ⟨_, rfl, AVle.of_eq (congrArg (fun z : Nat => cI (z : Int)) hlsl)⟩, sR rfl, trivial⟩ ⟨⟨_, rfl, BLe.of_eq ?_⟩, ⟨_, rfl, BLe.of_eq ?_⟩, trivial⟩ (memI_P (cellI_mids (by show 1 + 0 ≤ 1000000 * 4; decide)) .nil (by omega) (by show 3000000 ≤ 1000000 * 4; decide))
  ·exact congrArg (Blk.box 57 0) (flatRep1 vN r)
  ·rfl
 intro i hi
 refine rr rfl (tr_seq (tr_cond rfl (fun h => ?_) (fun h => ?_)))
 ·have h : i < r := by
   have h : (i : Int) < (r : Int) := of_decide_eq_true h
   omega
  have hci := H.c i h
  have hli := H.l100 i h
  have hl2 := H.l2 i h
  have hp0 : (0 : Int) < (p : Int) := by omega
  have hcst : FnS Tryz.prog 125 [.a (av TP ((lsL l r p).getD ((i : Int)).toNat ([], 0))), cU 1] (aP [1] p) := by
   rw [Int.toNat_natCast, hls i h]
   exact pconst_s (l i) 1 p hp0 (by omega) (by decide) (by omega)
  refine tr_skip (at_then (tr_seq (tr_block (rr rfl (rb (rc rfl rfl hcst (re rfl ?_)))))))
  refine tr_seq (rr rfl (tr_block (tr_loop (α := Nat) (fun j => ⟨[(0, cS .z a), (1, cS TP (lsL l r p)), (2, cU p), (3, cI k), (9, .c (.L 1002000 0 r (some r))), (10, .c (.X 2002000)), (11, cI i), (12, .c (.P 5003000 0)), (13, .c (.P 6002000 0)), (43, cS TP (lsL l r p)), (44, cI r), (45, cI i), (52, cS TP (lsL l r p)), (53, cI r), (54, cI j)], memI l (invI p l r i) (cellI r i) [(5003000, .box 101 0 [.S U64 (l i), .I .u64 p]), (6002000, .box 101 0 [.S U64 (othL p l i j), .I .u64 p])] i, 8, []⟩) (fun j => j ≤ r) (fun j => r - j) 0 (Nat.zero_le _) ?_ ?_)))
  ·refine wkP ⟨sR rfl, sR rfl, sR rfl, sR rfl, sR rfl, sR rfl, sR rfl, sR rfl, sR rfl, sR rfl, sR rfl, sR rfl, sR rfl, ⟨_, rfl, AVle.of_eq ?_⟩, sR rfl, trivial⟩ ⟨bR rfl, bR rfl, ⟨_, rfl, BLe.of_eq ?_⟩, bR rfl, WkM.fam fun q hq => (by (repeat (refine (lookA_skip (by omega)).trans ?_)); exact lookA_fam (by omega))⟩ (memI_P (cellI_mids (by show 1 + i ≤ 1000000 * 8; omega)) (MemP.of rfl) (by omega) (by show 3000000 ≤ 1000000 * 8; decide))
   ·exact congrArg (fun z : Nat => cI (z : Int)) hlsl
   ·exact congrArg (fun z : List Int × Int => Blk.box 101 0 [.S U64 z.1, .I .u64 z.2]) (hls i h)
  intro j hj
  have hoj := H.oth h j hj
  refine rr rfl (tr_seq (tr_cond rfl (fun hc => ?_) (fun hc => ?_)))
  ·have hjr : j < r := by
    have hc : (j : Int) < (r : Int) := of_decide_eq_true hc
    omega
   have hcj := H.c j hjr
   have hlj := H.l100 j hjr
   have hprod : FnS Tryz.prog 159 [aP (l i) p, aP (othL p l i j) p, .a (av TP ((lsL l r p).getD ((j : Int)).toNat ([], 0)))] (aP (pdivide (ptimes (othL p l i j) (l j) p) (l i) p).2 p) := by
    rw [Int.toNat_natCast, hls j hjr]
    exact pproduct_s p H.hp H.hp31 (l i) (othL p l i j) (l j) (by omega) (by omega) (by omega) hci hoj.1 hcj (H.ne h)
   refine tr_skip (at_then (tr_seq (tr_block (rr rfl (rr rfl (tr_cond rfl (fun hne => ?_) (fun hne => ?_)))))))
   ·have hne : j ≠ i := fun e => by
     subst e
     exact absurd rfl (bne_z hne)
    refine rbt (rc rfl rfl hprod (re rfl ?_))
    refine at_block (at_then (rt rfl (at_loop (j + 1) hjr (by show r - (j + 1) < r - j; omega) (wkP ⟨sR rfl, sR rfl, sR rfl, sR rfl, sR rfl, sR rfl, sR rfl, sR rfl, sR rfl, sR rfl, sR rfl, sR rfl, sR rfl, sR rfl, sR rfl, trivial⟩ ⟨bR rfl, bR rfl, bR rfl, ⟨_, rfl, BLe.of_eq ?_⟩, WkM.fam fun q hq => (by (repeat (refine (lookA_skip (by omega)).trans ?_)); exact lookA_fam (by omega))⟩ (memI_P (cellI_mids (by show 1 + i ≤ 1000000 * 8; omega)) (MemP.of rfl) (by omega) (by show 3000000 ≤ 1000000 * 8; decide))))))
    rw [othL, if_neg hne]; rfl
   ·have hne : j = i := by
     have := bne_z' hne
     omega
    refine tr_skip ?_
    refine at_block (at_then (rt rfl (at_loop (j + 1) hjr (by show r - (j + 1) < r - j; omega) (wkP ⟨sR rfl, sR rfl, sR rfl, sR rfl, sR rfl, sR rfl, sR rfl, sR rfl, sR rfl, sR rfl, sR rfl, sR rfl, sR rfl, sR rfl, sR rfl, trivial⟩ ⟨bR rfl, bR rfl, bR rfl, ⟨_, rfl, BLe.of_eq ?_⟩, WkM.fam fun q hq => (by (repeat (refine (lookA_skip (by omega)).trans ?_)); exact lookA_fam (by omega))⟩ (memI_P (cellI_mids (by show 1 + i ≤ 1000000 * 8; omega)) (MemP.of rfl) (by omega) (by show 3000000 ≤ 1000000 * 8; decide))))))
    rw [othL, if_pos hne]
  ·have hjr : r = j := by
    have hc : ¬ (j : Int) < (r : Int) := of_decide_eq_false hc
    omega
   subst hjr
   have hinv := pinverse_s p H.hp H.hp31 (othL p l i r) (l i) (by omega) hoj.1 hci (by omega) (H.cop i h) hl2
   refine tr_exit (at_then_exit (at_loop_exit (at_block_exit (at_then ?_))))
   refine rb (rc rfl rfl hinv (rsv (invL p (othL p l i r) (l i), (p : Int)) rfl rfl rfl rfl rfl ?_ (re rfl ?_) (hp := ?_)))
   ·rw [invI_len p l r i hi]; omega
   ·refine rr rfl (tr_block (tr_loop (α := Nat) (fun j => ⟨[(0, cS .z a), (1, cS TP (lsL l r p)), (2, cU p), (3, cI k), (9, .c (.L 1002000 0 r (some r))), (10, .c (.X 2002000)), (11, cI i), (43, cS TP (lsL l r p)), (44, cI r), (45, cI i), (74, cS U64 (l i)), (75, cI (l i).length), (76, cI j)], memA l (invI p l r (i + 1)) r i j, 12, []⟩) (fun j => j ≤ (l i).length) (fun j => (l i).length - j) 0 (Nat.zero_le _) ?_ ?_))
    ·refine wkP ⟨sR rfl, sR rfl, sR rfl, sR rfl, sR rfl, sR rfl, sR rfl, sR rfl, sR rfl, sR rfl, sR rfl, sR rfl, sR rfl, trivial⟩ ⟨bR rfl, ⟨_, rfl, BLe.of_eq ?_⟩, WkM.fam fun q hq => (by (repeat (refine (lookA_skip (by omega)).trans ?_)); exact lookA_fam (by omega))⟩ (memI_P (cellI_mids (by show 1 + i ≤ 1000000 * 12; omega)) .nil (by omega) (by show 3000000 ≤ 1000000 * 12; decide))
     exact congrArg (Blk.vec 101 TP) (invI_set p l r i h)
    intro j hj
    have hel := hci.1 j
    have hof : FnS Tryz.prog 100 [.c (num .i64 ((l i).getD ((j : Int)).toNat 0)).1] (aZ ((l i).getD j 0)) := by
     rw [Int.toNat_natCast]
     exact iOf_s _ (by omega) (by omega)
    have hel2 : -9223372036854775808 ≤ (l i).getD ((j : Int)).toNat 0 ∧ (l i).getD ((j : Int)).toNat 0 ≤ 9223372036854775807 := by
     rw [Int.toNat_natCast]; omega
    cases j with
    | zero =>
     refine rr rfl (tr_seq (tr_cond rfl (fun hc => ?_) (fun hc => ?_)))
     ·refine tr_skip (at_then (tr_seq (tr_block (rr rfl (rbt ?_)))))
      refine rxl rfl rfl ?_ (rg_ldC TT_ok (c := vN) rfl rfl ?_ rfl ?_)
      ·exact ⟨by show (0 : Int) ≤ (i : Int); omega, by show (i : Int) < (r : Int); omega⟩
      ·show (cellI r i)[0 + ((i : Int)).toNat * 1]? = _
       rw [Int.toNat_natCast, Nat.zero_add, Nat.mul_one]
       exact cellI_nil r i h
      refine rc rfl rfl hof ?_ (hp := by simp only [Pr.an, Pr.h, num, i64r, true_and, and_true]; exact hel2)
      refine rl .z [(l i).getD 0 0] rfl rfl (ran rfl rfl rfl rfl rfl rfl rfl rfl ?_ ?_ ?_)
      ·show _ * 32 ≤ _; simp
      ·show _ * 2 ≤ _; simp
      refine rxl rfl rfl ?_ (rg_stX TT_ok rfl rfl rfl rfl rfl ?_ (re rfl ?_ (ho := ord2 (by kernel_rfl))))
      ·exact ⟨by show (0 : Int) ≤ (i : Int); omega, by show (i : Int) < (r : Int); omega⟩
      ·show 0 + ((i : Int)).toNat * 1 < _
       rw [cellI_len r i hi]; omega
      ·refine at_block (at_then (rt rfl (at_loop 1 (by omega) (by show (l i).length - 1 < (l i).length - 0; omega) (wk_map (mv 900000 14010000) ⟨sR rfl, sR rfl, sR rfl, sR rfl, sR rfl, sR rfl, sR rfl, sR rfl, sR rfl, sR rfl, sR rfl, sR rfl, sR rfl, trivial⟩ ⟨⟨_, rfl, BLe.of_eq ?_⟩, bR rfl, ⟨_, rfl, BLe.of_eq ?_⟩, WkM2.fam fun q hq => ?_⟩ rfl (mv_inj (by (repeat (refine (lookA_skip (by omega)).trans ?_)); exact lookA_fam_none (by omega))) (memI_P (cellX_mids (by show 1 + i ≤ 1000000 * 12; omega) (by show 900000 < 1000000 * 12; decide)) (MemP.of rfl) (by omega) (by show 3000000 ≤ 1000000 * 12; decide))))))
       ·show Blk.box 57 0 ((cellI r i).set (0 + ((i : Int)).toNat * 1) (.X 14010000)) = Blk.box 57 0 (((cellI r i).set i (.X 900000)).map (mpC (mv 900000 14010000)))
        rw [map_set', cellI_mv (by omega), Int.toNat_natCast, Nat.zero_add, Nat.mul_one]; rfl
       ·exact congrArg (Blk.vec 44 .z) (take_succ1 (l i) (j := 0) (by omega))
       ·rw [mv_ne (by omega)]
        exact (by (repeat (refine (lookA_skip (by omega)).trans ?_)); exact lookA_fam (by omega))
     ·exfalso
      have hc : ¬ ((0 : Nat) : Int) < ((l i).length : Int) := of_decide_eq_false hc
      omega
    | succ j =>
     have htl : ((l i).take (j + 1)).length = j + 1 := by rw [List.length_take]; omega
     refine rr rfl (tr_seq (tr_cond rfl (fun hc => ?_) (fun hc => ?_)))
     ·have hjl : j + 1 < (l i).length := by
       have hc : ((j + 1 : Nat) : Int) < ((l i).length : Int) := of_decide_eq_true hc
       omega
      refine tr_skip (at_then (tr_seq (tr_block (rr rfl (rbt ?_)))))
      refine rxl rfl rfl ?_ (rg_ldC TT_ok (c := .X 900000) rfl rfl ?_ rfl ?_)
      ·exact ⟨by show (0 : Int) ≤ (i : Int); omega, by show (i : Int) < (r : Int); omega⟩
      ·show ((cellI r i).set i (.X 900000))[0 + ((i : Int)).toNat * 1]? = _
       rw [Int.toNat_natCast, Nat.zero_add, Nat.mul_one, List.getElem?_set_self (by rw [cellI_len r i hi]; omega)]
      refine rc rfl rfl hof ?_ (hp := by simp only [Pr.an, Pr.h, num, i64r, true_and, and_true]; exact hel2)
      refine rl .z [(l i).getD (j + 1) 0] rfl rfl (ra rfl rfl rfl rfl rfl rfl rfl rfl rfl ?_ ?_ ?_)
      ·show (_ + 1 + (_ + 1) / 4 + 192) * 32 ≤ _
       rw [htl]; omega
      ·show (_ + 1) * 2 ≤ _
       rw [htl]; omega
      refine rxl rfl rfl ?_ (rg_stX TT_ok rfl rfl rfl rfl rfl ?_ (re rfl ?_ (ho := ord2 (by kernel_rfl))))
      ·exact ⟨by show (0 : Int) ≤ (i : Int); omega, by show (i : Int) < (r : Int); omega⟩
      ·show 0 + ((i : Int)).toNat * 1 < _
       rw [List.length_set, cellI_len r i hi]; omega
      ·refine at_block (at_then (rt rfl (at_loop (j + 1 + 1) (by omega) (by show (l i).length - (j + 1 + 1) < (l i).length - (j + 1); omega) (wk_map (mv 900000 14010000) ⟨sR rfl, sR rfl, sR rfl, sR rfl, sR rfl, sR rfl, sR rfl, sR rfl, sR rfl, sR rfl, sR rfl, sR rfl, sR rfl, trivial⟩ ⟨⟨_, rfl, BLe.of_eq ?_⟩, bR rfl, ⟨_, rfl, BLe.of_eq ?_⟩, WkM2.fam fun q hq => ?_⟩ rfl (mv_inj (by (repeat (refine (lookA_skip (by omega)).trans ?_)); exact lookA_fam_none (by omega))) (memI_P (cellX_mids (by show 1 + i ≤ 1000000 * 12; omega) (by show 900000 < 1000000 * 12; decide)) (MemP.of rfl) (by omega) (by show 3000000 ≤ 1000000 * 12; decide))))))
       ·show Blk.box 57 0 (((cellI r i).set i (.X 900000)).set (0 + ((i : Int)).toNat * 1) (.X 14010000)) = Blk.box 57 0 (((cellI r i).set i (.X 900000)).map (mpC (mv 900000 14010000)))
        rw [map_set', cellI_mv (by omega), Int.toNat_natCast, Nat.zero_add, Nat.mul_one, List.set_set]; rfl
       ·exact congrArg (Blk.vec 44 .z) (take_succ1 (l i) hjl)
       ·rw [mv_ne (by omega)]
        exact (by (repeat (refine (lookA_skip (by omega)).trans ?_)); refine (lookA_del2 (by omega)).trans ?_; (repeat (refine (lookA_skip (by omega)).trans ?_)); exact lookA_fam (by omega))
     ·have hjl : (l i).length = j + 1 := by
       have hc : ¬ ((j + 1 : Nat) : Int) < ((l i).length : Int) := of_decide_eq_false hc
       omega
      have hta : (l i).take (j + 1) = l i := by rw [← hjl, List.take_length]
      refine tr_exit (at_then_exit (at_loop_exit (at_block_exit (at_block (at_then (rt rfl (at_loop (i + 1) h (by show r - (i + 1) < r - i; omega) (wk_map (mv (1 + i) 900000) ⟨sR rfl, sR rfl, sR rfl, sR rfl, ⟨_, rfl, AVle.of_eq (congrArg (fun z => AV.c (.L z 0 r (some r))) (mv_ne (by omega)).symm)⟩, ⟨_, rfl, AVle.of_eq (congrArg (fun z => AV.c (.X z)) (mv_ne (by omega)).symm)⟩, sR rfl, sR rfl, sR rfl, trivial⟩ ⟨⟨_, mvl (by omega) rfl, BLe.of_eq ?_⟩, ⟨_, mvl (by omega) rfl, BLe.refl _⟩, WkM2.fam fun q hq => ?_⟩ (mv_ne (by omega)) (mv_inj (by (repeat (refine (lookA_skip (by omega)).trans ?_)); exact lookA_fam_none (by omega))) (memI_P (cellI_mids (by show 1 + (i + 1) ≤ 1000000 * 4; omega)) .nil (by omega) (by show 3000000 ≤ 1000000 * 4; decide))))))))))
      ·show Blk.box 57 0 ((cellI r i).set i (.X 900000)) = Blk.box 57 0 ((cellI r (i + 1)).map (mpC (mv (1 + i) 900000)))
       rw [← cellI_step r i h, map_set', cellI_mv (by omega)]
       show _ = Blk.box 57 0 ((cellI r i).set i (.X (mv (1 + i) 900000 (1 + i))))
       rw [mv_eq]
      ·by_cases e : q = i
       ·subst e
        rw [mv_eq]
        exact congrArg (fun z => some (Blk.vec 44 .z z)) hta
       ·rw [mv_ne (by omega)]
        exact (by (repeat (refine (lookA_skip (by omega)).trans ?_)); exact lookA_fam (by omega))
   ·have := invI_len p l r i hi
    simp only [Pr.an, Pr.h, num, i64r, true_and, and_true]
    omega
 ·have hir : r = i := by
   have h : ¬ (i : Int) < (r : Int) := of_decide_eq_false h
   omega
  subst hir
  refine tr_exit (at_then_exit (at_loop_exit (at_block_exit (at_mid mid (wk_nst ⟨sR rfl, sR rfl, sR rfl, sR rfl, sR rfl, sR rfl, trivial⟩ ⟨bR rfl, trivial⟩ (congrArg (fun z => some (Blk.box 57 0 z)) (cellI_all r)) (fun q hq => (by (repeat (refine (lookA_skip (by omega)).trans ?_)); exact lookA_fam (by omega))) (by omega))))))
end Go.El
