/- Contracts: integers of the program: shift to the right, difference. Own work; no condition. -/
import Derived.Test.YtjioamjlebpppaaGreatG5
import Derived.Test.YtjioamjlebpppaaGreatG4
import Derived.Test.YtjioamjlebpppaaGreatG3
set_option linter.unusedVariables false
set_option linter.unusedSimpArgs false
set_option linter.unnecessarySimpa false
namespace Go.El
open Go Go.Proofs
theorem and_u64 (t : Int) (s : Nat) (ht0 : 0 ≤ t) (ht : t < 18446744073709551616) (hs : s ≤ 31) :
  IntKind.wrap .u64 ((BitVec.ofInt (IntKind.bits .u64) t &&& BitVec.ofInt (IntKind.bits .u64) (IntKind.wrap .u64 (IntKind.wrap .u64 (1 * 2 ^ (min ((s : Nat) : Int).toNat (IntKind.bits .u64))) - 1))).toNat : Int) = t % 2 ^ s := by
 have hp : 2 ^ s ≤ 2 ^ 31 := Nat.pow_le_pow_right (by decide) hs
 have hp0 : 0 < 2 ^ s := Nat.pow_pos (by decide)
 have e0 : (2 : Int) ^ s = ((2 ^ s : Nat) : Int) := by simp
 obtain ⟨T, rfl⟩ := Int.eq_ofNat_of_zero_le ht0
 rw [shl_u64 1 s (by decide) (by omega) (by omega), Int.one_mul, wrap_u64 (2 ^ s - 1) (by omega) (by omega)]
 have e1 : (2 : Int) ^ s - 1 = ((2 ^ s - 1 : Nat) : Int) := by omega
 rw [e1, BitVec.ofInt_natCast, BitVec.ofInt_natCast, BitVec.toNat_and, BitVec.toNat_ofNat, BitVec.toNat_ofNat, show IntKind.bits .u64 = 64 from rfl, Nat.mod_eq_of_lt (by omega), Nat.mod_eq_of_lt (by omega), Nat.and_two_pow_sub_one_eq_mod]
 have := Nat.mod_lt T hp0
 rw [wrap_u64 _ (by omega) (by omega), e0, Int.natCast_emod]
set_option maxHeartbeats 1000000 in
theorem ishr_s (a : List Int) (s : Nat) (ha : rng a) (hs : s ≤ 31) (la : a.length ≤ 1099511627776) : FnS Tryz.prog 144 [cS U32 a, cI s] (cS U32 (wordsN (val a / 2 ^ s).toNat)) := by
 refine fsI Tryz.func144 ?_
 have hp2 : (2 : Int) ^ s ≤ 2 ^ 31 := by
  have := Nat.pow_le_pow_right (show 2 > 0 by decide) hs
  have e1 : (2 : Int) ^ s = ((2 ^ s : Nat) : Int) := by simp
  omega
 have hd0 : (0 : Int) < 2 ^ s := Int.pow_pos (by decide)
 refine rr rfl (rb ?_)
 refine rm U32 a.length rfl rfl rfl rfl rfl rfl (zr_int .u32) rfl ?_ ?_ ?_
 ·show _ * 4 ≤ _; omega
 ·show _ * 1 ≤ _; omega
 refine re rfl (rr rfl (tr_seq (rr rfl ?_)))
 refine tr_block (tr_loop (α := Nat × List Int × Int) (fun x => ⟨[(0, cS U32 a), (1, cI s), (5, .c (.X 1002000)), (6, cU x.2.2), (7, cI ((x.1 : Int) - 1))], [(1002000, .vec 132 U32 x.2.1)], 4, []⟩) (DivI a (2 ^ s)) (fun x => x.1) (a.length, List.replicate a.length 0, 0) ?_ wkA ?_)
 ·exact ⟨Nat.le_refl _, by simp, rng_rep _, Int.le_refl _, hd0, by simp [val]⟩
 ·rintro ⟨k, q, r⟩ hI
  have hlen : q.length = a.length := hI.len
  have h0 : 0 ≤ r := hI.r0
  have h1 : r < 2 ^ s := hI.r1
  have hk : k ≤ a.length := hI.k
  refine tr_seq (rr rfl ?_)
  refine tr_cond rfl (fun h => ?_) (fun h => ?_)
  ·have h : (k : Int) - 1 ≥ 0 := by simpa using h
   obtain ⟨j, rfl⟩ : ∃ j, k = j + 1 := ⟨k - 1, by omega⟩
   have ej : (((j + 1 : Nat) : Int) - 1).toNat = j := by omega
   have g := rng_get ha j
   have hb := div_bound h0 h1 g.1 g.2 (by omega)
   have hn := hI.next ha (by omega)
   refine skT (tr_seq (tr_block (rr rfl (hp := by simp only [Pr.an, Pr.h, num, i64r, true_and, and_true]; first | done | omega) ?_)))
   have e0 : IntKind.wrap .u64 ((BitVec.ofInt (IntKind.bits .u64) (IntKind.wrap .u64 (r * 2 ^ (min ((32 : Nat) : Int).toNat (IntKind.bits .u64)))) ||| BitVec.ofInt (IntKind.bits .u64) (IntKind.wrap .u64 (a.getD (((j + 1 : Nat) : Int) - 1).toNat 0))).toNat : Int) = r * 4294967296 + a.getD j 0 := by
    rw [ej, shl_u64 r 32 h0 (by omega) (by omega), wrap_u64 (a.getD j 0) (by omega) (by omega), or_u64 (r * 2 ^ 32) (a.getD j 0) 32 (by omega) (Int.mul_emod_left _ _) (by omega) (by omega) (by omega), show (2 : Int) ^ 32 = 4294967296 from rfl]
   generalize ht : r * 4294967296 + a.getD j 0 = t at hn hb e0
   refine tr_wk (st' := ⟨[(0, cS U32 a), (1, cI s), (5, .c (.X 1002000)), (7, cI (((j + 1 : Nat) : Int) - 1)), (8, cU t)], [(1002000, .vec 132 U32 q)], 6, []⟩) (wk ⟨sR rfl, sR rfl, sR rfl, sR rfl, sE rfl ?_, trivial⟩ ⟨bR rfl, trivial⟩) ?_
   ·exact cgU e0
   refine rr rfl (hp := by simp only [Pr.an, Pr.h, num, i64r, true_and, and_true]; first | done | omega) (rt rfl (hp := by simp only [Pr.an, Pr.h, num, i64r, true_and, and_true]; first | done | omega) (bkT (rt rfl (at_loop (j, q.set j (t / 2 ^ s), t % 2 ^ s) hn (by show j < j + 1; omega) (wk ⟨sR rfl, sR rfl, sR rfl, sE rfl ?_, sE rfl ?_, trivial⟩ ⟨bE rfl ?_, trivial⟩)))))
   ·exact cgU (and_u64 t s hb.1 hb.2.1 hs)
   ·refine cgJ ?_
    show ((j + 1 : Nat) : Int) - 1 - 1 = (j : Int) - 1
    omega
   ·refine congrArg (Blk.vec 132 U32) ?_
    rw [shr_u64 t s (by omega), ej, wrap_u32 _ (by omega) (by omega)]
  ·have h : ¬ ((k : Int) - 1 ≥ 0) := by simpa using h
   have : k = 0 := by omega
   subst this
   refine xlE (at_then (tr_frz 1002000 rfl rfl rfl (rb ?_)))
   refine rc rfl rfl (trim_s _) (re rfl (rtE rfl ?_))
   have hv : val a = val q * 2 ^ s + r := hI.v
   have hr : rng q := hI.r
   have eq : val a / 2 ^ s = val q := by
    rw [hv, Int.add_comm, Int.add_mul_ediv_right _ _ (by omega), Int.ediv_eq_zero_of_lt h0 h1]; omega
   rw [trimW_eq hr, eq]
theorem wrapm_u64 (n : Int) : IntKind.wrap .u64 n = n % 18446744073709551616 := by simp [IntKind.wrap, IntKind.bits, IntKind.signed]
theorem wrapm_u32 (n : Int) : IntKind.wrap .u32 n = n % 4294967296 := by simp [IntKind.wrap, IntKind.bits, IntKind.signed]
theorem bne_z {x y : Int} (h : (x != y) = true) : x ≠ y := by simpa using h
theorem bne_z' {x y : Int} (h : (x != y) = false) : x = y := by simpa using h
set_option maxHeartbeats 1000000 in
theorem icompare_s (a b : List Int) (ha : rng a) (hb : rng b) (ca : can a) (cb : can b) : FnS Tryz.prog 139 [cS U32 a, cS U32 b] (cI (cmpN (val a) (val b))) := by
 refine fsI Tryz.func139 (tr_len 0 rfl fun hba => tr_len 1 rfl fun hbb => ?_)
 simp only [ET.n, Nat.mul_one] at hba hbb
 refine rr rfl (tr_seq (rr rfl ?_))
 refine tr_cond rfl (fun h => ?_) (fun h => ?_)
 ·have h : a.length ≠ b.length := by
   have h := bne_z h
   omega
  refine tr_seq (rr rfl ?_)
  refine tr_cond rfl (fun h2 => ?_) (fun h2 => ?_)
  ·have h2 : a.length < b.length := by
    have h2 : (a.length : Int) < (b.length : Int) := of_decide_eq_true h2
    omega
   refine rr rfl (tr_ret ?_)
   repeat (first | refine at_then_ret ?_ | refine at_block_ret ?_ | refine at_loop_ret ?_)
   refine atE rfl ?_
   rw [cmpN, if_pos (can_len_lt ha hb cb h2)]; rfl
  ·have h2 : ¬ a.length < b.length := by
    have h2 : ¬ (a.length : Int) < (b.length : Int) := of_decide_eq_false h2
    omega
   refine skT ?_
   refine rr rfl (tr_ret ?_)
   repeat (first | refine at_then_ret ?_ | refine at_block_ret ?_ | refine at_loop_ret ?_)
   refine atE rfl ?_
   have := can_len_lt hb ha ca (by omega)
   rw [cmpN, if_neg (by omega), if_pos this]; rfl
 ·have hl : a.length = b.length := by
   have h := bne_z' h
   omega
  refine skT (tr_seq (rr rfl ?_))
  refine tr_block (tr_loop (α := Nat) (fun k => ⟨[(0, cS U32 a), (1, cS U32 b), (5, cI ((k : Int) - 1))], [], 3, []⟩) (fun k => k ≤ a.length ∧ a.drop k = b.drop k) (fun k => k) a.length ⟨Nat.le_refl _, by simp [hl]⟩ wkA ?_)
  rintro k ⟨hk, hd⟩
  refine tr_seq (rr rfl ?_)
  refine tr_cond rfl (fun h3 => ?_) (fun h3 => ?_)
  ·simp at h3
   obtain ⟨j, rfl⟩ : ∃ j, k = j + 1 := ⟨k - 1, by omega⟩
   have hj : (((j + 1 : Nat) : Int) - 1) = j := by omega
   have hlt : j < a.length := by omega
   rw [hj]
   refine skT (tr_seq (tr_block (rr rfl ?_)))
   refine tr_cond rfl (fun h4 => ?_) (fun h4 => ?_)
   ·have h4 : a.getD j 0 ≠ b.getD j 0 := bne_z h4
    refine tr_seq (rr rfl ?_)
    refine tr_cond rfl (fun h5 => ?_) (fun h5 => ?_)
    ·have h5 : a.getD j 0 < b.getD j 0 := of_decide_eq_true h5
     refine rr rfl (tr_ret ?_)
     repeat (first | refine at_then_ret ?_ | refine at_block_ret ?_ | refine at_loop_ret ?_)
     refine atE rfl ?_
     rw [cmpN, if_pos (val_lt_at ha hb j hd hl hlt h5)]; rfl
    ·have h5 : ¬ a.getD j 0 < b.getD j 0 := of_decide_eq_false h5
     refine skT ?_
     refine rr rfl (tr_ret ?_)
     repeat (first | refine at_then_ret ?_ | refine at_block_ret ?_ | refine at_loop_ret ?_)
     refine atE rfl ?_
     have := val_lt_at hb ha j hd.symm hl.symm (by omega) (by omega)
     rw [cmpN, if_neg (by omega), if_pos this]; rfl
   ·have e : a.getD j 0 = b.getD j 0 := bne_z' h4
    refine tr_skip (bkT (rt rfl (at_loop j ⟨by omega, ?_⟩ (by show j < j + 1; omega) wkA)))
    have hltb : j < b.length := by omega
    rw [List.drop_eq_getElem_cons hlt, List.drop_eq_getElem_cons hltb, hd]
    simp only [List.getD_eq_getElem?_getD, List.getElem?_eq_getElem hlt, List.getElem?_eq_getElem hltb, Option.getD_some] at e
    rw [e]
  ·simp at h3
   have : k = 0 := by omega
   subst this
   refine xlE (at_then ?_)
   refine rr rfl (tr_ret ?_)
   repeat (first | refine at_then_ret ?_ | refine at_block_ret ?_ | refine at_loop_ret ?_)
   refine atE rfl ?_
   simp only [List.drop_zero] at hd
   rw [hd, cmpN, if_neg (by omega), if_neg (by omega)]; rfl
theorem icompare_z (m k : Nat) : FnS Tryz.prog 139 [cS U32 (wordsN m), cS U32 (wordsN k)] (cI (cmpN m k)) := by
 have := icompare_s (wordsN m) (wordsN k) (rng_words m) (rng_words k) (words_can m) (words_can k)
 rw [val_words, val_words] at this
 exact this
set_option maxHeartbeats 2000000 in
theorem idiff_s (a b : List Int) (ha : rng a) (hb : rng b) (hl : b.length ≤ a.length) (hle : val b ≤ val a) (la : a.length ≤ 1099511627776) : FnS Tryz.prog 105 [cS U32 a, cS U32 b] (cS U32 (wordsN (val a - val b).toNat)) := by
 refine fsI Tryz.func105 ?_
 refine rr rfl (rb ?_)
 refine rm U32 a.length rfl rfl rfl rfl rfl rfl (zr_int .u32) rfl ?_ ?_ ?_
 ·show _ * 4 ≤ _; omega
 ·show _ * 1 ≤ _; omega
 refine re rfl (rr rfl (tr_seq (rr rfl ?_)))
 generalize hM : a.length = M
 refine tr_block (tr_loop (α := Nat × List Int × Int) (fun x => ⟨[(0, cS U32 a), (1, cS U32 b), (5, .c (.X 1002000)), (6, cU x.2.2), (13, cI M), (14, cI x.1)], [(1002000, .vec 132 U32 x.2.1)], 4, []⟩) (SubI a b M) (fun x => M - x.1) (0, List.replicate M 0, 0) ?_ ?_ ?_)
 ·refine ⟨Nat.zero_le _, by simp, rng_rep M, ?_, Int.le_refl _, (by show (0 : Int) ≤ 1; decide), by simp [val_rep, val]⟩
  intro j _
  simp only [List.getD_eq_getElem?_getD, List.getElem?_replicate]
  split <;> rfl
 ·exact wkA
 ·rintro ⟨i, o, c⟩ hI
  have hlen : o.length = M := hI.len
  have hc0 : 0 ≤ c := hI.c0
  have hc1 : c ≤ 1 := hI.c1
  have hi : i ≤ M := hI.i
  have ga := rng_get ha i
  have gb := rng_get hb i
  refine rr rfl (tr_seq ?_)
  refine tr_cond rfl (fun h => ?_) (fun h => ?_)
  ·have h : i < M := by
    have h : (i : Int) < (M : Int) := of_decide_eq_true h
    omega
   have hn := hI.next h ha hb
   simp only at hn
   refine skT (tr_seq (tr_block (rr rfl (rr rfl (hp := by simp only [Pr.an, Pr.h, num, i64r, true_and, and_true]; first | done | omega) ?_))))
   refine tr_seq (rr rfl ?_)
   refine tr_cond rfl (fun h2 => ?_) (fun h2 => ?_)
   ·have h2 : i < b.length := by
     have h2 : (i : Int) < (b.length : Int) := of_decide_eq_true h2
     omega
    refine rt rfl (hp := by simp only [Pr.an, Pr.h, num, i64r, true_and, and_true]; first | done | omega) (at_then ?_)
    have e0 : IntKind.wrap .u64 (IntKind.wrap .u64 (IntKind.wrap .u64 (a.getD (i : Int).toNat 0) - c) - IntKind.wrap .u64 (b.getD (i : Int).toNat 0)) = (a.getD i 0 - b.getD i 0 - c) % 18446744073709551616 := by
     rw [Int.toNat_natCast, wrapm_u64, wrapm_u64, wrapm_u64, wrapm_u64]; omega
    generalize hd : (a.getD i 0 - b.getD i 0 - c) % 18446744073709551616 = d at e0
    refine tr_wk (st' := ⟨[(0, cS U32 a), (1, cS U32 b), (5, .c (.X 1002000)), (7, cI i), (8, cU d), (13, cI M), (14, cI i)], [(1002000, .vec 132 U32 o)], 20, []⟩) (wk ⟨sR rfl, sR rfl, sR rfl, sR rfl, sE rfl ?_, sR rfl, sR rfl, trivial⟩ ⟨bR rfl, trivial⟩) ?_
    ·exact cgU e0
    refine rr rfl (hp := by simp only [Pr.an, Pr.h, num, i64r, true_and, and_true]; first | done | omega) (rt rfl (hp := by simp only [Pr.an, Pr.h, num, i64r, true_and, and_true]; first | done | omega) (bkT (rt rfl (at_loop (i + 1, o.set i ((4294967296 + a.getD i 0 - b.getD i 0 - c) % 4294967296), 1 - (4294967296 + a.getD i 0 - b.getD i 0 - c) / 4294967296) hn (by show M - (i + 1) < M - i; omega) (wk ⟨sR rfl, sR rfl, sR rfl, sE rfl ?_, sR rfl, sR rfl, trivial⟩ ⟨bE rfl ?_, trivial⟩)))))
    ·refine cgU ?_
     show d.fdiv (2 ^ (min ((63 : Nat) : Int).toNat (IntKind.bits .u64))) = 1 - (4294967296 + a.getD i 0 - b.getD i 0 - c) / 4294967296
     rw [shr_u64 d 63 (by omega)]
     omega
    ·refine congrArg (Blk.vec 132 U32) ?_
     show o.set (i : Int).toNat (IntKind.wrap .u32 d) = o.set i ((4294967296 + a.getD i 0 - b.getD i 0 - c) % 4294967296)
     rw [Int.toNat_natCast, wrapm_u32]
     exact congrArg (o.set i) (by omega)
   ·have h2 : ¬ i < b.length := by
     have h2 : ¬ (i : Int) < (b.length : Int) := of_decide_eq_false h2
     omega
    have hb0 : b.getD i 0 = 0 := by simp [List.getD_eq_getElem?_getD, List.getElem?_eq_none (Nat.le_of_not_lt h2)]
    refine skT ?_
    have e0 : IntKind.wrap .u64 (IntKind.wrap .u64 (a.getD (i : Int).toNat 0) - c) = (a.getD i 0 - b.getD i 0 - c) % 18446744073709551616 := by
     rw [Int.toNat_natCast, wrapm_u64, wrapm_u64]; omega
    generalize hd : (a.getD i 0 - b.getD i 0 - c) % 18446744073709551616 = d at e0
    refine tr_wk (st' := ⟨[(0, cS U32 a), (1, cS U32 b), (5, .c (.X 1002000)), (7, cI i), (8, cU d), (13, cI M), (14, cI i)], [(1002000, .vec 132 U32 o)], 20, []⟩) (wk ⟨sR rfl, sR rfl, sR rfl, sR rfl, sE rfl ?_, sR rfl, sR rfl, trivial⟩ ⟨bR rfl, trivial⟩) ?_
    ·exact cgU e0
    refine rr rfl (hp := by simp only [Pr.an, Pr.h, num, i64r, true_and, and_true]; first | done | omega) (rt rfl (hp := by simp only [Pr.an, Pr.h, num, i64r, true_and, and_true]; first | done | omega) (bkT (rt rfl (at_loop (i + 1, o.set i ((4294967296 + a.getD i 0 - b.getD i 0 - c) % 4294967296), 1 - (4294967296 + a.getD i 0 - b.getD i 0 - c) / 4294967296) hn (by show M - (i + 1) < M - i; omega) (wk ⟨sR rfl, sR rfl, sR rfl, sE rfl ?_, sR rfl, sR rfl, trivial⟩ ⟨bE rfl ?_, trivial⟩)))))
    ·refine cgU ?_
     show d.fdiv (2 ^ (min ((63 : Nat) : Int).toNat (IntKind.bits .u64))) = 1 - (4294967296 + a.getD i 0 - b.getD i 0 - c) / 4294967296
     rw [shr_u64 d 63 (by omega)]
     omega
    ·refine congrArg (Blk.vec 132 U32) ?_
     show o.set (i : Int).toNat (IntKind.wrap .u32 d) = o.set i ((4294967296 + a.getD i 0 - b.getD i 0 - c) % 4294967296)
     rw [Int.toNat_natCast, wrapm_u32]
     exact congrArg (o.set i) (by omega)
  ·have h : ¬ i < M := by
    have h : ¬ (i : Int) < (M : Int) := of_decide_eq_false h
    omega
   have hi : i = M := by omega
   subst hi
   refine xlE (at_then (tr_frz 1002000 rfl rfl rfl (rb ?_)))
   refine rc rfl rfl (trim_s _) (re rfl (rtE rfl ?_))
   have hr : rng o := hI.r
   have hv : val o - c * 4294967296 ^ i = val (a.take i) - val (b.take i) := hI.v
   rw [val_take_ge a i (by omega), val_take_ge b i (by omega)] at hv
   have hc : c = 0 := by
    have h1 := val_lt hr
    rw [hlen] at h1
    rcases (show c = 0 ∨ c = 1 by omega) with e | e
    ·exact e
    ·subst e; omega
   subst hc
   rw [trimW_eq hr, ← hv]; simp
theorem idiff_z (m k : Nat) (h : k ≤ m) (hm : (wordsN m).length ≤ 1099511627776) : FnS Tryz.prog 105 [cS U32 (wordsN m), cS U32 (wordsN k)] (cS U32 (wordsN (m - k))) := by
 have := idiff_s (wordsN m) (wordsN k) (rng_words m) (rng_words k) (words_len_mono h) (by rw [val_words, val_words]; omega) hm
 rw [val_words, val_words, show ((m : Int) - (k : Int)).toNat = m - k by omega] at this
 exact this
theorem iAddR_s (na nb : Bool) (m k : Nat) (hm : (wordsN m).length ≤ 1099511627776) (hk : (wordsN k).length ≤ 1099511627776) : FnS Tryz.prog 146 [.a [.B na, .S U32 (wordsN m)], .a [.B nb, .S U32 (wordsN k)]] (aZ (sg na m + sg nb k)) := by
 refine fsI Tryz.func146 ?_
 refine rr rfl (tr_seq (rr rfl ?_))
 refine tr_cond rfl (fun h => ?_) (fun h => ?_)
 ·have h : na = nb := eq_of_beq h
  subst h
  refine rb (rc rfl rfl (isum_z _ _ hm hk) (rc rfl rfl (isigned_z _ _) (re rfl (tr_ret (at_then_ret (atE rfl ?_))))))
  have e2 : sg na (m + k) = sg na m + sg na k := by unfold sg; split <;> omega
  exact congrArg aZ e2
 ·have h : na ≠ nb := fun e => by subst e; simp at h
  refine skT (tr_seq (rbc rfl rfl (icompare_z _ _) rfl ?_))
  refine tr_cond rfl (fun h2 => ?_) (fun h2 => ?_)
  ·have h2 : k ≤ m := by
    have h2 : cmpN (m : Int) (k : Int) ≥ 0 := of_decide_eq_true h2
    unfold cmpN at h2
    split at h2 <;> omega
   refine rb (rc rfl rfl (idiff_z _ _ h2 hm) (rc rfl rfl (isigned_z _ _) (re rfl (tr_ret (at_then_ret (atE rfl ?_))))))
   have e2 : sg na (m - k) = sg na m + sg nb k := by unfold sg; cases na <;> cases nb <;> simp at h ⊢ <;> omega
   exact congrArg aZ e2
  ·have h2 : m ≤ k := by
    have h2 : ¬ cmpN (m : Int) (k : Int) ≥ 0 := of_decide_eq_false h2
    unfold cmpN at h2
    split at h2
    ·omega
    ·split at h2 <;> omega
   refine skT (rb (rc rfl rfl (idiff_z _ _ h2 hk) (rc rfl rfl (isigned_z _ _) (re rfl (rtE rfl ?_)))))
   have e2 : sg nb (k - m) = sg na m + sg nb k := by unfold sg; cases na <;> cases nb <;> simp at h ⊢ <;> omega
   exact congrArg aZ e2
theorem iAdd_s (a b : Int) (ha : Sm a) (hb : Sm b) : FnS Tryz.prog 146 [aZ a, aZ b] (aZ (a + b)) := by
 have h := iAddR_s (zneg a) (zneg b) a.natAbs b.natAbs ha hb
 rw [sg_self, sg_self] at h
 exact h
theorem beq_z' {x y : Int} (h : (x == y) = false) : x ≠ y := by simpa using h
set_option maxHeartbeats 8000000 in
theorem iqw_s (U v : List Int) (j n : Nat) (hU : rng U) (hv : rng v) (hn : v.length = n + 2) (hj : j + n + 3 ≤ U.length) (hl : U.length ≤ 1099511627777) (htop : 2147483648 ≤ v.getD (n + 1) 0) (hlt : val ((U.drop j).take (n + 3)) < val v * 4294967296) :
  FnM Tryz.prog 143 [.c (.W 0 j (n + 3)), cS U32 v] 132 U32 U (cW (val ((U.drop j).take (n + 3)) / val v)) (wput U j (wordsK (n + 3) (val ((U.drop j).take (n + 3)) % val v))) := by
 refine fm_intro Tryz.func143 rfl rfl rfl rfl rfl (by decide) ?_
 have K := kn1_of hU hv hn hj htop hlt
 have g1 := rng_get hU (j + (n + 2))
 have g2 := rng_get hU (j + (n + 1))
 have g3 := rng_get hU (j + n)
 have k1 := rng_get hv (n + 1)
 have k2 := rng_get hv n
 have hv1 := K.hv1
 have hvp := K.vpos
 have a1 : ((v.length : Int)).toNat = n + 2 := by omega
 have a2 : ((v.length : Int) - 1).toNat = n + 1 := by omega
 have a3 : ((v.length : Int) - 2).toNat = n := by omega
 generalize hQ : gsL 2 ((U.getD (j + (n + 2)) 0 * 4294967296 + U.getD (j + (n + 1)) 0) / v.getD (n + 1) 0) ((U.getD (j + (n + 2)) 0 * 4294967296 + U.getD (j + (n + 1)) 0) % v.getD (n + 1) 0) (v.getD (n + 1) 0) (v.getD n 0) (U.getD (j + n) 0) = Q0
 refine rr rfl (rr rfl (rr rfl (hp := by simp only [Pr.an, Pr.h, num, i64r, true_and, and_true]; first | done | omega) ?_))
 rw [a1, a2]
 have e6 : IntKind.wrap .u64 ((BitVec.ofInt (IntKind.bits .u64) (IntKind.wrap .u64 (IntKind.wrap .u64 (U.getD (j + (n + 2)) 0) * 2 ^ (min ((32 : Nat) : Int).toNat (IntKind.bits .u64)))) ||| BitVec.ofInt (IntKind.bits .u64) (IntKind.wrap .u64 (U.getD (j + (n + 1)) 0))).toNat : Int) = U.getD (j + (n + 2)) 0 * 4294967296 + U.getD (j + (n + 1)) 0 := by
  rw [wrap_u64 (U.getD (j + (n + 2)) 0) (by omega) (by omega), wrap_u64 (U.getD (j + (n + 1)) 0) (by omega) (by omega), shl_u64 _ 32 (by omega) (by omega) (by omega), or_u64 _ _ 32 (by omega) (Int.mul_emod_left _ _) (by omega) (by omega) (by omega), show (2 : Int) ^ 32 = 4294967296 from rfl]
 have ev1 : IntKind.wrap .u64 (v.getD (n + 1) 0) = v.getD (n + 1) 0 := wrap_u64 _ (by omega) (by omega)
 have ev2 : IntKind.wrap .u64 (v.getD n 0) = v.getD n 0 := wrap_u64 _ (by omega) (by omega)
 have eu2 : IntKind.wrap .u64 (U.getD (j + n) 0) = U.getD (j + n) 0 := wrap_u64 _ (by omega) (by omega)
 have ht0 : 0 ≤ U.getD (j + (n + 2)) 0 * 4294967296 + U.getD (j + (n + 1)) 0 := by omega
 have ht1 : U.getD (j + (n + 2)) 0 * 4294967296 + U.getD (j + (n + 1)) 0 < 18446744073709551616 := by omega
 have hsm := @Kn1.small _ _ _ _ _ _ _ _ _ K
 have hdn := @gsL_ok _ _ _ _ _ _ _ _ _ K
 have hfi := K.first
 have hq0 := K.q0
 refine tr_wk (st' := ⟨[(0, .c (.W 0 j (n + 3))), (1, cS U32 v), (5, cI v.length), (6, cU (U.getD (j + (n + 2)) 0 * 4294967296 + U.getD (j + (n + 1)) 0))], [(0, .vec 132 U32 U)], 4, []⟩) (wk ⟨sR rfl, sR rfl, sR rfl, sE rfl ?_, trivial⟩ ⟨bR rfl, trivial⟩) ?_
 ·exact cgU e6
 generalize U.getD (j + (n + 2)) 0 * 4294967296 + U.getD (j + (n + 1)) 0 = t at *
 generalize hv1e : v.getD (n + 1) 0 = v1 at *
 generalize hv2e : v.getD n 0 = v2 at *
 generalize hu2e : U.getD (j + n) 0 = u2 at *
 generalize hue : val ((U.drop j).take (n + 3)) = u at *
 have x1 : IntKind.wrap .u64 (v.getD ((v.length : Int) - 1).toNat 0) = v1 := by rw [a2, hv1e]; exact ev1
 have x2 : IntKind.wrap .u64 (v.getD ((v.length : Int) - 2).toNat 0) = v2 := by rw [a3, hv2e]; exact ev2
 have x3 : IntKind.wrap .u64 (U.getD (j + ((v.length : Int) - 2).toNat) 0) = u2 := by rw [a3, hu2e]; exact eu2
 have hd0 : 0 ≤ t / v1 := Int.ediv_nonneg ht0 (by omega)
 have hr0 : 0 ≤ t % v1 := Int.emod_nonneg _ (by omega)
 have hr1 : t % v1 < v1 := Int.emod_lt_of_pos _ (by omega)
 have htt := Int.emod_add_mul_ediv t v1
 have hp1 : ((-9223372036854775808 ≤ (v.length : Int) - 1 ∧ (v.length : Int) - 1 ≤ 9223372036854775807) ∧ 0 ≤ (v.length : Int) - 1 ∧ (v.length : Int) - 1 < (v.length : Int)) ∧ IntKind.wrap .u64 (v.getD ((v.length : Int) - 1).toNat 0) ≠ 0 := by rw [x1]; omega
 have hQq := hdn 2 (t / v1) (t % v1) (by rw [Int.mul_comm]; omega) hr0 (by omega) (by show (4294967296 : Int) ≤ t % v1 + (2 : Nat) * 2147483648; omega) hfi
 rw [hQ] at hQq
 let ⟨q1, q2, q3⟩ := hQq
 refine rr rfl (hp := by simp only [Pr.an, Pr.h, num, i64r, true_and, and_true]; exact ⟨⟨⟨hp1, hp1.1.1⟩, hp1.1.2⟩, hp1.2⟩) ?_
 refine tr_mid1 ⟨[(0, .c (.W 0 j (n + 3))), (1, cS U32 v), (5, cI v.length), (7, cU Q0)], [(0, .vec 132 U32 U)], 30, []⟩ ?_ (fun mid => tr_block (tr_loop (α := Nat × Int × Int) (fun x => ⟨[(0, .c (.W 0 j (n + 3))), (1, cS U32 v), (5, cI v.length), (6, cU t), (7, cU x.2.1), (8, cU x.2.2)], [(0, .vec 132 U32 U)], 6, []⟩) (fun x => gsL x.1 x.2.1 x.2.2 v1 v2 u2 = Q0 ∧ t = x.2.1 * v1 + x.2.2 ∧ 0 ≤ x.2.2 ∧ x.2.2 < 4294967296 ∧ 4294967296 ≤ x.2.2 + x.1 * 2147483648 ∧ u / val v ≤ x.2.1) (fun x => x.1) (2, t / v1, t % v1) ⟨hQ, by show t = t / v1 * v1 + t % v1; rw [Int.mul_comm]; omega, hr0, by show t % v1 < 4294967296; omega, by show (4294967296 : Int) ≤ t % v1 + (2 : Nat) * 2147483648; omega, hfi⟩ (wk ⟨sR rfl, sR rfl, sR rfl, sR rfl, sE rfl ?_, sE rfl ?_, trivial⟩ ⟨bR rfl, trivial⟩) ?_))
 ·clear hdn hsm hQ
  refine rr rfl (tr_seq (rr rfl ?_))
  refine tr_block (tr_loop (α := Nat × Int × Int) (fun x => ⟨[(0, .c (.W 0 j (n + 3))), (1, cS U32 v), (5, cI v.length), (7, cU Q0), (9, cU x.2.1), (10, cU x.2.2), (82, cI v.length), (83, cI x.1)], [(0, .vec 132 U32 (wput U j (wordsK x.1 (val ((U.drop j).take x.1) - Q0 * val (v.take x.1)))))], 32, []⟩) (fun x => x.1 ≤ n + 2 ∧ (val ((U.drop j).take x.1) - Q0 * val (v.take x.1)) / 4294967296 ^ x.1 = -(x.2.1 + x.2.2) ∧ x.2.1 = Q0 * val (v.take x.1) / 4294967296 ^ x.1 ∧ (x.2.2 = 0 ∨ x.2.2 = 1)) (fun x => n + 2 - x.1) (0, 0, 0) ⟨Nat.zero_le _, by simp [val], by simp [val], .inl rfl⟩ (wk (wkSr rfl) ⟨bE rfl ?_, trivial⟩) ?_)
  ·exact congrArg (Blk.vec 132 U32) (wput_nil U j).symm
  rintro ⟨i, c, b⟩ ⟨h1, h2, h3, h4⟩
  simp only at h1 h2 h3 h4
  have hc := ls_carry hv (show 0 ≤ Q0 by omega) q3 i
  rw [← h3] at hc
  have gu := rng_get hU (j + i)
  have hst := ls_step U v j i Q0 (c := c) (b := b) rfl h2
  have hlen : (wordsK i (val ((U.drop j).take i) - Q0 * val (v.take i))).length = i := wordsK_len _ _
  have hwl := wput_len (U := U) (j := j) (ws := wordsK i (val ((U.drop j).take i) - Q0 * val (v.take i))) (by omega)
  have hwg := wput_get (U := U) (j := j) (ws := wordsK i (val ((U.drop j).take i) - Q0 * val (v.take i))) (by omega)
  have hws := fun w => wput_set (U := U) (j := j) (ws := wordsK i (val ((U.drop j).take i) - Q0 * val (v.take i))) w (by omega)
  rw [hlen] at hwg hws
  simp only at hst
  let ⟨s1, s2⟩ := hst
  refine rr rfl (tr_seq ?_)
  refine tr_cond rfl (fun h => ?_) (fun h => ?_)
  ·have h : i < n + 2 := by
    have h : (i : Int) < (v.length : Int) := of_decide_eq_true h
    omega
   have gv := rng_get hv i
   have hm : 0 ≤ Q0 * v.getD i 0 ∧ Q0 * v.getD i 0 ≤ 18446744065119617025 := mul_lt_sq (by omega) (by omega) gv.1 (by omega)
   have hcn := ls_carry_next (v := v) (q := Q0) i h3
   refine skT (tr_seq (tr_block (rr rfl (rr rfl (hp := by simp only [Pr.an, Pr.h, num, i64r, true_and, and_true]; first | done | omega) ?_))))
   have ei : (i : Int).toNat = i := Int.toNat_natCast i
   have w1 : IntKind.wrap .u64 (IntKind.wrap .u64 (Q0 * IntKind.wrap .u64 (v.getD (i : Int).toNat 0)) + c) = Q0 * v.getD i 0 + c := by rw [ei, wrap_u64 (v.getD i 0) (by omega) (by omega), wrap_u64 (Q0 * v.getD i 0) (by omega) (by omega), wrap_u64 _ (by omega) (by omega)]
   generalize hp : Q0 * v.getD i 0 + c = p at *
   refine tr_wk (st' := ⟨[(0, .c (.W 0 j (n + 3))), (1, cS U32 v), (5, cI v.length), (7, cU Q0), (10, cU b), (11, cI i), (12, cU p), (82, cI v.length), (83, cI i)], [(0, .vec 132 U32 (wput U j (wordsK i (val ((U.drop j).take i) - Q0 * val (v.take i)))))], 40, []⟩) (wk ⟨sR rfl, sR rfl, sR rfl, sR rfl, sR rfl, sR rfl, sE rfl ?_, sR rfl, sR rfl, trivial⟩ ⟨bR rfl, trivial⟩) ?_
   ·exact cgU w1
   generalize hX : wput U j (wordsK i (val ((U.drop j).take i) - Q0 * val (v.take i))) = X at *
   refine rr rfl (rr rfl (hp := by simp only [Pr.an, Pr.h, num, i64r, true_and, and_true]; first | done | omega) ?_)
   have w2 : p.fdiv (2 ^ (min ((32 : Nat) : Int).toNat (IntKind.bits .u64))) = p / 4294967296 := shr_u64 p 32 (by omega)
   have w3 : IntKind.wrap .u64 (IntKind.wrap .u64 (IntKind.wrap .u64 (X.getD (j + (i : Int).toNat) 0) - IntKind.wrap .u64 (IntKind.wrap .u32 p)) - b) = (U.getD (j + i) 0 - p % 4294967296 - b) % 18446744073709551616 := by
    rw [ei, hwg, wrapm_u64, wrapm_u64, wrapm_u64, wrapm_u64, wrapm_u32]; omega
   generalize hd : (U.getD (j + i) 0 - p % 4294967296 - b) % 18446744073709551616 = d at *
   refine tr_wk (st' := ⟨[(0, .c (.W 0 j (n + 3))), (1, cS U32 v), (5, cI v.length), (7, cU Q0), (9, cU (p / 4294967296)), (11, cI i), (13, cU d), (82, cI v.length), (83, cI i)], [(0, .vec 132 U32 X)], 44, []⟩) (wk ⟨sR rfl, sR rfl, sR rfl, sR rfl, sE rfl ?_, sR rfl, sE rfl ?_, sR rfl, sR rfl, trivial⟩ ⟨bR rfl, trivial⟩) ?_
   ·exact cgU w2
   ·exact cgU w3
   refine rr rfl (hp := by simp only [Pr.an, Pr.h, num, i64r, true_and, and_true]; first | done | omega) (rt rfl (hp := by simp only [Pr.an, Pr.h, num, i64r, true_and, and_true]; first | done | omega) (bkT (rt rfl (at_loop (i + 1, p / 4294967296, 1 - (4294967296 + U.getD (j + i) 0 - p % 4294967296 - b) / 4294967296) ⟨by show i + 1 ≤ n + 2; omega, s2, hcn.symm, by show 1 - (4294967296 + U.getD (j + i) 0 - p % 4294967296 - b) / 4294967296 = 0 ∨ 1 - (4294967296 + U.getD (j + i) 0 - p % 4294967296 - b) / 4294967296 = 1; omega⟩ (by show n + 2 - (i + 1) < n + 2 - i; omega) (wk ⟨sR rfl, sR rfl, sR rfl, sR rfl, sR rfl, sE rfl ?_, sR rfl, sR rfl, trivial⟩ ⟨bE rfl ?_, trivial⟩)))))
   ·refine cgU ?_
    show d.fdiv (2 ^ (min ((63 : Nat) : Int).toNat (IntKind.bits .u64))) = 1 - (4294967296 + U.getD (j + i) 0 - p % 4294967296 - b) / 4294967296
    rw [shr_u64 d 63 (by omega)]
    omega
   ·refine congrArg (Blk.vec 132 U32) ?_
    show X.set (j + (i : Int).toNat) (IntKind.wrap .u32 d) = wput U j (wordsK (i + 1) _)
    rw [s1, ei, wrapm_u32, show d % 4294967296 = (4294967296 + U.getD (j + i) 0 - p % 4294967296 - b) % 4294967296 by omega, hws]
  ·have e : i = n + 2 := by
    have h : ¬ (i : Int) < (v.length : Int) := of_decide_eq_false h
    omega
   subst e
   have hv0 : v.getD (n + 2) 0 = 0 := by simp [List.getD_eq_getElem?_getD, List.getElem?_eq_none (show v.length ≤ n + 2 by omega)]
   rw [hv0, Int.mul_zero, Int.zero_add, Int.emod_eq_of_lt hc.1 hc.2, Int.ediv_eq_zero_of_lt hc.1 hc.2, Int.zero_add, val_take_ge v (n + 2 + 1) (by omega), hue] at s2
   rw [hv0, Int.mul_zero, Int.zero_add, Int.emod_eq_of_lt hc.1 hc.2, val_take_ge v (n + 2 + 1) (by omega), hue] at s1
   generalize hX : wput U j (wordsK (n + 2) (val ((U.drop j).take (n + 2)) - Q0 * val (v.take (n + 2)))) = X at *
   refine xlE (at_then (rr rfl (hp := by simp only [Pr.an, Pr.h, num, i64r, true_and, and_true]; first | done | omega) ?_))
   have w3 : IntKind.wrap .u64 (IntKind.wrap .u64 (IntKind.wrap .u64 (X.getD (j + (v.length : Int).toNat) 0) - c) - b) = (U.getD (j + (n + 2)) 0 - c - b) % 18446744073709551616 := by
    rw [a1, hwg, wrapm_u64, wrapm_u64, wrapm_u64]; omega
   generalize hd : (U.getD (j + (n + 2)) 0 - c - b) % 18446744073709551616 = d at *
   refine tr_wk (st' := ⟨[(0, .c (.W 0 j (n + 3))), (1, cS U32 v), (5, cI v.length), (7, cU Q0), (14, cU d)], [(0, .vec 132 U32 X)], 44, []⟩) (wk ⟨sR rfl, sR rfl, sR rfl, sR rfl, sE rfl ?_, trivial⟩ ⟨bR rfl, trivial⟩) ?_
   ·exact cgU w3
   refine rr rfl (hp := by simp only [Pr.an, Pr.h, num, i64r, true_and, and_true]; first | done | omega) (tr_seq (rr rfl (hp := by simp only [Pr.an, Pr.h, num, i64r, true_and, and_true]; first | done | omega) ?_))
   have hX2 : X.set (j + (v.length : Int).toNat) (IntKind.wrap .u32 d) = wput U j (wordsK (n + 3) (u - Q0 * val v)) := by
    rw [a1, show n + 3 = n + 2 + 1 from rfl, s1, wrapm_u32, show d % 4294967296 = (4294967296 + U.getD (j + (n + 2)) 0 - c - b) % 4294967296 by omega, hws]
   have hsh : d.fdiv (2 ^ (min ((63 : Nat) : Int).toNat (IntKind.bits .u64))) = 1 - (4294967296 + U.getD (j + (n + 2)) 0 - c - b) / 4294967296 := by
    rw [shr_u64 d 63 (by omega)]; omega
   generalize hbb : 1 - (4294967296 + U.getD (j + (n + 2)) 0 - c - b) / 4294967296 = b' at *
   have hb01 : b' = 0 ∨ b' = 1 := by omega
   have hdm := Int.emod_add_mul_ediv u (val v)
   have hm0 := Int.emod_nonneg u (show val v ≠ 0 by omega)
   have hm1 := Int.emod_lt_of_pos u hvp
   have hpn := powB_pos (n + 2 + 1)
   have h5 := Int.emod_add_mul_ediv (u - Q0 * val v) (4294967296 ^ (n + 2 + 1))
   have h6 := Int.emod_nonneg (u - Q0 * val v) (show (4294967296 : Int) ^ (n + 2 + 1) ≠ 0 by omega)
   have h7 := Int.emod_lt_of_pos (u - Q0 * val v) hpn
   rw [s2] at h5
   refine tr_cond rfl (fun h8 => ?_) (fun h8 => ?_)
   ·have h8 : b' = 0 := by
     have h8 : d.fdiv (2 ^ (min ((63 : Nat) : Int).toNat (IntKind.bits .u64))) = 0 := eq_of_beq h8
     rw [← hsh]; exact h8
    have hq : Q0 = u / val v := by
     rw [h8] at h5
     simp only [Int.neg_zero, Int.mul_zero, Int.add_zero] at h5
     by_cases e : Q0 = u / val v
     ·exact e
     ·exfalso
      have e2 : Q0 = u / val v + 1 := by omega
      have hqv : Q0 * val v = val v * (u / val v) + val v := by rw [e2, Int.add_mul, Int.one_mul, Int.mul_comm]
      omega
    have e1 : u - Q0 * val v = u % val v := by
     have := Int.mul_comm (u / val v) (val v)
     rw [hq]; omega
    refine rr rfl (tr_ret ?_)
    repeat (first | refine at_then_ret ?_ | refine at_block_ret ?_ | refine at_loop_ret ?_)
    refine at_wk (st' := ⟨[(4, cW (u / val v))], [(0, .vec 132 U32 (wput U j (wordsK (n + 3) (u % val v))))], 60, []⟩) (wk ⟨sE rfl ?_, trivial⟩ ⟨bE rfl ?_, trivial⟩) (at_retM TT_ok rfl (AVle.refl _) rfl)
    ·refine cgW ?_
     rw [wrap_u32 _ (by omega) (by omega)]; exact hq
    ·rw [hX2, e1]
   ·have h8 : b' = 1 := by
     have h8 : ¬ d.fdiv (2 ^ (min ((63 : Nat) : Int).toNat (IntKind.bits .u64))) = 0 := beq_z' h8
     rw [hsh] at h8
     omega
    have hq : Q0 = u / val v + 1 := by
     rw [h8] at h5
     rw [Int.mul_neg, Int.mul_one] at h5
     by_cases e : Q0 = u / val v
     ·exfalso
      have : Q0 * val v = val v * (u / val v) := by rw [e, Int.mul_comm]
      omega
     ·omega
    have hqv : Q0 * val v = val v * (u / val v) + val v := by rw [hq, Int.add_mul, Int.one_mul, Int.mul_comm]
    refine skT ?_
    refine tr_wk (st' := ⟨[(0, .c (.W 0 j (n + 3))), (1, cS U32 v), (5, cI v.length), (7, cU Q0)], [(0, .vec 132 U32 (wput U j (wordsK (n + 3) (u - Q0 * val v))))], 50, []⟩) (wk (wkSr rfl) ⟨bE rfl ?_, trivial⟩) ?_
    ·rw [hX2]
    have hwlen : ∀ x, (wordsK (n + 3) x).length = n + 3 := fun x => wordsK_len _ _
    have hU1 : rng (wput U j (wordsK (n + 3) (u - Q0 * val v))) := wput_rng hU (wordsK_rng _ _)
    have hU1l : (wput U j (wordsK (n + 3) (u - Q0 * val v))).length = U.length := wput_len (by rw [hwlen]; omega)
    have hlast : wput (wput U j (wordsK (n + 3) (u - Q0 * val v))) j (wordsK (n + 3) (val (((wput U j (wordsK (n + 3) (u - Q0 * val v))).drop j).take (n + 3)) + val v)) = wput U j (wordsK (n + 3) (u % val v)) := by
     rw [wput_wput (by rw [hwlen]; omega) (by rw [hwlen, hwlen]), wput_drop (by rw [hwlen]; omega), List.take_append_of_le_length (by rw [hwlen]; omega), List.take_of_length_le (by rw [hwlen]; omega), wordsK_val]
     refine congrArg (wput U j) (wordsK_mod _ _ _ ?_)
     rw [Int.emod_add_emod]
     congr 1
     omega
    generalize wput U j (wordsK (n + 3) (u - Q0 * val v)) = U1 at *
    clear hX2 hsh hbb s1 s2 hws hwg hX
    refine rr rfl (tr_seq (rr rfl ?_))
    refine tr_block (tr_loop (α := Nat × Int) (fun x => ⟨[(0, .c (.W 0 j (n + 3))), (1, cS U32 v), (5, cI v.length), (7, cU Q0), (9, cU x.2), (135, cI v.length), (136, cI x.1)], [(0, .vec 132 U32 (wput U1 j (wordsK x.1 (val ((U1.drop j).take x.1) + val (v.take x.1)))))], 60, []⟩) (fun x => x.1 ≤ n + 2 ∧ (val ((U1.drop j).take x.1) + val (v.take x.1)) / 4294967296 ^ x.1 = x.2 ∧ (x.2 = 0 ∨ x.2 = 1)) (fun x => n + 2 - x.1) (0, 0) ⟨Nat.zero_le _, by simp [val], .inl rfl⟩ (wk (wkSr rfl) ⟨bE rfl ?_, trivial⟩) ?_)
    ·exact congrArg (Blk.vec 132 U32) (wput_nil U1 j).symm
    rintro ⟨i, c⟩ ⟨h1, h2, h4⟩
    simp only at h1 h2 h4
    have gu := rng_get hU1 (j + i)
    have hst := ad_step U1 v j i (c := c) rfl h2
    simp only at hst
    let ⟨s1, s2⟩ := hst
    have hlen : (wordsK i (val ((U1.drop j).take i) + val (v.take i))).length = i := wordsK_len _ _
    have hwl := wput_len (U := U1) (j := j) (ws := wordsK i (val ((U1.drop j).take i) + val (v.take i))) (by omega)
    have hwg := wput_get (U := U1) (j := j) (ws := wordsK i (val ((U1.drop j).take i) + val (v.take i))) (by omega)
    have hws := fun w => wput_set (U := U1) (j := j) (ws := wordsK i (val ((U1.drop j).take i) + val (v.take i))) w (by omega)
    rw [hlen] at hwg hws
    refine rr rfl (tr_seq ?_)
    refine tr_cond rfl (fun h => ?_) (fun h => ?_)
    ·have h : i < n + 2 := by
      have h : (i : Int) < (v.length : Int) := of_decide_eq_true h
      omega
     have gv := rng_get hv i
     generalize hX : wput U1 j (wordsK i (val ((U1.drop j).take i) + val (v.take i))) = X at *
     have ei : (i : Int).toNat = i := Int.toNat_natCast i
     refine skT (tr_seq (tr_block (rr rfl (rr rfl (hp := by simp only [Pr.an, Pr.h, num, i64r, true_and, and_true]; first | done | omega) ?_))))
     have w1 : IntKind.wrap .u64 (IntKind.wrap .u64 (IntKind.wrap .u64 (X.getD (j + (i : Int).toNat) 0) + IntKind.wrap .u64 (v.getD (i : Int).toNat 0)) + c) = U1.getD (j + i) 0 + v.getD i 0 + c := by
      rw [ei, hwg, wrap_u64 (U1.getD (j + i) 0) (by omega) (by omega), wrap_u64 (v.getD i 0) (by omega) (by omega), wrap_u64 (_ + v.getD i 0) (by omega) (by omega), wrap_u64 _ (by omega) (by omega)]
     generalize ht : U1.getD (j + i) 0 + v.getD i 0 + c = s at *
     have ht0 : 0 ≤ s ∧ s < 8589934592 := by omega
     refine tr_wk (st' := ⟨[(0, .c (.W 0 j (n + 3))), (1, cS U32 v), (5, cI v.length), (7, cU Q0), (15, cI i), (16, cU s), (135, cI v.length), (136, cI i)], [(0, .vec 132 U32 X)], 70, []⟩) (wk ⟨sR rfl, sR rfl, sR rfl, sR rfl, sR rfl, sE rfl ?_, sR rfl, sR rfl, trivial⟩ ⟨bR rfl, trivial⟩) ?_
     ·exact cgU w1
     refine rr rfl (hp := by simp only [Pr.an, Pr.h, num, i64r, true_and, and_true]; first | done | omega) (rt rfl (hp := by simp only [Pr.an, Pr.h, num, i64r, true_and, and_true]; first | done | omega) (bkT (rt rfl (at_loop (i + 1, s / 4294967296) ⟨by show i + 1 ≤ n + 2; omega, s2, by show s / 4294967296 = 0 ∨ s / 4294967296 = 1; omega⟩ (by show n + 2 - (i + 1) < n + 2 - i; omega) (wk ⟨sR rfl, sR rfl, sR rfl, sR rfl, sE rfl ?_, sR rfl, sR rfl, trivial⟩ ⟨bE rfl ?_, trivial⟩)))))
     ·exact cgU (shr_u64 s 32 (by omega))
     ·refine congrArg (Blk.vec 132 U32) ?_
      show X.set (j + (i : Int).toNat) (IntKind.wrap .u32 s) = wput U1 j (wordsK (i + 1) _)
      rw [s1, ei, wrapm_u32, hws]
    ·have e : i = n + 2 := by
      have h : ¬ (i : Int) < (v.length : Int) := of_decide_eq_false h
      omega
     subst e
     rw [hv0, Int.add_zero, val_take_ge v (n + 2 + 1) (by omega)] at s1
     generalize hX : wput U1 j (wordsK (n + 2) (val ((U1.drop j).take (n + 2)) + val (v.take (n + 2)))) = X at *
     refine xlE (at_then (rr rfl (hp := by simp only [Pr.an, Pr.h, num, i64r, true_and, and_true]; first | done | omega) (rr rfl (tr_ret ?_))))
     refine at_wk (st' := ⟨[(4, cW (u / val v))], [(0, .vec 132 U32 (wput U j (wordsK (n + 3) (u % val v))))], 90, []⟩) (wk ⟨sE rfl ?_, trivial⟩ ⟨bE rfl ?_, trivial⟩) (at_retM TT_ok rfl (AVle.refl _) rfl)
     ·refine cgW ?_
      rw [wrapm_u64, wrapm_u32]; omega
     ·refine congrArg (Blk.vec 132 U32) ?_
      rw [← hlast, show n + 3 = n + 2 + 1 from rfl, s1, a1, hwg, wrapm_u32, wrapm_u32, show (U1.getD (j + (n + 2)) 0 + c % 4294967296) % 4294967296 = (U1.getD (j + (n + 2)) 0 + c) % 4294967296 by omega, hws]
 ·refine cgU ?_
  show IntKind.wrap .u64 (t.tdiv (IntKind.wrap .u64 (v.getD ((v.length : Int) - 1).toNat 0))) = t / v1
  have := Int.ediv_le_self v1 ht0
  rw [x1, tdiv_pos' ht0, wrap_u64 _ hd0 (by omega)]
 ·refine cgU ?_
  show (t.tmod (IntKind.wrap .u64 (v.getD ((v.length : Int) - 1).toNat 0))) = t % v1
  rw [x1, tmod_pos' ht0]
 ·rintro ⟨f, q, r⟩ ⟨h1, h2, h3, h4, h5, h6⟩
  simp only at h1 h2 h3 h4 h5 h6
  have hqs := hsm h2 h3
  cases f with
  | zero => omega
  | succ f =>
  rw [gsL] at h1
  have hm1 : 0 ≤ q * v2 ∧ q * v2 < 18446744073709551616 := by
   refine ⟨Int.mul_nonneg (by omega) (by omega), ?_⟩
   have : q * v2 ≤ 4294967297 * 4294967295 := Int.mul_le_mul (by omega) (by omega) (by omega) (by decide)
   omega
  refine tr_seq (rb (rg 50 rfl rfl (fun h => ?_) (fun h => ?_)))
  ·have hqB : q ≥ 4294967296 := by simpa using h
   have hc : q ≥ 4294967296 ∨ q * v2 > r * 4294967296 + u2 := .inl hqB
   refine re rfl (tr_cond rfl (fun _ => ?_) (fun h7 => by cases h7))
   have hlt : u / val v < q := by
    rcases hc with hc | hc
    ·have := K.qlt; omega
    ·exact K.down h2 (by omega) hc
   have w1 : IntKind.wrap .u64 (q - 1) = q - 1 := wrap_u64 _ (by omega) (by omega)
   have w2 : IntKind.wrap .u64 (r + IntKind.wrap .u64 (v.getD ((v.length : Int) - 1).toNat 0)) = r + v1 := by rw [x1, wrap_u64 _ (by omega) (by omega)]
   refine skT (tr_block (rr rfl (rr rfl (hp := by simp only [Pr.an, Pr.h, num, i64r, true_and, and_true]; first | done | omega) (rr rfl (tr_cond rfl (fun h7 => ?_) (fun h7 => ?_))))))
   ·have h7 : r + v1 ≥ 4294967296 := by
     have h7 : IntKind.wrap .u64 (r + IntKind.wrap .u64 (v.getD ((v.length : Int) - 1).toNat 0)) ≥ 4294967296 := of_decide_eq_true h7
     omega
    rw [if_pos hc, if_pos h7] at h1
    refine tr_exit (at_block_exit_ne (at_loop_exit (at_block_exit (at_mid mid (wk ⟨sR rfl, sR rfl, sR rfl, sE rfl ?_, trivial⟩ ⟨bR rfl, trivial⟩)))))
    refine cgU ?_
    rw [← h1]; exact w1
   ·have h7 : ¬ r + v1 ≥ 4294967296 := by
     have h7 : ¬ IntKind.wrap .u64 (r + IntKind.wrap .u64 (v.getD ((v.length : Int) - 1).toNat 0)) ≥ 4294967296 := of_decide_eq_false h7
     omega
    rw [if_pos hc, if_neg h7] at h1
    refine tr_skip (at_block (at_loop (f, q - 1, r + v1) ⟨h1, by show t = (q - 1) * v1 + (r + v1); rw [Int.sub_mul, Int.one_mul]; omega, by show 0 ≤ r + v1; omega, by show r + v1 < 4294967296; omega, by show (4294967296 : Int) ≤ r + v1 + (f : Nat) * 2147483648; omega, by show u / val v ≤ q - 1; omega⟩ (Nat.lt_succ_self f) (wk ⟨sR rfl, sR rfl, sR rfl, sR rfl, sE rfl ?_, sE rfl ?_, trivial⟩ ⟨bR rfl, trivial⟩)))
    ·exact cgU w1
    ·exact cgU w2
  ·have hqB : ¬ q ≥ 4294967296 := by
    have : q < 4294967296 := by simpa using h
    omega
   have w3 : IntKind.wrap .u64 (q * IntKind.wrap .u64 (v.getD ((v.length : Int) - 2).toNat 0)) = q * v2 := by rw [x2, wrap_u64 _ hm1.1 hm1.2]
   have w4 : IntKind.wrap .u64 ((BitVec.ofInt (IntKind.bits .u64) (IntKind.wrap .u64 (r * 2 ^ (min ((32 : Nat) : Int).toNat (IntKind.bits .u64)))) ||| BitVec.ofInt (IntKind.bits .u64) (IntKind.wrap .u64 (U.getD (j + ((v.length : Int) - 2).toNat) 0))).toNat : Int) = r * 4294967296 + u2 := by
    rw [x3, shl_u64 r 32 h3 (by omega) (by omega), or_u64 _ _ 32 (by omega) (Int.mul_emod_left _ _) (by omega) (by omega) (by omega), show (2 : Int) ^ 32 = 4294967296 from rfl]
   refine re rfl (hp := by simp only [Pr.an, Pr.h, num, i64r, true_and, and_true]; first | done | omega) (tr_cond rfl (fun h8 => ?_) (fun h8 => ?_))
   ·have hc : q ≥ 4294967296 ∨ q * v2 > r * 4294967296 + u2 := .inr (by
     have h8 : IntKind.wrap .u64 (q * IntKind.wrap .u64 (v.getD ((v.length : Int) - 2).toNat 0)) > IntKind.wrap .u64 ((BitVec.ofInt (IntKind.bits .u64) (IntKind.wrap .u64 (r * 2 ^ (min ((32 : Nat) : Int).toNat (IntKind.bits .u64)))) ||| BitVec.ofInt (IntKind.bits .u64) (IntKind.wrap .u64 (U.getD (j + ((v.length : Int) - 2).toNat) 0))).toNat : Int) := of_decide_eq_true h8
     rw [w3, w4] at h8
     exact h8)
    have hlt : u / val v < q := by
     rcases hc with hc | hc
     ·have := K.qlt; omega
     ·exact K.down h2 (by omega) hc
    have w1 : IntKind.wrap .u64 (q - 1) = q - 1 := wrap_u64 _ (by omega) (by omega)
    have w2 : IntKind.wrap .u64 (r + IntKind.wrap .u64 (v.getD ((v.length : Int) - 1).toNat 0)) = r + v1 := by rw [x1, wrap_u64 _ (by omega) (by omega)]
    refine skT (tr_block (rr rfl (rr rfl (hp := by simp only [Pr.an, Pr.h, num, i64r, true_and, and_true]; first | done | omega) (rr rfl (tr_cond rfl (fun h7 => ?_) (fun h7 => ?_))))))
    ·have h7 : r + v1 ≥ 4294967296 := by
      have h7 : IntKind.wrap .u64 (r + IntKind.wrap .u64 (v.getD ((v.length : Int) - 1).toNat 0)) ≥ 4294967296 := of_decide_eq_true h7
      omega
     rw [if_pos hc, if_pos h7] at h1
     refine tr_exit (at_block_exit_ne (at_loop_exit (at_block_exit (at_mid mid (wk ⟨sR rfl, sR rfl, sR rfl, sE rfl ?_, trivial⟩ ⟨bR rfl, trivial⟩)))))
     refine cgU ?_
     rw [← h1]; exact w1
    ·have h7 : ¬ r + v1 ≥ 4294967296 := by
      have h7 : ¬ IntKind.wrap .u64 (r + IntKind.wrap .u64 (v.getD ((v.length : Int) - 1).toNat 0)) ≥ 4294967296 := of_decide_eq_false h7
      omega
     rw [if_pos hc, if_neg h7] at h1
     refine tr_skip (at_block (at_loop (f, q - 1, r + v1) ⟨h1, by show t = (q - 1) * v1 + (r + v1); rw [Int.sub_mul, Int.one_mul]; omega, by show 0 ≤ r + v1; omega, by show r + v1 < 4294967296; omega, by show (4294967296 : Int) ≤ r + v1 + (f : Nat) * 2147483648; omega, by show u / val v ≤ q - 1; omega⟩ (Nat.lt_succ_self f) (wk ⟨sR rfl, sR rfl, sR rfl, sR rfl, sE rfl ?_, sE rfl ?_, trivial⟩ ⟨bR rfl, trivial⟩)))
     ·exact cgU w1
     ·exact cgU w2
   ·have hc : ¬ (q ≥ 4294967296 ∨ q * v2 > r * 4294967296 + u2) := by
     have h8 : ¬ IntKind.wrap .u64 (q * IntKind.wrap .u64 (v.getD ((v.length : Int) - 2).toNat 0)) > IntKind.wrap .u64 ((BitVec.ofInt (IntKind.bits .u64) (IntKind.wrap .u64 (r * 2 ^ (min ((32 : Nat) : Int).toNat (IntKind.bits .u64)))) ||| BitVec.ofInt (IntKind.bits .u64) (IntKind.wrap .u64 (U.getD (j + ((v.length : Int) - 2).toNat) 0))).toNat : Int) := of_decide_eq_false h8
     rw [w3, w4] at h8
     omega
    rw [if_neg hc] at h1
    subst h1
    exact xlE (at_mid mid wkA)
theorem itrim_z (m : Nat) : FnS Tryz.prog 101 [cS U32 (wordsN m)] (cS U32 (wordsN m)) := by
 have h := trim_s (wordsN m)
 rwa [trimW_words] at h
theorem shnorm_ok {k n : Nat} (hn : (wordsN k).length = n + 2) {x s : Nat} (ex : (x : Int) = (wordsN k).getD (n + 1) 0) (h1 : 2147483648 ≤ x * 2 ^ s) (h2 : x * 2 ^ s < 4294967296) (hs : s ≤ 31) :
  ((k * 2 ^ s : Nat) : Int) < 4294967296 ^ (n + 2) ∧ (wordsN (k * 2 ^ s)).length = n + 2 ∧ 2147483648 ≤ (wordsN (k * 2 ^ s)).getD (n + 1) 0 := by
 have hD : 0 < 2 ^ s := Nat.pow_pos (by decide)
 have hx1 : (x + 1) * 2 ^ s ≤ 4294967296 := by
  have e : 4294967296 = 2 ^ (32 - s) * 2 ^ s := by rw [← Nat.pow_add, show 32 - s + s = 32 by omega]
  have : x < 2 ^ (32 - s) := by
   rw [e] at h2
   exact Nat.lt_of_mul_lt_mul_right h2
  rw [e]
  exact Nat.mul_le_mul_right _ this
 generalize hDD : 2 ^ s = D at *
 have hv := val_take_succ' (wordsN k) (n + 1)
 rw [val_take_ge _ _ (show (wordsN k).length ≤ n + 1 + 1 by omega), val_words, ← ex] at hv
 have l1 := val_lt (rng_take (rng_words k) (n + 1))
 rw [show ((wordsN k).take (n + 1)).length = n + 1 by simp; omega] at l1
 have l0 := val_nonneg (rng_take (rng_words k) (n + 1))
 have hp := powB_pos (n + 1)
 generalize val ((wordsN k).take (n + 1)) = k' at *
 have hx1' : ((x : Int) + 1) * (D : Int) ≤ 4294967296 := by
  have : (((x + 1) * D : Nat) : Int) ≤ ((4294967296 : Nat) : Int) := by omega
  rw [Int.natCast_mul, Int.natCast_add] at this
  exact this
 have kd : ((k * D : Nat) : Int) < 4294967296 ^ (n + 2) := by
  rw [Int.natCast_mul, powB_succ, hv]
  have a1 : (k' + (x : Int) * 4294967296 ^ (n + 1)) * D < (((x : Int) + 1) * 4294967296 ^ (n + 1)) * D := Int.mul_lt_mul_of_pos_right (by rw [Int.add_mul, Int.one_mul]; omega) (by omega)
  have a2 : ((x : Int) + 1) * 4294967296 ^ (n + 1) * D = 4294967296 ^ (n + 1) * (((x : Int) + 1) * D) := by
   generalize (4294967296 : Int) ^ (n + 1) = y
   grind
  have a3 : 4294967296 ^ (n + 1) * (((x : Int) + 1) * D) ≤ 4294967296 ^ (n + 1) * 4294967296 := Int.mul_le_mul_of_nonneg_left hx1' (by omega)
  omega
 have hl : (wordsN (k * D)).length = n + 2 := by
  have b1 : (wordsN (k * D)).length ≤ n + 2 := words_len_le kd
  have b2 := words_len_mono (m := k) (k := k * D) (Nat.le_mul_of_pos_right _ hD)
  omega
 refine ⟨kd, hl, ?_⟩
 have hv2 := val_take_succ' (wordsN (k * D)) (n + 1)
 rw [val_take_ge _ _ (show (wordsN (k * D)).length ≤ n + 1 + 1 by omega), val_words] at hv2
 have m1 := val_lt (rng_take (rng_words (k * D)) (n + 1))
 rw [show ((wordsN (k * D)).take (n + 1)).length = n + 1 by simp; omega] at m1
 generalize (wordsN (k * D)).getD (n + 1) 0 = c1 at *
 generalize val ((wordsN (k * D)).take (n + 1)) = c' at *
 by_cases e : 2147483648 ≤ c1
 ·exact e
 ·exfalso
  have e1 : (c1 + 1) * 4294967296 ^ (n + 1) ≤ (x : Int) * D * 4294967296 ^ (n + 1) := Int.mul_le_mul_of_nonneg_right (by omega) (by omega)
  have e2 : (x : Int) * 4294967296 ^ (n + 1) * D ≤ (k : Int) * D := Int.mul_le_mul_of_nonneg_right (by omega) (by omega)
  have e3 : (x : Int) * 4294967296 ^ (n + 1) * D = (x : Int) * D * 4294967296 ^ (n + 1) := by
   generalize (4294967296 : Int) ^ (n + 1) = y
   grind
  have e4 : (c1 + 1) * 4294967296 ^ (n + 1) = c1 * 4294967296 ^ (n + 1) + 4294967296 ^ (n + 1) := by rw [Int.add_mul, Int.one_mul]
  rw [Int.natCast_mul] at hv2
  omega
set_option maxHeartbeats 8000000 in
theorem idivideL_s (m k n : Nat) (hn : (wordsN k).length = n + 2) (hmk : k ≤ m) (lm : (wordsN m).length ≤ 1099511627776) : FnS Tryz.prog 103 [cS U32 (wordsN m), cS U32 (wordsN k)] (.t [(false, [.S U32 (wordsN (m / k))]), (false, [.S U32 (wordsN (m % k))])]) := by
 refine fsI Tryz.func103 ?_
 have hb1 := rng_get (rng_words k) (n + 1)
 have hb0 : (wordsN k).getD (n + 1) 0 ≠ 0 := by
  rcases words_can k with e | e
  ·rw [e] at hn; simp at hn
  ·rw [hn] at e; exact e
 obtain ⟨x, ex⟩ : ∃ x : Nat, (x : Int) = (wordsN k).getD (n + 1) 0 := ⟨((wordsN k).getD (n + 1) 0).toNat, Int.toNat_of_nonneg hb1.1⟩
 let ⟨s, hlz, hs, x1, x2⟩ := lz32_s x (by omega) (by omega)
 let ⟨f5, f6, f7⟩ := shnorm_ok hn ex x1 x2 hs
 have hD : 0 < 2 ^ s := Nat.pow_pos (by decide)
 have hD2 : 2 ^ s ≤ 2 ^ 31 := Nat.pow_le_pow_right (by decide) hs
 have hDz : (2 : Int) ^ s = ((2 ^ s : Nat) : Int) := by simp
 have hk0 : 0 < k := by
  rcases Nat.eq_zero_or_pos k with e | e
  ·subst e; rw [wordsN_zero] at hn; simp at hn
  ·exact e
 have hla : n + 2 ≤ (wordsN m).length := by rw [← hn]; exact words_len_mono hmk
 obtain ⟨M, hM⟩ : ∃ M, (wordsN m).length = M + (n + 2) := ⟨(wordsN m).length - (n + 2), by omega⟩
 have hmd : ((m * 2 ^ s : Nat) : Int) < 4294967296 ^ (M + (n + 2) + 1) := by
  have h1 := words_len_lt (n := m)
  rw [hM] at h1
  rw [powB_succ, Int.natCast_mul]
  have := powB_pos (M + (n + 2))
  have h2 : (m : Int) * ((2 ^ s : Nat) : Int) ≤ (m : Int) * 4294967296 := Int.mul_le_mul_of_nonneg_left (by omega) (by omega)
  omega
 have hcmp : ¬ cmpN (m : Int) (k : Int) < 0 := by
  unfold cmpN
  rw [if_neg (by omega)]
  split <;> decide
 have hsa := ishl_s (wordsN m) s (rng_words m) hs lm
 have hsb := (ishl_s (wordsN k) s (rng_words k) hs (by omega)).fs
 have hlk := words_len_lt (n := k)
 rw [hn] at hlk
 rw [val_words, hn, hDz, ← Int.natCast_mul] at hsb
 rw [val_words, hDz, ← Int.natCast_mul, hM] at hsa
 have hVt : (wordsK (n + 2 + 1) ((k * 2 ^ s : Nat) : Int)).take (n + 2) = wordsN (k * 2 ^ s) := by
  have := wordsK_self (rng_words (k * 2 ^ s))
  rw [f6, val_words] at this
  rw [wordsK_succ, List.take_left' (wordsK_len _ _), this]
 refine rr rfl (rb (rc rfl rfl (itrim_z m) (rc rfl rfl (itrim_z k) (re rfl ?_))))
 refine tr_seq (rbc rfl rfl (icompare_z m k) rfl (tr_cond rfl (fun h => absurd (of_decide_eq_true h) hcmp) (fun _ => skT ?_)))
 refine tr_seq (rr rfl (tr_cond rfl (fun h => ?_) (fun _ => skT ?_)))
 ·exfalso
  have h : ((wordsN k).length : Int) = 1 := eq_of_beq h
  omega
 have a2 : (((wordsN k).length : Int) - 1).toNat = n + 1 := by omega
 have hlz' : FnS Tryz.prog 141 [cW ((wordsN k).getD (((wordsN k).length : Int) - 1).toNat 0)] (cI s) := by
  rw [a2, ← ex]; exact hlz
 refine rr rfl (rb (rc rfl rfl hlz' (re rfl (hp := by simp only [Pr.an, Pr.h, num, i64r, true_and, and_true]; first | done | omega) ?_)))
 refine rb (rcv rfl rfl hsa (re rfl ?_))
 refine rb (rc rfl rfl hsb (re rfl (hp := by simp only [Pr.an, Pr.h, num, i64r, true_and, and_true]; rw [wordsK_len]; omega) ?_))
 refine rb (rm U32 (M + 1) rfl rfl rfl rfl rfl rfl (zr_int .u32) (by omega) ?_ ?_ (re rfl ?_))
 ·show _ * 4 ≤ _; omega
 ·show _ * 1 ≤ _; omega
 generalize hU0 : wordsK (M + (n + 2) + 1) ((m * 2 ^ s : Nat) : Int) = U0
 have hU0v : val U0 = ((m * 2 ^ s : Nat) : Int) := by
  rw [← hU0, wordsK_val, Int.emod_eq_of_lt (by omega) hmd]
 have hU0r : rng U0 := by rw [← hU0]; exact wordsK_rng _ _
 have hU0l : U0.length = M + (n + 2) + 1 := by rw [← hU0, wordsK_len]
 have hv0 : (0 : Int) < ((k * 2 ^ s : Nat) : Int) := by
  have : 0 < k * 2 ^ s := Nat.mul_pos hk0 hD
  omega
 have hI0 : KdI ((m * 2 ^ s : Nat) : Int) ((k * 2 ^ s : Nat) : Int) (n + 2) M (M + 1, U0, List.replicate (M + 1) 0) := by
  refine ⟨Nat.le_refl _, hU0l, hU0r, ?_, by simp, rng_rep _, fun i hi => ?_, ?_⟩
  ·show val (U0.drop (M + 1)) < _
   have h1 := val_split U0 (M + 1) (by omega)
   have h2 := val_nonneg (rng_take hU0r (M + 1))
   have hp := powB_pos (M + 1)
   by_cases e : val (U0.drop (M + 1)) < ((k * 2 ^ s : Nat) : Int)
   ·exact e
   ·exfalso
    have h3 : 4294967296 ^ (M + 1) * ((k * 2 ^ s : Nat) : Int) ≤ 4294967296 ^ (M + 1) * val (U0.drop (M + 1)) := Int.mul_le_mul_of_nonneg_left (by omega) (by omega)
    have h4 := can_ge (rng_words k) (words_can k) (by intro e; rw [e] at hn; simp at hn)
    rw [val_words, hn, show n + 2 - 1 = n + 1 by omega] at h4
    have h5 := words_len_lt (n := m)
    rw [hM, show M + (n + 2) = M + 1 + (n + 1) by omega, Int.pow_add] at h5
    have h6 : 4294967296 ^ (M + 1) * 4294967296 ^ (n + 1) * ((2 ^ s : Nat) : Int) ≤ 4294967296 ^ (M + 1) * ((k * 2 ^ s : Nat) : Int) := by
     rw [Int.natCast_mul, Int.mul_assoc]
     exact Int.mul_le_mul_of_nonneg_left (Int.mul_le_mul_of_nonneg_right h4 (by omega)) (by omega)
    have h7 : (m : Int) * ((2 ^ s : Nat) : Int) < 4294967296 ^ (M + 1) * 4294967296 ^ (n + 1) * ((2 ^ s : Nat) : Int) := Int.mul_lt_mul_of_pos_right h5 (by omega)
    rw [hU0v, Int.natCast_mul m] at h1
    omega
  ·show (List.replicate (M + 1) (0 : Int)).getD i 0 = 0
   rw [List.getD_eq_getElem?_getD, List.getElem?_replicate]
   split <;> rfl
  ·show _ = val U0 + _ * val (List.replicate (M + 1) 0)
   rw [val_rep, hU0v]; omega
 refine tr_seq (rr rfl ?_)
 refine tr_block (tr_loop (α := Nat × List Int × List Int) (fun x => ⟨[(8, cI ((n + 2 : Nat) : Int)), (9, cI s), (10, .c (.X 6002000)), (11, cS U32 (wordsN (k * 2 ^ s))), (12, .c (.X 8005000)), (13, cI ((x.1 : Int) - 1))], [(6002000, .vec 132 U32 x.2.1), (8005000, .vec 132 U32 x.2.2)], 10, []⟩) (KdI ((m * 2 ^ s : Nat) : Int) ((k * 2 ^ s : Nat) : Int) (n + 2) M) (fun x => x.1) (M + 1, U0, List.replicate (M + 1) 0) hI0 (wk ⟨sE rfl ?_, sR rfl, sR rfl, sE rfl ?_, sR rfl, sE rfl ?_, trivial⟩ (wkMr rfl)) ?_)
 ·exact cgJ (by omega)
 ·refine congrArg (fun z => AV.c (C.S U32 z)) ?_
  rw [← hVt]
  simp only [hn, Int.toNat_natCast, List.drop_zero]
 ·exact cgJ (by omega)
 rintro ⟨c, U, Q⟩ hI
 have hul : U.length = M + (n + 2) + 1 := hI.ul
 have hur : rng U := hI.ur
 have hql : Q.length = M + 1 := hI.ql
 have hck : c ≤ M + 1 := hI.k
 refine tr_seq (rr rfl ?_)
 refine tr_cond rfl (fun h => ?_) (fun h => ?_)
 ·have h : (c : Int) - 1 ≥ 0 := of_decide_eq_true h
  obtain ⟨j, rfl⟩ : ∃ j, c = j + 1 := ⟨c - 1, by omega⟩
  have ej : ((j + 1 : Nat) : Int) - 1 = (j : Int) := by omega
  rw [ej]
  have hnext := hI.next hv0 f5
  let ⟨_, hwl⟩ := hI.win f5
  have hqw := iqw_s U (wordsN (k * 2 ^ s)) j n hur (rng_words _) f6 (by omega) (by omega) f7 (by rw [val_words]; exact hwl)
  rw [val_words] at hqw
  rw [show n + 2 + 1 = n + 3 from rfl] at hnext hwl
  have hu0 := val_nonneg (rng_take (rng_drop hur j) (n + 3))
  refine skT (tr_seq (tr_block ?_))
  refine rbt (rw_ j (j + (n + 3)) rfl rfl rfl rfl rfl rfl (by omega) (by omega) (by show j + (n + 3) ≤ U.length; omega) ?_)
  rw [show j + (n + 3) - j = n + 3 by omega]
  refine rcm 6002000 rfl hqw rfl rfl (re rfl ?_)
  refine bkT (rt rfl (at_loop (j, wput U j (wordsK (n + 3) (val ((U.drop j).take (n + 3)) % ((k * 2 ^ s : Nat) : Int))), Q.set j (val ((U.drop j).take (n + 3)) / ((k * 2 ^ s : Nat) : Int))) hnext (Nat.lt_succ_self j) (wk (wkSr rfl) ⟨bR rfl, bE rfl ?_, trivial⟩)))
  refine congrArg (Blk.vec 132 U32) ?_
  show Q.set (j : Int).toNat _ = Q.set j _
  rw [Int.toNat_natCast]
 ·have h : ¬ (c : Int) - 1 ≥ 0 := of_decide_eq_false h
  have hc : c = 0 := by omega
  subst hc
  let ⟨e1, e2⟩ := hI.fin
  have q1 : trimW Q = wordsN (m / k) := by
   rw [trimW_eq hI.qr]
   show wordsN (val Q).toNat = _
   rw [e1]
   have : ((m * 2 ^ s : Nat) : Int) / ((k * 2 ^ s : Nat) : Int) = ((m / k : Nat) : Int) := by
    rw [← Int.natCast_ediv, Nat.mul_div_mul_right _ _ hD]
   rw [this, Int.toNat_natCast]
  have hub : val U < ((k * 2 ^ s : Nat) : Int) := hI.ub
  have hut : val (U.take (n + 2)) = val U := by
   have h1 := val_split U (n + 2) (by omega)
   rw [val_zero_of_small hur (n + 2) (by omega) (by omega), Int.mul_zero, Int.add_zero] at h1
   exact h1.symm
  have hsh := ishr_s (U.take (n + 2)) s (rng_take hur _) hs (by rw [List.length_take]; omega)
  have q2 : wordsN (val (U.take (n + 2)) / 2 ^ s).toNat = wordsN (m % k) := by
   rw [hut, e2, hDz]
   have : ((m * 2 ^ s : Nat) : Int) % ((k * 2 ^ s : Nat) : Int) / ((2 ^ s : Nat) : Int) = ((m % k : Nat) : Int) := by
    rw [← Int.natCast_emod, Nat.mul_mod_mul_right, ← Int.natCast_ediv, Nat.mul_div_cancel _ hD]
   rw [this, Int.toNat_natCast]
  rw [q2] at hsh
  have ht := trim_s Q
  rw [q1] at ht
  refine xlE (at_then (tr_frz 6002000 rfl rfl rfl (tr_frz 8005000 rfl rfl rfl ?_)))
  refine rb (rc rfl rfl ht (rc rfl rfl hsh (hp := by simp only [Pr.an, Pr.h, num, i64r, true_and, and_true]; first | done | omega) (re rfl (rtE rfl ?_))))
  rfl
theorem idivide_s (m k : Nat) (hk : k ≠ 0) (lm : (wordsN m).length ≤ 1099511627776) : FnS Tryz.prog 103 [cS U32 (wordsN m), cS U32 (wordsN k)] (.t [(false, [.S U32 (wordsN (m / k))]), (false, [.S U32 (wordsN (m % k))])]) := by
 by_cases hmk : m < k
 ·refine fsI Tryz.func103 ?_
  refine rr rfl (rb (rc rfl rfl (itrim_z m) (rc rfl rfl (itrim_z k) (re rfl ?_))))
  refine tr_seq (rbc rfl rfl (icompare_z m k) rfl (tr_cond rfl (fun _ => ?_) (fun h => ?_)))
  ·refine rbc rfl rfl (iclone_s (wordsN m) lm) rfl (tr_ret (at_then_ret (at_ret TT_ok rfl ?_)))
   rw [Nat.div_eq_of_lt hmk, Nat.mod_eq_of_lt hmk]
   exact AVle.t2 (AVle.nil U32)
  ·exfalso
   have h : ¬ cmpN (m : Int) (k : Int) < 0 := of_decide_eq_false h
   unfold cmpN at h
   rw [if_pos (by omega)] at h
   omega
 ·by_cases hk2 : k < 4294967296
  ·refine fsI Tryz.func103 ?_
   have hw : wordsN k = [(k : Int)] := by
    rw [wordsN_pos hk, Nat.div_eq_of_lt hk2, wordsN_zero, Nat.mod_eq_of_lt hk2]
   have hcmp : ¬ cmpN (m : Int) (k : Int) < 0 := by
    unfold cmpN
    rw [if_neg (by omega)]
    split <;> decide
   have hd := idivideSmall_s (wordsN m) (k : Int) (rng_words m) (by omega) (by omega) lm
   rw [val_words, ← Int.natCast_ediv, ← Int.natCast_emod, Int.toNat_natCast] at hd
   have hc := icompare_z m k
   have ht := itrim_z k
   rw [hw] at hc ht ⊢
   refine rr rfl (rb (rc rfl rfl (itrim_z m) (rc rfl rfl ht (re rfl ?_))))
   refine tr_seq (rbc rfl rfl hc rfl (tr_cond rfl (fun h => absurd (of_decide_eq_true h) hcmp) (fun _ => skT ?_)))
   have hd' : FnS Tryz.prog 140 [cS U32 (wordsN m), .c (num .u64 (k : Int)).1] (.t [(false, [.S U32 (wordsN (m / k))]), (false, [.I .u64 ((m % k : Nat) : Int)])]) := by
    rw [show (AV.c (num .u64 (k : Int)).1) = cU (k : Int) from cgU (wrap_u64 _ (by omega) (by omega))]
    exact hd
   have hmod := Nat.mod_lt m (Nat.pos_of_ne_zero hk)
   refine tr_seq (rr rfl (tr_cond rfl (fun _ => ?_) (fun h => by cases h)))
   refine rbc rfl rfl hd' rfl ?_
   refine rbc rfl rfl (iwords_s (m % k) (by omega)) rfl (tr_ret (at_then_ret (atR rfl)))
  ·have h1 : 2 ≤ (wordsN k).length := by
    by_cases e : 2 ≤ (wordsN k).length
    ·exact e
    ·exfalso
     have h2 := words_len_lt (n := k)
     have h3 := powB_le (m := (wordsN k).length) (n := 1) (by omega)
     rw [Int.pow_one] at h3
     omega
   exact idivideL_s m k ((wordsN k).length - 2) (by omega) (by omega) lm
theorem iDivMod_s (a b : Int) (hb : b ≠ 0) (ha : Sm a) (hsb : Sm b) : FnS Tryz.prog 52 [aZ a, aZ b] (.t [(true, av .z (a / b)), (true, av .z (a % b)), (false, [.I .i64 0])]) := by
 refine fsI Tryz.func52 ?_
 have hb' : b.natAbs ≠ 0 := by omega
 refine rr rfl (tr_seq (rbc rfl rfl (itrim_z b.natAbs) rfl ?_))
 refine tr_cond rfl (fun h2 => ?_) (fun h2 => ?_)
 ·exfalso
  have h2 : ((wordsN b.natAbs).length : Int) = 0 := eq_of_beq h2
  have := words_nil.2 hb'
  omega
 ·refine skT (rbc rfl rfl (idivide_s _ _ hb' ha) rfl (tr_seq (rb ?_)))
  refine rg 26 rfl rfl (fun h3 => ?_) (fun h3 => ?_)
  ·have h3 : a < 0 := by simpa [zneg] using h3
   refine re rfl (tr_cond rfl (fun h4 => ?_) (fun h4 => ?_))
   ·have h4 : a.natAbs % b.natAbs ≠ 0 := by
     have h4 : ((wordsN (a.natAbs % b.natAbs)).length : Int) > 0 := by simpa using h4
     exact words_nil.1 (by omega)
    let ⟨e1, e2⟩ := dm_neg1 (Nat.pos_of_ne_zero hb') h3 h4
    have hz : zneg a = true := by simp [zneg, h3]
    let ⟨e3, e4⟩ := dm_sgn a b (a.natAbs / b.natAbs + 1) (b.natAbs - a.natAbs % b.natAbs) (by rw [hz, e1]; rfl) e2
    have hr : a.natAbs % b.natAbs < b.natAbs := Nat.mod_lt _ (Nat.pos_of_ne_zero hb')
    refine rb (rl U32 [_] rfl rfl (rc rfl rfl (isum_z (a.natAbs / b.natAbs) 1 ?_ (by decide)) (re rfl (rbt (rc rfl rfl (idiff_z b.natAbs _ (by omega) hsb) (re rfl (at_then (rb ?_))))))))
    ·exact Nat.le_trans (words_len_mono (Nat.div_le_self _ _)) ha
    refine rc rfl rfl (isigned_z _ _) (rc rfl rfl (isigned_z _ _) (re rfl (rtE rfl ?_)))
    rw [e3, e4]; rfl
   ·have h4 : a.natAbs % b.natAbs = 0 := by
     have h4 : ¬ ((wordsN (a.natAbs % b.natAbs)).length : Int) > 0 := by simpa using h4
     exact Decidable.byContradiction fun hne => by have := words_nil.2 hne; omega
    let ⟨e1, e2⟩ := dm_neg0 (Nat.pos_of_ne_zero hb') h3 h4
    have hz : zneg a = true := by simp [zneg, h3]
    let ⟨e3, e4⟩ := dm_sgn a b (a.natAbs / b.natAbs) (a.natAbs % b.natAbs) (by rw [hz, e1]; rfl) (by rw [e2, h4]; rfl)
    refine skT (rb (rc rfl rfl (isigned_z _ _) (rc rfl rfl (isigned_z _ _) (re rfl (rtE rfl ?_)))))
    rw [e3, e4]; rfl
  ·have h3 : ¬ a < 0 := by simpa [zneg] using h3
   refine re rfl (tr_cond rfl (fun h4 => by simp at h4) (fun h4 => ?_))
   let ⟨e1, e2⟩ := dm_pos (Nat.pos_of_ne_zero hb') h3
   have hz : zneg a = false := by simp [zneg, h3]
   let ⟨e3, e4⟩ := dm_sgn a b (a.natAbs / b.natAbs) (a.natAbs % b.natAbs) (by rw [hz, e1]; rfl) e2
   refine skT (rb (rc rfl rfl (isigned_z _ _) (rc rfl rfl (isigned_z _ _) (re rfl (rtE rfl ?_)))))
   rw [e3, e4]; rfl
theorem ivalue_s (m : Nat) (hm : m < 18446744073709551616) : FnS Tryz.prog 102 [cS U32 (wordsN m)] (cU m) := by
 refine fsI Tryz.func102 ?_
 have hl := words_len2 hm
 refine rr rfl (rr rfl (tr_seq (rr rfl ?_)))
 refine tr_block (tr_loop (α := Nat) (fun i => ⟨[(0, cS U32 (wordsN m)), (3, cU (val ((wordsN m).take i))), (6, cI (wordsN m).length), (7, cI i)], [], 4, []⟩) (fun i => i ≤ (wordsN m).length) (fun i => (wordsN m).length - i) 0 (Nat.zero_le _) wkA ?_)
 intro i hi
 have g := rng_get (rng_words m) i
 have hs := val_take_succ' (wordsN m) i
 have l1 := val_lt (rng_take (rng_words m) i)
 have l0 := val_nonneg (rng_take (rng_words m) i)
 refine rr rfl (tr_seq ?_)
 refine tr_cond rfl (fun h => ?_) (fun h => ?_)
 ·have h : i < (wordsN m).length := by
   have h : (i : Int) < ((wordsN m).length : Int) := of_decide_eq_true h
   omega
  have hl2 : ((wordsN m).take i).length = i := by simp; omega
  rw [hl2] at l1
  refine skT (tr_seq (tr_block (rr rfl (rt rfl (hp := by simp only [Pr.an, Pr.h, num, i64r, true_and, and_true]; first | done | omega) (bkT (rt rfl (at_loop (i + 1) h (by show (wordsN m).length - (i + 1) < (wordsN m).length - i; omega) (wk ⟨sR rfl, sE rfl ?_, sR rfl, sR rfl, trivial⟩ trivial))))))))
  refine cgU ?_
  have hi01 : i = 0 ∨ i = 1 := by omega
  rcases hi01 with e | e
  ·subst e
   show IntKind.wrap .u64 ((BitVec.ofInt (IntKind.bits .u64) (val ((wordsN m).take 0)) ||| BitVec.ofInt (IntKind.bits .u64) (IntKind.wrap .u64 (IntKind.wrap .u64 ((wordsN m).getD 0 0) * 2 ^ (min (((0 : Nat) : Int)).toNat (IntKind.bits .u64))))).toNat : Int) = val ((wordsN m).take (0 + 1))
   rw [hs, wrap_u64 ((wordsN m).getD 0 0) (by omega) (by omega), shl_u64 _ 0 g.1 (by omega) (by omega)]
   have := or_u64 ((wordsN m).getD 0 0 * 2 ^ 0) 0 0 (by omega) (by simp [Int.emod_one]) (by decide) (by decide) (by omega)
   rw [List.take_zero]
   simp only [val]
   rw [BitVec.or_comm, this]
   simp
  ·subst e
   show IntKind.wrap .u64 ((BitVec.ofInt (IntKind.bits .u64) (val ((wordsN m).take 1)) ||| BitVec.ofInt (IntKind.bits .u64) (IntKind.wrap .u64 (IntKind.wrap .u64 ((wordsN m).getD 1 0) * 2 ^ (min (((32 : Nat) : Int)).toNat (IntKind.bits .u64))))).toNat : Int) = val ((wordsN m).take (1 + 1))
   rw [Int.pow_one] at l1 hs
   rw [hs, wrap_u64 ((wordsN m).getD 1 0) (by omega) (by omega), shl_u64 _ 32 g.1 (by omega) (by omega)]
   have := or_u64 ((wordsN m).getD 1 0 * 2 ^ 32) (val ((wordsN m).take 1)) 32 (by omega) (Int.mul_emod_left _ _) l0 (by omega) (by omega)
   rw [BitVec.or_comm, this, show (2 : Int) ^ 32 = 4294967296 from rfl]
   omega
 ·have h : i = (wordsN m).length := by
   have h : ¬ (i : Int) < ((wordsN m).length : Int) := of_decide_eq_false h
   omega
  subst h
  refine xlE (at_then (rr rfl (rtE rfl (cgU ?_))))
  rw [List.take_length, val_words]
end Go.El

namespace Go.El
open Go Go.RowKit
def mpC (ρ : Nat → Nat) : C → C
 | .P id o => .P (ρ id) o
 | .X id => .X (ρ id)
 | .Y id n i o => .Y (ρ id) n i o
 | .L id o l c => .L (ρ id) o l c
 | .W id o l => .W (ρ id) o l
 | c => c
def mpA (ρ : Nat → Nat) : AV → AV
 | .c x => .c (mpC ρ x)
 | .a cs => .a (cs.map (mpC ρ))
 | .t ss => .t (ss.map fun s => (s.1, s.2.map (mpC ρ)))
def mpB (ρ : Nat → Nat) : Blk → Blk
 | .box E bz cs => .box E bz (cs.map (mpC ρ))
 | .vec E T xs => .vec E T xs
 | .clo f a b => .clo f (a.map fun s => (s.1, s.2.map (mpC ρ))) (b.map fun s => (s.1, s.2.map (mpC ρ)))
 | .fz E cs => .fz E (cs.map (mpC ρ))
 | .mp ka va xs => .mp ka va (xs.map fun x => (x.1.map (mpC ρ), x.2.map (mpC ρ)))
 | .it m n seen => .it (ρ m) n seen
 | .itn m n seen => .itn (ρ m) n seen
theorem mpC_rel {g : Gh} {ρ : Nat → Nat} : ∀ {c : C} {v : Value}, RelC g (mpC ρ c) v → RelC ⟨g.H, fun id => g.γ (ρ id)⟩ c v
 | .any, _, h => h
 | .B _, _, h => h
 | .I _ _, _, h => h
 | .V _, _, h => h
 | .S _ _, _, h => h
 | .P _ _, _, h => h
 | .X _, _, h => h
 | .Y _ _ _ _, _, h => h
 | .E _ _ _, _, h => h
 | .M _, _, h => h
 | .L _ _ _ (some _), _, h => h
 | .L _ _ _ none, _, h => h
 | .W _ _ _, _, h => h
theorem mpL_rel {g : Gh} {ρ : Nat → Nat} : ∀ {cs : List C} {vs : List Value}, RelL g (cs.map (mpC ρ)) vs → RelL ⟨g.H, fun id => g.γ (ρ id)⟩ cs vs
 | [], _, h => h
 | _ :: _, _, h => by
  let ⟨v, r, e, h1, h2⟩ := h
  exact ⟨v, r, e, mpC_rel h1, mpL_rel h2⟩
theorem mpT_rel {g : Gh} {ρ : Nat → Nat} : ∀ {cs : List (Bool × List C)} {vs : List Value}, RelT g (cs.map fun s => (s.1, s.2.map (mpC ρ))) vs → RelT ⟨g.H, fun id => g.γ (ρ id)⟩ cs vs
 | [], _, h => h
 | (b, c) :: _, _, h => by
  let ⟨v, r, e, h1, h2⟩ := h
  refine ⟨v, r, e, ?_, mpT_rel h2⟩
  match b, c, h1 with
  | true, c, h1 => let ⟨vs, e, h⟩ := h1; exact ⟨vs, e, mpL_rel h⟩
  | false, [c], h1 => exact mpC_rel h1
  | false, [], h1 => exact h1.elim
  | false, _ :: _ :: _, h1 => exact h1.elim
theorem mpA_rel {g : Gh} {ρ : Nat → Nat} {x : AV} {v : Value} (h : RelV g (mpA ρ x) v) : RelV ⟨g.H, fun id => g.γ (ρ id)⟩ x v := by
 cases x with
 | c y => exact mpC_rel h
 | a cs => let ⟨vs, e, h⟩ := h; exact ⟨vs, e, mpL_rel h⟩
 | t ss => let ⟨vs, e, h⟩ := h; exact ⟨vs, e, mpT_rel h⟩
theorem mpM_rel {g : Gh} {ρ : Nat → Nat} {ka va : Bool} : ∀ {n : Nat} {xs : List (List C × List C)} {es : List MapEntry}, RelM g ka va n (xs.map fun x => (x.1.map (mpC ρ), x.2.map (mpC ρ))) es → RelM ⟨g.H, fun id => g.γ (ρ id)⟩ ka va n xs es
 | _, [], _, h => h
 | _, _ :: _, _, h => by
  let ⟨e, r, h1, h2, ⟨ks, h3, h3'⟩, ⟨vs, h4, h4'⟩, h5⟩ := h
  exact ⟨e, r, h1, h2, ⟨ks, h3, mpL_rel h3'⟩, ⟨vs, h4, mpL_rel h4'⟩, mpM_rel h5⟩
theorem mpB_rel {N : Nat → Prop} {g : Gh} {W : World} {ρ : Nat → Nat} {id : Nat} {b : Blk} (h : RepB N g W (ρ id) (mpB ρ b)) : RepB N ⟨g.H, fun id => g.γ (ρ id)⟩ W id b := by
 cases b with
 | box E bz cs =>
  let ⟨k, vs, rest, e1, e2, e3, e4, e5, e6⟩ := h
  exact ⟨k, vs, rest, e1, e2, mpL_rel e3, e4, e5, e6⟩
 | vec E T ys =>
  rcases h with ⟨e1, e2⟩ | ⟨k, cap, vs, e1, e2⟩
  ·exact .inl ⟨e1, e2⟩
  ·exact .inr ⟨k, cap, vs, e1, e2⟩
 | clo f first caps =>
  let ⟨us, ws, e1, e2, e3⟩ := h
  exact ⟨us, ws, e1, mpT_rel e2, mpT_rel e3⟩
 | fz E cs =>
  let ⟨k, vs, rest, e1, e2, e3, e4, e5⟩ := h
  exact ⟨k, vs, rest, e1, e2, mpL_rel e3, e4, e5⟩
 | mp ka va xs =>
  let ⟨k, es, e1, e2, e3, e4⟩ := h
  exact ⟨k, es, e1, by simpa using e2, mpM_rel e3, e4⟩
 | it m n seen => exact h
 | itn m n seen => exact h
def WkS2 (ρ : Nat → Nat) (l : List (Nat × AV)) : List (Nat × AV) → Prop
 | [] => True
 | (t, v') :: r => (∃ v, lookA t l = some v ∧ AVle v (mpA ρ v')) ∧ WkS2 ρ l r
def WkM2 (ρ : Nat → Nat) (l : List (Nat × Blk)) : List (Nat × Blk) → Prop
 | [] => True
 | (t, v') :: r => (∃ v, lookA (ρ t) l = some v ∧ BLe v (mpB ρ v')) ∧ WkM2 ρ l r
theorem WkS2.get {ρ : Nat → Nat} {l : List (Nat × AV)} : ∀ {m : List (Nat × AV)}, WkS2 ρ l m → ∀ {t v'}, lookA t m = some v' → ∃ v, lookA t l = some v ∧ AVle v (mpA ρ v')
 | [], _, _, _, h => by simp [lookA] at h
 | (k, x) :: m, hw, t, v', h => by
  simp only [lookA] at h
  split at h
  ·rename_i e; subst e; cases h; exact hw.1
  ·exact WkS2.get hw.2 h
theorem WkM2.get {ρ : Nat → Nat} {l : List (Nat × Blk)} : ∀ {m : List (Nat × Blk)}, WkM2 ρ l m → ∀ {t v'}, lookA t m = some v' → ∃ v, lookA (ρ t) l = some v ∧ BLe v (mpB ρ v')
 | [], _, _, _, h => by simp [lookA] at h
 | (k, x) :: m, hw, t, v', h => by
  simp only [lookA] at h
  split at h
  ·rename_i e; subst e; cases h; exact hw.1
  ·exact WkM2.get hw.2 h
def MemP (K : Nat) (m : List (Nat × Blk)) : Prop := ∀ t v, lookA t m = some v → t < K ∧ ∀ id ∈ v.mids, id < K
theorem wk_map (ρ : Nat → Nat) {st st' : St} (hs : WkS2 ρ st.sl st'.sl) (hm : WkM2 ρ st.mem st'.mem) (h0 : ρ 0 = 0) (hinj : ∀ id id', (lookA id st'.mem).isSome = true → (lookA id' st'.mem).isSome = true → ρ id = ρ id' → id = id')
  (hbm : MemP (1000000 * st'.nx) st'.mem) (hbs : slB (1000000 * st'.nx) st'.sl = true := by rfl) (hnx : Nat.ble 1 st'.nx = true := by rfl) : Wk st st' := by
 intro F hk0 g W a h
 have hnx := Nat.le_of_ble_eq_true hnx
 let g' : Gh := ⟨g.H, fun id => g.γ (ρ id)⟩
 have hS : ∀ t v', st'.kn (.s t) = some (.v v') → (∃ v, st.kn (.s t) = some (.v v) ∧ AVle v (mpA ρ v')) ∧ ∀ id ∈ v'.mids, id < 1000000 * st'.nx := by
  intro t v' e
  simp only [St.kn, Option.map_eq_some_iff] at e
  let ⟨x, hx, he⟩ := e
  cases he
  let ⟨v, hv, hle⟩ := hs.get hx
  exact ⟨⟨v, by simp [St.kn, hv], hle⟩, slB_ok hbs t v' hx⟩
 have hM : ∀ id b', st'.kn (.m id) = some (.b b') → (∃ b, st.kn (.m (ρ id)) = some (.b b) ∧ BLe b (mpB ρ b')) ∧ (id < 1000000 * st'.nx ∧ ∀ j ∈ b'.mids, j < 1000000 * st'.nx) ∧ (lookA id st'.mem).isSome = true := by
  intro t v' e
  simp only [St.kn, Option.map_eq_some_iff] at e
  let ⟨x, hx, he⟩ := e
  cases he
  let ⟨v, hv, hle⟩ := hm.get hx
  exact ⟨⟨v, by simp [St.kn, hv], hle⟩, hbm t v' hx, by rw [hx]; rfl⟩
 refine ⟨g', h.size, h.defers, ?_, ?_, ?_, ?_, ?_, h.sub, h.below, h.le, h.fresh, ?_⟩
 ·intro t v' e
  let ⟨⟨v, hv, hle⟩, _⟩ := hS t v' e
  exact mpA_rel (hle.1 _ _ (h.slots t v hv))
 ·intro id b' e
  let ⟨⟨b, hb, hle⟩, _⟩ := hM id b' e
  exact mpB_rel (hle.1 _ _ _ _ (h.blks (ρ id) b hb))
 ·intro id id' b b' k e e' hk hk'
  let ⟨⟨c, hc, _⟩, _, h1⟩ := hM id b e
  let ⟨⟨c', hc', _⟩, _, h2⟩ := hM id' b' e'
  exact hinj id id' h1 h2 (h.inj (ρ id) (ρ id') c c' k hc hc' hk hk')
 ·intro k x e id hid
  cases k with
  | s t =>
   cases x with
   | v v' => exact (hS t v' e).2 id hid
   | b b' => simp only [St.kn, Option.map_eq_some_iff] at e; let ⟨_, _, he⟩ := e; cases he
  | m j =>
   cases x with
   | v v' => simp only [St.kn, Option.map_eq_some_iff] at e; let ⟨_, _, he⟩ := e; cases he
   | b b' => exact (hM j b' e).2.1.2 id hid
 ·intro id x e
  cases x with
  | v v' => simp only [St.kn, Option.map_eq_some_iff] at e; let ⟨_, _, he⟩ := e; cases he
  | b b' => exact (hM id b' e).2.1.1
 ·intro id hid
  have hz : id = 0 := by omega
  subst hz
  refine ⟨?_, ?_⟩
  ·show 0 < 1000000 * st'.nx; omega
  ·show g.γ (ρ 0) = _; rw [h0]; exact (h.kfix 0 hid).2
theorem MemP.of {K : Nat} {m : List (Nat × Blk)} (h : memB K m = true) : MemP K m := memB_ok h
theorem lookA_append {α : Type} (t : Nat) : ∀ (a b : List (Nat × α)), lookA t (a ++ b) = (lookA t a).or (lookA t b)
 | [], _ => rfl
 | (k, x) :: a, b => by
  simp only [List.cons_append, lookA]
  split
  ·rfl
  ·exact lookA_append t a b
def aheadB2 (m : Nat) (b : Ks) : List Ks → Nat → Bool
 | [], _ => true
 | a :: l, i => (m.testBit i || !clash a b) && aheadB2 m b l (i + 1)
def pairsB2 : List Nat → List Ks → List Ks → Bool
 | m :: ms, b :: bs, done => aheadB2 m b done 0 && pairsB2 ms bs (done ++ [b])
 | [], [], _ => true
 | _, _, _ => false
def ordB2 (ops : List Oper) (ks : List Ks) : Bool := edgesB ops 0 && pairsB2 (masks ops []) ks []
theorem aheadB2_eq (m : Nat) (b : Ks) : ∀ (l : List Ks) (i : Nat), aheadB2 m b l i = aheadB m b l i
 | [], _ => rfl
 | a :: l, i => by rw [aheadB2, aheadB, aheadB2_eq m b l, Bool.or_comm]
theorem pairsB2_eq : ∀ (ms : List Nat) (bs done : List Ks), pairsB2 ms bs done = pairsB ms bs done
 | [], [], _ => rfl
 | [], _ :: _, _ => rfl
 | _ :: _, [], _ => rfl
 | m :: ms, b :: bs, done => by rw [pairsB2, pairsB, aheadB2_eq, pairsB2_eq ms bs]
theorem ord2 {draw : Bool} {ops : List Oper} {ks : List Ks} (h : (!draw || ordB2 ops ks) = true) : (!draw || ordB ops ks) = true := by
 have : ordB2 ops ks = ordB ops ks := by rw [ordB2, ordB, pairsB2_eq]
 rwa [this] at h
end Go.El

namespace Go.El
open Go Go.Proofs
theorem tmod_nat (x y : Nat) : (x : Int).tmod (y : Int) = ((x % y : Nat) : Int) := by rw [Int.tmod_eq_emod_of_nonneg (by omega)]; omega
theorem words2_lt {m : Nat} (h : (wordsN m).length ≤ 2) : m < 18446744073709551616 := by
 have h1 := words_len_lt (n := m)
 have h3 : (4294967296 : Int) ^ 2 = 18446744073709551616 := rfl
 have h4 : (4294967296 : Int) ^ 1 = 4294967296 := rfl
 have h5 : (4294967296 : Int) ^ 0 = 1 := rfl
 rcases (show (wordsN m).length = 0 ∨ (wordsN m).length = 1 ∨ (wordsN m).length = 2 by omega) with e | e | e <;> rw [e] at h1 <;> omega
theorem igcd_s (a b : Int) (ha : Sm a) (hb : Sm b) : FnS Tryz.prog 51 [aZ a, aZ b] (aZ ((Int.gcd a b : Nat) : Int)) := by
 refine fsI Tryz.func51 ?_
 refine rr rfl (rb (rc rfl rfl (itrim_z a.natAbs) (rc rfl rfl (iclone_s _ ha) (rc rfl rfl (itrim_z b.natAbs) (rc rfl rfl (iclone_s _ hb) (re rfl ?_ (ho := ord2 (by kernel_rfl))))))))
 refine tr_seq (tr_block (tr_loop (α := Nat × Nat) (fun x => ⟨[(4, .c (.P 2000 0)), (5, cS U32 (wordsN x.1)), (6, cS U32 (wordsN x.2))], [(2000, .box 70 0 [.B false, .V (.slice none 0 0)])], 2, []⟩) (fun x => Nat.gcd x.1 x.2 = Int.gcd a b ∧ (wordsN x.1).length ≤ 1099511627776 ∧ (wordsN x.2).length ≤ 1099511627776) (fun x => x.2) (a.natAbs, b.natAbs) ⟨rfl, ha, hb⟩ (wk (wkSr rfl) ⟨bE rfl rfl, trivial⟩) ?_))
 rintro ⟨m, k⟩ ⟨hg, hm, hk⟩
 simp only at hg hm hk
 refine tr_seq (rr rfl (tr_cond rfl (fun h => ?_) (fun h => ?_)))
 ·have h : k ≠ 0 := by
   have h : ((wordsN k).length : Int) > 0 := of_decide_eq_true h
   exact words_nil.1 (by omega)
  refine skT (tr_block (tr_mid1 ⟨[(4, .c (.P 2000 0)), (5, cS U32 (wordsN m)), (6, cS U32 (wordsN k))], [(2000, .box 70 0 [.B false, .V (.slice none 0 0)])], 8, []⟩ ?_ (fun mid => rb (rg 25 rfl rfl (fun h1 => re rfl (tr_cond rfl (fun h2 => ?_) (fun h2 => tr_skip (at_mid mid (wk (wkSr rfl) ⟨bE rfl rfl, trivial⟩))))) (fun h1 => re rfl (tr_cond rfl (fun h2 => by cases h2) (fun h2 => tr_skip (at_mid mid (wk (wkSr rfl) ⟨bE rfl rfl, trivial⟩)))))))))
  ·refine rbc rfl rfl (idivide_s m k h hm) rfl (rt rfl (at_block (at_loop (k, m % k) ⟨?_, hk, ?_⟩ (Nat.mod_lt _ (by omega)) (wk (wkSr rfl) ⟨bE rfl rfl, trivial⟩))))
   ·show Nat.gcd k (m % k) = _
    rw [← hg, Nat.gcd_comm m k, Nat.gcd_rec k m, Nat.gcd_comm]
   ·exact Nat.le_trans (words_len_mono (Nat.le_of_lt (Nat.mod_lt _ (by omega)))) hk
  ·have h1 : (wordsN m).length ≤ 2 := by
    have h1 : ((wordsN m).length : Int) ≤ 2 := of_decide_eq_true h1
    omega
   have h2 : (wordsN k).length ≤ 2 := by
    have h2 : ((wordsN k).length : Int) ≤ 2 := of_decide_eq_true h2
    omega
   have b1 := words2_lt h1
   have b2 := words2_lt h2
   refine rb (rc rfl rfl (ivalue_s m b1) (rc rfl rfl (ivalue_s k b2) (re rfl ?_)))
   refine tr_seq (tr_block (tr_loop (α := Nat × Nat) (fun x => ⟨[(4, .c (.P 2000 0)), (7, cU x.1), (8, cU x.2)], [(2000, .box 70 0 [.B false, .V (.slice none 0 0)])], 10, []⟩) (fun x => Nat.gcd x.1 x.2 = Int.gcd a b ∧ x.1 < 18446744073709551616 ∧ x.2 < 18446744073709551616) (fun x => x.2) (m, k) ⟨hg, b1, b2⟩ (wk (wkSr rfl) ⟨bE rfl rfl, trivial⟩) ?_))
   rintro ⟨u, v⟩ ⟨g1, g2, g3⟩
   simp only at g1 g2 g3
   refine tr_seq (rr rfl (tr_cond rfl (fun h3 => ?_) (fun h3 => ?_)))
   ·have h3 : 0 < v := by
     have h3 : (v : Int) > 0 := of_decide_eq_true h3
     omega
    have hlt := Nat.mod_lt u h3
    refine skT (tr_block (rt rfl (at_block (at_loop (v, u % v) ⟨?_, g3, by show u % v < _; omega⟩ hlt (wk ⟨sR rfl, sR rfl, sE rfl ?_, trivial⟩ ⟨bE rfl rfl, trivial⟩))) (hp := ?_)))
    ·show Nat.gcd v (u % v) = _
     rw [← g1, Nat.gcd_comm u v, Nat.gcd_rec v u, Nat.gcd_comm]
    ·exact cgU (tmod_nat u v)
    ·simp only [Pr.an, Pr.h, num, i64r, true_and, and_true]; omega
   ·have h3 : v = 0 := by
     have h3 : ¬ (v : Int) > 0 := of_decide_eq_false h3
     omega
    subst h3
    rw [Nat.gcd_zero_right] at g1
    subst g1
    refine xlE (at_then (rb (rc rfl rfl (iwords_s _ g2) (rc rfl rfl (isigned_z false _) (re rfl (tr_ret ?_))))))
    repeat (first | refine at_then_ret ?_ | refine at_block_ret ?_ | refine at_loop_ret ?_)
    exact atR rfl
 ·have h : k = 0 := by
   have h : ¬ ((wordsN k).length : Int) > 0 := of_decide_eq_false h
   exact Decidable.byContradiction fun hne => by have := words_nil.2 hne; omega
  subst h
  rw [Nat.gcd_zero_right] at hg
  subst hg
  exact xlE (at_then (rbc rfl rfl (isigned_z false _) rfl (rtR rfl))) 
end Go.El

namespace Go.El
end Go.El

namespace Go.El
open Go Go.Proofs
theorem take_succ_get (a : List Int) (i : Nat) (h : i < a.length) : a.take (i + 1) = a.take i ++ [a.getD i 0] := by
 rw [List.take_add_one, List.getD_eq_getElem?_getD, List.getElem?_eq_getElem h]; rfl
def SmB (n : Nat) (z : Int) : Prop := z.natAbs < 4294967296 ^ n
theorem SmB.sm {n : Nat} {z : Int} (h : SmB n z) (hn : n ≤ 1099511627776) : Sm z := by
 refine Nat.le_trans (words_len_le (k := n) ?_) hn
 have : ((z.natAbs : Nat) : Int) < ((4294967296 ^ n : Nat) : Int) := by
  have h : z.natAbs < 4294967296 ^ n := h
  omega
 rwa [Int.natCast_pow] at this
theorem SmB.le {m n : Nat} {z : Int} (h : SmB m z) (k : m ≤ n) : SmB n z := Nat.lt_of_lt_of_le h (Nat.pow_le_pow_right (by decide) k)
theorem SmB.mul {m n : Nat} {a b : Int} (h : SmB m a) (k : SmB n b) : SmB (m + n) (a * b) := by
 unfold SmB at *
 rw [Int.natAbs_mul, Nat.pow_add]
 exact Nat.mul_lt_mul'' h k
theorem SmB.add {n : Nat} {a b : Int} (h : SmB n a) (k : SmB n b) : SmB (n + 1) (a + b) := by
 unfold SmB at *
 have := Int.natAbs_add_le a b
 rw [Nat.pow_succ]; omega
theorem SmB.neg {n : Nat} {a : Int} (h : SmB n a) : SmB n (-a) := by unfold SmB at *; rwa [Int.natAbs_neg]
theorem SmB.zero (n : Nat) : SmB n 0 := by unfold SmB; exact Nat.pow_pos (by decide)
theorem SmB.one {a : Int} (h : a.natAbs < 4294967296) : SmB 1 a := by unfold SmB; rwa [Nat.pow_one]
theorem words_one {m : Nat} (h : (wordsN m).length = 1) : (m : Int) = (wordsN m).getD 0 0 := by
 have := val_words m
 rw [← this]
 match hw : wordsN m, h with
 | [w], _ => show w + 4294967296 * 0 = w; omega
theorem isOne_s (a : Int) : FnS Tryz.prog 145 [aZ a] (cB (decide (a = 1))) := by
 refine fsI Tryz.func145 ?_
 refine rr rfl (rb (rg 6 rfl rfl (fun h => ?_) (fun h => ?_)))
 ·have h0 : 0 ≤ a := by
   have h : (!zneg a) = true := h
   simpa [zneg] using h
  refine rg 12 rfl rfl (fun h1 => ?_) (fun h1 => ?_)
  ·have h1 : (wordsN a.natAbs).length = 1 := by
    have h1 : ((wordsN a.natAbs).length : Int) = 1 := eq_of_beq h1
    omega
   have h1z : (zmag a).length = 1 := h1
   refine re rfl (rtE rfl (congrArg cB ?_)) (hp := ?_)
   ·show (((wordsN a.natAbs).getD 0 0) == 1) = decide (a = 1)
    have := words_one h1
    by_cases e : a = 1
    ·subst e; rfl
    ·rw [decide_eq_false e]
     exact beq_eq_false_iff_ne.2 (fun e2 => e (by omega))
   ·simp only [Pr.an, Pr.h, num, i64r, true_and, and_true]; first | done | omega
  ·refine re rfl (rtE rfl (congrArg cB ?_))
   rw [decide_eq_false]
   intro e; subst e
   cases h1
 ·have h0 : a < 0 := by
   have h : (!zneg a) = false := h
   simpa [zneg] using h
  refine rg 12 rfl rfl (fun h1 => by cases h1) (fun h1 => ?_)
  refine re rfl (rtE rfl (congrArg cB ?_))
  rw [decide_eq_false (by omega)]
theorem prod2_s (x y : Int) (hx : Sm x) (hy : Sm y) : FnS Tryz.prog 111 [cS .z [x, y]] (aZ (x * y)) := by
 refine fsI Tryz.func111 ?_
 refine rr rfl (rbc rfl rfl (iOf_s 1 (by decide) (by decide)) rfl (tr_seq (rr rfl ?_)))
 refine tr_block (tr_loop (α := Nat) (fun i => ⟨[(7, cS .z [x, y]), (2, .c (.P 0 0)), (3, .c (.P 1001000 0)), (8, cI 2), (9, cI i)], [(0, .box 70 0 [.B false, .V (.slice none 0 0)]), (1001000, .box 70 0 (av .z (if i = 0 then 1 else if i = 1 then x else x * y)))], 3, []⟩) (fun i => i ≤ 2) (fun i => 2 - i) 0 (by decide) (wk (wkSr rfl) ⟨bE rfl rfl, bE rfl rfl, trivial⟩) ?_)
 intro i hi
 rcases (show i = 0 ∨ i = 1 ∨ i = 2 by omega) with e | e | e
 ·subst e
  refine rr rfl (tr_seq (tr_cond rfl (fun _ => skT ?_) (fun h => by cases h)))
  refine tr_seq (tr_block (rr rfl (tr_block (rbc rfl rfl (isOne_s x) rfl (tr_cond rfl (fun h => tr_skip ?_) (fun h => ?_)))) (hp := by simp [Pr.an, Pr.h, num, i64r])))
  ·have h : x = 1 := of_decide_eq_true h
   subst h
   exact at_block (bkT (rt rfl (hp := by simp only [Pr.an, Pr.h, num, i64r, true_and, and_true]; first | done | omega) (at_loop 1 (by decide) (by decide) (wk (wkSr rfl) ⟨bE rfl rfl, bE rfl rfl, trivial⟩))))
  ·refine rbc rfl rfl (isOne_s 1) rfl (tr_cond rfl (fun h => ?_) (fun h => by cases h))
   exact rt rfl (at_block (bkT (rt rfl (hp := by simp only [Pr.an, Pr.h, num, i64r, true_and, and_true]; first | done | omega) (at_loop 1 (by decide) (by decide) (wk (wkSr rfl) ⟨bE rfl rfl, bE rfl rfl, trivial⟩)))))
 ·subst e
  refine rr rfl (tr_seq (tr_cond rfl (fun _ => skT ?_) (fun h => by cases h)))
  refine tr_seq (tr_block (rr rfl (tr_block (rbc rfl rfl (isOne_s y) rfl (tr_cond rfl (fun h => tr_skip ?_) (fun h => ?_)))) (hp := by simp [Pr.an, Pr.h, num, i64r])))
  ·have h : y = 1 := of_decide_eq_true h
   subst h
   refine at_block (bkT (rt rfl (hp := by simp only [Pr.an, Pr.h, num, i64r, true_and, and_true]; first | done | omega) (at_loop 2 (by decide) (by decide) (wk (wkSr rfl) ⟨bE rfl rfl, bE rfl ?_, trivial⟩))))
   show Blk.box 70 0 (av .z x) = Blk.box 70 0 (av .z (x * 1))
   rw [Int.mul_one]
  ·refine rbc rfl rfl (isOne_s x) rfl (tr_cond rfl (fun h => ?_) (fun h => ?_))
   ·have h : x = 1 := of_decide_eq_true h
    subst h
    refine rt rfl (at_block (bkT (rt rfl (hp := by simp only [Pr.an, Pr.h, num, i64r, true_and, and_true]; first | done | omega) (at_loop 2 (by decide) (by decide) (wk (wkSr rfl) ⟨bE rfl rfl, bE rfl ?_, trivial⟩)))))
    show Blk.box 70 0 (av .z y) = Blk.box 70 0 (av .z (1 * y))
    rw [Int.one_mul]
   ·exact rbt (rc rfl rfl (iMul_s x y hx hy) (re rfl (at_block (bkT (rt rfl (hp := by simp only [Pr.an, Pr.h, num, i64r, true_and, and_true]; first | done | omega) (at_loop 2 (by decide) (by decide) (wk (wkSr rfl) ⟨bE rfl rfl, bE rfl rfl, trivial⟩)))))))
 ·subst e
  refine rr rfl (tr_seq (tr_cond rfl (fun h => by cases h) (fun _ => ?_)))
  exact xlE (at_then (rr rfl (rtR rfl)))
structure QS (k : Nat) (r : Rat) : Prop where
 n : SmB k r.num
 d : SmB k (r.den : Int)
theorem QS.le {j k : Nat} {r : Rat} (h : QS j r) (hk : j ≤ k) : QS k r := ⟨h.n.le hk, h.d.le hk⟩
theorem sgn_lt0 {a : Int} : sgn a < 0 ↔ a < 0 := by unfold sgn; split <;> (try split) <;> omega
theorem sgn_eq0 {a : Int} : sgn a = 0 ↔ a = 0 := by unfold sgn; split <;> (try split) <;> omega
theorem aQ_of {r : Rat} {n d : Int} (h1 : r.num = n) (h2 : (r.den : Int) = d) : AV.a [C.B (zneg n), C.S U32 (zmag n), C.B (zneg d), C.S U32 (zmag d)] = aQ r := by
 subst h1 h2; rfl
theorem divInt_pos {n d : Int} (hd : 0 < d) : (Rat.divInt n d).num = n / ((Int.gcd n d : Nat) : Int) ∧ ((Rat.divInt n d).den : Int) = d / ((Int.gcd n d : Nat) : Int) := by
 have := divInt_parts n d (by omega)
 rwa [if_neg (by omega)] at this
theorem divInt_co {n d : Int} (hd : 0 < d) (h : Int.gcd n d = 1) : (Rat.divInt n d).num = n ∧ ((Rat.divInt n d).den : Int) = d := by
 have := divInt_pos (n := n) hd
 rwa [h, show (((1 : Nat) : Int)) = 1 from rfl, Int.ediv_one, Int.ediv_one] at this
theorem qlowest_s (n d : Int) (hd : 0 < d) (hn : Sm n) (hdS : Sm d) : FnS Tryz.prog 108 [aZ n, aZ d] (aQ (Rat.divInt n d)) := by
 refine fsI Tryz.func108 ?_
 let ⟨p1, p2⟩ := divInt_pos (n := n) hd
 have hg0 : Int.gcd n d ≠ 0 := fun h0 => by have := (Int.gcd_eq_zero_iff.1 h0).2; omega
 have hgS : Sm ((Int.gcd n d : Nat) : Int) := Nat.le_trans (words_len_mono (show (((Int.gcd n d : Nat) : Int)).natAbs ≤ d.natAbs from Nat.gcd_le_right _ (by omega))) hdS
 refine rr rfl (tr_seq (rbc rfl rfl (isOne_s d) rfl (tr_cond rfl (fun h => ?_) (fun _ => skT ?_))))
 ·have h : d = 1 := of_decide_eq_true h
  subst h
  let ⟨c1, c2⟩ := divInt_co (n := n) (by decide) (Int.gcd_one_right ..)
  exact rr rfl (tr_ret (at_then_ret (atE rfl (aQ_of c1 c2))))
 refine rbc rfl rfl (igcd_s n d hn hdS) rfl (tr_seq (rb (rc rfl rfl (isOne_s _) (re rfl (tr_cond rfl (fun h => ?_) (fun _ => skT ?_))))))
 ·have h : ((Int.gcd n d : Nat) : Int) = 1 := of_decide_eq_true h
  let ⟨c1, c2⟩ := divInt_co hd (Int.ofNat.inj h)
  exact rr rfl (tr_ret (at_then_ret (atE rfl (aQ_of c1 c2))))
 refine rbc rfl rfl (iDivMod_s n _ (by omega) hn hgS) rfl (rb (rc rfl rfl (iDivMod_s d _ (by omega) hdS hgS) (re rfl (rr rfl (rtE rfl (aQ_of p1 p2)))))) 
theorem den_pos (a : Rat) : 0 < (a.den : Int) := by have := a.den_nz; omega
theorem qNeg_s (a : Rat) (ha : Sm a.num) : FnS Tryz.prog 65 [aQ a] (aQ (-a)) := by
 refine fsI Tryz.func65 ?_
 refine rr rfl (rbc rfl rfl (iNeg_s a.num ha) rfl (rtE rfl (aQ_of rfl rfl)))
theorem qSign_s (q : Rat) : FnS Tryz.prog 54 [aQ q] (cI (sgn q.num)) := by
 refine fsI Tryz.func54 ?_
 exact rr rfl (rbc rfl rfl (iSign_s q.num) rfl (rtR rfl))
theorem qInv_s (a : Rat) (h0 : a.num ≠ 0) (hn : Sm a.num) (hd : Sm (a.den : Int)) : FnS Tryz.prog 60 [aQ a] (.t [(true, av .q a⁻¹), (false, [.I .i64 0])]) := by
 refine fsI Tryz.func60 ?_
 have hco : Int.gcd (a.den : Int) a.num = 1 := by
  have := a.reduced
  rw [Int.gcd_comm]; exact this
 refine rr rfl (tr_seq (rbc rfl rfl (iSign_s a.num) rfl (tr_block (rr rfl (tr_cond rfl (fun h => ?_) (fun h => ?_))))))
 ·exfalso
  have h : sgn a.num = 0 := eq_of_beq h
  exact h0 (sgn_eq0.1 h)
 refine rr rfl (tr_cond rfl (fun h => ?_) (fun h => ?_))
 ·have h : sgn a.num = -1 := eq_of_beq h
  have h : a.num < 0 := sgn_lt0.1 (by omega)
  have e : (a⁻¹).num = -(a.den : Int) ∧ (((a⁻¹).den : Nat) : Int) = -a.num := by
   rw [Rat.inv_def]
   have := divInt_parts (a.den : Int) a.num h0
   rw [if_pos h, hco] at this
   rw [this.1, this.2]
   constructor
   ·rw [show -(((1 : Nat) : Int)) = -1 from rfl, Int.ediv_neg, Int.ediv_one]
   ·rw [show -(((1 : Nat) : Int)) = -1 from rfl, Int.ediv_neg, Int.ediv_one]
  refine rb (rc rfl rfl (iNeg_s (a.den : Int) hd) (rc rfl rfl (iNeg_s a.num hn) (re rfl (tr_ret ?_))))
  repeat (first | refine at_then_ret ?_ | refine at_block_ret ?_ | refine at_loop_ret ?_)
  refine atE rfl ?_
  show AV.t [(true, [C.B (zneg (-(a.den : Int))), C.S U32 (zmag (-(a.den : Int))), C.B (zneg (-a.num)), C.S U32 (zmag (-a.num))]), (false, [C.I .i64 0])] = _
  rw [← e.1, ← e.2]; rfl
 ·have h : ¬ sgn a.num = -1 := beq_z' h
  have h : 0 < a.num := by
   unfold sgn at h
   split at h
   ·omega
   ·omega
  have e : (a⁻¹).num = (a.den : Int) ∧ (((a⁻¹).den : Nat) : Int) = a.num := by
   rw [Rat.inv_def]
   exact divInt_co h hco
  refine tr_skip (bkT ?_)
  refine rr rfl (rtE rfl ?_)
  show AV.t [(true, [C.B (zneg (a.den : Int)), C.S U32 (zmag (a.den : Int)), C.B (zneg a.num), C.S U32 (zmag a.num)]), (false, [C.I .i64 0])] = _
  rw [← e.1, ← e.2]; rfl
theorem qAdd_s {k : Nat} (a b : Rat) (ha : QS k a) (hb : QS k b) (hk : k ≤ 500000000000) : FnS Tryz.prog 113 [aQ a, aQ b] (aQ (a + b)) := by
 refine fsI Tryz.func113 ?_
 have m1 := ha.n.mul hb.d
 have m2 := hb.n.mul ha.d
 have m3 := ha.d.mul hb.d
 have hs := m1.add m2
 have sa1 := ha.n.sm (by omega)
 have sa2 := ha.d.sm (by omega)
 have sb1 := hb.n.sm (by omega)
 have sb2 := hb.d.sm (by omega)
 have hd := Int.mul_pos (den_pos a) (den_pos b)
 have e : Rat.divInt (a.num * (b.den : Int) + b.num * (a.den : Int)) ((a.den : Int) * (b.den : Int)) = a + b := by
  have h1 := den_pos a
  have h2 := den_pos b
  rw [← Rat.divInt_add_divInt _ _ (by omega) (by omega), Rat.num_divInt_den, Rat.num_divInt_den]
 rw [← e]
 refine rr rfl (rb (rl .z [a.num, (b.den : Int)] rfl rfl (rc rfl rfl (prod2_s _ _ sa1 sb2) (rl .z [b.num, (a.den : Int)] rfl rfl (rc rfl rfl (prod2_s _ _ sb1 sa2) (rc rfl rfl (iAdd_s _ _ (m1.sm (by omega)) (m2.sm (by omega))) (re rfl ?_)))))))
 exact rb (rl .z [(a.den : Int), (b.den : Int)] rfl rfl (rc rfl rfl (prod2_s _ _ sa2 sb2) (rc rfl rfl (qlowest_s _ _ hd (hs.sm (by omega)) (m3.sm (by omega))) (re rfl (rtR rfl)))))
theorem gcd_dvd_one {a b c d : Int} (h : Int.gcd a b = 1) (h1 : c ∣ a) (h2 : d ∣ b) : Int.gcd c d = 1 := by
 have h3 : ((Int.gcd c d : Nat) : Int) ∣ ((Int.gcd a b : Nat) : Int) := Int.dvd_coe_gcd (Int.dvd_trans (Int.gcd_dvd_left ..) h1) (Int.dvd_trans (Int.gcd_dvd_right ..) h2)
 rw [h] at h3
 have := Int.ofNat_dvd.1 h3
 exact Nat.dvd_one.1 this
theorem divInt_num_dvd {n d : Int} (hd : 0 < d) : (Rat.divInt n d).num ∣ n ∧ (((Rat.divInt n d).den : Nat) : Int) ∣ d := by
 let ⟨h1, h2⟩ := divInt_pos (n := n) hd
 rw [h1, h2]
 exact ⟨⟨_, (Int.ediv_mul_cancel (Int.gcd_dvd_left ..)).symm⟩, ⟨_, (Int.ediv_mul_cancel (Int.gcd_dvd_right ..)).symm⟩⟩
theorem SmB.dvd {n : Nat} {a b : Int} (h : SmB n a) (hd : b ∣ a) (h0 : a ≠ 0) : SmB n b := by
 have := Nat.le_of_dvd (by omega) (Int.natAbs_dvd_natAbs.2 hd)
 unfold SmB at *; omega
theorem divInt_QS {k : Nat} {n d : Int} (hd : 0 < d) (hn : SmB k n) (hk : SmB k d) : QS k (Rat.divInt n d) := by
 let ⟨h1, h2⟩ := divInt_num_dvd (n := n) hd
 refine ⟨?_, hk.dvd h2 (by omega)⟩
 by_cases e : n = 0
 ·subst e
  rw [Rat.zero_divInt]; exact SmB.zero _
 ·exact hn.dvd h1 e
theorem QS.mul {k : Nat} {a b : Rat} (ha : QS k a) (hb : QS k b) : QS (2 * k) (a * b) := by
 have h1 := den_pos a
 have h2 := den_pos b
 have e : Rat.divInt (a.num * b.num) ((a.den : Int) * (b.den : Int)) = a * b := by
  rw [← Rat.divInt_mul_divInt, Rat.num_divInt_den, Rat.num_divInt_den]
 rw [← e]
 exact divInt_QS (Int.mul_pos h1 h2) ((ha.n.mul hb.n).le (by omega)) ((ha.d.mul hb.d).le (by omega))
theorem QS.neg {k : Nat} {a : Rat} (ha : QS k a) : QS k (-a) := ⟨ha.n.neg, ha.d⟩
theorem qMul_s {k : Nat} (a b : Rat) (ha : QS k a) (hb : QS k b) (hk : k ≤ 500000000000) : FnS Tryz.prog 61 [aQ a, aQ b] (aQ (a * b)) := by
 refine fsI Tryz.func61 ?_
 have sa1 := ha.n.sm (by omega)
 have sa2 := ha.d.sm (by omega)
 have sb1 := hb.n.sm (by omega)
 have sb2 := hb.d.sm (by omega)
 have hL := divInt_QS (n := a.num) (den_pos b) ha.n hb.d
 have hR := divInt_QS (n := b.num) (den_pos a) hb.n ha.d
 let ⟨l1, l2⟩ := divInt_num_dvd (n := a.num) (den_pos b)
 let ⟨r1, r2⟩ := divInt_num_dvd (n := b.num) (den_pos a)
 have hq1 := qlowest_s a.num (b.den : Int) (den_pos b) sa1 sb2
 have hq2 := qlowest_s b.num (a.den : Int) (den_pos a) sb1 sa2
 have e : Rat.divInt a.num (b.den : Int) * Rat.divInt b.num (a.den : Int) = a * b := by
  rw [Rat.divInt_mul_divInt, Int.mul_comm (b.den : Int), ← Rat.divInt_mul_divInt, Rat.num_divInt_den, Rat.num_divInt_den]
 have ca : Int.gcd a.num (a.den : Int) = 1 := a.reduced
 have cb : Int.gcd b.num (b.den : Int) = 1 := b.reduced
 generalize Rat.divInt a.num (b.den : Int) = L at *
 generalize Rat.divInt b.num (a.den : Int) = R at *
 have hco : Int.gcd (L.num * R.num) ((L.den : Int) * (R.den : Int)) = 1 := by
  have c1 : Int.gcd L.num (L.den : Int) = 1 := L.reduced
  have c2 : Int.gcd R.num (R.den : Int) = 1 := R.reduced
  have c3 := gcd_dvd_one ca l1 r2
  have c4 := gcd_dvd_one cb r1 l2
  have n1 : Nat.Coprime L.num.natAbs L.den := c1
  have n2 : Nat.Coprime R.num.natAbs R.den := c2
  have n3 : Nat.Coprime L.num.natAbs R.den := c3
  have n4 : Nat.Coprime R.num.natAbs L.den := c4
  show Nat.gcd (L.num * R.num).natAbs ((L.den : Int) * (R.den : Int)).natAbs = 1
  rw [Int.natAbs_mul, Int.natAbs_mul]
  exact Nat.Coprime.mul_left (Nat.Coprime.mul_right n1 n3) (Nat.Coprime.mul_right n4 n2)
 let ⟨c1, c2⟩ := divInt_co (Int.mul_pos (den_pos L) (den_pos R)) hco
 rw [← Rat.divInt_mul_divInt, Rat.num_divInt_den, Rat.num_divInt_den, e] at c1 c2
 refine rr rfl (rbc rfl rfl hq1 rfl (rb (rc rfl rfl hq2 (re rfl ?_))))
 refine rb (rl .z [L.num, R.num] rfl rfl (rc rfl rfl (prod2_s _ _ (hL.n.sm (by omega)) (hR.n.sm (by omega))) (rl .z [(L.den : Int), (R.den : Int)] rfl rfl (rc rfl rfl (prod2_s _ _ (hL.d.sm (by omega)) (hR.d.sm (by omega))) (re rfl (rtE rfl (aQ_of c1 c2)))))))
theorem rExact_s (n g : Int) (hg : g ≠ 0) (hn : Sm n) (hgs : Sm g) : FnS Tryz.prog 156 [aZ n, aZ g] (aZ (n / g)) := by
 refine fsI Tryz.func156 ?_
 refine rr rfl (rbc rfl rfl (rDivModA_s n g hg hn hgs) rfl (rr rfl (rtE rfl ?_)))
 rfl
theorem Sm.gcd {n d : Int} (hd : d ≠ 0) (h : Sm d) : Sm ((Int.gcd n d : Nat) : Int) := by
 have h1 : Int.gcd n d ≤ d.natAbs := Nat.gcd_le_right _ (by omega)
 have h2 : (wordsN (((Int.gcd n d : Nat) : Int)).natAbs).length ≤ (wordsN d.natAbs).length := words_len_mono (by rw [Int.natAbs_natCast]; exact h1)
 exact Nat.le_trans h2 h
theorem Sm.ng {z : Int} (h : Sm z) : Sm (-z) := by
 have e : zmag (-z) = zmag z := by unfold zmag; rw [Int.natAbs_neg]
 unfold Sm at *
 rw [e]; exact h
theorem rLow_s (n d : Int) (hd : d ≠ 0) (hn : Sm n) (hd2 : Sm d) : FnS Tryz.prog 126 [aZ n, aZ d] (aQ (Rat.divInt n d)) := by
 refine fsI Tryz.func126 ?_
 have hg0 : Int.gcd n d ≠ 0 := fun h0 => hd (Int.gcd_eq_zero_iff.1 h0).2
 let ⟨p1, p2⟩ := divInt_parts n d hd
 have hgs : Sm ((Int.gcd n d : Nat) : Int) := Sm.gcd hd hd2
 refine rr rfl (rbc rfl rfl (rGcdA_s n d hn hd2) rfl (tr_seq (rb (rc rfl rfl (rSign_s d) (re rfl ?_)))))
 refine tr_cond rfl (fun h => ?_) (fun h => ?_)
 ·have h : d < 0 := by
   have h : sgn d < 0 := by simpa using h
   unfold sgn at h
   split at h
   ·assumption
   ·(try split at h) <;> omega
  rw [if_pos h] at p1 p2
  refine rbt (rc rfl rfl (rNeg_s _) (re rfl (at_then (rb ?_))))
  refine rc rfl rfl (rExact_s n _ (by omega) hn (Sm.ng hgs)) (rc rfl rfl (rExact_s d _ (by omega) hd2 (Sm.ng hgs)) (re rfl (rtE rfl ?_)))
  unfold aQ
  simp only [av, p1, p2]
  rfl
 ·have h : ¬ d < 0 := by
   have h : ¬ sgn d < 0 := by simpa using h
   unfold sgn at h
   split at h
   ·omega
   ·assumption
  rw [if_neg h] at p1 p2
  refine skT (rb ?_)
  refine rc rfl rfl (rExact_s n _ (by omega) hn hgs) (rc rfl rfl (rExact_s d _ (by omega) hd2 hgs) (re rfl (rtE rfl ?_)))
  unfold aQ
  simp only [av, p1, p2]
  rfl
theorem rQMulA_s {k : Nat} (a b : Rat) (ha : QS k a) (hb : QS k b) (hk : k ≤ 500000000000) : FnS Tryz.prog 92 [aQ a, aQ b] (aQ (a * b)) := by
 refine fsI Tryz.func92 ?_
 have hd := Int.mul_pos (den_pos a) (den_pos b)
 have e : Rat.divInt (a.num * b.num) ((a.den : Int) * (b.den : Int)) = a * b := by
  rw [← Rat.divInt_mul_divInt, Rat.num_divInt_den, Rat.num_divInt_den]
 rw [← e]
 refine rr rfl (rb (rc rfl rfl (rMul_s _ _ (ha.n.sm (by omega)) (hb.n.sm (by omega))) (rc rfl rfl (rMul_s _ _ (ha.d.sm (by omega)) (hb.d.sm (by omega))) (rc rfl rfl (rLow_s _ _ (by omega) ((ha.n.mul hb.n).sm (by omega)) ((ha.d.mul hb.d).sm (by omega))) (re rfl (rtE rfl ?_))))))
 rfl
theorem rQAddA_s {k : Nat} (a b : Rat) (ha : QS k a) (hb : QS k b) (hk : k ≤ 500000000000) : FnS Tryz.prog 81 [aQ a, aQ b] (aQ (a + b)) := by
 refine fsI Tryz.func81 ?_
 have m1 := ha.n.mul hb.d
 have m2 := hb.n.mul ha.d
 have m3 := ha.d.mul hb.d
 have hs := m1.add m2
 have hd := Int.mul_pos (den_pos a) (den_pos b)
 have e : Rat.divInt (a.num * (b.den : Int) + b.num * (a.den : Int)) ((a.den : Int) * (b.den : Int)) = a + b := by
  have h1 := den_pos a
  have h2 := den_pos b
  rw [← Rat.divInt_add_divInt _ _ (by omega) (by omega), Rat.num_divInt_den, Rat.num_divInt_den]
 rw [← e]
 refine rr rfl (rb (rc rfl rfl (rMul_s _ _ (ha.n.sm (by omega)) (hb.d.sm (by omega))) (rc rfl rfl (rMul_s _ _ (hb.n.sm (by omega)) (ha.d.sm (by omega))) (rc rfl rfl (rAdd_s _ _ (m1.sm (by omega)) (m2.sm (by omega))) (rc rfl rfl (rMul_s _ _ (ha.d.sm (by omega)) (hb.d.sm (by omega))) (rc rfl rfl (rLow_s _ _ (by omega) (hs.sm (by omega)) (m3.sm (by omega))) (re rfl (rtE rfl ?_))))))))
 rfl
theorem zmag_eq {a b : Int} (h1 : zneg a = zneg b) (h2 : zmag a = zmag b) : a = b := by
 have h3 : val (wordsN a.natAbs) = val (wordsN b.natAbs) := congrArg val h2
 rw [val_words, val_words] at h3
 have h4 := sg_self a
 have h5 := sg_self b
 rw [← h4, ← h5, h1, show a.natAbs = b.natAbs by omega]
theorem bool_bne {x y : Bool} : (x != y) = true ↔ x ≠ y := by cases x <;> cases y <;> decide
theorem rsameQ_s (a b : Int) (ha : Sm a) : FnS Tryz.prog 138 [aZ a, aZ b] (cB (decide (a = b))) := by
 refine fsI Tryz.func138 ?_
 have ha : (zmag a).length ≤ 1099511627776 := ha
 refine rr rfl (tr_seq (rb (rg 11 rfl rfl (fun h => ?_) (fun h => ?_))))
 ·have h : zneg a ≠ zneg b := bool_bne.1 h
  refine re rfl (tr_cond rfl (fun _ => rr rfl (tr_ret (at_then_ret (atE rfl (congrArg cB ?_))))) (fun h2 => by cases h2))
  rw [decide_eq_false (fun e => h (by rw [e]))]
 ·have h : zneg a = zneg b := by
   have h : ¬ (zneg a != zneg b) = true := by rw [h]; decide
   rw [bool_bne] at h
   exact Decidable.not_not.1 h
  refine re rfl (tr_cond rfl (fun h2 => ?_) (fun h2 => skT ?_))
  ·have h2 := bne_z h2
   refine rr rfl (tr_ret (at_then_ret (atE rfl (congrArg cB ?_))))
   rw [decide_eq_false (fun e => h2 (by rw [e]))]
  ·have h2 := bne_z' h2
   refine tr_seq (rr rfl (tr_block (tr_loop (α := Nat) (fun i => ⟨[(2, .c (.P 0 0)), (3, .c (.P 1000 0)), (5, cI i)], [(0, .box 70 0 (av .z a)), (1000, .box 70 0 (av .z b))], 4, []⟩) (fun i => i ≤ (zmag a).length ∧ (zmag a).take i = (zmag b).take i) (fun i => (zmag a).length - i) 0 ⟨Nat.zero_le _, by simp⟩ (wk (wkSr rfl) ⟨bE rfl rfl, bE rfl rfl, trivial⟩) ?_)))
   rintro i ⟨hi, ht⟩
   refine tr_seq (rr rfl (tr_cond rfl (fun h3 => ?_) (fun h3 => ?_)))
   ·have h3 : i < (zmag a).length := by
     have h3 : (i : Int) < ((zmag a).length : Int) := of_decide_eq_true h3
     omega
    refine skT (tr_seq (tr_block (rr rfl (hp := by simp only [Pr.an, Pr.h, num, i64r, true_and, and_true]; first | done | omega) (tr_cond rfl (fun h4 => ?_) (fun h4 => tr_skip (bkT ?_))))))
    ·have h4 : (zmag a).getD i 0 ≠ (zmag b).getD i 0 := bne_z h4
     refine rr rfl (tr_ret ?_)
     repeat (first | refine at_then_ret ?_ | refine at_block_ret ?_ | refine at_loop_ret ?_)
     refine atE rfl (congrArg cB ?_)
     rw [decide_eq_false (fun e => h4 (by rw [e]))]
    ·have h4 : (zmag a).getD i 0 = (zmag b).getD i 0 := bne_z' h4
     exact rt rfl (at_loop (i + 1) ⟨h3, by rw [take_succ_get _ i h3, take_succ_get _ i (by omega), ht, h4]⟩ (by show (zmag a).length - (i + 1) < (zmag a).length - i; omega) (wk (wkSr rfl) ⟨bE rfl rfl, bE rfl rfl, trivial⟩))
   ·have h3 : i = (zmag a).length := by
     have h3 : ¬ (i : Int) < ((zmag a).length : Int) := of_decide_eq_false h3
     omega
    subst h3
    rw [List.take_length, List.take_of_length_le (by omega)] at ht
    refine xlE (at_then (rr rfl (rtE rfl (congrArg cB ?_))))
    rw [decide_eq_true (zmag_eq h ht)]
theorem rQSame_s {k : Nat} (a b : Rat) (ha : QS k a) (hk : k ≤ 100000000000) : FnS Tryz.prog 97 [aQ a, aQ b] (cB (decide (a = b))) := by
 refine fsI Tryz.func97 ?_
 refine rr rfl (rb (rc rfl rfl (rsameQ_s a.num b.num (ha.n.sm (by omega))) (rg 10 rfl rfl (fun h => ?_) (fun h => ?_))))
 ·have h : a.num = b.num := of_decide_eq_true h
  refine rcg rfl rfl rfl rfl rfl (rsameQ_s (a.den : Int) (b.den : Int) (ha.d.sm (by omega))) (re rfl (rtE rfl ?_))
  refine congrArg cB ?_
  by_cases e : (a.den : Int) = (b.den : Int)
  ·rw [decide_eq_true e, decide_eq_true (Rat.ext h (by omega))]; rfl
  ·rw [decide_eq_false e, decide_eq_false (fun e2 => e (by rw [e2]))]; rfl
 ·have h : ¬ a.num = b.num := of_decide_eq_false h
  refine re rfl (rtE rfl ?_)
  refine congrArg cB ?_
  rw [decide_eq_false (fun e2 => h (by rw [e2]))]
theorem num_zero {r : Rat} (h : r.num = 0) : r = 0 := Rat.num_eq_zero.1 h
theorem QS.int {s : Nat} (h : 1 ≤ s) {n : Int} (hn : n.natAbs < 4294967296) : QS s (n : Rat) := ⟨(SmB.one hn).le h, (SmB.one (a := 1) (by decide)).le h⟩
theorem QS.inv {s : Nat} {a : Rat} (h : QS s a) (h0 : a ≠ 0) : QS s a⁻¹ := by
 have hn : a.num ≠ 0 := fun e => h0 (num_zero e)
 rw [Rat.inv_def]
 have hp := divInt_parts (a.den : Int) a.num hn
 have hg : Int.gcd (a.den : Int) a.num = 1 := by rw [Int.gcd_comm]; exact a.reduced
 rw [hg] at hp
 by_cases hneg : a.num < 0
 ·rw [if_pos hneg, show -(((1 : Nat) : Int)) = -1 from rfl, Int.ediv_neg, Int.ediv_one, Int.ediv_neg, Int.ediv_one] at hp
  exact ⟨by rw [hp.1]; exact h.d.neg, by rw [hp.2]; exact h.n.neg⟩
 ·rw [if_neg hneg, show (((1 : Nat) : Int)) = 1 from rfl, Int.ediv_one, Int.ediv_one] at hp
  exact ⟨by rw [hp.1]; exact h.d, by rw [hp.2]; exact h.n⟩
theorem avle_nilT (T : ET) (y : List (Bool × List C)) : AVle (.t ((false, [.V (.slice none 0 0)]) :: y)) (.t ((false, [.S T []]) :: y)) := by
 refine ⟨fun g v h => ?_, fun id h => ?_⟩
 ·let ⟨vs, e, h⟩ := h
  obtain ⟨v0, r, rfl, h1, h2⟩ := h
  exact ⟨_, e, _, _, rfl, (AVle.nil T).1 g v0 h1, h2⟩
 ·simpa [AV.mids, midsT, midsL, C.mids] using h
end Go.El

namespace Go.El
open Go Go.RowKit
def cloM (f : FuncId) (first caps : List (Bool × List C)) : MP where
 p := fun H v => ∃ H0, ∃ us ws : List Value, FLe H0 H ∧ v = .func (.func f) us.toArray ws.toArray ∧ RelT ⟨H0, noγ⟩ first us ∧ RelT ⟨H0, noγ⟩ caps ws
 mono := by
  rintro H H' v hl ⟨H0, us, ws, h0, h⟩
  exact ⟨H0, us, ws, h0.trans hl, h⟩
section
variable {P : Program} {tt : TT}
def FnA (c : C) (f : FuncId) (us ws : List AV) : Prop := (c = .V (.func (.func f) ⟨[]⟩ ⟨[]⟩) ∧ us = [] ∧ ws = []) ∨ ∃ fs cs, c = .M (cloM f fs cs) ∧ unSs fs = some us ∧ unSs cs = some ws
theorem after_call {n new : Nat} {ops : Array Oper} {i : Nat} {o : Oper} (ho : ops[i]? = some o) (hg : o.guard = none) {d : Nat} (hd : o.dst = some d) (hdn : d < n) {f : FuncId} {vs : List AV} {r : AV} (hf : FnS P f vs r)
  {F : Fix} (hFn : F.n = n) {Q : Exit → Act → World → Prop} {known : Nat → Prop} {σ : Kn} {g : Gh} {W : World} {a : Act} {K : Act → World → Prop} (hnew : ¬ known new) (hsem : Hold F known σ g W a) (hK : ∀ g' W' a', Hold F (fun id => known id ∨ id = new) (upd σ [(.s d, some (.v r))]) g' W' a' → K a' W') {us : List Value} (hus : RelVs ⟨g.H, noγ⟩ vs us) (hex : (execOp a.eval o).run P W = .ok (.enter f us.toArray) W) : wpOp P ops Q i K a W := by
 have hc := hf.spec g.H W us hsem.sub hus
 unfold wpOp
 simp only [ho, Region.wanted, hg, if_true]
 refine .inl ?_
 unfold Oper.wp
 rw [hex]
 simp only [Oper.upon]
 refine hc.mono ?_
 rintro e W' ⟨v, H', rfl, hrel, hle, hfr, hsub, hbl⟩
 simp only [hd]
 have hsz : d < a.tmps.size := by rw [hsem.size, hFn]; exact hdn
 refine hK ⟨H', g.γ⟩ W' _ (hsem.step (chg := fun _ => False) (g' := ⟨H', g.γ⟩) ⟨⟨hle, fun _ _ => rfl⟩, hfr, hsub, hbl.size, fun k hk _ => hbl.block k hk, hbl.os, hbl.tape, hbl.output⟩ _ new hnew (by simp [Act.put]) hsem.defers ?_ (fun _ h => h.elim) ?_ ?_ ?_ ?_)
 ·intro t ht
  have hne : d ≠ t := by intro e; subst e; simp [says] at ht
  simp [Act.put, Array.getElem?_setIfInBounds_ne hne]
 ·intro t u ht
  simp only [says] at ht
  split at ht
  ·rename_i e
   simp only [Key.s.injEq] at e
   simp only [Option.some.injEq, Info.v.injEq] at ht
   subst e; subst ht
   have := hrel.noid hf.noid (FLe.refl _) g.γ
   simpa [Act.put, hsz] using this
  ·simp at ht
 ·intro id b ht; simp [says] at ht
 ·intro k y ht
  simp only [says] at ht
  split at ht
  ·simp only [Option.some.injEq] at ht
   subst ht
   intro id hid
   have : id ∈ r.mids := hid
   rw [hf.noid] at this
   cases this
  ·simp at ht
 ·intro id y ht; simp [says] at ht
theorem callSl_ok {n new : Nat} {ops : Array Oper} {i : Nat} {o : Oper} (ho : ops[i]? = some o) (hg : o.guard = none) {d : Nat} (hd : o.dst = some d) (hdn : d < n) {cf : Operand} {args : Array Operand} {tys : Array TypeId} (hop : o.op = .call ⟨.value cf, args, tys⟩)
  {st : St} {c : C} {f : FuncId} {us ws vs : List AV} {r : AV} (hcf : st.ev cf = some (.c c)) (hfa : FnA c f us ws) (hv : evs st args.toList = some vs) (hm : midsVs (us ++ (vs ++ ws)) = []) (hf : FnS P f (us ++ (vs ++ ws)) r) : StepOk P n ops i st (st.put d r) new (okeys (cf :: args.toList), [.s d]) := by
 refine ⟨(cf :: args.toList).flatMap (opd st), [(.s d, some (.v r))], ?_, ?_, kn_put st d r, okeys_opd st _, fun k hk => by simpa [keysOf] using hk⟩
 ·intro F hFn Q known σ g W a K hnew hsem hrd hK
  have hargs := evs_rel hsem st _ _ hv (fun kx hkx => hrd kx (by simp only [List.flatMap_cons, List.mem_append]; exact .inr hkx))
  have hcv := ev_rel hsem st cf _ hcf (fun kx hkx => hrd kx (by simp only [List.flatMap_cons, List.mem_append]; exact .inl hkx))
  have hma : args.map a.eval = (args.toList.map a.eval).toArray := by apply Array.ext'; simp
  have hm2 : midsVs us = [] ∧ midsVs vs = [] ∧ midsVs ws = [] := by
   rw [midsVs_append, midsVs_append, List.append_eq_nil_iff, List.append_eq_nil_iff] at hm; exact hm
  rcases hfa with ⟨rfl, rfl, rfl⟩ | ⟨fs, cs, rfl, h1, h2⟩
  ·have hcv : a.eval cf = .func (.func f) #[] #[] := hcv
   refine after_call ho hg hd hdn hf hFn hnew hsem hK (us := args.toList.map a.eval) ?_ ?_
   ·simpa using hargs.noid (γ := noγ) hm2.2.1
   ·rw [execOp, hop]
    simp only [resolve, hcv, Deferred.ofValue, pure_bind, enter_run hf.call, hma]
    simp
  ·let ⟨H0, fu, fw, hle, hval, hr1, hr2⟩ := hcv
   have k1 := unSs_rel h1 hr1
   have k2 := unSs_rel h2 hr2
   have up : ∀ {xs : List AV} {zs : List Value}, RelVs ⟨H0, noγ⟩ xs zs → midsVs xs = [] → RelVs ⟨g.H, noγ⟩ xs zs := by
    intro xs
    induction xs with
    | nil => intro zs h _; exact h
    | cons x xs ih =>
     intro zs h hm
     simp only [midsVs, List.append_eq_nil_iff] at hm
     obtain ⟨v, r, rfl, h1, h2⟩ := h
     exact ⟨v, r, rfl, h1.noid hm.1 hle noγ, ih h2 hm.2⟩
   refine after_call ho hg hd hdn hf hFn hnew hsem hK (us := fu ++ (args.toList.map a.eval ++ fw)) ?_ ?_
   ·exact (up k1 hm2.1).append ((hargs.noid (γ := noγ) hm2.2.1).append (up k2 hm2.2.2))
   ·rw [execOp, hop]
    simp only [resolve, hval, Deferred.ofValue, pure_bind, enter_run hf.call, hma]
    simp
 ·intro kx hkx
  let ⟨x, _, h⟩ := List.mem_flatMap.1 hkx
  exact opd_kn st x kx h
end
def OwnM (g : Gh) (fm : List (Nat × Blk)) (b : Nat) : Prop := ∃ id bb, lookA id fm = some bb ∧ blk (g.γ id) = some b
def RetC (g : Gh) (W : World) (fm : List (Nat × Blk)) (r : AV) (e : Ending) (W' : World) : Prop :=
 ∃ v H', e = .returned v ∧ RelV ⟨H', noγ⟩ r v ∧ FLe g.H H' ∧ (∀ b o, b < W.heap.size → ¬ OwnM g fm b → H' b o = g.H b o) ∧ Sub H' W' ∧ BelowX (OwnM g fm) W W'
structure FnC (P : Program) (f : FuncId) (args : List AV) (fm : List (Nat × Blk)) (r : AV) : Prop where
 call : callB P f = true
 noid : r.mids = []
 spec : ∀ g W vs, Sub g.H W → RelVs g args vs → (∀ id b, lookA id fm = some b → RepB (fun _ => True) g W id b) → (∀ id id' b b' k, lookA id fm = some b → lookA id' fm = some b' → blk (g.γ id) = some k → blk (g.γ id') = some k → id = id') → Calls P f vs.toArray W (RetC g W fm r)
def RetQC (P : Program) (fn : Func) (r : AV) : Post := fun F e a W => bodyPost P fn (fun e W' => ∃ v H', e = .returned v ∧ RelV ⟨H', noγ⟩ r v ∧ FLe F.H0 H' ∧ (∀ b o, b < F.w0.heap.size → ¬ F.own b → H' b o = F.H0 b o) ∧ Sub H' W' ∧ BelowX F.own F.w0 W') e a W
section
variable {P : Program} {tt : TT} {n : Nat} {st : St}
theorem at_retC (htt : ttB P tt = true) {fn : Func} {rs : List ResultVar} {r' r : AV} (hr : resAll tt st rs = some r') (hle : AVle r' r) (hrs : fn.results = rs.toArray := by rfl) (hm : r.mids = [] := by rfl) : AtQ n .ret st (RetQC P fn r) := by
 intro F hF g W a h
 let ⟨u, hu, hrel⟩ := run_results htt h hrs hr
 exact ⟨h.defers.trans hF.ds, u, hu, u, g.H, rfl, (hle.1 _ _ hrel).noid hm (FLe.refl _) noγ, h.le, h.fresh, h.sub, h.below⟩
theorem fc_intro {f : FuncId} {fn : Func} {c : Code} {args : List AV} {fm : List (Nat × Blk)} {r : AV} (nx0 : Nat) (hf : P.funcs[f]? = some fn) (hb : fn.body = some c) (hN : fn.ntmps = n) (hle : Nat.ble args.length n = true) (hma : ∀ id ∈ midsVs args, id < 1000000 * nx0) (hmm : MemP (1000000 * nx0) fm) (hmr : r.mids = []) (hname : (fn.name != "runtime.NumGoroutine") = true)
  (h : TR P n c ⟨argSl 0 args, fm, nx0, []⟩ (RetQC P fn r)) : FnC P f args fm r := by
 refine ⟨by simp [callB, hf, hb, hname], hmr, ?_⟩
 intro g W vs hsub hrel hrep hinj
 refine calls_of_wp hf hb ?_
 have hlen := relVs_length hrel
 have hle := Nat.le_of_ble_eq_true hle
 have hmem : ∀ id b, St.kn ⟨argSl 0 args, fm, nx0, []⟩ (.m id) = some (.b b) → lookA id fm = some b := by
  intro id b e
  simp only [St.kn, Option.map_eq_some_iff] at e
  let ⟨x, hx, he⟩ := e
  cases he
  exact hx
 let F : Fix := { w0 := W, H0 := g.H, n := n, own := OwnM g fm, k0 := 0 }
 refine wp_mono (h F ⟨rfl, Nat.zero_le _, rfl, rfl⟩ g W _ ⟨?_, rfl, ?_, ?_, ?_, ?_, ?_, hsub, ⟨rfl, rfl, rfl, Nat.le_refl _, fun _ _ _ => rfl⟩, FLe.refl _, fun _ _ _ _ => rfl, fun _ h => absurd h (Nat.not_lt_zero _)⟩) (fun e a W' hq => hq)
 ·simp [hN, F]; omega
 ·intro t v ht
  simp only [St.kn, Option.map_eq_some_iff] at ht
  let ⟨x, hx, he⟩ := ht
  cases he
  let ⟨_, u, hu, hr, _⟩ := argSl_look args vs 0 hrel t v hx
  have hu' : vs[t]? = some u := by simpa using hu
  have hlt : t < vs.length := (List.getElem?_eq_some_iff.1 hu').1
  have : (vs.toArray ++ Array.replicate (fn.ntmps - vs.toArray.size) undef).getD t undef = u := by
   rw [Array.getD_eq_getD_getElem?, Array.getElem?_append_left (by simpa using hlt)]
   simp [hu']
  rw [this]
  exact hr
 ·intro id b e
  have e' := hmem id b e
  exact (hrep id b e').reN (fun k hk => .inr ⟨id, b, e', hk⟩) rfl rfl ⟨FLe.refl _, fun _ _ => rfl⟩
 ·intro id id' b b' k e e' h1 h2
  exact hinj id id' b b' k (hmem id b e) (hmem id' b' e') h1 h2
 ·intro k x e id hid
  cases k with
  | m j =>
   cases x with
   | v y => simp only [St.kn, Option.map_eq_some_iff] at e; let ⟨_, _, he⟩ := e; cases he
   | b b => exact (hmm j b (hmem j b e)).2 id hid
  | s t =>
   simp only [St.kn, Option.map_eq_some_iff] at e
   let ⟨y, hy, he⟩ := e
   subst he
   let ⟨_, u, _, _, h6⟩ := argSl_look args vs 0 hrel t y hy
   exact hma id (h6 id hid)
 ·intro id x e
  cases x with
  | v y => simp only [St.kn, Option.map_eq_some_iff] at e; let ⟨_, _, he⟩ := e; cases he
  | b b => exact (hmm id b (hmem id b e)).1
theorem lookA_some_mem {α : Type} {id : Nat} {b : α} : ∀ {l : List (Nat × α)}, lookA id l = some b → id ∈ l.map (·.1)
 | [], h => by simp [lookA] at h
 | (j, x) :: l, h => by
  simp only [lookA] at h
  split at h
  ·rename_i e; simp [e]
  ·exact List.mem_cons_of_mem _ (lookA_some_mem h)
theorem lookA_mem_some {α : Type} {id : Nat} : ∀ {l : List (Nat × α)}, id ∈ l.map (·.1) → ∃ b, lookA id l = some b
 | [], h => by cases h
 | (j, x) :: l, h => by
  simp only [lookA]
  split
  ·exact ⟨x, rfl⟩
  ·rename_i e
   rcases List.mem_cons.1 h with h | h
   ·exact absurd h.symm e
   ·exact lookA_mem_some h
theorem says_dels (l : List Nat) : ∀ k, says (l.map fun id => ((.m id : Key), (none : Option Info))) k = (match k with | .m id => if id ∈ l then some none else none | .s _ => none) := by
 induction l with
 | nil => intro k; cases k <;> simp [says]
 | cons x l ih =>
  intro k
  simp only [List.map_cons, says]
  cases k with
  | s t => simp [ih]
  | m id =>
   by_cases e : x = id
   ·subst e; simp
   ·simp only [Key.m.injEq, e, if_false, ih, List.mem_cons]
    have : ¬ id = x := fun h => e h.symm
    simp [this]
theorem callC_ok {n new : Nat} {ops : Array Oper} {i : Nat} {o : Oper} (ho : ops[i]? = some o) (hg : o.guard = none) {d : Nat} (hd : o.dst = some d) (hdn : d < n) {f : FuncId} {args : Array Operand} {tys : Array TypeId} (hop : o.op = .call ⟨.value (.func f), args, tys⟩)
  {sl : List (Nat × AV)} {conc fm : List (Nat × Blk)} {nx : Nat} {gd : List (Nat × Bool)} {vs : List AV} {r : AV} (hv : evs ⟨sl, conc ++ fm, nx, gd⟩ args.toList = some vs) (hf : FnC P f vs fm r) (hdis : ∀ id b, lookA id fm = some b → lookA id conc = none) :
  StepOk P n ops i ⟨sl, conc ++ fm, nx, gd⟩ ⟨(d, r) :: sl, conc, nx, gd⟩ new (okeys args.toList ++ mkeys (fm.map (·.1)), .s d :: (fm.map (·.1)).map .m) := by
 have hlook : ∀ id b, lookA id fm = some b → lookA id (conc ++ fm) = some b := fun id b hb => by
  rw [lookA_append, hdis id b hb, hb]; rfl
 refine ⟨args.toList.flatMap (opd ⟨sl, conc ++ fm, nx, gd⟩) ++ mrd ⟨sl, conc ++ fm, nx, gd⟩ (fm.map (·.1)), (.s d, some (.v r)) :: (fm.map (·.1)).map (fun id => (.m id, none)), ?_, ?_, ?_, ?_, ?_⟩
 ·intro F hFn Q known σ g W a K hnew hsem hrd hK
  have hargs := evs_rel hsem _ _ _ hv (fun kx hkx => hrd kx (List.mem_append_left _ hkx))
  have hmm := mrd_mem (st := ⟨sl, conc ++ fm, nx, gd⟩) (ids := fm.map (·.1)) (σ := σ) (fun kx hkx => hrd kx (List.mem_append_right _ hkx))
  have hσ : ∀ id b, lookA id fm = some b → σ (.m id) = some (.b b) := fun id b hb => hmm id (lookA_some_mem hb) b (hlook id b hb)
  have hc := hf.spec g W _ hsem.sub hargs (fun id b hb => (hsem.blks id b (hσ id b hb)).reN (fun _ _ => trivial) rfl rfl ⟨FLe.refl _, fun _ _ => rfl⟩) (fun id id' b b' k h1 h2 h3 h4 => hsem.inj id id' b b' k (hσ id b h1) (hσ id' b' h2) h3 h4)
  unfold wpOp
  simp only [ho, Region.wanted, hg, if_true]
  refine .inl ?_
  unfold Oper.wp
  have hma : args.map a.eval = (args.toList.map a.eval).toArray := by apply Array.ext'; simp
  have hex : (execOp a.eval o).run P W = .ok (.enter f (args.toList.map a.eval).toArray) W := by
   have hcb := hf.call
   unfold callB at hcb
   rw [execOp, hop]
   cases hfn : P.funcs[f]? with
   | none => rw [hfn] at hcb; simp at hcb
   | some fn =>
    rw [hfn] at hcb
    simp only [Bool.and_eq_true, bne_iff_ne, ne_eq] at hcb
    have h2 : fn.body ≠ none := by
     intro hb
     rw [hb] at hcb
     simp at hcb
    simp [resolve, Act.eval, Deferred.ofValue, invoke, callFunc, hfn, hcb.1, h2]
    exact hma
  rw [hex]
  simp only [Oper.upon]
  refine hc.mono ?_
  rintro e W' ⟨v, H', rfl, hrel, hle, hfr, hsub, hbl⟩
  simp only [hd]
  have hsz : d < a.tmps.size := by rw [hsem.size, hFn]; exact hdn
  have hGle : GLe (fun _ => True) g ⟨H', g.γ⟩ := ⟨hle, fun _ _ => rfl⟩
  have hN : ∀ b, OwnM g fm b → F.N b := by
   rintro b ⟨id, bb, h1, h2⟩
   exact ((hsem.blks id bb (hσ id bb h1)).block h2).1
  have hM : ∀ j b, upd σ ((.s d, some (.v r)) :: (fm.map (·.1)).map (fun id => (.m id, none))) (.m j) = some (.b b) → σ (.m j) = some (.b b) ∧ ∀ k, blk (g.γ j) = some k → ¬ OwnM g fm k := by
   intro j b hb
   simp only [upd, says, reduceCtorEq, if_false, says_dels] at hb
   by_cases e : j ∈ fm.map (·.1)
   ·rw [if_pos e] at hb; cases hb
   ·rw [if_neg e] at hb
    refine ⟨hb, fun k hk => ?_⟩
    rintro ⟨id, bb, h1, h2⟩
    have := hsem.inj j id b bb k hb (hσ id bb h1) hk h2
    subst this
    exact e (lookA_some_mem h1)
  refine hK ⟨H', g.γ⟩ W' _ ⟨by simp [Act.put, hsem.size], hsem.defers, ?_, ?_, ?_, ?_, ?_, hsub, ?_, hsem.le.trans hle, ?_, fun id hid => ⟨.inl (hsem.kfix id hid).1, (hsem.kfix id hid).2⟩⟩
  ·intro t u ht
   simp only [upd, says, says_dels] at ht
   by_cases e : d = t
   ·subst e
    simp only [if_true, Option.some.injEq, Info.v.injEq] at ht
    subst ht
    have := hrel.noid hf.noid (FLe.refl _) g.γ
    simpa [Act.put, hsz] using this
   ·have e' : ¬ (Key.s d = Key.s t) := fun h => e (by simpa using h)
    simp only [e', if_false] at ht
    have hv : (a.put (some d) v).tmps.getD t undef = a.tmps.getD t undef := by simp [Act.put, Array.getElem?_setIfInBounds_ne e]
    rw [hv]
    exact RelV.mono hGle (fun _ _ => trivial) (hsem.slots t u ht)
  ·intro j b hb
   let ⟨h1, h2⟩ := hM j b hb
   have hrep := hsem.blks j b h1
   refine hrep.keep hGle trivial (fun _ _ => trivial) (fun k hk => ?_)
   have hlt := (hrep.block hk).2
   exact ⟨hbl.block k hlt (h2 k hk), fun o => hfr k o hlt (h2 k hk)⟩
  ·intro j j' b b' k hb hb' h1 h2
   exact hsem.inj j j' b b' k (hM j b hb).1 (hM j' b' hb').1 h1 h2
  ·intro k x hx id hid
   cases k with
   | s t =>
    simp only [upd, says, says_dels] at hx
    by_cases e : d = t
    ·subst e
     simp only [if_true, Option.some.injEq] at hx
     subst hx
     have : id ∈ r.mids := hid
     rw [hf.noid] at this
     cases this
    ·have e' : ¬ (Key.s d = Key.s t) := fun h => e (by simpa using h)
     simp only [e', if_false] at hx
     exact .inl (hsem.mids _ _ hx id hid)
   | m j =>
    simp only [upd, says, reduceCtorEq, if_false, says_dels] at hx
    by_cases e : j ∈ fm.map (·.1)
    ·rw [if_pos e] at hx; cases hx
    ·rw [if_neg e] at hx; exact .inl (hsem.mids _ _ hx id hid)
  ·intro j x hx
   simp only [upd, says, reduceCtorEq, if_false, says_dels] at hx
   by_cases e : j ∈ fm.map (·.1)
   ·rw [if_pos e] at hx; cases hx
   ·rw [if_neg e] at hx; exact .inl (hsem.mkn _ _ hx)
  ·refine ⟨hbl.os.trans hsem.below.os, hbl.tape.trans hsem.below.tape, hbl.output.trans hsem.below.output, Nat.le_trans hsem.below.size hbl.size, fun k hk hno => ?_⟩
   have hlt : k < W.heap.size := Nat.lt_of_lt_of_le hk hsem.below.size
   rw [← hsem.below.block k hk hno]
   refine hbl.block k hlt (fun ho => ?_)
   rcases hN k ho with h1 | h1
   ·omega
   ·exact hno h1
  ·intro k o hk hno
   have hlt : k < W.heap.size := Nat.lt_of_lt_of_le hk hsem.below.size
   show H' k o = _
   rw [hfr k o hlt (fun ho => ?_)]
   ·exact hsem.fresh k o hk hno
   ·rcases hN k ho with h1 | h1
    ·omega
    ·exact hno h1
 ·intro kx hkx
  rcases List.mem_append.1 hkx with hkx | hkx
  ·let ⟨x, _, h⟩ := List.mem_flatMap.1 hkx
   exact opd_kn _ x kx h
  ·exact mrd_kn _ _ kx hkx
 ·funext k
  cases k with
  | s t =>
   simp only [upd, says, says_dels, St.kn, lookA]
   by_cases e : d = t
   ·simp [e]
   ·have e' : ¬ (Key.s d = Key.s t) := fun h => e (by simpa using h)
    simp [e, e']
  | m j =>
   simp only [upd, says, reduceCtorEq, if_false, says_dels, St.kn]
   by_cases e : j ∈ fm.map (·.1)
   ·rw [if_pos e]
    let ⟨b, hb⟩ := lookA_mem_some e
    simp [hdis j b hb]
   ·rw [if_neg e]
    show _ = Option.map Info.b (lookA j (conc ++ fm))
    rw [lookA_append]
    cases h1 : lookA j fm with
    | some b => exact absurd (lookA_some_mem h1) e
    | none => rw [Option.or_none]
 ·intro k hk
  simp only [rkeysOf, List.map_append, List.mem_append] at hk
  rcases hk with h | h
  ·exact List.mem_append_left _ (okeys_opd _ _ k h)
  ·exact List.mem_append_right _ (mkeys_mrd _ _ k h)
 ·intro k hk
  simp only [keysOf, List.map_cons, List.mem_cons, List.map_map] at hk
  rcases hk with h | h
  ·exact List.mem_cons.2 (.inl h)
  ·refine List.mem_cons.2 (.inr ?_)
   simpa [Function.comp] using h
end
end Go.El

namespace Go.El
open Go Go.RowKit Go.Proofs
theorem lookA_skip {α : Type} {k t : Nat} {x : α} {l : List (Nat × α)} (h : k ≠ t) : lookA t ((k, x) :: l) = lookA t l := by simp only [lookA, if_neg h]
section
variable {n : Nat} {Q : Post} {sl sl' : List (Nat × AV)} {mem mem' : List (Nat × Blk)} {nx : Nat} {gd gd' : List (Nat × Bool)} {ops : Array Oper} {draw : Bool} {p : Pr} {ks ks' : List Ks} {i i' n0 n0' : Nat} {os os' : List Oper} {d : Nat} {ty : TypeId} {pos : String} {aft : Array Edge} {R : St → Prop}
theorem rcs {cf : Operand} {args : Array Operand} {tys : Array TypeId} {c : C} {f : FuncId} {us ws vs : List AV} {r : AV} (h : runs TTab n nx draw ops.toList os i ⟨sl, mem, n0, gd⟩ .t ks = (⟨some d, .call ⟨.value cf, args, tys⟩, ty, pos, aft, none⟩ :: os', i', ⟨sl', mem', n0', gd'⟩, p, ks')) (hcf : St.ev ⟨sl', mem', n0', gd'⟩ cf = some (.c c)) (hfa : FnA c f us ws) (hv : evs ⟨sl', mem', n0', gd'⟩ args.toList = some vs) (hf : FnS Tryz.prog f (us ++ (vs ++ ws)) r)
  (hk : RG Tryz.prog n ops draw nx (i' + 1) os' ⟨(d, r) :: sl', mem', n0', gd'⟩ (addK draw ks' (okeys (cf :: args.toList), [.s d])) R) (hm : midsVs (us ++ (vs ++ ws)) = [] := by rfl)
  (hp : p := by exact dfpS) (hdn : Nat.blt d n = true := by rfl) : RG Tryz.prog n ops draw nx i os ⟨sl, mem, n0, gd⟩ ks R :=
 rg_run TT_ok h hp (rg_ok (fun ho => callSl_ok ho rfl rfl (Nat.le_of_ble_eq_true hdn) rfl hcf hfa hv hm hf) (rg_addK hk))
theorem rcsg {j tg : Nat} {want b : Bool} {cf : Operand} {args : Array Operand} {tys : Array TypeId} {c : C} {f : FuncId} {us ws vs : List AV} {r : AV} (h : runs TTab n nx draw ops.toList os i ⟨sl, mem, n0, gd⟩ .t ks = (⟨some d, .call ⟨.value cf, args, tys⟩, ty, pos, aft, some (j, want)⟩ :: os', i', ⟨sl', mem', n0', gd'⟩, p, ks')) (hj : gslot ops.toList j = some tg) (hb : lookA tg sl' = some (.c (.B b))) (hbw : b = want) (hcf : St.ev ⟨sl', mem', n0', gd'⟩ cf = some (.c c)) (hfa : FnA c f us ws) (hv : evs ⟨sl', mem', n0', gd'⟩ args.toList = some vs) (hf : FnS Tryz.prog f (us ++ (vs ++ ws)) r)
  (hk : RG Tryz.prog n ops draw nx (i' + 1) os' ⟨(d, r) :: sl', mem', n0', gd'⟩ (addK draw ks' (.s tg :: okeys (cf :: args.toList), [.s d])) R) (hm : midsVs (us ++ (vs ++ ws)) = [] := by rfl)
  (hp : p := by exact dfpS) (hdn : Nat.blt d n = true := by rfl) : RG Tryz.prog n ops draw nx i os ⟨sl, mem, n0, gd⟩ ks R :=
 rg_run TT_ok h hp (rg_ok (fun ho => guard_go ho rfl hj hb hbw (callSl_ok (ops := #[⟨some d, .call ⟨.value cf, args, tys⟩, ty, pos, aft, none⟩]) (i := 0) rfl rfl rfl (Nat.le_of_ble_eq_true hdn) rfl hcf hfa hv hm hf)) (rg_addK hk))
theorem rcc {f : FuncId} {args : Array Operand} {tys : Array TypeId} {conc fm : List (Nat × Blk)} {vs : List AV} {r : AV} (h : runs TTab n nx draw ops.toList os i ⟨sl, mem, n0, gd⟩ .t ks = (⟨some d, .call ⟨.value (.func f), args, tys⟩, ty, pos, aft, none⟩ :: os', i', ⟨sl', conc ++ fm, n0', gd'⟩, p, ks')) (hv : evs ⟨sl', conc ++ fm, n0', gd'⟩ args.toList = some vs) (hf : FnC Tryz.prog f vs fm r) (hdis : ∀ id b, lookA id fm = some b → lookA id conc = none)
  (hk : RG Tryz.prog n ops draw nx (i' + 1) os' ⟨(d, r) :: sl', conc, n0', gd'⟩ (addK draw ks' (okeys args.toList ++ mkeys (fm.map (·.1)), .s d :: (fm.map (·.1)).map .m)) R)
  (hp : p := by exact dfpS) (hdn : Nat.blt d n = true := by rfl) : RG Tryz.prog n ops draw nx i os ⟨sl, mem, n0, gd⟩ ks R :=
 rg_run TT_ok h hp (rg_ok (fun ho => callC_ok ho rfl rfl (Nat.le_of_ble_eq_true hdn) rfl hv hf hdis) (rg_addK hk))
end
end Go.El

namespace Go.El
open Go Go.RowKit
def WkO (l : List (Nat × AV)) (id : Nat) : List (Nat × AV) → Prop
 | [] => True
 | (t, v') :: r => ((∃ v, lookA t l = some v ∧ AVle v v') ∨ (lookA t l = some (.c (.V (.slice none 0 0))) ∧ v' = .c (.X id))) ∧ WkO l id r
theorem WkO.get {l : List (Nat × AV)} {id : Nat} : ∀ {m : List (Nat × AV)}, WkO l id m → ∀ {t v'}, lookA t m = some v' → (∃ v, lookA t l = some v ∧ AVle v v') ∨ (lookA t l = some (.c (.V (.slice none 0 0))) ∧ v' = .c (.X id))
 | [], _, _, _, h => by simp [lookA] at h
 | (k, x) :: m, hw, t, v', h => by
  simp only [lookA] at h
  split at h
  ·rename_i e; subst e; cases h; exact hw.1
  ·exact WkO.get hw.2 h
theorem wk_nil (id : Nat) (E : TypeId) (T : ET) {sl : List (Nat × AV)} {mem : List (Nat × Blk)} {nx : Nat} {gd : List (Nat × Bool)} {sl' : List (Nat × AV)} {m2 : List (Nat × Blk)} {nx' : Nat} {gd' : List (Nat × Bool)} (hs : WkO sl id sl') (hm : WkM mem m2) (hid : Nat.ble (1000000 * nx) id = true)
  (hbm : MemP (1000000 * nx') ((id, .vec E T []) :: m2)) (hbs : slB (1000000 * nx') sl' = true := by rfl) (hnx : (Nat.ble 1 nx' && Nat.ble 1 id) = true := by rfl) : Wk ⟨sl, mem, nx, gd⟩ ⟨sl', (id, .vec E T []) :: m2, nx', gd'⟩ := by
 generalize hst : (⟨sl, mem, nx, gd⟩ : St) = st
 obtain rfl : sl = st.sl := by rw [← hst]
 obtain rfl : mem = st.mem := by rw [← hst]
 obtain rfl : nx = st.nx := by rw [← hst]
 clear hst
 intro F hk0 g W a h
 simp only [Bool.and_eq_true] at hnx
 obtain ⟨hnx, hid1⟩ := hnx
 have hnx := Nat.le_of_ble_eq_true hnx
 have hid1 := Nat.le_of_ble_eq_true hid1
 have hid := Nat.le_of_ble_eq_true hid
 let g' : Gh := ⟨g.H, fun j => if j = id then .slice none 0 0 else g.γ j⟩
 have hle : GLe (kb st) g g' := ⟨FLe.refl _, fun j hj => by
  have hj : j < 1000000 * st.nx := hj
  have : j ≠ id := by omega
  simp [g', this]⟩
 have hgi : g'.γ id = .slice none 0 0 := by simp [g']
 have hkf : ∀ id, id < F.k0 → id < 1000000 * nx' ∧ g'.γ id = F.γ0 id := by
  intro j hj
  obtain ⟨h1, h2⟩ := h.kfix j hj
  refine ⟨by omega, ?_⟩
  rw [hle.γ j h1]; exact h2
 have hS : ∀ t v', St.kn ⟨sl', (id, .vec E T []) :: m2, nx', gd'⟩ (.s t) = some (.v v') → ((∃ v, st.kn (.s t) = some (.v v) ∧ AVle v v') ∨ (st.kn (.s t) = some (.v (.c (.V (.slice none 0 0)))) ∧ v' = .c (.X id))) ∧ ∀ id ∈ v'.mids, id < 1000000 * nx' := by
  intro t v' e
  simp only [St.kn, Option.map_eq_some_iff] at e
  obtain ⟨y, hy, he⟩ := e
  cases he
  refine ⟨?_, slB_ok hbs t v' hy⟩
  rcases hs.get hy with ⟨v, hv, hle⟩ | ⟨hv, e⟩
  ·exact .inl ⟨v, by simp [St.kn, hv], hle⟩
  ·exact .inr ⟨by simp [St.kn, hv], e⟩
 have hM : ∀ j b', St.kn ⟨sl', (id, .vec E T []) :: m2, nx', gd'⟩ (.m j) = some (.b b') → ((j = id ∧ b' = .vec E T []) ∨ ∃ b, st.kn (.m j) = some (.b b) ∧ BLe b b') ∧ (j < 1000000 * nx' ∧ ∀ i ∈ b'.mids, i < 1000000 * nx') := by
  intro t v' e
  simp only [St.kn, Option.map_eq_some_iff] at e
  obtain ⟨y, hy, he⟩ := e
  cases he
  refine ⟨?_, hbm t v' hy⟩
  simp only [lookA] at hy
  split at hy
  ·rename_i e; cases hy; exact .inl ⟨e.symm, rfl⟩
  ·obtain ⟨v, hv, hle⟩ := hm.get hy
   exact .inr ⟨v, by simp [St.kn, hv], hle⟩
 refine ⟨g', h.size, h.defers, ?_, ?_, ?_, ?_, ?_, h.sub, h.below, h.le, h.fresh, hkf⟩
 ·intro t v' e
  rcases (hS t v' e).1 with ⟨v, hv, hav⟩ | ⟨hv, rfl⟩
  ·exact hav.1 _ _ (RelV.mono hle (h.mids _ _ hv) (h.slots t v hv))
  ·have h1 : a.tmps.getD t undef = .slice none 0 0 := h.slots t _ hv
   show _ = g'.γ id
   rw [hgi]; exact h1
 ·intro j b' e
  rcases (hM j b' e).1 with ⟨rfl, rfl⟩ | ⟨b, hb, hbl⟩
  ·exact .inl ⟨hgi, rfl⟩
  ·exact hbl.1 _ _ _ _ ((h.blks j b hb).keep hle (h.mkn _ _ hb) (h.mids _ _ hb) (fun k hk => ⟨rfl, fun o => rfl⟩))
 ·intro i j b1 b2 k e e' hk hk'
  rcases (hM i b1 e).1 with ⟨rfl, _⟩ | ⟨c, hc, _⟩
  ·rw [hgi] at hk; cases hk
  ·rcases (hM j b2 e').1 with ⟨rfl, _⟩ | ⟨c', hc', _⟩
   ·rw [hgi] at hk'; cases hk'
   ·rw [hle.γ i (h.mkn _ _ hc)] at hk
    rw [hle.γ j (h.mkn _ _ hc')] at hk'
    exact h.inj i j c c' k hc hc' hk hk'
 ·intro k y e i hi
  cases k with
  | s t =>
   cases y with
   | v v' => exact (hS t v' e).2 i hi
   | b b' => simp only [St.kn, Option.map_eq_some_iff] at e; obtain ⟨_, _, he⟩ := e; cases he
  | m j =>
   cases y with
   | v v' => simp only [St.kn, Option.map_eq_some_iff] at e; obtain ⟨_, _, he⟩ := e; cases he
   | b b' => exact (hM j b' e).2.2 i hi
 ·intro j y e
  cases y with
  | v v' => simp only [St.kn, Option.map_eq_some_iff] at e; obtain ⟨_, _, he⟩ := e; cases he
  | b b' => exact (hM j b' e).2.1
end Go.El

namespace Go.El
end Go.El

namespace Go.El
open Go Go.Proofs
theorem take_map_one {α β : Type} (f : α → β) (d : α) (l : List α) (i : Nat) (h : i < l.length) : ((l.take (i + 1)).map f) = ((l.take i).map f) ++ [f (l.getD i d)] := by
 rw [List.take_add_one, List.map_append]
 simp [List.getElem?_eq_getElem h, List.getD_eq_getElem?_getD]
theorem RelL.get_at {g : Gh} : ∀ {cs : List C} {vs : List Value} {j : Nat} {c : C}, RelL g cs vs → cs[j]? = some c → ∃ v, RelC g c v
 | [], _, _, _, _, h => by cases h
 | _ :: _, _, 0, _, ⟨v, _, _, h1, _⟩, h => by cases h; exact ⟨v, h1⟩
 | _ :: _, _, j + 1, _, ⟨_, _, _, _, h2⟩, h => RelL.get_at (j := j) h2 h
theorem tr_lenA {P : Program} {n : Nat} {Q : Post} (t j : Nat) {T : ET} {xs : List T.den} {cs : List C} {c : Code} {sl : List (Nat × AV)} {mem : List (Nat × Blk)} {nx : Nat} {gd : List (Nat × Bool)} (hl : lookA t sl = some (.a cs)) (hj : cs[j]? = some (.S T xs)) (h : xs.length * T.n ≤ 140737488355328 → TR P n c ⟨sl, mem, nx, gd⟩ Q) : TR P n c ⟨sl, mem, nx, gd⟩ Q := by
 intro F hF g W a hh
 have h1 : RelV g (.a cs) (a.tmps.getD t undef) := hh.slots t (.a cs) (by simp [St.kn, hl])
 let ⟨_, _, h2⟩ := h1
 let ⟨v, h3⟩ := RelL.get_at h2 hj
 have h3 : RelC g (.S T xs) v := h3
 let ⟨_, _, _, _, h4, _⟩ := h3
 exact h h4 F hF g W a hh
end Go.El
