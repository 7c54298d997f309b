/- Contracts: products of words. Own work; no condition. -/
import Derived.Test.YtjioamjlebpppaaGreatG4
import Derived.Test.YtjioamjlebpppaaGreatG1
set_option linter.unusedVariables false
set_option linter.unusedSimpArgs false
set_option linter.unnecessarySimpa false
namespace Go.El
open Go Go.Proofs
structure MulO (a b : List Int) (x : Nat × List Int) : Prop where
 i : x.1 ≤ a.length
 len : x.2.length = a.length + b.length
 r : rng x.2
 z : ∀ j, x.1 + b.length ≤ j → x.2.getD j 0 = 0
 v : val x.2 = val (a.take x.1) * val b
structure MulI (a b : List Int) (i : Nat) (x : Nat × List Int × Int) : Prop where
 k : x.1 ≤ b.length
 len : x.2.1.length = a.length + b.length
 r : rng x.2.1
 z : ∀ j, i + b.length ≤ j → x.2.1.getD j 0 = 0
 c0 : 0 ≤ x.2.2
 c1 : x.2.2 < 4294967296
 v : val x.2.1 + x.2.2 * 4294967296 ^ (i + x.1) = val (a.take i) * val b + a.getD i 0 * val (b.take x.1) * 4294967296 ^ i
theorem mul_lt_sq {x y : Int} (hx : 0 ≤ x) (hx' : x ≤ 4294967295) (hy : 0 ≤ y) (hy' : y ≤ 4294967295) : 0 ≤ x * y ∧ x * y ≤ 18446744065119617025 := by
 refine ⟨Int.mul_nonneg hx hy, ?_⟩
 have h1 : x * y ≤ 4294967295 * y := Int.mul_le_mul_of_nonneg_right hx' hy
 omega
theorem MulI.next {a b : List Int} {i : Nat} {x : Nat × List Int × Int} (h : MulI a b i x) (hi : i < a.length) (hk : x.1 < b.length) (ha : rng a) (hb : rng b) : MulI a b i (x.1 + 1, x.2.1.set (i + x.1) ((a.getD i 0 * b.getD x.1 0 + x.2.1.getD (i + x.1) 0 + x.2.2) % 4294967296), (a.getD i 0 * b.getD x.1 0 + x.2.1.getD (i + x.1) 0 + x.2.2) / 4294967296) := by
 have h1 := rng_get ha i
 have h2 := rng_get hb x.1
 have h3 := h.c0
 have h4 := h.c1
 have h5 := rng_get h.r (i + x.1)
 have h6 := mul_lt_sq h1.1 (by omega) h2.1 (by omega)
 have hlt : i + x.1 < x.2.1.length := by rw [h.len]; omega
 refine ⟨hk, by simp [h.len], rng_set h.r _ ⟨by omega, by omega⟩, ?_, (by show 0 ≤ _ / _; omega), (by show _ / _ < (4294967296 : Int); omega), ?_⟩
 ·intro j hj
  simp only
  rw [getD_set_eq _ _ _ _ hlt, if_neg (by omega)]
  exact h.z j hj
 ·simp only
  rw [val_set _ _ _ hlt, val_take_succ', ← Nat.add_assoc, Int.pow_succ]
  have hv := h.v
  have hp : (4294967296 : Int) ^ (i + x.1) = 4294967296 ^ i * 4294967296 ^ x.1 := Int.pow_add ..
  generalize hq : (4294967296 : Int) ^ (i + x.1) = q at hv hp ⊢
  generalize ht : a.getD i 0 * b.getD x.1 0 + x.2.1.getD (i + x.1) 0 + x.2.2 = s
  have hs : s % 4294967296 + s / 4294967296 * 4294967296 = s := by omega
  have e : s % 4294967296 * q + s / 4294967296 * (q * 4294967296) = s * q := by
   rw [show s / 4294967296 * (q * 4294967296) = s / 4294967296 * 4294967296 * q by grind, ← Int.add_mul, hs]
  have e2 : s * q = a.getD i 0 * b.getD x.1 0 * q + x.2.1.getD (i + x.1) 0 * q + x.2.2 * q := by rw [← ht]; grind
  have e3 : (s % 4294967296 - x.2.1.getD (i + x.1) 0) * q = s % 4294967296 * q - x.2.1.getD (i + x.1) 0 * q := by grind
  have e4 : a.getD i 0 * (val (b.take x.1) + b.getD x.1 0 * 4294967296 ^ x.1) * 4294967296 ^ i = a.getD i 0 * val (b.take x.1) * 4294967296 ^ i + a.getD i 0 * b.getD x.1 0 * q := by rw [hp]; grind
  rw [e3, e4]
  omega
theorem MulI.done {a b : List Int} {i : Nat} {o : List Int} {c : Int} (h : MulI a b i (b.length, o, c)) (hi : i < a.length) : MulO a b (i + 1, o.set (i + b.length) c) := by
 have hlen : o.length = a.length + b.length := h.len
 have h3 := h.c0
 have h4 := h.c1
 have hz : o.getD (i + b.length) 0 = 0 := h.z _ (Nat.le_refl _)
 refine ⟨hi, by simp [hlen], rng_set h.r _ ⟨h3, h4⟩, ?_, ?_⟩
 ·intro j hj
  simp only at hj ⊢
  rw [getD_set_eq _ _ _ _ (by omega), if_neg (by omega)]
  exact h.z j (by omega)
 ·simp only
  rw [val_put _ _ _ (by omega) hz, val_take_succ']
  have hv := h.v
  simp only [List.take_length] at hv
  rw [hv]
  grind
set_option maxHeartbeats 1000000 in
theorem rtimes_s (a b : List Int) (ha : rng a) (hb : rng b) (la : a.length ≤ 1099511627776) (lb : b.length ≤ 1099511627776) : FnS Tryz.prog 160 [cS U32 a, cS U32 b] (cS U32 (wordsN (val a * val b).toNat)) := by
 refine fsI Tryz.func160 ?_
 refine rr rfl (rb ?_)
 refine rm U32 (a.length + b.length) rfl rfl rfl rfl rfl rfl (zr_int .u32) rfl ?_ ?_ ?_
 ·show _ * 4 ≤ _; omega
 ·show _ * 1 ≤ _; omega
 refine re rfl (tr_seq (rr rfl ?_))
 refine tr_block (tr_loop (α := Nat × List Int) (fun x => ⟨[(0, cS U32 a), (1, cS U32 b), (5, .c (.X 1005000)), (6, cI x.1)], [(1005000, .vec 132 U32 x.2)], 3, []⟩) (MulO a b) (fun x => a.length - x.1) (0, List.replicate (a.length + b.length) 0) ?_ ?_ ?_)
 ·refine ⟨Nat.zero_le _, by simp, rng_rep _, ?_, by simp [val_rep, val]⟩
  intro j _
  simp only [List.getD_eq_getElem?_getD, List.getElem?_replicate]
  split <;> rfl
 ·exact wk (wkSr rfl) ⟨bR rfl, trivial⟩
 ·rintro ⟨i, o⟩ hO
  have hlen : o.length = a.length + b.length := hO.len
  refine tr_seq (rr rfl ?_)
  refine tr_cond rfl (fun h => ?_) (fun h => ?_)
  ·have h : i < a.length := by simpa using h
   refine skT (tr_seq (tr_block (rr rfl (tr_seq (rr rfl ?_)))))
   refine tr_block (tr_loop (α := Nat × List Int × Int) (fun x => ⟨[(0, cS U32 a), (1, cS U32 b), (5, .c (.X 1005000)), (6, cI i), (7, cU x.2.2), (8, cI x.1)], [(1005000, .vec 132 U32 x.2.1)], 6, []⟩) (MulI a b i) (fun x => b.length - x.1) (0, o, 0) ?_ ?_ ?_)
   ·refine ⟨Nat.zero_le _, hlen, hO.r, hO.z, Int.le_refl _, (by show (0 : Int) < _; decide), ?_⟩
    have := hO.v
    simp only at this
    simp [this, val]
   ·exact wk (wkSr rfl) ⟨bR rfl, trivial⟩
   ·rintro ⟨k, o, c⟩ hI
    have hlen : o.length = a.length + b.length := hI.len
    have hc0 : 0 ≤ c := hI.c0
    have hc1 : c < 4294967296 := hI.c1
    refine tr_seq (rr rfl ?_)
    refine tr_cond rfl (fun h2 => ?_) (fun h2 => ?_)
    ·have h2 : k < b.length := by simpa using h2
     have ga := rng_get ha i
     have gb := rng_get hb k
     have go := rng_get hI.r (i + k)
     simp only at go
     have gm := mul_lt_sq ga.1 (by omega) gb.1 (by omega)
     refine skT (tr_seq (tr_block (rr rfl ?_ (hp := by simp only [Pr.an, Pr.h, num, i64r, true_and, and_true]; omega))))
     have eik : ((i : Int) + (k : Int)).toNat = i + k := by omega
     have e0 : IntKind.wrap .u64 (IntKind.wrap .u64 (IntKind.wrap .u64 (IntKind.wrap .u64 (a.getD (i : Int).toNat 0) * IntKind.wrap .u64 (b.getD (k : Int).toNat 0)) + IntKind.wrap .u64 (o.getD ((i : Int) + (k : Int)).toNat 0)) + c) = a.getD i 0 * b.getD k 0 + o.getD (i + k) 0 + c := by
      rw [eik, Int.toNat_natCast, Int.toNat_natCast, wrap_u64 (a.getD i 0) (by omega) (by omega), wrap_u64 (b.getD k 0) (by omega) (by omega), wrap_u64 (o.getD (i + k) 0) (by omega) (by omega), wrap_u64 (a.getD i 0 * b.getD k 0) (by omega) (by omega), wrap_u64 (a.getD i 0 * b.getD k 0 + o.getD (i + k) 0) (by omega) (by omega), wrap_u64 _ (by omega) (by omega)]
     have hn := hI.next h h2 ha hb
     simp only at hn
     generalize ht : a.getD i 0 * b.getD k 0 + o.getD (i + k) 0 + c = s at hn e0
     have e1 : IntKind.wrap .u32 (s.tmod 4294967296) = s % 4294967296 := by
      rw [Int.tmod_eq_emod_of_nonneg (by omega), wrap_u32 _ (by omega) (by omega)]
     have e2 : IntKind.wrap .u64 (s.tdiv 4294967296) = s / 4294967296 := by
      rw [Int.tdiv_eq_ediv_of_nonneg (by omega), wrap_u64 _ (by omega) (by omega)]
     refine tr_wk (st' := ⟨[(0, cS U32 a), (1, cS U32 b), (5, .c (.X 1005000)), (6, cI i), (8, cI k), (9, cU s)], [(1005000, .vec 132 U32 o)], 8, []⟩) (wk ⟨sR rfl, sR rfl, sR rfl, sR rfl, sR rfl, sE rfl ?_, trivial⟩ ⟨bR rfl, trivial⟩) ?_
     ·exact cgU e0
     refine rr rfl (rt rfl (bkT (rt rfl (at_loop (k + 1, o.set (i + k) (s % 4294967296), s / 4294967296) hn (by show b.length - (k + 1) < b.length - k; omega) (wk ⟨sR rfl, sR rfl, sR rfl, sR rfl, sE rfl ?_, sE rfl ?_, trivial⟩ ⟨bE rfl ?_, trivial⟩)))))
     ·exact cgU e2
     ·rfl
     ·rw [e1, eik]
    ·have h2 : ¬ k < b.length := by simpa using h2
     have hk : k = b.length := by have := hI.k; simp only at this; omega
     subst hk
     have hd := hI.done h
     have eik : ((i : Int) + (b.length : Int)).toNat = i + b.length := by omega
     have e1 : IntKind.wrap .u32 c = c := wrap_u32 c hc0 hc1
     refine xlE (at_then (rt rfl (bkT (rt rfl (at_loop (i + 1, o.set (i + b.length) c) hd (by show a.length - (i + 1) < a.length - i; omega) (wk ⟨sR rfl, sR rfl, sR rfl, sE rfl ?_, trivial⟩ ⟨bE rfl ?_, trivial⟩))))))
     ·rfl
     ·rw [e1, eik]
  ·have h : ¬ i < a.length := by simpa using h
   have hi : i = a.length := by have := hO.i; simp only at this; omega
   subst hi
   refine xlE (at_then (tr_frz 1005000 rfl rfl rfl (rb ?_)))
   refine rc rfl rfl (rtrim_s _) (re rfl (rtE rfl ?_))
   have hv := hO.v
   simp only [List.take_length] at hv
   rw [trimW_eq hO.r]
   simp only [hv]
def Sm (z : Int) : Prop := (zmag z).length ≤ 1099511627776
def sg (neg : Bool) (m : Nat) : Int := if neg then -(m : Int) else m
theorem sg_self (z : Int) : sg (zneg z) z.natAbs = z := by
 unfold sg zneg
 by_cases h : z < 0
 ·simp [h]; omega
 ·simp [h]; omega
theorem words_nil {m : Nat} : 0 < (wordsN m).length ↔ m ≠ 0 := by
 constructor
 ·intro h e; subst e; simp [wordsN_zero] at h
 ·intro h; rw [wordsN_pos h]; simp
theorem mkZ (neg : Bool) (m : Nat) : (AV.a [.B (neg && decide (0 < (wordsN m).length)), .S U32 (wordsN m)]) = aZ (sg neg m) := by
 have e1 : zneg (sg neg m) = (neg && decide (0 < (wordsN m).length)) := by
  unfold zneg sg
  cases neg with
  | false => simp
  | true =>
   simp only [if_true, Bool.true_and]
   rw [Bool.eq_iff_iff]
   simp only [decide_eq_true_eq]
   rw [words_nil]; omega
 have e2 : (sg neg m).natAbs = m := by unfold sg; cases neg <;> simp
 unfold aZ
 simp only [av, zmag, e1, e2]
theorem rmade_z (neg : Bool) (m : Nat) : FnS Tryz.prog 130 [cB neg, cS U32 (wordsN m)] (aZ (sg neg m)) := by
 have := rmade_s neg (wordsN m)
 rw [trimW_words, mkZ] at this
 exact this
theorem rOf_s (n : Int) (h0 : -9223372036854775808 ≤ n) (h1 : n ≤ 9223372036854775807) : FnS Tryz.prog 83 [cI n] (aZ n) := by
 refine fsI Tryz.func83 ?_
 refine rr rfl (tr_seq (rr rfl ?_))
 refine tr_cond rfl (fun h => ?_) (fun h => ?_)
 ·have h : n < 0 := by simpa using h
  have e : IntKind.wrap .u64 (IntKind.wrap .u64 (0 - (n + 1)) + 1) = ((-n).toNat : Nat) := by
   rw [wrap_u64 (0 - (n + 1)) (by omega) (by omega), wrap_u64 _ (by omega) (by omega)]; omega
  refine rb ?_
  refine rc rfl rfl (f := 131) (r := cS U32 (wordsN (-n).toNat)) (by rw [e]; exact rwords_s _ (by omega)) ?_
  refine rc rfl rfl (rmade_z true _) (re rfl (tr_ret (at_then_ret (atE rfl ?_))))
  have e2 : sg true (-n).toNat = n := by unfold sg; simp; omega
  rw [e2]; rfl
 ·have h : ¬ n < 0 := by simpa using h
  have e : IntKind.wrap .u64 n = (n.toNat : Nat) := by
   rw [wrap_u64 _ (by omega) (by omega)]; omega
  refine skT (rb ?_)
  refine rc rfl rfl (f := 131) (r := cS U32 (wordsN n.toNat)) (by rw [show (AV.c (num .u64 n).1) = cU ((n.toNat : Nat) : Int) from cgU e]; exact rwords_s _ (by omega)) ?_
  refine rc rfl rfl (rmade_z false _) (re rfl (rtE rfl ?_))
  have e2 : sg false n.toNat = n := by unfold sg; simp; omega
  rw [e2]; rfl
def sgn (a : Int) : Int := if a < 0 then -1 else if a = 0 then 0 else 1
theorem rSign_s (a : Int) : FnS Tryz.prog 129 [aZ a] (cI (sgn a)) := by
 refine fsI Tryz.func129 ?_
 refine rr rfl (tr_seq (rr rfl ?_))
 refine tr_cond rfl (fun h => ?_) (fun h => ?_)
 ·have h : a < 0 := by simpa [zneg] using h
  refine rr rfl (tr_ret (at_then_ret (atE rfl ?_)))
  rw [sgn, if_pos h]; rfl
 ·have h : ¬ a < 0 := by simpa [zneg] using h
  refine skT (rr rfl (rtE rfl ?_))
  have e : (if true = false then (0 : Int) else if (1 : Int) < (zmag a).length then 1 else (zmag a).length) = sgn a := by
   rw [if_neg (by decide), sgn, if_neg h]
   by_cases hz : a = 0
   ·subst hz; rfl
   ·have : 0 < (zmag a).length := words_nil.2 (by omega)
    rw [if_neg hz]
    split <;> omega
  exact cgJ e
theorem rNeg_s (a : Int) : FnS Tryz.prog 155 [aZ a] (aZ (-a)) := by
 refine fsI Tryz.func155 ?_
 refine rr rfl (rb ?_)
 refine rc rfl rfl (rmade_z (!zneg a) a.natAbs) (re rfl (rtE rfl ?_))
 have e2 : sg (!zneg a) a.natAbs = -a := by
  unfold sg zneg
  by_cases h : a < 0
  ·simp [h]; omega
  ·simp [h]; omega
 rw [e2]; rfl
theorem rcompared_z (m k : Nat) : FnS Tryz.prog 158 [cS U32 (wordsN m), cS U32 (wordsN k)] (cI (cmpN m k)) := by
 have := rcompared_s (wordsN m) (wordsN k) (rng_words m) (rng_words k) (words_can m) (words_can k)
 rw [val_words, val_words] at this
 exact this
theorem radded_z (m k : Nat) (hm : (wordsN m).length ≤ 1099511627776) (hk : (wordsN k).length ≤ 1099511627776) : FnS Tryz.prog 157 [cS U32 (wordsN m), cS U32 (wordsN k)] (cS U32 (wordsN (m + k))) := by
 have := radded_s (wordsN m) (wordsN k) (rng_words m) (rng_words k) hm hk
 rw [val_words, val_words, show ((m : Int) + (k : Int)).toNat = m + k by omega] at this
 exact this
theorem words_len_mono {m k : Nat} (h : m ≤ k) : (wordsN m).length ≤ (wordsN k).length := words_len_le (by have := words_len_lt (n := k); omega)
theorem rtaken_z (m k : Nat) (h : k ≤ m) (hm : (wordsN m).length ≤ 1099511627776) : FnS Tryz.prog 159 [cS U32 (wordsN m), cS U32 (wordsN k)] (cS U32 (wordsN (m - k))) := by
 have := rtaken_s (wordsN m) (wordsN k) (rng_words m) (rng_words k) (words_len_mono h) (by rw [val_words, val_words]; omega) hm
 rw [val_words, val_words, show ((m : Int) - (k : Int)).toNat = m - k by omega] at this
 exact this
theorem rtimes_z (m k : Nat) (hm : (wordsN m).length ≤ 1099511627776) (hk : (wordsN k).length ≤ 1099511627776) : FnS Tryz.prog 160 [cS U32 (wordsN m), cS U32 (wordsN k)] (cS U32 (wordsN (m * k))) := by
 have := rtimes_s (wordsN m) (wordsN k) (rng_words m) (rng_words k) hm hk
 rw [val_words, val_words, show ((m : Int) * (k : Int)).toNat = m * k by rw [← Int.natCast_mul]; rfl] at this
 exact this
theorem rMul_s (a b : Int) (ha : Sm a) (hb : Sm b) : FnS Tryz.prog 128 [aZ a, aZ b] (aZ (a * b)) := by
 refine fs_intro Tryz.func128 rfl rfl rfl rfl rfl (by decide) ?_
 refine rr rfl (rb ?_)
 refine rc rfl rfl (rtimes_z _ _ ha hb) (rc rfl rfl (rmade_z _ _) (re rfl (tr_ret (at_ret TT_ok rfl (AVle.of_eq ?_)))))
 have e2 : sg (zneg a != zneg b) (a.natAbs * b.natAbs) = a * b := by
  have ea := sg_self a
  have eb := sg_self b
  generalize a.natAbs = x at ea ⊢
  generalize b.natAbs = y at eb ⊢
  cases hza : zneg a <;> cases hzb : zneg b <;> rw [hza] at ea <;> rw [hzb] at eb <;> simp only [sg, if_true, if_false, Bool.false_eq_true] at ea eb <;> rw [← ea, ← eb] <;> simp [sg] <;> grind
 exact congrArg aZ e2
theorem rAdd_s (a b : Int) (ha : Sm a) (hb : Sm b) : FnS Tryz.prog 127 [aZ a, aZ b] (aZ (a + b)) := by
 refine fsI Tryz.func127 ?_
 refine rr rfl (tr_seq (rr rfl ?_))
 refine tr_cond rfl (fun h => ?_) (fun h => ?_)
 ·have h : zneg a = zneg b := by simpa using h
  refine rb (rc rfl rfl (radded_z _ _ ha hb) (rc rfl rfl (rmade_z _ _) (re rfl (tr_ret (at_then_ret (atE rfl ?_))))))
  have e2 : sg (zneg a) (a.natAbs + b.natAbs) = a + b := by
   unfold zneg sg at *
   by_cases h1 : a < 0 <;> by_cases h2 : b < 0 <;> simp [h1, h2] at h ⊢ <;> omega
  exact congrArg aZ e2
 ·have h : zneg a ≠ zneg b := by simpa using h
  refine skT (tr_seq (rbc rfl rfl (rcompared_z _ _) rfl ?_))
  refine tr_cond rfl (fun h2 => ?_) (fun h2 => ?_)
  ·have h2 : a.natAbs < b.natAbs := by
    have h2 : cmpN a.natAbs b.natAbs < 0 := by simpa using h2
    unfold cmpN at h2
    split at h2
    ·omega
    ·split at h2 <;> omega
   refine rb (rc rfl rfl (rtaken_z _ _ (by omega) hb) (rc rfl rfl (rmade_z _ _) (re rfl (tr_ret (at_then_ret (atE rfl ?_))))))
   have e2 : sg (zneg b) (b.natAbs - a.natAbs) = a + b := by
    unfold zneg sg at *
    by_cases h1 : a < 0 <;> by_cases h3 : b < 0 <;> simp [h1, h3] at h ⊢ <;> omega
   exact congrArg aZ e2
  ·have h2 : b.natAbs ≤ a.natAbs := by
    have h2 : ¬ cmpN a.natAbs b.natAbs < 0 := by simpa using h2
    unfold cmpN at h2
    split at h2
    ·omega
    ·omega
   refine skT (rb (rc rfl rfl (rtaken_z _ _ (by omega) ha) (rc rfl rfl (rmade_z _ _) (re rfl (rtE rfl ?_)))))
   have e2 : sg (zneg a) (a.natAbs - b.natAbs) = a + b := by
    unfold zneg sg at *
    by_cases h1 : a < 0 <;> by_cases h3 : b < 0 <;> simp [h1, h3] at h ⊢ <;> omega
   exact congrArg aZ e2
theorem reuclid_s (m k : Nat) (hm : m < 18446744073709551616) (hk : k < 18446744073709551616) : FnS Tryz.prog 199 [cU m, cU k] (cU (Nat.gcd m k)) := by
 refine fsI Tryz.func199 ?_
 refine rr rfl (tr_seq (tr_block (tr_loop (α := Nat × Nat) (fun x => ⟨[(0, cU x.1), (1, cU x.2)], [], 1, []⟩) (fun x => Nat.gcd x.1 x.2 = Nat.gcd m k ∧ x.1 < 18446744073709551616 ∧ x.2 < 18446744073709551616) (fun x => x.2) (m, k) ⟨rfl, hm, hk⟩ wkA ?_)))
 rintro ⟨x, y⟩ ⟨hg, hx, hy⟩
 simp only at hg hx hy
 refine tr_seq (rr rfl ?_)
 refine tr_cond rfl (fun h => ?_) (fun h => ?_)
 ·have h : 0 < y := by
   have : (y : Int) > 0 := by simpa using h
   omega
  refine skT (tr_block (rr rfl (rr rfl (rt rfl (at_block (at_loop (y, x % y) ⟨?_, hy, ?_⟩ ?_ (wk ⟨sR rfl, sE rfl ?_, trivial⟩ trivial)))))))
  ·rw [← hg, Nat.gcd_comm x y, Nat.gcd_rec y x, Nat.gcd_comm]
  ·exact Nat.lt_of_lt_of_le (Nat.mod_lt _ h) (Nat.le_of_lt hy)
  ·exact Nat.mod_lt _ h
  ·have e : (x : Int).tmod (y : Int) = ((x % y : Nat) : Int) := by rw [Int.tmod_eq_emod_of_nonneg (by omega)]; omega
   exact cgU e
 ·have h : y = 0 := by
   have : ¬ (y : Int) > 0 := by simpa using h
   omega
  subst h
  refine xlE (at_then (rr rfl (rtE rfl ?_)))
  rw [← hg, Nat.gcd_zero_right]
theorem words_get0 (m : Nat) : (wordsN m).getD 0 0 = ((m % 4294967296 : Nat) : Int) := by
 by_cases h : m = 0
 ·subst h; rfl
 ·rw [wordsN_pos h]; rfl
theorem words_get1 (m : Nat) (hm : m < 18446744073709551616) : (wordsN m).getD 1 0 = ((m / 4294967296 : Nat) : Int) := by
 by_cases h : m = 0
 ·subst h; rfl
 ·rw [wordsN_pos h, List.getD_cons_succ, words_get0]; congr 1; omega
theorem rnumber_s (m : Nat) (hm : m < 18446744073709551616) : FnS Tryz.prog 200 [cS U32 (wordsN m)] (cU m) := by
 refine fsI Tryz.func200 ?_
 refine rr rfl (rb ?_)
 refine rc rfl rfl (rword_s _ 1 (rng_words m)) (rc rfl rfl (rword_s _ 0 (rng_words m)) (re rfl (rtE rfl ?_)))
 have e : IntKind.wrap .u64 (IntKind.wrap .u64 ((wordsN m).getD 1 0 * 4294967296) + (wordsN m).getD 0 0) = m := by
  rw [words_get0, words_get1 m hm, wrap_u64 (((m / 4294967296 : Nat) : Int) * 4294967296) (by omega) (by omega), wrap_u64 _ (by omega) (by omega)]; omega
 exact cgU e
theorem words_len2 {m : Nat} (hm : m < 18446744073709551616) : (wordsN m).length ≤ 2 := words_len_le (by show (m : Int) < 4294967296 ^ 2; omega)
structure DivI (a : List Int) (d : Int) (x : Nat × List Int × Int) : Prop where
 k : x.1 ≤ a.length
 len : x.2.1.length = a.length
 r : rng x.2.1
 r0 : 0 ≤ x.2.2
 r1 : x.2.2 < d
 v : val (a.drop x.1) = val (x.2.1.drop x.1) * d + x.2.2
theorem drop_cons (l : List Int) (j : Nat) (h : j < l.length) : l.drop j = l.getD j 0 :: l.drop (j + 1) := by
 rw [List.drop_eq_getElem_cons h]
 simp [List.getD_eq_getElem?_getD, List.getElem?_eq_getElem h]
theorem div_bound {r a d : Int} (h0 : 0 ≤ r) (h1 : r < d) (h2 : 0 ≤ a) (h3 : a < 4294967296) (h4 : d < 4294967296) : 0 ≤ r * 4294967296 + a ∧ r * 4294967296 + a < 18446744073709551616 ∧ 0 ≤ (r * 4294967296 + a) / d ∧ (r * 4294967296 + a) / d < 4294967296 ∧ 0 ≤ (r * 4294967296 + a) % d ∧ (r * 4294967296 + a) % d < d := by
 have hd : 0 < d := by omega
 refine ⟨by omega, by omega, Int.ediv_nonneg (by omega) (by omega), ?_, Int.emod_nonneg _ (by omega), Int.emod_lt_of_pos _ hd⟩
 apply Int.ediv_lt_of_lt_mul hd
 have : (r + 1) * 4294967296 ≤ d * 4294967296 := Int.mul_le_mul_of_nonneg_right (by omega) (by decide)
 omega
theorem DivI.next {a : List Int} {d : Int} {j : Nat} {q : List Int} {r : Int} (h : DivI a d (j + 1, q, r)) (ha : rng a) (hd : d < 4294967296) : DivI a d (j, q.set j ((r * 4294967296 + a.getD j 0) / d), (r * 4294967296 + a.getD j 0) % d) := by
 have g := rng_get ha j
 have h0 : 0 ≤ r := h.r0
 have h1 : r < d := h.r1
 have hb := div_bound h0 h1 g.1 g.2 hd
 have hk : j + 1 ≤ a.length := h.k
 have hl : q.length = a.length := h.len
 refine ⟨by show j ≤ _; omega, by simp [hl], rng_set h.r _ ⟨hb.2.2.1, hb.2.2.2.1⟩, hb.2.2.2.2.1, hb.2.2.2.2.2, ?_⟩
 have hv : val (a.drop (j + 1)) = val (q.drop (j + 1)) * d + r := h.v
 simp only
 rw [drop_cons a j (by omega), drop_cons (q.set j _) j (by simp; omega), getD_set_eq _ _ _ _ (by omega), if_pos rfl, List.drop_set_of_lt (by omega)]
 simp only [val]
 rw [hv]
 have := Int.emod_add_mul_ediv (r * 4294967296 + a.getD j 0) d
 generalize (r * 4294967296 + a.getD j 0) / d = x at *
 generalize (r * 4294967296 + a.getD j 0) % d = y at *
 grind
theorem rshortly_s (a : List Int) (d : Int) (ha : rng a) (hd0 : 0 < d) (hd : d < 4294967296) (la : a.length ≤ 1099511627776) : FnS Tryz.prog 207 [cS U32 a, cU d] (.t [(false, [.S U32 (wordsN (val a / d).toNat)]), (false, [.I .u64 (val a % d)])]) := by
 refine fsI Tryz.func207 ?_
 refine rr rfl (rb ?_)
 refine rm U32 a.length rfl rfl rfl rfl rfl rfl (zr_int .u32) rfl ?_ ?_ ?_
 ·show _ * 4 ≤ _; omega
 ·show _ * 1 ≤ _; omega
 refine re rfl (rr rfl (tr_seq (rr rfl ?_)))
 refine tr_block (tr_loop (α := Nat × List Int × Int) (fun x => ⟨[(0, cS U32 a), (1, cU d), (6, .c (.X 1002000)), (7, cU x.2.2), (8, cI ((x.1 : Int) - 1))], [(1002000, .vec 132 U32 x.2.1)], 4, []⟩) (DivI a d) (fun x => x.1) (a.length, List.replicate a.length 0, 0) ?_ ?_ ?_)
 ·exact ⟨Nat.le_refl _, by simp, rng_rep _, Int.le_refl _, hd0, by simp [val]⟩
 ·exact wk (wkSr rfl) ⟨bR rfl, trivial⟩
 ·rintro ⟨k, q, r⟩ hI
  have hlen : q.length = a.length := hI.len
  have h0 : 0 ≤ r := hI.r0
  have h1 : r < d := hI.r1
  have hk : k ≤ a.length := hI.k
  refine tr_seq (rr rfl ?_)
  refine tr_cond rfl (fun h => ?_) (fun h => ?_)
  ·have h : (k : Int) - 1 ≥ 0 := by simpa using h
   obtain ⟨j, rfl⟩ : ∃ j, k = j + 1 := ⟨k - 1, by omega⟩
   have ej : (((j + 1 : Nat) : Int) - 1).toNat = j := by omega
   have g := rng_get ha j
   have hb := div_bound h0 h1 g.1 g.2 hd
   have hn := hI.next ha hd
   refine skT (tr_seq (tr_block (rr rfl ?_)))
   have e0 : IntKind.wrap .u64 (IntKind.wrap .u64 (r * 4294967296) + IntKind.wrap .u64 (a.getD (((j + 1 : Nat) : Int) - 1).toNat 0)) = r * 4294967296 + a.getD j 0 := by
    rw [ej, wrap_u64 (r * 4294967296) (by omega) (by omega), wrap_u64 (a.getD j 0) (by omega) (by omega), wrap_u64 _ (by omega) (by omega)]
   generalize ht : r * 4294967296 + a.getD j 0 = s at hn hb e0
   have e1 : IntKind.wrap .u32 (IntKind.wrap .u64 (s.tdiv d)) = s / d := by
    rw [Int.tdiv_eq_ediv_of_nonneg (by omega), wrap_u64 _ (by omega) (by omega), wrap_u32 _ (by omega) (by omega)]
   have e2 : s.tmod d = s % d := Int.tmod_eq_emod_of_nonneg (by omega)
   refine tr_wk (st' := ⟨[(0, cS U32 a), (1, cU d), (6, .c (.X 1002000)), (8, cI (((j + 1 : Nat) : Int) - 1)), (9, cU s)], [(1002000, .vec 132 U32 q)], 6, []⟩) (wk ⟨sR rfl, sR rfl, sR rfl, sR rfl, sE rfl ?_, trivial⟩ ⟨bR rfl, trivial⟩) ?_
   ·exact cgU e0
   refine rr rfl (rt rfl (bkT (rt rfl (at_loop (j, q.set j (s / d), s % d) hn (by show j < j + 1; omega) (wk ⟨sR rfl, sR rfl, sR rfl, sE rfl ?_, sE rfl ?_, trivial⟩ ⟨bE rfl ?_, trivial⟩)))))
   ·exact cgU e2
   ·refine cgJ ?_
    show ((j + 1 : Nat) : Int) - 1 - 1 = (j : Int) - 1
    omega
   ·rw [e1, ej]
  ·have h : ¬ ((k : Int) - 1 ≥ 0) := by simpa using h
   have : k = 0 := by omega
   subst this
   refine xlE (at_then (tr_frz 1002000 rfl rfl rfl (rb ?_)))
   refine rc rfl rfl (rtrim_s _) (re rfl (rtE rfl ?_))
   have hv : val a = val q * d + r := hI.v
   have hr : rng q := hI.r
   have eq : val a / d = val q := by
    rw [hv, Int.add_comm, Int.add_mul_ediv_right _ _ (by omega), Int.ediv_eq_zero_of_lt h0 h1]; omega
   have er : val a % d = r := by
    rw [hv, Int.add_comm, Int.add_mul_emod_self_right, Int.emod_eq_of_lt h0 h1]
   rw [trimW_eq hr, eq, er]; rfl
theorem AVle.t2 {x x' y : C} (h : AVle (.c x) (.c x')) : AVle (.t [(false, [x]), (false, [y])]) (.t [(false, [x']), (false, [y])]) := by
 refine ⟨?_, ?_⟩
 ·rintro g v ⟨vs, rfl, v1, r, rfl, h1, h2⟩
  exact ⟨_, rfl, v1, r, rfl, h.1 g v1 h1, h2⟩
 ·intro id hid
  have h2 := h.2 id
  simp only [AV.mids, midsT, midsL, List.append_nil, List.mem_append] at hid h2 ⊢
  exact hid.elim (fun h => .inl (h2 h)) .inr
theorem rdivided_s (m k : Nat) (hk : k ≠ 0) (h : m < k ∨ k < 4294967296) (lm : (wordsN m).length ≤ 1099511627776) : FnS Tryz.prog 201 [cS U32 (wordsN m), cS U32 (wordsN k)] (.t [(false, [.S U32 (wordsN (m / k))]), (false, [.S U32 (wordsN (m % k))])]) := by
 refine fsI Tryz.func201 ?_
 refine rr rfl (tr_seq (rbc rfl rfl (rcompared_z m k) rfl ?_))
 refine tr_cond rfl (fun h2 => ?_) (fun h2 => ?_)
 ·have h2 : m < k := by
   have h2 : cmpN m k < 0 := by simpa using h2
   unfold cmpN at h2
   split at h2
   ·omega
   ·split at h2 <;> omega
  refine rr rfl (tr_ret (at_then_ret (at_ret TT_ok rfl ?_)))
  rw [Nat.div_eq_of_lt h2, Nat.mod_eq_of_lt h2]
  exact AVle.t2 (AVle.nil U32)
 ·have h2 : ¬ m < k := by
   have h2 : ¬ cmpN m k < 0 := by simpa using h2
   unfold cmpN at h2
   split at h2 <;> omega
  have hk2 : k < 4294967296 := h.resolve_left h2
  have ek : wordsN k = [(k : Int)] := by
   rw [wordsN_pos hk, show k % 4294967296 = k by omega, show k / 4294967296 = 0 by omega]; rfl
  refine skT (tr_seq (rr rfl ?_))
  rw [ek]
  refine tr_cond rfl (fun h3 => ?_) (fun h3 => by simp at h3)
  refine rb ?_
  have e1 : IntKind.wrap .u64 (k : Int) = k := wrap_u64 _ (by omega) (by omega)
  refine rc rfl rfl (f := 207) (r := .t [(false, [.S U32 (wordsN (m / k))]), (false, [.I .u64 ((m % k : Nat) : Int)])]) ?_ ?_
  ·have := rshortly_s (wordsN m) k (rng_words m) (by omega) (by omega) lm
   rw [val_words, show ((m : Int) / (k : Int)).toNat = m / k from rfl, show (m : Int) % (k : Int) = ((m % k : Nat) : Int) from rfl] at this
   rw [show (AV.c (num .u64 ([(k : Int)].getD (0 : Int).toNat 0)).1) = cU (k : Int) from cgU e1]
   exact this
  refine re rfl (rbc rfl rfl (rwords_s _ ?_) rfl (tr_ret (at_then_ret (atR rfl))))
  have := Nat.mod_lt m (Nat.pos_of_ne_zero hk)
  omega
theorem dm_key (a : Int) (B : Nat) (hB : 0 < B) : (a.natAbs : Int) = ((a.natAbs % B : Nat) : Int) + (B : Int) * ((a.natAbs / B : Nat) : Int) ∧ a.natAbs % B < B := by
 refine ⟨?_, Nat.mod_lt _ hB⟩
 have := Nat.mod_add_div a.natAbs B
 rw [← Int.natCast_mul, ← Int.natCast_add, this]
theorem dm_pos {a : Int} {B : Nat} (hB : 0 < B) (ha : ¬ a < 0) : a / (B : Int) = ((a.natAbs / B : Nat) : Int) ∧ a % (B : Int) = ((a.natAbs % B : Nat) : Int) := by
 let ⟨h1, h2⟩ := dm_key a B hB
 exact (Int.ediv_emod_unique (by omega)).2 ⟨by omega, by omega, by omega⟩
theorem dm_neg0 {a : Int} {B : Nat} (hB : 0 < B) (ha : a < 0) (hr : a.natAbs % B = 0) : a / (B : Int) = -((a.natAbs / B : Nat) : Int) ∧ a % (B : Int) = 0 := by
 let ⟨h1, h2⟩ := dm_key a B hB
 refine (Int.ediv_emod_unique (by omega)).2 ⟨?_, by omega, by omega⟩
 rw [hr] at h1
 rw [Int.mul_neg]; omega
theorem dm_neg1 {a : Int} {B : Nat} (hB : 0 < B) (ha : a < 0) (hr : a.natAbs % B ≠ 0) : a / (B : Int) = -((a.natAbs / B + 1 : Nat) : Int) ∧ a % (B : Int) = ((B - a.natAbs % B : Nat) : Int) := by
 let ⟨h1, h2⟩ := dm_key a B hB
 refine (Int.ediv_emod_unique (by omega)).2 ⟨?_, by omega, by omega⟩
 rw [Int.mul_neg, Int.natCast_add, Int.mul_add]; omega
theorem dm_sgn (a b : Int) (q r : Nat) (h1 : a / (b.natAbs : Int) = sg (zneg a) q) (h2 : a % (b.natAbs : Int) = r) : a / b = sg (zneg a != zneg b) q ∧ a % b = sg false r := by
 by_cases hb : b < 0
 ·have e : b = -(b.natAbs : Int) := by omega
  have hz : zneg b = true := by simp [zneg, hb]
  rw [e, Int.ediv_neg, Int.emod_neg, ← e, h1, h2, hz]
  refine ⟨?_, rfl⟩
  unfold sg
  cases zneg a <;> simp
 ·have e : b = (b.natAbs : Int) := by omega
  have hz : zneg b = false := by simp [zneg, hb]
  rw [← e] at h1 h2
  rw [h1, h2, hz]
  refine ⟨?_, rfl⟩
  cases zneg a <;> rfl
def gsL : Nat → Int → Int → Int → Int → Int → Int
 | 0, q, _, _, _, _ => q
 | f + 1, q, r, v1, v2, u2 => if q ≥ 4294967296 ∨ q * v2 > r * 4294967296 + u2 then (if r + v1 ≥ 4294967296 then q - 1 else gsL f (q - 1) (r + v1) v1 v2 u2) else q
theorem gsL_ok {M v1 v2 v' v t u2 u' u : Int} (h : Kn1 M v1 v2 v' v t u2 u' u) : ∀ (f : Nat) (q r : Int), t = q * v1 + r → 0 ≤ r → r < 4294967296 → 4294967296 ≤ r + f * 2147483648 → u / v ≤ q → u / v ≤ gsL f q r v1 v2 u2 ∧ gsL f q r v1 v2 u2 ≤ u / v + 1 ∧ gsL f q r v1 v2 u2 < 4294967296
 | 0, q, r, _, _, h2, h3, _ => by omega
 | f + 1, q, r, ht, h1, h2, h3, hq => by
  have q0 := h.q0
  have qlt := h.qlt
  have hv1 := h.hv1
  rw [gsL]
  split
  ·rename_i hc
   have hlt : u / v < q := by
    rcases hc with hc | hc
    ·omega
    ·exact h.down ht (by omega) hc
   have ht' : t = (q - 1) * v1 + (r + v1) := by rw [Int.sub_mul, Int.one_mul]; omega
   split
   ·rename_i hr
    have hb := h.broke ht' hr
    have hc : q - 1 - 1 ≤ u / v := h.close ht' (by omega) hb (by
     have e1 : (q - 1) * v2 ≤ 4294967296 * 4294967296 := Int.mul_le_mul (by omega) (by have := h.hv2'; omega) h.hv2 (by decide)
     have := h.hu2
     omega)
    exact ⟨by omega, by omega, hb⟩
   ·rename_i hr
    exact gsL_ok h f (q - 1) (r + v1) ht' (by omega) (by omega) (by omega) (by omega)
  ·rename_i hc
   have hc1 : q < 4294967296 := by
    by_cases e : q < 4294967296
    ·exact e
    ·exact absurd (.inl (by omega)) hc
   have hc2 : q * v2 ≤ r * 4294967296 + u2 := by
    by_cases e : q * v2 ≤ r * 4294967296 + u2
    ·exact e
    ·exact absurd (.inr (by omega)) hc
   have := h.close ht (by omega) hc1 hc2
   exact ⟨hq, by omega, hc1⟩
theorem tdiv_pos' {a b : Int} (ha : 0 ≤ a) : a.tdiv b = a / b := Int.tdiv_eq_ediv_of_nonneg ha
theorem tmod_pos' {a b : Int} (ha : 0 ≤ a) : a.tmod b = a % b := Int.tmod_eq_emod_of_nonneg ha
set_option maxHeartbeats 4000000 in
theorem rguess_s (U v : List Int) (j n : Nat) (hU : rng U) (hv : rng v) (hn : v.length = n + 2) (hj : j + n + 3 ≤ U.length) (hl : U.length ≤ 1099511627777) {v' u' u : Int}
  (K : Kn1 (4294967296 ^ n) (v.getD (n + 1) 0) (v.getD n 0) v' (val v) (U.getD (j + (n + 2)) 0 * 4294967296 + U.getD (j + (n + 1)) 0) (U.getD (j + n) 0) u' u) :
  FnM Tryz.prog 208 [.c (.W 0 j (n + 3)), cS U32 v] 132 U32 U (cU (gsL 2 ((U.getD (j + (n + 2)) 0 * 4294967296 + U.getD (j + (n + 1)) 0) / v.getD (n + 1) 0) ((U.getD (j + (n + 2)) 0 * 4294967296 + U.getD (j + (n + 1)) 0) % v.getD (n + 1) 0) (v.getD (n + 1) 0) (v.getD n 0) (U.getD (j + n) 0))) U := by
 refine fm_intro Tryz.func208 rfl rfl rfl rfl rfl (by decide) ?_
 have g1 := rng_get hU (j + (n + 2))
 have g2 := rng_get hU (j + (n + 1))
 have g3 := rng_get hU (j + n)
 have k1 := rng_get hv (n + 1)
 have k2 := rng_get hv n
 have hv1 := K.hv1
 have a1 : ((v.length : Int)).toNat = n + 2 := by omega
 have a2 : ((v.length : Int) - 1).toNat = n + 1 := by omega
 have a3 : ((v.length : Int) - 2).toNat = n := by omega
 generalize hQ : gsL 2 ((U.getD (j + (n + 2)) 0 * 4294967296 + U.getD (j + (n + 1)) 0) / v.getD (n + 1) 0) ((U.getD (j + (n + 2)) 0 * 4294967296 + U.getD (j + (n + 1)) 0) % v.getD (n + 1) 0) (v.getD (n + 1) 0) (v.getD n 0) (U.getD (j + n) 0) = Q0
 refine rr rfl (rr rfl (rr rfl (hp := by simp only [Pr.an, Pr.h, num, i64r, true_and, and_true]; omega) ?_))
 rw [a1, a2]
 have e6 : IntKind.wrap .u64 (IntKind.wrap .u64 (IntKind.wrap .u64 (U.getD (j + (n + 2)) 0) * 4294967296) + IntKind.wrap .u64 (U.getD (j + (n + 1)) 0)) = U.getD (j + (n + 2)) 0 * 4294967296 + U.getD (j + (n + 1)) 0 := by
  rw [wrap_u64 (U.getD (j + (n + 2)) 0) (by omega) (by omega), wrap_u64 (U.getD (j + (n + 1)) 0) (by omega) (by omega), wrap_u64 (_ * _) (by omega) (by omega), wrap_u64 _ (by omega) (by omega)]
 have ev1 : IntKind.wrap .u64 (v.getD (n + 1) 0) = v.getD (n + 1) 0 := wrap_u64 _ (by omega) (by omega)
 have ev2 : IntKind.wrap .u64 (v.getD n 0) = v.getD n 0 := wrap_u64 _ (by omega) (by omega)
 have eu2 : IntKind.wrap .u64 (U.getD (j + n) 0) = U.getD (j + n) 0 := wrap_u64 _ (by omega) (by omega)
 have ht0 : 0 ≤ U.getD (j + (n + 2)) 0 * 4294967296 + U.getD (j + (n + 1)) 0 := by omega
 have ht1 : U.getD (j + (n + 2)) 0 * 4294967296 + U.getD (j + (n + 1)) 0 < 18446744073709551616 := by omega
 have hsm := @Kn1.small _ _ _ _ _ _ _ _ _ K
 have hdn := @gsL_ok _ _ _ _ _ _ _ _ _ K
 have hfi := K.first
 generalize U.getD (j + (n + 2)) 0 * 4294967296 + U.getD (j + (n + 1)) 0 = t at *
 generalize hv1e : v.getD (n + 1) 0 = v1 at *
 generalize hv2e : v.getD n 0 = v2 at *
 generalize hu2e : U.getD (j + n) 0 = u2 at *
 have x1 : IntKind.wrap .u64 (v.getD ((v.length : Int) - 1).toNat 0) = v1 := by rw [a2, hv1e]; exact ev1
 have x2 : IntKind.wrap .u64 (v.getD ((v.length : Int) - 2).toNat 0) = v2 := by rw [a3, hv2e]; exact ev2
 have x3 : IntKind.wrap .u64 (U.getD (j + ((v.length : Int) - 2).toNat) 0) = u2 := by rw [a3, hu2e]; exact eu2
 have hd0 : 0 ≤ t / v1 := Int.ediv_nonneg ht0 (by omega)
 have hr0 : 0 ≤ t % v1 := Int.emod_nonneg _ (by omega)
 have hr1 : t % v1 < v1 := Int.emod_lt_of_pos _ (by omega)
 have htt := Int.emod_add_mul_ediv t v1
 refine tr_wk (st' := ⟨[(0, .c (.W 0 j (n + 3))), (1, cS U32 v), (5, cI v.length), (6, cU t)], [(0, .vec 132 U32 U)], 4, []⟩) (wk ⟨sR rfl, sR rfl, sR rfl, ⟨_, rfl, AVle.of_eq (cgU e6)⟩, trivial⟩ ⟨bR rfl, trivial⟩) ?_
 have hp1 : ((-9223372036854775808 ≤ (v.length : Int) - 1 ∧ (v.length : Int) - 1 ≤ 9223372036854775807) ∧ 0 ≤ (v.length : Int) - 1 ∧ (v.length : Int) - 1 < (v.length : Int)) ∧ IntKind.wrap .u64 (v.getD ((v.length : Int) - 1).toNat 0) ≠ 0 := by rw [x1]; omega
 refine rr rfl (hp := by simp only [Pr.an, Pr.h, num, i64r, true_and, and_true]; exact hp1) (rr rfl (hp := by simp only [Pr.an, Pr.h, num, i64r, true_and, and_true]; exact hp1) ?_)
 refine tr_seq (tr_block (tr_loop (α := Nat × Int × Int) (fun x => ⟨[(0, .c (.W 0 j (n + 3))), (1, cS U32 v), (5, cI v.length), (6, cU t), (7, cU x.2.1), (8, cU x.2.2)], [(0, .vec 132 U32 U)], 6, []⟩) (fun x => gsL x.1 x.2.1 x.2.2 v1 v2 u2 = Q0 ∧ t = x.2.1 * v1 + x.2.2 ∧ 0 ≤ x.2.2 ∧ x.2.2 < 4294967296 ∧ 4294967296 ≤ x.2.2 + x.1 * 2147483648 ∧ u / val v ≤ x.2.1) (fun x => x.1) (2, t / v1, t % v1) ⟨hQ, by show t = t / v1 * v1 + t % v1; rw [Int.mul_comm]; omega, hr0, by show t % v1 < 4294967296; omega, by show (4294967296 : Int) ≤ t % v1 + (2 : Nat) * 2147483648; omega, hfi⟩ (wk ⟨sR rfl, sR rfl, sR rfl, sR rfl, sE rfl ?_, sE rfl ?_, trivial⟩ ⟨bR rfl, trivial⟩) ?_))
 ·refine cgU ?_
  show IntKind.wrap .u64 (t.tdiv (IntKind.wrap .u64 (v.getD ((v.length : Int) - 1).toNat 0))) = t / v1
  have := Int.ediv_le_self v1 ht0
  rw [x1, tdiv_pos' ht0, wrap_u64 _ hd0 (by omega)]
 ·refine cgU ?_
  show (t.tmod (IntKind.wrap .u64 (v.getD ((v.length : Int) - 1).toNat 0))) = t % v1
  rw [x1, tmod_pos' ht0]
 ·rintro ⟨f, q, r⟩ ⟨h1, h2, h3, h4, h5, h6⟩
  simp only at h1 h2 h3 h4 h5 h6
  have hq0 := K.q0
  have hqs := hsm h2 h3
  cases f with
  | zero => omega
  | succ f =>
  rw [gsL] at h1
  have hm1 : 0 ≤ q * v2 ∧ q * v2 < 18446744073709551616 := by
   refine ⟨Int.mul_nonneg (by omega) (by omega), ?_⟩
   have : q * v2 ≤ 4294967297 * 4294967295 := Int.mul_le_mul (by omega) (by omega) (by omega) (by decide)
   omega
  refine tr_seq (rb (rg 42 rfl rfl (fun h => ?_) (fun h => ?_)))
  ·have hqB : q ≥ 4294967296 := by simpa using h
   have hc : q ≥ 4294967296 ∨ q * v2 > r * 4294967296 + u2 := .inl hqB
   refine re rfl (tr_cond rfl (fun _ => ?_) (fun h7 => by cases h7))
   have hlt : u / val v < q := by
    rcases hc with hc | hc
    ·have := K.qlt; omega
    ·exact K.down h2 (by omega) hc
   have w1 : IntKind.wrap .u64 (q - 1) = q - 1 := wrap_u64 _ (by omega) (by omega)
   have w2 : IntKind.wrap .u64 (r + IntKind.wrap .u64 (v.getD ((v.length : Int) - 1).toNat 0)) = r + v1 := by rw [x1, wrap_u64 _ (by omega) (by omega)]
   refine skT (tr_block (rr rfl (rr rfl (hp := by simp only [Pr.an, Pr.h, num, i64r, true_and, and_true]; omega) (rr rfl (tr_cond rfl (fun h7 => ?_) (fun h7 => ?_))))))
   ·have h7 : r + v1 ≥ 4294967296 := by
     have h7 : 4294967296 ≤ IntKind.wrap .u64 (r + IntKind.wrap .u64 (v.getD ((v.length : Int) - 1).toNat 0)) := by simpa using h7
     omega
    rw [if_pos hc, if_pos h7] at h1
    refine tr_exit (at_block_exit_ne (at_loop_exit (at_block_exit (at_then (rr rfl (tr_ret (at_retM TT_ok rfl (AVle.of_eq ?_) rfl)))))))
    refine cgU ?_
    rw [← h1]; exact w1
   ·have h7 : ¬ r + v1 ≥ 4294967296 := by
     have h7 : IntKind.wrap .u64 (r + IntKind.wrap .u64 (v.getD ((v.length : Int) - 1).toNat 0)) < 4294967296 := by simpa using h7
     omega
    rw [if_pos hc, if_neg h7] at h1
    refine tr_skip (at_block (at_loop (f, q - 1, r + v1) ⟨h1, by show t = (q - 1) * v1 + (r + v1); rw [Int.sub_mul, Int.one_mul]; omega, by show 0 ≤ r + v1; omega, by show r + v1 < 4294967296; omega, by show (4294967296 : Int) ≤ r + v1 + (f : Nat) * 2147483648; omega, by show u / val v ≤ q - 1; omega⟩ (Nat.lt_succ_self f) (wk ⟨sR rfl, sR rfl, sR rfl, sR rfl, ⟨_, rfl, AVle.of_eq (cgU w1)⟩, ⟨_, rfl, AVle.of_eq (cgU w2)⟩, trivial⟩ ⟨bR rfl, trivial⟩)))
  ·have hqB : ¬ q ≥ 4294967296 := by
    have : q < 4294967296 := by simpa using h
    omega
   have w3 : IntKind.wrap .u64 (q * IntKind.wrap .u64 (v.getD ((v.length : Int) - 2).toNat 0)) = q * v2 := by rw [x2, wrap_u64 _ hm1.1 hm1.2]
   have w4 : IntKind.wrap .u64 (IntKind.wrap .u64 (r * 4294967296) + IntKind.wrap .u64 (U.getD (j + ((v.length : Int) - 2).toNat) 0)) = r * 4294967296 + u2 := by rw [x3, wrap_u64 (r * 4294967296) (by omega) (by omega), wrap_u64 _ (by omega) (by omega)]
   refine re rfl (hp := by simp only [Pr.an, Pr.h, num, i64r, true_and, and_true]; omega) (tr_cond rfl (fun h8 => ?_) (fun h8 => ?_))
   ·have hc : q ≥ 4294967296 ∨ q * v2 > r * 4294967296 + u2 := .inr (by
     have h8 : IntKind.wrap .u64 (q * IntKind.wrap .u64 (v.getD ((v.length : Int) - 2).toNat 0)) > IntKind.wrap .u64 (IntKind.wrap .u64 (r * 4294967296) + IntKind.wrap .u64 (U.getD (j + ((v.length : Int) - 2).toNat) 0)) := by simpa using h8
     rw [w3, w4] at h8
     exact h8)
    have hlt : u / val v < q := by
     rcases hc with hc | hc
     ·have := K.qlt; omega
     ·exact K.down h2 (by omega) hc
    have w1 : IntKind.wrap .u64 (q - 1) = q - 1 := wrap_u64 _ (by omega) (by omega)
    have w2 : IntKind.wrap .u64 (r + IntKind.wrap .u64 (v.getD ((v.length : Int) - 1).toNat 0)) = r + v1 := by rw [x1, wrap_u64 _ (by omega) (by omega)]
    refine skT (tr_block (rr rfl (rr rfl (hp := by simp only [Pr.an, Pr.h, num, i64r, true_and, and_true]; omega) (rr rfl (tr_cond rfl (fun h7 => ?_) (fun h7 => ?_))))))
    ·have h7 : r + v1 ≥ 4294967296 := by
      have h7 : 4294967296 ≤ IntKind.wrap .u64 (r + IntKind.wrap .u64 (v.getD ((v.length : Int) - 1).toNat 0)) := by simpa using h7
      omega
     rw [if_pos hc, if_pos h7] at h1
     refine tr_exit (at_block_exit_ne (at_loop_exit (at_block_exit (at_then (rr rfl (tr_ret (at_retM TT_ok rfl (AVle.of_eq ?_) rfl)))))))
     refine cgU ?_
     rw [← h1]; exact w1
    ·have h7 : ¬ r + v1 ≥ 4294967296 := by
      have h7 : IntKind.wrap .u64 (r + IntKind.wrap .u64 (v.getD ((v.length : Int) - 1).toNat 0)) < 4294967296 := by simpa using h7
      omega
     rw [if_pos hc, if_neg h7] at h1
     refine tr_skip (at_block (at_loop (f, q - 1, r + v1) ⟨h1, by show t = (q - 1) * v1 + (r + v1); rw [Int.sub_mul, Int.one_mul]; omega, by show 0 ≤ r + v1; omega, by show r + v1 < 4294967296; omega, by show (4294967296 : Int) ≤ r + v1 + (f : Nat) * 2147483648; omega, by show u / val v ≤ q - 1; omega⟩ (Nat.lt_succ_self f) (wk ⟨sR rfl, sR rfl, sR rfl, sR rfl, ⟨_, rfl, AVle.of_eq (cgU w1)⟩, ⟨_, rfl, AVle.of_eq (cgU w2)⟩, trivial⟩ ⟨bR rfl, trivial⟩)))
   ·have hc : ¬ (q ≥ 4294967296 ∨ q * v2 > r * 4294967296 + u2) := by
     have h8 : ¬ IntKind.wrap .u64 (q * IntKind.wrap .u64 (v.getD ((v.length : Int) - 2).toNat 0)) > IntKind.wrap .u64 (IntKind.wrap .u64 (r * 4294967296) + IntKind.wrap .u64 (U.getD (j + ((v.length : Int) - 2).toNat) 0)) := by simpa using h8
     rw [w3, w4] at h8
     omega
    rw [if_neg hc] at h1
    subst h1
    exact xlE (at_then (rr rfl (tr_ret (at_retM TT_ok rfl (AVle.refl _) rfl))))
end Go.El

namespace Go.El
def wordsK : Nat → Int → List Int
 | 0, _ => []
 | n + 1, x => x % 4294967296 :: wordsK n (x / 4294967296)
theorem wordsK_len : ∀ (n : Nat) (x : Int), (wordsK n x).length = n
 | 0, _ => rfl
 | n + 1, x => by rw [wordsK, List.length_cons, wordsK_len n]
theorem wordsK_rng : ∀ (n : Nat) (x : Int), rng (wordsK n x)
 | 0, _ => rng_nil
 | n + 1, x => rng_cons.2 ⟨⟨Int.emod_nonneg _ (by decide), Int.emod_lt_of_pos _ (by decide)⟩, wordsK_rng n _⟩
theorem powB_succ (n : Nat) : (4294967296 : Int) ^ (n + 1) = 4294967296 ^ n * 4294967296 := Int.pow_succ _ _
theorem ediv_powB (x : Int) (n : Nat) : x / 4294967296 ^ (n + 1) = x / 4294967296 ^ n / 4294967296 := by
 rw [powB_succ, Int.ediv_ediv_of_nonneg (by have := powB_pos n; omega)]
theorem ediv_powB' (x : Int) (n : Nat) : x / 4294967296 ^ (n + 1) = x / 4294967296 / 4294967296 ^ n := by
 rw [powB_succ, Int.mul_comm, Int.ediv_ediv_of_nonneg (by decide)]
theorem emod_powB (x : Int) (n : Nat) : x % 4294967296 ^ (n + 1) = x % 4294967296 + 4294967296 * (x / 4294967296 % 4294967296 ^ n) := by
 have h1 := Int.emod_add_mul_ediv x (4294967296 ^ (n + 1))
 have h2 := Int.emod_add_mul_ediv x 4294967296
 have h3 := Int.emod_add_mul_ediv (x / 4294967296) (4294967296 ^ n)
 rw [ediv_powB', powB_succ] at h1
 rw [powB_succ]
 generalize x / 4294967296 / 4294967296 ^ n = a at *
 generalize x / 4294967296 % 4294967296 ^ n = b at *
 generalize x / 4294967296 = c at *
 have e : 4294967296 ^ n * 4294967296 * a = 4294967296 * (4294967296 ^ n * a) := by rw [Int.mul_comm (4294967296 ^ n) 4294967296, Int.mul_assoc]
 rw [e] at h1
 generalize (4294967296 : Int) ^ n * a = d at *
 omega
theorem wordsK_val : ∀ (n : Nat) (x : Int), val (wordsK n x) = x % 4294967296 ^ n
 | 0, x => by rw [Int.pow_zero, Int.emod_one]; rfl
 | n + 1, x => by rw [wordsK, val, wordsK_val n, emod_powB]
theorem wordsK_succ : ∀ (n : Nat) (x : Int), wordsK (n + 1) x = wordsK n x ++ [x / 4294967296 ^ n % 4294967296]
 | 0, x => by rw [Int.pow_zero, Int.ediv_one]; rfl
 | n + 1, x => by
  rw [wordsK, wordsK_succ n, wordsK, ediv_powB']
  rfl
theorem wordsK_mod : ∀ (n : Nat) (x y : Int), x % 4294967296 ^ n = y % 4294967296 ^ n → wordsK n x = wordsK n y
 | 0, _, _, _ => rfl
 | n + 1, x, y, h => by
  rw [emod_powB, emod_powB] at h
  rw [wordsK, wordsK, wordsK_mod n (x / 4294967296) (y / 4294967296) (by omega), show x % 4294967296 = y % 4294967296 by omega]
theorem wordsK_add (n : Nat) (x y : Int) : wordsK n (x + y * 4294967296 ^ n) = wordsK n x := wordsK_mod n _ _ (Int.add_mul_emod_self_right _ _ _)
theorem wordsK_self : ∀ {ws : List Int}, rng ws → wordsK ws.length (val ws) = ws
 | [], _ => rfl
 | w :: ws, h => by
  let ⟨h1, h2⟩ := rng_cons.1 h
  rw [List.length_cons, wordsK, val]
  rw [show (w + 4294967296 * val ws) % 4294967296 = w by omega, show (w + 4294967296 * val ws) / 4294967296 = val ws by omega, wordsK_self h2]
def wput (U : List Int) (j : Nat) (ws : List Int) : List Int := U.take j ++ (ws ++ U.drop (j + ws.length))
theorem wput_nil (U : List Int) (j : Nat) : wput U j [] = U := by simp [wput]
theorem wput_len {U : List Int} {j : Nat} {ws : List Int} (h : j + ws.length ≤ U.length) : (wput U j ws).length = U.length := by simp [wput]; omega
theorem wput_get {U : List Int} {j : Nat} {ws : List Int} (h : j + ws.length ≤ U.length) : (wput U j ws).getD (j + ws.length) 0 = U.getD (j + ws.length) 0 := by
 unfold wput
 have hj : (U.take j).length = j := by simp; omega
 rw [List.getD_eq_getElem?_getD, List.getElem?_append_right (by omega), hj, List.getElem?_append_right (by omega), List.getElem?_drop, List.getD_eq_getElem?_getD]
 congr 2
 omega
theorem wput_set {U : List Int} {j : Nat} {ws : List Int} (w : Int) (h : j + ws.length < U.length) : (wput U j ws).set (j + ws.length) w = wput U j (ws ++ [w]) := by
 unfold wput
 have hj : (U.take j).length = j := by simp; omega
 rw [List.set_append_right _ _ (by omega), hj, List.set_append_right _ _ (by omega), show j + ws.length - j - ws.length = 0 by omega]
 rw [List.drop_eq_getElem_cons h, List.set_cons_zero, List.append_assoc, List.length_append]
 rfl
theorem wput_rng {U : List Int} {j : Nat} {ws : List Int} (h : rng U) (hw : rng ws) : rng (wput U j ws) := rng_append (rng_take h _) (rng_append hw (rng_drop h _))
theorem wput_drop {U : List Int} {j : Nat} {ws : List Int} (h : j + ws.length ≤ U.length) : (wput U j ws).drop j = ws ++ U.drop (j + ws.length) := by
 unfold wput
 have hj : (U.take j).length = j := by simp; omega
 rw [List.drop_append_of_le_length (by omega), List.drop_eq_nil_of_le (by omega), List.nil_append]
theorem wput_take {U : List Int} {j : Nat} {ws : List Int} (h : j + ws.length ≤ U.length) : (wput U j ws).take j = U.take j := by
 unfold wput
 have hj : (U.take j).length = j := by simp; omega
 rw [List.take_append_of_le_length (by omega), List.take_of_length_le (by omega)]
theorem getD_drop (U : List Int) (j i : Nat) : (U.drop j).getD i 0 = U.getD (j + i) 0 := by
 rw [List.getD_eq_getElem?_getD, List.getElem?_drop, List.getD_eq_getElem?_getD]
theorem ls_step (U v : List Int) (j i : Nat) (q : Int) {D c b : Int} (hD : D = val ((U.drop j).take i) - q * val (v.take i)) (hb : D / 4294967296 ^ i = -(c + b)) :
  (let p := q * v.getD i 0 + c
   let t := 4294967296 + U.getD (j + i) 0 - p % 4294967296 - b
   let D' := val ((U.drop j).take (i + 1)) - q * val (v.take (i + 1))
   wordsK (i + 1) D' = wordsK i D ++ [t % 4294967296] ∧ D' / 4294967296 ^ (i + 1) = -(p / 4294967296 + (1 - t / 4294967296))) := by
 intro p t D'
 have hd : D' = D + (U.getD (j + i) 0 - q * v.getD i 0) * 4294967296 ^ i := by
  show val ((U.drop j).take (i + 1)) - q * val (v.take (i + 1)) = _
  rw [val_take_succ', val_take_succ', getD_drop, hD, Int.mul_add, Int.sub_mul, Int.mul_assoc]
  omega
 have he : D' / 4294967296 ^ i = -(c + b) + (U.getD (j + i) 0 - q * v.getD i 0) := by
  rw [hd, Int.add_mul_ediv_right _ _ (by have := powB_pos i; omega), hb]
 have hp : p = q * v.getD i 0 + c := rfl
 have ht : t = 4294967296 + U.getD (j + i) 0 - p % 4294967296 - b := rfl
 clear_value p t
 refine ⟨?_, ?_⟩
 ·rw [wordsK_succ, hd, wordsK_add, ← hd, he]
  congr 2
  omega
 ·rw [ediv_powB, he]
  omega
theorem ad_step (U v : List Int) (j i : Nat) {D c : Int} (hD : D = val ((U.drop j).take i) + val (v.take i)) (hb : D / 4294967296 ^ i = c) :
  (let t := U.getD (j + i) 0 + v.getD i 0 + c
   let D' := val ((U.drop j).take (i + 1)) + val (v.take (i + 1))
   wordsK (i + 1) D' = wordsK i D ++ [t % 4294967296] ∧ D' / 4294967296 ^ (i + 1) = t / 4294967296) := by
 intro t D'
 have hd : D' = D + (U.getD (j + i) 0 + v.getD i 0) * 4294967296 ^ i := by
  show val ((U.drop j).take (i + 1)) + val (v.take (i + 1)) = _
  rw [val_take_succ', val_take_succ', getD_drop, hD, Int.add_mul]
  omega
 have he : D' / 4294967296 ^ i = c + (U.getD (j + i) 0 + v.getD i 0) := by
  rw [hd, Int.add_mul_ediv_right _ _ (by have := powB_pos i; omega), hb]
 have ht : t = U.getD (j + i) 0 + v.getD i 0 + c := rfl
 clear_value t
 refine ⟨?_, ?_⟩
 ·rw [wordsK_succ, hd, wordsK_add, ← hd, he]
  congr 2
  omega
 ·rw [ediv_powB, he]
  omega
end Go.El

namespace Go.El
open Go Go.Proofs
theorem ls_carry {v : List Int} (hv : rng v) {q : Int} (hq0 : 0 ≤ q) (hq : q < 4294967296) (i : Nat) : 0 ≤ q * val (v.take i) / 4294967296 ^ i ∧ q * val (v.take i) / 4294967296 ^ i < 4294967296 := by
 have h1 := val_nonneg (rng_take hv i)
 have h2 := val_lt (rng_take hv i)
 have h3 := powB_le (m := (v.take i).length) (n := i) (by simp; omega)
 have h4 := powB_pos i
 have h5 : 0 ≤ q * val (v.take i) := Int.mul_nonneg hq0 h1
 refine ⟨Int.ediv_nonneg h5 (by omega), Int.ediv_lt_of_lt_mul h4 ?_⟩
 have h6 : q * val (v.take i) ≤ 4294967296 * val (v.take i) := Int.mul_le_mul_of_nonneg_right (by omega) h1
 have h7 : 4294967296 * val (v.take i) < 4294967296 * 4294967296 ^ i := Int.mul_lt_mul_of_pos_left (by omega) (by decide)
 omega
theorem ls_carry_next {v : List Int} {q c : Int} (i : Nat) (hc : c = q * val (v.take i) / 4294967296 ^ i) : q * val (v.take (i + 1)) / 4294967296 ^ (i + 1) = (q * v.getD i 0 + c) / 4294967296 := by
 rw [ediv_powB, val_take_succ', Int.mul_add, ← Int.mul_assoc, Int.add_mul_ediv_right _ _ (by have := powB_pos i; omega), hc, Int.add_comm]
theorem ls_carry_end {v : List Int} (hv : rng v) {q : Int} (hq0 : 0 ≤ q) (hq : q < 4294967296) {L : Nat} (hL : v.length < L) : q * val (v.take L) / 4294967296 ^ L = 0 := by
 rw [val_take_ge v L (by omega)]
 have h1 := val_nonneg hv
 have h2 := val_lt hv
 have h3 := powB_le (m := v.length) (n := L - 1) (by omega)
 have h4 : (4294967296 : Int) ^ L = 4294967296 ^ (L - 1) * 4294967296 := by rw [← powB_succ]; congr 1; omega
 have h6 : q * val v ≤ 4294967296 * val v := Int.mul_le_mul_of_nonneg_right (by omega) h1
 exact Int.ediv_eq_zero_of_lt (Int.mul_nonneg hq0 h1) (by rw [h4]; omega)
set_option maxHeartbeats 4000000 in
theorem rlessen_s (U v : List Int) (j L : Nat) (q : Int) (hU : rng U) (hv : rng v) (hj : j + L ≤ U.length) (hL : v.length < L) (hq0 : 0 ≤ q) (hq : q < 4294967296) (hl : U.length ≤ 1099511627777) :
  FnM Tryz.prog 209 [.c (.W 0 j L), cS U32 v, cU q] 132 U32 U (cB (decide (val ((U.drop j).take L) - q * val v < 0))) (wput U j (wordsK L (val ((U.drop j).take L) - q * val v))) := by
 refine fm_intro Tryz.func209 rfl rfl rfl rfl rfl (by decide) ?_
 refine rr rfl (rr rfl (rr rfl (tr_seq (rr rfl ?_))))
 refine tr_block (tr_loop (α := Nat × Int × Int) (fun x => ⟨[(0, .c (.W 0 j L)), (1, cS U32 v), (2, cU q), (7, cU x.2.1), (8, cU x.2.2), (9, cI x.1)], [(0, .vec 132 U32 (wput U j (wordsK x.1 (val ((U.drop j).take x.1) - q * val (v.take x.1)))))], 5, []⟩) (fun x => x.1 ≤ L ∧ (val ((U.drop j).take x.1) - q * val (v.take x.1)) / 4294967296 ^ x.1 = -(x.2.1 + x.2.2) ∧ x.2.1 = q * val (v.take x.1) / 4294967296 ^ x.1 ∧ (x.2.2 = 0 ∨ x.2.2 = 1)) (fun x => L - x.1) (0, 0, 0) ⟨Nat.zero_le _, by simp [val], by simp [val], .inl rfl⟩ (wk (wkSr rfl) ⟨bE rfl ?_, trivial⟩) ?_)
 ·exact congrArg (Blk.vec 132 U32) (wput_nil U j).symm
 rintro ⟨i, c, b⟩ ⟨h1, h2, h3, h4⟩
 simp only at h1 h2 h3 h4
 have hc := ls_carry hv hq0 hq i
 rw [← h3] at hc
 refine tr_seq (rr rfl ?_)
 refine tr_cond rfl (fun h => ?_) (fun h => ?_)
 ·have h : i < L := by simpa using h
  have gv := rng_get hv i
  have gu := rng_get hU (j + i)
  have hm : 0 ≤ q * v.getD i 0 ∧ q * v.getD i 0 ≤ 18446744065119617025 := mul_lt_sq hq0 (by omega) gv.1 (by omega)
  have hst := ls_step U v j i q (c := c) (b := b) rfl h2
  have hcn := ls_carry_next (v := v) (q := q) i h3
  simp only at hst
  let ⟨s1, s2⟩ := hst
  have hlen : (wordsK i (val ((U.drop j).take i) - q * val (v.take i))).length = i := wordsK_len _ _
  have hwl := wput_len (U := U) (j := j) (ws := wordsK i (val ((U.drop j).take i) - q * val (v.take i))) (by omega)
  have hwg := wput_get (U := U) (j := j) (ws := wordsK i (val ((U.drop j).take i) - q * val (v.take i))) (by omega)
  have hws := fun w => wput_set (U := U) (j := j) (ws := wordsK i (val ((U.drop j).take i) - q * val (v.take i))) w (by omega)
  rw [hlen] at hwg hws
  refine skT (tr_seq (tr_block (rbc rfl rfl (rword_s v i hv) rfl ?_)))
  have w1 : IntKind.wrap .u64 (IntKind.wrap .u64 (q * v.getD i 0) + c) = q * v.getD i 0 + c := by rw [wrap_u64 (q * v.getD i 0) (by omega) (by omega), wrap_u64 _ (by omega) (by omega)]
  generalize hp : q * v.getD i 0 + c = p at *
  have hp0 : 0 ≤ p ∧ p < 18446744073709551616 := by omega
  refine tr_wk (st' := ⟨[(0, .c (.W 0 j L)), (1, cS U32 v), (2, cU q), (8, cU b), (9, cI i), (10, cU p)], [(0, .vec 132 U32 (wput U j (wordsK i (val ((U.drop j).take i) - q * val (v.take i)))))], 7, []⟩) (wk ⟨sR rfl, sR rfl, sR rfl, sR rfl, sR rfl, ⟨_, rfl, AVle.of_eq (cgU w1)⟩, trivial⟩ ⟨bR rfl, trivial⟩) ?_
  generalize hX : wput U j (wordsK i (val ((U.drop j).take i) - q * val (v.take i))) = X at *
  refine rr rfl (rr rfl (hp := by simp only [Pr.an, Pr.h, num, i64r, true_and, and_true]; omega) ?_)
  have ei : (i : Int).toNat = i := Int.toNat_natCast i
  have w2 : IntKind.wrap .u64 (p.tdiv 4294967296) = p / 4294967296 := by rw [tdiv_pos' hp0.1, wrap_u64 _ (by omega) (by omega)]
  have w3 : IntKind.wrap .u64 (IntKind.wrap .u64 (IntKind.wrap .u64 (4294967296 + IntKind.wrap .u64 (X.getD (j + (i : Int).toNat) 0)) - p.tmod 4294967296) - b) = 4294967296 + U.getD (j + i) 0 - p % 4294967296 - b := by
   rw [ei, hwg, tmod_pos' hp0.1, wrap_u64 (U.getD (j + i) 0) (by omega) (by omega), wrap_u64 (4294967296 + _) (by omega) (by omega), wrap_u64 (_ - p % 4294967296) (by omega) (by omega), wrap_u64 _ (by omega) (by omega)]
  generalize ht : 4294967296 + U.getD (j + i) 0 - p % 4294967296 - b = t at *
  have ht0 : 0 ≤ t ∧ t < 8589934592 := by omega
  refine tr_wk (st' := ⟨[(0, .c (.W 0 j L)), (1, cS U32 v), (2, cU q), (7, cU (p / 4294967296)), (9, cI i), (11, cU t)], [(0, .vec 132 U32 X)], 9, []⟩) (wk ⟨sR rfl, sR rfl, sR rfl, ⟨_, rfl, AVle.of_eq (cgU w2)⟩, sR rfl, ⟨_, rfl, AVle.of_eq (cgU w3)⟩, trivial⟩ ⟨bR rfl, trivial⟩) ?_
  refine rr rfl (hp := by simp only [Pr.an, Pr.h, num, i64r, true_and, and_true]; omega) (rt rfl ?_)
  refine bkT (rt rfl (at_loop (i + 1, p / 4294967296, 1 - t / 4294967296) ⟨h, s2, hcn.symm, by show 1 - t / 4294967296 = 0 ∨ 1 - t / 4294967296 = 1; omega⟩ (by show L - (i + 1) < L - i; omega) (wk ⟨sR rfl, sR rfl, sR rfl, sR rfl, sE rfl ?_, sE rfl ?_, trivial⟩ ⟨bE rfl ?_, trivial⟩)))
  ·refine cgU ?_
   show IntKind.wrap .u64 (1 - IntKind.wrap .u64 (t.tdiv 4294967296)) = 1 - t / 4294967296
   rw [tdiv_pos' ht0.1, wrap_u64 (t / 4294967296) (by omega) (by omega), wrap_u64 _ (by omega) (by omega)]
  ·exact congrArg cI (by omega)
  ·refine congrArg (Blk.vec 132 U32) ?_
   show X.set (j + (i : Int).toNat) (IntKind.wrap .u32 (t.tmod 4294967296)) = wput U j (wordsK (i + 1) _)
   rw [s1, ei, tmod_pos' ht0.1, wrap_u32 _ (by omega) (by omega), hws]
 ·have h : ¬ i < L := by simpa using h
  have e : i = L := by omega
  subst e
  rw [ls_carry_end hv hq0 hq hL] at h3
  rw [val_take_ge v i (by omega)] at h2 ⊢
  refine xlE (at_then (rr rfl (tr_ret (at_retM TT_ok rfl (AVle.of_eq ?_) rfl))))
  refine congrArg cB ?_
  show (b == 1) = _
  have hp := powB_pos i
  rcases h4 with h4 | h4
  ·subst h4 h3
   have : 0 ≤ val ((U.drop j).take i) - q * val v := by
    have h5 := Int.emod_add_mul_ediv (val ((U.drop j).take i) - q * val v) (4294967296 ^ i)
    have h6 := Int.emod_nonneg (val ((U.drop j).take i) - q * val v) (show (4294967296 : Int) ^ i ≠ 0 by omega)
    rw [h2] at h5
    simp at h5
    omega
   rw [decide_eq_false (by omega)]; rfl
  ·subst h4 h3
   have : val ((U.drop j).take i) - q * val v < 0 := by
    have h5 := Int.emod_add_mul_ediv (val ((U.drop j).take i) - q * val v) (4294967296 ^ i)
    have h6 := Int.emod_lt_of_pos (val ((U.drop j).take i) - q * val v) hp
    rw [h2] at h5
    simp at h5
    omega
   rw [decide_eq_true (by omega)]; rfl
set_option maxHeartbeats 4000000 in
theorem rrestore_s (U v : List Int) (j L : Nat) (hU : rng U) (hv : rng v) (hj : j + L ≤ U.length) (hL : v.length ≤ L) (hl : U.length ≤ 1099511627777) :
  FnM Tryz.prog 210 [.c (.W 0 j L), cS U32 v] 132 U32 U (.t []) (wput U j (wordsK L (val ((U.drop j).take L) + val v))) := by
 refine fm_intro Tryz.func210 rfl rfl rfl rfl rfl (by decide) ?_
 refine rr rfl (rr rfl ?_)
 refine tr_block (tr_loop (α := Nat × Int) (fun x => ⟨[(0, .c (.W 0 j L)), (1, cS U32 v), (4, cU x.2), (5, cI x.1)], [(0, .vec 132 U32 (wput U j (wordsK x.1 (val ((U.drop j).take x.1) + val (v.take x.1)))))], 3, []⟩) (fun x => x.1 ≤ L ∧ (val ((U.drop j).take x.1) + val (v.take x.1)) / 4294967296 ^ x.1 = x.2 ∧ (x.2 = 0 ∨ x.2 = 1)) (fun x => L - x.1) (0, 0) ⟨Nat.zero_le _, by simp [val], .inl rfl⟩ (wk (wkSr rfl) ⟨bE rfl ?_, trivial⟩) ?_)
 ·exact congrArg (Blk.vec 132 U32) (wput_nil U j).symm
 rintro ⟨i, c⟩ ⟨h1, h2, h4⟩
 simp only at h1 h2 h4
 refine tr_seq (rr rfl ?_)
 refine tr_cond rfl (fun h => ?_) (fun h => ?_)
 ·have h : i < L := by simpa using h
  have gv := rng_get hv i
  have gu := rng_get hU (j + i)
  have hst := ad_step U v j i (c := c) rfl h2
  simp only at hst
  let ⟨s1, s2⟩ := hst
  have hlen : (wordsK i (val ((U.drop j).take i) + val (v.take i))).length = i := wordsK_len _ _
  have hwl := wput_len (U := U) (j := j) (ws := wordsK i (val ((U.drop j).take i) + val (v.take i))) (by omega)
  have hwg := wput_get (U := U) (j := j) (ws := wordsK i (val ((U.drop j).take i) + val (v.take i))) (by omega)
  have hws := fun w => wput_set (U := U) (j := j) (ws := wordsK i (val ((U.drop j).take i) + val (v.take i))) w (by omega)
  rw [hlen] at hwg hws
  generalize hX : wput U j (wordsK i (val ((U.drop j).take i) + val (v.take i))) = X at *
  have ei : (i : Int).toNat = i := Int.toNat_natCast i
  refine skT (tr_seq (tr_block (rb (rc rfl rfl (rword_s v i hv) (hp := by simp only [Pr.an, Pr.h, num, i64r, true_and, and_true]; omega) (re rfl ?_)))))
  have w1 : IntKind.wrap .u64 (IntKind.wrap .u64 (IntKind.wrap .u64 (X.getD (j + (i : Int).toNat) 0) + v.getD i 0) + c) = U.getD (j + i) 0 + v.getD i 0 + c := by
   rw [ei, hwg, wrap_u64 (U.getD (j + i) 0) (by omega) (by omega), wrap_u64 (_ + v.getD i 0) (by omega) (by omega), wrap_u64 _ (by omega) (by omega)]
  generalize ht : U.getD (j + i) 0 + v.getD i 0 + c = t at *
  have ht0 : 0 ≤ t ∧ t < 8589934592 := by omega
  refine tr_wk (st' := ⟨[(0, .c (.W 0 j L)), (1, cS U32 v), (5, cI i), (6, cU t)], [(0, .vec 132 U32 X)], 5, []⟩) (wk ⟨sR rfl, sR rfl, sR rfl, ⟨_, rfl, AVle.of_eq (cgU w1)⟩, trivial⟩ ⟨bR rfl, trivial⟩) ?_
  refine rr rfl (hp := by simp only [Pr.an, Pr.h, num, i64r, true_and, and_true]; omega) (rt rfl ?_)
  refine bkT (rt rfl (at_loop (i + 1, t / 4294967296) ⟨h, s2, by show t / 4294967296 = 0 ∨ t / 4294967296 = 1; omega⟩ (by show L - (i + 1) < L - i; omega) (wk ⟨sR rfl, sR rfl, sE rfl ?_, sE rfl ?_, trivial⟩ ⟨bE rfl ?_, trivial⟩)))
  ·refine cgU ?_
   show IntKind.wrap .u64 (t.tdiv 4294967296) = t / 4294967296
   rw [tdiv_pos' ht0.1, wrap_u64 (t / 4294967296) (by omega) (by omega)]
  ·exact congrArg cI (by omega)
  ·refine congrArg (Blk.vec 132 U32) ?_
   show X.set (j + (i : Int).toNat) (IntKind.wrap .u32 (t.tmod 4294967296)) = wput U j (wordsK (i + 1) _)
   rw [s1, ei, tmod_pos' ht0.1, wrap_u32 _ (by omega) (by omega), hws]
 ·have h : ¬ i < L := by simpa using h
  have e : i = L := by omega
  subst e
  rw [val_take_ge v i (by omega)]
  exact xlE (at_endM TT_ok rfl (AVle.refl _) rfl)
end Go.El

namespace Go.El
theorem val_top2 {v : List Int} {n : Nat} (h : v.length = n + 2) : val v = (v.getD (n + 1) 0 * 4294967296 + v.getD n 0) * 4294967296 ^ n + val (v.take n) := by
 have h1 := val_take_succ' v n
 have h2 := val_take_succ' v (n + 1)
 rw [val_take_ge v (n + 1 + 1) (by omega), powB_succ] at h2
 rw [h2, h1, Int.add_mul]
 have e : v.getD (n + 1) 0 * (4294967296 ^ n * 4294967296) = v.getD (n + 1) 0 * 4294967296 * 4294967296 ^ n := by rw [Int.mul_comm (4294967296 ^ n), Int.mul_assoc]
 rw [e]
 omega
theorem val_top3 (U : List Int) (j n : Nat) : val ((U.drop j).take (n + 3)) = ((U.getD (j + (n + 2)) 0 * 4294967296 + U.getD (j + (n + 1)) 0) * 4294967296 + U.getD (j + n) 0) * 4294967296 ^ n + val ((U.drop j).take n) := by
 have h1 := val_take_succ' (U.drop j) n
 have h2 := val_take_succ' (U.drop j) (n + 1)
 have h3 := val_take_succ' (U.drop j) (n + 2)
 rw [getD_drop] at h1 h2 h3
 rw [powB_succ] at h2
 rw [powB_succ (n + 1), powB_succ] at h3
 rw [show n + 3 = n + 2 + 1 from rfl, h3, h2, h1]
 generalize (4294967296 : Int) ^ n = M
 generalize U.getD (j + (n + 2)) 0 = a
 generalize U.getD (j + (n + 1)) 0 = b
 generalize U.getD (j + n) 0 = c
 grind
theorem kn1_of {U v : List Int} {j n : Nat} (hU : rng U) (hv : rng v) (hn : v.length = n + 2) (hj : j + n + 3 ≤ U.length) (htop : 2147483648 ≤ v.getD (n + 1) 0) (hlt : val ((U.drop j).take (n + 3)) < val v * 4294967296) :
  Kn1 (4294967296 ^ n) (v.getD (n + 1) 0) (v.getD n 0) (val (v.take n)) (val v) (U.getD (j + (n + 2)) 0 * 4294967296 + U.getD (j + (n + 1)) 0) (U.getD (j + n) 0) (val ((U.drop j).take n)) (val ((U.drop j).take (n + 3))) := by
 have a1 := rng_get hv (n + 1)
 have a2 := rng_get hv n
 have b1 := rng_get hU (j + (n + 2))
 have b2 := rng_get hU (j + (n + 1))
 have b3 := rng_get hU (j + n)
 have l1 := val_lt (rng_take hv n)
 have l2 := val_lt (rng_take (rng_drop hU j) n)
 rw [show (v.take n).length = n by simp; omega] at l1
 rw [show ((U.drop j).take n).length = n by simp; omega] at l2
 exact ⟨powB_pos n, htop, a1.2, a2.1, a2.2, val_nonneg (rng_take hv n), l1, by omega, b3.1, b3.2, val_nonneg (rng_take (rng_drop hU j) n), l2, val_top2 hn, val_top3 U j n, hlt⟩
structure KdI (A v : Int) (lb M : Nat) (x : Nat × List Int × List Int) : Prop where
 k : x.1 ≤ M + 1
 ul : x.2.1.length = M + lb + 1
 ur : rng x.2.1
 ub : val (x.2.1.drop x.1) < v
 ql : x.2.2.length = M + 1
 qr : rng x.2.2
 qz : ∀ i, i < x.1 → x.2.2.getD i 0 = 0
 eq : A = val x.2.1 + v * val x.2.2
theorem val_split (U : List Int) (j : Nat) (h : j ≤ U.length) : val U = val (U.take j) + 4294967296 ^ j * val (U.drop j) := by
 have := val_append (U.take j) (U.drop j)
 rw [List.take_append_drop] at this
 rw [this]; congr 3; simp; omega
theorem val_zero_of_small {ws : List Int} (h : rng ws) (n : Nat) (hn : n ≤ ws.length) (hs : val ws < 4294967296 ^ n) : val (ws.drop n) = 0 := by
 have h1 := val_split ws n hn
 have h2 := val_nonneg (rng_take h n)
 have h3 := val_nonneg (rng_drop h n)
 by_cases e : val (ws.drop n) = 0
 ·exact e
 ·exfalso
  have : 4294967296 ^ n * 1 ≤ 4294967296 ^ n * val (ws.drop n) := Int.mul_le_mul_of_nonneg_left (by omega) (by have := powB_pos n; omega)
  omega
theorem KdI.win {A v : Int} {lb M j : Nat} {U Q : List Int} (h : KdI A v lb M (j + 1, U, Q)) (hv : v < 4294967296 ^ lb) : val (U.drop j) = val ((U.drop j).take (lb + 1)) ∧ val ((U.drop j).take (lb + 1)) < v * 4294967296 := by
 have hk : j + 1 ≤ M + 1 := h.k
 have hl : U.length = M + lb + 1 := h.ul
 have hr : rng U := h.ur
 have hb : val (U.drop (j + 1)) < v := h.ub
 have e1 : U.drop j = U.getD j 0 :: U.drop (j + 1) := by
  rw [List.drop_eq_getElem_cons (by omega)]
  simp [List.getD_eq_getElem?_getD, List.getElem?_eq_getElem (show j < U.length by omega)]
 have h0 : val ((U.drop (j + 1)).drop lb) = 0 := val_zero_of_small (rng_drop hr _) lb (by simp; omega) (by omega)
 have h1 : val (U.drop j) = val ((U.drop j).take (lb + 1)) := by
  have := val_split (U.drop j) (lb + 1) (by simp; omega)
  rw [List.drop_drop] at this
  rw [List.drop_drop] at h0
  rw [this, show j + (lb + 1) = j + 1 + lb by omega, h0]
  simp
 refine ⟨h1, ?_⟩
 rw [← h1, e1, val]
 have := rng_get hr j
 omega
theorem KdI.next {A v : Int} {lb M j : Nat} {U Q : List Int} (h : KdI A v lb M (j + 1, U, Q)) (hv0 : 0 < v) (hv : v < 4294967296 ^ lb) :
  KdI A v lb M (j, wput U j (wordsK (lb + 1) (val ((U.drop j).take (lb + 1)) % v)), Q.set j (val ((U.drop j).take (lb + 1)) / v)) := by
 let ⟨w1, w2⟩ := h.win hv
 have hk : j + 1 ≤ M + 1 := h.k
 have hl : U.length = M + lb + 1 := h.ul
 have hr : rng U := h.ur
 have hql : Q.length = M + 1 := h.ql
 have hqr : rng Q := h.qr
 have hqz : ∀ i, i < j + 1 → Q.getD i 0 = 0 := h.qz
 have heq : A = val U + v * val Q := h.eq
 have hu0 : 0 ≤ val ((U.drop j).take (lb + 1)) := val_nonneg (rng_take (rng_drop hr _) _)
 generalize hu : val ((U.drop j).take (lb + 1)) = u at *
 have m0 := Int.emod_nonneg u (show v ≠ 0 by omega)
 have m1 := Int.emod_lt_of_pos u hv0
 have d0 : 0 ≤ u / v := Int.ediv_nonneg hu0 (by omega)
 have d1 : u / v < 4294967296 := Int.ediv_lt_of_lt_mul hv0 (by rw [Int.mul_comm]; exact w2)
 have hdm := Int.emod_add_mul_ediv u v
 have hwl : (wordsK (lb + 1) (u % v)).length = lb + 1 := wordsK_len _ _
 have hfit : j + (wordsK (lb + 1) (u % v)).length ≤ U.length := by omega
 have hlt : u % v < 4294967296 ^ (lb + 1) := by rw [powB_succ]; have := powB_pos lb; omega
 have h0 : val (U.drop (j + (lb + 1))) = 0 := by
  have := val_split (U.drop j) (lb + 1) (by simp; omega)
  rw [List.drop_drop, hu, w1] at this
  have hp := powB_pos (lb + 1)
  have h3 : 4294967296 ^ (lb + 1) * val (U.drop (j + (lb + 1))) = 0 := by omega
  rcases Int.mul_eq_zero.1 h3 with e | e
  ·omega
  ·exact e
 have hvw : val ((wput U j (wordsK (lb + 1) (u % v))).drop j) = u % v := by
  rw [wput_drop hfit, val_append, wordsK_val, Int.emod_eq_of_lt m0 hlt, hwl, h0]; simp
 refine ⟨by show j ≤ M + 1; omega, by show (wput _ _ _).length = _; rw [wput_len hfit]; exact hl, wput_rng hr (wordsK_rng _ _), by show val ((wput U j _).drop j) < v; rw [hvw]; exact m1, by show (Q.set _ _).length = _; simp [hql], rng_set hqr _ ⟨d0, d1⟩, ?_, ?_⟩
 ·intro i hi
  show (Q.set j _).getD i 0 = 0
  rw [List.getD_eq_getElem?_getD, List.getElem?_set_ne (by omega), ← List.getD_eq_getElem?_getD]
  exact hqz i (by omega)
 ·show A = val (wput U j _) + v * val (Q.set j _)
  rw [val_set Q j _ (by omega), hqz j (by omega), val_split (wput U j _) j (by rw [wput_len hfit]; omega), wput_take hfit, hvw, heq, val_split U j (by omega), w1]
  have e1 : v * (val Q + (u / v - 0) * 4294967296 ^ j) = v * val Q + 4294967296 ^ j * (v * (u / v)) := by
   generalize u / v = x
   generalize (4294967296 : Int) ^ j = y
   grind
  have e2 : 4294967296 ^ j * u = 4294967296 ^ j * (u % v) + 4294967296 ^ j * (v * (u / v)) := by rw [← Int.mul_add, hdm]
  rw [e1, e2]
  omega
theorem KdI.fin {A v : Int} {lb M : Nat} {U Q : List Int} (h : KdI A v lb M (0, U, Q)) : val Q = A / v ∧ val U = A % v := by
 have hb : val U < v := h.ub
 have hu := val_nonneg h.ur
 have heq : A = val U + v * val Q := h.eq
 simp only at hu
 have hv : 0 < v := by omega
 rw [heq, Int.add_mul_ediv_left _ _ (by omega), Int.ediv_eq_zero_of_lt hu hb, Int.add_mul_emod_self_left, Int.emod_eq_of_lt hu hb]
 exact ⟨by omega, rfl⟩
theorem norm_top {b1 : Int} (h1 : 1 ≤ b1) (h2 : b1 < 4294967296) : 2147483648 ≤ b1 * (4294967296 / (b1 + 1)) := by
 have hd := Int.emod_add_mul_ediv 4294967296 (b1 + 1)
 have hm := Int.emod_lt_of_pos 4294967296 (show 0 < b1 + 1 by omega)
 generalize 4294967296 / (b1 + 1) = d at *
 generalize (4294967296 : Int) % (b1 + 1) = r at *
 by_cases hb : 2147483648 ≤ b1
 ·have hd1 : 1 ≤ d := by
   by_cases e : 1 ≤ d
   ·exact e
   ·have : (b1 + 1) * d ≤ (b1 + 1) * 0 := Int.mul_le_mul_of_nonneg_left (by omega) (by omega)
    omega
  have : b1 * 1 ≤ b1 * d := Int.mul_le_mul_of_nonneg_left hd1 (by omega)
  omega
 ·have key : 0 ≤ (b1 - 1) * (4294967296 - 2 * b1 - 2) := Int.mul_nonneg (by omega) (by omega)
  have e1 : (b1 - 1) * (4294967296 - 2 * b1 - 2) = b1 * 4294967296 - 2 * (b1 * b1) - 4294967296 + 2 := by grind
  have e2 : (b1 + 1) * (b1 * d) = b1 * (4294967296 - r) := by
   rw [show (b1 + 1) * (b1 * d) = b1 * ((b1 + 1) * d) by grind]
   congr 1; omega
  have e3 : b1 * (4294967296 - b1) ≤ b1 * (4294967296 - r) := Int.mul_le_mul_of_nonneg_left (by omega) (by omega)
  have e4 : b1 * (4294967296 - b1) = b1 * 4294967296 - b1 * b1 := by rw [Int.mul_sub]
  by_cases e : 2147483648 ≤ b1 * d
  ·exact e
  ·exfalso
   have : (b1 + 1) * (b1 * d) ≤ (b1 + 1) * 2147483647 := Int.mul_le_mul_of_nonneg_left (by omega) (by omega)
   omega
end Go.El

namespace Go.El
open Go Go.Proofs
theorem rWhole_s (n : Int) (h0 : -9223372036854775808 ≤ n) (h1 : n ≤ 9223372036854775807) : FnS Tryz.prog 40 [cI n] (aQ (n : Rat)) := by
 refine fsI Tryz.func40 ?_
 refine rr rfl (rb (rc rfl rfl (rOf_s n h0 h1) (rc rfl rfl (rOf_s 1 (by decide) (by decide)) (re rfl (rtE rfl ?_)))))
 rfl
theorem rQSign_s (q : Rat) : FnS Tryz.prog 82 [aQ q] (cI (sgn q.num)) := by
 refine fsI Tryz.func82 ?_
 refine rr rfl (rbc rfl rfl (rSign_s q.num) rfl (rtR rfl))
theorem divInt_parts (n d : Int) (hd : d ≠ 0) : (Rat.divInt n d).num = n / (if d < 0 then -((Int.gcd n d : Nat) : Int) else ((Int.gcd n d : Nat) : Int)) ∧ ((Rat.divInt n d).den : Int) = d / (if d < 0 then -((Int.gcd n d : Nat) : Int) else ((Int.gcd n d : Nat) : Int)) := by
 have hgd : ((Int.gcd n d : Nat) : Int) ∣ n := Int.gcd_dvd_left ..
 have hgd2 : ((Int.gcd n d : Nat) : Int) ∣ d := Int.gcd_dvd_right ..
 have hg0 : Int.gcd n d ≠ 0 := by
  intro h0
  have := (Int.gcd_eq_zero_iff.1 h0).2
  exact hd this
 rw [Rat.num_divInt, Rat.den_divInt, if_neg hd, Int.gcd_comm d n]
 by_cases h : d < 0
 ·rw [if_pos h, Int.sign_eq_neg_one_of_neg h, Int.ediv_neg, Int.ediv_neg]
  refine ⟨?_, ?_⟩
  ·rw [Int.neg_mul, Int.one_mul, Int.neg_ediv_of_dvd hgd]
  ·rw [Int.natCast_ediv, show ((d.natAbs : Nat) : Int) = -d by omega, Int.neg_ediv_of_dvd hgd2]
 ·rw [if_neg h, Int.sign_eq_one_of_pos (by omega), Int.one_mul]
  refine ⟨rfl, ?_⟩
  rw [Int.natCast_ediv, show ((d.natAbs : Nat) : Int) = d by omega]
theorem norm_ok {k n : Nat} (hn : (wordsN k).length = n + 2) {b1 : Int} (eb : b1 = (wordsN k).getD (n + 1) 0) {d : Nat} (ed : (d : Int) = 4294967296 / (b1 + 1)) :
  1 ≤ b1 ∧ b1 < 4294967296 ∧ 1 ≤ d ∧ d < 4294967296 ∧ ((k * d : Nat) : Int) < 4294967296 ^ (n + 2) ∧ (wordsN (k * d)).length = n + 2 ∧ 2147483648 ≤ (wordsN (k * d)).getD (n + 1) 0 := by
 have hr := rng_get (rng_words k) (n + 1)
 have hc := words_can k
 have b0 : b1 ≠ 0 := by
  rcases hc with e | e
  ·rw [e] at hn; simp at hn
  ·rw [hn] at e; rw [eb]; exact e
 rw [← eb] at hr
 have hd := Int.emod_add_mul_ediv 4294967296 (b1 + 1)
 have hm0 := Int.emod_nonneg 4294967296 (show b1 + 1 ≠ 0 by omega)
 have hm := Int.emod_lt_of_pos 4294967296 (show 0 < b1 + 1 by omega)
 have ht := norm_top (b1 := b1) (by omega) hr.2
 rw [← ed] at hd ht
 have d1 : (1 : Int) ≤ d := by
  by_cases e : (1 : Int) ≤ d
  ·exact e
  ·have : (d : Int) = 0 := by omega
   rw [this] at ht
   simp at ht
 have d2 : (d : Int) < 4294967296 := by
  have : 2 * (d : Int) ≤ (b1 + 1) * d := Int.mul_le_mul_of_nonneg_right (by omega) (by omega)
  omega
 have hv := val_top2 hn
 rw [val_words, ← eb] at hv
 have l1 := val_lt (rng_take (rng_words k) n)
 rw [show ((wordsN k).take n).length = n by simp; omega] at l1
 have l0 := val_nonneg (rng_take (rng_words k) n)
 have hr2 := rng_get (rng_words k) n
 have hp := powB_pos n
 generalize (wordsN k).getD n 0 = b2 at *
 generalize val ((wordsN k).take n) = b' at *
 have hM : (4294967296 : Int) ^ (n + 1) = 4294967296 ^ n * 4294967296 := powB_succ n
 have k1 : b1 * 4294967296 ^ (n + 1) ≤ (k : Int) := by
  have : (b1 * 4294967296) * 4294967296 ^ n ≤ (b1 * 4294967296 + b2) * 4294967296 ^ n := Int.mul_le_mul_of_nonneg_right (by omega) (by omega)
  rw [hM, show b1 * (4294967296 ^ n * 4294967296) = b1 * 4294967296 * 4294967296 ^ n by rw [Int.mul_comm (4294967296 ^ n), Int.mul_assoc]]
  omega
 have k2 : (k : Int) < (b1 + 1) * 4294967296 ^ (n + 1) := by
  have h1 : (b1 * 4294967296 + b2 + 1) * 4294967296 ^ n ≤ (b1 * 4294967296 + 4294967296) * 4294967296 ^ n := Int.mul_le_mul_of_nonneg_right (by omega) (by omega)
  have h2 : (b1 * 4294967296 + b2 + 1) * 4294967296 ^ n = (b1 * 4294967296 + b2) * 4294967296 ^ n + 4294967296 ^ n := by rw [Int.add_mul _ 1, Int.one_mul]
  have h3 : (b1 * 4294967296 + 4294967296) * 4294967296 ^ n = (b1 + 1) * (4294967296 ^ n * 4294967296) := by
   generalize (4294967296 : Int) ^ n = y
   grind
  rw [hM, ← h3]
  omega
 have kd : ((k * d : Nat) : Int) < 4294967296 ^ (n + 2) := by
  rw [Int.natCast_mul, powB_succ]
  have h1 : (k : Int) * d < (b1 + 1) * 4294967296 ^ (n + 1) * d := Int.mul_lt_mul_of_pos_right k2 (by omega)
  have h2 : (b1 + 1) * 4294967296 ^ (n + 1) * d = 4294967296 ^ (n + 1) * ((b1 + 1) * d) := by
   generalize (4294967296 : Int) ^ (n + 1) = y
   grind
  have h3 : 4294967296 ^ (n + 1) * ((b1 + 1) * d) ≤ 4294967296 ^ (n + 1) * 4294967296 := Int.mul_le_mul_of_nonneg_left (by omega) (by omega)
  omega
 have hl : (wordsN (k * d)).length = n + 2 := by
  have h1 : (wordsN (k * d)).length ≤ n + 2 := words_len_le kd
  have h2 := words_len_mono (m := k) (k := k * d) (Nat.le_mul_of_pos_right _ (by omega))
  omega
 refine ⟨by omega, hr.2, by omega, by omega, kd, hl, ?_⟩
 have hv2 := val_top2 hl
 have l2 := val_lt (rng_take (rng_words (k * d)) n)
 rw [show ((wordsN (k * d)).take n).length = n by simp; omega] at l2
 have hr3 := rng_get (rng_words (k * d)) n
 have hr4 := rng_get (rng_words (k * d)) (n + 1)
 rw [val_words, Int.natCast_mul] at hv2
 generalize (wordsN (k * d)).getD n 0 = c2 at *
 generalize (wordsN (k * d)).getD (n + 1) 0 = c1 at *
 generalize val ((wordsN (k * d)).take n) = c' at *
 by_cases e : 2147483648 ≤ c1
 ·exact e
 ·exfalso
  have h1 : (c1 * 4294967296 + c2 + 1) * 4294967296 ^ n ≤ (c1 * 4294967296 + 4294967296) * 4294967296 ^ n := Int.mul_le_mul_of_nonneg_right (by omega) (by omega)
  have h2 : (c1 * 4294967296 + c2 + 1) * 4294967296 ^ n = (c1 * 4294967296 + c2) * 4294967296 ^ n + 4294967296 ^ n := by rw [Int.add_mul _ 1, Int.one_mul]
  have h3 : (c1 * 4294967296 + 4294967296) * 4294967296 ^ n = (c1 + 1) * 4294967296 ^ (n + 1) := by
   rw [hM]
   generalize (4294967296 : Int) ^ n = y
   grind
  have h4 : b1 * 4294967296 ^ (n + 1) * d ≤ (k : Int) * d := Int.mul_le_mul_of_nonneg_right k1 (by omega)
  have h5 : (c1 + 1) * 4294967296 ^ (n + 1) ≤ b1 * d * 4294967296 ^ (n + 1) := Int.mul_le_mul_of_nonneg_right (by omega) (by omega)
  have h6 : b1 * 4294967296 ^ (n + 1) * d = b1 * d * 4294967296 ^ (n + 1) := by
   generalize (4294967296 : Int) ^ (n + 1) = y
   grind
  omega
theorem wput_wput {U : List Int} {j : Nat} {ws ws' : List Int} (h : j + ws.length ≤ U.length) (hl : ws'.length = ws.length) : wput (wput U j ws) j ws' = wput U j ws' := by
 unfold wput
 rw [show (U.take j ++ (ws ++ U.drop (j + ws.length))).take j = U.take j from wput_take h, hl]
 have hj : (U.take j).length = j := by simp; omega
 rw [List.drop_append, hj, List.drop_eq_nil_of_le (by omega), List.nil_append, show j + ws.length - j = ws.length by omega, List.drop_left']
 rfl
set_option maxHeartbeats 8000000 in
theorem rdividedL_s (m k n : Nat) (hn : (wordsN k).length = n + 2) (hmk : k ≤ m) (lm : (wordsN m).length ≤ 1099511627776) : FnS Tryz.prog 201 [cS U32 (wordsN m), cS U32 (wordsN k)] (.t [(false, [.S U32 (wordsN (m / k))]), (false, [.S U32 (wordsN (m % k))])]) := by
 refine fsI Tryz.func201 ?_
 generalize hb1 : (wordsN k).getD (n + 1) 0 = b1
 obtain ⟨d, hd⟩ : ∃ d : Nat, (d : Int) = 4294967296 / (b1 + 1) := ⟨(4294967296 / (b1 + 1)).toNat, Int.toNat_of_nonneg (Int.ediv_nonneg (by decide) (by have := rng_get (rng_words k) (n + 1); omega))⟩
 let ⟨f1, f2, f3, f4, f5, f6, f7⟩ := norm_ok hn hb1.symm hd
 have hk0 : 0 < k := by
  rcases Nat.eq_zero_or_pos k with e | e
  ·subst e; rw [wordsN_zero] at hn; simp at hn
  ·exact e
 have hla : n + 2 ≤ (wordsN m).length := by rw [← hn]; exact words_len_mono hmk
 obtain ⟨M, hM⟩ : ∃ M, (wordsN m).length = M + (n + 2) := ⟨(wordsN m).length - (n + 2), by omega⟩
 have hmd : ((m * d : Nat) : Int) < 4294967296 ^ (M + (n + 2) + 1) := by
  have h1 := words_len_lt (n := m)
  rw [hM] at h1
  rw [powB_succ, Int.natCast_mul]
  have := powB_pos (M + (n + 2))
  have h2 : (m : Int) * d ≤ (m : Int) * 4294967296 := Int.mul_le_mul_of_nonneg_left (by omega) (by omega)
  omega
 have hmdl : (wordsN (m * d)).length ≤ M + (n + 2) + 1 := words_len_le hmd
 have hcmp : ¬ cmpN (m : Int) (k : Int) < 0 := by
  unfold cmpN
  rw [if_neg (by omega)]
  split <;> decide
 refine rr rfl (tr_seq (rbc rfl rfl (rcompared_z m k) rfl (tr_cond rfl (fun h => absurd (by simpa using h) hcmp) (fun _ => skT ?_))))
 refine tr_seq (rr rfl (tr_cond rfl (fun h => ?_) (fun _ => skT ?_)))
 ·exfalso
  have h : ((wordsN k).length : Int) = 1 := by simpa using h
  omega
 have a2 : (((wordsN k).length : Int) - 1).toNat = n + 1 := by omega
 have x1 : IntKind.wrap .u64 (IntKind.wrap .u64 ((wordsN k).getD (((wordsN k).length : Int) - 1).toNat 0) + 1) = b1 + 1 := by rw [a2, hb1, wrap_u64 b1 (by omega) (by omega), wrap_u64 _ (by omega) (by omega)]
 have x2 : IntKind.wrap .u64 ((4294967296 : Int).tdiv (IntKind.wrap .u64 (IntKind.wrap .u64 ((wordsN k).getD (((wordsN k).length : Int) - 1).toNat 0) + 1))) = (d : Int) := by
  rw [x1, tdiv_pos' (by decide), ← hd, wrap_u64 _ (by omega) (by omega)]
 refine rr rfl (rr rfl (hp := by simp only [Pr.an, Pr.h, num, i64r, true_and, and_true]; rw [x1]; omega) ?_)
 refine tr_wk (st' := ⟨[(0, cS U32 (wordsN m)), (1, cS U32 (wordsN k)), (8, cI ((n + 2 : Nat) : Int)), (9, cU d)], [], 5, []⟩) (wk ⟨sR rfl, sR rfl, ⟨_, rfl, AVle.of_eq (congrArg (fun z : Nat => cI (z : Int)) hn)⟩, ⟨_, rfl, AVle.of_eq (cgU x2)⟩, trivial⟩ trivial) ?_
 refine rb (rc rfl rfl (rwords_s d (by omega)) (rc rfl rfl (rtimes_z k d (by omega) (by have := words_len2 (m := d) (by omega); omega)) (re rfl ?_)))
 refine rb (rm U32 ((wordsN m).length + 1) rfl rfl rfl rfl rfl rfl (zr_int .u32) (by omega) ?_ ?_ (re rfl ?_))
 ·show _ * 4 ≤ _; omega
 ·show _ * 1 ≤ _; omega
 refine rb (rc rfl rfl (rwords_s d (by omega)) (rc rfl rfl (rtimes_z m d (by omega) (by have := words_len2 (m := d) (by omega); omega)) ?_))
 refine rcp rfl rfl rfl rfl rfl (by rw [List.length_replicate]; omega) (by simp) (re rfl ?_)
 generalize hU0 : wordsN (m * d) ++ (List.replicate ((wordsN m).length + 1) (0 : Int)).drop (wordsN (m * d)).length = U0
 refine rb (rm U32 (M + 1) rfl rfl rfl rfl rfl rfl (zr_int .u32) (by omega) ?_ ?_ (re rfl ?_))
 ·show _ * 4 ≤ _; omega
 ·show _ * 1 ≤ _; omega
 have hU0v : val U0 = ((m * d : Nat) : Int) := by
  rw [← hU0, val_append, val_words, show (List.replicate ((wordsN m).length + 1) (0 : Int)).drop (wordsN (m * d)).length = List.replicate ((wordsN m).length + 1 - (wordsN (m * d)).length) 0 by simp, val_rep]; simp
 have hU0r : rng U0 := by rw [← hU0]; exact rng_append (rng_words _) (rng_drop (rng_rep _) _)
 have hU0l : U0.length = M + (n + 2) + 1 := by rw [← hU0]; simp; omega
 have hv0 : (0 : Int) < ((k * d : Nat) : Int) := by
  have : 0 < k * d := Nat.mul_pos hk0 (by omega)
  omega
 have hI0 : KdI ((m * d : Nat) : Int) ((k * d : Nat) : Int) (n + 2) M (M + 1, U0, List.replicate (M + 1) 0) := by
  refine ⟨Nat.le_refl _, hU0l, hU0r, ?_, by simp, rng_rep _, fun i hi => ?_, ?_⟩
  ·show val (U0.drop (M + 1)) < _
   have h1 := val_split U0 (M + 1) (by omega)
   have h2 := val_nonneg (rng_take hU0r (M + 1))
   have hp := powB_pos (M + 1)
   by_cases e : val (U0.drop (M + 1)) < ((k * d : Nat) : Int)
   ·exact e
   ·exfalso
    have h3 : 4294967296 ^ (M + 1) * ((k * d : Nat) : Int) ≤ 4294967296 ^ (M + 1) * val (U0.drop (M + 1)) := Int.mul_le_mul_of_nonneg_left (by omega) (by omega)
    have h4 := can_ge (rng_words k) (words_can k) (by intro e; rw [e] at hn; simp at hn)
    rw [val_words, hn, show n + 2 - 1 = n + 1 by omega] at h4
    have h5 := words_len_lt (n := m)
    rw [hM, show M + (n + 2) = M + 1 + (n + 1) by omega, Int.pow_add] at h5
    have h6 : 4294967296 ^ (M + 1) * 4294967296 ^ (n + 1) * (d : Int) ≤ 4294967296 ^ (M + 1) * ((k * d : Nat) : Int) := by
     rw [Int.natCast_mul, Int.mul_assoc]
     exact Int.mul_le_mul_of_nonneg_left (Int.mul_le_mul_of_nonneg_right h4 (by omega)) (by omega)
    have h7 : (m : Int) * d < 4294967296 ^ (M + 1) * 4294967296 ^ (n + 1) * (d : Int) := Int.mul_lt_mul_of_pos_right h5 (by omega)
    rw [hU0v, Int.natCast_mul m d] at h1
    omega
  ·show (List.replicate (M + 1) (0 : Int)).getD i 0 = 0
   rw [List.getD_eq_getElem?_getD, List.getElem?_replicate]
   split <;> rfl
  ·show _ = val U0 + _ * val (List.replicate (M + 1) 0)
   rw [val_rep, hU0v]; omega
 refine tr_seq (rr rfl ?_)
 refine tr_block (tr_loop (α := Nat × List Int × List Int) (fun x => ⟨[(8, cI ((n + 2 : Nat) : Int)), (9, cU d), (10, cS U32 (wordsN (k * d))), (11, .c (.X 6003000)), (12, .c (.X 8005000)), (13, cI ((x.1 : Int) - 1))], [(6003000, .vec 132 U32 x.2.1), (8005000, .vec 132 U32 x.2.2)], 10, []⟩) (KdI ((m * d : Nat) : Int) ((k * d : Nat) : Int) (n + 2) M) (fun x => x.1) (M + 1, U0, List.replicate (M + 1) 0) hI0 (wk ⟨sR rfl, sR rfl, sR rfl, sR rfl, sR rfl, sE rfl ?_, trivial⟩ (wkMr rfl)) ?_)
 ·exact congrArg cI (by omega)
 rintro ⟨c, U, Q⟩ hI
 have hul : U.length = M + (n + 2) + 1 := hI.ul
 have hur : rng U := hI.ur
 have hql : Q.length = M + 1 := hI.ql
 have hck : c ≤ M + 1 := hI.k
 refine tr_seq (rr rfl ?_)
 refine tr_cond rfl (fun h => ?_) (fun h => ?_)
 ·have h : (c : Int) - 1 ≥ 0 := by simpa using h
  obtain ⟨j, rfl⟩ : ∃ j, c = j + 1 := ⟨c - 1, by omega⟩
  have ej : ((j + 1 : Nat) : Int) - 1 = (j : Int) := by omega
  rw [ej]
  have hnext := hI.next hv0 f5
  let ⟨_, hwl⟩ := hI.win f5
  have hK := kn1_of (U := U) (v := wordsN (k * d)) (j := j) (n := n) hur (rng_words _) f6 (by omega) f7 (by rw [val_words]; exact hwl)
  have hv1 := rng_get (rng_words (k * d)) (n + 1)
  have hg := gsL_ok hK 2 ((U.getD (j + (n + 2)) 0 * 4294967296 + U.getD (j + (n + 1)) 0) / (wordsN (k * d)).getD (n + 1) 0) ((U.getD (j + (n + 2)) 0 * 4294967296 + U.getD (j + (n + 1)) 0) % (wordsN (k * d)).getD (n + 1) 0)
  have hfi := hK.first
  generalize hv1e : (wordsN (k * d)).getD (n + 1) 0 = v1 at hg hv1 f7 hfi
  generalize hte : U.getD (j + (n + 2)) 0 * 4294967296 + U.getD (j + (n + 1)) 0 = t at hg hfi
  have hr0 := Int.emod_nonneg t (show v1 ≠ 0 by omega)
  have hr1 := Int.emod_lt_of_pos t (show 0 < v1 by omega)
  have hg := hg (by have h1 := Int.emod_add_mul_ediv t v1; have h2 := Int.mul_comm (t / v1) v1; omega) hr0 (by omega) (by omega) hfi
  rw [← hte, ← hv1e] at hg
  have hgs := rguess_s U (wordsN (k * d)) j n hur (rng_words _) f6 (by omega) (by omega) hK
  have hq0 := hK.q0
  generalize gsL 2 ((U.getD (j + (n + 2)) 0 * 4294967296 + U.getD (j + (n + 1)) 0) / (wordsN (k * d)).getD (n + 1) 0) ((U.getD (j + (n + 2)) 0 * 4294967296 + U.getD (j + (n + 1)) 0) % (wordsN (k * d)).getD (n + 1) 0) ((wordsN (k * d)).getD (n + 1) 0) ((wordsN (k * d)).getD n 0) (U.getD (j + n) 0) = q at *
  rw [val_words] at hg hq0
  have hls := rlessen_s U (wordsN (k * d)) j (n + 3) q hur (rng_words _) (by omega) (by omega) (by omega) hg.2.2 (by omega)
  rw [val_words] at hls
  rw [show n + 2 + 1 = n + 3 from rfl] at hnext hwl
  generalize hu : val ((U.drop j).take (n + 3)) = u at *
  have hdm := Int.emod_add_mul_ediv u ((k * d : Nat) : Int)
  have hm0 := Int.emod_nonneg u (show ((k * d : Nat) : Int) ≠ 0 by omega)
  have hm1 := Int.emod_lt_of_pos u hv0
  generalize hv : ((k * d : Nat) : Int) = v at *
  refine skT (tr_seq (tr_block ?_))
  refine rb (rw_ j (j + (n + 3)) rfl rfl rfl rfl rfl rfl (by omega) (by omega) (by show j + (n + 3) ≤ U.length; omega) (re rfl ?_))
  refine tr_wk (st' := ⟨[(8, cI ((n + 2 : Nat) : Int)), (9, cU d), (10, cS U32 (wordsN (k * d))), (11, .c (.X 6003000)), (12, .c (.X 8005000)), (13, cI j), (14, .c (.W 6003000 j (n + 3)))], [(6003000, .vec 132 U32 U), (8005000, .vec 132 U32 Q)], 12, []⟩) (wk ⟨sR rfl, sR rfl, sR rfl, sR rfl, sR rfl, sR rfl, ⟨_, rfl, AVle.of_eq (congrArg (fun z => AV.c (C.W 6003000 j z)) (by omega))⟩, trivial⟩ (wkMr rfl)) ?_
  refine rb (rcm 6003000 rfl hgs rfl rfl (re rfl ?_))
  refine tr_seq (rb (rcm 6003000 rfl hls rfl rfl (re rfl ?_)))
  have hwlen : ∀ x, (wordsK (n + 3) x).length = n + 3 := fun x => wordsK_len _ _
  refine tr_cond rfl (fun h => ?_) (fun h => ?_)
  ·have h : u - q * v < 0 := by simpa using h
   have hq1 : q = u / v + 1 := by
    by_cases e : q = u / v
    ·subst e
     have := Int.mul_comm (u / v) v
     omega
    ·omega
   have hqv : q * v = v * (u / v) + v := by rw [hq1, Int.add_mul, Int.one_mul, Int.mul_comm]
   have hr : rng (wput U j (wordsK (n + 3) (u - q * v))) := wput_rng hur (wordsK_rng _ _)
   have hrs := rrestore_s (wput U j (wordsK (n + 3) (u - q * v))) (wordsN (k * d)) j (n + 3) hr (rng_words _) (by rw [wput_len (by rw [hwlen]; omega)]; omega) (by omega) (by rw [wput_len (by rw [hwlen]; omega)]; omega)
   have e1 : wput (wput U j (wordsK (n + 3) (u - q * v))) j (wordsK (n + 3) (val (((wput U j (wordsK (n + 3) (u - q * v))).drop j).take (n + 3)) + val (wordsN (k * d)))) = wput U j (wordsK (n + 3) (u % v)) := by
    rw [wput_wput (by rw [hwlen]; omega) (by rw [hwlen, hwlen]), wput_drop (by rw [hwlen]; omega), List.take_append_of_le_length (by rw [hwlen]; omega), List.take_of_length_le (by rw [hwlen]; omega), wordsK_val, val_words, hv]
    refine congrArg (wput U j) (wordsK_mod _ _ _ ?_)
    rw [Int.emod_add_emod]
    congr 1
    omega
   rw [e1] at hrs
   have w1 : IntKind.wrap .u64 (q - 1) = u / v := by rw [wrap_u64 _ (by omega) (by omega)]; omega
   refine rr rfl (rbt (rcm 6003000 rfl hrs rfl rfl (re rfl (at_then ?_))))
   refine tr_wk (st' := ⟨[(8, cI ((n + 2 : Nat) : Int)), (9, cU d), (10, cS U32 (wordsN (k * d))), (11, .c (.X 6003000)), (12, .c (.X 8005000)), (13, cI j), (15, cU (u / v))], [(6003000, .vec 132 U32 (wput U j (wordsK (n + 3) (u % v)))), (8005000, .vec 132 U32 Q)], 16, []⟩) (wk ⟨sR rfl, sR rfl, sR rfl, sR rfl, sR rfl, sR rfl, ⟨_, rfl, AVle.of_eq (cgU w1)⟩, trivial⟩ (wkMr rfl)) ?_
   refine rt rfl (hp := by simp only [Pr.an, Pr.h, num, i64r, true_and, and_true]; omega) ?_
   refine bkT (rt rfl (at_loop (j, wput U j (wordsK (n + 3) (u % v)), Q.set j (u / v)) hnext (Nat.lt_succ_self j) (wk (wkSr rfl) ⟨bR rfl, bE rfl ?_, trivial⟩)))
   refine congrArg (Blk.vec 132 U32) ?_
   show Q.set (j : Int).toNat (IntKind.wrap .u32 (u / v)) = Q.set j (u / v)
   rw [Int.toNat_natCast, wrap_u32 _ (by omega) (by omega)]
  ·have h : ¬ u - q * v < 0 := by simpa using h
   have hq1 : q = u / v := by
    by_cases e : q = u / v
    ·exact e
    ·exfalso
     have e2 : q = u / v + 1 := by omega
     have hqv : q * v = v * (u / v) + v := by rw [e2, Int.add_mul, Int.one_mul, Int.mul_comm]
     omega
   have e1 : u - q * v = u % v := by
    have := Int.mul_comm (u / v) v
    rw [hq1]; omega
   refine skT ?_
   refine tr_wk (st' := ⟨[(8, cI ((n + 2 : Nat) : Int)), (9, cU d), (10, cS U32 (wordsN (k * d))), (11, .c (.X 6003000)), (12, .c (.X 8005000)), (13, cI j), (15, cU (u / v))], [(6003000, .vec 132 U32 (wput U j (wordsK (n + 3) (u % v)))), (8005000, .vec 132 U32 Q)], 16, []⟩) (wk ⟨sR rfl, sR rfl, sR rfl, sR rfl, sR rfl, sR rfl, ⟨_, rfl, AVle.of_eq (cgU hq1)⟩, trivial⟩ ⟨⟨_, rfl, BLe.of_eq (congrArg (fun z => Blk.vec 132 U32 (wput U j (wordsK (n + 3) z))) e1)⟩, bR rfl, trivial⟩) ?_
   refine rt rfl (hp := by simp only [Pr.an, Pr.h, num, i64r, true_and, and_true]; omega) ?_
   refine bkT (rt rfl (at_loop (j, wput U j (wordsK (n + 3) (u % v)), Q.set j (u / v)) hnext (Nat.lt_succ_self j) (wk (wkSr rfl) ⟨bR rfl, bE rfl ?_, trivial⟩)))
   refine congrArg (Blk.vec 132 U32) ?_
   show Q.set (j : Int).toNat (IntKind.wrap .u32 (u / v)) = Q.set j (u / v)
   rw [Int.toNat_natCast, wrap_u32 _ (by omega) (by omega)]
 ·have h : ¬ (c : Int) - 1 ≥ 0 := by simpa using h
  have hc : c = 0 := by omega
  subst hc
  let ⟨e1, e2⟩ := hI.fin
  have q1 : trimW Q = wordsN (m / k) := by
   rw [trimW_eq hI.qr]
   show wordsN (val Q).toNat = _
   rw [e1]
   have : ((m * d : Nat) : Int) / ((k * d : Nat) : Int) = ((m / k : Nat) : Int) := by
    rw [← Int.natCast_ediv, Nat.mul_div_mul_right _ _ (by omega)]
   rw [this, Int.toNat_natCast]
  have q2 : wordsN (val (trimW U) / (d : Int)).toNat = wordsN (m % k) := by
   rw [trimW_val]
   show wordsN (val U / (d : Int)).toNat = _
   rw [e2]
   have : ((m * d : Nat) : Int) % ((k * d : Nat) : Int) / (d : Int) = ((m % k : Nat) : Int) := by
    rw [← Int.natCast_emod, Nat.mul_mod_mul_right, ← Int.natCast_ediv, Nat.mul_div_cancel _ (by omega)]
   rw [this, Int.toNat_natCast]
  have hsh := rshortly_s (trimW U) (d : Int) (trimW_rng hur) (by omega) (by omega) (by
   have h2 : (trimW U).length ≤ n + 2 := by
    rw [trimW_eq hur]
    apply words_len_le
    have h3 : val U < ((k * d : Nat) : Int) := hI.ub
    omega
   omega)
  rw [q2] at hsh
  refine xlE (at_then (tr_frz 6003000 rfl rfl rfl (tr_frz 8005000 rfl rfl rfl ?_)))
  refine rb (rc rfl rfl (rtrim_s U) (rc rfl rfl hsh (re rfl ?_)))
  refine rbc rfl rfl (rtrim_s Q) rfl (rtE rfl ?_)
  rw [q1]
theorem rdividedA_s (m k : Nat) (hk : k ≠ 0) (lm : (wordsN m).length ≤ 1099511627776) : FnS Tryz.prog 201 [cS U32 (wordsN m), cS U32 (wordsN k)] (.t [(false, [.S U32 (wordsN (m / k))]), (false, [.S U32 (wordsN (m % k))])]) := by
 by_cases h : m < k ∨ k < 4294967296
 ·exact rdivided_s m k hk h lm
 ·have h1 : 2 ≤ (wordsN k).length := by
   by_cases e : 2 ≤ (wordsN k).length
   ·exact e
   ·exfalso
    have h2 := words_len_lt (n := k)
    have h3 := powB_le (m := (wordsN k).length) (n := 1) (by omega)
    rw [Int.pow_one] at h3
    omega
  exact rdividedL_s m k ((wordsN k).length - 2) (by omega) (by omega) lm
theorem rDivModA_s (a b : Int) (hb : b ≠ 0) (ha : Sm a) (hsb : Sm b) : FnS Tryz.prog 181 [aZ a, aZ b] (.t [(true, av .z (a / b)), (true, av .z (a % b)), (false, [.I .i64 0])]) := by
 refine fsI Tryz.func181 ?_
 refine rr rfl (tr_seq (rr rfl ?_))
 have hb' : b.natAbs ≠ 0 := by omega
 refine tr_cond rfl (fun h2 => ?_) (fun h2 => ?_)
 ·exfalso
  have h2 : ((zmag b).length : Int) = 0 := by simpa using h2
  have := words_nil.2 hb'
  unfold zmag at h2
  omega
 ·refine skT (rbc rfl rfl (rdividedA_s _ _ hb' ha) rfl (tr_seq (rb ?_)))
  refine rg 25 rfl rfl (fun h3 => ?_) (fun h3 => ?_)
  ·have h3 : a < 0 := by simpa [zneg] using h3
   refine re rfl (tr_cond rfl (fun h4 => ?_) (fun h4 => ?_))
   ·have h4 : a.natAbs % b.natAbs ≠ 0 := by
     have h4 : ((wordsN (a.natAbs % b.natAbs)).length : Int) > 0 := by simpa using h4
     exact words_nil.1 (by omega)
    let ⟨e1, e2⟩ := dm_neg1 (Nat.pos_of_ne_zero hb') h3 h4
    have hz : zneg a = true := by simp [zneg, h3]
    let ⟨e3, e4⟩ := dm_sgn a b (a.natAbs / b.natAbs + 1) (b.natAbs - a.natAbs % b.natAbs) (by rw [hz, e1]; rfl) e2
    have hr : a.natAbs % b.natAbs < b.natAbs := Nat.mod_lt _ (Nat.pos_of_ne_zero hb')
    refine rb (rl U32 [_] rfl rfl (rc rfl rfl (radded_z (a.natAbs / b.natAbs) 1 ?_ (by decide)) (re rfl (rbt (rc rfl rfl (rtaken_z b.natAbs _ (by omega) hsb) (re rfl (at_then (rb ?_))))))))
    ·exact Nat.le_trans (words_len_mono (Nat.div_le_self _ _)) ha
    refine rc rfl rfl (rmade_z _ _) (rc rfl rfl (rmade_z _ _) (re rfl (rtE rfl ?_)))
    rw [e3, e4]; rfl
   ·have h4 : a.natAbs % b.natAbs = 0 := by
     have h4 : ¬ ((wordsN (a.natAbs % b.natAbs)).length : Int) > 0 := by simpa using h4
     exact Decidable.byContradiction fun hne => by have := words_nil.2 hne; omega
    let ⟨e1, e2⟩ := dm_neg0 (Nat.pos_of_ne_zero hb') h3 h4
    have hz : zneg a = true := by simp [zneg, h3]
    let ⟨e3, e4⟩ := dm_sgn a b (a.natAbs / b.natAbs) (a.natAbs % b.natAbs) (by rw [hz, e1]; rfl) (by rw [e2, h4]; rfl)
    refine skT (rb (rc rfl rfl (rmade_z _ _) (rc rfl rfl (rmade_z _ _) (re rfl (rtE rfl ?_)))))
    rw [e3, e4]; rfl
  ·have h3 : ¬ a < 0 := by simpa [zneg] using h3
   refine re rfl (tr_cond rfl (fun h4 => by simp at h4) (fun h4 => ?_))
   let ⟨e1, e2⟩ := dm_pos (Nat.pos_of_ne_zero hb') h3
   have hz : zneg a = false := by simp [zneg, h3]
   let ⟨e3, e4⟩ := dm_sgn a b (a.natAbs / b.natAbs) (a.natAbs % b.natAbs) (by rw [hz, e1]; rfl) e2
   refine skT (rb (rc rfl rfl (rmade_z _ _) (rc rfl rfl (rmade_z _ _) (re rfl (rtE rfl ?_)))))
   rw [e3, e4]; rfl
theorem rcommonA_s (m k : Nat) (lm : (wordsN m).length ≤ 1099511627776) (lk : (wordsN k).length ≤ 1099511627776) : FnS Tryz.prog 180 [cS U32 (wordsN m), cS U32 (wordsN k)] (cS U32 (wordsN (Nat.gcd m k))) := by
 refine fsI Tryz.func180 ?_
 refine rr rfl (tr_seq (tr_block (tr_loop (α := Nat × Nat) (fun x => ⟨[(0, cS U32 (wordsN x.1)), (1, cS U32 (wordsN x.2))], [], 1, []⟩) (fun x => Nat.gcd x.1 x.2 = Nat.gcd m k ∧ (wordsN x.1).length ≤ 1099511627776 ∧ (wordsN x.2).length ≤ 1099511627776) (fun x => x.2) (m, k) ⟨rfl, lm, lk⟩ wkA ?_)))
 rintro ⟨x, y⟩ ⟨hg, lx, ly⟩
 simp only at hg lx ly
 refine tr_seq (rr rfl ?_)
 refine tr_cond rfl (fun h => ?_) (fun h => ?_)
 ·have hy : y ≠ 0 := by
   have h : ((wordsN y).length : Int) > 0 := by simpa using h
   exact words_nil.1 (by omega)
  have step : FnS Tryz.prog 201 [cS U32 (wordsN x), cS U32 (wordsN y)] (.t [(false, [.S U32 (wordsN (x / y))]), (false, [.S U32 (wordsN (x % y))])]) := rdividedA_s x y hy lx
  have hg' : Nat.gcd y (x % y) = Nat.gcd m k := by rw [← hg, Nat.gcd_comm x y, Nat.gcd_rec y x, Nat.gcd_comm]
  have hlt : x % y < y := Nat.mod_lt _ (by omega)
  have hly : (wordsN (x % y)).length ≤ 1099511627776 := Nat.le_trans (words_len_mono (by omega)) ly
  refine skT (tr_block (tr_seq (rb ?_)))
  refine rg 13 rfl rfl (fun h2 => ?_) (fun h2 => ?_)
  ·have h2 : (wordsN x).length ≤ 2 := by
    have h2 : ((wordsN x).length : Int) ≤ 2 := by simpa using h2
    omega
   refine re rfl (tr_cond rfl (fun h3 => ?_) (fun h3 => ?_))
   ·have h3 : (wordsN y).length ≤ 2 := by
     have h3 : ((wordsN y).length : Int) ≤ 2 := by simpa using h3
     omega
    have hx : x < 18446744073709551616 := by
     have h5 := words_len_lt (n := x)
     have h6 := powB_le h2
     rw [show (4294967296 : Int) ^ 2 = 18446744073709551616 from rfl] at h6
     omega
    have hyb : y < 18446744073709551616 := by
     have h5 := words_len_lt (n := y)
     have h6 := powB_le h3
     rw [show (4294967296 : Int) ^ 2 = 18446744073709551616 from rfl] at h6
     omega
    refine rb (rc rfl rfl (rnumber_s x hx) (rc rfl rfl (rnumber_s y hyb) (rc rfl rfl (reuclid_s x y hx hyb) (rc rfl rfl (rwords_s _ ?_) (re rfl (tr_ret ?_))))))
    ·by_cases h0 : x = 0
     ·rw [h0, Nat.gcd_zero_left]; exact hyb
     ·exact Nat.lt_of_le_of_lt (Nat.gcd_le_left y (by omega)) hx
    ·repeat (first | refine at_then_ret ?_ | refine at_block_ret ?_ | refine at_loop_ret ?_)
     refine atE rfl ?_
     rw [← hg]
   ·refine skT (rbc rfl rfl step rfl (rr rfl (rt rfl (at_block (at_loop (y, x % y) ⟨hg', ly, hly⟩ hlt wkA)))))
  ·refine re rfl (tr_cond rfl (fun h3 => by cases h3) (fun _ => ?_))
   refine skT (rbc rfl rfl step rfl (rr rfl (rt rfl (at_block (at_loop (y, x % y) ⟨hg', ly, hly⟩ hlt wkA)))))
 ·have h : (wordsN y).length = 0 := by
   have : ¬ ((wordsN y).length : Int) > 0 := by simpa using h
   omega
  have h0 : y = 0 := Decidable.byContradiction fun hne => by have := words_nil.2 hne; omega
  subst h0
  refine xlE (at_then (rr rfl (rtE rfl ?_)))
  rw [← hg, Nat.gcd_zero_right]
theorem rGcdA_s (a b : Int) (ha : Sm a) (hb : Sm b) : FnS Tryz.prog 154 [aZ a, aZ b] (aZ (Int.gcd a b)) := by
 refine fsI Tryz.func154 ?_
 refine rr rfl (rb ?_)
 refine rc rfl rfl (rcommonA_s _ _ ha hb) (rc rfl rfl (rmade_z false _) (re rfl (rtE rfl ?_)))
 rfl
theorem sgn_zero {a : Int} : sgn a = 0 ↔ a = 0 := by
 unfold sgn
 split
 ·omega
 ·split <;> omega
theorem iwords_s (m : Nat) (hm : m < 18446744073709551616) : FnS Tryz.prog 99 [cU m] (cS U32 (wordsN m)) := by
 refine fsI Tryz.func99 ?_
 refine rr rfl (rb ?_)
 have e1 : IntKind.wrap .u32 (m : Int) = ((m % 4294967296 : Nat) : Int) := by simp [IntKind.wrap, IntKind.bits, IntKind.signed]
 have e2 : IntKind.wrap .u32 ((m : Int).fdiv (2 ^ (min (32 : Int).toNat (IntKind.bits .u64)))) = ((m / 4294967296 : Nat) : Int) := by
  have : (m : Int).fdiv (2 ^ (min (32 : Int).toNat (IntKind.bits .u64))) = ((m / 4294967296 : Nat) : Int) := by
   rw [Int.fdiv_eq_ediv_of_nonneg _ (by decide)]; rfl
  rw [this, wrap_u32 _ (by omega) (by omega)]
 refine rl U32 [_, _] rfl rfl ?_
 refine rc rfl rfl (trim_s _) ?_
 refine re rfl (rtE rfl ?_)
 rw [e1, e2, two_words m hm]
theorem isigned_z (neg : Bool) (m : Nat) : FnS Tryz.prog 98 [cB neg, cS U32 (wordsN m)] (aZ (sg neg m)) := by
 refine fsI Tryz.func98 ?_
 have ht := trim_s (wordsN m)
 rw [trimW_words] at ht
 refine rr rfl (rbc rfl rfl ht rfl (tr_seq (rr rfl ?_)))
 refine tr_cond rfl (fun h => ?_) (fun h => ?_)
 ·have h : (wordsN m).length = 0 := by
   have h : ((wordsN m).length : Int) = 0 := by simpa using h
   omega
  have h0 : m = 0 := Decidable.byContradiction fun hne => by have := words_nil.2 hne; omega
  subst h0
  refine rr rfl (tr_ret (at_then_ret (at_ret TT_ok rfl ?_)))
  have e : sg neg 0 = 0 := by cases neg <;> rfl
  rw [e]
  refine ⟨?_, fun id hid => by cases hid⟩
  rintro g v ⟨vs, rfl, v1, r, rfl, h1, v2, r2, rfl, h2, rfl⟩
  have h2 : v2 = .slice none 0 0 := h2
  exact ⟨_, rfl, v1, _, rfl, h1, v2, _, rfl, by rw [h2]; exact nilW g.H, rfl⟩
 ·have h : (wordsN m).length ≠ 0 := by
   have h : ¬ ((wordsN m).length : Int) = 0 := by simpa using h
   omega
  refine skT (rr rfl (rtE rfl ?_))
  rw [← mkZ]
  have e : (neg && decide (0 < (wordsN m).length)) = neg := by
   have : 0 < (wordsN m).length := by omega
   simp [this]
  rw [e]; rfl
theorem iclone_s (ws : List Int) (hl : ws.length ≤ 1099511627776) : FnS Tryz.prog 100 [cS U32 ws] (cS U32 ws) := by
 refine fsI Tryz.func100 ?_
 refine rr rfl (rb (ran rfl rfl rfl rfl rfl rfl rfl rfl ?_ ?_ (re rfl (tr_frz 1001000 rfl rfl rfl (rtR rfl)))))
 ·show (_ + _ / 4 + 192) * 4 ≤ _; omega
 ·show _ * 1 ≤ _; omega
theorem iOf_s (n : Int) (h0 : -9223372036854775808 ≤ n) (h1 : n ≤ 9223372036854775807) : FnS Tryz.prog 50 [cI n] (aZ n) := by
 refine fsI Tryz.func50 ?_
 refine rr rfl (rr rfl (tr_seq (rr rfl ?_)))
 refine tr_cond rfl (fun h => ?_) (fun h => ?_)
 ·have h : n < 0 := by simpa using h
  have e : IntKind.wrap .u64 (0 - IntKind.wrap .u64 n) = ((-n).toNat : Nat) := by
   simp [IntKind.wrap, IntKind.bits, IntKind.signed]; omega
  refine rt rfl (at_then (rb ?_))
  refine rc rfl rfl (f := 99) (r := cS U32 (wordsN (-n).toNat)) (by rw [show (AV.c (num .u64 (0 - IntKind.wrap .u64 n)).1) = cU (((-n).toNat : Nat) : Int) from cgU e]; exact iwords_s _ (by omega)) ?_
  refine rc rfl rfl (isigned_z _ _) (re rfl (rtE rfl ?_))
  have e2 : sg (decide (n < 0)) (-n).toNat = n := by unfold sg; simp [h]; omega
  exact congrArg aZ e2
 ·have h : ¬ n < 0 := by simpa using h
  have e : IntKind.wrap .u64 n = (n.toNat : Nat) := by
   rw [wrap_u64 _ (by omega) (by omega)]; omega
  refine skT (rb ?_)
  refine rc rfl rfl (f := 99) (r := cS U32 (wordsN n.toNat)) (by rw [show (AV.c (num .u64 n).1) = cU ((n.toNat : Nat) : Int) from cgU e]; exact iwords_s _ (by omega)) ?_
  refine rc rfl rfl (isigned_z _ _) (re rfl (rtE rfl ?_))
  have e2 : sg (decide (n < 0)) n.toNat = n := by unfold sg; simp [h]; omega
  exact congrArg aZ e2
theorem iSign_s (a : Int) : FnS Tryz.prog 107 [aZ a] (cI (sgn a)) := by
 refine fsI Tryz.func107 ?_
 refine rr rfl (tr_seq (rr rfl ?_))
 refine tr_cond rfl (fun h => ?_) (fun h => ?_)
 ·have h : a = 0 := by
   have h : ((zmag a).length : Int) = 0 := by simpa using h
   have : a.natAbs = 0 := Decidable.byContradiction fun hne => by have := words_nil.2 hne; unfold zmag at h; omega
   omega
  refine rr rfl (tr_ret (at_then_ret (atE rfl ?_)))
  rw [h]; rfl
 ·have h : a ≠ 0 := by
   have h : ¬ ((zmag a).length : Int) = 0 := by simpa using h
   intro h0; subst h0; exact h rfl
  refine skT (tr_seq (rr rfl ?_))
  refine tr_cond rfl (fun h2 => ?_) (fun h2 => ?_)
  ·have h2 : a < 0 := by simpa [zneg] using h2
   refine rr rfl (tr_ret (at_then_ret (atE rfl ?_)))
   rw [sgn, if_pos h2]; rfl
  ·have h2 : ¬ a < 0 := by simpa [zneg] using h2
   refine skT (rr rfl (rtE rfl ?_))
   rw [sgn, if_neg h2, if_neg h]; rfl
theorem iNeg_s (a : Int) (ha : Sm a) : FnS Tryz.prog 55 [aZ a] (aZ (-a)) := by
 refine fsI Tryz.func55 ?_
 refine rr rfl (rb (rc rfl rfl (iclone_s _ ha) (rc rfl rfl (isigned_z (!zneg a) a.natAbs) (re rfl (rtE rfl ?_)))))
 have e2 : sg (!zneg a) a.natAbs = -a := by
  unfold sg zneg
  by_cases h : a < 0
  ·simp [h]; omega
  ·simp [h]; omega
 exact congrArg aZ e2
set_option maxHeartbeats 2000000 in
theorem isum_s (a b : List Int) (ha : rng a) (hb : rng b) (la : a.length ≤ 1099511627776) (lb : b.length ≤ 1099511627776) : FnS Tryz.prog 104 [cS U32 a, cS U32 b] (cS U32 (wordsN (val a + val b).toNat)) := by
 refine fsI Tryz.func104 ?_
 refine rr rfl (tr_seq (rr rfl ?_))
 refine tr_cond rfl (fun h => ?_) (fun h => ?_)
 ·have hl : a.length ≤ b.length := by
   have h : a.length < b.length := by simpa using h
   omega
  rw [Int.add_comm (val a)]
  refine rt rfl (at_then ?_)
  revert ha hb la lb hl
  generalize b = X
  generalize a = Y
  intro hY hX lY lX hl
  refine tr_wk (st' := ⟨[(0, cS U32 X), (1, cS U32 Y)], [], 30, []⟩) wkA (rb ?_)
  refine rm U32 (X.length + 1) rfl rfl rfl rfl rfl rfl (zr_int .u32) rfl ?_ ?_ ?_
  ·show _ * 4 ≤ _; omega
  ·show _ * 1 ≤ _; omega
  refine re rfl (rr rfl (tr_seq (rr rfl ?_)))
  refine tr_block (tr_loop (α := Nat × List Int × Int) (fun x => ⟨[(0, cS U32 X), (1, cS U32 Y), (5, .c (.X 30003000)), (6, cU x.2.2), (21, cI X.length), (22, cI x.1)], [(30003000, .vec 132 U32 x.2.1)], 33, []⟩) (fun x => AddI X Y (X.length + 1) x ∧ x.1 ≤ X.length) (fun x => X.length - x.1) (0, List.replicate (X.length + 1) 0, 0) ?_ ?_ ?_)
  ·refine ⟨⟨Nat.zero_le _, by simp, rng_rep _, ?_, Int.le_refl _, (by show (0 : Int) ≤ 1; decide), by simp [val_rep, val]⟩, Nat.zero_le _⟩
   intro j _
   simp only [List.getD_eq_getElem?_getD, List.getElem?_replicate]
   split <;> rfl
  ·exact wk (wkSr rfl) ⟨bR rfl, trivial⟩
  ·rintro ⟨i, o, c⟩ ⟨hI, hi⟩
   have hi : i ≤ X.length := hi
   have hlen : o.length = X.length + 1 := hI.len
   have hc0 : 0 ≤ c := hI.c0
   have hc1 : c ≤ 1 := hI.c1
   have ga := rng_get hX i
   have gb := rng_get hY i
   refine rr rfl (tr_seq ?_)
   refine tr_cond rfl (fun h => ?_) (fun h => ?_)
   ·have h : i < X.length := by simpa using h
    have hn := hI.next (by show i < X.length + 1; omega) hX hY
    simp only at hn
    generalize ht : X.getD i 0 + Y.getD i 0 + c = s at hn
    have e1 : IntKind.wrap .u32 s = s % 4294967296 := by
     simp [IntKind.wrap, IntKind.bits, IntKind.signed]
    have e2 : s.fdiv (2 ^ (min (32 : Int).toNat (IntKind.bits .u64))) = s / 4294967296 := by
     rw [Int.fdiv_eq_ediv_of_nonneg _ (by decide)]; rfl
    refine skT (tr_seq (tr_block (rr rfl (rr rfl (tr_seq (rr rfl ?_))))))
    refine tr_cond rfl (fun h2 => ?_) (fun h2 => ?_)
    ·have h2 : i < Y.length := by simpa using h2
     refine rt rfl (at_then ?_)
     have e0 : IntKind.wrap .u64 (IntKind.wrap .u64 (IntKind.wrap .u64 (X.getD (i : Int).toNat 0) + c) + IntKind.wrap .u64 (Y.getD (i : Int).toNat 0)) = s := by
      rw [Int.toNat_natCast, wrap_u64 (X.getD i 0) (by omega) (by omega), wrap_u64 (Y.getD i 0) (by omega) (by omega), wrap_u64 (X.getD i 0 + c) (by omega) (by omega), wrap_u64 _ (by omega) (by omega)]; omega
     refine tr_wk (st' := ⟨[(0, cS U32 X), (1, cS U32 Y), (5, .c (.X 30003000)), (7, cI i), (8, cU s), (21, cI X.length), (22, cI i)], [(30003000, .vec 132 U32 o)], 40, []⟩) (wk ⟨sR rfl, sR rfl, sR rfl, sR rfl, ⟨_, rfl, AVle.of_eq (cgU e0)⟩, sR rfl, sR rfl, trivial⟩ ⟨bR rfl, trivial⟩) ?_
     refine rr rfl (rt rfl (bkT (rt rfl (at_loop (i + 1, o.set i (s % 4294967296), s / 4294967296) ⟨hn, by show i + 1 ≤ X.length; omega⟩ (by show X.length - (i + 1) < X.length - i; omega) (wk ⟨sR rfl, sR rfl, sR rfl, sE rfl ?_, sR rfl, sE rfl rfl, trivial⟩ ⟨bE rfl ?_, trivial⟩)))))
     ·exact cgU e2
     ·rw [e1, Int.toNat_natCast]
    ·have h2 : ¬ i < Y.length := by simpa using h2
     have hY0 : Y.getD i 0 = 0 := by simp [List.getD_eq_getElem?_getD, List.getElem?_eq_none (Nat.le_of_not_lt h2)]
     refine skT ?_
     have e0 : IntKind.wrap .u64 (IntKind.wrap .u64 (X.getD (i : Int).toNat 0) + c) = s := by
      rw [Int.toNat_natCast, wrap_u64 (X.getD i 0) (by omega) (by omega), wrap_u64 _ (by omega) (by omega)]; omega
     refine tr_wk (st' := ⟨[(0, cS U32 X), (1, cS U32 Y), (5, .c (.X 30003000)), (7, cI i), (8, cU s), (21, cI X.length), (22, cI i)], [(30003000, .vec 132 U32 o)], 40, []⟩) (wk ⟨sR rfl, sR rfl, sR rfl, sR rfl, ⟨_, rfl, AVle.of_eq (cgU e0)⟩, sR rfl, sR rfl, trivial⟩ ⟨bR rfl, trivial⟩) ?_
     refine rr rfl (rt rfl (bkT (rt rfl (at_loop (i + 1, o.set i (s % 4294967296), s / 4294967296) ⟨hn, by show i + 1 ≤ X.length; omega⟩ (by show X.length - (i + 1) < X.length - i; omega) (wk ⟨sR rfl, sR rfl, sR rfl, sE rfl ?_, sR rfl, sE rfl rfl, trivial⟩ ⟨bE rfl ?_, trivial⟩)))))
     ·exact cgU e2
     ·rw [e1, Int.toNat_natCast]
   ·have h : ¬ i < X.length := by simpa using h
    have hi : i = X.length := by omega
    subst hi
    have ec : IntKind.wrap .u32 c = c := wrap_u32 c hc0 (by omega)
    refine xlE (at_then (rr rfl ?_))
    refine tr_wk (st' := ⟨[(5, .c (.X 30003000))], [(30003000, .vec 132 U32 (o.set X.length c))], 40, []⟩) (wk ⟨sR rfl, trivial⟩ ⟨bE rfl ?_, trivial⟩) ?_
    ·rw [ec, Int.toNat_natCast]
    refine tr_frz 30003000 rfl rfl rfl (rbc rfl rfl (trim_s _) rfl (rtE rfl ?_))
    have hr : rng (o.set X.length c) := rng_set hI.r _ ⟨hc0, by omega⟩
    have hv := hI.v
    simp only [List.take_length] at hv
    rw [val_take_ge Y X.length hl] at hv
    rw [trimW_eq hr, val_put o X.length c (by omega) (hI.z X.length (Nat.le_refl _)), hv]
 ·have hl : b.length ≤ a.length := by
   have h : ¬ a.length < b.length := by simpa using h
   omega
  refine skT ?_
  revert ha hb la lb hl
  generalize a = X
  generalize b = Y
  intro hX hY lX lY hl
  refine tr_wk (st' := ⟨[(0, cS U32 X), (1, cS U32 Y)], [], 30, []⟩) wkA (rb ?_)
  refine rm U32 (X.length + 1) rfl rfl rfl rfl rfl rfl (zr_int .u32) rfl ?_ ?_ ?_
  ·show _ * 4 ≤ _; omega
  ·show _ * 1 ≤ _; omega
  refine re rfl (rr rfl (tr_seq (rr rfl ?_)))
  refine tr_block (tr_loop (α := Nat × List Int × Int) (fun x => ⟨[(0, cS U32 X), (1, cS U32 Y), (5, .c (.X 30003000)), (6, cU x.2.2), (21, cI X.length), (22, cI x.1)], [(30003000, .vec 132 U32 x.2.1)], 33, []⟩) (fun x => AddI X Y (X.length + 1) x ∧ x.1 ≤ X.length) (fun x => X.length - x.1) (0, List.replicate (X.length + 1) 0, 0) ?_ ?_ ?_)
  ·refine ⟨⟨Nat.zero_le _, by simp, rng_rep _, ?_, Int.le_refl _, (by show (0 : Int) ≤ 1; decide), by simp [val_rep, val]⟩, Nat.zero_le _⟩
   intro j _
   simp only [List.getD_eq_getElem?_getD, List.getElem?_replicate]
   split <;> rfl
  ·exact wk (wkSr rfl) ⟨bR rfl, trivial⟩
  ·rintro ⟨i, o, c⟩ ⟨hI, hi⟩
   have hi : i ≤ X.length := hi
   have hlen : o.length = X.length + 1 := hI.len
   have hc0 : 0 ≤ c := hI.c0
   have hc1 : c ≤ 1 := hI.c1
   have ga := rng_get hX i
   have gb := rng_get hY i
   refine rr rfl (tr_seq ?_)
   refine tr_cond rfl (fun h => ?_) (fun h => ?_)
   ·have h : i < X.length := by simpa using h
    have hn := hI.next (by show i < X.length + 1; omega) hX hY
    simp only at hn
    generalize ht : X.getD i 0 + Y.getD i 0 + c = s at hn
    have e1 : IntKind.wrap .u32 s = s % 4294967296 := by
     simp [IntKind.wrap, IntKind.bits, IntKind.signed]
    have e2 : s.fdiv (2 ^ (min (32 : Int).toNat (IntKind.bits .u64))) = s / 4294967296 := by
     rw [Int.fdiv_eq_ediv_of_nonneg _ (by decide)]; rfl
    refine skT (tr_seq (tr_block (rr rfl (rr rfl (tr_seq (rr rfl ?_))))))
    refine tr_cond rfl (fun h2 => ?_) (fun h2 => ?_)
    ·have h2 : i < Y.length := by simpa using h2
     refine rt rfl (at_then ?_)
     have e0 : IntKind.wrap .u64 (IntKind.wrap .u64 (IntKind.wrap .u64 (X.getD (i : Int).toNat 0) + c) + IntKind.wrap .u64 (Y.getD (i : Int).toNat 0)) = s := by
      rw [Int.toNat_natCast, wrap_u64 (X.getD i 0) (by omega) (by omega), wrap_u64 (Y.getD i 0) (by omega) (by omega), wrap_u64 (X.getD i 0 + c) (by omega) (by omega), wrap_u64 _ (by omega) (by omega)]; omega
     refine tr_wk (st' := ⟨[(0, cS U32 X), (1, cS U32 Y), (5, .c (.X 30003000)), (7, cI i), (8, cU s), (21, cI X.length), (22, cI i)], [(30003000, .vec 132 U32 o)], 40, []⟩) (wk ⟨sR rfl, sR rfl, sR rfl, sR rfl, ⟨_, rfl, AVle.of_eq (cgU e0)⟩, sR rfl, sR rfl, trivial⟩ ⟨bR rfl, trivial⟩) ?_
     refine rr rfl (rt rfl (bkT (rt rfl (at_loop (i + 1, o.set i (s % 4294967296), s / 4294967296) ⟨hn, by show i + 1 ≤ X.length; omega⟩ (by show X.length - (i + 1) < X.length - i; omega) (wk ⟨sR rfl, sR rfl, sR rfl, sE rfl ?_, sR rfl, sE rfl rfl, trivial⟩ ⟨bE rfl ?_, trivial⟩)))))
     ·exact cgU e2
     ·rw [e1, Int.toNat_natCast]
    ·have h2 : ¬ i < Y.length := by simpa using h2
     have hY0 : Y.getD i 0 = 0 := by simp [List.getD_eq_getElem?_getD, List.getElem?_eq_none (Nat.le_of_not_lt h2)]
     refine skT ?_
     have e0 : IntKind.wrap .u64 (IntKind.wrap .u64 (X.getD (i : Int).toNat 0) + c) = s := by
      rw [Int.toNat_natCast, wrap_u64 (X.getD i 0) (by omega) (by omega), wrap_u64 _ (by omega) (by omega)]; omega
     refine tr_wk (st' := ⟨[(0, cS U32 X), (1, cS U32 Y), (5, .c (.X 30003000)), (7, cI i), (8, cU s), (21, cI X.length), (22, cI i)], [(30003000, .vec 132 U32 o)], 40, []⟩) (wk ⟨sR rfl, sR rfl, sR rfl, sR rfl, ⟨_, rfl, AVle.of_eq (cgU e0)⟩, sR rfl, sR rfl, trivial⟩ ⟨bR rfl, trivial⟩) ?_
     refine rr rfl (rt rfl (bkT (rt rfl (at_loop (i + 1, o.set i (s % 4294967296), s / 4294967296) ⟨hn, by show i + 1 ≤ X.length; omega⟩ (by show X.length - (i + 1) < X.length - i; omega) (wk ⟨sR rfl, sR rfl, sR rfl, sE rfl ?_, sR rfl, sE rfl rfl, trivial⟩ ⟨bE rfl ?_, trivial⟩)))))
     ·exact cgU e2
     ·rw [e1, Int.toNat_natCast]
   ·have h : ¬ i < X.length := by simpa using h
    have hi : i = X.length := by omega
    subst hi
    have ec : IntKind.wrap .u32 c = c := wrap_u32 c hc0 (by omega)
    refine xlE (at_then (rr rfl ?_))
    refine tr_wk (st' := ⟨[(5, .c (.X 30003000))], [(30003000, .vec 132 U32 (o.set X.length c))], 40, []⟩) (wk ⟨sR rfl, trivial⟩ ⟨bE rfl ?_, trivial⟩) ?_
    ·rw [ec, Int.toNat_natCast]
    refine tr_frz 30003000 rfl rfl rfl (rbc rfl rfl (trim_s _) rfl (rtE rfl ?_))
    have hr : rng (o.set X.length c) := rng_set hI.r _ ⟨hc0, by omega⟩
    have hv := hI.v
    simp only [List.take_length] at hv
    rw [val_take_ge Y X.length hl] at hv
    rw [trimW_eq hr, val_put o X.length c (by omega) (hI.z X.length (Nat.le_refl _)), hv]
def len8 : ByteArray := { data := (([0, 1, 2, 2, 3, 3, 3, 3, 4, 4, 4, 4, 4, 4, 4, 4, 5, 5, 5, 5, 5, 5, 5, 5, 5, 5, 5, 5, 5, 5, 5, 5, 6, 6, 6, 6, 6, 6, 6, 6, 6, 6, 6, 6, 6, 6, 6, 6, 6, 6, 6, 6, 6, 6, 6, 6, 6, 6, 6, 6, 6, 6, 6, 6].append [7, 7, 7, 7, 7, 7, 7, 7, 7, 7, 7, 7, 7, 7, 7, 7, 7, 7, 7, 7, 7, 7, 7, 7, 7, 7, 7, 7, 7, 7, 7, 7, 7, 7, 7, 7, 7, 7, 7, 7, 7, 7, 7, 7, 7, 7, 7, 7, 7, 7, 7, 7, 7, 7, 7, 7, 7, 7, 7, 7, 7, 7, 7, 7]).append ([8, 8, 8, 8, 8, 8, 8, 8, 8, 8, 8, 8, 8, 8, 8, 8, 8, 8, 8, 8, 8, 8, 8, 8, 8, 8, 8, 8, 8, 8, 8, 8, 8, 8, 8, 8, 8, 8, 8, 8, 8, 8, 8, 8, 8, 8, 8, 8, 8, 8, 8, 8, 8, 8, 8, 8, 8, 8, 8, 8, 8, 8, 8, 8].append [8, 8, 8, 8, 8, 8, 8, 8, 8, 8, 8, 8, 8, 8, 8, 8, 8, 8, 8, 8, 8, 8, 8, 8, 8, 8, 8, 8, 8, 8, 8, 8, 8, 8, 8, 8, 8, 8, 8, 8, 8, 8, 8, 8, 8, 8, 8, 8, 8, 8, 8, 8, 8, 8, 8, 8, 8, 8, 8, 8, 8, 8, 8, 8])).toArray }
def len8B (n : Nat) : Bool := match strAt len8 (n : Int) with
 | some l => decide (0 ≤ l) && decide (l ≤ 8) && Nat.blt n (2 ^ l.toNat) && (Nat.ble (2 ^ l.toNat) (2 * n) || Nat.beq n 0)
 | none => false
theorem len8_all : ((List.range 256).all len8B) = true := by kernel_rfl
theorem len8_ok {n : Nat} (h : n < 256) : ∃ l : Nat, strAt len8 (n : Int) = some (l : Int) ∧ l ≤ 8 ∧ n < 2 ^ l ∧ (2 ^ l ≤ 2 * n ∨ n = 0) := by
 have h1 := List.all_eq_true.1 len8_all n (List.mem_range.2 h)
 unfold len8B at h1
 split at h1
 ·rename_i l e
  simp only [Bool.and_eq_true, Bool.or_eq_true, decide_eq_true_eq] at h1
  let ⟨⟨⟨h2, h3⟩, h4⟩, h5⟩ := h1
  have h4 := Nat.le_of_ble_eq_true h4
  refine ⟨l.toNat, by rw [Int.toNat_of_nonneg h2]; exact e, by omega, h4, ?_⟩
  rcases h5 with h5 | h5
  ·exact .inl (Nat.le_of_ble_eq_true h5)
  ·exact .inr (Nat.eq_of_beq_eq_true h5)
 ·cases h1
theorem evalM_str {st : St} {t : TypeId} {x i : Operand} {b8 : ByteArray} {k : IntKind} {j b : Int} {ti : TI} (h1 : st.ev x = some (.c (.V (.string b8)))) (h2 : st.ev i = some (.c (.I k j))) (h3 : lookA t TTab = some ti) (h4 : ti.kind = .str) (h5 : strAt b8 j = some b) : evalM TTab st (.index t x i) = some (.c (.I .u8 b), .le 0 j) := by
 simp [evalM, h1, h2, h3, h4, h5]
set_option maxHeartbeats 2000000 in
theorem iproduct_s (a b : List Int) (ha : rng a) (hb : rng b) (la : a.length ≤ 1099511627776) (lb : b.length ≤ 1099511627776) : FnS Tryz.prog 106 [cS U32 a, cS U32 b] (cS U32 (wordsN (val a * val b).toNat)) := by
 refine fsI Tryz.func106 ?_
 refine rr rfl (rb ?_)
 refine rm U32 (a.length + b.length) rfl rfl rfl rfl rfl rfl (zr_int .u32) rfl ?_ ?_ ?_
 ·show _ * 4 ≤ _; omega
 ·show _ * 1 ≤ _; omega
 refine re rfl (tr_seq (rr rfl ?_))
 refine tr_block (tr_loop (α := Nat × List Int) (fun x => ⟨[(0, cS U32 a), (1, cS U32 b), (5, .c (.X 1005000)), (18, cI a.length), (19, cI x.1)], [(1005000, .vec 132 U32 x.2)], 3, []⟩) (MulO a b) (fun x => a.length - x.1) (0, List.replicate (a.length + b.length) 0) ?_ ?_ ?_)
 ·refine ⟨Nat.zero_le _, by simp, rng_rep _, ?_, by simp [val_rep, val]⟩
  intro j _
  simp only [List.getD_eq_getElem?_getD, List.getElem?_replicate]
  split <;> rfl
 ·exact wk (wkSr rfl) ⟨bR rfl, trivial⟩
 ·rintro ⟨i, o⟩ hO
  have hlen : o.length = a.length + b.length := hO.len
  refine rr rfl (tr_seq ?_)
  refine tr_cond rfl (fun h => ?_) (fun h => ?_)
  ·have h : i < a.length := by simpa using h
   have ga := rng_get ha i
   refine skT (tr_seq (tr_block (rr rfl (rr rfl (rr rfl (tr_seq (rr rfl ?_)))))))
   have ea : IntKind.wrap .u64 (a.getD (i : Int).toNat 0) = a.getD i 0 := by rw [Int.toNat_natCast, wrap_u64 _ (by omega) (by omega)]
   refine tr_block (tr_loop (α := Nat × List Int × Int) (fun x => ⟨[(0, cS U32 a), (1, cS U32 b), (5, .c (.X 1005000)), (6, cI i), (7, cU x.2.2), (8, cU (a.getD i 0)), (18, cI a.length), (19, cI i), (28, cI b.length), (29, cI x.1)], [(1005000, .vec 132 U32 x.2.1)], 8, []⟩) (MulI a b i) (fun x => b.length - x.1) (0, o, 0) ?_ ?_ ?_)
   ·refine ⟨Nat.zero_le _, hlen, hO.r, hO.z, Int.le_refl _, (by show (0 : Int) < _; decide), ?_⟩
    have := hO.v
    simp only at this
    simp [this, val]
   ·exact wk ⟨sR rfl, sR rfl, sR rfl, sR rfl, sR rfl, ⟨_, rfl, AVle.of_eq (cgU ea)⟩, sR rfl, sR rfl, sR rfl, sR rfl, trivial⟩ ⟨bR rfl, trivial⟩
   ·rintro ⟨k, o, c⟩ hI
    have hlen : o.length = a.length + b.length := hI.len
    have hc0 : 0 ≤ c := hI.c0
    have hc1 : c < 4294967296 := hI.c1
    refine rr rfl (tr_seq ?_)
    refine tr_cond rfl (fun h2 => ?_) (fun h2 => ?_)
    ·have h2 : k < b.length := by simpa using h2
     have gb := rng_get hb k
     have go := rng_get hI.r (i + k)
     simp only at go
     have gm := mul_lt_sq ga.1 (by omega) gb.1 (by omega)
     refine skT (tr_seq (tr_block (rr rfl (rr rfl ?_ (hp := by simp only [Pr.an, Pr.h, num, i64r, true_and, and_true]; omega)))))
     have eik : ((i : Int) + (k : Int)).toNat = i + k := by omega
     have e0 : IntKind.wrap .u64 (IntKind.wrap .u64 (IntKind.wrap .u64 (a.getD i 0 * IntKind.wrap .u64 (b.getD (k : Int).toNat 0)) + IntKind.wrap .u64 (o.getD ((i : Int) + (k : Int)).toNat 0)) + c) = a.getD i 0 * b.getD k 0 + o.getD (i + k) 0 + c := by
      rw [eik, Int.toNat_natCast, wrap_u64 (b.getD k 0) (by omega) (by omega), wrap_u64 (o.getD (i + k) 0) (by omega) (by omega), wrap_u64 (a.getD i 0 * b.getD k 0) (by omega) (by omega), wrap_u64 (a.getD i 0 * b.getD k 0 + o.getD (i + k) 0) (by omega) (by omega), wrap_u64 _ (by omega) (by omega)]
     have hn := hI.next h h2 ha hb
     simp only at hn
     generalize ht : a.getD i 0 * b.getD k 0 + o.getD (i + k) 0 + c = s at hn e0
     have e1 : IntKind.wrap .u32 s = s % 4294967296 := by
      simp [IntKind.wrap, IntKind.bits, IntKind.signed]
     have e2 : s.fdiv (2 ^ (min (32 : Int).toNat (IntKind.bits .u64))) = s / 4294967296 := by
      rw [Int.fdiv_eq_ediv_of_nonneg _ (by decide)]; rfl
     refine tr_wk (st' := ⟨[(0, cS U32 a), (1, cS U32 b), (5, .c (.X 1005000)), (6, cI i), (8, cU (a.getD i 0)), (9, cI k), (10, cU s), (18, cI a.length), (19, cI i), (28, cI b.length), (29, cI k)], [(1005000, .vec 132 U32 o)], 12, []⟩) (wk ⟨sR rfl, sR rfl, sR rfl, sR rfl, sR rfl, sR rfl, sE rfl ?_, sR rfl, sR rfl, sR rfl, sR rfl, trivial⟩ ⟨bR rfl, trivial⟩) ?_
     ·exact cgU e0
     refine rr rfl (rt rfl (bkT (rt rfl (at_loop (k + 1, o.set (i + k) (s % 4294967296), s / 4294967296) hn (by show b.length - (k + 1) < b.length - k; omega) (wk ⟨sR rfl, sR rfl, sR rfl, sR rfl, sE rfl ?_, sR rfl, sR rfl, sR rfl, sR rfl, sE rfl ?_, trivial⟩ ⟨bE rfl ?_, trivial⟩)))))
     ·exact cgU e2
     ·rfl
     ·rw [e1, eik]
    ·have h2 : ¬ k < b.length := by simpa using h2
     have hk : k = b.length := by have := hI.k; simp only at this; omega
     subst hk
     have hd := hI.done h
     have eik : ((i : Int) + (b.length : Int)).toNat = i + b.length := by omega
     have e1 : IntKind.wrap .u32 c = c := wrap_u32 c hc0 hc1
     refine xlE (at_then (rt rfl (bkT (rt rfl (at_loop (i + 1, o.set (i + b.length) c) hd (by show a.length - (i + 1) < a.length - i; omega) (wk ⟨sR rfl, sR rfl, sR rfl, sR rfl, sE rfl ?_, trivial⟩ ⟨bE rfl ?_, trivial⟩))))))
     ·rfl
     ·rw [e1, eik]
  ·have h : ¬ i < a.length := by simpa using h
   have hi : i = a.length := by have := hO.i; simp only at this; omega
   subst hi
   refine xlE (at_then (tr_frz 1005000 rfl rfl rfl (rb ?_)))
   refine rc rfl rfl (trim_s _) (re rfl (rtE rfl ?_))
   have hv := hO.v
   simp only [List.take_length] at hv
   rw [trimW_eq hO.r]
   simp only [hv]
theorem isum_z (m k : Nat) (hm : (wordsN m).length ≤ 1099511627776) (hk : (wordsN k).length ≤ 1099511627776) : FnS Tryz.prog 104 [cS U32 (wordsN m), cS U32 (wordsN k)] (cS U32 (wordsN (m + k))) := by
 have := isum_s (wordsN m) (wordsN k) (rng_words m) (rng_words k) hm hk
 rw [val_words, val_words, show ((m : Int) + (k : Int)).toNat = m + k by omega] at this
 exact this
theorem iproduct_z (m k : Nat) (hm : (wordsN m).length ≤ 1099511627776) (hk : (wordsN k).length ≤ 1099511627776) : FnS Tryz.prog 106 [cS U32 (wordsN m), cS U32 (wordsN k)] (cS U32 (wordsN (m * k))) := by
 have := iproduct_s (wordsN m) (wordsN k) (rng_words m) (rng_words k) hm hk
 rw [val_words, val_words, show ((m : Int) * (k : Int)).toNat = m * k by rw [← Int.natCast_mul]; rfl] at this
 exact this
theorem iMul_s (a b : Int) (ha : Sm a) (hb : Sm b) : FnS Tryz.prog 53 [aZ a, aZ b] (aZ (a * b)) := by
 refine fsI Tryz.func53 ?_
 refine rr rfl (rb ?_)
 refine rc rfl rfl (iproduct_z _ _ ha hb) (rc rfl rfl (isigned_z _ _) (re rfl (rtE rfl ?_)))
 have e2 : sg (zneg a != zneg b) (a.natAbs * b.natAbs) = a * b := by
  have ea := sg_self a
  have eb := sg_self b
  generalize a.natAbs = x at ea ⊢
  generalize b.natAbs = y at eb ⊢
  cases hza : zneg a <;> cases hzb : zneg b <;> rw [hza] at ea <;> rw [hzb] at eb <;> simp only [sg, if_true, if_false, Bool.false_eq_true] at ea eb <;> rw [← ea, ← eb] <;> simp [sg] <;> grind
 exact congrArg aZ e2
def lenN (n : Nat) : Nat := if n = 0 then 0 else Nat.log2 n + 1
set_option maxHeartbeats 2000000 in
theorem ilen_s (n : Nat) (hn : n ≤ 12) : FnS Tryz.prog 149 [cU n] (cI (lenN n)) := by
 have wu8 : IntKind.wrap .u8 (n : Int) = (n : Int) := by simp [IntKind.wrap, IntKind.bits, IntKind.signed]; omega
 have e8 : strAt len8 (n : Int) = some ((lenN n : Nat) : Int) := by
  have : ∀ m : Fin 13, strAt len8 ((m : Nat) : Int) = some ((lenN m : Nat) : Int) := by decide +kernel
  exact this ⟨n, by omega⟩
 have l4 : lenN n ≤ 4 := by
  have : ∀ m : Fin 13, lenN m ≤ 4 := by decide
  exact this ⟨n, by omega⟩
 have h64 : FnS Tryz.prog 174 [cU n] (cI (lenN n)) := by
  refine fsI Tryz.func174 ?_
  refine rr rfl (tr_seq (rr rfl (tr_cond rfl (fun h => ?_) (fun _ => skT ?_))))
  ·exfalso
   have h : (4294967296 : Int) ≤ (n : Int) := of_decide_eq_true h
   omega
  refine tr_seq (rr rfl (tr_cond rfl (fun h => ?_) (fun _ => skT ?_)))
  ·exfalso
   have h : (65536 : Int) ≤ (n : Int) := of_decide_eq_true h
   omega
  refine tr_seq (rr rfl (tr_cond rfl (fun h => ?_) (fun _ => skT ?_)))
  ·exfalso
   have h : (256 : Int) ≤ (n : Int) := of_decide_eq_true h
   omega
  refine rb (rx (x := .c (.I .u8 (lenN n : Nat))) (pm := .le 0 (IntKind.wrap .u8 (n : Int))) rfl (evalM_str rfl rfl rfl rfl (by rw [wu8]; exact e8)) (by rw [wu8]; exact Int.natCast_nonneg n) (hp := by simp only [Pr.an, Pr.h, num, i64r, true_and, and_true]; first | done | omega) (re rfl (hp := by simp only [Pr.an, Pr.h, num, i64r, true_and, and_true]; first | done | omega) (rtE rfl (cgJ ?_))))
  exact Int.zero_add _
 refine fsI Tryz.func149 ?_
 refine rr rfl (tr_seq (tr_cond rfl (fun h => by cases h) (fun _ => skT ?_)))
 exact rbc rfl rfl h64 rfl (rtR rfl)
end Go.El

namespace Go.El
open Go Go.RowKit
theorem FnV.fs {P : Program} {f : FuncId} {args : List AV} {E : TypeId} {T : ET} {xs : List T.den} (h : FnV P f args E T xs) : FnS P f args (.c (.S T xs)) := by
 refine ⟨h.call, rfl, fun H W vs hs hv cs => ?_⟩
 let ⟨e, w', fr, ⟨v, H', e1, hrep, hle, hfr, hsub, hbel⟩, h2⟩ := h.spec H W vs hs hv cs
 refine ⟨e, w', fr, ?_, h2⟩
 rcases hrep with ⟨hγ, hx⟩ | ⟨b, cap, us, hγ, hh, hvl, hcl, hlen, hr, hN, hz⟩
 ·subst hx
  refine ⟨v, H', e1, ?_, hle, hfr, hsub, hbel⟩
  have hγ : v = .slice none 0 0 := hγ
  exact ⟨none, 0, hγ, by simp, by simp, .inl rfl⟩
 ·have hγ : v = .slice (some ⟨b, 0, none⟩) xs.length cap := hγ
  have hFLe : FLe H' (fun b' o => if b' = b then (if o < xs.length * T.n then us[o]? else none) else H' b' o) := by
   intro b' o v hv
   by_cases e : b' = b
   ·subst e
    have : H' b' o = none := hz o
    rw [this] at hv; cases hv
   ·simp [e, hv]
  refine ⟨v, fun b' o => if b' = b then (if o < xs.length * T.n then us[o]? else none) else H' b' o, e1, ?_, FLe.trans hle hFLe, ?_, ?_, hbel⟩
  ·refine ⟨some ⟨b, 0, none⟩, cap, hγ, hcl, hlen, ?_⟩
   by_cases hx : xs = []
   ·exact .inl hx
   ·refine .inr ⟨b, 0, rfl, fun k hk => ⟨(us.drop (k * T.n)).take T.n, RelD.length T _ _ (hr k hk), RelD.mono hFLe T _ _ (hr k hk), fun j hj => ?_⟩⟩
    have hk2 : (k + 1) * T.n ≤ cap * T.n := Nat.mul_le_mul_right _ (by omega)
    have hk3 : (k + 1) * T.n ≤ xs.length * T.n := Nat.mul_le_mul_right _ (by omega)
    rw [Nat.add_mul, Nat.one_mul] at hk2 hk3
    simp only [List.length_take, List.length_drop] at hj
    have hlt : k * T.n + j < xs.length * T.n := by omega
    simp only [if_true, Nat.zero_add, List.getElem_take, List.getElem_drop, hlt]
    exact List.getElem?_eq_getElem (by omega)
  ·intro b' o hb'
   have : b' ≠ b := by omega
   simp only [this, if_false]
   exact hfr b' o hb'
  ·intro b' o u hv
   by_cases e : b' = b
   ·subst e
    simp only [if_true] at hv
    split at hv
    ·simp [World.cell?, hh, hv]
    ·cases hv
   ·simp only [e, if_false] at hv
    exact hsub b' o u hv
theorem tr_mid {P : Program} {n : Nat} {x y : Code} {st : St} {Q : Post} {α : Type} (stM : α → St) (φ : α → Prop) (hrest : ∀ m, φ m → TR P n y (stM m) Q) (h : (∀ m, φ m → AtQ n .normal (stM m) (thenQ P y Q)) → TR P n x st (thenQ P y Q)) : TR P n (.seq x y) st Q :=
 tr_seq (h fun m hm => at_then (hrest m hm))
theorem tr_mid1 {P : Program} {n : Nat} {x y : Code} {st : St} {Q : Post} (st1 : St) (hrest : TR P n y st1 Q) (h : AtQ n .normal st1 (thenQ P y Q) → TR P n x st (thenQ P y Q)) : TR P n (.seq x y) st Q :=
 tr_seq (h (at_then hrest))
theorem at_mid {n : Nat} {e : Exit} {st st' : St} {Q : Post} (h : AtQ n e st' Q) (hw : Wk st st') : AtQ n e st Q := at_wk hw h
end Go.El

namespace Go.El
open Go Go.Proofs
theorem or_u64 (x c : Int) (s : Nat) (hx : 0 ≤ x) (hd : x % 2 ^ s = 0) (hc : 0 ≤ c) (hcs : c < 2 ^ s) (h : x + c < 18446744073709551616) :
  IntKind.wrap .u64 ((BitVec.ofInt (IntKind.bits .u64) x ||| BitVec.ofInt (IntKind.bits .u64) c).toNat : Int) = x + c := by
 obtain ⟨X, rfl⟩ := Int.eq_ofNat_of_zero_le hx
 obtain ⟨C, rfl⟩ := Int.eq_ofNat_of_zero_le hc
 have e1 : ((X : Int) % 2 ^ s) = ((X % 2 ^ s : Nat) : Int) := by simp
 rw [e1] at hd
 have hcs : C < 2 ^ s := by
  have : ((C : Nat) : Int) < ((2 ^ s : Nat) : Int) := by rw [Int.natCast_pow]; exact hcs
  omega
 have e2 : (BitVec.ofInt (IntKind.bits .u64) (X : Int) ||| BitVec.ofInt (IntKind.bits .u64) (C : Int)).toNat = X + C := by
  rw [BitVec.ofInt_natCast, BitVec.ofInt_natCast, BitVec.toNat_or, BitVec.toNat_ofNat, BitVec.toNat_ofNat, show IntKind.bits .u64 = 64 from rfl, Nat.mod_eq_of_lt (by omega), Nat.mod_eq_of_lt (by omega)]
  have e3 : X = 2 ^ s * (X / 2 ^ s) := by have := Nat.div_add_mod X (2 ^ s); omega
  rw [e3, ← Nat.two_pow_add_eq_or_of_lt hcs]
 rw [e2, wrap_u64 _ (by omega) (by omega)]; omega
theorem shl_u64 (x : Int) (s : Nat) (h0 : 0 ≤ x) (hs : s ≤ 64) (h : x * 2 ^ s < 18446744073709551616) : IntKind.wrap .u64 (x * 2 ^ (min ((s : Nat) : Int).toNat (IntKind.bits .u64))) = x * 2 ^ s := by
 rw [Int.toNat_natCast, show min s (IntKind.bits .u64) = s from Nat.min_eq_left hs, wrap_u64 _ (Int.mul_nonneg h0 (Int.pow_nonneg (by decide))) h]
theorem shr_u64 (x : Int) (s : Nat) (hs : s ≤ 64) : x.fdiv (2 ^ (min ((s : Nat) : Int).toNat (IntKind.bits .u64))) = x / 2 ^ s := by
 rw [Int.toNat_natCast, show min s (IntKind.bits .u64) = s from Nat.min_eq_left hs, Int.fdiv_eq_ediv_of_nonneg _ (Int.pow_nonneg (by decide))]
theorem shr_u32 (x : Int) (s : Nat) (hs : s ≤ 32) : x.fdiv (2 ^ (min ((s : Nat) : Int).toNat (IntKind.bits .u32))) = x / 2 ^ s := by
 rw [Int.toNat_natCast, show min s (IntKind.bits .u32) = s from Nat.min_eq_left hs, Int.fdiv_eq_ediv_of_nonneg _ (Int.pow_nonneg (by decide))]
theorem len32_s (x : Nat) (h0 : 0 < x) (hx : x < 4294967296) : ∃ l : Nat, FnS Tryz.prog 164 [cW x] (cI l) ∧ l ≤ 32 ∧ 1 ≤ l ∧ x < 2 ^ l ∧ 2 ^ l ≤ 2 * x := by
 obtain ⟨y, n, hn, hy, ex⟩ : ∃ y n : Nat, (n = 0 ∧ y = x ∧ x < 256 ∨ n = 8 ∧ y = x / 256 ∧ 256 ≤ x ∧ x < 65536 ∨ n = 16 ∧ y = x / 65536 ∧ 65536 ≤ x ∧ x < 16777216 ∨ n = 24 ∧ y = x / 65536 / 256 ∧ 16777216 ≤ x) ∧ y < 256 ∧ 0 < y := by
  by_cases a1 : x < 256
  ·exact ⟨x, 0, .inl ⟨rfl, rfl, a1⟩, a1, h0⟩
  ·by_cases a2 : x < 65536
   ·exact ⟨x / 256, 8, .inr (.inl ⟨rfl, rfl, by omega, a2⟩), by omega, by omega⟩
   ·by_cases a3 : x < 16777216
    ·exact ⟨x / 65536, 16, .inr (.inr (.inl ⟨rfl, rfl, by omega, a3⟩)), by omega, by omega⟩
    ·exact ⟨x / 65536 / 256, 24, .inr (.inr (.inr ⟨rfl, rfl, by omega⟩)), by omega, by omega⟩
 let ⟨l, el, h1, h2, h3⟩ := len8_ok hy
 have h3 : 2 ^ l ≤ 2 * y := by omega
 have l1 : 1 ≤ l := by
  by_cases e : l = 0
  ·subst e; simp at h2; omega
  ·omega
 refine ⟨n + l, ?_, by omega, by omega, ?_, ?_⟩
 ·have sh16 : (x : Int).fdiv (2 ^ (min ((16 : Nat) : Int).toNat (IntKind.bits .u32))) = ((x / 65536 : Nat) : Int) := by rw [shr_u32 _ _ (by omega)]; omega
  have sh8 : ∀ z : Nat, (z : Int).fdiv (2 ^ (min ((8 : Nat) : Int).toNat (IntKind.bits .u32))) = ((z / 256 : Nat) : Int) := fun z => by rw [shr_u32 _ _ (by omega)]; omega
  have wu8 : ∀ z : Nat, z < 256 → IntKind.wrap .u8 (z : Int) = (z : Int) := fun z hz => by simp [IntKind.wrap, IntKind.bits, IntKind.signed]; omega
  refine fsI Tryz.func164 ?_
  refine rr rfl (tr_seq (rr rfl ?_))
  refine tr_cond rfl (fun c1 => ?_) (fun c1 => ?_)
  ·have c1 : 65536 ≤ x := by
    have c1 : (65536 : Int) ≤ (x : Int) := of_decide_eq_true c1
    omega
   refine rr rfl (hp := by simp only [Pr.an, Pr.h, num, i64r, true_and, and_true]; first | done | omega) (rt rfl (at_then (tr_seq (rr rfl ?_))))
   refine tr_cond rfl (fun c2 => ?_) (fun c2 => ?_)
   ·have c2 : 256 ≤ x / 65536 := by
     have c2 : (256 : Int) ≤ (x : Int).fdiv (2 ^ (min ((16 : Nat) : Int).toNat (IntKind.bits .u32))) := of_decide_eq_true c2
     rw [sh16] at c2
     omega
    refine rr rfl (hp := by simp only [Pr.an, Pr.h, num, i64r, true_and, and_true]; first | done | omega) (rt rfl (hp := by simp only [Pr.an, Pr.h, num, i64r, true_and, and_true]; first | done | omega) (at_then ?_))
    refine tr_wk (st' := ⟨[(0, cW y), (2, cI n)], [], 9, []⟩) (wk ⟨⟨_, rfl, AVle.of_eq (cgW (by show Int.fdiv (Int.fdiv (x : Int) (2 ^ (min ((16 : Nat) : Int).toNat (IntKind.bits .u32)))) (2 ^ (min ((8 : Nat) : Int).toNat (IntKind.bits .u32))) = _; rw [sh16, sh8]; omega))⟩, ⟨_, rfl, AVle.of_eq (cgJ (by omega))⟩, trivial⟩ trivial) ?_
    refine rb (rx (x := .c (.I .u8 l)) (pm := .le 0 (IntKind.wrap .u8 (y : Int))) rfl (evalM_str rfl rfl rfl rfl (by rw [wu8 y hy]; exact el)) (by rw [wu8 y hy]; exact Int.natCast_nonneg y) (hp := by simp only [Pr.an, Pr.h, num, i64r, true_and, and_true]; first | done | omega) (re rfl (hp := by simp only [Pr.an, Pr.h, num, i64r, true_and, and_true]; first | done | omega) (rtE rfl (cgJ ?_))))
    show (n : Int) + (l : Int) = ((n + l : Nat) : Int)
    omega
   ·have c2 : x / 65536 < 256 := by
     have c2 : ¬ (256 : Int) ≤ (x : Int).fdiv (2 ^ (min ((16 : Nat) : Int).toNat (IntKind.bits .u32))) := of_decide_eq_false c2
     rw [sh16] at c2
     omega
    refine skT ?_
    refine tr_wk (st' := ⟨[(0, cW y), (2, cI n)], [], 5, []⟩) (wk ⟨⟨_, rfl, AVle.of_eq (cgW (by show Int.fdiv (x : Int) (2 ^ (min ((16 : Nat) : Int).toNat (IntKind.bits .u32))) = _; rw [sh16]; omega))⟩, ⟨_, rfl, AVle.of_eq (cgJ (by omega))⟩, trivial⟩ trivial) ?_
    refine rb (rx (x := .c (.I .u8 l)) (pm := .le 0 (IntKind.wrap .u8 (y : Int))) rfl (evalM_str rfl rfl rfl rfl (by rw [wu8 y hy]; exact el)) (by rw [wu8 y hy]; exact Int.natCast_nonneg y) (hp := by simp only [Pr.an, Pr.h, num, i64r, true_and, and_true]; first | done | omega) (re rfl (hp := by simp only [Pr.an, Pr.h, num, i64r, true_and, and_true]; first | done | omega) (rtE rfl (cgJ ?_))))
    show (n : Int) + (l : Int) = ((n + l : Nat) : Int)
    omega
  ·have c1 : x < 65536 := by
    have c1 : ¬ (65536 : Int) ≤ (x : Int) := of_decide_eq_false c1
    omega
   refine skT (tr_seq (rr rfl ?_))
   refine tr_cond rfl (fun c2 => ?_) (fun c2 => ?_)
   ·have c2 : 256 ≤ x := by
     have c2 : (256 : Int) ≤ (x : Int) := of_decide_eq_true c2
     omega
    refine rr rfl (hp := by simp only [Pr.an, Pr.h, num, i64r, true_and, and_true]; first | done | omega) (rt rfl (hp := by simp only [Pr.an, Pr.h, num, i64r, true_and, and_true]; first | done | omega) (at_then ?_))
    refine tr_wk (st' := ⟨[(0, cW y), (2, cI n)], [], 5, []⟩) (wk ⟨⟨_, rfl, AVle.of_eq (cgW (by show Int.fdiv (x : Int) (2 ^ (min ((8 : Nat) : Int).toNat (IntKind.bits .u32))) = _; rw [sh8]; omega))⟩, ⟨_, rfl, AVle.of_eq (cgJ (by omega))⟩, trivial⟩ trivial) ?_
    refine rb (rx (x := .c (.I .u8 l)) (pm := .le 0 (IntKind.wrap .u8 (y : Int))) rfl (evalM_str rfl rfl rfl rfl (by rw [wu8 y hy]; exact el)) (by rw [wu8 y hy]; exact Int.natCast_nonneg y) (hp := by simp only [Pr.an, Pr.h, num, i64r, true_and, and_true]; first | done | omega) (re rfl (hp := by simp only [Pr.an, Pr.h, num, i64r, true_and, and_true]; first | done | omega) (rtE rfl (cgJ ?_))))
    show (n : Int) + (l : Int) = ((n + l : Nat) : Int)
    omega
   ·have c2 : x < 256 := by
     have c2 : ¬ (256 : Int) ≤ (x : Int) := of_decide_eq_false c2
     omega
    refine skT ?_
    refine tr_wk (st' := ⟨[(0, cW y), (2, cI n)], [], 3, []⟩) (wk ⟨⟨_, rfl, AVle.of_eq (cgW (show (x : Int) = (y : Int) by omega))⟩, ⟨_, rfl, AVle.of_eq (cgJ (by omega))⟩, trivial⟩ trivial) ?_
    refine rb (rx (x := .c (.I .u8 l)) (pm := .le 0 (IntKind.wrap .u8 (y : Int))) rfl (evalM_str rfl rfl rfl rfl (by rw [wu8 y hy]; exact el)) (by rw [wu8 y hy]; exact Int.natCast_nonneg y) (hp := by simp only [Pr.an, Pr.h, num, i64r, true_and, and_true]; first | done | omega) (re rfl (hp := by simp only [Pr.an, Pr.h, num, i64r, true_and, and_true]; first | done | omega) (rtE rfl (cgJ ?_))))
    show (n : Int) + (l : Int) = ((n + l : Nat) : Int)
    omega
 ·rcases hn with ⟨e1, e2, a⟩ | ⟨e1, e2, a⟩ | ⟨e1, e2, a⟩ | ⟨e1, e2, a⟩
  ·subst e1 e2; simpa using h2
  ·subst e1; rw [Nat.pow_add]; omega
  ·subst e1; rw [Nat.pow_add]; omega
  ·subst e1; rw [Nat.pow_add]; omega
 ·rcases hn with ⟨e1, e2, a⟩ | ⟨e1, e2, a⟩ | ⟨e1, e2, a⟩ | ⟨e1, e2, a⟩
  ·subst e1 e2; simpa using h3
  ·subst e1; rw [Nat.pow_add]; omega
  ·subst e1; rw [Nat.pow_add]; omega
  ·subst e1; rw [Nat.pow_add]; omega
theorem lz32_s (x : Nat) (h0 : 0 < x) (hx : x < 4294967296) : ∃ s : Nat, FnS Tryz.prog 141 [cW x] (cI s) ∧ s ≤ 31 ∧ 2147483648 ≤ x * 2 ^ s ∧ x * 2 ^ s < 4294967296 := by
 let ⟨l, hf, h1, h2, h3, h4⟩ := len32_s x h0 hx
 have e : 2 ^ l * 2 ^ (32 - l) = 4294967296 := by rw [← Nat.pow_add, show l + (32 - l) = 32 by omega]
 have hp : 0 < 2 ^ (32 - l) := Nat.pow_pos (by decide)
 have a1 : x * 2 ^ (32 - l) < 2 ^ l * 2 ^ (32 - l) := Nat.mul_lt_mul_of_pos_right h3 hp
 have a2 : 2 ^ l * 2 ^ (32 - l) ≤ 2 * x * 2 ^ (32 - l) := Nat.mul_le_mul_right _ h4
 rw [Nat.mul_assoc] at a2
 refine ⟨32 - l, ?_, by omega, by omega, by omega⟩
 refine fsI Tryz.func141 ?_
 refine rr rfl (rb (rc rfl rfl hf (re rfl (hp := by simp only [Pr.an, Pr.h, num, i64r, true_and, and_true]; first | done | omega) (rtE rfl (cgJ ?_)))))
 show (32 : Int) - (l : Int) = ((32 - l : Nat) : Int)
 omega
set_option maxHeartbeats 1000000 in
theorem idivideSmall_s (a : List Int) (d : Int) (ha : rng a) (hd0 : 0 < d) (hd : d < 4294967296) (la : a.length ≤ 1099511627776) : FnS Tryz.prog 140 [cS U32 a, cU d] (.t [(false, [.S U32 (wordsN (val a / d).toNat)]), (false, [.I .u64 (val a % d)])]) := by
 refine fsI Tryz.func140 ?_
 refine rr rfl (rb ?_)
 refine rm U32 a.length rfl rfl rfl rfl rfl rfl (zr_int .u32) rfl ?_ ?_ ?_
 ·show _ * 4 ≤ _; omega
 ·show _ * 1 ≤ _; omega
 refine re rfl (rr rfl (tr_seq (rr rfl ?_)))
 refine tr_block (tr_loop (α := Nat × List Int × Int) (fun x => ⟨[(0, cS U32 a), (1, cU d), (6, .c (.X 1002000)), (7, cU x.2.2), (8, cI ((x.1 : Int) - 1))], [(1002000, .vec 132 U32 x.2.1)], 4, []⟩) (DivI a d) (fun x => x.1) (a.length, List.replicate a.length 0, 0) ?_ wkA ?_)
 ·exact ⟨Nat.le_refl _, by simp, rng_rep _, Int.le_refl _, hd0, by simp [val]⟩
 ·rintro ⟨k, q, r⟩ hI
  have hlen : q.length = a.length := hI.len
  have h0 : 0 ≤ r := hI.r0
  have h1 : r < d := hI.r1
  have hk : k ≤ a.length := hI.k
  refine tr_seq (rr rfl ?_)
  refine tr_cond rfl (fun h => ?_) (fun h => ?_)
  ·have h : (k : Int) - 1 ≥ 0 := by simpa using h
   obtain ⟨j, rfl⟩ : ∃ j, k = j + 1 := ⟨k - 1, by omega⟩
   have ej : (((j + 1 : Nat) : Int) - 1).toNat = j := by omega
   have g := rng_get ha j
   have hb := div_bound h0 h1 g.1 g.2 hd
   have hn := hI.next ha hd
   refine skT (tr_seq (tr_block (rr rfl (hp := by simp only [Pr.an, Pr.h, num, i64r, true_and, and_true]; first | done | omega) ?_)))
   have e0 : IntKind.wrap .u64 ((BitVec.ofInt (IntKind.bits .u64) (IntKind.wrap .u64 (r * 2 ^ (min ((32 : Nat) : Int).toNat (IntKind.bits .u64)))) ||| BitVec.ofInt (IntKind.bits .u64) (IntKind.wrap .u64 (a.getD (((j + 1 : Nat) : Int) - 1).toNat 0))).toNat : Int) = r * 4294967296 + a.getD j 0 := by
    rw [ej, shl_u64 r 32 h0 (by omega) (by omega), wrap_u64 (a.getD j 0) (by omega) (by omega), or_u64 (r * 2 ^ 32) (a.getD j 0) 32 (by omega) (Int.mul_emod_left _ _) (by omega) (by omega) (by omega), show (2 : Int) ^ 32 = 4294967296 from rfl]
   generalize ht : r * 4294967296 + a.getD j 0 = s at hn hb e0
   have e1 : IntKind.wrap .u32 (IntKind.wrap .u64 (s.tdiv d)) = s / d := by
    rw [Int.tdiv_eq_ediv_of_nonneg (by omega), wrap_u64 _ (by omega) (by omega), wrap_u32 _ (by omega) (by omega)]
   have e2 : s.tmod d = s % d := Int.tmod_eq_emod_of_nonneg (by omega)
   refine tr_wk (st' := ⟨[(0, cS U32 a), (1, cU d), (6, .c (.X 1002000)), (8, cI (((j + 1 : Nat) : Int) - 1)), (9, cU s)], [(1002000, .vec 132 U32 q)], 6, []⟩) (wk ⟨sR rfl, sR rfl, sR rfl, sR rfl, sE rfl ?_, trivial⟩ ⟨bR rfl, trivial⟩) ?_
   ·exact cgU e0
   refine rr rfl (rt rfl (bkT (rt rfl (at_loop (j, q.set j (s / d), s % d) hn (by show j < j + 1; omega) (wk ⟨sR rfl, sR rfl, sR rfl, sE rfl ?_, sE rfl ?_, trivial⟩ ⟨bE rfl ?_, trivial⟩)))))
   ·exact cgU e2
   ·refine cgJ ?_
    show ((j + 1 : Nat) : Int) - 1 - 1 = (j : Int) - 1
    omega
   ·rw [e1, ej]
  ·have h : ¬ ((k : Int) - 1 ≥ 0) := by simpa using h
   have : k = 0 := by omega
   subst this
   refine xlE (at_then (tr_frz 1002000 rfl rfl rfl (rb ?_)))
   refine rc rfl rfl (trim_s _) (re rfl (rtE rfl ?_))
   have hv : val a = val q * d + r := hI.v
   have hr : rng q := hI.r
   have eq : val a / d = val q := by
    rw [hv, Int.add_comm, Int.add_mul_ediv_right _ _ (by omega), Int.ediv_eq_zero_of_lt h0 h1]; omega
   have er : val a % d = r := by
    rw [hv, Int.add_comm, Int.add_mul_emod_self_right, Int.emod_eq_of_lt h0 h1]
   rw [trimW_eq hr, eq, er]; rfl
theorem shl_carry {a : List Int} (ha : rng a) (s i : Nat) : 0 ≤ val (a.take i) * 2 ^ s / 4294967296 ^ i ∧ val (a.take i) * 2 ^ s / 4294967296 ^ i < 2 ^ s := by
 have h1 := val_nonneg (rng_take ha i)
 have h2 := val_lt (rng_take ha i)
 have h3 := powB_le (m := (a.take i).length) (n := i) (by simp; omega)
 have h4 := powB_pos i
 have h5 : (0 : Int) < 2 ^ s := Int.pow_pos (by decide)
 refine ⟨Int.ediv_nonneg (Int.mul_nonneg h1 (by omega)) (by omega), Int.ediv_lt_of_lt_mul h4 ?_⟩
 rw [Int.mul_comm]
 exact Int.mul_lt_mul_of_pos_left (by omega) h5
theorem shl_next (a : List Int) (s i : Nat) :
  wordsK (i + 1) (val (a.take (i + 1)) * 2 ^ s) = wordsK i (val (a.take i) * 2 ^ s) ++ [(a.getD i 0 * 2 ^ s + val (a.take i) * 2 ^ s / 4294967296 ^ i) % 4294967296] ∧
  val (a.take (i + 1)) * 2 ^ s / 4294967296 ^ (i + 1) = (a.getD i 0 * 2 ^ s + val (a.take i) * 2 ^ s / 4294967296 ^ i) / 4294967296 := by
 have h4 := powB_pos i
 have e : val (a.take (i + 1)) * 2 ^ s = val (a.take i) * 2 ^ s + a.getD i 0 * 2 ^ s * 4294967296 ^ i := by
  rw [val_take_succ', Int.add_mul, Int.mul_assoc, Int.mul_comm (4294967296 ^ i), ← Int.mul_assoc]
 have e2 : val (a.take (i + 1)) * 2 ^ s / 4294967296 ^ i = a.getD i 0 * 2 ^ s + val (a.take i) * 2 ^ s / 4294967296 ^ i := by
  rw [e, Int.add_mul_ediv_right _ _ (by omega), Int.add_comm]
 refine ⟨?_, by rw [ediv_powB, e2]⟩
 rw [wordsK_succ, e2, e, wordsK_add]
theorem set_mid (xs : List Int) (n : Nat) (w : Int) : (xs ++ List.replicate (n + 1) 0).set xs.length w = (xs ++ [w]) ++ List.replicate n 0 := by
 rw [List.set_append_right _ _ (Nat.le_refl _), Nat.sub_self, List.replicate_succ, List.set_cons_zero, List.append_assoc]; rfl
set_option maxHeartbeats 2000000 in
theorem ishl_s (a : List Int) (s : Nat) (ha : rng a) (hs : s ≤ 31) (la : a.length ≤ 1099511627776) : FnV Tryz.prog 142 [cS U32 a, cI s] 132 U32 (wordsK (a.length + 1) (val a * 2 ^ s)) := by
 refine fv_intro Tryz.func142 rfl rfl rfl rfl (by decide) ?_
 have hp2 : (2 : Int) ^ s ≤ 2 ^ 31 := by
  have := Nat.pow_le_pow_right (show 2 > 0 by decide) hs
  have e1 : (2 : Int) ^ s = ((2 ^ s : Nat) : Int) := by simp
  omega
 have hp1 : (0 : Int) < 2 ^ s := Int.pow_pos (by decide)
 refine rr rfl (rb ?_)
 refine rm U32 (a.length + 1) rfl rfl rfl rfl rfl rfl (zr_int .u32) rfl ?_ ?_ ?_
 ·show _ * 4 ≤ _; omega
 ·show _ * 1 ≤ _; omega
 refine re rfl (rr rfl (tr_seq (rr rfl ?_)))
 refine tr_block (tr_loop (α := Nat) (fun i => ⟨[(0, cS U32 a), (1, cI s), (5, .c (.X 1003000)), (6, cU (val (a.take i) * 2 ^ s / 4294967296 ^ i)), (14, cI a.length), (15, cI i)], [(1003000, .vec 132 U32 (wordsK i (val (a.take i) * 2 ^ s) ++ List.replicate (a.length + 1 - i) 0))], 4, []⟩) (fun i => i ≤ a.length) (fun i => a.length - i) 0 (Nat.zero_le _) (wk ⟨sR rfl, sR rfl, sR rfl, sE rfl ?_, sR rfl, sR rfl, trivial⟩ ⟨bE rfl ?_, trivial⟩) ?_)
 ·simp [val]; rfl
 ·simp [wordsK]
 intro i hi
 have hc := shl_carry ha s i
 have hnx := shl_next a s i
 have hwl : (wordsK i (val (a.take i) * 2 ^ s)).length = i := wordsK_len _ _
 generalize hcc : val (a.take i) * 2 ^ s / 4294967296 ^ i = c at hc hnx
 refine rr rfl (tr_seq ?_)
 refine tr_cond rfl (fun h => ?_) (fun h => ?_)
 ·have h : i < a.length := by simpa using h
  have g := rng_get ha i
  have hm0 : 0 ≤ a.getD i 0 * 2 ^ s := Int.mul_nonneg g.1 (by omega)
  have hm1 : a.getD i 0 * 2 ^ s ≤ 4294967295 * 2 ^ 31 := Int.mul_le_mul (by omega) hp2 (by omega) (by decide)
  refine skT (tr_seq (tr_block (rr rfl (rr rfl (hp := by simp only [Pr.an, Pr.h, num, i64r, true_and, and_true]; first | done | omega) ?_))))
  have e0 : IntKind.wrap .u64 ((BitVec.ofInt (IntKind.bits .u64) (IntKind.wrap .u64 (IntKind.wrap .u64 (a.getD (i : Int).toNat 0) * 2 ^ (min ((s : Nat) : Int).toNat (IntKind.bits .u64)))) ||| BitVec.ofInt (IntKind.bits .u64) c).toNat : Int) = a.getD i 0 * 2 ^ s + c := by
   rw [Int.toNat_natCast i, wrap_u64 (a.getD i 0) (by omega) (by omega), shl_u64 _ s g.1 (by omega) (by omega), or_u64 _ c s hm0 (Int.mul_emod_left _ _) hc.1 hc.2 (by omega)]
  generalize ht : a.getD i 0 * 2 ^ s + c = t at *
  refine tr_wk (st' := ⟨[(0, cS U32 a), (1, cI s), (5, .c (.X 1003000)), (7, cI i), (8, cU t), (14, cI a.length), (15, cI i)], [(1003000, .vec 132 U32 (wordsK i (val (a.take i) * 2 ^ s) ++ List.replicate (a.length + 1 - i) 0))], 7, []⟩) (wk ⟨sR rfl, sR rfl, sR rfl, sR rfl, sE rfl ?_, sR rfl, sR rfl, trivial⟩ ⟨bR rfl, trivial⟩) ?_
  ·exact cgU e0
  have hrl : (wordsK i (val (a.take i) * 2 ^ s) ++ List.replicate (a.length + 1 - i) (0 : Int)).length = a.length + 1 := by rw [List.length_append, hwl, List.length_replicate]; omega
  refine rr rfl (hp := by simp only [Pr.an, Pr.h, num, i64r, true_and, and_true]; first | done | omega) (rt rfl (hp := by simp only [Pr.an, Pr.h, num, i64r, true_and, and_true]; first | done | omega) (bkT (rt rfl (at_loop (i + 1) h (by show a.length - (i + 1) < a.length - i; omega) (wk ⟨sR rfl, sR rfl, sR rfl, sE rfl ?_, sR rfl, sR rfl, trivial⟩ ⟨bE rfl ?_, trivial⟩)))))
  ·refine cgU ?_
   rw [hnx.2]; exact shr_u64 t 32 (by omega)
  ·refine congrArg (Blk.vec 132 U32) ?_
   have e1 : IntKind.wrap .u32 t = t % 4294967296 := by simp [IntKind.wrap, IntKind.bits, IntKind.signed]
   have e2 := set_mid (wordsK i (val (a.take i) * 2 ^ s)) (a.length - i) (t % 4294967296)
   rw [hwl, show a.length - i + 1 = a.length + 1 - i by omega] at e2
   rw [e1, Int.toNat_natCast, e2, hnx.1, show a.length - i = a.length + 1 - (i + 1) by omega]
 ·have h : ¬ i < a.length := by simpa using h
  have e : i = a.length := by omega
  subst e
  have hcB : c < 4294967296 := by omega
  have hrl : (wordsK a.length (val (a.take a.length) * 2 ^ s) ++ List.replicate (a.length + 1 - a.length) (0 : Int)).length = a.length + 1 := by rw [List.length_append, hwl, List.length_replicate]; omega
  refine xlE (at_then (rr rfl (hp := by simp only [Pr.an, Pr.h, num, i64r, true_and, and_true]; first | done | omega) (rr rfl ?_)))
  refine tr_wk (st' := ⟨[(4, .c (.X 1003000))], [(1003000, .vec 132 U32 (wordsK (a.length + 1) (val a * 2 ^ s)))], 20, []⟩) (wk ⟨sR rfl, trivial⟩ ⟨bE rfl ?_, trivial⟩) (tr_ret (at_retV (id := 1003000) TT_ok rfl rfl))
  refine congrArg (Blk.vec 132 U32) ?_
  have e2 := set_mid (wordsK a.length (val (a.take a.length) * 2 ^ s)) 0 c
  rw [hwl] at e2
  rw [wrap_u32 c hc.1 hcB, Int.toNat_natCast, show a.length + 1 - a.length = 0 + 1 by omega, e2, List.replicate_zero, List.append_nil, wordsK_succ, List.take_length]
  rw [List.take_length] at hcc
  rw [hcc, Int.emod_eq_of_lt hc.1 hcB]
end Go.El
