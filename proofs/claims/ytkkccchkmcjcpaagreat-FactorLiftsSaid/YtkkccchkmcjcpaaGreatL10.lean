/- Contracts: lifting of factors, the second part: the steps. Own work; no condition. -/
import Derived.RangeFuncOwn
import Derived.RangeFuncLeaves
import Derived.Scope
import Derived.Test.YtkkccchkmcjcpaaGreatL9
import Derived.Test.YtkkccchkmcjcpaaGreatL7
set_option linter.unusedVariables false
set_option linter.unusedSimpArgs false
namespace Go.El
open Go Go.RowKit Go.Proofs
structure LiA (p : Nat) (a : List Int) (l : Nat → List Int) (r k w : Nat) : Prop where
 H : LiH p l r
 k1 : 1 ≤ k
 k1000 : k ≤ 1000
 la : a.length ≤ 400
 w1000 : w ≤ 1000
 ha : ∀ i, SmB w (a.getD i 0)
 hpl : a.length = (prL l p r).length
theorem prL_le {F : Nat → List Int} {m : Int} : ∀ t j, (∀ i, i < j + t → 1 ≤ (F i).length) → (prL F m j).length ≤ (prL F m (j + t)).length
 | 0, _, _ => Nat.le_refl _
 | t + 1, j, h => by
  have h1 := prL_le (m := m) t j fun i hi => h i (by omega)
  have h2 := h (j + t) (by omega)
  have h3 : (prL F m (j + (t + 1))).length = (prL F m (j + t)).length + (F (j + t)).length - 1 := tmL_len _ _ _
  omega
def restP (a pr : List Int) (next q : Int) (t : Nat) : List Int := (List.range a.length).map fun i => if i < t then (a.getD i 0 - pr.getD i 0) % next / q else 0
theorem restP_len (a pr : List Int) (next q : Int) (t : Nat) : (restP a pr next q t).length = a.length := by simp [restP]
theorem restP_get (a pr : List Int) (next q : Int) (t : Nat) {i : Nat} (h : i < a.length) : (restP a pr next q t).getD i 0 = if i < t then (a.getD i 0 - pr.getD i 0) % next / q else 0 := getDm _ _ h
theorem restP_zero (a pr : List Int) (next q : Int) : List.replicate a.length (0 : Int) = restP a pr next q 0 := by
 refine ext_getD (by rw [restP_len, List.length_replicate]) fun j hj => ?_
 rw [List.length_replicate] at hj
 rw [restP_get _ _ _ _ _ hj, if_neg (by omega), List.getD_eq_getElem?_getD, List.getElem?_replicate, if_pos hj]; rfl
theorem restP_succ (a pr : List Int) (next q : Int) (t : Nat) (ht : t < a.length) : (restP a pr next q t).set t ((a.getD t 0 - pr.getD t 0) % next / q) = restP a pr next q (t + 1) := by
 refine ext_getD (by rw [List.length_set, restP_len, restP_len]) fun j hj => ?_
 rw [List.length_set, restP_len] at hj
 rw [getD_set_eq _ _ _ _ (by rw [restP_len]; exact ht), restP_get _ _ _ _ _ hj, restP_get _ _ _ _ _ hj]
 by_cases e : t = j
 ·subst e; rw [if_pos (by simp), if_pos (by omega)]
 ·by_cases e2 : j < t
  ·rw [if_neg (by omega), if_pos e2, if_pos (by omega)]
  ·rw [if_neg (by omega), if_neg e2, if_neg (by omega)]
theorem restP_all (a pr : List Int) (next q : Int) : restP a pr next q a.length = restL a pr next q := by
 unfold restP restL
 exact List.map_congr_left fun i hi => if_pos (List.mem_range.1 hi)
theorem cellN_get {r j : Nat} (h : j < r) : ((List.range r).map fun i => C.X (1 + i))[0 + ((j : Int)).toNat * 1]? = some (.X (1 + j)) := by
 rw [Int.toNat_natCast, Nat.zero_add, Nat.mul_one, List.getElem?_map, List.getElem?_range h]; rfl
section
variable {p : Nat} {a : List Int} {l : Nat → List Int} {r k w : Nat} (A : LiA p a l r k w) {s : Nat}
include A
theorem LiA.qpos (s : Nat) : (0 : Int) < (p : Int) ^ s := Int.pow_pos (by have := A.H.hp.1; omega)
theorem LiA.qB (s : Nat) : SmB (s + 1) ((p : Int) ^ s) := powp_B A.H.hp31 s
theorem LiA.q1 (s : Nat) : (1 : Int) < (p : Int) ^ (s + 1) := by
 have h1 := A.qpos s
 have h2 := A.H.hp.1
 rw [Int.pow_succ]
 have := Int.mul_le_mul_of_nonneg_left (show (2 : Int) ≤ (p : Int) by omega) (Int.le_of_lt h1)
 omega
theorem LiA.FB (s i : Nat) (hi : i < r) (j : Nat) : SmB (s + 2) ((liftS p a l r s i).getD j 0) := by
 obtain ⟨_, h⟩ := A.H.st a s i hi
 exact SmB.lt (h j).1 (h j).2 (A.qB (s + 1))
theorem LiA.Flen (s i : Nat) (hi : i < r) : (liftS p a l r s i).length = (l i).length := (A.H.st a s i hi).1
theorem LiA.Fne (s i : Nat) (hi : i < r) : liftS p a l r s i ≠ [] := fun e => by
 have h1 := A.Flen s i hi
 have h2 := A.H.l2 i hi
 rw [e] at h1; simp at h1; omega
theorem LiA.Plen (s : Nat) (m : Int) : (prL (liftS p a l r s) m r).length = a.length := by
 rw [A.hpl]; exact prL_len2 r fun i hi => A.Flen s i hi
theorem LiA.Ple (s : Nat) (m : Int) (j : Nat) (hj : j ≤ r) : 1 ≤ (prL (liftS p a l r s) m j).length ∧ (prL (liftS p a l r s) m j).length ≤ a.length := by
 have h0 : ∀ i, i < r → 1 ≤ (liftS p a l r s i).length := fun i hi => List.length_pos_iff.2 (A.Fne s i hi)
 refine ⟨prL_len j fun i hi => h0 i (by omega), ?_⟩
 have h := prL_le (F := liftS p a l r s) (m := m) (r - j) j fun i hi => h0 i (by omega)
 rw [show j + (r - j) = r by omega, A.Plen s m] at h
 exact h
theorem LiA.PB (s j t : Nat) : SmB (s + 3) ((prL (liftS p a l r s) ((p : Int) ^ (s + 1) * (p : Int)) j).getD t 0) := by
 have h := A.q1 (s + 1)
 rw [Int.pow_succ] at h
 have h2 := A.qB (s + 2)
 rw [Int.pow_succ] at h2
 obtain ⟨h3, h4⟩ := prL_rng (F := liftS p a l r s) h j t
 exact SmB.lt h3 h4 h2
end
def gP (p : Nat) (a : List Int) (l : Nat → List Int) (r s i : Nat) (C : List Int) (t : Nat) : Nat → List Int := fun q => if q < i then liftS p a l r (s + 1) q else if q = i then updP (liftS p a l r s i) C ((p : Int) ^ (s + 1)) t else liftS p a l r s q
theorem gP_zero (p : Nat) (a : List Int) (l : Nat → List Int) (r s i : Nat) (C : List Int) (q : Nat) : gP p a l r s i C 0 q = if q < i then liftS p a l r (s + 1) q else liftS p a l r s q := by
 unfold gP
 split
 ·rfl
 ·split
  ·rename_i e; subst e; exact updP_zero _ _ _
  ·rfl
theorem gP_self (p : Nat) (a : List Int) (l : Nat → List Int) (r s i : Nat) (C : List Int) (t : Nat) : gP p a l r s i C t i = updP (liftS p a l r s i) C ((p : Int) ^ (s + 1)) t := by
 unfold gP; rw [if_neg (by omega), if_pos rfl]
theorem gP_other (p : Nat) (a : List Int) (l : Nat → List Int) (r s i : Nat) (C : List Int) (t u : Nat) {q : Nat} (h : q ≠ i) : gP p a l r s i C t q = gP p a l r s i C u q := by
 unfold gP; rw [if_neg h, if_neg h]
theorem gP_all (p : Nat) (a : List Int) (l : Nat → List Int) (r s i : Nat) (C : List Int) (hC : cofL p a l r ((p : Int) ^ (s + 1)) (liftS p a l r s) i = C) (q : Nat) : gP p a l r s i C C.length q = if q < i + 1 then liftS p a l r (s + 1) q else liftS p a l r s q := by
 by_cases e : q = i
 ·subst e
  rw [gP_self, if_pos (by omega), updP_all _ (Nat.le_refl _), ← hC]; rfl
 ·unfold gP
  rw [if_neg e]
  by_cases e2 : q < i
  ·rw [if_pos e2, if_pos (by omega)]
  ·rw [if_neg e2, if_neg (by omega)]
set_option maxHeartbeats 8000000 in
theorem lift_main {Q : Post} {p : Nat} {l : Nat → List Int} {r : Nat} {a : List Int} {k w : Nat} (A : LiA p a l r k w) (y : Code)
  (rest : TR Tryz.prog 231 y ⟨[(9, .c (.L 1002000 0 r (some r))), (19, .c (.P 6001000 0))], [(6001000, .box 44 0 (av .z ((p : Int) ^ k)))] ++ nst 1002000 57 r 44 .z (liftS p a l r (k - 1)), 9, []⟩ Q) {c0 c1 c2 c3 d0 d1 d2 : Code} (hc : Tryz.f97.body = some (.seq c0 (.seq c1 (.seq c2 (.seq c3 (.seq d0 (.seq d1 (.seq d2 y)))))))) :
  TR Tryz.prog 231 (.seq d0 (.seq d1 (.seq d2 y))) ⟨[(0, cS .z a), (1, cS TP (lsL l r p)), (2, cU p), (3, cI k), (9, .c (.L 1002000 0 r (some r))), (10, .c (.X 2002000))], [(2002000, .vec 101 TP (invI p l r r))] ++ nst 1002000 57 r 44 .z l, 5, []⟩ Q := by
 generalize hz : y = z at rest ⊢
 cases hc
 clear hz
 have hr := A.H.r100
 have h2 := A.H.hp.1
 have hp31 := A.H.hp31
 have hk1 := A.k1
 have hk2 := A.k1000
 have hla := A.la
 have hlsl : (lsL l r p).length = r := by simp [lsL]
 have hls : ∀ i, i < r → (lsL l r p).getD i ([], 0) = (l i, (p : Int)) := fun i hi => getDm _ _ hi
 have hofp : FnS Tryz.prog 100 [.c (num .i64 (p : Int)).1] (aZ p) := iOf_s _ (by omega) (by omega)
 refine rb (rc rfl rfl hofp (re rfl (rr rfl ?_)))
 refine tr_mid1 _ rest (fun mid => rr rfl (tr_block (tr_loop (α := Nat) (fun s => ⟨[(0, cS .z a), (1, cS TP (lsL l r p)), (2, cU p), (9, .c (.L 1002000 0 r (some r))), (10, .c (.X 2002000)), (18, .c (.P 5003000 0)), (19, .c (.P 6001000 0)), (99, cI ((k : Int) - 1)), (100, cI s)], [(2002000, .vec 101 TP (invI p l r r)), (5003000, .box 44 0 (av .z (p : Int))), (6001000, .box 44 0 (av .z ((p : Int) ^ (s + 1))))] ++ nst 1002000 57 r 44 .z (liftS p a l r s), 8, []⟩) (fun s => s + 1 ≤ k) (fun s => k - s) 0 (by omega) ?_ ?_)))
 ·refine wk_nst ⟨sR rfl, sR rfl, sR rfl, sR rfl, sR rfl, sR rfl, sR rfl, sR rfl, sR rfl, trivial⟩ ⟨bR rfl, bR rfl, ⟨_, rfl, BLe.of_eq ?_⟩, trivial⟩ rfl (fun q hq => (by (repeat (refine (lookA_skip (by omega)).trans ?_)); exact lookA_fam (by omega))) (by omega)
  exact congrArg (fun z => Blk.box 44 0 (av .z z)) (by rw [Int.pow_one])
 intro s hs
 have hq := A.qpos (s + 1)
 have hqB := A.qB (s + 1)
 have hnx : (0 : Int) < (p : Int) ^ (s + 1) * p := by rw [← Int.pow_succ]; exact A.qpos (s + 2)
 have hnB : SmB (s + 3) ((p : Int) ^ (s + 1) * (p : Int)) := by rw [← Int.pow_succ]; exact A.qB (s + 2)
 have hpS : Sm (p : Int) := Sm.of (by omega)
 refine rr rfl (tr_seq (tr_cond rfl (fun h => ?_) (fun h => ?_)))
 ·have hsk : s + 1 < k := by
   have h : (s : Int) < (k : Int) - 1 := of_decide_eq_true h
   omega
  have hmul := iMul_s ((p : Int) ^ (s + 1)) p (hqB.sm (by omega)) hpS
  have hone : FnS Tryz.prog 100 [cI 1] (aZ 1) := iOf_s 1 (by omega) (by omega)
  refine tr_skip (at_then (tr_seq (tr_block (rb (rc rfl rfl hmul (re rfl (rb (rc rfl rfl hone (rl .z [1] rfl rfl (re rfl ?_))))))))))
  refine tr_seq (rb (rxl rfl rfl trivial (re rfl (tr_block (tr_loop (α := Nat) (fun j => ⟨[(0, cS .z a), (1, cS TP (lsL l r p)), (2, cU p), (9, .c (.L 1002000 0 r (some r))), (10, .c (.X 2002000)), (18, .c (.P 5003000 0)), (19, .c (.P 6001000 0)), (20, .c (.P 9003000 0)), (21, cS .z (prL (liftS p a l r s) ((p : Int) ^ (s + 1) * (p : Int)) j)), (99, cI ((k : Int) - 1)), (100, cI s), (107, .c (.L 1002000 0 r (some r))), (108, cI r), (109, cI j)], [(2002000, .vec 101 TP (invI p l r r)), (5003000, .box 44 0 (av .z (p : Int))), (6001000, .box 44 0 (av .z ((p : Int) ^ (s + 1)))), (9003000, .box 44 0 (av .z ((p : Int) ^ (s + 1) * (p : Int))))] ++ nst 1002000 57 r 44 .z (liftS p a l r s), 12, []⟩) (fun j => j ≤ r) (fun j => r - j) 0 (Nat.zero_le _) ?_ ?_)))))
  ·exact wk_nst ⟨sR rfl, sR rfl, sR rfl, sR rfl, sR rfl, sR rfl, sR rfl, sR rfl, sR rfl, sR rfl, sR rfl, sR rfl, sR rfl, sR rfl, trivial⟩ ⟨bR rfl, bR rfl, bR rfl, bR rfl, trivial⟩ rfl (fun q hq => (by (repeat (refine (lookA_skip (by omega)).trans ?_)); exact lookA_fam (by omega))) (by omega)
  intro j hj
  refine rr rfl (tr_seq (tr_cond rfl (fun h => ?_) (fun h => ?_)))
  ·have hjr : j < r := by
    have h : (j : Int) < (r : Int) := of_decide_eq_true h
    omega
   obtain ⟨hl1, hl2⟩ := A.Ple s ((p : Int) ^ (s + 1) * (p : Int)) j hj
   have hFl := A.Flen s j hjr
   have hlj := A.H.l100 j hjr
   have htm := itimesM_s (prL (liftS p a l r s) ((p : Int) ^ (s + 1) * (p : Int)) j) (liftS p a l r s j) ((p : Int) ^ (s + 1) * (p : Int)) (s + 3) (s + 2) (by omega) (by omega) (by omega) (fun e => by rw [e] at hl1; simp at hl1) (A.Fne s j hjr) hnx (A.PB s j) (A.FB s j hjr) (hnB.le (by omega))
   refine tr_skip (at_then (tr_seq (tr_block (rb ?_))))
   refine rxl rfl rfl ?_ (rg_ldC TT_ok (c := .X (1 + j)) rfl rfl ?_ rfl (re rfl ?_ (ho := ord2 (by kernel_rfl))))
   ·exact ⟨by show (0 : Int) ≤ (j : Int); omega, by show (j : Int) < (r : Int); omega⟩
   ·exact cellN_get hjr
   refine rbt (rcm (1 + j) rfl htm rfl (by (repeat (refine (lookA_skip (by omega)).trans ?_)); exact lookA_fam (by omega)) (re rfl ?_ (ho := ord2 (by kernel_rfl))))
   refine at_block (at_then (rt rfl (at_loop (j + 1) hjr (by show r - (j + 1) < r - j; omega) (wk_nst ⟨sR rfl, sR rfl, sR rfl, sR rfl, sR rfl, sR rfl, sR rfl, sR rfl, sR rfl, sR rfl, sR rfl, sR rfl, sR rfl, sR rfl, trivial⟩ ⟨⟨_, (lookA_skip (by omega)).trans rfl, BLe.refl _⟩, ⟨_, (lookA_skip (by omega)).trans rfl, BLe.refl _⟩, ⟨_, (lookA_skip (by omega)).trans rfl, BLe.refl _⟩, ⟨_, (lookA_skip (by omega)).trans rfl, BLe.refl _⟩, trivial⟩ ((lookA_skip (by omega)).trans rfl) (fun q hq => ?_) (by omega)))))
   by_cases e : q = j
   ·subst e; exact lookA_hit
   ·refine (lookA_skip (by omega)).trans ?_
    exact (by (repeat (refine (lookA_skip (by omega)).trans ?_)); exact lookA_fam (by omega))
  ·have hjr : r = j := by
    have h : ¬ (j : Int) < (r : Int) := of_decide_eq_false h
    omega
   subst hjr
   have hPl := A.Plen s ((p : Int) ^ (s + 1) * (p : Int))
   have hPB := A.PB s r
   refine tr_exit (at_then_exit (at_loop_exit (at_block_exit (at_then ?_))))
   refine rb (rm .z a.length rfl rfl rfl rfl rfl rfl (fun g => zr_z g) rfl ?_ ?_ (re rfl ?_))
   ·show _ * 32 ≤ _; omega
   ·show _ * 2 ≤ _; omega
   generalize hP : prL (liftS p a l r s) ((p : Int) ^ (s + 1) * (p : Int)) r = P at *
   refine tr_seq (rr rfl (tr_block (tr_loop (α := Nat) (fun i => ⟨[(0, cS .z a), (1, cS TP (lsL l r p)), (2, cU p), (9, .c (.L 1002000 0 r (some r))), (10, .c (.X 2002000)), (18, .c (.P 5003000 0)), (19, .c (.P 6001000 0)), (20, .c (.P 9003000 0)), (21, cS .z P), (24, .c (.X 13002000)), (99, cI ((k : Int) - 1)), (100, cI s), (122, cI a.length), (123, cI i)], [(2002000, .vec 101 TP (invI p l r r)), (5003000, .box 44 0 (av .z (p : Int))), (6001000, .box 44 0 (av .z ((p : Int) ^ (s + 1)))), (9003000, .box 44 0 (av .z ((p : Int) ^ (s + 1) * (p : Int)))), (13002000, .vec 44 .z (restP a P ((p : Int) ^ (s + 1) * (p : Int)) ((p : Int) ^ (s + 1)) i))] ++ nst 1002000 57 r 44 .z (liftS p a l r s), 15, []⟩) (fun i => i ≤ a.length) (fun i => a.length - i) 0 (Nat.zero_le _) ?_ ?_)))
   ·exact wk_nst ⟨sR rfl, sR rfl, sR rfl, sR rfl, sR rfl, sR rfl, sR rfl, sR rfl, sR rfl, sR rfl, sR rfl, sR rfl, sR rfl, sR rfl, trivial⟩ ⟨bR rfl, bR rfl, bR rfl, bR rfl, ⟨_, rfl, BLe.of_eq (congrArg (Blk.vec 44 .z) (restP_zero a P _ _))⟩, trivial⟩ rfl (fun q hq => (by (repeat (refine (lookA_skip (by omega)).trans ?_)); exact lookA_fam (by omega))) (by omega)
   intro i hi
   refine rr rfl (tr_seq (tr_cond rfl (fun h => ?_) (fun h => ?_)))
   ·have hil : i < a.length := by
     have h : (i : Int) < (a.length : Int) := of_decide_eq_true h
     omega
    have hw := A.w1000
    have hsub : FnS Tryz.prog 163 [.a (av .z (a.getD ((i : Int)).toNat 0)), .a (av .z (P.getD ((i : Int)).toNat 0))] (aZ (a.getD i 0 - P.getD i 0)) := by
     rw [Int.toNat_natCast]
     exact iSub_s _ _ ((A.ha i).sm (by omega)) ((hPB i).sm (by omega))
    have hd1 := iDivMod_s (a.getD i 0 - P.getD i 0) ((p : Int) ^ (s + 1) * (p : Int)) (by omega) (((A.ha i).le (Nat.le_max_left w (s + 3))).sub ((hPB i).le (Nat.le_max_right w (s + 3))) |>.sm (by omega)) (hnB.sm (by omega))
    have hd2 := iDivMod_s ((a.getD i 0 - P.getD i 0) % ((p : Int) ^ (s + 1) * (p : Int))) ((p : Int) ^ (s + 1)) (by omega) ((SmB.emod hnx hnB).sm (by omega)) (hqB.sm (by omega))
    refine tr_skip (at_then (tr_seq (tr_block (rr rfl (rb (rc rfl rfl hsub (rc rfl rfl hd1 (re rfl ?_))))))))
    refine rbt (rc rfl rfl hd2 (rsv ((a.getD i 0 - P.getD i 0) % ((p : Int) ^ (s + 1) * (p : Int)) / (p : Int) ^ (s + 1)) rfl rfl rfl rfl rfl ?_ (re rfl ?_) (hp := ?_)))
    ·rw [restP_len, Int.toNat_natCast]; exact hil
    ·refine at_block (at_then (rt rfl (at_loop (i + 1) hil (by show a.length - (i + 1) < a.length - i; omega) (wk_nst ⟨sR rfl, sR rfl, sR rfl, sR rfl, sR rfl, sR rfl, sR rfl, sR rfl, sR rfl, sR rfl, sR rfl, sR rfl, sR rfl, sR rfl, trivial⟩ ⟨bR rfl, bR rfl, bR rfl, bR rfl, ⟨_, rfl, BLe.of_eq (congrArg (Blk.vec 44 .z) (restP_succ a P _ _ i hil))⟩, trivial⟩ rfl (fun q hq => (by (repeat (refine (lookA_skip (by omega)).trans ?_)); exact lookA_fam (by omega))) (by omega)))))
    ·have := restP_len a P ((p : Int) ^ (s + 1) * (p : Int)) ((p : Int) ^ (s + 1)) i
     simp only [Pr.an, Pr.h, num, i64r, true_and, and_true]
     omega
   ·have hil : i = a.length := by
     have h : ¬ (i : Int) < (a.length : Int) := of_decide_eq_false h
     omega
    subst hil
    have hmis : trimW (md p (restP a P ((p : Int) ^ (s + 1) * (p : Int)) ((p : Int) ^ (s + 1)) a.length)) = misL p a r ((p : Int) ^ (s + 1)) (liftS p a l r s) := by
     rw [restP_all, misL, hP]
    have him := pimage_s (restP a P ((p : Int) ^ (s + 1) * (p : Int)) ((p : Int) ^ (s + 1)) a.length) p (by rw [restP_len]; omega) h2 hp31 (fun t => by
     by_cases ht : t < a.length
     ·rw [restP_get _ _ _ _ _ ht, if_pos ht]
      exact (SmB.ediv (Int.emod_nonneg _ (by omega)) hq (SmB.emod hnx hnB)).sm (by omega)
     ·rw [getD_ge _ (by rw [restP_len]; omega)]; exact (SmB.zero 1).sm (by omega))
    rw [hmis] at him
    refine tr_exit (at_then_exit (at_loop_exit (at_block_exit (at_then ?_))))
    refine tr_frzN 13002000 rfl rfl rfl (by omega) ?_
    refine rb (rc rfl rfl him (re rfl ?_))
    refine tr_seq (rr rfl (tr_block (tr_loop (α := Nat) (fun i => ⟨[(0, cS .z a), (1, cS TP (lsL l r p)), (2, cU p), (9, .c (.L 1002000 0 r (some r))), (10, .c (.X 2002000)), (18, .c (.P 5003000 0)), (19, .c (.P 6001000 0)), (20, .c (.P 9003000 0)), (29, .c (.P 16003000 0)), (99, cI ((k : Int) - 1)), (100, cI s), (155, cS TP (lsL l r p)), (156, cI r), (157, cI i)], [(2002000, .vec 101 TP (invI p l r r)), (5003000, .box 44 0 (av .z (p : Int))), (6001000, .box 44 0 (av .z ((p : Int) ^ (s + 1)))), (9003000, .box 44 0 (av .z ((p : Int) ^ (s + 1) * (p : Int)))), (16003000, .box 101 0 [.S U64 (misL p a r ((p : Int) ^ (s + 1)) (liftS p a l r s)), .I .u64 p])] ++ nst 1002000 57 r 44 .z (fun q => if q < i then liftS p a l r (s + 1) q else liftS p a l r s q), 18, []⟩) (fun i => i ≤ r) (fun i => r - i) 0 (Nat.zero_le _) ?_ ?_)))
    ·refine wk_nst ⟨sR rfl, sR rfl, sR rfl, sR rfl, sR rfl, sR rfl, sR rfl, sR rfl, sR rfl, sR rfl, sR rfl, sR rfl, ⟨_, rfl, AVle.of_eq ?_⟩, sR rfl, trivial⟩ ⟨bR rfl, bR rfl, bR rfl, bR rfl, bR rfl, trivial⟩ rfl (fun q hq => ?_) (by omega)
     ·exact congrArg (fun z : Nat => cI (z : Int)) hlsl
     ·exact (by (repeat (refine (lookA_skip (by omega)).trans ?_)); exact lookA_fam (by omega))
    intro i hi
    refine rr rfl (tr_seq (tr_cond rfl (fun h => ?_) (fun h => ?_)))
    ·have hir : i < r := by
      have h : (i : Int) < (r : Int) := of_decide_eq_true h
      omega
     obtain ⟨m1, m2, m3, m4⟩ := A.H.cof hir a ((p : Int) ^ (s + 1)) (liftS p a l r s)
     obtain ⟨v1, v2, _⟩ := A.H.inv hir
     have hli := A.H.l100 i hir
     have hFl := A.Flen s i hir
     have hinl := invI_len p l r r (Nat.le_refl _)
     have hprod : FnS Tryz.prog 159 [.a (av TP ((lsL l r p).getD ((i : Int)).toNat ([], 0))), aP (misL p a r ((p : Int) ^ (s + 1)) (liftS p a l r s)) p, .a (av TP ((invI p l r r).getD ((i : Int)).toNat ([], 0)))] (aP (cofL p a l r ((p : Int) ^ (s + 1)) (liftS p a l r s) i) p) := by
      rw [Int.toNat_natCast, hls i hir, invI_get p l r hir]
      exact pproduct_s p A.H.hp hp31 (l i) _ (invL p (othL p l i r) (l i)) (by omega) (by omega) (by omega) (A.H.c i hir) m1 v1 (A.H.ne hir)
     have hFi := A.FB s i hir
     generalize hC : cofL p a l r ((p : Int) ^ (s + 1)) (liftS p a l r s) i = C at *
     refine tr_skip (at_then (tr_seq (tr_block (rr rfl (rb (rc rfl rfl hprod (re rfl ?_)))))))
     refine tr_block (tr_loop (α := Nat) (fun t => ⟨[(0, cS .z a), (1, cS TP (lsL l r p)), (2, cU p), (9, .c (.L 1002000 0 r (some r))), (10, .c (.X 2002000)), (18, .c (.P 5003000 0)), (19, .c (.P 6001000 0)), (20, .c (.P 9003000 0)), (29, .c (.P 16003000 0)), (30, cI i), (99, cI ((k : Int) - 1)), (100, cI s), (155, cS TP (lsL l r p)), (156, cI r), (157, cI i), (169, cS U64 C), (170, cI C.length), (171, cI t)], [(2002000, .vec 101 TP (invI p l r r)), (5003000, .box 44 0 (av .z (p : Int))), (6001000, .box 44 0 (av .z ((p : Int) ^ (s + 1)))), (9003000, .box 44 0 (av .z ((p : Int) ^ (s + 1) * (p : Int)))), (16003000, .box 101 0 [.S U64 (misL p a r ((p : Int) ^ (s + 1)) (liftS p a l r s)), .I .u64 p])] ++ nst 1002000 57 r 44 .z (gP p a l r s i C t), 21, []⟩) (fun t => t ≤ C.length) (fun t => C.length - t) 0 (Nat.zero_le _) ?_ ?_)
     ·refine wk_nst ⟨sR rfl, sR rfl, sR rfl, sR rfl, sR rfl, sR rfl, sR rfl, sR rfl, sR rfl, sR rfl, sR rfl, sR rfl, sR rfl, sR rfl, sR rfl, sR rfl, sR rfl, sR rfl, trivial⟩ ⟨bR rfl, bR rfl, bR rfl, bR rfl, bR rfl, trivial⟩ rfl (fun q hq => ?_) (by omega)
      refine Eq.trans ((by (repeat (refine (lookA_skip (by omega)).trans ?_)); exact lookA_fam (by omega))) (congrArg (fun z => some (Blk.vec 44 .z z)) (gP_zero p a l r s i C q).symm)
     intro t ht
     have hct := m3.1 t
     have hof : FnS Tryz.prog 100 [.c (num .i64 (C.getD ((t : Int)).toNat 0)).1] (aZ (C.getD t 0)) := by
      rw [Int.toNat_natCast]
      exact iOf_s _ (by omega) (by omega)
     have hel2 : -9223372036854775808 ≤ C.getD ((t : Int)).toNat 0 ∧ C.getD ((t : Int)).toNat 0 ≤ 9223372036854775807 := by
      rw [Int.toNat_natCast]; omega
     have hcB : SmB 1 (C.getD t 0) := SmB.one (by omega)
     have hmul2 := iMul_s ((p : Int) ^ (s + 1)) (C.getD t 0) (hqB.sm (by omega)) (hcB.sm (by omega))
     refine rr rfl (tr_seq (tr_cond rfl (fun h => ?_) (fun h => ?_)))
     ·have htl : t < C.length := by
       have h : (t : Int) < (C.length : Int) := of_decide_eq_true h
       omega
      have hadd : FnS Tryz.prog 103 [.a (av .z ((gP p a l r s i C t i).getD ((t : Int)).toNat 0)), aZ ((p : Int) ^ (s + 1) * C.getD t 0)] (aZ ((liftS p a l r s i).getD t 0 + (p : Int) ^ (s + 1) * C.getD t 0)) := by
       rw [Int.toNat_natCast, gP_self, updP_get _ _ _ _ _ (by omega), if_neg (by omega)]
       exact iAdd_s _ _ ((hFi t).sm (by omega)) ((hqB.mul hcB).sm (by omega))
      have hgl : (gP p a l r s i C t i).length = (l i).length := by rw [gP_self, updP_len, hFl]
      have hb : (0 : Int) ≤ (i : Int) ∧ (i : Int) < (r : Int) := ⟨by omega, by omega⟩
      refine tr_skip (at_then (tr_seq (tr_block (rr rfl (rb (rc rfl rfl hof (rc rfl rfl hmul2 (re rfl ?_)) (hp := by simp only [Pr.an, Pr.h, num, i64r, true_and, and_true]; exact hel2)))))))
      refine rbt (rxl rfl rfl hb (rg_ldC TT_ok (c := .X (1 + i)) rfl rfl (cellN_get hir) rfl (rxl rfl rfl hb (rg_ldC TT_ok (c := .X (1 + i)) rfl rfl (cellN_get hir) rfl (rk 1 rfl rfl ?_)))))
      refine rg_idxX TT_ok (T := .z) (xs := gP p a l r s i C t i) rfl (by (repeat (refine (lookA_skip (by omega)).trans ?_)); exact lookA_fam (by omega)) rfl rfl (by omega) (by rw [hgl]; omega) ?_
      refine rg_ldY TT_ok rfl (by (repeat (refine (lookA_skip (by omega)).trans ?_)); exact lookA_fam (by omega)) rfl rfl rfl (by show ((t : Int)).toNat < _; rw [hgl]; omega) ?_
      refine rc rfl rfl hadd ?_
      refine rk 0 rfl rfl (rg_idxX TT_ok (T := .z) (xs := gP p a l r s i C t i) rfl (by (repeat (refine (lookA_skip (by omega)).trans ?_)); exact lookA_fam (by omega)) rfl rfl (by omega) (by rw [hgl]; omega) ?_)
      refine rg_storeV TT_ok (T := .z) (id := 1 + i) (xs := gP p a l r s i C t i) rfl (by (repeat (refine (lookA_skip (by omega)).trans ?_)); exact lookA_fam (by omega)) rfl rfl rfl ((liftS p a l r s i).getD t 0 + (p : Int) ^ (s + 1) * C.getD t 0) rfl (by show ((t : Int)).toNat < _; rw [hgl]; omega) ?_
      refine re rfl ?_ (ho := ord2 (by kernel_rfl))
      refine at_block (at_then (rt rfl (at_loop (t + 1) htl (by show C.length - (t + 1) < C.length - t; omega) (wk_nst ⟨sR rfl, sR rfl, sR rfl, sR rfl, sR rfl, sR rfl, sR rfl, sR rfl, sR rfl, sR rfl, sR rfl, sR rfl, sR rfl, sR rfl, sR rfl, sR rfl, sR rfl, sR rfl, trivial⟩ ⟨⟨_, (lookA_skip (by omega)).trans rfl, BLe.refl _⟩, ⟨_, (lookA_skip (by omega)).trans rfl, BLe.refl _⟩, ⟨_, (lookA_skip (by omega)).trans rfl, BLe.refl _⟩, ⟨_, (lookA_skip (by omega)).trans rfl, BLe.refl _⟩, ⟨_, (lookA_skip (by omega)).trans rfl, BLe.refl _⟩, trivial⟩ ((lookA_skip (by omega)).trans rfl) (fun q hq => ?_) (by omega)))))
      by_cases e : q = i
      ·subst e
       refine lookA_hit.trans (congrArg (fun z => some (Blk.vec 44 .z z)) ?_)
       rw [Int.toNat_natCast, gP_self, gP_self]
       exact updP_succ _ _ _ _ (by omega)
      ·refine (lookA_skip (by omega)).trans (Eq.trans ((by (repeat (refine (lookA_skip (by omega)).trans ?_)); exact lookA_fam (by omega))) (congrArg (fun z => some (Blk.vec 44 .z z)) (gP_other p a l r s i C t (t + 1) e)))
     ·have htl : t = C.length := by
       have h : ¬ (t : Int) < (C.length : Int) := of_decide_eq_false h
       omega
      subst htl
      refine tr_exit (at_then_exit (at_loop_exit (at_block_exit (at_block (at_then (rt rfl (at_loop (i + 1) hir (by show r - (i + 1) < r - i; omega) (wk_nst ⟨sR rfl, sR rfl, sR rfl, sR rfl, sR rfl, sR rfl, sR rfl, sR rfl, sR rfl, sR rfl, sR rfl, sR rfl, sR rfl, sR rfl, trivial⟩ ⟨bR rfl, bR rfl, bR rfl, bR rfl, bR rfl, trivial⟩ rfl (fun q hq => ?_) (by omega)))))))))
      exact Eq.trans ((by (repeat (refine (lookA_skip (by omega)).trans ?_)); exact lookA_fam (by omega))) (congrArg (fun z => some (Blk.vec 44 .z z)) (gP_all p a l r s i C hC q))
    ·have hir : r = i := by
      have h : ¬ (i : Int) < (r : Int) := of_decide_eq_false h
      omega
     subst hir
     refine tr_exit (at_then_exit (at_loop_exit (at_block_exit (at_then (rt rfl (at_block (at_then (rt rfl (at_loop (s + 1) hsk (by show k - (s + 1) < k - s; omega) (wk_nst ⟨sR rfl, sR rfl, sR rfl, sR rfl, sR rfl, sR rfl, sR rfl, sR rfl, sR rfl, trivial⟩ ⟨bR rfl, bR rfl, ⟨_, rfl, BLe.of_eq ?_⟩, trivial⟩ rfl (fun q hq => ?_) (by omega)))))))))))
     ·exact congrArg (fun z => Blk.box 44 0 (av .z z)) (Int.pow_succ (p : Int) (s + 1)).symm
     ·exact Eq.trans ((by (repeat (refine (lookA_skip (by omega)).trans ?_)); exact lookA_fam (by omega))) (congrArg (fun z => some (Blk.vec 44 .z z)) (if_pos hq))
 ·have hsk : s + 1 = k := by
   have h : ¬ (s : Int) < (k : Int) - 1 := of_decide_eq_false h
   omega
  subst hsk
  exact tr_exit (at_then_exit (at_loop_exit (at_block_exit (at_mid mid (wk_nst ⟨sR rfl, sR rfl, trivial⟩ ⟨bR rfl, trivial⟩ rfl (fun q hq => (by (repeat (refine (lookA_skip (by omega)).trans ?_)); exact lookA_fam (by omega))) (by omega))))))
end Go.El

/- Contracts: lifting of factors, the third part and the whole. Own work; no condition. -/
namespace Go.El
open Go Go.RowKit Go.Proofs
def neaP (F : List Int) (m : Int) (t : Nat) : List Int := (List.range F.length).map fun j => if j < t then nearZ (F.getD j 0) m else F.getD j 0
theorem neaP_len (F : List Int) (m : Int) (t : Nat) : (neaP F m t).length = F.length := by simp [neaP]
theorem neaP_get (F : List Int) (m : Int) (t : Nat) {j : Nat} (h : j < F.length) : (neaP F m t).getD j 0 = if j < t then nearZ (F.getD j 0) m else F.getD j 0 := getDm _ _ h
theorem neaP_zero (F : List Int) (m : Int) : neaP F m 0 = F := by
 refine ext_getD (neaP_len F m 0) fun j hj => ?_
 rw [neaP_len] at hj
 rw [neaP_get _ _ _ hj, if_neg (by omega)]
theorem neaP_succ (F : List Int) (m : Int) (t : Nat) (ht : t < F.length) : (neaP F m t).set t (nearZ (F.getD t 0) m) = neaP F m (t + 1) := by
 refine ext_getD (by rw [List.length_set, neaP_len, neaP_len]) fun j hj => ?_
 rw [List.length_set, neaP_len] at hj
 rw [getD_set_eq _ _ _ _ (by rw [neaP_len]; exact ht), neaP_get _ _ _ hj, neaP_get _ _ _ hj]
 by_cases e : t = j
 ·subst e; rw [if_pos (by simp), if_pos (by omega)]
 ·by_cases e2 : j < t
  ·rw [if_neg (by omega), if_pos e2, if_pos (by omega)]
  ·rw [if_neg (by omega), if_neg e2, if_neg (by omega)]
theorem neaP_all (F : List Int) (m : Int) : neaP F m F.length = F.map (nearZ · m) := by
 refine List.ext_getElem (by rw [neaP_len, List.length_map]) fun j h1 h2 => ?_
 rw [neaP_len] at h1
 have h := neaP_get F m F.length h1
 rw [if_pos h1, List.getD_eq_getElem?_getD, List.getElem?_eq_getElem (by rw [neaP_len]; exact h1), List.getD_eq_getElem?_getD, List.getElem?_eq_getElem h1] at h
 rw [List.getElem_map]
 exact h
def gQ (F : Nat → List Int) (m : Int) (i t : Nat) : Nat → List Int := fun q => if q < i then (F q).map (nearZ · m) else if q = i then neaP (F i) m t else F q
theorem gQ_zero (F : Nat → List Int) (m : Int) (i q : Nat) : gQ F m i 0 q = if q < i then (F q).map (nearZ · m) else F q := by
 unfold gQ
 split
 ·rfl
 ·split
  ·rename_i e; subst e; exact neaP_zero _ _
  ·rfl
theorem gQ_self (F : Nat → List Int) (m : Int) (i t : Nat) : gQ F m i t i = neaP (F i) m t := by
 unfold gQ; rw [if_neg (by omega), if_pos rfl]
theorem gQ_other (F : Nat → List Int) (m : Int) (i t u : Nat) {q : Nat} (h : q ≠ i) : gQ F m i t q = gQ F m i u q := by
 unfold gQ; rw [if_neg h, if_neg h]
theorem gQ_all (F : Nat → List Int) (m : Int) (i q : Nat) : gQ F m i (F i).length q = if q < i + 1 then (F q).map (nearZ · m) else F q := by
 by_cases e : q = i
 ·subst e
  rw [gQ_self, if_pos (by omega), neaP_all]
 ·unfold gQ
  rw [if_neg e]
  by_cases e2 : q < i
  ·rw [if_pos e2, if_pos (by omega)]
  ·rw [if_neg e2, if_neg (by omega)]
theorem lenX_of {tt : TT} {st : St} {t id : Nat} {E : TypeId} {T : ET} {xs : List T.den} {ti : TI} (h : lookA id st.mem = some (.vec E T xs)) (ht : lookA t tt = some ti) {u : TypeId} (hk : ti.kind = .sl u := by rfl) : lenX tt st t id = some (cI xs.length) := by
 simp only [lenX, h, ht, hk]
set_option maxHeartbeats 8000000 in
theorem lift_s {p : Nat} {l : Nat → List Int} {r : Nat} {a : List Int} {k w : Nat} (A : LiA p a l r k w) : FnS Tryz.prog 97 [cS .z a, cS TP (lsL l r p), cU p, cI k] (.c (.S (.sl .z) (liftL p a l r k))) := by
 refine fs_intro Tryz.func97 rfl rfl rfl rfl rfl (by decide) ?_
 refine lift_inv A.H a k _ (lift_main A _ ?_ rfl) rfl
 have hr := A.H.r100
 have hk1 := A.k1
 have hk2 := A.k1000
 have hFl := fun i hi => A.Flen (k - 1) i hi
 have hFB := fun i hi => A.FB (k - 1) i hi
 have hmB := A.qB k
 have hm0 := A.qpos k
 have hL : liftL p a l r k = (List.range r).map fun q => (liftS p a l r (k - 1) q).map (nearZ · ((p : Int) ^ k)) := rfl
 rw [hL]
 generalize liftS p a l r (k - 1) = F at *
 generalize (p : Int) ^ k = m at *
 refine tr_seq (rb (rxl rfl rfl trivial (re rfl (tr_block (tr_loop (α := Nat) (fun i => ⟨[(9, .c (.L 1002000 0 r (some r))), (19, .c (.P 6001000 0)), (201, cI r), (202, cI i)], [(6001000, .box 44 0 (av .z m))] ++ nst 1002000 57 r 44 .z (fun q => if q < i then (F q).map (nearZ · m) else F q), 11, []⟩) (fun i => i ≤ r) (fun i => r - i) 0 (Nat.zero_le _) ?_ ?_)))))
 ·exact wk_nst ⟨sR rfl, sR rfl, sR rfl, sR rfl, trivial⟩ ⟨bR rfl, trivial⟩ rfl (fun q hq => (by (repeat (refine (lookA_skip (by omega)).trans ?_)); exact lookA_fam (by omega))) (by omega)
 intro i hi
 refine rr rfl (tr_seq (tr_cond rfl (fun h => ?_) (fun h => ?_)))
 ·have hir : i < r := by
   have h : (i : Int) < (r : Int) := of_decide_eq_true h
   omega
  have hli := A.H.l100 i hir
  have hFi := hFl i hir
  have hb : (0 : Int) ≤ (i : Int) ∧ (i : Int) < (r : Int) := ⟨by omega, by omega⟩
  refine tr_skip (at_then (tr_seq (tr_block (rr rfl (rb (rxl rfl rfl hb (rg_ldC TT_ok (c := .X (1 + i)) rfl rfl (cellN_get hir) rfl ?_)))))))
  refine rg_lenX TT_ok (v := cI (F i).length) rfl ?_ (re rfl ?_)
  ·exact lenX_of (E := 44) (T := .z) (xs := F i) (Eq.trans ((by (repeat (refine (lookA_skip (by omega)).trans ?_)); exact lookA_fam (by omega))) (congrArg (fun z => some (Blk.vec 44 .z z)) (if_neg (by omega)))) rfl
  refine tr_block (tr_loop (α := Nat) (fun t => ⟨[(9, .c (.L 1002000 0 r (some r))), (19, .c (.P 6001000 0)), (35, cI i), (201, cI r), (202, cI i), (209, cI (F i).length), (210, cI t)], [(6001000, .box 44 0 (av .z m))] ++ nst 1002000 57 r 44 .z (gQ F m i t), 14, []⟩) (fun t => t ≤ (F i).length) (fun t => (F i).length - t) 0 (Nat.zero_le _) ?_ ?_)
  ·refine wk_nst ⟨sR rfl, sR rfl, sR rfl, sR rfl, sR rfl, sR rfl, sR rfl, trivial⟩ ⟨bR rfl, trivial⟩ rfl (fun q hq => ?_) (by omega)
   exact Eq.trans ((by (repeat (refine (lookA_skip (by omega)).trans ?_)); exact lookA_fam (by omega))) (congrArg (fun z => some (Blk.vec 44 .z z)) (gQ_zero F m i q).symm)
  intro t ht
  refine rr rfl (tr_seq (tr_cond rfl (fun h => ?_) (fun h => ?_)))
  ·have htl : t < (F i).length := by
    have h : (t : Int) < ((F i).length : Int) := of_decide_eq_true h
    omega
   have hgl : (gQ F m i t i).length = (F i).length := by rw [gQ_self, neaP_len]
   have hsy : FnS Tryz.prog 164 [.a (av .z ((gQ F m i t i).getD ((t : Int)).toNat 0)), aZ m] (aZ (nearZ ((F i).getD t 0) m)) := by
    rw [Int.toNat_natCast, gQ_self, neaP_get _ _ _ htl, if_neg (by omega)]
    exact isymmetric_s _ m (k + 1) (by omega) hm0 ((hFB i hir t).sm (by omega)) hmB
   refine tr_skip (at_then (tr_seq (tr_block (rr rfl (rbt ?_)))))
   refine rxl rfl rfl hb (rg_ldC TT_ok (c := .X (1 + i)) rfl rfl (cellN_get hir) rfl (rxl rfl rfl hb (rg_ldC TT_ok (c := .X (1 + i)) rfl rfl (cellN_get hir) rfl (rk 1 rfl rfl ?_))))
   refine rg_idxX TT_ok (T := .z) (xs := gQ F m i t i) rfl (by (repeat (refine (lookA_skip (by omega)).trans ?_)); exact lookA_fam (by omega)) rfl rfl (by omega) (by rw [hgl]; omega) ?_
   refine rg_ldY TT_ok rfl (by (repeat (refine (lookA_skip (by omega)).trans ?_)); exact lookA_fam (by omega)) rfl rfl rfl (by show ((t : Int)).toNat < _; rw [hgl]; omega) ?_
   refine rc rfl rfl hsy ?_
   refine rk 0 rfl rfl (rg_idxX TT_ok (T := .z) (xs := gQ F m i t i) rfl (by (repeat (refine (lookA_skip (by omega)).trans ?_)); exact lookA_fam (by omega)) rfl rfl (by omega) (by rw [hgl]; omega) ?_)
   refine rg_storeV TT_ok (T := .z) (id := 1 + i) (xs := gQ F m i t i) rfl (by (repeat (refine (lookA_skip (by omega)).trans ?_)); exact lookA_fam (by omega)) rfl rfl rfl (nearZ ((F i).getD t 0) m) rfl (by show ((t : Int)).toNat < _; rw [hgl]; omega) ?_
   refine re rfl ?_ (ho := ord2 (by kernel_rfl))
   refine at_block (at_then (rt rfl (at_loop (t + 1) htl (by show (F i).length - (t + 1) < (F i).length - t; omega) (wk_nst ⟨sR rfl, sR rfl, sR rfl, sR rfl, sR rfl, sR rfl, sR rfl, trivial⟩ ⟨⟨_, (lookA_skip (by omega)).trans rfl, BLe.refl _⟩, trivial⟩ ((lookA_skip (by omega)).trans rfl) (fun q hq => ?_) (by omega)))))
   by_cases e : q = i
   ·subst e
    refine lookA_hit.trans (congrArg (fun z => some (Blk.vec 44 .z z)) ?_)
    rw [Int.toNat_natCast, gQ_self, gQ_self]
    exact neaP_succ _ _ _ htl
   ·refine (lookA_skip (by omega)).trans (Eq.trans ((by (repeat (refine (lookA_skip (by omega)).trans ?_)); exact lookA_fam (by omega))) (congrArg (fun z => some (Blk.vec 44 .z z)) (gQ_other F m i t (t + 1) e)))
  ·have htl : t = (F i).length := by
    have h : ¬ (t : Int) < ((F i).length : Int) := of_decide_eq_false h
    omega
   subst htl
   refine tr_exit (at_then_exit (at_loop_exit (at_block_exit (at_block (at_then (rt rfl (at_loop (i + 1) hir (by show r - (i + 1) < r - i; omega) (wk_nst ⟨sR rfl, sR rfl, sR rfl, sR rfl, trivial⟩ ⟨bR rfl, trivial⟩ rfl (fun q hq => ?_) (by omega)))))))))
   exact Eq.trans ((by (repeat (refine (lookA_skip (by omega)).trans ?_)); exact lookA_fam (by omega))) (congrArg (fun z => some (Blk.vec 44 .z z)) (gQ_all F m i q))
 ·have hir : r = i := by
   have h : ¬ (i : Int) < (r : Int) := of_decide_eq_false h
   omega
  subst hir
  refine tr_exit (at_then_exit (at_loop_exit (at_block_exit (at_then ?_))))
  refine rr rfl (tr_ret (at_retN TT_ok (E := 44) rfl rfl (fun q hq => ?_) (by omega)))
  exact Eq.trans ((by (repeat (refine (lookA_skip (by omega)).trans ?_)); exact lookA_fam (by omega))) (congrArg (fun z => some (Blk.vec 44 .z z)) (if_pos hq))
end Go.El

/- Contracts: factor.Lift of the program. Own work; no condition. -/
namespace Go.El
open Go Go.RowKit Go.Proofs
def prP (p : Int) (l : Nat → List Int) : Nat → List Int
 | 0 => [1]
 | i + 1 => ptimes (prP p l i) (l i) p
def modI (l : Nat → List Int) (p : Int) (r i : Nat) : List (List Int × Int) := (List.range i).map (fun j => (l j, p)) ++ List.replicate (r - i) ([], 0)
theorem modI_len (l : Nat → List Int) (p : Int) (r i : Nat) (h : i ≤ r) : (modI l p r i).length = r := by unfold modI; simp; omega
theorem modI_set (l : Nat → List Int) (p : Int) (r i : Nat) (h : i < r) : (modI l p r i).set i (l i, p) = modI l p r (i + 1) := by
 unfold modI
 rw [List.set_append_right _ _ (by simp), show r - i = (r - (i + 1)) + 1 by omega, List.replicate_succ, List.range_succ, List.map_append]
 simp
theorem modI_get (l : Nat → List Int) (p : Int) (r i : Nat) : (modI l p r (i + 1)).getD i ([], 0) = (l i, p) := by
 unfold modI
 rw [List.getD_eq_getElem?_getD, List.getElem?_append_left (by simp), List.getElem?_map, List.getElem?_range (by omega)]; rfl
theorem modI_all (l : Nat → List Int) (p : Int) (r : Nat) : modI l p r r = lsL l r p := by
 unfold modI lsL
 rw [Nat.sub_self, List.replicate_zero, List.append_nil]
structure LiB (p : Nat) (a : List Int) (Ls : List (List Int)) (k w : Nat) : Prop where
 A : LiA p a (fun i => Ls.getD i []) Ls.length k w
 pm : p ≤ 2147483647
 k200 : k ≤ 200
 a0 : a ≠ []
 a1 : a.getD (a.length - 1) 0 = 1
 l1 : ∀ i, i < Ls.length → (Ls.getD i []).getD ((Ls.getD i []).length - 1) 0 = 1
 prc : ∀ i, i ≤ Ls.length → pcan p (prP p (fun i => Ls.getD i []) i) ∧ prP p (fun i => Ls.getD i []) i ≠ [] ∧ (prP p (fun i => Ls.getD i []) i).length ≤ 400
 prg : ∀ i, i < Ls.length → (gcdP p (prP p (fun i => Ls.getD i []) i) (Ls.getD i [])).length = 1
 pra : prP p (fun i => Ls.getD i []) Ls.length = trimW (md p a)
set_option maxHeartbeats 8000000 in
theorem Lift_s {p : Nat} {a : List Int} {Ls : List (List Int)} {k w : Nat} (B : LiB p a Ls k w) : FnS Tryz.prog 29 [cS .z a, cS (.sl U64) Ls, cU p, cI k] (.t [(false, [.S (.sl .z) (liftL p a (fun i => Ls.getD i []) Ls.length k)]), (false, [.I .i64 0])]) := by
 refine fs_intro Tryz.func29 rfl rfl rfl rfl rfl (by decide) ?_
 have A := B.A
 have hr := A.H.r100
 have hp := A.H.hp
 have h2 := hp.1
 have hpm := B.pm
 have hp31 := A.H.hp31
 have hk1 := A.k1
 have hk2 := B.k200
 have hla := A.la
 have hw := A.w1000
 have haS : ∀ i, Sm (a.getD i 0) := fun i => (A.ha i).sm (by omega)
 have hmo := iisMonic_s a (by omega) B.a0 haS B.a1
 refine rr rfl (tr_seq (rb (rc rfl rfl (mPrime_s p hp hpm) (rg 17 rfl rfl (fun h => by cases h) (fun _ => rg 21 rfl rfl (fun hb => ?_) (fun hb => ?_))))))
 ·exfalso
  have hb : (k : Int) < 1 := of_decide_eq_true hb
  omega
 refine rg 25 rfl rfl (fun hb2 => ?_) (fun hb2 => ?_)
 ·exfalso
  have hb2 : (k : Int) > 200 := of_decide_eq_true hb2
  omega
 refine rcg rfl rfl rfl rfl rfl hmo (re rfl ?_)
 refine tr_cond rfl (fun h => by cases h) (fun _ => tr_skip (at_then ?_))
 refine rb (rm TP Ls.length rfl rfl rfl rfl rfl rfl zr_pr rfl ?_ ?_ (re rfl ?_))
 ·show _ * 32 ≤ _; omega
 ·show _ * 2 ≤ _; omega
 refine rb (rl U64 [1] rfl rfl (re rfl ?_))
 refine tr_seq (rr rfl (tr_block (tr_loop (α := Nat) (fun i => ⟨[(0, cS .z a), (1, cS (.sl U64) Ls), (2, cU p), (3, cI k), (10, .c (.X 2002000)), (11, .c (.P 3003000 0)), (36, cS (.sl U64) Ls), (37, cI Ls.length), (38, cI i)], [(2002000, .vec 101 TP (modI (fun i => Ls.getD i []) p Ls.length i)), (3003000, .box 101 0 [.S U64 (prP p (fun i => Ls.getD i []) i), .I .u64 p])], 5, []⟩) (fun i => i ≤ Ls.length) (fun i => Ls.length - i) 0 (Nat.zero_le _) (wk ⟨sR rfl, sR rfl, sR rfl, sR rfl, sR rfl, sR rfl, sR rfl, sR rfl, sR rfl, trivial⟩ ⟨⟨_, rfl, BLe.of_eq rfl⟩, bR rfl, trivial⟩) ?_)))
 intro i hi
 refine rr rfl (tr_seq (tr_cond rfl (fun h => ?_) (fun h => ?_)))
 ·have hir : i < Ls.length := by
   have h : (i : Int) < (Ls.length : Int) := of_decide_eq_true h
   omega
  have hci : pcan p (Ls.getD i []) := A.H.c i hir
  have hl2 : 2 ≤ (Ls.getD i []).length := A.H.l2 i hir
  have hl100 : (Ls.getD i []).length ≤ 100 := A.H.l100 i hir
  have hl1 := B.l1 i hir
  obtain ⟨q1, q2, q3⟩ := B.prc i hi
  have hg := B.prg i hir
  have hgL : (modI (fun i => Ls.getD i []) (p : Int) Ls.length (i + 1)).getD i ([], 0) = (Ls.getD i [], (p : Int)) := modI_get (fun i => Ls.getD i []) (p : Int) Ls.length i
  have hlI := modI_len (fun i => Ls.getD i []) (p : Int) Ls.length i hi
  have hlI2 := modI_len (fun i => Ls.getD i []) (p : Int) Ls.length (i + 1) hir
  have hset : (modI (fun i => Ls.getD i []) (p : Int) Ls.length i).set i (Ls.getD i [], (p : Int)) = modI (fun i => Ls.getD i []) (p : Int) Ls.length (i + 1) := modI_set (fun i => Ls.getD i []) (p : Int) Ls.length i hir
  have hprs : prP p (fun i => Ls.getD i []) (i + 1) = ptimes (prP p (fun i => Ls.getD i []) i) (Ls.getD i []) p := rfl
  have hne : Ls.getD i [] ≠ [] := fun e => by rw [e] at hl2; simp at hl2
  obtain ⟨M, M0, M1, hmx⟩ := smax_s (Ls.getD i []) p (by omega) hne hci.1
  have hgc := pgcd_s p hp hp31 (prP p (fun i => Ls.getD i []) i) (Ls.getD i []) (by omega) (by omega) q1 hci q2
  have hdg := pdegree_s (gcdP p (prP p (fun i => Ls.getD i []) i) (Ls.getD i [])) p (by omega)
  have htm := ptimes_s (prP p (fun i => Ls.getD i []) i) (Ls.getD i []) p (by omega) (by omega) (by omega) (by omega) q1.1 hci.1
  have hn : (Ls.getD ((i : Int)).toNat (ET.dflt (.sl U64))) = Ls.getD i [] := congrArg (fun z => Ls.getD z []) (Int.toNat_natCast i)
  refine tr_skip (at_then (tr_seq (tr_block (rr rfl ?_))))
  rw [hn]
  generalize hE : Ls.getD i [] = e at *
  refine tr_seq (rb (rg 46 rfl rfl (fun hb => ?_) (fun hb => ?_)))
  ·exfalso
   have hb : (e.length : Int) < 2 := of_decide_eq_true hb
   omega
  have hle : ((e.length : Int) - 1).toNat = e.length - 1 := by omega
  refine rg 55 rfl rfl (fun hb2 => ?_) (fun hb2 => ?_)
  ·exfalso
   have hb2 : (e.getD ((e.length : Int) - 1).toNat 0 != 1) = true := hb2
   exact bne_z hb2 (by rw [hle]; exact hl1)
  refine rcg rfl rfl rfl rfl rfl hmx (re rfl ?_)
  refine tr_cond rfl (fun h => ?_) (fun h => tr_skip (at_then ?_))
  ·exfalso
   have h : M ≥ (p : Int) := of_decide_eq_true h
   omega
  refine rb (rsv (e, (p : Int)) rfl rfl rfl rfl rfl (by show ((i : Int)).toNat < _; omega) (re rfl ?_))
  have hge : (((modI (fun i => Ls.getD i []) (p : Int) Ls.length i).set ((i : Int)).toNat (e, (p : Int))).getD ((i : Int)).toNat ([], 0)) = (e, (p : Int)) := by
   rw [Int.toNat_natCast, hset]; exact hgL
  have hlen : ((modI (fun i => Ls.getD i []) (p : Int) Ls.length i).set ((i : Int)).toNat (e, (p : Int))).length = Ls.length := by rw [List.length_set]; exact hlI
  refine tr_seq (rb (rc rfl rfl (vs := [aP (prP p (fun i => Ls.getD i []) i) p, .a (av TP (((modI (fun i => Ls.getD i []) (p : Int) Ls.length i).set ((i : Int)).toNat (e, (p : Int))).getD ((i : Int)).toNat ([], 0)))]) (by rw [hge]; exact hgc) (rc rfl rfl hdg (re rfl ?_))))
  refine tr_cond rfl (fun h => ?_) (fun h => tr_skip (at_then ?_))
  ·exfalso
   have h : ((gcdP p (prP p (fun i => Ls.getD i []) i) e).length : Int) - 1 > 0 := of_decide_eq_true h
   omega
  refine rbt (rc rfl rfl (vs := [aP (prP p (fun i => Ls.getD i []) i) p, .a (av TP (((modI (fun i => Ls.getD i []) (p : Int) Ls.length i).set ((i : Int)).toNat (e, (p : Int))).getD ((i : Int)).toNat ([], 0)))]) (by rw [hge]; exact htm) (re rfl ?_))
  refine at_block (at_then (rt rfl (at_loop (i + 1) hir (by show Ls.length - (i + 1) < Ls.length - i; omega) (wk ⟨sR rfl, sR rfl, sR rfl, sR rfl, sR rfl, sR rfl, sR rfl, sR rfl, sR rfl, trivial⟩ ⟨⟨_, rfl, BLe.of_eq ?_⟩, ⟨_, rfl, BLe.of_eq ?_⟩, trivial⟩))))
  ·exact congrArg (Blk.vec 101 TP) (by rw [Int.toNat_natCast]; exact hset)
  ·rw [hprs]; rfl
 ·have hir : i = Ls.length := by
   have h : ¬ (i : Int) < (Ls.length : Int) := of_decide_eq_false h
   omega
  subst hir
  obtain ⟨q1, q2, q3⟩ := B.prc Ls.length (Nat.le_refl _)
  have him := pimage_s a p (by omega) h2 hp31 haS
  have heq := sequal_s (prP p (fun i => Ls.getD i []) Ls.length) (trimW (md p a)) (by omega)
  refine tr_exit (at_then_exit (at_loop_exit (at_block_exit (at_then ?_))))
  refine tr_seq (rb (rc rfl rfl him (rc rfl rfl heq (re rfl ?_))))
  refine tr_cond rfl (fun h => ?_) (fun h => tr_skip (at_then ?_))
  ·exfalso
   rw [B.pra] at h
   simp at h
  refine tr_frz 2002000 rfl rfl rfl ?_
  have hli := lift_s A
  rw [← modI_all] at hli
  refine rb (rc rfl rfl hli (re rfl (tr_ret (at_ret TT_ok rfl (AVle.refl _)))))
end Go.El

/- Plain: what the law's lists of factors are. Own work; no condition. -/
namespace Go.El
open Go Go.Proofs
theorem imul_getD (a b : List Int) (i : Nat) : (imulL a b).getD i 0 = if i < a.length + b.length - 1 then conv (fun i => a.getD i 0) (fun i => b.getD i 0) i else 0 := by
 unfold imulL
 rw [List.getD_eq_getElem?_getD, List.getElem?_map]
 split
 ·rename_i h; rw [List.getElem?_range h]; rfl
 ·rename_i h; rw [List.getElem?_eq_none (by simp; omega)]; rfl
theorem imul_len (a b : List Int) : (imulL a b).length = a.length + b.length - 1 := by simp [imulL]
theorem imul_ps (a b : List Int) (ha : a ≠ []) (hb : b ≠ []) : ps (imulL a b) = ps a * ps b := PS.ext fun i => by
 have h1 := List.length_pos_iff.2 ha
 have h2 := List.length_pos_iff.2 hb
 rw [ps_at, imul_getD]
 show _ = conv (fun i => a.getD i 0) (fun i => b.getD i 0) i
 split
 ·rfl
 ·symm
  refine convS_zero _ _ i (i + 1) fun j hj => ?_
  by_cases e : j < a.length
  ·show a.getD j 0 * b.getD (i - j) 0 = 0
   rw [getD_ge b (by omega), Int.mul_zero]
  ·show a.getD j 0 * b.getD (i - j) 0 = 0
   rw [getD_ge a (by omega), Int.zero_mul]
theorem imul_top (a b : List Int) (ha : a ≠ []) (hb : b ≠ []) : (imulL a b).getD ((imulL a b).length - 1) 0 = a.getD (a.length - 1) 0 * b.getD (b.length - 1) 0 := by
 have h1 := List.length_pos_iff.2 ha
 have h2 := List.length_pos_iff.2 hb
 rw [imul_len, imul_getD, if_pos (by omega), show a.length + b.length - 1 - 1 = (a.length - 1) + (b.length - 1) by omega]
 exact conv_top (fun i hi => getD_ge a (by omega)) (fun i hi => getD_ge b (by omega))
theorem imul_B (a b : List Int) (u v : Nat) (ha : ∀ i, SmB u (a.getD i 0)) (hb : ∀ i, SmB v (b.getD i 0)) (la : a.length ≤ 1000) (lb : b.length ≤ 1000) (i : Nat) : SmB (u + v + 1) ((imulL a b).getD i 0) := by
 rw [imul_getD]
 split
 ·exact convS_B a b u v ha hb i (i + 1) (by omega)
 ·exact SmB.zero _
def mon (a : List Int) : Prop := a ≠ [] ∧ a.getD (a.length - 1) 0 = 1
theorem mon.can {a : List Int} (h : mon a) : can a := .inr (by rw [h.2]; decide)
theorem mon.trim {a : List Int} (h : mon a) : trimW a = a := trimW_self h.can
theorem mon.imul {a b : List Int} (ha : mon a) (hb : mon b) : mon (imulL a b) := by
 have h1 := List.length_pos_iff.2 ha.1
 have h2 := List.length_pos_iff.2 hb.1
 refine ⟨fun e => ?_, by rw [imul_top a b ha.1 hb.1, ha.2, hb.2]; rfl⟩
 have h3 := imul_len a b
 rw [e] at h3
 simp at h3
 omega
theorem prP_congr {p : Int} {f g : Nat → List Int} : ∀ n, (∀ i, i < n → f i = g i) → prP p f n = prP p g n
 | 0, _ => rfl
 | n + 1, h => by rw [prP, prP, prP_congr n fun i hi => h i (by omega), h n (by omega)]
def liF (p : Int) (d : List Int) (m : Nat) : List Int := if (d.getD (2 * m + 1) 0).tmod 3 = 0 then [(d.getD (2 * m) 0 + 128) % p, (d.getD (2 * m + 1) 0 + 128) % p, 1] else [(d.getD (2 * m) 0 + 128) % p, 1]
def liS (p : Int) (d : List Int) : Nat → List (List Int) × List Int × List Int
 | 0 => ([], [1], [1])
 | m + 1 => if (gcdP p (liF p d m) (liS p d m).2.1).length = 1 then ((liS p d m).1 ++ [liF p d m], ptimes (liS p d m).2.1 (liF p d m) p, imulL (liS p d m).2.2 (liF p d m)) else liS p d m
theorem liF_ok {p : Int} (hp : 1 < p) (d : List Int) (m : Nat) : pcan p (liF p d m) ∧ mon (liF p d m) ∧ 2 ≤ (liF p d m).length ∧ (liF p d m).length ≤ 3 := by
 have h : ∀ x : Int, 0 ≤ x % p ∧ x % p < p := fun x => ⟨Int.emod_nonneg _ (by omega), Int.emod_lt_of_pos _ (by omega)⟩
 unfold liF
 split
 ·refine ⟨⟨fun i => ?_, .inr (by show (1 : Int) ≠ 0; decide)⟩, ⟨by simp, rfl⟩, by simp, by simp⟩
  match i with
  | 0 => exact h _
  | 1 => exact h _
  | 2 => exact ⟨by show (0 : Int) ≤ 1; decide, hp⟩
  | i + 3 => exact ⟨Int.le_refl _, by show (0 : Int) < p; omega⟩
 ·refine ⟨⟨fun i => ?_, .inr (by show (1 : Int) ≠ 0; decide)⟩, ⟨by simp, rfl⟩, by simp, by simp⟩
  match i with
  | 0 => exact h _
  | 1 => exact ⟨by show (0 : Int) ≤ 1; decide, hp⟩
  | i + 2 => exact ⟨Int.le_refl _, by show (0 : Int) < p; omega⟩
structure LsI (p : Nat) (m : Nat) (s : List (List Int) × List Int × List Int) : Prop where
 n : s.1.length ≤ m
 f : ∀ i, i < s.1.length → pcan p (s.1.getD i []) ∧ mon (s.1.getD i []) ∧ 2 ≤ (s.1.getD i []).length ∧ (s.1.getD i []).length ≤ 3
 pr : s.2.1 = prP p (fun i => s.1.getD i []) s.1.length
 prc : ∀ i, i ≤ s.1.length → pcan p (prP p (fun i => s.1.getD i []) i) ∧ prP p (fun i => s.1.getD i []) i ≠ [] ∧ (prP p (fun i => s.1.getD i []) i).length ≤ 2 * i + 1
 prg : ∀ i, i < s.1.length → Cop p (ps (prP p (fun i => s.1.getD i []) i)) (ps (s.1.getD i []))
 Fm : mon s.2.2
 Fl : s.2.2.length = (prL (fun i => s.1.getD i []) p s.1.length).length
 Fl2 : s.2.2.length ≤ 2 * m + 1
 Fp : Cg p (ps s.2.2) (ps s.2.1)
 FB : ∀ j, SmB (2 * m + 1) (s.2.2.getD j 0)
theorem getD_app_l {α : Type} (a b : List α) (d : α) {i : Nat} (h : i < a.length) : (a ++ b).getD i d = a.getD i d := by
 rw [List.getD_eq_getElem?_getD, List.getElem?_append_left h, ← List.getD_eq_getElem?_getD]
theorem getD_app_n {α : Type} (a : List α) (x d : α) : (a ++ [x]).getD a.length d = x := by
 rw [List.getD_eq_getElem?_getD, List.getElem?_append_right (Nat.le_refl _), Nat.sub_self]; rfl
theorem LsI.next {p : Nat} (hp : IsP p) (hp31 : p ≤ 2147483647) {d : List Int} : ∀ m, m ≤ 100 → LsI p m (liS p d m)
 | 0, _ => by
  have h2 := hp.1
  have hp0 : (0 : Int) < (p : Int) := by omega
  refine ⟨Nat.le_refl _, fun i hi => (by cases hi), rfl, fun i hi => ?_, fun i hi => (by cases hi), ⟨List.cons_ne_nil _ _, rfl⟩, rfl, Nat.le_refl _, Cg.refl _ _, fun j => ?_⟩
  ·have : i = 0 := by simpa [liS] using hi
   subst this
   exact ⟨⟨rp_single (by decide) (by omega), .inr (by simp [prP])⟩, by simp [prP], by simp [prP]⟩
  ·refine SmB.one ?_
   cases j with
   | zero => show (1 : Int).natAbs < 4294967296; decide
   | succ j => show (0 : Int).natAbs < 4294967296; decide
 | m + 1, hm => by
  have ih := LsI.next hp hp31 (d := d) m (by omega)
  rw [liS]
  split
  ·rename_i hg
   have h2 := hp.1
   have hp1 : (1 : Int) < (p : Int) := by omega
   obtain ⟨f1, f2, f3, f4⟩ := liF_ok hp1 d m
   generalize liF p d m = f at *
   obtain ⟨n, fs, pr, prc, prg, Fm, Fl, Fl2, Fp, FB⟩ := ih
   generalize liS p d m = s at *
   obtain ⟨Ls, P, F⟩ := s
   simp only at n fs pr prc prg Fm Fl Fl2 Fp FB hg
   have hlen : (Ls ++ [f]).length = Ls.length + 1 := by simp
   have hg1 : ∀ i, i < Ls.length → (Ls ++ [f]).getD i [] = Ls.getD i [] := fun i hi => getD_app_l _ _ _ hi
   have hg2 : (Ls ++ [f]).getD Ls.length [] = f := getD_app_n _ _ _
   have hP : ∀ i, i ≤ Ls.length → prP p (fun i => (Ls ++ [f]).getD i []) i = prP p (fun i => Ls.getD i []) i := fun i hi => prP_congr i fun j hj => hg1 j (by omega)
   obtain ⟨c1, c2, c3⟩ := prc Ls.length (Nat.le_refl _)
   rw [← pr] at c1 c2 c3
   have hlast : prP p (fun i => (Ls ++ [f]).getD i []) (Ls.length + 1) = ptimes P f p := by
    rw [prP, hP _ (Nat.le_refl _), ← pr, hg2]
   have hfl := List.length_pos_iff.2 Fm.1
   refine ⟨by simp only [hlen]; omega, fun i hi => ?_, by simp only [hlen]; exact hlast.symm, fun i hi => ?_, fun i hi => ?_, Fm.imul f2, ?_, ?_, ?_, fun j => ?_⟩
   ·simp only [hlen] at hi ⊢
    by_cases e : i < Ls.length
    ·rw [hg1 i e]; exact fs i e
    ·have : i = Ls.length := by omega
     subst this; rw [hg2]; exact ⟨f1, f2, f3, f4⟩
   ·simp only [hlen] at hi ⊢
    by_cases e : i ≤ Ls.length
    ·rw [hP i e]; exact prc i e
    ·have : i = Ls.length + 1 := by omega
     subst this
     rw [hlast]
     have := ptimes_len P f p
     exact ⟨ptimes_pcan (by omega) _ _, ptimes_ne hp c1 f1 c2 f2.1, by omega⟩
   ·simp only [hlen] at hi ⊢
    rw [hP i (by omega)]
    by_cases e : i < Ls.length
    ·rw [hg1 i e]; exact prg i e
    ·have : i = Ls.length := by omega
     subst this
     rw [hg2, ← pr]
     exact ((gcdP_one hp (by omega) f1 c1).1 hg).symm
   ·simp only [hlen]
    rw [prL, tmL_len, imul_len, hg2, Fl]
    congr 2
    exact prL_len2 _ fun i hi => by rw [hg1 i hi]
   ·simp only
    rw [imul_len]; omega
   ·simp only
    rw [imul_ps _ _ Fm.1 f2.1]
    exact (Fp.mul_r _).trans (ptimes_ps P f p).symm
   ·simp only
    have h := imul_B F f (2 * m + 1) 1 FB (fun i => SmB.one (by have := f1.1 i; omega)) (by omega) (by omega) j
    exact h.le (by omega)
  ·refine ⟨Nat.le_trans ih.n (Nat.le_succ _), ih.f, ih.pr, ih.prc, ih.prg, ih.Fm, ih.Fl, Nat.le_trans ih.Fl2 (by omega), ih.Fp, fun j => (ih.FB j).le (by omega)⟩
end Go.El

/- Contracts: the law's lists of factors. Own work; no condition. -/
namespace Go.El
open Go Go.RowKit Go.Proofs
def celL : List (List Int) → C
 | [] => vN
 | _ :: _ => .X 900000
def extL : List (List Int) → List (Nat × Blk)
 | [] => []
 | L :: Ls => [(900000, .vec 22 (.sl U64) (L :: Ls))]
abbrev memL (p : Nat) (F : List Int) (Ls : List (List Int)) : List (Nat × Blk) := (0, .box 69 0 [vN, vN, .I .u64 0]) :: (1005000, .box 69 0 [.S .z F, celL Ls, .I .u64 p]) :: extL Ls
theorem memL_self (p : Nat) (F : List Int) : ∀ Ls, WkM (memL p F Ls) (memL p F Ls)
 | [] => ⟨bR rfl, bR rfl, trivial⟩
 | _ :: _ => ⟨bR rfl, bR rfl, bR rfl, trivial⟩
theorem memL_P (p : Nat) (F : List Int) : ∀ Ls, MemP 4000000 (memL p F Ls)
 | [] => MemP.of rfl
 | _ :: _ => MemP.of rfl
theorem liS_succ (p : Int) (d : List Int) (m : Nat) : liS p d (m + 1) = if (gcdP p (liF p d m) (liS p d m).2.1).length = 1 then ((liS p d m).1 ++ [liF p d m], ptimes (liS p d m).2.1 (liF p d m) p, imulL (liS p d m).2.2 (liF p d m)) else liS p d m := by rw [liS]
set_option maxHeartbeats 8000000 in
theorem lifts_s (d : List Int) (hd : ∀ x ∈ d, -128 ≤ x ∧ x ≤ 127) (n : Nat) (hn : n < 4294967296) : ∃ p, IsP p ∧ p ≤ 2147483647 ∧ FnS Tryz.prog 35 [cS I8 d, cW n] (.a [.S .z (liS p d (min 5 (d.length / 2))).2.2, .S (.sl U64) (liS p d (min 5 (d.length / 2))).1, .I .u64 p]) := by
 obtain ⟨p, hp, hpm, hpr⟩ := lprime_s n hn
 refine ⟨p, hp, hpm, ?_⟩
 have h2 := hp.1
 have hin : FnS Tryz.prog 40 [cS U64 [1]] (cS .z [1]) := rInts_s [1] (by decide) (fun i => by
  cases i with
  | zero => exact ⟨by show (0 : Int) ≤ 1; decide, by show (1 : Int) < 4294967296; decide⟩
  | succ i => exact ⟨Int.le_refl _, by show (0 : Int) < 4294967296; decide⟩)
 refine fs_intro Tryz.func35 rfl rfl rfl rfl rfl (by decide) ?_
 refine rr rfl (rb (rl U64 [1] rfl rfl (rc rfl rfl hin (rc rfl rfl hpr (re rfl (rb (rl U64 [1] rfl rfl (re rfl ?_))))))))
 refine tr_mid1 ⟨[(4, .c (.P 0 0)), (5, .c (.P 1005000 0))], memL p (liS p d (min 5 (d.length / 2))).2.2 (liS p d (min 5 (d.length / 2))).1, 4, []⟩ ?_ (fun mid => rr rfl (tr_block (tr_loop (α := Nat) (fun m => ⟨[(0, cS I8 d), (4, .c (.P 0 0)), (5, .c (.P 1005000 0)), (6, cS U64 (liS p d m).2.1), (7, cI ((2 * m : Nat) : Int))], memL p (liS p d m).2.2 (liS p d m).1, 4, []⟩) (fun m => m ≤ min 5 (d.length / 2)) (fun m => 5 - m) 0 (Nat.zero_le _) (wk ⟨sR rfl, sR rfl, sR rfl, sR rfl, sR rfl, trivial⟩ ⟨bR rfl, bR rfl, trivial⟩) ?_)))
 ·generalize (liS p d (min 5 (d.length / 2))).2.2 = F
  generalize (liS p d (min 5 (d.length / 2))).1 = Ls
  cases Ls with
  | nil =>
   show TR Tryz.prog _ _ ⟨_, [(0, .box 69 0 [vN, vN, .I .u64 0]), (1005000, .box 69 0 [.S .z F, vN, .I .u64 p])], _, _⟩ _
   refine rr rfl (tr_ret (at_ret TT_ok rfl ?_))
   refine ⟨?_, fun id hid => by cases hid⟩
   rintro g v ⟨vs, rfl, v1, r1, rfl, h1, v2, r2, rfl, h2, h3⟩
   exact ⟨_, rfl, _, _, rfl, h1, _, _, rfl, (AVle.nil (.sl U64)).1 g v2 h2, h3⟩
  | cons L Ls =>
   show TR Tryz.prog _ _ ⟨_, [(0, .box 69 0 [vN, vN, .I .u64 0]), (1005000, .box 69 0 [.S .z F, .X 900000, .I .u64 p]), (900000, .vec 22 (.sl U64) (L :: Ls))], _, _⟩ _
   exact tr_frz 900000 rfl rfl rfl (rr rfl (tr_ret (at_ret TT_ok rfl (AVle.refl _))))
 intro m hm
 have hI := LsI.next hp hpm (d := d) m (by omega)
 have hI2 := LsI.next hp hpm (d := d) (m + 1) (by omega)
 have hz := liS_succ p d m
 generalize hS : liS p d m = S at *
 obtain ⟨Ls, P, F⟩ := S
 obtain ⟨f1, f2, f3, f4⟩ := liF_ok (p := p) (by omega) d m
 have hFl : F.length ≤ 2 * m + 1 := hI.Fl2
 have hn1 : Ls.length ≤ m := hI.n
 have hpr : P = prP p (fun i => Ls.getD i []) Ls.length := hI.pr
 obtain ⟨c1, c2, c3⟩ := hI.prc Ls.length (Nat.le_refl _)
 simp only at c1 c2 c3
 rw [← hpr] at c1 c2 c3
 refine tr_seq (rb (rg 20 rfl rfl (fun hb => ?_) (fun hb => ?_)))
 ·refine re rfl (tr_cond rfl (fun h => tr_skip (at_then ?_)) (fun h => ?_))
  ·have hb : ((2 * m : Nat) : Int) + 1 < (d.length : Int) := of_decide_eq_true hb
   have h : ((2 * m : Nat) : Int) < 10 := of_decide_eq_true h
   have g : ∀ i, i < d.length → -128 ≤ d.getD i 0 ∧ d.getD i 0 ≤ 127 := fun i hi => by
    rw [List.getD_eq_getElem?_getD, List.getElem?_eq_getElem hi]
    exact hd _ (List.getElem_mem hi)
   have g1 := g (2 * m) (by omega)
   have g2 := g (2 * m + 1) (by omega)
   have e1 : d.getD (((2 * m : Nat) : Int)).toNat (ET.dflt I8) = d.getD (2 * m) 0 := congrArg (fun z => d.getD z 0) (Int.toNat_natCast _)
   have e2 : d.getD ((((2 * m : Nat) : Int)) + 1).toNat (ET.dflt I8) = d.getD (2 * m + 1) 0 := congrArg (fun z => d.getD z 0) (by omega)
   refine tr_seq (tr_block (rb (rl U64 [_, _] rfl rfl (re rfl ?_) (hp := ?_))))
   ·rw [e1]
    refine tr_mid1 ⟨[(0, cS I8 d), (4, .c (.P 0 0)), (5, .c (.P 1005000 0)), (6, cS U64 P), (7, cI ((2 * m : Nat) : Int)), (8, cS U64 (liF p d m))], memL p F Ls, 4, []⟩ ?_ (fun mid => rr rfl (tr_cond rfl (fun h3 => rbt (rl U64 [_, _, _] rfl rfl (re rfl (at_mid mid (wkP ⟨sR rfl, sR rfl, sR rfl, sR rfl, sR rfl, ⟨_, rfl, AVle.of_eq ?_⟩, trivial⟩ (memL_self p F Ls) (memL_P p F Ls)))) (hp := ?_))) (fun h3 => tr_skip (at_mid mid (wkP ⟨sR rfl, sR rfl, sR rfl, sR rfl, sR rfl, ⟨_, rfl, AVle.of_eq ?_⟩, trivial⟩ (memL_self p F Ls) (memL_P p F Ls))))))
    ·have hgc := rGcd9_s p hp (by omega) (liF p d m) P (by omega) (by omega) f1 c1
     refine rb (rc rfl rfl hgc (re rfl (tr_cond rfl (fun h4 => ?_) (fun h4 => ?_))))
     ·have h4 : (gcdP p (liF p d m) P).length = 1 := by
       have h4 : (((gcdP p (liF p d m) P).length : Int) == 1) = true := h4
       have := eq_of_beq h4
       omega
      rw [if_pos h4] at hz
      have hml := rMul9_s P (liF p d m) p (by omega) (by omega) (by omega) (by omega) c1.1 f1.1
      have hit : FnS Tryz.prog 40 [cS U64 (liF p d m)] (cS .z (liF p d m)) := by
       have := rInts_s (liF p d m) (by omega) (fun i => by have := f1.1 i; omega)
       rwa [f2.trim] at this
      have him : FnS Tryz.prog 43 [cS .z F, cS .z (liF p d m)] (cS .z (imulL F (liF p d m))) := by
       have := rImulB_s F (liF p d m) (2 * m + 1) 1 (by omega) (by omega) (by omega) hI.FB (fun i => SmB.one (by have := f1.1 i; omega))
       rwa [(hI.Fm.imul f2).trim] at this
      refine rb (rc rfl rfl hml (re rfl ?_))
      cases Ls with
      | nil =>
       show TR Tryz.prog _ _ ⟨_, [(0, .box 69 0 [vN, vN, .I .u64 0]), (1005000, .box 69 0 [.S .z F, vN, .I .u64 p])], _, _⟩ _
       refine rb (rl (.sl U64) [liF p d m] rfl rfl (ran rfl rfl rfl rfl rfl rfl rfl rfl ?_ ?_ (rk 1 rfl rfl (rg_stX TT_ok rfl rfl rfl rfl rfl (Nat.lt_of_sub_eq_succ rfl) (re rfl ?_)))))
       ·show _ * 24 ≤ _; simp
       ·show _ * 1 ≤ _; simp
       refine rbt (rc rfl rfl hit (rc rfl rfl him (re rfl ?_)))
       refine at_block (at_then (rt rfl (at_loop (m + 1) (by omega) (by show 5 - (m + 1) < 5 - m; omega) ?_)))
       rw [hz]
       exact wk_map (mv 900000 6004000) ⟨sR rfl, sR rfl, sR rfl, sR rfl, ⟨_, rfl, AVle.of_eq (congrArg cI (by omega))⟩, trivial⟩ ⟨bR rfl, ⟨_, rfl, BLe.of_eq rfl⟩, ⟨_, rfl, BLe.of_eq rfl⟩, trivial⟩ rfl (mv_inj rfl) (memL_P p (imulL F (liF p d m)) ([] ++ [liF p d m]))
      | cons L Ls =>
       show TR Tryz.prog _ _ ⟨_, [(0, .box 69 0 [vN, vN, .I .u64 0]), (1005000, .box 69 0 [.S .z F, .X 900000, .I .u64 p]), (900000, .vec 22 (.sl U64) (L :: Ls))], _, _⟩ _
       have hll : (L :: Ls).length ≤ m := hn1
       refine rb (rl (.sl U64) [liF p d m] rfl rfl (ra rfl rfl rfl rfl rfl rfl rfl rfl rfl ?_ ?_ (rk 1 rfl rfl (rg_stX TT_ok rfl rfl rfl rfl rfl (Nat.lt_of_sub_eq_succ rfl) (re rfl ?_)))))
       ·show ((L :: Ls).length + 1 + ((L :: Ls).length + 1) / 4 + 192) * 24 ≤ _; omega
       ·show ((L :: Ls).length + 1) * 1 ≤ _; omega
       refine rbt (rc rfl rfl hit (rc rfl rfl him (re rfl ?_)))
       refine at_block (at_then (rt rfl (at_loop (m + 1) (by omega) (by show 5 - (m + 1) < 5 - m; omega) ?_)))
       rw [hz]
       exact wk_map (mv 900000 6004000) ⟨sR rfl, sR rfl, sR rfl, sR rfl, ⟨_, rfl, AVle.of_eq (congrArg cI (by omega))⟩, trivial⟩ ⟨bR rfl, ⟨_, rfl, BLe.of_eq rfl⟩, ⟨_, rfl, BLe.of_eq rfl⟩, trivial⟩ rfl (mv_inj rfl) (memL_P p (imulL F (liF p d m)) ((L :: Ls) ++ [liF p d m]))
     ·have h4 : ¬ (gcdP p (liF p d m) P).length = 1 := by
       have h4 : ¬ ((gcdP p (liF p d m) P).length : Int) = 1 := beq_z' h4
       omega
      rw [if_neg h4] at hz
      refine tr_skip (at_block (at_then (rt rfl (at_loop (m + 1) (by omega) (by show 5 - (m + 1) < 5 - m; omega) ?_))))
      rw [hz]
      exact wkP ⟨sR rfl, sR rfl, sR rfl, sR rfl, ⟨_, rfl, AVle.of_eq (congrArg cI (by omega))⟩, trivial⟩ (memL_self p F Ls) (memL_P p F Ls)
    ·have h3 : (d.getD (((2 * m : Nat) : Int) + 1).toNat (ET.dflt I8)).tmod 3 = 0 := eq_of_beq h3
     rw [e2] at h3 ⊢
     rw [e1, wrap_u64 _ (by omega) (by omega), wrap_u64 _ (by omega) (by omega), Int.tmod_eq_emod_of_nonneg (by omega), Int.tmod_eq_emod_of_nonneg (by omega), liF, if_pos h3]
    ·rw [e1, e2]
     simp only [Pr.an, Pr.h, num, i64r, true_and, and_true]
     omega
    ·have h3 : ¬ (d.getD (((2 * m : Nat) : Int) + 1).toNat (ET.dflt I8)).tmod 3 = 0 := beq_z' h3
     rw [e2] at h3
     rw [wrap_u64 _ (by omega) (by omega), Int.tmod_eq_emod_of_nonneg (by omega), liF, if_neg h3]
   ·rw [e1]
    simp only [Pr.an, Pr.h, num, i64r, true_and, and_true]
    omega
  ·have hm5 : m = min 5 (d.length / 2) := by
    have hb : ((2 * m : Nat) : Int) + 1 < (d.length : Int) := of_decide_eq_true hb
    have h : ¬ ((2 * m : Nat) : Int) < 10 := of_decide_eq_false h
    omega
   rw [← hm5, hS] at mid ⊢
   refine tr_exit (at_then_exit (at_loop_exit (at_block_exit (at_mid mid (wkP ⟨sR rfl, sR rfl, trivial⟩ (memL_self p F Ls) (memL_P p F Ls))))))
 ·have hm5 : m = min 5 (d.length / 2) := by
   have hb : ¬ ((2 * m : Nat) : Int) + 1 < (d.length : Int) := of_decide_eq_false hb
   omega
  rw [← hm5, hS] at mid ⊢
  refine re rfl (tr_cond rfl (fun h => by cases h) (fun h => tr_exit (at_then_exit (at_loop_exit (at_block_exit (at_mid mid (wkP ⟨sR rfl, sR rfl, trivial⟩ (memL_self p F Ls) (memL_P p F Ls))))))))
end Go.El

/- Plain: the law's lists meet what Lift asks. Own work; no condition. -/
namespace Go.El
open Go Go.Proofs
theorem Cop.of_mul {p : Int} {A B C : PS} (h : Cop p (A * B) C) (hB : Pol p B) : Cop p A C := by
 obtain ⟨U, V, hU, hV, e⟩ := h
 refine ⟨U * B, V, hU.mul hB, hV, ?_⟩
 rwa [show U * B * A = U * (A * B) by ac_rfl]
theorem Cop.mul {p : Int} {A B C : PS} (h : Cop p A C) (k : Cop p B C) (hA : Pol p A) : Cop p (A * B) C := by
 obtain ⟨U, V, hU, hV, e⟩ := h
 obtain ⟨U', V', hU', hV', e'⟩ := k
 -- 1 = (U A + V C)(U' B + V' C) = U U' A B + (U A V' + V (U' B + V' C)) C, the last factor is 1 again
 refine ⟨U * U', U * A * V' + V, hU.mul hU', ((hU.mul hA).mul hV').add hV, ?_⟩
 have h1 : U * U' * (A * B) + (U * A * V' + V) * C = U * A * (U' * B + V' * C) + V * C := by
  simp only [PS.mul_add, PS.add_mul]; ac_rfl
 rw [h1]
 exact (((e'.mul_l (U * A)).add_r (V * C)).trans (Cg.of_eq (by rw [PS.mul_one]))).trans e
theorem Cop.one {p : Int} (A : PS) : Cop p 1 A := ⟨1, 0, Pol.one p, Pol.zero p, Cg.of_eq (by rw [PS.mul_one, PS.zero_mul, PS.add_zero])⟩
theorem cop_pair {p : Nat} {l : Nat → List Int} : ∀ {i j : Nat}, j < i → Cop p (ps (prP p l i)) (ps (l i)) → Cop p (ps (l j)) (ps (l i)) := by
 intro i j hj h
 have key : ∀ n, j < n → Cop p (ps (prP p l n)) (ps (l i)) → Cop p (ps (l j)) (ps (l i)) := by
  intro n
  induction n with
  | zero => intro h; omega
  | succ n ih =>
   intro hj h
   rw [prP] at h
   have h2 := h.cg (ptimes_ps (prP p l n) (l n) p) (Cg.refl _ _)
   by_cases e : j = n
   ·subst e
    rw [PS.mul_comm] at h2
    exact h2.of_mul (Pol.ps _ _)
   ·exact ih (by omega) (h2.of_mul (Pol.ps _ _))
 exact key i hj h
theorem oth_cop {p : Nat} (hp : IsP p) (hp31 : p ≤ 2147483648) {l : Nat → List Int} {r i : Nat} (hi : i < r) (hc : ∀ j, j < r → pcan p (l j)) (hne : l i ≠ []) (hpair : ∀ j, j < r → j ≠ i → Cop p (ps (l j)) (ps (l i))) : ∀ j, j ≤ r → Cop p (ps (othL p l i j)) (ps (l i))
 | 0, _ => by
  rw [othL, ps_one]; exact Cop.one _
 | j + 1, hj => by
  have ih := oth_cop hp hp31 hi hc hne hpair j (by omega)
  have hp0 : (0 : Int) < (p : Int) := by have := hp.1; omega
  rw [othL]
  split
  ·exact ih
  ·rename_i e
   obtain ⟨d1, d2, d3, d4, d5, d6⟩ := pdiv_ok hp hp31 (ptimes_pcan hp0 (othL p l i j) (l j)).1 (hc i hi) hne
   have h1 := (ih.mul (hpair j (by omega) e) (Pol.ps _ _)).cg (ptimes_ps (othL p l i j) (l j) p).symm (Cg.refl _ _)
   exact (h1.step (Pol.ps _ _) d1).symm
def liA (p : Nat) (F : List Int) (e : Nat) : List Int := if 1 < F.length then F.set 0 (F.getD 0 0 + (e : Int) * (p : Int)) else F
theorem liA_len (p : Nat) (F : List Int) (e : Nat) : (liA p F e).length = F.length := by
 unfold liA; split
 ·exact List.length_set
 ·rfl
theorem liA_get (p : Nat) (F : List Int) (e : Nat) (i : Nat) : (liA p F e).getD i 0 = F.getD i 0 + if i = 0 ∧ 1 < F.length then (e : Int) * (p : Int) else 0 := by
 unfold liA
 split
 ·rename_i h
  rw [getD_set_eq _ _ _ _ (by omega)]
  by_cases e2 : i = 0
  ·subst e2; rw [if_pos (by simp), if_pos ⟨rfl, h⟩]
  ·rw [if_neg (by omega), if_neg (by omega), Int.add_zero]
 ·rename_i h
  rw [if_neg (by omega), Int.add_zero]
theorem liA_mon (p : Nat) {F : List Int} (e : Nat) (h : mon F) : mon (liA p F e) := by
 have hl := List.length_pos_iff.2 h.1
 refine ⟨fun x => ?_, ?_⟩
 ·have := liA_len p F e
  rw [x] at this; simp at this; omega
 ·rw [liA_len, liA_get, h.2, if_neg (by omega), Int.add_zero]
theorem liA_cg (p : Nat) (F : List Int) (e : Nat) : Cg p (ps (liA p F e)) (ps F) := Cg.of fun i => by
 rw [ps_at, ps_at, liA_get]
 split
 ·exact Int.add_mul_emod_self_right _ _ _
 ·rw [Int.add_zero]
theorem liB_of {p : Nat} (hp : IsP p) (hpm : p ≤ 2147483647) {m : Nat} (hm : m ≤ 5) {Ls : List (List Int)} {P F : List Int} (h : LsI p m (Ls, P, F)) (e : Nat) (he : e < 256) {k : Nat} (hk1 : 1 ≤ k) (hk2 : k ≤ 200) : LiB p (liA p F e) Ls k 15 := by
 have h2 := hp.1
 have hp0 : (0 : Int) < (p : Int) := by omega
 obtain ⟨n, fs, pr, prc, prg, Fm, Fl, Fl2, Fp, FB⟩ := h
 simp only at n fs pr prc prg Fm Fl Fl2 Fp FB
 have hpair : ∀ i, i < Ls.length → ∀ j, j < Ls.length → j ≠ i → Cop p (ps (Ls.getD j [])) (ps (Ls.getD i [])) := by
  intro i hi j hj hne
  by_cases hlt : j < i
  ·exact cop_pair (l := fun i => Ls.getD i []) hlt (prg i hi)
  ·exact (cop_pair (l := fun i => Ls.getD i []) (show i < j by omega) (prg j hj)).symm
 have ham := liA_mon p e Fm
 refine ⟨⟨⟨hp, by omega, by omega, fun i hi => (fs i hi).1, fun i hi => (fs i hi).2.2.1, fun i hi => Nat.le_trans (fs i hi).2.2.2 (by decide), fun i hi => ?_⟩, hk1, by omega, ?_, by decide, fun i => ?_, ?_⟩, hpm, hk2, ham.1, ham.2, fun i hi => (fs i hi).2.1.2, fun i hi => ?_, fun i hi => ?_, ?_⟩
 ·exact oth_cop (l := fun i => Ls.getD i []) hp (by omega) hi (fun j hj => (fs j hj).1) (fs i hi).2.1.1 (fun j hj hne => hpair i hi j hj hne) _ (Nat.le_refl _)
 ·rw [liA_len]; omega
 ·rw [liA_get]
  have h1 : SmB 14 (F.getD i 0) := (FB i).le (by omega)
  refine h1.add ?_
  split
  ·exact ((SmB.one (a := (e : Int)) (by omega)).mul (SmB.one (a := (p : Int)) (by omega))).le (by decide)
  ·exact SmB.zero _
 ·rw [liA_len, Fl]
 ·obtain ⟨c1, c2, c3⟩ := prc i hi
  exact ⟨c1, c2, by omega⟩
 ·exact (gcdP_one hp (by omega) (prc i (by omega)).1 (fs i hi).1).2 (prg i hi)
 ·refine pcan_eq (prc _ (Nat.le_refl _)).1 (pcan_trim hp0 (md_rp hp0 _)) ?_
  rw [← pr, ps_trimW]
  exact Fp.symm.trans ((liA_cg p F e).symm.trans (Cg_md p _).symm)
end Go.El

/- Plain: products, their first variation, the Chinese remainder of polynomials. Own work; no condition. -/
namespace Go.El
open Go Go.Proofs
def prS (F : Nat → PS) : Nat → PS
 | 0 => 1
 | j + 1 => prS F j * F j
def sS (F C : Nat → PS) : Nat → PS
 | 0 => 0
 | j + 1 => sS F C j * F j + prS F j * C j
def othS (F : Nat → PS) (i : Nat) : Nat → PS
 | 0 => 1
 | j + 1 => if j = i then othS F i j else othS F i j * F j
theorem prS_cg {m : Int} {F G : Nat → PS} : ∀ r, (∀ i, i < r → Cg m (F i) (G i)) → Cg m (prS F r) (prS G r)
 | 0, _ => Cg.refl _ _
 | r + 1, h => (prS_cg r fun i hi => h i (by omega)).mul (h r (by omega))
theorem sS_cg {m : Int} {F G C : Nat → PS} : ∀ r, (∀ i, i < r → Cg m (F i) (G i)) → Cg m (sS F C r) (sS G C r)
 | 0, _ => Cg.refl _ _
 | r + 1, h => ((sS_cg r fun i hi => h i (by omega)).mul (h r (by omega))).add ((prS_cg r fun i hi => h i (by omega)).mul_r _)
theorem prS_pol {p : Int} {F : Nat → PS} : ∀ r, (∀ i, i < r → Pol p (F i)) → Pol p (prS F r)
 | 0, _ => Pol.one p
 | r + 1, h => (prS_pol r fun i hi => h i (by omega)).mul (h r (by omega))
theorem sS_pol {p : Int} {F C : Nat → PS} : ∀ r, (∀ i, i < r → Pol p (F i) ∧ Pol p (C i)) → Pol p (sS F C r)
 | 0, _ => Pol.zero p
 | r + 1, h => ((sS_pol r fun i hi => h i (by omega)).mul (h r (by omega)).1).add ((prS_pol r fun i hi => (h i (by omega)).1).mul (h r (by omega)).2)
theorem othS_pol {p : Int} {F : Nat → PS} {i : Nat} : ∀ r, (∀ j, j < r → Pol p (F j)) → Pol p (othS F i r)
 | 0, _ => Pol.one p
 | r + 1, h => by
  rw [othS]
  split
  ·exact othS_pol r fun i hi => h i (by omega)
  ·exact (othS_pol r fun i hi => h i (by omega)).mul (h r (by omega))
theorem othS_pr {F : Nat → PS} {i : Nat} : ∀ j, j ≤ i → othS F i j = prS F j
 | 0, _ => rfl
 | j + 1, h => by rw [othS, if_neg (by omega), prS, othS_pr j (by omega)]
def Cm (p : Int) (B A A' : PS) : Prop := ∃ W, Pol p W ∧ Cg p A (A' + W * B)
theorem Cm.of {p : Int} {B A A' : PS} (h : Cg p A A') : Cm p B A A' := ⟨0, Pol.zero p, by rw [PS.zero_mul, PS.add_zero]; exact h⟩
theorem Cm.trans {p : Int} {B A A' A'' : PS} (h : Cm p B A A') (k : Cm p B A' A'') : Cm p B A A'' := by
 obtain ⟨W, hW, e⟩ := h
 obtain ⟨V, hV, f⟩ := k
 refine ⟨V + W, hV.add hW, e.trans ?_⟩
 rw [PS.add_mul, ← PS.add_assoc]
 exact f.add_r _
theorem Cm.symm {p : Int} {B A A' : PS} (h : Cm p B A A') : Cm p B A' A := by
 obtain ⟨W, hW, e⟩ := h
 refine ⟨-W, hW.neg, ?_⟩
 refine Cg.trans (Cg.of_eq ?_) (e.symm.add_r _)
 rw [PS.neg_mul, PS.add_assoc, PS.add_neg, PS.add_zero]
theorem Cm.mul {p : Int} {B A A' D D' : PS} (hB : Pol p B) (hA : Pol p A') (hD : Pol p D') (h : Cm p B A A') (k : Cm p B D D') : Cm p B (A * D) (A' * D') := by
 obtain ⟨W, hW, e⟩ := h
 obtain ⟨V, hV, f⟩ := k
 refine ⟨A' * V + W * D' + W * V * B, ((hA.mul hV).add (hW.mul hD)).add ((hW.mul hV).mul hB), (e.mul f).trans (Cg.of_eq ?_)⟩
 simp only [PS.add_mul, PS.mul_add]; ac_rfl
theorem prS_div {p : Int} {F : Nat → PS} {i : Nat} : ∀ j, i < j → (∀ q, q < j → Pol p (F q)) → ∃ V, Pol p V ∧ prS F j = V * F i
 | 0, h, _ => by omega
 | j + 1, h, hF => by
  by_cases e : i = j
  ·subst e; exact ⟨prS F i, prS_pol i fun q hq => hF q (by omega), rfl⟩
  ·obtain ⟨V, hV, e1⟩ := prS_div (F := F) (i := i) j (by omega) fun q hq => hF q (by omega)
   exact ⟨V * F j, hV.mul (hF j (by omega)), by rw [prS, e1]; ac_rfl⟩
theorem sS_mod {p : Int} {F C : Nat → PS} {i : Nat} : ∀ j, i < j → (∀ q, q < j → Pol p (F q) ∧ Pol p (C q)) → Cm p (F i) (sS F C j) (othS F i j * C i)
 | 0, h, _ => by omega
 | j + 1, h, hF => by
  by_cases e : i = j
  ·subst e
   refine ⟨sS F C i, sS_pol i fun q hq => hF q (by omega), Cg.of_eq ?_⟩
   rw [sS, othS, if_pos rfl, othS_pr i (Nat.le_refl _)]; ac_rfl
  ·obtain ⟨W, hW, e1⟩ := sS_mod (C := C) j (show i < j by omega) fun q hq => hF q (by omega)
   obtain ⟨V, hV, e2⟩ := prS_div (p := p) j (show i < j by omega) fun q hq => (hF q (by omega)).1
   refine ⟨W * F j + V * C j, (hW.mul (hF j (by omega)).1).add (hV.mul (hF j (by omega)).2), ?_⟩
   rw [sS, othS, if_neg (by omega), e2]
   refine ((e1.mul_r (F j)).add_r _).trans (Cg.of_eq ?_)
   simp only [PS.add_mul]; ac_rfl
theorem crt {p : Int} {F : Nat → PS} {D : PS} {r : Nat} (hF : ∀ i, i < r → Pol p (F i)) (hd : ∀ i, i < r → ∃ W, Pol p W ∧ Cg p D (W * F i)) (hcop : ∀ i, i < r → Cop p (prS F i) (F i)) (hD : Pol p D) : ∀ j, j ≤ r → ∃ W, Pol p W ∧ Cg p D (W * prS F j)
 | 0, _ => ⟨D, hD, by rw [prS, PS.mul_one]; exact Cg.refl _ _⟩
 | j + 1, hj => by
  obtain ⟨W, hW, e1⟩ := crt hF hd hcop hD j (by omega)
  obtain ⟨V, hV, e2⟩ := hd j (by omega)
  obtain ⟨U, U', hU, hU', e3⟩ := hcop j (by omega)
  refine ⟨U * V + U' * W, (hU.mul hV).add (hU'.mul hW), ?_⟩
  have h1 : Cg p D ((U * prS F j + U' * F j) * D) := by
   have := (e3.mul_r D).symm
   rwa [PS.one_mul] at this
  refine h1.trans ?_
  rw [PS.add_mul, prS]
  refine ((e2.mul_l (U * prS F j)).add (e1.mul_l (U' * F j))).trans (Cg.of_eq ?_)
  rw [PS.add_mul]; ac_rfl
def dgS (d : Nat → Nat) : Nat → Nat
 | 0 => 0
 | j + 1 => dgS d j + d j
theorem prS_dl {p : Int} {F : Nat → PS} {d : Nat → Nat} : ∀ r, (∀ i, i < r → Dl p (d i + 1) (F i)) → Dl p (dgS d r + 1) (prS F r)
 | 0, _ => Dl_1 p
 | r + 1, h => ((prS_dl r fun i hi => h i (by omega)).mul (h r (by omega)))
theorem prS_top {p : Int} {F : Nat → PS} {d : Nat → Nat} : ∀ r, (∀ i, i < r → Dl p (d i + 1) (F i) ∧ F i (d i) % p = 1 % p) → prS F r (dgS d r) % p = 1 % p
 | 0, _ => rfl
 | r + 1, h => by
  rw [prS, dgS, (prS_dl r fun i hi => (h i (by omega)).1).top (h r (by omega)).1, Int.mul_emod, prS_top r fun i hi => h i (by omega), (h r (by omega)).2, ← Int.mul_emod, Int.mul_one]
theorem sS_dl {p : Int} {F C : Nat → PS} {d : Nat → Nat} : ∀ r, (∀ i, i < r → Dl p (d i + 1) (F i) ∧ Dl p (d i) (C i)) → Dl p (dgS d r) (sS F C r)
 | 0, _ => Dl_0 p 0
 | r + 1, h => by
  refine Dl.add ?_ ((prS_dl r fun i hi => (h i (by omega)).1).mul (h r (by omega)).2)
  have := (h r (by omega)).1.mul (sS_dl r fun i hi => h i (by omega))
  rw [PS.mul_comm, Nat.add_comm] at this
  exact this
theorem crt_zero {p : Nat} (hp : IsP p) {F : Nat → PS} {d : Nat → Nat} {D : PS} {r : Nat} (hF : ∀ i, i < r → Dl p (d i + 1) (F i) ∧ F i (d i) % (p : Int) = 1 % (p : Int)) (hd : ∀ i, i < r → ∃ W, Pol p W ∧ Cg p D (W * F i)) (hcop : ∀ i, i < r → Cop p (prS F i) (F i)) (hD : Dl p (dgS d r) D) : Cg p D 0 := by
 have h2 := hp.1
 obtain ⟨W, ⟨n, hW⟩, e⟩ := crt (fun i hi => ⟨_, (hF i hi).1⟩) hd hcop ⟨_, hD⟩ r (Nat.le_refl _)
 have h1 : prS F r (dgS d r) % (p : Int) ≠ 0 := by
  rw [prS_top r hF, Int.emod_eq_of_lt (by decide) (by omega)]; decide
 have h3 := mul_zero_of hp hW (prS_dl r fun i hi => (hF i hi).1) h1 (hD.cg e)
 refine e.trans ((h3.mul_r _).trans (Cg.of_eq (PS.zero_mul _)))
theorem prS_vary {q p : Int} (hqp : p ∣ q) {F C : Nat → PS} : ∀ r, Cg (q * p) (prS (fun i => F i + PS.K q * C i) r) (prS F r + PS.K q * sS F C r)
 | 0 => by rw [prS, sS, PS.mul_zero, PS.add_zero]; exact Cg.refl _ _
 | r + 1 => by
  have ih := prS_vary hqp (F := F) (C := C) r
  obtain ⟨t, ht⟩ := hqp
  rw [prS]
  refine (ih.mul_r _).trans ⟨PS.K t * (sS F C r * C r), ?_⟩
  have hqq : PS.K q * PS.K q = PS.K (q * p) * PS.K t := by rw [← PS.K_mulK, ← PS.K_mulK, Int.mul_assoc, ← ht]
  have e1 : (prS F r + PS.K q * sS F C r) * (F r + PS.K q * C r) = prS F r * F r + PS.K q * (sS F C r * F r + prS F r * C r) + PS.K q * PS.K q * (sS F C r * C r) := by
   simp only [PS.add_mul, PS.mul_add]; ac_rfl
  rw [e1, hqq, prS, sS, PS.mul_assoc (PS.K (q * p))]
end Go.El

/- Plain: the lifting lifts. Own work; no condition. -/
namespace Go.El
open Go Go.Proofs
theorem ps_updL (F c : List Int) (q : Int) (h : c.length ≤ F.length) : ps (updL F c q) = ps F + PS.K q * ps c := PS.ext fun i => by
 rw [PS.add_at, PS.K_mul, ps_at, ps_at, ps_at]
 by_cases e : i < F.length
 ·rw [updL, updP_get _ _ _ _ _ e, if_pos e]
 ·rw [getD_ge _ (by rw [updL, updP_len]; omega), getD_ge F (by omega), getD_ge c (by omega), Int.mul_zero, Int.add_zero]
theorem prL_ps (F : Nat → List Int) (m : Int) : ∀ j, Cg m (ps (prL F m j)) (prS (fun i => ps (F i)) j)
 | 0 => by rw [prL, ps_one]; exact Cg.refl _ _
 | j + 1 => (tmL_ps (prL F m j) (F j) m).trans ((prL_ps F m j).mul_r _)
theorem prL_dg (F : Nat → List Int) (m : Int) : ∀ j, (∀ i, i < j → 1 ≤ (F i).length) → (prL F m j).length = dgS (fun i => (F i).length - 1) j + 1
 | 0, _ => rfl
 | j + 1, h => by
  have h1 := h j (Nat.lt_succ_self j)
  rw [prL, tmL_len, prL_dg F m j fun i hi => h i (by omega), dgS]
  omega
structure HeH (p : Nat) (a : List Int) (l : Nat → List Int) (r : Nat) : Prop where
 H : LiH p l r
 mn : ∀ i, i < r → mon (l i)
 cop : ∀ i, i < r → Cop p (prS (fun i => ps (l i)) i) (ps (l i))
 am : mon a
 hpl : a.length = (prL l p r).length
 ap : Cg p (ps a) (prS (fun i => ps (l i)) r)
section
variable {p : Nat} {a : List Int} {l : Nat → List Int} {r : Nat} (h : HeH p a l r)
include h
theorem HeH.oth {i : Nat} (hi : i < r) : ∀ j, j ≤ r → Cm p (ps (l i)) (ps (othL p l i j)) (othS (fun i => ps (l i)) i j)
 | 0, _ => by rw [othL, ps_one]; exact Cm.of (Cg.refl _ _)
 | j + 1, hj => by
  have ih := HeH.oth hi j (by omega)
  have hp0 : (0 : Int) < (p : Int) := by have := h.H.hp.1; omega
  rw [othL, othS]
  split
  ·exact ih
  ·obtain ⟨d1, _⟩ := pdiv_ok h.H.hp h.H.hp31 (ptimes_pcan hp0 (othL p l i j) (l j)).1 (h.H.c i hi) (h.H.ne hi)
   have h1 : Cm p (ps (l i)) (ps (ptimes (othL p l i j) (l j) p)) (ps (pdivide (ptimes (othL p l i j) (l j) p) (l i) p).2) := ⟨_, Pol.ps _ _, d1.trans (Cg.of_eq (PS.add_comm _ _))⟩
   refine h1.symm.trans ((Cm.of (ptimes_ps _ _ _)).trans ?_)
   exact Cm.mul (Pol.ps _ _) (othS_pol j fun q _ => Pol.ps _ _) (Pol.ps _ _) ih (Cm.of (Cg.refl _ _))
theorem HeH.step {q : Int} (hq : 0 < q) (hpq : (p : Int) ∣ q) {F : Nat → List Int} (hl : ∀ i, i < r → (F i).length = (l i).length) (hF : ∀ i, i < r → Cg p (ps (F i)) (ps (l i))) (ht : ∀ i, i < r → (F i).getD ((l i).length - 1) 0 = 1) (ha : Cg q (ps a) (prS (fun i => ps (F i)) r)) :
  Cg (q * p) (ps a) (prS (fun i => ps (updL (F i) (cofL p a l r q F i) q)) r) := by
 have hp := h.H.hp
 have h2 := hp.1
 have hp0 : (0 : Int) < (p : Int) := by omega
 have hcof := fun i hi => h.H.cof (i := i) hi a q F
 have hd1 : a.length = dgS (fun i => (l i).length - 1) r + 1 := by
  rw [h.hpl, prL_dg l p r fun i hi => by have := h.H.l2 i hi; omega]
 obtain ⟨U, hU⟩ := ha
 have hPl : (prL F (q * p) r).length = a.length := by rw [h.hpl]; exact prL_len2 r hl
 have hPc := prL_ps F (q * p) r
 -- what is missing
 have hE : ∀ i, q * U i % (q * (p : Int)) = (a.getD i 0 - (prL F (q * p) r).getD i 0) % (q * (p : Int)) := fun i => by
  have e1 : a.getD i 0 = prS (fun i => ps (F i)) r i + q * U i := by
   have := congrFun hU i
   rw [PS.add_at, PS.K_mul] at this
   exact this
  rw [e1]
  obtain ⟨t, ht2⟩ := hPc.dvd i
  have ht2 : (prL F (q * p) r).getD i 0 - prS (fun i => ps (F i)) r i = q * (p : Int) * t := ht2
  rw [show prS (fun i => ps (F i)) r i + q * U i - (prL F (q * p) r).getD i 0 = q * U i + q * (p : Int) * (-t) by rw [Int.mul_neg]; omega, Int.add_mul_emod_self_left]
 have hU1 : ∀ i, (a.getD i 0 - (prL F (q * p) r).getD i 0) % (q * (p : Int)) / q = U i % p := fun i => by
  rw [← hE i, Int.mul_emod_mul_of_pos _ _ hq, Int.mul_ediv_cancel_left _ (by omega)]
 have hU0 : ∀ i, (a.getD i 0 - (prL F (q * p) r).getD i 0) % (q * (p : Int)) = 0 → U i % (p : Int) = 0 := fun i hi => by
  have := hU1 i
  rw [hi, Int.zero_ediv] at this
  exact this.symm
 have hrest : Cg p (ps (restL a (prL F (q * p) r) (q * p) q)) U := Cg.of fun i => by
  rw [ps_at]
  by_cases e : i < a.length
  ·rw [restL, getDm _ _ e, hU1 i, Int.emod_emod]
  ·rw [getD_ge _ (by simp [restL]; omega), Int.zero_emod, hU0 i]
   rw [getD_ge a (by omega), getD_ge (prL F (q * p) r) (by omega), Int.sub_self, Int.zero_emod]
 have hmis : Cg p (ps (misL p a r q F)) U := by
  unfold misL
  rw [ps_trimW]
  exact (Cg_md p _).trans hrest
 have hUd : Dl p (dgS (fun i => (l i).length - 1) r) U := fun i hi => hU0 i (by
  by_cases e : i < a.length
  ·have e2 : i = a.length - 1 := by omega
   have h3 := hPc.at i
   have h4 := prS_top (p := q * (p : Int)) (F := fun i => ps (F i)) (d := fun i => (l i).length - 1) r fun j hj => ⟨by
    have := Dl_ps (q * (p : Int)) (F j)
    rw [hl j hj] at this
    exact this.le (by omega), by
    show (F j).getD ((l j).length - 1) 0 % _ = _
    rw [ht j hj]⟩
   rw [show dgS (fun i => (l i).length - 1) r = i by omega] at h4
   have h5 : (prL F (q * p) r).getD i 0 % (q * (p : Int)) = 1 % (q * (p : Int)) := h3.trans h4
   rw [e2] at h5 ⊢
   rw [h.am.2, Int.sub_emod, h5, ← Int.sub_emod, Int.sub_self, Int.zero_emod]
  ·rw [getD_ge a (by omega), getD_ge (prL F (q * p) r) (by omega), Int.sub_self, Int.zero_emod])
 -- the Chinese remainder
 have hkey : Cg p (sS (fun i => ps (F i)) (fun i => ps (cofL p a l r q F i)) r) U := by
  refine (sS_cg r hF).trans (Cg.trans ?_ hmis)
  have hz : Cg p (sS (fun i => ps (l i)) (fun i => ps (cofL p a l r q F i)) r - ps (misL p a r q F)) 0 := by
   refine crt_zero hp (F := fun i => ps (l i)) (d := fun i => (l i).length - 1) (r := r) (fun i hi => ⟨(Dl_ps p (l i)).le (by omega), ?_⟩) (fun i hi => ?_) h.cop (Dl.sub (sS_dl r fun i hi => ⟨(Dl_ps p (l i)).le (by omega), (Dl_ps p _).le (hcof i hi).2.2.2⟩) (hUd.cg hmis.symm))
   ·show (l i).getD ((l i).length - 1) 0 % _ = _
    rw [(h.mn i hi).2]
   ·obtain ⟨_, _, W, hW, hinv⟩ := h.H.inv hi
    obtain ⟨d1, _⟩ := pdiv_ok hp h.H.hp31 (ptimes_pcan hp0 (misL p a r q F) (invL p (othL p l i r) (l i))).1 (h.H.c i hi) (h.H.ne hi)
    have c1 : Cm p (ps (l i)) (ps (ptimes (misL p a r q F) (invL p (othL p l i r) (l i)) p)) (ps (cofL p a l r q F i)) := ⟨_, Pol.ps _ _, d1.trans (Cg.of_eq (PS.add_comm _ _))⟩
    have c2 : Cm p (ps (l i)) (ps (cofL p a l r q F i)) (ps (misL p a r q F) * ps (invL p (othL p l i r) (l i))) := c1.symm.trans (Cm.of (ptimes_ps _ _ _))
    have c3 := sS_mod (p := (p : Int)) (F := fun i => ps (l i)) (C := fun i => ps (cofL p a l r q F i)) (i := i) r hi fun q hq => ⟨Pol.ps _ _, Pol.ps _ _⟩
    have c4 : Cm p (ps (l i)) (othS (fun i => ps (l i)) i r * ps (cofL p a l r q F i)) (ps (othL p l i r) * (ps (misL p a r q F) * ps (invL p (othL p l i r) (l i)))) := Cm.mul (Pol.ps _ _) (Pol.ps _ _) ((Pol.ps _ _).mul (Pol.ps _ _)) (h.oth hi r (Nat.le_refl _)).symm c2
    have c5 : Cm p (ps (l i)) (ps (invL p (othL p l i r) (l i)) * ps (othL p l i r)) 1 := ⟨W, hW, hinv⟩
    have c6 : Cm p (ps (l i)) (ps (misL p a r q F) * (ps (invL p (othL p l i r) (l i)) * ps (othL p l i r))) (ps (misL p a r q F) * 1) := Cm.mul (Pol.ps _ _) (Pol.ps _ _) (Pol.one _) (Cm.of (Cg.refl _ _)) c5
    rw [PS.mul_one, show ps (misL p a r q F) * (ps (invL p (othL p l i r) (l i)) * ps (othL p l i r)) = ps (othL p l i r) * (ps (misL p a r q F) * ps (invL p (othL p l i r) (l i))) by ac_rfl] at c6
    obtain ⟨V, hV, e⟩ := (c3.trans c4).trans c6
    refine ⟨V, hV, (e.sub (Cg.refl _ _)).trans (Cg.of_eq ?_)⟩
    rw [PS.add_comm, PS.add_sub_cancel]
  have := hz.add_r (ps (misL p a r q F))
  rwa [PS.sub_add_cancel, PS.zero_add] at this
 -- the step
 have hps : Cg (q * p) (prS (fun i => ps (updL (F i) (cofL p a l r q F i) q)) r) (prS (fun i => ps (F i) + PS.K q * ps (cofL p a l r q F i)) r) := prS_cg r fun i hi => Cg.of_eq (ps_updL _ _ _ (by have := (hcof i hi).2.2.2; have := hl i hi; omega))
 refine Cg.symm (hps.trans ((prS_vary hpq r).trans ?_))
 rw [hU]
 exact (hkey.up).add_l _
theorem HeH.all : ∀ s, (∀ i, i < r → Cg p (ps (liftS p a l r s i)) (ps (l i))) ∧ (∀ i, i < r → (liftS p a l r s i).getD ((l i).length - 1) 0 = 1) ∧ Cg ((p : Int) ^ (s + 1)) (ps a) (prS (fun i => ps (liftS p a l r s i)) r)
 | 0 => ⟨fun i _ => Cg.refl _ _, fun i hi => (h.mn i hi).2, by rw [Int.pow_one]; exact h.ap⟩
 | s + 1 => by
  obtain ⟨h1, h3, h4⟩ := HeH.all s
  have hp0 : (0 : Int) < (p : Int) := by have := h.H.hp.1; omega
  have hq : (0 : Int) < (p : Int) ^ (s + 1) := Int.pow_pos hp0
  have hpq : (p : Int) ∣ (p : Int) ^ (s + 1) := ⟨(p : Int) ^ s, by rw [Int.pow_succ, Int.mul_comm]⟩
  have hst := fun i hi => (h.H.st a s i hi).1
  have hcof := fun i hi => h.H.cof (i := i) hi a ((p : Int) ^ (s + 1)) (liftS p a l r s)
  refine ⟨fun i hi => ?_, fun i hi => ?_, ?_⟩
  ·have h5 := hst i hi
   have h6 := (hcof i hi).2.2.2
   show Cg p (ps (updL _ _ _)) _
   rw [ps_updL _ _ _ (by omega)]
   obtain ⟨t, ht⟩ := hpq
   refine Cg.trans ⟨PS.K t * ps (cofL p a l r ((p : Int) ^ (s + 1)) (liftS p a l r s) i), ?_⟩ (h1 i hi)
   rw [ht, PS.K_mulK, PS.mul_assoc]
  ·have h5 := hst i hi
   have h6 := (hcof i hi).2.2.2
   have h7 := h.H.l2 i hi
   show (updL _ _ _).getD _ 0 = 1
   rw [updL, updP_get _ _ _ _ _ (by omega), if_pos (by omega), h3 i hi, getD_ge (cofL p a l r ((p : Int) ^ (s + 1)) (liftS p a l r s) i) (by omega), Int.mul_zero, Int.add_zero]
  ·rw [Int.pow_succ (p : Int) (s + 1)]
   exact h.step hq hpq hst h1 h3 h4
end
end Go.El

/- Plain: what the law asks of the lifted lists. Own work; no condition. -/
namespace Go.El
open Go Go.Proofs
theorem nearZ_congr {a b m : Int} (h : a % m = b % m) : nearZ a m = nearZ b m := by unfold nearZ; rw [h]
theorem nearZ_mod {m : Int} (hm : 0 < m) (a : Int) : nearZ a m % m = a % m := by
 unfold nearZ
 split
 ·rw [Int.sub_emod, Int.emod_emod, Int.emod_self, Int.sub_zero, Int.emod_emod]
 ·exact Int.emod_emod _ _
theorem nearZ_one {m : Int} (hm : 1 < m) : nearZ 1 m = 1 := by
 unfold nearZ
 rw [Int.emod_eq_of_lt (by decide) hm, if_neg (by omega)]
theorem nearZ_zero (m : Int) (hm : 0 < m) : nearZ 0 m = 0 := by
 unfold nearZ
 rw [Int.zero_emod, if_neg (by omega)]
theorem near_get (F : List Int) {m : Int} (hm : 0 < m) (i : Nat) : (F.map (nearZ · m)).getD i 0 = nearZ (F.getD i 0) m := getD_map (f := (nearZ · m)) (nearZ_zero m hm) F i
theorem map_near {F G : List Int} {m : Int} (hm : 0 < m) (hl : F.length = G.length) (h : ∀ i, F.getD i 0 % m = G.getD i 0 % m) : F.map (nearZ · m) = G.map (nearZ · m) := ext_getD (by rw [List.length_map, List.length_map, hl]) fun j _ => by
 rw [near_get F hm, near_get G hm]
 exact nearZ_congr (h j)
theorem mon_near {F : List Int} {m : Int} (hm : 1 < m) (h : mon F) : mon (F.map (nearZ · m)) := by
 refine ⟨fun e => h.1 (List.map_eq_nil_iff.1 e), ?_⟩
 rw [List.length_map, near_get F (by omega), h.2]
 exact nearZ_one hm
theorem emod_less {a b m n : Int} (h : a % m = b % m) (hd : n ∣ m) : a % n = b % n := by
 obtain ⟨t, rfl⟩ := hd
 rw [← Int.emod_emod_of_dvd a (Int.dvd_mul_right n t), h, Int.emod_emod_of_dvd b (Int.dvd_mul_right n t)]
def prI (F : Nat → List Int) : Nat → List Int
 | 0 => [1]
 | j + 1 => imulL (prI F j) (F j)
theorem prI_mon {F : Nat → List Int} : ∀ r, (∀ i, i < r → mon (F i)) → mon (prI F r)
 | 0, _ => ⟨List.cons_ne_nil _ _, rfl⟩
 | r + 1, h => (prI_mon r fun i hi => h i (by omega)).imul (h r (by omega))
theorem prI_ps {F : Nat → List Int} : ∀ r, (∀ i, i < r → mon (F i)) → ps (prI F r) = prS (fun i => ps (F i)) r
 | 0, _ => ps_one
 | r + 1, h => by rw [prI, imul_ps _ _ (prI_mon r fun i hi => h i (by omega)).1 (h r (by omega)).1, prI_ps r fun i hi => h i (by omega), prS]
theorem prI_len {F G : Nat → List Int} {m : Int} : ∀ r, (∀ i, i < r → (F i).length = (G i).length) → (prI F r).length = (prL G m r).length
 | 0, _ => rfl
 | r + 1, h => by rw [prI, imul_len, prL, tmL_len, prI_len r fun i hi => h i (by omega), h r (by omega)]
theorem prI_B {F : Nat → List Int} {u : Nat} : ∀ r, (∀ i, i < r → (∀ j, SmB u ((F i).getD j 0)) ∧ (prI F i).length ≤ 1000 ∧ (F i).length ≤ 1000) → ∀ j, SmB (r * (u + 1) + 1) ((prI F r).getD j 0)
 | 0, _, j => by
  rw [Nat.zero_mul]
  refine SmB.one ?_
  cases j with
  | zero => show (1 : Int).natAbs < _; decide
  | succ j => show (0 : Int).natAbs < _; decide
 | r + 1, h, j => by
  obtain ⟨h1, h2, h3⟩ := h r (by omega)
  exact (imul_B _ _ _ _ (prI_B r fun i hi => h i (by omega)) h1 h2 h3 j).le (by rw [Nat.add_mul]; omega)
section
variable {p : Nat} {a : List Int} {l : Nat → List Int} {r : Nat} (h : HeH p a l r)
include h
theorem HeH.low (i : Nat) (hi : i < r) (s : Nat) : ∀ t, Cg ((p : Int) ^ (s + 1)) (ps (liftS p a l r (s + t) i)) (ps (liftS p a l r s i))
 | 0 => Cg.refl _ _
 | t + 1 => by
  have ih := HeH.low i hi s t
  have hst := (h.H.st a (s + t) i hi).1
  have hcof := (h.H.cof hi a ((p : Int) ^ (s + t + 1)) (liftS p a l r (s + t))).2.2.2
  refine Cg.trans ?_ ih
  have e : liftS p a l r (s + (t + 1)) i = updL (liftS p a l r (s + t) i) (cofL p a l r ((p : Int) ^ (s + t + 1)) (liftS p a l r (s + t)) i) ((p : Int) ^ (s + t + 1)) := rfl
  rw [e, ps_updL _ _ _ (by omega)]
  refine ⟨PS.K ((p : Int) ^ t) * ps (cofL p a l r ((p : Int) ^ (s + t + 1)) (liftS p a l r (s + t)) i), ?_⟩
  rw [← PS.mul_assoc, ← PS.K_mulK, ← Int.pow_add, show s + 1 + t = s + t + 1 by omega]
theorem HeH.pw (s : Nat) : (1 : Int) < (p : Int) ^ (s + 1) := by
 have h2 := h.H.hp.1
 have h1 : (0 : Int) < (p : Int) ^ s := Int.pow_pos (by omega)
 rw [Int.pow_succ]
 have := Int.mul_le_mul_of_nonneg_left (show (2 : Int) ≤ (p : Int) by omega) (Int.le_of_lt h1)
 omega
theorem HeH.one (s : Nat) {i : Nat} (hi : i < r) : (liftS p a l r s i).length = (l i).length ∧ mon (liftS p a l r s i) := by
 obtain ⟨_, h2, _⟩ := h.all s
 have hl := (h.H.st a s i hi).1
 refine ⟨hl, fun e => ?_, by rw [hl]; exact h2 i hi⟩
 have := h.H.l2 i hi
 rw [e] at hl; simp at hl; omega
theorem HeH.near (s : Nat) {i : Nat} (hi : i < r) : trimW (((liftS p a l r s i).map (nearZ · ((p : Int) ^ (s + 1)))).map (nearZ · ((p : Int) ^ (s + 1)))) = (liftS p a l r s i).map (nearZ · ((p : Int) ^ (s + 1))) := by
 have h1 := h.pw s
 have hm := mon_near h1 (h.one s hi).2
 rw [(mon_near h1 hm).trim]
 refine map_near (by omega) (by rw [List.length_map]) fun j => ?_
 rw [near_get _ (by omega), nearZ_mod (by omega)]
theorem HeH.image (s : Nat) {i : Nat} (hi : i < r) : trimW (md p ((liftS p a l r s i).map (nearZ · ((p : Int) ^ (s + 1))))) = l i := by
 obtain ⟨h1, _, _⟩ := h.all s
 have h2 := h.H.hp.1
 have hq := h.pw s
 refine pcan_eq (pcan_trim (by omega) (md_rp (by omega) _)) (h.H.c i hi) ?_
 rw [ps_trimW]
 refine (Cg_md p _).trans (Cg.trans ?_ (h1 i hi))
 refine Cg.of fun j => ?_
 rw [ps_at, ps_at, near_get _ (by omega)]
 exact emod_less (nearZ_mod (by omega) _) ⟨(p : Int) ^ s, by rw [Int.pow_succ, Int.mul_comm]⟩
theorem HeH.lower (s t : Nat) {i : Nat} (hi : i < r) : trimW (((liftS p a l r (s + t) i).map (nearZ · ((p : Int) ^ (s + t + 1)))).map (nearZ · ((p : Int) ^ (s + 1)))) = (liftS p a l r s i).map (nearZ · ((p : Int) ^ (s + 1))) := by
 have h1 := h.pw s
 have h2 := h.pw (s + t)
 rw [(mon_near h1 (mon_near h2 (h.one (s + t) hi).2)).trim]
 refine map_near (by omega) (by rw [List.length_map, (h.one (s + t) hi).1, (h.one s hi).1]) fun j => ?_
 rw [near_get _ (by omega)]
 refine (emod_less (nearZ_mod (by omega) _) ⟨(p : Int) ^ t, ?_⟩).trans ((h.low i hi s t).at j)
 rw [← Int.pow_add]; congr 1; omega
theorem HeH.fin (s : Nat) : trimW ((prI (fun i => (liftS p a l r s i).map (nearZ · ((p : Int) ^ (s + 1)))) r).map (nearZ · ((p : Int) ^ (s + 1)))) = trimW (a.map (nearZ · ((p : Int) ^ (s + 1)))) := by
 have h1 := h.pw s
 congr 1
 refine map_near (by omega) ?_ fun j => ?_
 ·rw [h.hpl]; exact prI_len r fun i hi => by rw [List.length_map, (h.one s hi).1]
 ·obtain ⟨_, _, h4⟩ := h.all s
  have h5 : Cg ((p : Int) ^ (s + 1)) (ps (prI (fun i => (liftS p a l r s i).map (nearZ · ((p : Int) ^ (s + 1)))) r)) (ps a) := by
   rw [prI_ps r fun i hi => mon_near h1 (h.one s hi).2]
   refine Cg.trans (prS_cg r fun i hi => Cg.of fun j => ?_) h4.symm
   show ((liftS p a l r s i).map (nearZ · ((p : Int) ^ (s + 1)))).getD j 0 % _ = (liftS p a l r s i).getD j 0 % _
   rw [near_get _ (by omega), nearZ_mod (by omega)]
  exact h5.at j
end
theorem heH_of {p : Nat} (hp : IsP p) {m : Nat} {Ls : List (List Int)} {P F : List Int} (h : LsI p m (Ls, P, F)) (e k w : Nat) (B : LiB p (liA p F e) Ls k w) : HeH p (liA p F e) (fun i => Ls.getD i []) Ls.length := by
 obtain ⟨n, fs, pr, prc, prg, Fm, Fl, Fl2, Fp, FB⟩ := h
 simp only at n fs pr prc prg Fm Fl Fl2 Fp FB
 have hps : ∀ i, Cg p (ps (prP p (fun i => Ls.getD i []) i)) (prS (fun i => ps (Ls.getD i [])) i) := by
  intro i
  induction i with
  | zero => rw [prP, ps_one]; exact Cg.refl _ _
  | succ i ih => exact (ptimes_ps _ _ _).trans (ih.mul_r _)
 refine ⟨B.A.H, fun i hi => (fs i hi).2.1, fun i hi => (prg i hi).cg (hps i) (Cg.refl _ _), liA_mon p e Fm, B.A.hpl, ?_⟩
 refine (liA_cg p F e).trans (Fp.trans ?_)
 rw [pr]; exact hps _
end Go.El

/- The table of contracts that closed runs use: modular arithmetic. Own work; no condition. -/
namespace Go.El
open Go Go.Proofs
noncomputable def frc {β : Type} (n : Nat) (f : Nat → β) : β := Nat.rec (motive := fun _ => β) (f 0) (fun k _ => f (Nat.add k 1)) n
theorem frc_eq {β : Type} (n : Nat) (f : Nat → β) : frc n f = f n := by cases n <;> rfl
noncomputable def frcI {β : Type} (x : Int) (f : Int → β) : β := Int.rec (motive := fun _ => β) (fun n => frc n (fun m => f (Int.ofNat m))) (fun n => f (Int.negSucc n)) x
theorem frcI_eq {β : Type} (x : Int) (f : Int → β) : frcI x f = f x := by
 cases x with
 | ofNat n => exact frc_eq n (fun m => f (Int.ofNat m))
 | negSucc n => rfl
noncomputable def frcL {β : Type} (l : List Int) : (List Int → β) → β := List.rec (motive := fun _ => (List Int → β) → β) (fun f => f []) (fun x _ ih f => frcI x (fun y => ih (fun t => f (y :: t)))) l
theorem frcL_eq {β : Type} : ∀ (l : List Int) (f : List Int → β), frcL l f = f l
 | [], _ => rfl
 | x :: l, f => by
  show frcI x (fun y => frcL l (fun t => f (y :: t))) = _
  rw [frcI_eq, frcL_eq l]
def intsC : List C → Option (List Int)
 | [] => some []
 | .I .u64 n :: r => (match intsC r with
  | some l => some (n :: l)
  | none => none)
 | _ => none
noncomputable def dSl (ms : Ms) : C → Option (List Int)
 | .S (.int .u64) xs => some xs
 | .V (.slice none 0 0) => some []
 | .L id off len _ => (match lookS id ms with
  | some (.box _ _ cs) => intsC ((cs.drop off).take len)
  | some (.fz _ cs) => intsC ((cs.drop off).take len)
  | _ => none)
 | _ => none
def inB (p x : Int) : Bool := decide (0 ≤ x) && decide (x < p)
def rpB (p : Int) (l : List Int) : Bool := l.all (inB p)
theorem rpB_ok {p : Int} (hp : 0 < p) {l : List Int} (h : rpB p l = true) : rp p l := by
 intro i
 rw [List.getD_eq_getElem?_getD]
 cases hl : l[i]? with
 | none => exact ⟨Int.le_refl _, hp⟩
 | some x =>
  have := List.all_eq_true.1 h x (List.mem_of_getElem? hl)
  simp only [inB, Bool.and_eq_true, decide_eq_true_eq] at this
  exact this
noncomputable def cnPow : List AV → Option (List AV × AV)
 | [.c (.I .u64 a), .c (.I .u64 n), .c (.I .u64 p)] => (match inB 18446744073709551616 a && inB 18446744073709551616 n && decide (0 < p) && decide (p ≤ 4294967296) with
  | true => frc (powM a.toNat n.toNat p.toNat) (fun r => some ([cU a, cU n, cU p], cU (Int.ofNat r)))
  | false => none)
 | _ => none
noncomputable def cnInv : List AV → Option (List AV × AV)
 | [.c (.I .u64 a), .c (.I .u64 p)] => (match inB p a && decide (a ≠ 0) && decide (2 ≤ p) && decide (p ≤ 2147483648) with
  | true => frc (invM a.toNat p.toNat) (fun r => some ([cU a, cU p], .t [(false, [.I .u64 (Int.ofNat r)]), (false, [.I .i64 0])]))
  | false => none)
 | _ => none
def okP (a b : List Int) (p : Int) : Bool := Nat.ble a.length 1000 && Nat.ble b.length 1000 && decide (2 ≤ p) && decide (p ≤ 2147483648) && rpB p a && rpB p b
noncomputable def cnTimes (ms : Ms) : List AV → Option (List AV × AV)
 | [.a [x, .I .u64 p], .a [y, .I .u64 q]] => (match dSl ms x, dSl ms y with
  | some a, some b => (match decide (p = q) && okP a b p with
   | true => frcL (ptimes a b p) (fun l => some ([aP a p, aP b p], aP l p))
   | false => none)
  | _, _ => none)
 | _ => none
noncomputable def cnDivide (ms : Ms) : List AV → Option (List AV × AV)
 | [.a [x, .I .u64 p], .a [y, .I .u64 q]] => (match dSl ms x, dSl ms y with
  | some a, some b => (match decide (p = q) && okP a b p && !a.isEmpty && !b.isEmpty && decide (b.getD (b.length - 1) 0 ≠ 0) with
   | true => frcL (pdivide a b p).1 (fun l => frcL (pdivide a b p).2 (fun r => some ([aP a p, aP b p], .t [(true, [.S U64 l, .I .u64 p]), (true, [.S U64 r, .I .u64 p])])))
   | false => none)
  | _, _ => none)
 | _ => none
noncomputable def conP (f : FuncId) (vs : List AV) (ms : Ms) : Option (List AV × AV) :=
 match Nat.beq f 180 with
 | true => cnPow vs
 | false => (match Nat.beq f 124 with
  | true => cnInv vs
  | false => (match Nat.beq f 94 with
   | true => cnTimes ms vs
   | false => (match Nat.beq f 127 with
    | true => cnDivide ms vs
    | false => none)))
theorem okP_ok {a b : List Int} {p : Int} (h : okP a b p = true) : a.length ≤ 1000 ∧ b.length ≤ 1000 ∧ 2 ≤ p ∧ p ≤ 2147483648 ∧ rp p a ∧ rp p b := by
 simp only [okP, Bool.and_eq_true, decide_eq_true_eq] at h
 obtain ⟨⟨⟨⟨⟨h1, h2⟩, h3⟩, h4⟩, h5⟩, h6⟩ := h
 exact ⟨Nat.le_of_ble_eq_true h1, Nat.le_of_ble_eq_true h2, h3, h4, rpB_ok (by omega) h5, rpB_ok (by omega) h6⟩
theorem conP_ok : ∀ f vs ms vs' r, conP f vs ms = some (vs', r) → FnS Tryz.prog f vs' r := by
 intro f vs ms vs' r h
 unfold conP at h
 split at h
 ·rename_i hf
  rw [Nat.eq_of_beq_eq_true hf]
  unfold cnPow at h
  split at h
  ·rename_i a n p
   split at h
   ·rename_i hc
    simp only [Bool.and_eq_true, inB, decide_eq_true_eq] at hc
    rw [frc_eq] at h
    cases h
    have := mpow_s a.toNat n.toNat p.toNat (by omega) (by omega) (by omega) (by omega)
    rwa [Int.toNat_of_nonneg (by omega : 0 ≤ a), Int.toNat_of_nonneg (by omega : 0 ≤ n), Int.toNat_of_nonneg (by omega : 0 ≤ p)] at this
   ·cases h
  ·cases h
 ·split at h
  ·rename_i hf
   rw [Nat.eq_of_beq_eq_true hf]
   unfold cnInv at h
   split at h
   ·rename_i a p
    split at h
    ·rename_i hc
     simp only [Bool.and_eq_true, inB, decide_eq_true_eq] at hc
     rw [frc_eq] at h
     cases h
     exact minv_z a p (by omega) (by omega) (by omega) (by omega)
    ·cases h
   ·cases h
  ·split at h
   ·rename_i hf
    rw [Nat.eq_of_beq_eq_true hf]
    unfold cnTimes at h
    split at h
    ·rename_i x p y q
     split at h
     ·rename_i a b _ _
      split at h
      ·rename_i hc
       simp only [Bool.and_eq_true] at hc
       obtain ⟨h1, h2, h3, h4, h5, h6⟩ := okP_ok hc.2
       rw [frcL_eq] at h
       cases h
       exact ptimes_s a b p h1 h2 (by omega) h4 h5 h6
      ·cases h
     ·cases h
    ·cases h
   ·split at h
    ·rename_i hf
     rw [Nat.eq_of_beq_eq_true hf]
     unfold cnDivide at h
     split at h
     ·rename_i x p y q
      split at h
      ·rename_i a b _ _
       split at h
       ·rename_i hc
        simp only [Bool.and_eq_true, decide_eq_true_eq] at hc
        obtain ⟨⟨⟨⟨_, hc⟩, ha⟩, hb⟩, hl⟩ := hc
        obtain ⟨h1, h2, h3, h4, h5, h6⟩ := okP_ok hc
        rw [frcL_eq, frcL_eq] at h
        cases h
        cases a with
        | nil => simp at ha
        | cons x a' => exact pdivide_s x a' b p rfl h1 h2 h3 h4 h5 h6 (by intro e; rw [e] at hb; simp at hb) hl
       ·cases h
      ·cases h
     ·cases h
    ·cases h
end Go.El

/- Ranges over functions, part 1: what a piece of code keeps; frames side by side. Own work; no condition. -/
namespace Go.El
open Go Go.RowKit
def Fix.re (F : Fix) (W : World) (g : Gh) (k : Nat) : Fix := { F with w0 := W, H0 := g.H, own := fun b => F.N b ∧ ∀ o : Obj, W.heap[b]? = some o → o.isCells = true, k0 := k, γ0 := g.γ }
theorem RepB.reM {N N' : Nat → Prop} {g : Gh} {W : World} {id : Nat} {b : Blk} (hN : ∀ (x : Nat) (vs : Array Value) (E : TypeId) (p : Nat × Nat), W.heap[x]? = some (.cells vs E p) → N x → N' x) (h : RepB N g W id b) : RepB N' g W id b := by
 cases b with
 | box E sz cs =>
  obtain ⟨b, vs, rest, e, hh, hr, hn, hz⟩ := h
  exact ⟨b, vs, rest, e, hh, hr, hN _ _ _ _ hh hn, hz⟩
 | vec E T xs =>
  rcases h with h | ⟨b, cap, vs, e, hh, h1, h2, h2', h3, hn, hz⟩
  ·exact .inl h
  ·exact .inr ⟨b, cap, vs, e, hh, h1, h2, h2', h3, hN _ _ _ _ hh hn, hz⟩
 | clo f first caps => exact h
 | fz E cs =>
  obtain ⟨b, vs, rest, e, hh, hr, hn, hz⟩ := h
  exact ⟨b, vs, rest, e, hh, hr, hN _ _ _ _ hh hn, hz⟩
section
variable {F : Fix} {k k' : Nat} {σ σ' : Kn} {g g' : Gh} {W W' : World} {a a' : Act}
theorem Hold.re (h : Hold F (· < k) σ g W a) : Hold (F.re W g k) (· < k) σ g W a := by
 refine ⟨h.size, h.defers, h.slots, fun id b hb => (h.blks id b hb).reM ?_, h.inj, h.mids, h.mkn, h.sub, ⟨rfl, rfl, rfl, Nat.le_refl _, fun _ _ _ => rfl⟩, FLe.refl _, fun _ _ _ _ => rfl, fun id hid => ⟨hid, rfl⟩⟩
 intro x vs E p hx hn
 refine .inr ⟨hn, fun o ho => ?_⟩
 rw [hx] at ho
 cases ho
 rfl
theorem Hold.un (h0 : Hold F (· < k) σ g W a) (h : Hold (F.re W g k) (· < k') σ' g' W' a') :
  Hold F (· < k') σ' g' W' a' ∧ KeepsOthers W W' ∧ GLe (· < k) g g' := by
 refine ⟨⟨h.size, h.defers, h.slots, fun id b hb => (h.blks id b hb).reM ?_, h.inj, h.mids, h.mkn, h.sub, ?_, h0.le.trans h.le, ?_, ?_⟩, ?_, h.le, fun id hid => (h.kfix id hid).2⟩
 ·intro x vs E p hx hn
  rcases hn with hn | hn
  ·exact .inl (Nat.le_trans h0.below.size hn)
  ·exact hn.1
 ·refine ⟨h.below.os.trans h0.below.os, h.below.tape.trans h0.below.tape, h.below.output.trans h0.below.output, Nat.le_trans h0.below.size h.below.size, fun j hj hno => ?_⟩
  rw [← h0.below.block j hj hno]
  refine h.below.block j (Nat.lt_of_lt_of_le hj h0.below.size) (fun hc => ?_)
  rcases hc.1 with h1 | h1
  ·omega
  ·exact hno h1
 ·intro b o hb hno
  rw [← h0.fresh b o hb hno]
  refine h.fresh b o (Nat.lt_of_lt_of_le hb h0.below.size) (fun hc => ?_)
  rcases hc.1 with h1 | h1
  ·omega
  ·exact hno h1
 ·intro id hid
  have h1 := h0.kfix id hid
  have h2 := h.kfix id h1.1
  exact ⟨h2.1, h2.2.trans h1.2⟩
 ·refine ⟨h.below.size, fun j o hj ho => ?_⟩
  rw [← hj]
  refine h.below.block j (Array.getElem?_eq_some_iff.1 hj).1 (fun hc => ?_)
  rw [hc.2 o hj] at ho
  cases ho
structure WX (B : Nat) (W W' : World) : Prop where
 os : W'.os = W.os
 tape : W'.tape = W.tape
 output : W'.output = W.output
 size : W.heap.size ≤ W'.heap.size
 same : ∀ (k : Nat) (o : Obj), W.heap[k]? = some o → o.isCells = true ∨ k < B → W'.heap[k]? = some o
theorem Hold.wx {known : Nat → Prop} (h : Hold F known σ g W a) (hx : WX F.w0.heap.size W W') : Hold F known σ g W' a := by
 refine ⟨h.size, h.defers, h.slots, fun id b hb => ?_, h.inj, h.mids, h.mkn, ?_, ⟨hx.os.trans h.below.os, hx.tape.trans h.below.tape, hx.output.trans h.below.output, Nat.le_trans h.below.size hx.size, fun j hj hno => ?_⟩, h.le, h.fresh, h.kfix⟩
 ·have hr := h.blks id b hb
  cases b with
  | box E sz cs =>
   obtain ⟨b, vs, rest, e, hh, hr, hn, hz⟩ := hr
   exact ⟨b, vs, rest, e, hx.same _ _ hh (.inl rfl), hr, hn, hz⟩
  | vec E T xs =>
   rcases hr with h | ⟨b, cap, vs, e, hh, h1, h2, h2', h3, hn, hz⟩
   ·exact .inl h
   ·exact .inr ⟨b, cap, vs, e, hx.same _ _ hh (.inl rfl), h1, h2, h2', h3, hn, hz⟩
  | clo f first caps => exact hr
  | fz E cs =>
   obtain ⟨b, vs, rest, e, hh, hr, hn, hz⟩ := hr
   exact ⟨b, vs, rest, e, hx.same _ _ hh (.inl rfl), hr, hn, hz⟩
 ·intro b o v hv
  have hc := h.sub b o v hv
  obtain ⟨ob, ho, hi⟩ := cells_of_cell hc
  rw [← hc]
  exact World.cell?_of_block ((hx.same _ _ ho (.inl hi)).trans ho.symm)
 ·have hk : j < W.heap.size := Nat.lt_of_lt_of_le hj h.below.size
  have hj' : W.heap[j]? = some W.heap[j] := Array.getElem?_eq_getElem hk
  rw [hx.same j _ hj' (.inr hj), ← h.below.block j hj hno, hj']
theorem WX.refl (B : Nat) (W : World) : WX B W W := ⟨rfl, rfl, rfl, Nat.le_refl _, fun _ _ h _ => h⟩
theorem WX.trans {B : Nat} {A C D : World} (h : WX B A C) (h' : WX B C D) : WX B A D :=
 ⟨h'.os.trans h.os, h'.tape.trans h.tape, h'.output.trans h.output, Nat.le_trans h.size h'.size, fun k o hk hc => h'.same k o (h.same k o hk hc) hc⟩
theorem WX.alloc (B : Nat) (W : World) (o : Obj) : WX B W (W.alloc o) :=
 ⟨rfl, rfl, rfl, by simp, fun k _ hk _ => (Below.heap_alloc W o k (Array.getElem?_eq_some_iff.1 hk).1).trans hk⟩
theorem WX.putObj {B : Nat} {W : World} {l : Nat} {o : Obj} (o' : Obj) (hl : W.heap[l]? = some o) (ho : o.isCells = false) (hB : B ≤ l) : WX B W (W.putObj l o') :=
 ⟨rfl, rfl, rfl, by simp, fun k ob hk hc => by
  have hne : k ≠ l := by
   intro e
   subst e
   rw [hl] at hk
   cases hk
   rcases hc with hc | hc
   ·rw [ho] at hc; cases hc
   ·omega
  rw [World.putObj_heap_other hne]; exact hk⟩
def Gh.new (g : Gh) (k : Nat) (u : Value) : Gh := ⟨g.H, fun id => if id = k then u else g.γ id⟩
theorem Hold.newId (h : Hold F (· < k) σ g W a) (u : Value) : Hold F (· < k + 1) σ (g.new k u) W a := by
 have h1 := h.step (chg := fun _ => False) (g' := g.new k u) (W' := W) (a' := a) ⟨⟨FLe.refl _, fun id hid => by have : id ≠ k := Nat.ne_of_lt hid; simp [Gh.new, this]⟩, fun _ _ _ => rfl, h.sub, Nat.le_refl _, fun _ _ _ => rfl, rfl, rfl, rfl⟩ [] k (Nat.lt_irrefl k) rfl h.defers (fun _ _ => rfl) (fun _ h => h.elim) (fun _ _ h => by simp [says] at h) (fun _ _ h => by simp [says] at h) (fun _ _ h => by simp [says] at h) (fun _ _ h => by simp [says] at h)
 refine h1.weaken ?_
 rintro id (hid | rfl)
 ·exact Nat.lt_succ_of_lt hid
 ·exact Nat.lt_succ_self _
end
section
variable {F : Fix} {k k' : Nat} {g g' : Gh} {W W' : World} {a a' : Act} {dep n dep' n' : Nat} {t t' : Tr} {m m' : Mem} {ds ds' : List Deferred} {rd rd' : Option Nat}
theorem Hold.swap {nn : Nat} (h : Hold { F with n := nn, ds := ds, rd := rd } (· < k) (absS dep n t m).kn g W a) (h' : Hold { F with n := n', ds := ds', rd := rd' } (· < k') (absS dep' n' t' m').kn g' W' a') (hk : k ≤ k') (hl : GLe (· < k) g g') :
  Hold { F with n := nn, ds := ds, rd := rd } (· < k') (absS dep n t m').kn g' W' a := by
 have hm : ∀ id x, (absS dep n t m').kn (.m id) = some x → (absS dep' n' t' m').kn (.m id) = some x := fun id x hx => hx
 refine ⟨h.size, h.defers, fun s v hs => ?_, fun id b hb => h'.blks id b (hm _ _ hb), fun id id' b b' kk h1 h2 h3 h4 => h'.inj id id' b b' kk (hm _ _ h1) (hm _ _ h2) h3 h4, fun key x hx id hid => ?_, fun id x hx => h'.mkn id x (hm _ _ hx), h'.sub, h'.below, h'.le, h'.fresh, h'.kfix⟩
 ·exact RelV.mono hl (fun id hid => h.mids (.s s) (.v v) hs id hid) (h.slots s v hs)
 ·cases key with
  | s j => exact Nat.lt_of_lt_of_le (h.mids (.s j) x hx id hid) hk
  | m j => exact h'.mids (.m j) x (hm _ _ hx) id hid
theorem Hold.defer {known : Nat → Prop} {σ : Kn} {nn : Nat} (h : Hold { F with n := nn, ds := ds, rd := rd } known σ g W a) (ds' : List Deferred) (rd' : Option Nat) : Hold { F with n := nn, ds := ds', rd := rd' } known σ g W { a with defers := ds' } :=
 ⟨h.size, rfl, h.slots, h.blks, h.inj, h.mids, h.mkn, h.sub, h.below, h.le, h.fresh, h.kfix⟩
theorem Hold.setS {nn : Nat} (h : Hold { F with n := nn, ds := ds, rd := rd } (· < k) (absS dep n t m).kn g W a) (hn : n ≤ 4 ^ dep) (hnn : nn = n) {d : Nat} (hd : d < n) {v : AV} {u : Value} (hv : RelV g v u) (hid : ∀ id ∈ v.mids, id < k) :
  Hold { F with n := nn, ds := ds, rd := rd } (· < k) (absS dep n (setT (pth dep d) v t) m).kn g W { a with tmps := a.tmps.setIfInBounds d u } := by
 subst hnn
 have hkn := abs_set dep nn t m d v hn hd
 have hsl : ∀ s x, (absS dep nn (setT (pth dep d) v t) m).kn (.s s) = some (.v x) → (s = d ∧ x = v) ∨ (s ≠ d ∧ (absS dep nn t m).kn (.s s) = some (.v x)) := by
  intro s x hx
  rw [hkn] at hx
  by_cases e : s = d
  ·subst e; simp [upd, says] at hx; exact .inl ⟨rfl, hx.symm⟩
  ·have e' : d ≠ s := fun h => e h.symm
   simp [upd, says, e'] at hx; exact .inr ⟨e, hx⟩
 have hmm : ∀ id, (absS dep nn (setT (pth dep d) v t) m).kn (.m id) = (absS dep nn t m).kn (.m id) := fun _ => rfl
 refine ⟨by simpa using h.size, h.defers, fun s x hs => ?_, fun id b hb => h.blks id b hb, fun id id' b b' kk h1 h2 h3 h4 => h.inj id id' b b' kk h1 h2 h3 h4, fun key x hx id hid' => ?_, fun id x hx => h.mkn id x hx, h.sub, h.below, h.le, h.fresh, h.kfix⟩
 ·rcases hsl s x hs with ⟨rfl, rfl⟩ | ⟨hne, hx⟩
  ·have hsz : s < a.tmps.size := by rw [h.size]; exact hd
   simpa [hsz] using hv
  ·have e' : d ≠ s := fun h => hne h.symm
   have := h.slots s x hx
   simpa [Array.getElem?_setIfInBounds_ne e'] using this
 ·cases key with
  | m j => exact h.mids (.m j) x hx id hid'
  | s j =>
   cases x with
   | b _ => simp [absS, St.kn] at hx
   | v y =>
    rcases hsl j y hx with ⟨_, rfl⟩ | ⟨_, hx⟩
    ·exact hid id hid'
    ·exact h.mids (.s j) _ hx id hid'
end
section
variable {P : Program} {F : Fix} {n : Nat} {c : Code} {st st' : St} {k k' : Nat} {e : Ex} {g : Gh} {W : World} {a : Act}
theorem Gone.keep (h : Gone P n c st k e st' k') (hn : F.n = n) (hnd : ndC F.rd c) (hh : Hold F (· < k) st.kn g W a) :
  c.wpIn (fen F.rd) 0 P (fun e' a' W' => e' = e.toE ∧ ∃ g', Hold F (· < k') st'.kn g' W' a' ∧ KeepsOthers W W' ∧ GLe (· < k) g g') a W := by
 refine wpIn_mono (h.2 (F.re W g k) hn hnd g W a hh.re) ?_
 rintro e' a' W' ⟨rfl, g', h'⟩
 exact ⟨rfl, g', hh.un h'⟩
end
end Go.El

/- Ranges over functions, part 2: code gone through by its structure. Own work; no condition. -/
namespace Go.El
open Go Go.RowKit
inductive Res (S : Type) where
 | no
 | nor (s : S)
 | exi (id : Nat) (s : S)
 | ret (s : S)
def Res.post {S : Type} (I : S → Act → World → Prop) : Res S → Exit → Act → World → Prop
 | .nor s, e, a, W => e = .normal ∧ I s a W
 | .exi id s, e, a, W => e = .exit id ∧ I s a W
 | .ret s, e, a, W => e = .ret ∧ I s a W
 | .no, _, _, _ => False
section
variable {S : Type} (leaf : Code → S → Res S) (ev : Operand → S → Option Bool)
noncomputable def genS (ih : Code → S → Res S) (x y : Code) (s : S) : Res S := match ih x s with
 | .nor s1 => ih y s1
 | r => r
noncomputable def genC (ih : Code → S → Res S) (c : Operand) (x y : Code) (s : S) : Res S := match ev c s with
 | some b => (match b with
  | true => ih x s
  | false => ih y s)
 | none => .no
noncomputable def genB (ih : Code → S → Res S) (id : Nat) (x : Code) (s : S) : Res S := match ih x s with
 | .exi id' s1 => (match Nat.beq id' id with
  | true => .nor s1
  | false => .exi id' s1)
 | r => r
noncomputable def genL (ih : Code → S → Res S) (x : Code) (s : S) : Res S := match ih x s with
 | .nor s1 => ih (.loop x) s1
 | r => r
noncomputable def genStep (ih : Code → S → Res S) : Code → S → Res S
 | .skip => .nor
 | .label _ => .nor
 | .exit id => .exi id
 | .ret => .ret
 | .seq x y => genS ih x y
 | .cond c x y => genC ev ih c x y
 | .block id x => genB ih id x
 | .scope x => ih x
 | .loop x => genL ih x
 | c => leaf c
noncomputable def gen (fuel : Nat) : Code → S → Res S := Nat.rec (motive := fun _ => Code → S → Res S) (fun _ _ => .no) (fun _ ih => genStep leaf ev ih) fuel
end
section
variable {P : Program} {Fe : Fence} {n : Nat} {Q : Exit → Act → World → Prop} {a : Act} {w : World}
theorem wpIn_scope {c : Code} (h : c.wpIn Fe n P (Exit.noGoto Q) a w) : (Code.scope c).wpIn Fe n P Q a w := by
 intro b k cs hro hb hr
 have s1 : step P (lone (b.atR a (.code (.scope c) :: k)) cs w) = .next (lone (b.atR a (.code c :: .inScope c :: k)) cs w) := step_lone_go (by simp [Go.stepG, Go.stepG.exec, Frame.atR])
 have s2 : ∀ a w, step P (lone (b.atR a (.inScope c :: k)) cs w) = .next (lone (b.atR a k) cs w) := fun a w => step_lone_go (by simp [Go.stepG, Go.stepG.exec, Frame.atR])
 have h0 : (lone (b.atR a (.code (.scope c) :: k)) cs w).fenced P Fe := fenced_calm hb hr rfl
 obtain ⟨e, a₁, w₁, hq, harr⟩ := h b (.inScope c :: k) cs hro hb hr
 cases e with
 | normal => exact ⟨.normal, a₁, w₁, hq, .head h0 s1 (StepsIn.trans harr (.one (fenced_calm hb hr rfl) (s2 _ _)))⟩
 | exit id =>
  refine ⟨.exit id, a₁, w₁, hq, fun k' hk => .head h0 s1 (harr.1 k' (by simp [exitTo, hk])), fun hr' hk => ?_⟩
  obtain ⟨k₁, h1, h2⟩ := harr.2 hr' (by simp [exitTo, hk])
  exact ⟨k₁, h1, .head h0 s1 h2⟩
 | goto l => exact hq.elim
 | ret => exact ⟨_, a₁, w₁, hq, .of_steps (.one h0 s1) harr⟩
 | panic ch => exact ⟨_, a₁, w₁, hq, .of_steps (.one h0 s1) harr⟩
 | outgrown => exact ⟨_, a₁, w₁, hq, .of_steps (.one h0 s1) harr⟩
end
section
variable {P : Program} {Fe : Fence} {S : Type} {leaf : Code → S → Res S} {ev : Operand → S → Option Bool} {I : S → Act → World → Prop}
theorem genR_sound (hleaf : ∀ c s r, leaf c s = r → r ≠ .no → ∀ a W, I s a W → c.wpIn Fe 0 P (r.post I) a W)
  (hev : ∀ c s b, ev c s = some b → ∀ a W, I s a W → a.eval c = .bool b) :
  ∀ (fuel : Nat) (c : Code) (s : S) (r : Res S), gen leaf ev fuel c s = r → r ≠ .no → ∀ a W, I s a W → c.wpIn Fe 0 P (r.post I) a W := by
 intro fuel
 induction fuel using Nat.strongRecOn with
 | _ fuel ihs =>
 cases fuel with
 | zero => intro c s r h hr; exact absurd h.symm hr
 | succ f =>
  have ih := ihs f (by omega)
  intro c s r h hr a W hI
  cases c with
  | skip => have h : Res.nor s = r := h; subst h; exact wpIn_skip ⟨rfl, hI⟩
  | label _ => have h : Res.nor s = r := h; subst h; exact wpIn_label ⟨rfl, hI⟩
  | exit id => have h : Res.exi id s = r := h; subst h; exact wpIn_exit ⟨rfl, hI⟩
  | ret => have h : Res.ret s = r := h; subst h; exact wpIn_ret ⟨rfl, hI⟩
  | seq x y =>
   have h : genS (gen leaf ev f) x y s = r := h
   unfold genS at h
   refine wpIn_seq ?_
   cases hx : gen leaf ev f x s with
   | no => rw [hx] at h; exact absurd h.symm hr
   | nor s1 =>
    rw [hx] at h
    refine wpIn_mono (ih x s _ hx (by simp) a W hI) ?_
    rintro e a' W' ⟨rfl, h1⟩
    exact ih y s1 r h hr a' W' h1
   | exi id s1 =>
    rw [hx] at h
    subst h
    refine wpIn_mono (ih x s _ hx (by simp) a W hI) ?_
    rintro e a' W' ⟨rfl, h1⟩
    exact ⟨rfl, h1⟩
   | ret s1 =>
    rw [hx] at h
    subst h
    refine wpIn_mono (ih x s _ hx (by simp) a W hI) ?_
    rintro e a' W' ⟨rfl, h1⟩
    exact ⟨rfl, h1⟩
  | cond cnd x y =>
   have h : genC ev (gen leaf ev f) cnd x y s = r := h
   unfold genC at h
   cases hc : ev cnd s with
   | none => rw [hc] at h; exact absurd h.symm hr
   | some b =>
    rw [hc] at h
    have he := hev cnd s b hc a W hI
    cases b with
    | true => exact wpIn_cond_split he (fun _ => ih x s r h hr a W hI) (fun e => by cases e)
    | false => exact wpIn_cond_split he (fun e => by cases e) (fun _ => ih y s r h hr a W hI)
  | block id x =>
   have h : genB (gen leaf ev f) id x s = r := h
   unfold genB at h
   refine wpIn_block ?_
   cases hx : gen leaf ev f x s with
   | no => rw [hx] at h; exact absurd h.symm hr
   | nor s1 =>
    rw [hx] at h
    subst h
    refine wpIn_mono (ih x s _ hx (by simp) a W hI) ?_
    rintro e a' W' ⟨rfl, h1⟩
    exact ⟨rfl, h1⟩
   | exi id' s1 =>
    rw [hx] at h
    dsimp only at h
    refine wpIn_mono (ih x s _ hx (by simp) a W hI) ?_
    rintro e a' W' ⟨rfl, h1⟩
    cases hid : Nat.beq id' id with
    | true =>
     rw [hid] at h
     subst h
     have := Nat.eq_of_beq_eq_true hid
     subst this
     simp only [Exit.inBlock, if_true]
     exact ⟨rfl, h1⟩
    | false =>
     rw [hid] at h
     subst h
     have hne : id' ≠ id := by intro e'; subst e'; rw [Nat.beq_refl] at hid; cases hid
     simp only [Exit.inBlock, hne, if_false]
     exact ⟨rfl, h1⟩
   | ret s1 =>
    rw [hx] at h
    subst h
    refine wpIn_mono (ih x s _ hx (by simp) a W hI) ?_
    rintro e a' W' ⟨rfl, h1⟩
    exact ⟨rfl, h1⟩
  | scope x =>
   have h : gen leaf ev f x s = r := h
   refine wpIn_scope (wpIn_mono (ih x s r h hr a W hI) ?_)
   intro e a' W' hp
   cases r with
   | no => exact hp.elim
   | nor s1 => obtain ⟨rfl, h1⟩ := hp; exact ⟨rfl, h1⟩
   | exi id s1 => obtain ⟨rfl, h1⟩ := hp; exact ⟨rfl, h1⟩
   | ret s1 => obtain ⟨rfl, h1⟩ := hp; exact ⟨rfl, h1⟩
  | loop x =>
   refine wpIn_loop_x (fun (y : Nat × S) a W => y.1 ≤ f + 1 ∧ gen leaf ev y.1 (.loop x) y.2 = r ∧ I y.2 a W) (fun y => y.1) (f + 1, s) ⟨Nat.le_refl _, h, hI⟩ ?_
   rintro ⟨f', s0⟩ a W ⟨hf, h0, hI⟩
   simp only at hf h0 hI ⊢
   cases f' with
   | zero => exact absurd h0.symm hr
   | succ f' =>
    have h0 : genL (gen leaf ev f') x s0 = r := h0
    unfold genL at h0
    have ih' := ihs f' (by omega)
    cases hx : gen leaf ev f' x s0 with
    | no => rw [hx] at h0; exact absurd h0.symm hr
    | nor s1 =>
     rw [hx] at h0
     refine wpIn_mono (ih' x s0 _ hx (by simp) a W hI) ?_
     rintro e a' W' ⟨rfl, h1⟩
     exact ⟨(f', s1), ⟨by simp only; omega, h0, h1⟩, by simp⟩
    | exi id s1 =>
     rw [hx] at h0
     subst h0
     refine wpIn_mono (ih' x s0 _ hx (by simp) a W hI) ?_
     rintro e a' W' ⟨rfl, h1⟩
     exact ⟨rfl, h1⟩
    | ret s1 =>
     rw [hx] at h0
     subst h0
     refine wpIn_mono (ih' x s0 _ hx (by simp) a W hI) ?_
     rintro e a' W' ⟨rfl, h1⟩
     exact ⟨rfl, h1⟩
  | region id ops draw => exact hleaf _ s r h hr a W hI
  | rangeFunc _ _ _ _ => exact hleaf _ s r h hr a W hI
  | goto _ => exact hleaf _ s r h hr a W hI
  | refuse _ => exact hleaf _ s r h hr a W hI
end
end Go.El

/- Ranges over functions, part 3: the function that is ranged over, and the rounds that it asks for. Own work; no condition. -/
namespace Go.El
open Go Go.RowKit
section
variable {P : Program} {tt : TT} {con : FuncId → List AV → Ms → Option (List AV × AV)}
theorem regT_ops (htt : ttB P tt = true) {cal : CallG} (hcal : CalOk P cal) {dep n : Nat} (hn : n ≤ 4 ^ dep) {ops : Array Oper} : ∀ (os : List Oper) (i : Nat) {gs : List GI} {t : Tr} {ms : Ms} {k : Nat} {wl : List Nat} {t' : Tr} {ms' : Ms} {k' : Nat} {wl' : List Nat} {f : Ft},
  regT cal tt n 0 gs t ms k wl = .ok t' ms' k' wl' f → compR dep n ops.toList os = some gs → (∀ j o, os[j]? = some o → ops[i + j]? = some o) → wfT dep n t k → wfM ms k →
  k ≤ k' ∧ wfT dep n t' k' ∧ wfM ms' k' ∧ ∀ (F : Fix), F.n = n → ndO F.rd ops → ∀ (Q : Exit → Act → World → Prop) (rest : List Nat) g W a, Hold F (· < k) (absS dep n t ms.flatten).kn g W a →
   (∀ g' W' a', Hold F (· < k') (absS dep n t' ms'.flatten).kn g' W' a' → wpOpsIn (fen F.rd) 0 P ops Q rest a' W') → wpOpsIn (fen F.rd) 0 P ops Q (List.range' i os.length ++ rest) a W
 | [], i, gs, t, ms, k, wl, t', ms', k', wl', f, h, hc, _, hwT, hwM => by
  simp only [compR, Option.some.injEq] at hc
  subst hc
  have h' : Rs.ok t ms k wl .n = .ok t' ms' k' wl' f := h
  simp only [Rs.ok.injEq] at h'
  obtain ⟨rfl, rfl, rfl, rfl, rfl⟩ := h'
  exact ⟨Nat.le_refl _, hwT, hwM, fun F hF hnd Q rest g W a hh hK => hK g W a hh⟩
 | o :: os, i, gs, t, ms, k, wl, t', ms', k', wl', f, h, hc, hget, hwT, hwM => by
  simp only [compR] at hc
  split at hc
  ·rename_i gi gs' hg hgs
   cases hc
   have e1 : regT cal tt n 0 (gi :: gs') t ms k wl = match stepGI cal tt n 0 gi t ms k wl with | .ok t' ms' k' wl' _ => regT cal tt n 0 gs' t' ms' k' wl' | .no => .no := rfl
   rw [e1] at h
   split at h
   ·rename_i t1 ms1 k1 wl1 f1 hs
    have ho : ops[i]? = some o := by have := hget 0 o rfl; simpa using this
    obtain ⟨⟨ks, ⟨rd, wr, hst, hrd, hkn, hle, _, _⟩, _, hL⟩, _⟩ := stepGI_sound htt hcal (Nat.zero_le _) hn ho hg hwT hwM hs
    obtain ⟨h1, h2, h3, h4⟩ := regT_ops htt hcal hn os (i + 1) h hgs (fun j o' hj => by have := hget (j + 1) o' (by simpa using hj); rwa [show i + (j + 1) = i + 1 + j by omega] at this) hL.wfT hL.wfM
    refine ⟨Nat.le_trans hle h1, h2, h3, fun F hF hnd Q rest g W a hh hK => ?_⟩
    rw [List.length_cons, List.range'_succ, List.cons_append, wpOpsIn_cons]
    refine wpOpIn_of (hnd i) ?_
    refine hst F hF _ (· < k) _ g W a _ (fun id h1 h2 => by omega) hh hrd (fun g' W' a' h' => ?_)
    rw [← hkn] at h'
    exact h4 F hF hnd Q rest g' W' a' (h'.weaken (fun id hid => by rcases hid with hid | hid <;> omega)) hK
   ·cases h
  ·cases hc
def recL (fn : FuncId) (tmps : Array Value) (p : Nat) (asg bd : Code) (D : Nat) (pd : Option Code) : Loop :=
 { state := if pd.isNone then .ready else .done, pending := pd, fn := fn, tmps := tmps, params := #[p], assign := asg, body := bd, defers := D }
structure SY where
 t : Tr
 ms : Ms
 k : Nat
 pd : Option Code
noncomputable def rndF (P : Program) (tt : TT) (con : FuncId → List AV → Ms → Option (List AV × AV)) (fu dep0 n0 : Nat) (t0 : Tr) (p : Nat) (asg bd : Code) (v : AV) (ms : Ms) (k : Nat) : Option (Option Code × Ms × Nat) :=
 match runF P tt con fu dep0 n0 0 asg (setT (pth dep0 p) v t0) ms k [] with
 | .nor t1 ms1 k1 _ => (match runF P tt con fu dep0 n0 0 bd t1 ms1 k1 [] with
  | .nor _ ms2 k2 _ => some (none, ms2, k2)
  | .exi id _ ms2 k2 _ => some (some (.exit id), ms2, k2)
  | .ret _ ms2 k2 _ => some (some .ret, ms2, k2)
  | .no => none)
 | _ => none
def yOp (o : Oper) : Option (Nat × Nat × Nat) := match o.dst, o.op with
 | some d, .call ⟨.value (.tmp j), ⟨[.tmp x]⟩, _⟩ => some (d, j, x)
 | _, _ => none
def spY : List Oper → Nat → List Oper → Option (Nat × Oper × (Nat × Nat × Nat))
 | _, _, [] => none
 | all, i, o :: os => match yOp o with
  | some q => some (i, o, q)
  | none => spY all (i + 1) os
noncomputable def gdY (dep n : Nat) (opsL : List Oper) (o : Oper) (t : Tr) : Bool := match o.guard with
 | none => true
 | some (j, want) => (match gslot opsL j with
  | some tg => (match Nat.blt tg n, getT (pth dep tg) t with
   | true, some (.c (.B b)) => b == want
   | _, _ => false)
  | none => false)
noncomputable def leafY2 (P : Program) (tt : TT) (con : FuncId → List AV → Ms → Option (List AV × AV)) (fu dep n kt : Nat) (rnd : AV → Ms → Nat → Option (Option Code × Ms × Nat)) (ops : Array Oper) (s : SY) : Res SY :=
 match spY ops.toList 0 ops.toList with
 | some (i, o, (d, j, x)) => (match compR dep n ops.toList (ops.toList.take i), compR dep n ops.toList (ops.toList.drop (i + 1)) with
  | some gp, some gq => (match regT (callF P tt con (runF P tt con fu)) tt n 0 gp s.t s.ms s.k [] with
   | .ok t1 ms1 k1 _ _ => (match gdY dep n ops.toList o t1 && Nat.blt d n && Nat.blt j n && Nat.blt x n with
    | true => (match getT (pth dep j) t1, getT (pth dep x) t1 with
     | some (.c (.X kt')), some v => (match Nat.beq kt' kt with
      | true => (match rnd v ms1 k1 with
       | some (pd, ms2, k2) => (match regT (callF P tt con (runF P tt con fu)) tt n 0 gq (setT (pth dep d) (.c (.B pd.isNone)) t1) ms2 k2 [] with
        | .ok t3 ms3 k3 _ _ => .nor ⟨t3, ms3, k3, pd⟩
        | .no => .no)
       | none => .no)
      | false => .no)
     | _, _ => .no)
    | false => .no)
   | .no => .no)
  | _, _ => .no)
 | none => .no
noncomputable def leafY (P : Program) (tt : TT) (con : FuncId → List AV → Ms → Option (List AV × AV)) (fu dep n kt : Nat) (rnd : AV → Ms → Nat → Option (Option Code × Ms × Nat)) (c : Code) (s : SY) : Res SY := match c with
 | .region id ops draw => (match runF P tt con fu dep n 0 (.region id ops draw) s.t s.ms s.k [] with
  | .nor t' ms' k' _ => .nor ⟨t', ms', k', s.pd⟩
  | _ => (match draw with
   | false => (match s.pd with
    | none => leafY2 P tt con fu dep n kt rnd ops s
    | some _ => .no)
   | true => .no))
 | _ => .no
noncomputable def evY (dep n : Nat) (c : Operand) (s : SY) : Option Bool := match compP dep n c with
 | some p => (match evP s.t p with
  | some (.c (.B b)) => some b
  | _ => none)
 | none => none
def IY (F : Fix) (dep n dep0 n0 : Nat) (t0 : Tr) (a0 : Act) (ds0 : List Deferred) (kt l : Nat) (rc : Option Code → Loop) (mk : List Nat) (s : SY) (a : Act) (W : World) : Prop :=
 ∃ g, wfT dep n s.t s.k ∧ wfM s.ms s.k ∧ wfT dep0 n0 t0 s.k ∧ Hold { F with n := n, ds := [], rd := none } (· < s.k) (absS dep n s.t s.ms.flatten).kn g W a ∧
  Hold { F with n := n0, ds := ds0, rd := none } (· < s.k) (absS dep0 n0 t0 s.ms.flatten).kn g W a0 ∧ kt < s.k ∧ g.γ kt = .func (.yield l) #[] #[] ∧ W.heap[l]? = some (.loop (rc s.pd)) ∧ ∀ D ∈ mk, W.heap[D]? = some (.deferred (some []))
theorem spY_at {all : List Oper} : ∀ {os : List Oper} {i i' : Nat} {o : Oper} {q : Nat × Nat × Nat}, spY all i os = some (i', o, q) → yOp o = some q ∧ i ≤ i' ∧ os[i' - i]? = some o
 | [], i, i', o, q, h => by simp [spY] at h
 | x :: os, i, i', o, q, h => by
  simp only [spY] at h
  split at h
  ·rename_i q' hq
   simp only [Option.some.injEq, Prod.mk.injEq] at h
   obtain ⟨rfl, rfl, rfl⟩ := h
   exact ⟨hq, Nat.le_refl _, by simp⟩
  ·obtain ⟨h1, h2, h3⟩ := spY_at h
   refine ⟨h1, by omega, ?_⟩
   rw [show i' - i = (i' - (i + 1)) + 1 by omega]
   simpa using h3
theorem yOp_eq {o : Oper} {d j x : Nat} (h : yOp o = some (d, j, x)) : o.dst = some d ∧ ∃ tys, o.op = .call ⟨.value (.tmp j), ⟨[.tmp x]⟩, tys⟩ := by
 unfold yOp at h
 split at h
 ·rename_i d' j' x' tys hd hop
  simp only [Option.some.injEq, Prod.mk.injEq] at h
  obtain ⟨rfl, rfl, rfl⟩ := h
  exact ⟨hd, tys, hop⟩
 ·cases h
theorem kn_slot {dep n : Nat} {t : Tr} {m : Mem} {j : Nat} {v : AV} (hj : j < n) (h : getT (pth dep j) t = some v) : (absS dep n t m).kn (.s j) = some (.v v) := by
 rw [abs_kn]; simp [hj, h]
variable {F : Fix} {dep n dep0 n0 : Nat} {t0 : Tr} {a0 : Act} {ds0 : List Deferred} {kt l : Nat} {fnid : FuncId} {p D : Nat} {asg bd : Code} {mk : List Nat}
theorem round_ok (hmx : P.follows .mixedOrders = true) (htt : ttB P tt = true) (hcon : ∀ f vs ms vs' r, con f vs ms = some (vs', r) → FnS P f vs' r) (fu : Nat) (hn0 : n0 ≤ 4 ^ dep0) (hp : p < n0) (hnda : noDef asg = true) (hndb : noDef bd = true) (hl : F.w0.heap.size ≤ l) (hlm : l ∉ mk)
  {v : AV} {ms ms' : Ms} {k k' : Nat} {pd : Option Code} (h : rndF P tt con fu dep0 n0 t0 p asg bd v ms k = some (pd, ms', k'))
  (hw0 : wfT dep0 n0 t0 k) (hwM : wfM ms k) {g : Gh} {W : World} (hh : Hold { F with n := n0, ds := ds0, rd := none } (· < k) (absS dep0 n0 t0 ms.flatten).kn g W a0) {u : Value} (hv : RelV g v u) (hvi : ∀ id ∈ v.mids, id < k)
  (hrec : W.heap[l]? = some (.loop (recL fnid a0.tmps p asg bd D none))) (hmk : ∀ D ∈ mk, W.heap[D]? = some (.deferred (some [])))
  {R : Ending → World → Prop} (hR : ∀ g' W', k ≤ k' → wfM ms' k' → Hold { F with n := n0, ds := ds0, rd := none } (· < k') (absS dep0 n0 t0 ms'.flatten).kn g' W' a0 → GLe (· < k) g g' → W'.heap[l]? = some (.loop (recL fnid a0.tmps p asg bd D pd)) → (∀ D ∈ mk, W'.heap[D]? = some (.deferred (some []))) → R (.returned (.bool pd.isNone)) W') :
  RoundIn (fen none) 0 P l fnid (a0.tmps.setIfInBounds p u) asg bd W R := by
 unfold rndF at h
 split at h
 ·rename_i t1 ms1 k1 wl1 h1
  have hkey : ∀ (e : Ex) t2 wl2, RcIs (runF P tt con fu dep0 n0 0 bd t1 ms1 k1 []) e t2 ms' k' wl2 → (∀ W5 : World, W5.heap[l]? = some (.loop { recL fnid a0.tmps p asg bd D none with state := .busy }) → ∀ W6 v6, (Instr.endRound l pd).run P W5 = .ok v6 W6 → R (.returned v6) W6 → ∀ a5, roundPost P l R e.toE a5 W5) →
    RoundIn (fen none) 0 P l fnid (a0.tmps.setIfInBounds p u) asg bd W R := by
   intro e t2 wl2 h2 hpost
   have h0 : Hold { F with n := n0, ds := [], rd := some l } (· < k) (absS dep0 n0 (setT (pth dep0 p) v t0) ms.flatten).kn g W { tmps := a0.tmps.setIfInBounds p u, defers := [] } := (hh.defer [] (some l)).setS hn0 rfl hp hv hvi
   have g1 := runF_sound hmx htt hcon fu dep0 n0 0 asg _ ms k [] .nor t1 ms1 k1 wl1 hn0 (Nat.zero_le _) (hw0.set hn0 hp hvi) hwM h1
   have g2 := runF_sound hmx htt hcon fu dep0 n0 0 bd t1 ms1 k1 [] e t2 ms' k' wl2 hn0 (Nat.zero_le _) g1.1.wfT g1.1.wfM h2
   refine roundIn_of_wpIn (F := fen none) trivial ?_
   refine wpIn_mono (F := fen (some l)) (g1.2.keep (F := { F with n := n0, ds := [], rd := some l }) rfl (.inr hnda) h0) ?_
   rintro e1 a1 W1 ⟨rfl, ga, ha, hka, hga⟩
   have hr1 := hka.same _ _ hrec rfl
   have hr1s : (recL fnid a0.tmps p asg bd D none).state = .ready := rfl
   refine ⟨_, run_beginRound hr1 hr1s, ?_⟩
   have hlt1 : l < W1.heap.size := (Array.getElem?_eq_some_iff.1 hr1).1
   have hb0 := ha.wx (WX.putObj (.loop { recL fnid a0.tmps p asg bd D none with state := .busy }) hr1 rfl hl)
   refine wpIn_mono (F := fen (some l)) (g2.2.keep (F := { F with n := n0, ds := [], rd := some l }) rfl (.inr hndb) hb0) ?_
   rintro e2 a2 W2 ⟨rfl, gb, hb, hkb, hgb⟩
   have hr2 := hkb.same _ _ (World.putObj_heap_same (o := .loop { recL fnid a0.tmps p asg bd D none with state := .busy }) hlt1) rfl
   have hend := run_endRound (P := P) pd hr2
   refine hpost W2 hr2 _ _ hend ?_ a2
   have hlt2 : l < W2.heap.size := (Array.getElem?_eq_some_iff.1 hr2).1
   have hgl : GLe (· < k) g gb := ⟨hga.H.trans hgb.H, fun id hid => (hgb.γ id (Nat.lt_of_lt_of_le hid g1.1.le)).trans (hga.γ id hid)⟩
   refine hR gb _ (Nat.le_trans g1.1.le g2.1.le) g2.1.wfM ((hh.swap hb (Nat.le_trans g1.1.le g2.1.le) hgl).wx (WX.putObj _ hr2 rfl hl)) hgl ?_ ?_
   ·rw [World.putObj_heap_same hlt2]; rfl
   ·intro D' hD'
    have hne : D' ≠ l := fun e => hlm (e ▸ hD')
    rw [World.putObj_heap_other hne]
    refine hkb.same _ _ ?_ rfl
    rw [World.putObj_heap_other hne]
    exact hka.same _ _ (hmk D' hD') rfl
  split at h
  ·rename_i t2 ms2 k2 wl2 h2
   simp only [Option.some.injEq, Prod.mk.injEq] at h
   obtain ⟨rfl, rfl, rfl⟩ := h
   exact hkey .nor t2 wl2 h2 (fun W5 _ W6 v6 he hr a5 => ⟨v6, W6, he, hr⟩)
  ·rename_i id t2 ms2 k2 wl2 h2
   simp only [Option.some.injEq, Prod.mk.injEq] at h
   obtain ⟨rfl, rfl, rfl⟩ := h
   exact hkey (.exi id) t2 wl2 h2 (fun W5 _ W6 v6 he hr a5 => ⟨v6, W6, he, hr⟩)
  ·rename_i t2 ms2 k2 wl2 h2
   simp only [Option.some.injEq, Prod.mk.injEq] at h
   obtain ⟨rfl, rfl, rfl⟩ := h
   exact hkey .ret t2 wl2 h2 (fun W5 _ W6 v6 he hr a5 => ⟨v6, W6, he, hr⟩)
  ·cases h
 ·cases h
end
end Go.El

/- Ranges over functions, part 4: the leaves of the function that is ranged over are sound. Own work; no condition. -/
namespace Go.El
open Go Go.RowKit
section
variable {P : Program} {tt : TT} {con : FuncId → List AV → Ms → Option (List AV × AV)}
variable {F : Fix} {dep n dep0 n0 : Nat} {t0 : Tr} {a0 : Act} {ds0 : List Deferred} {kt l : Nat} {fnid : FuncId} {p D : Nat} {asg bd : Code} {mk : List Nat}
theorem evY_ok {rc : Option Code → Loop} : ∀ c s b, evY dep n c s = some b → ∀ a W, IY F dep n dep0 n0 t0 a0 ds0 kt l rc mk s a W → a.eval c = .bool b := by
 intro c s b h a W hI
 obtain ⟨g, _, _, _, hh, _⟩ := hI
 unfold evY at h
 split at h
 ·rename_i q hq
  split at h
  ·rename_i b' hb
   cases h
   have hev := compP_ev (m := s.ms.flatten) hq hb
   exact ev_rel hh _ c _ hev (opd_kn _ c)
  ·cases h
 ·cases h
theorem leafY_ok (hmx : P.follows .mixedOrders = true) (htt : ttB P tt = true) (hcon : ∀ f vs ms vs' r, con f vs ms = some (vs', r) → FnS P f vs' r) (fu : Nat) (hn : n ≤ 4 ^ dep) (hn0 : n0 ≤ 4 ^ dep0) (hp : p < n0) (hnda : noDef asg = true) (hndb : noDef bd = true) (hl : F.w0.heap.size ≤ l) (hlm : l ∉ mk) :
  ∀ c s r, leafY P tt con fu dep n kt (rndF P tt con fu dep0 n0 t0 p asg bd) c s = r → r ≠ .no → ∀ a W, IY F dep n dep0 n0 t0 a0 ds0 kt l (recL fnid a0.tmps p asg bd D) mk s a W →
   c.wpIn (fen none) 0 P (r.post (IY F dep n dep0 n0 t0 a0 ds0 kt l (recL fnid a0.tmps p asg bd D) mk)) a W := by
 intro c s r h hr a W hI
 unfold leafY at h
 split at h
 ·rename_i id ops draw
  obtain ⟨g, hwT, hwM, hw0, hh, hh0, hkt, htok, hrec, hmk⟩ := hI
  split at h
  ·rename_i t' ms' k' wl' h1
   subst h
   have g1 := runF_sound hmx htt hcon fu dep n 0 _ s.t s.ms s.k [] .nor t' ms' k' wl' hn (Nat.zero_le _) hwT hwM h1
   refine wpIn_mono (F := fen none) (g1.2.keep (F := { F with n := n, ds := [], rd := none }) rfl (.inl rfl) hh) ?_
   rintro e1 a1 W1 ⟨rfl, ga, ha, hka, hga⟩
   exact ⟨rfl, ga, g1.1.wfT, g1.1.wfM, hw0.le g1.1.le, ha, hh0.swap ha g1.1.le hga, Nat.lt_of_lt_of_le hkt g1.1.le, (hga.γ kt hkt).trans htok, hka.same _ _ hrec rfl, fun D hD => hka.same _ _ (hmk D hD) rfl⟩
  ·split at h
   ·split at h
    ·rename_i hpd
     rw [hpd] at hrec
     unfold leafY2 at h
     split at h
     ·rename_i i o d j x hsp
      obtain ⟨hy, _, hoi⟩ := spY_at hsp
      obtain ⟨hdst, tys, hop⟩ := yOp_eq hy
      have hoi' : ops[i]? = some o := by simpa using hoi
      have hilt : i < ops.size := (Array.getElem?_eq_some_iff.1 hoi').1
      split at h
      ·rename_i gp gq hgp hgq
       split at h
       ·rename_i t1 ms1 k1 wl1 f1 hrun1
        split at h
        ·rename_i hchk
         simp only [Bool.and_eq_true, Nat.blt_eq] at hchk
         obtain ⟨⟨⟨hgd, hdn⟩, hjn⟩, hxn⟩ := hchk
         split at h
         ·rename_i kt' v hgj hgx
          split at h
          ·rename_i hkk
           have := Nat.eq_of_beq_eq_true hkk
           subst this
           split at h
           ·rename_i pd ms2 k2 hrnd
            split at h
            ·rename_i t3 ms3 k3 wl3 f3 hrun3
             subst h
             have hcal : CalOk P (callF P tt con (runF P tt con fu)) := callF_ok htt hcon (runF_sound hmx htt hcon fu)
             obtain ⟨hle1, hwT1, hwM1, hseg1⟩ := regT_ops htt hcal hn (ops := ops) (ops.toList.take i) 0 hrun1 hgp (fun j o' hj => by
              rw [List.getElem?_take] at hj
              split at hj
              ·simpa using hj
              ·cases hj) hwT hwM
             refine wpIn_region ?_
             have hrange : List.range ops.size = List.range' 0 (ops.toList.take i).length ++ (i :: (List.range' (i + 1) (ops.toList.drop (i + 1)).length ++ [])) := by
              rw [List.append_nil, List.range_eq_range']
              have e1 : (ops.toList.take i).length = i := by simp; omega
              have e2 : (ops.toList.drop (i + 1)).length = ops.size - (i + 1) := by simp
              rw [e1, e2, ← List.range'_succ]
              have : ops.size - (i + 1) + 1 = ops.size - i := by omega
              rw [this]
              have := List.range'_append (s := 0) (m := i) (n := ops.size - i) (step := 1)
              simp only [Nat.one_mul, Nat.zero_add] at this
              rw [this]
              congr 1
              omega
             rw [hrange]
             refine hseg1 ({ F with n := n, ds := [], rd := none }.re W g s.k) rfl (fun _ _ _ => .inl rfl) _ _ g W a hh.re ?_
             intro g1 W1 a1 hh1
             obtain ⟨hA, hK1, hG1⟩ := hh.un hh1
             have hC := hh0.swap hA hle1 hG1
             have hw01 := hw0.le hle1
             have hv := hA.slots x v (kn_slot hxn hgx)
             have hvi : ∀ id ∈ v.mids, id < k1 := fun id hid => hA.mids (.s x) (.v v) (kn_slot hxn hgx) id hid
             have htokv : a1.tmps.getD j undef = .func (.yield l) #[] #[] := by
              have h1 : RelV g1 (.c (.X kt')) (a1.tmps.getD j undef) := hA.slots j _ (kn_slot hjn hgj)
              have h2 : a1.tmps.getD j undef = g1.γ kt' := h1
              rw [h2, hG1.γ kt' hkt, htok]
             show wpOpsIn (fen none) 0 P ops _ (i :: _) a1 W1
             rw [wpOpsIn_cons]
             unfold wpOpIn
             rw [hoi']
             have hwant : Region.wanted o (yielded ops a1.tmps) = true := by
              unfold gdY at hgd
              unfold Region.wanted
              split at hgd
              ·rename_i hg; rw [hg]
              ·rename_i gj want hg
               rw [hg]
               split at hgd
               ·rename_i tg htg
                split at hgd
                ·rename_i b hb1 hb2
                 have := hA.slots tg _ (kn_slot (Nat.le_of_ble_eq_true hb1) hb2)
                 simp only [yielded_of htg this]
                 simpa using hgd
                ·cases hgd
               ·cases hgd
             simp only [hwant, if_true]
             refine ⟨fun _ _ => trivial, ?_⟩
             have hex : (o.semAt (fen none).round a1.eval).run P W1 = .ok (.round l fnid (a0.tmps.setIfInBounds p (a1.tmps.getD x undef)) asg bd) W1 := by
              show (execOp a1.eval o).run P W1 = _
              have hy := run_yield (P := P) (args := #[a1.tmps.getD x undef]) (hK1.same _ _ hrec rfl) rfl
              rw [execOp, hop]
              have e1 : a1.eval (.tmp j) = .func (.yield l) #[] #[] := htokv
              have e3 : a1.eval (.tmp x) = a1.tmps.getD x undef := rfl
              have e2 : (#[Operand.tmp x] : Array Operand).map a1.eval = #[a1.tmps.getD x undef] := by simp [e3]
              simp only [resolve, e1, e2, Deferred.ofValue, pure_bind, invoke]
              simpa [recL] using hy
             rw [hex]
             simp only [Oper.uponIn_round]
             refine ⟨fun hh => by simp [fen, Fence.wide] at hh, ?_⟩
             refine round_ok (mk := mk) (D := D) hmx htt hcon fu hn0 hp hnda hndb hl hlm hrnd hw01 hwM1 hC hv hvi (hK1.same _ _ hrec rfl) (fun D hD => hK1.same _ _ (hmk D hD) rfl) ?_
             intro g2 W2 hle2 hwM2 hC2 hG2 hrec2 hmk2
             simp only
             have hA2 := (hA.swap hC2 hle2 hG2).setS (dep := dep) (n := n) hn rfl hdn (v := .c (.B pd.isNone)) (u := .bool pd.isNone) rfl (fun id hid => by cases hid)
             have hwT2 : wfT dep n (setT (pth dep d) (.c (.B pd.isNone)) t1) k2 := (hwT1.le hle2).set hn hdn (fun id hid => by cases hid)
             obtain ⟨hle3, hwT3, hwM3, hseg3⟩ := regT_ops htt hcal hn (ops := ops) (ops.toList.drop (i + 1)) (i + 1) hrun3 hgq (fun j o' hj => by
              rw [List.getElem?_drop] at hj
              simpa using hj) hwT2 hwM2
             rw [hdst]
             refine hseg3 ({ F with n := n, ds := [], rd := none }.re W2 g2 k2) rfl (fun _ _ _ => .inl rfl) _ _ g2 W2 _ hA2.re ?_
             intro g3 W3 a3 hh3
             obtain ⟨hA3, hK3, hG3⟩ := hA2.un hh3
             have hk3 : s.k ≤ k3 := by omega
             refine ⟨rfl, g3, hwT3, hwM3, hw0.le hk3, hA3, hC2.swap hA3 hle3 hG3, Nat.lt_of_lt_of_le hkt hk3, ?_, hK3.same _ _ hrec2 rfl, fun D hD => hK3.same _ _ (hmk2 D hD) rfl⟩
             rw [hG3.γ kt' (by omega), hG2.γ kt' (by omega), hG1.γ kt' hkt, htok]
            ·exact absurd h.symm hr
           ·exact absurd h.symm hr
          ·exact absurd h.symm hr
         ·exact absurd h.symm hr
        ·exact absurd h.symm hr
       ·exact absurd h.symm hr
      ·exact absurd h.symm hr
     ·exact absurd h.symm hr
    ·exact absurd h.symm hr
   ·exact absurd h.symm hr
 ·exact absurd h.symm hr
end
end Go.El
