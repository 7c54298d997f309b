/- The law FactorModular returns true. Own work; no condition. -/
import Derived.Test.YtkkccchkmcjcpaaGreatM9
import Derived.Test.YtkkccchkmcjcpaaGreatMW31
set_option linter.unusedVariables false
set_option linter.unusedSimpArgs false
namespace Go.El
open Go Go.RowKit Go.Proofs Fx
theorem fmodular_n (a : List Int) (m : Int) (h : FnS Tryz.prog 60 [cU m] (cB false)) : FnS Tryz.prog 12 [cS U64 a, cU m] (.t [(false, [.V (.slice none 0 0)]), (false, [.I .i64 1])]) := by
 refine fs_intro Tryz.func12 rfl rfl rfl rfl rfl (by decide) ?_
 exact rr rfl (tr_seq (rb (rc rfl rfl h (re rfl (tr_cond rfl (fun _ => rr rfl (tr_ret (at_then_ret (at_ret TT_ok rfl (AVle.refl _))))) (fun h => by cases h))))))
theorem fx_single {p : Nat} (c : Int) : (fx [c] : Fx p) = K c := by rw [fx_cons, fx_nil, mul_zero, add_zero]
theorem prM_app (p : Nat) (l m : List (List Int × Int)) : prM p (l ++ m) = prM p l * prM p m := by
 induction l with
 | nil => rw [List.nil_append, prM, one_mul]
 | cons x l ih => rw [List.cons_append, prM, prM, ih, mul_assoc]
theorem prM_take {p : Nat} {xs : List (List Int × Int)} {i : Nat} (h : i < xs.length) : prM p (xs.take (i + 1)) = prM p (xs.take i) * pk (fx (xs.getD i d0M).1) (xs.getD i d0M).2.toNat := by
 rw [getM h, List.take_succ_eq_append_getElem h, prM_snoc]
theorem prod_len {p : Nat} (H : P31 p) {f q : List Int} {A B : Fx p} (hq : pcan p q) (hf : pcan p f) (hf0 : f ≠ []) (h1 : fx q = A) (h2 : fx f = A * B) : q.length ≤ f.length := by
 have h0 : (fx f : Fx p) ≠ 0 := fun e => hf0 (fx_inj hf (pcan_nil H.pos) (e.trans fx_nil.symm))
 have := dvd_sz H (A := (fx q : Fx p)) (B := fx f) ⟨B, by rw [h2, h1, mul_comm]⟩ h0
 rwa [sz_fx hq, sz_fx hf] at this
set_option maxRecDepth 100000 in
set_option maxHeartbeats 8000000 in
theorem factorModular_s (a : List Int) (hb : ∀ x ∈ a, 0 ≤ x ∧ x ≤ 18446744073709551615) (n : Nat) (hn : n < 4294967296) : FnS Tryz.prog 3 [cS U64 a, cW n] (cB true) := by
 have ha : ∀ i, 0 ≤ a.getD i 0 := fun i => by
  rw [List.getD_eq_getElem?_getD]
  by_cases h : i < a.length
  ·rw [List.getElem?_eq_getElem h]; exact (hb _ (List.getElem_mem h)).1
  ·rw [List.getElem?_eq_none (by omega)]; exact Int.le_refl _
 obtain ⟨p, hp, hpm, hpr⟩ := lprime_s n hn
 have H : P31 p := ⟨hp, by omega⟩
 have hp2 := hp.1
 have hp1 : (0 : Int) < (p : Int) := by omega
 refine fs_intro Tryz.func3 rfl rfl rfl rfl rfl (by decide) ?_
 refine rr rfl (rb (rc rfl rfl sanity_s (re rfl (tr_seq (rr rfl (tr_cond rfl (fun h => by cases h) (fun _ => tr_skip (at_then ?_))))))))
 refine tr_seq (rr rfl (tr_cond rfl (fun h => ?_) (fun h => tr_skip (at_then ?_))))
 ·exact rr rfl (tr_ret (at_then_ret (at_ret TT_ok rfl (AVle.refl _))))
 have la : a.length ≤ 10 := by
  have h : ¬ (a.length : Int) > 10 := of_decide_eq_false h
  omega
 have htr := rTrim9_s a p (by omega) hp1 (by omega) ha
 refine rb (rc rfl rfl hpr (re rfl (rb (rc rfl rfl htr (re rfl ?_)))))
 by_cases h0 : trimW (md p a) = []
 ·refine rb (rc rfl rfl (fmodular_z H hpm a la ha h0) (re rfl ?_))
  rw [h0]
  refine tr_seq (rr rfl (tr_cond rfl (fun _ => ?_) (fun h => by cases h)))
  exact rb (rg 39 rfl rfl (fun _ => rg 44 rfl rfl (fun _ => re rfl (tr_ret (at_then_ret (at_ret TT_ok rfl (AVle.refl _))))) (fun h => by cases h)) (fun h => by cases h))
 have hc : pcan p (trimW (md p a)) := pcan_trim hp1 (md_rp hp1 a)
 have hl : (trimW (md p a)).length ≤ a.length := by
  have := trimW_len (md p a)
  rwa [md_len] at this
 obtain ⟨m1, m2, m3, m4, m5⟩ := monicL_fx H hc h0
 have hF := fac_ok H m1 (by omega)
 have hB := hF.bnd H m1
 have hS : FacOk p (fx (monicL p (trimW (md p a)))) (modS H a) := by
  by_cases e : (modL H a).length = 0
  ·rw [show modS H a = modL H a from by unfold modS; rw [e]; rfl]; exact hF
  ·exact hF.perm (insS_perm _ _ (by omega))
 have hSB := hS.bnd H m1
 have hSl : (modS H a).length = (modL H a).length := insS_len _ _
 have hadj : ∀ t, t + 1 < (modS H a).length → cmpL ((modS H a).getD t d0M).1 ((modS H a).getD (t + 1) d0M).1 < 0 := fun t ht => modS_adj hS.ds (by omega)
 refine rb (rc rfl rfl (fmodular_s H hpm a la ha h0 m1 (by omega) (by omega) (fun x hx => by have := (hB.2 x hx).2.2.1; omega)) (re rfl ?_))
 generalize modS H a = xs at *
 generalize trimW (md p a) = f at *
 have hfl := List.length_pos_iff.2 h0
 obtain ⟨l1, l2, l3, _⟩ := mono_aux hp hc h0
 have e1 : ((f.length : Int) - 1).toNat = f.length - 1 := by omega
 have hmn : FnS Tryz.prog 12 [cS U64 a, .c (num .u64 ((p : Int) * (p : Int))).1] (.t [(false, [.V (.slice none 0 0)]), (false, [.I .i64 1])]) := by
  have hpp : p * p ≤ 2147483647 * 2147483647 := Nat.mul_le_mul hpm hpm
  rw [show (AV.c (num .u64 ((p : Int) * (p : Int))).1) = cU ((p * p : Nat) : Int) from congrArg (fun x => AV.c (C.I .u64 x)) ((wrap_u64 _ (by rw [← Int.natCast_mul]; omega) (by rw [← Int.natCast_mul]; omega)).trans (Int.natCast_mul p p).symm)]
  exact fmodular_n a _ (mPrime_sq p hp (by omega))
 have hsame : FnS Tryz.prog 13 [cS U64 f, cS U64 f] (cB true) := by
  have := rSame9_s f f (by omega)
  rwa [decide_eq_true rfl] at this
 refine tr_seq (rr rfl (tr_cond rfl (fun h => ?_) (fun _ => tr_skip (at_then ?_))))
 ·have h : (f.length : Int) = 0 := eq_of_beq h
  exact absurd h (by omega)
 refine rb (rl U64 [f.getD ((f.length : Int) - 1).toNat 0] rfl rfl (re rfl ?_) (hp := by simp only [Pr.an, Pr.h, num, i64r, true_and, and_true]; first | done | omega))
 rw [e1]
 generalize f.getD (f.length - 1) 0 = c at *
 refine tr_seq (rr rfl (tr_cond rfl (fun h => by cases h) (fun _ => tr_skip (at_then ?_))))
 refine tr_seq (rr rfl (tr_block (tr_loop (α := Nat × List Int) (fun x => ⟨[(0, cS U64 a), (5, cB true), (6, cU p), (7, cS U64 f), (8, .c (.S MT xs)), (10, cS U64 x.2), (11, cI x.1)], [], 14, []⟩) (fun x => x.1 ≤ xs.length ∧ pcan p x.2 ∧ (fx x.2 : Fx p) = K c * prM p (xs.take x.1)) (fun x => xs.length - x.1) (0, [c]) ⟨Nat.zero_le _, ⟨rp_single l1 l2, .inr l3⟩, ?_⟩ (wk ⟨sR rfl, sR rfl, sR rfl, sR rfl, sR rfl, sR rfl, sR rfl, trivial⟩ trivial) ?_)))
 ·show (fx [c] : Fx p) = K c * prM p []
  rw [fx_single, prM, mul_one]
 rintro ⟨i, q⟩ ⟨hi, hq, hx⟩
 simp only at hi hq hx
 refine tr_seq (rr rfl (tr_cond rfl (fun h => ?_) (fun h => ?_)))
 ·have h : i < xs.length := by
   have h : (i : Int) < (xs.length : Int) := of_decide_eq_true h
   omega
  have hmem : xs.getD i d0M ∈ xs := by rw [getM h]; exact List.getElem_mem _
  obtain ⟨k1, k2, k3, k4, k5, k6⟩ := hSB.2 _ hmem
  have htk := prM_take (p := p) h
  have e2 : ((i : Int)).toNat = i := Int.toNat_natCast i
  refine tr_skip (at_then (tr_seq (tr_block (rr rfl ?_))))
  refine tr_wk (st' := ⟨[(0, cS U64 a), (5, cB true), (6, cU p), (7, cS U64 f), (8, .c (.S MT xs)), (10, cS U64 q), (11, cI i), (12, cS U64 (xs.getD i d0M).1)], [], 16, []⟩) (wk ⟨sR rfl, sR rfl, sR rfl, sR rfl, sR rfl, sR rfl, sR rfl, ⟨_, rfl, AVle.of_eq ?_⟩, trivial⟩ trivial) ?_
  ·show AV.c (C.S U64 (xs.getD ((i : Int)).toNat d0M).1) = _
   rw [e2]
  have hprev : 0 < i → cmpL (xs.getD ((i : Int) - 1).toNat d0M).1 (xs.getD i d0M).1 < 0 ∧ (xs.getD ((i : Int) - 1).toNat d0M).1.length ≤ 1000 := fun h0 => by
   rw [show ((i : Int) - 1).toNat = i - 1 by omega]
   have h5 := hadj (i - 1) (by omega)
   rw [show i - 1 + 1 = i by omega] at h5
   have h6 : xs.getD (i - 1) d0M ∈ xs := by rw [getM (by omega)]; exact List.getElem_mem _
   have h7 := (hSB.2 _ h6).2.2.1
   exact ⟨h5, by omega⟩
  generalize hg : xs.getD i d0M = gN at *
  obtain ⟨g, N⟩ := gN
  simp only at k1 k2 k3 k4 k5 k6 htk
  have hgT := rTrim9_s g p (by omega) hp1 (by omega) (fun j => (k1.c.1 j).1)
  rw [md_self k1.c.1, trimW_self k1.c.2] at hgT
  have hgS : FnS Tryz.prog 13 [cS U64 g, cS U64 g] (cB true) := by
   have := rSame9_s g g (by omega)
   rwa [decide_eq_true rfl] at this
  have hgI := rIrr9_s H g (by omega) k1 k2 k4
  have hgm1 : g.getD (g.length - 1) 0 = 1 := k1.one
  refine tr_mid1 ⟨[(0, cS U64 a), (5, cB true), (6, cU p), (7, cS U64 f), (8, .c (.S MT xs)), (10, cS U64 q), (11, cI i), (12, cS U64 g)], [], 20, []⟩ ?_ (fun mid => rb (rg 70 rfl rfl (fun h1 => ?_) (fun _ => rg 75 rfl rfl (fun h1 => ?_) (fun _ => rg 83 rfl rfl (fun h1 => ?_) (fun _ => rg 91 rfl rfl (fun h1 => ?_) (fun _ => rcg rfl rfl rfl rfl rfl hgT (rcg rfl rfl rfl rfl rfl hgS (rg 99 rfl rfl (fun h1 => ?_) (fun _ => rg 108 rfl rfl (fun h1 => ?_) (fun _ => rcg rfl rfl rfl rfl rfl hgI (rg 114 rfl rfl (fun h1 => ?_) (fun _ => ?_)) (hp := by simp only [Pr.an, Pr.h, num, i64r, true_and, and_true]; first | done | omega)))))))))))
  rotate_left
  ·have h1 : (g.length : Int) < 2 := of_decide_eq_true h1
   exact absurd k2 (by omega)
  ·have h1 : (g.length : Int) > 10 := of_decide_eq_true h1
   exact absurd k3 (by omega)
  ·have h1 : (xs.getD ((i : Int)).toNat d0M).2 < 1 := of_decide_eq_true h1
   rw [e2, hg] at h1
   exact absurd k5 (by omega)
  ·have h1 : (xs.getD ((i : Int)).toNat d0M).2 > 10 := of_decide_eq_true h1
   rw [e2, hg] at h1
   exact absurd k6 (by show ¬ N + 1 ≤ _; have h1 : N > 10 := h1; omega)
  ·cases h1
  ·have h1 : (g.getD ((g.length : Int) - 1).toNat 0 != 1) = true := h1
   have h1 := bne_z h1
   rw [show ((g.length : Int) - 1).toNat = g.length - 1 by omega] at h1
   exact absurd hgm1 h1
  ·cases h1
  ·refine rg 117 rfl rfl (fun h1 => ?_) (fun h1 => ?_)
   ·have h1 : 0 < i := by
     have h1 : (i : Int) > 0 := of_decide_eq_true h1
     omega
    obtain ⟨g1, g2⟩ := hprev h1
    have hgL : FnS Tryz.prog 15 [cS U64 (xs.getD ((i : Int) - 1).toNat d0M).1, cS U64 g] (cB true) := by
     have := rLess9_s ((xs.getD ((i : Int) - 1).toNat d0M).1) g g2 (by omega)
     rwa [decide_eq_true g1] at this
    refine rcg rfl rfl rfl rfl rfl hgL (re rfl (tr_cond rfl (fun h => by cases h) (fun _ => tr_skip (at_mid mid (wk ⟨sR rfl, sR rfl, sR rfl, sR rfl, sR rfl, sR rfl, sR rfl, sR rfl, trivial⟩ trivial))))) (hp := by simp only [Pr.an, Pr.h, num, i64r, true_and, and_true]; first | done | omega)
   ·exact re rfl (tr_cond rfl (fun h => by cases h) (fun _ => tr_skip (at_mid mid (wk ⟨sR rfl, sR rfl, sR rfl, sR rfl, sR rfl, sR rfl, sR rfl, sR rfl, trivial⟩ trivial))))
  have hNi : ((N.toNat : Nat) : Int) = N := Int.toNat_of_nonneg (by omega)
  have hfx : (fx f : Fx p) = K c * prM p xs := by rw [hS.prod]; exact m5
  have hmx : ∀ (j : Nat) (r : List Int), j ≤ N.toNat → pcan p r → (fx r : Fx p) = K c * prM p (xs.take i) * pk (fx g) j → r.length ≤ 10 := fun j r hj hr e => by
   have := prod_len H (f := f) (A := K c * prM p (xs.take i) * pk (fx g) j) (B := pk (fx g) (N.toNat - j) * prM p (xs.drop (i + 1))) hr hc h0 e (by
    rw [hfx, ← List.take_append_drop (i + 1) xs, prM_app, List.take_append_drop, htk, show pk (fx g) N.toNat = (pk (fx g) j * pk (fx g) (N.toNat - j) : Fx p) by rw [← pk_add, show j + (N.toNat - j) = N.toNat by omega]]
    ac_rfl)
   omega
  refine rr rfl (tr_block (tr_loop (α := Nat × List Int) (fun y => ⟨[(0, cS U64 a), (5, cB true), (6, cU p), (7, cS U64 f), (8, .c (.S MT xs)), (10, cS U64 y.2), (11, cI i), (12, cS U64 g), (13, cI y.1)], [], 24, []⟩) (fun y => y.1 ≤ N.toNat ∧ pcan p y.2 ∧ (fx y.2 : Fx p) = K c * prM p (xs.take i) * pk (fx g) y.1) (fun y => N.toNat - y.1) (0, q) ⟨Nat.zero_le _, hq, by rw [pk, mul_one]; exact hx⟩ (wk ⟨sR rfl, sR rfl, sR rfl, sR rfl, sR rfl, sR rfl, sR rfl, sR rfl, sR rfl, trivial⟩ trivial) ?_))
  rintro ⟨j, r⟩ ⟨hj, hr, hrx⟩
  simp only at hj hr hrx
  have hrl := hmx j r hj hr hrx
  have hNe : (xs.getD ((i : Int)).toNat d0M).2 = N := by rw [e2, hg]
  refine tr_seq (rr rfl (tr_cond rfl (fun h2 => ?_) (fun h2 => ?_)))
  ·have h2 : j < N.toNat := by
    have h2 : (j : Int) < (xs.getD ((i : Int)).toNat d0M).2 := of_decide_eq_true h2
    rw [hNe] at h2
    omega
   have hmul := rMul9_s r g p (by omega) (by omega) hp1 (by omega) hr.1 k1.c.1
   exact tr_skip (at_then (tr_seq (tr_block (rbt (rc rfl rfl hmul (re rfl (at_block (at_then (rt rfl (hp := by simp only [Pr.an, Pr.h, num, i64r, true_and, and_true]; first | done | omega) (at_loop (j + 1, ptimes r g p) ⟨h2, ptimes_pcan H.pos r g, by show (fx (ptimes r g p) : Fx p) = _; rw [fx_times, hrx, mul_assoc]; rfl⟩ (by show N.toNat - (j + 1) < N.toNat - j; omega) (wk ⟨sR rfl, sR rfl, sR rfl, sR rfl, sR rfl, sR rfl, sR rfl, sR rfl, sR rfl, trivial⟩ trivial)))))))))))
  ·have h2 : j = N.toNat := by
    have h2 : ¬ (j : Int) < (xs.getD ((i : Int)).toNat d0M).2 := of_decide_eq_false h2
    rw [hNe] at h2
    omega
   subst h2
   rw [mul_assoc, ← htk] at hrx
   exact tr_exit (at_then_exit (at_loop_exit (at_block_exit (at_block (at_then (rt rfl (hp := by simp only [Pr.an, Pr.h, num, i64r, true_and, and_true]; first | done | omega) (at_loop (i + 1, r) ⟨h, hr, hrx⟩ (by show xs.length - (i + 1) < xs.length - i; omega) (wk ⟨sR rfl, sR rfl, sR rfl, sR rfl, sR rfl, sR rfl, sR rfl, trivial⟩ trivial))))))))
 ·have h : i = xs.length := by
   have h : ¬ (i : Int) < (xs.length : Int) := of_decide_eq_false h
   omega
  subst h
  rw [List.take_length, hS.prod, ← m5] at hx
  have hx := fx_inj hq hc hx
  subst hx
  refine tr_exit (at_then_exit (at_loop_exit (at_block_exit (at_then ?_))))
  refine rb (rc rfl rfl hmn (re rfl (rb (rc rfl rfl hsame (rg 153 rfl rfl (fun _ => rg 157 rfl rfl (fun _ => re rfl (tr_ret (at_ret TT_ok rfl (AVle.refl _)))) (fun h => by cases h)) (fun h => by cases h))))))
end Go.El
