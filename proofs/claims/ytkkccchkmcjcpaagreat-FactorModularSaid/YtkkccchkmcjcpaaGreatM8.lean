/- Contracts: a factor is separated by a polynomial that is equal to its power p. Own work; no condition. -/
import Derived.Test.YtkkccchkmcjcpaaGreatM7
set_option linter.unusedVariables false
set_option linter.unusedSimpArgs false
namespace Go.El
open Go Go.Proofs Fx
def prodL (p : Nat) : List (List Int) → Fx p
 | [] => 1
 | g :: l => fx g * prodL p l
theorem prodL_app (p : Nat) : ∀ l m : List (List Int), prodL p (l ++ m) = prodL p l * prodL p m
 | [], m => (one_mul _).symm
 | g :: l, m => by rw [List.cons_append, prodL, prodL, prodL_app p l m, mul_assoc]
theorem prodL_dvd (p : Nat) : ∀ {l : List (List Int)} {g : List Int}, g ∈ l → (fx g : Fx p) ∣ prodL p l
 | h :: l, g, hg => by
  rcases List.mem_cons.1 hg with rfl | hg
  ·exact dvd_mul_right _ _
  ·exact dvd_mul_l (prodL_dvd p hg) _
structure SepOk (p : Nat) (f : List Int) (V : Fx p) (l : List (List Int)) : Prop where
 parts : ∀ g ∈ l, Mon p g ∧ 2 ≤ g.length ∧ ∃ c, (fx g : Fx p) ∣ V - K c
 prod : prodL p l = fx f
noncomputable def sepL {p : Nat} (H : P31 p) (f v : List Int) (s : Int) : List Int :=
 if 2 < p then trimW (plusL (modF H f (pk (fx (trimW (plusL v 1 (trimW [s]) p))) ((p - 1) / 2))) (p - 1) [1] p) else trimW (plusL v 1 (trimW [s]) p)
theorem fx_plus {p : Nat} (f : List Int) (s : Int) (g : List Int) : (fx (trimW (plusL f s g p)) : Fx p) = fx f + K s * fx g := by
 rw [fx_trim]; exact mk_eq.2 (plusL_ps f s g p)
theorem fx_const {p : Nat} (s : Int) : (fx (trimW [s]) : Fx p) = K s := by rw [fx_trim, fx_single]
theorem sepL_ok {p : Nat} (H : P31 p) {f v : List Int} (hf : pcan p f) (hf0 : f ≠ []) (hv : pcan p v) (hlt : v.length < f.length) (hv1 : 1 ≤ v.length) {s : Nat} (hs : s < p) : pcan p (sepL H f v s) ∧ (fx f : Fx p) ∣ fx (sepL H f v s) - sepT p (fx v) s := by
 have h2 := H.hp.1
 have hrs : rp p (trimW [(s : Int)]) := rp_trimW H.pos (rp_single (by omega) (by omega))
 have h1 : pcan p (trimW (plusL v 1 (trimW [(s : Int)]) p)) := pcan_trim H.pos (plusL_rp H.pos hv.1 _ _)
 have e1 : (fx (trimW (plusL v 1 (trimW [(s : Int)]) p)) : Fx p) = fx v + K s := by rw [fx_plus, fx_const, K_one, one_mul]
 unfold sepL sepT
 by_cases hp : 2 < p
 ·rw [if_pos hp, if_neg (by omega), e1]
  obtain ⟨m1, m2, m3⟩ := modF_ok H hf hf0 (pk (fx v + K (s : Int) : Fx p) ((p - 1) / 2))
  refine ⟨pcan_trim H.pos (plusL_rp H.pos m1.1 _ _), ?_⟩
  have e2 : (K ((p : Int) - 1) : Fx p) * fx [1] = -1 := by
   rw [fx_one, mul_one, K_sub, K_p, K_one, sub_def, zero_add]
  rw [fx_plus, e2]
  exact cong_add m3 (cong_refl _ _)
 ·rw [if_neg hp, if_pos (by omega), e1]
  exact ⟨h1, cong_refl _ _⟩
theorem least {P : Nat → Prop} : ∀ n, P n → ∃ m, m ≤ n ∧ P m ∧ ∀ k, k < m → ¬ P k := by
 intro n
 induction n using Nat.strongRecOn with
 | _ n ih =>
  intro h
  by_cases e : ∃ k, k < n ∧ P k
  ·obtain ⟨k, h1, h2⟩ := e
   obtain ⟨m, h3, h4, h5⟩ := ih k h1 h2
   exact ⟨m, by omega, h4, h5⟩
  ·exact ⟨n, Nat.le_refl _, h, fun k hk hp => e ⟨k, hk, hp⟩⟩
def sepG {p : Nat} (H : P31 p) (f v : List Int) (s : Nat) : Prop := 1 < (gcdP p f (sepL H f v s)).length ∧ (gcdP p f (sepL H f v s)).length < f.length
theorem sepG_ex {p : Nat} (H : P31 p) {f v : List Int} (hf : Mon p f) (h2 : 2 ≤ f.length) (hs : Sqf (fx f : Fx p)) (hv : pcan p v) (hlt : v.length < f.length) (hv2 : 2 ≤ v.length) (hV : (fx f : Fx p) ∣ pk (fx v) p - fx v) : ∃ s, s < p ∧ sepG H f v s ∧ ∀ k, k < s → ¬ sepG H f v k := by
 have hn : ∀ c, ¬ (fx f : Fx p) ∣ fx v - K c := by
  intro c hd
  have h1 := dvd_small H hd (by
   have h3 := sz_sub H.pos (fx v : Fx p) (K c)
   have h4 := sz_K H.pos c (p := (p : Int))
   rw [sz_fx hv] at h3
   rw [sz_fx hf.c]; omega)
  have h5 := eq_of_sub h1
  have h4 := sz_K H.pos c (p := (p : Int))
  rw [← h5, sz_fx hv] at h4
  omega
 obtain ⟨s, hsp, Q1, Q2, i1, i2, d1, d2, t1, t2⟩ := sep H (by rw [sz_fx hf.c]; exact h2) hs hV hn
 obtain ⟨c1, c2⟩ := sepL_ok H hf.c hf.ne hv hlt (by omega) hsp
 obtain ⟨m1, m2, m3, U, W, m4⟩ := gcdP_fx H hf.c c1 hf.ne
 have hg : sepG H f v s := by
  have q1 : Q1 ∣ fx (sepL H f v s) := dvd_of_sub (dvd_trans d1 c2) t1
  have q2 : ¬ Q2 ∣ fx (sepL H f v s) := fun h => t2 (dvd_of_sub (dvd_sub_comm (dvd_trans d2 c2)) h)
  have g0 := m1.fne H
  have g1 : Q1 ∣ fx (gcdP p f (sepL H f v s)) := by rw [m4]; exact dvd_add (dvd_mul_l d1 U) (dvd_mul_l q1 W)
  have g2 := dvd_sz H g1 g0
  have g3 := dvd_sz H m2 (hf.fne H)
  have g4 := i1.1
  rw [sz_fx m1.c] at g2 g3
  rw [sz_fx hf.c] at g3
  refine ⟨by omega, ?_⟩
  by_cases e : (gcdP p f (sepL H f v s)).length < f.length
  ·exact e
  ·exfalso
   obtain ⟨w, hw⟩ := m2
   have w0 : w ≠ 0 := fun e => hf.fne H (by rw [hw, e, zero_mul])
   have h6 := sz_mul H w0 g0
   rw [← hw, sz_fx hf.c, sz_fx m1.c] at h6
   obtain ⟨C, hC⟩ := unit_inv H (show sz w = 1 by omega)
   refine q2 (dvd_trans d2 (dvd_trans ⟨C, ?_⟩ m3))
   rw [hw, ← mul_assoc, hC, one_mul]
 obtain ⟨m, h1, h2, h3⟩ := least s hg
 exact ⟨m, by omega, h2, h3⟩
theorem sep_rec {p : Nat} (H : P31 p) {f v : List Int} (hf : Mon p f) (hs : Sqf (fx f : Fx p)) (hv : pcan p v) (hlt : v.length < f.length) (hv2 : 2 ≤ v.length) (hV : (fx f : Fx p) ∣ pk (fx v) p - fx v) {s : Nat} (hsp : s < p) (hg : sepG H f v s) :
  let g := gcdP p f (sepL H f v s)
  let h := (pdivide f g p).1
  (Mon p g ∧ 2 ≤ g.length ∧ g.length < f.length ∧ Sqf (fx g : Fx p) ∧ (fx g : Fx p) ∣ pk (fx v) p - fx v) ∧ (Mon p h ∧ 2 ≤ h.length ∧ h.length < f.length ∧ Sqf (fx h : Fx p) ∧ (fx h : Fx p) ∣ pk (fx v) p - fx v) ∧ (fx f : Fx p) = fx h * fx g := by
 intro g h
 obtain ⟨c1, c2⟩ := sepL_ok H hf.c hf.ne hv hlt (by omega) hsp
 obtain ⟨m1, m2, m3, _⟩ := gcdP_fx H hf.c c1 hf.ne
 have hg1 : 1 < g.length := hg.1
 have hg2 : g.length < f.length := hg.2
 have q1 : Mon p h := quo_mon H hf m1 (by omega)
 have q2 : (fx f : Fx p) = fx h * fx g := quo_eq H hf.c m1.c m1.ne m2
 obtain ⟨_, _, _, _, _, q3⟩ := pdiv_ok H.hp H.le hf.c.1 m1.c m1.ne
 have q3 : h.length = f.length - (g.length - 1) := q3
 have q4 : (fx h : Fx p) ∣ fx f := by rw [q2]; exact dvd_mul_right _ _
 exact ⟨⟨m1, by omega, hg2, hs.of_dvd m2, dvd_trans m2 hV⟩, ⟨q1, by omega, by omega, hs.of_dvd q4, dvd_trans q4 hV⟩, q2⟩
theorem list_lt2 {w : List Int} (h : w.length < 2) : w = [] ∨ ∃ c, w = [c] := by
 cases w with
 | nil => exact .inl rfl
 | cons c w =>
  cases w with
  | nil => exact .inr ⟨c, rfl⟩
  | cons d w => simp at h; omega
abbrev PT : ET := .pr (.sl U64) U64
abbrev lP (p : Nat) (l : List (List Int)) : List (List Int × Int) := l.map fun g => (g, (p : Int))
set_option maxHeartbeats 8000000 in
theorem separate_s {p : Nat} (H : P31 p) : ∀ (N : Nat) (f v : List Int), f.length < N → f.length ≤ 200 → Mon p f → 2 ≤ f.length → Sqf (fx f : Fx p) → pcan p v → v ≠ [] → v.length ≤ 200 → (fx f : Fx p) ∣ pk (fx v) p - fx v →
  ∃ l, SepOk p f (fx v) l ∧ l.length + 1 ≤ f.length ∧ FnV Tryz.prog 184 [aP f p, aP v p] 101 PT (lP p l)
 | 0, _, _, h, _, _, _, _, _, _, _, _ => by omega
 | N + 1, f, v, hN, lf, hf, h2, hs, hv, hv0, lv, hV => by
  have hp2 := H.hp.1
  have hple := H.le
  have hpz : (p : Int) ≠ 0 := by omega
  obtain ⟨d1, d2, d3, d4, d5, d6⟩ := pdiv_ok H.hp H.le hv.1 hf.c hf.ne
  have hdc := rem_cong H hv hf.c hf.ne
  have hdv := pdivideP_s p H.hp H.le v f (by omega) (by omega) hv.1 hf.c hv0 hf.ne
  have hw := d5 hv
  generalize hwE : (pdivide v f p).2 = w at *
  have hwV : (fx f : Fx p) ∣ pk (fx w) p - fx w := dvd_sub_trans (cong_pk hdc p) (dvd_sub_trans hV (dvd_sub_comm hdc))
  by_cases hsm : w.length < 2
  ·refine ⟨[f], ⟨fun g hg => ?_, by rw [prodL, prodL, mul_one]⟩, by simp; omega, ?_⟩
   ·have e := List.mem_singleton.1 hg
    subst e
    refine ⟨hf, h2, ?_⟩
    rcases list_lt2 hsm with e | ⟨c, e⟩
    ·exact ⟨0, by rw [K_zero, ← fx_nil, ← e]; exact dvd_sub_comm hdc⟩
    ·exact ⟨c, by rw [← fx_single, ← e]; exact dvd_sub_comm hdc⟩
   ·refine fv_intro Tryz.func184 rfl rfl rfl rfl (by decide) ?_
    refine rr rfl (rb (rc rfl rfl hdv (re rfl ?_)))
    refine tr_seq (rb (rc rfl rfl (pdegree_s w p (by omega)) (re rfl (tr_cond rfl (fun h => ?_) (fun h => ?_)))))
    ·exact rb (rlv PT [(f, (p : Int))] rfl rfl (re rfl (tr_ret (at_then_ret (at_retV (id := 3001000) TT_ok rfl rfl)))))
    ·exfalso
     have h : ¬ (w.length : Int) - 1 < 1 := of_decide_eq_false h
     omega
  ·have hlt : w.length < f.length := by omega
   have hw2 : 2 ≤ w.length := by omega
   obtain ⟨s0, hs0, hG, hmin⟩ := sepG_ex H hf h2 hs hw hlt hw2 hwV
   obtain ⟨⟨a1, a2, a3, a4, a5⟩, ⟨b1, b2, b3, b4, b5⟩, e0⟩ := sep_rec H hf hs hw hlt hw2 hwV hs0 hG
   have hw0 : w ≠ [] := fun e => by rw [e] at hw2; simp at hw2
   obtain ⟨l1, o1, n1, k1⟩ := separate_s H N _ w (by omega) (by omega) a1 a2 a4 hw hw0 (by omega) a5
   obtain ⟨l2, o2, n2, k2⟩ := separate_s H N _ w (by omega) (by omega) b1 b2 b4 hw hw0 (by omega) b5
   have hlen : (gcdP p f (sepL H f w s0)).length + (pdivide f (gcdP p f (sepL H f w s0)) p).1.length = f.length + 1 := by
    have h3 := sz_mul H (b1.fne H) (a1.fne H)
    rw [← e0, sz_fx hf.c, sz_fx b1.c, sz_fx a1.c] at h3
    omega
   refine ⟨l1 ++ l2, ⟨fun g hg => ?_, ?_⟩, by rw [List.length_append]; omega, ?_⟩
   ·have up : ∀ c, (fx g : Fx p) ∣ fx f → (fx g : Fx p) ∣ fx w - K c → (fx g : Fx p) ∣ fx v - K c := fun c e1 e2 => dvd_sub_trans (dvd_sub_comm (dvd_trans e1 hdc)) e2
    rcases List.mem_append.1 hg with hg | hg
    ·obtain ⟨q1, q2, c, q3⟩ := o1.parts g hg
     refine ⟨q1, q2, c, up c ?_ q3⟩
     rw [e0, ← o1.prod]; exact dvd_mul_l (prodL_dvd p hg) _
    ·obtain ⟨q1, q2, c, q3⟩ := o2.parts g hg
     refine ⟨q1, q2, c, up c ?_ q3⟩
     rw [e0, ← o2.prod]; exact dvd_mul_r (prodL_dvd p hg) _
   ·rw [prodL_app, o1.prod, o2.prod, e0, mul_comm]
   have hll : (lP p l1).length = l1.length ∧ (lP p l2).length = l2.length := ⟨List.length_map _, List.length_map _⟩
   rw [show lP p (l1 ++ l2) = lP p l1 ++ lP p l2 from List.map_append]
   refine fv_intro Tryz.func184 rfl rfl rfl rfl (by decide) ?_
   refine rr rfl (rb (rc rfl rfl hdv (re rfl ?_)))
   refine tr_seq (rb (rc rfl rfl (pdegree_s w p (by omega)) (re rfl (tr_cond rfl (fun h => ?_) (fun h => tr_skip (at_then ?_))))))
   ·exfalso
    have h : (w.length : Int) - 1 < 1 := of_decide_eq_true h
    omega
   refine tr_seq (rr rfl (tr_block (tr_loop (α := Nat) (fun s => ⟨[(2, .c (.P 0 0)), (3, .c (.P 1000 0)), (22, cU p), (23, cU s)], [(0, .box 101 0 [.S U64 f, .I .u64 p]), (1000, .box 101 0 [.S U64 w, .I .u64 p])], 4, []⟩) (fun s => s ≤ s0) (fun s => p - s) 0 (Nat.zero_le _) (wk ⟨sR rfl, sR rfl, sR rfl, sR rfl, trivial⟩ ⟨⟨_, rfl, BLe.of_eq rfl⟩, ⟨_, rfl, BLe.of_eq rfl⟩, trivial⟩) ?_)))
   intro s hs'
   have hsp : s < p := by omega
   refine rr rfl (tr_seq (tr_cond rfl (fun h => tr_skip (at_then (tr_seq (tr_block ?_)))) (fun h => ?_)))
   rotate_left
   ·exfalso
    have h : ¬ (s : Int) < (p : Int) := of_decide_eq_false h
    omega
   have hconst := pconst_s f s p H.pos (by omega) (by omega) (by omega)
   have hrs : rp p (trimW [(s : Int)]) := rp_trimW H.pos (rp_single (by omega) (by omega))
   have hls : (trimW [(s : Int)]).length ≤ 1 := trimW_len _
   have hplus := pplus_s w 1 (trimW [(s : Int)]) p (by omega) (by omega) H.pos (by omega) hw.1 hrs ⟨by omega, by omega⟩ (.inl hw0)
   obtain ⟨c1, c2⟩ := sepL_ok H hf.c hf.ne hw hlt (by omega) hsp
   have htl : (trimW (plusL w 1 (trimW [(s : Int)]) p)).length ≤ w.length := by
    have := trimW_len (plusL w 1 (trimW [(s : Int)]) p)
    rw [plusL_len] at this; omega
   have htc : pcan p (trimW (plusL w 1 (trimW [(s : Int)]) p)) := pcan_trim H.pos (plusL_rp H.pos hw.1 _ _)
   have htE : sepL H f w s = if 2 < p then trimW (plusL (modF H f (pk (fx (trimW (plusL w 1 (trimW [(s : Int)]) p))) ((p - 1) / 2))) (p - 1) [1] p) else trimW (plusL w 1 (trimW [(s : Int)]) p) := rfl
   have htL : (sepL H f w s).length ≤ f.length := by
    rw [htE]
    split
    ·have := trimW_len (plusL (modF H f (pk (fx (trimW (plusL w 1 (trimW [(s : Int)]) p))) ((p - 1) / 2))) ((p : Int) - 1) [1] p)
     have := (modF_ok H hf.c hf.ne (pk (fx (trimW (plusL w 1 (trimW [(s : Int)]) p))) ((p - 1) / 2))).2.1
     rw [plusL_len] at *
     simp only [List.length_cons, List.length_nil] at *
     omega
    ·omega
   have hgcd := pgcd_s p H.hp H.le f (sepL H f w s) (by omega) (by omega) hf.c c1 hf.ne
   generalize htt : trimW (plusL w 1 (trimW [(s : Int)]) p) = t at *
   refine rr rfl (rb (rc rfl rfl hconst (rc rfl rfl hplus (re rfl ?_))))
   refine tr_mid1 ⟨[(2, .c (.P 0 0)), (3, .c (.P 1000 0)), (6, .c (.P 6005000 0)), (22, cU p), (23, cU s)], [(0, .box 101 0 [.S U64 f, .I .u64 p]), (1000, .box 101 0 [.S U64 w, .I .u64 p]), (6005000, .box 101 0 [.S U64 (sepL H f w s), .I .u64 p])], 9, []⟩ ?_ (fun mid => rr rfl (tr_cond rfl (fun h3 => ?_) (fun h3 => tr_skip (at_mid mid (wk ⟨sR rfl, sR rfl, sR rfl, sR rfl, sR rfl, trivial⟩ ⟨⟨_, rfl, BLe.of_eq rfl⟩, ⟨_, rfl, BLe.of_eq rfl⟩, ⟨_, rfl, BLe.of_eq ?_⟩, trivial⟩)))))
   ·obtain ⟨m1, m2, m3, _⟩ := gcdP_fx H hf.c c1 hf.ne
    have hgl : (gcdP p f (sepL H f w s)).length ≤ f.length := by
     have := dvd_sz H m2 (hf.fne H)
     rwa [sz_fx m1.c, sz_fx hf.c] at this
    have hGs : sepG H f w s ↔ 1 < (gcdP p f (sepL H f w s)).length ∧ (gcdP p f (sepL H f w s)).length < f.length := Iff.rfl
    have next : ¬ sepG H f w s → s + 1 ≤ s0 := fun hn => by
     rcases Nat.lt_or_ge s s0 with e | e
     ·exact e
     ·exact absurd (show sepG H f w s by rw [show s = s0 by omega]; exact hG) hn
    refine rb (rc rfl rfl hgcd (re rfl (rb (rc rfl rfl (pdegree_s (gcdP p f (sepL H f w s)) p (by omega)) (rg 54 rfl rfl (fun h1 => ?_) (fun h1 => ?_))))))
    ·have h1 : ((gcdP p f (sepL H f w s)).length : Int) - 1 > 0 := of_decide_eq_true h1
     refine rcg rfl rfl rfl rfl rfl (pdegree_s (gcdP p f (sepL H f w s)) p (by omega)) (rcg rfl rfl rfl rfl rfl (pdegree_s f p (by omega)) (re rfl (tr_cond rfl (fun h2 => ?_) (fun h2 => ?_))))
     ·have h2 : ((gcdP p f (sepL H f w s)).length : Int) - 1 < (f.length : Int) - 1 := of_decide_eq_true h2
      have es : s = s0 := by
       rcases Nat.lt_or_ge s s0 with e | e
       ·exact absurd (hGs.2 ⟨by omega, by omega⟩) (hmin s e)
       ·omega
      subst es
      have hdiv2 := pdivideP_s p H.hp H.le f (gcdP p f (sepL H f w s)) (by omega) (by omega) hf.c.1 m1.c hf.ne m1.ne
      refine rb (rc rfl rfl hdiv2 (re rfl (rb (rcv rfl rfl k1 (rc rfl rfl k2.fs (ra rfl rfl rfl rfl rfl rfl rfl rfl rfl ?_ ?_ (re rfl (tr_ret (at_block_ret (at_then_ret (at_loop_ret (at_block_ret (at_then_ret (at_retV (id := 12006000) TT_ok rfl rfl))))))))))))))
      ·show (_ + _ + (_ + _) / 4 + 192) * 32 ≤ _; omega
      ·show (_ + _) * 2 ≤ _; omega
     ·have h2 : ¬ ((gcdP p f (sepL H f w s)).length : Int) - 1 < (f.length : Int) - 1 := of_decide_eq_false h2
      refine tr_skip (at_block (at_then (rt rfl (hp := by simp only [Pr.an, Pr.h, num, i64r, true_and, and_true]; first | done | omega) (at_loop (s + 1) (next fun hn => by have := (hGs.1 hn).2; omega) (by show p - (s + 1) < p - s; omega) (wk ⟨sR rfl, sR rfl, sR rfl, ⟨_, rfl, AVle.of_eq ?_⟩, trivial⟩ ⟨⟨_, rfl, BLe.of_eq rfl⟩, ⟨_, rfl, BLe.of_eq rfl⟩, trivial⟩)))))
      exact congrArg (fun z => AV.c (C.I .u64 z)) (wrap_u64 _ (by omega) (by omega))
    ·have h1 : ¬ ((gcdP p f (sepL H f w s)).length : Int) - 1 > 0 := of_decide_eq_false h1
     refine re rfl (tr_cond rfl (fun h2 => by cases h2) (fun h2 => tr_skip (at_block (at_then (rt rfl (hp := by simp only [Pr.an, Pr.h, num, i64r, true_and, and_true]; first | done | omega) (at_loop (s + 1) (next fun hn => by have := (hGs.1 hn).1; omega) (by show p - (s + 1) < p - s; omega) (wk ⟨sR rfl, sR rfl, sR rfl, ⟨_, rfl, AVle.of_eq ?_⟩, trivial⟩ ⟨⟨_, rfl, BLe.of_eq rfl⟩, ⟨_, rfl, BLe.of_eq rfl⟩, trivial⟩)))))))
     exact congrArg (fun z => AV.c (C.I .u64 z)) (wrap_u64 _ (by omega) (by omega))
   ·have h3 : (p : Int) > 2 := of_decide_eq_true h3
    have e1 : IntKind.wrap .u64 ((p : Int) - 1) = (p : Int) - 1 := wrap_u64 _ (by omega) (by omega)
    have e2 : IntKind.wrap .u64 ((IntKind.wrap .u64 ((p : Int) - 1)).tdiv 2) = (((p - 1) / 2 : Nat) : Int) := by
     rw [e1, show (p : Int) - 1 = ((p - 1 : Nat) : Int) by omega]
     exact half_nat (p - 1) (by omega)
    have hpow : FnS Tryz.prog 182 [aP t p, cU (IntKind.wrap .u64 ((IntKind.wrap .u64 ((p : Int) - 1)).tdiv 2)), cloP f p] (aP (modF H f (pk (fx t) ((p - 1) / 2))) p) := by
     rw [e2]
     exact power_s H f t _ (by omega) hf.c htc (by omega) (by omega) (by omega)
    obtain ⟨z1, z2, z3⟩ := modF_ok H hf.c hf.ne (pk (fx t) ((p - 1) / 2))
    have h1c : FnS Tryz.prog 125 [aP f p, cU 1] (aP [1] p) := by
     have := pconst_s f 1 p H.pos (by omega) (by omega) (by omega)
     rwa [trimW_single (by decide)] at this
    have hpl2 : FnS Tryz.prog 233 [aP (modF H f (pk (fx t) ((p - 1) / 2))) p, cU (IntKind.wrap .u64 ((p : Int) - 1)), aP [1] p] (aP (trimW (plusL (modF H f (pk (fx t) ((p - 1) / 2))) (p - 1) [1] p)) p) := by
     rw [e1]
     exact pplus_s _ _ [1] p (by omega) (by simp) H.pos (by omega) z1.1 (rp_single (by omega) (by omega)) ⟨by omega, by omega⟩ (.inr (by simp))
    refine rbt (rmf rfl rfl rfl (rc rfl rfl hpow (rc rfl rfl h1c (rc rfl rfl hpl2 (re rfl (at_mid mid (wk ⟨sR rfl, sR rfl, sR rfl, sR rfl, sR rfl, trivial⟩ ⟨⟨_, rfl, BLe.of_eq rfl⟩, ⟨_, rfl, BLe.of_eq rfl⟩, ⟨_, rfl, BLe.of_eq ?_⟩, trivial⟩)))))))
    rw [htE, if_pos (by omega)]
    rfl
   ·have h3 : ¬ (p : Int) > 2 := of_decide_eq_false h3
    rw [htE, if_neg (by omega)]
    rfl
end Go.El

/- Plain: vectors that a square matrix modulo p sends to 0. Own work; no condition. -/
namespace Go.El
def dotz (n : Nat) (a w : Nat → Int) : Int := sm (fun c => a c * w c) n
def Sol (p n : Nat) (G : Nat → Nat → Int) (w : Nat → Int) : Prop := ∀ r, r < n → dotz n (G r) w % (p : Int) = 0
theorem sm_mod {p : Int} {f g : Nat → Int} : ∀ {k : Nat}, (∀ i, i < k → f i % p = g i % p) → sm f k % p = sm g k % p
 | 0, _ => rfl
 | k + 1, h => by
  rw [sm, sm, Int.add_emod, sm_mod (fun i hi => h i (by omega)), h k (by omega), ← Int.add_emod]
theorem dotz_lin (n : Nat) (a b w : Nat → Int) (x : Int) : dotz n (fun c => a c + x * b c) w = dotz n a w + x * dotz n b w := by
 unfold dotz
 rw [← sm_mul, ← sm_add]
 exact sm_congr fun i _ => by rw [Int.add_mul, Int.mul_assoc]
theorem dotz_lin2 (n : Nat) (a w v : Nat → Int) (x : Int) : dotz n a (fun c => w c + x * v c) = dotz n a w + x * dotz n a v := by
 unfold dotz
 rw [← sm_mul, ← sm_add]
 exact sm_congr fun i _ => by rw [Int.mul_add, Int.mul_left_comm]
theorem dotz_smul (n : Nat) (a w : Nat → Int) (x : Int) : dotz n (fun c => a c * x) w = x * dotz n a w := by
 unfold dotz
 rw [← sm_mul]
 exact sm_congr fun i _ => by rw [Int.mul_assoc, Int.mul_left_comm]
theorem mul_emod_cong {p a b c d : Int} (h : a % p = b % p) (k : c % p = d % p) : a * c % p = b * d % p := by rw [Int.mul_emod, h, k, ← Int.mul_emod]
theorem dotz_mod {p : Int} {n : Nat} {a b w v : Nat → Int} (h : ∀ c, c < n → a c % p = b c % p) (k : ∀ c, c < n → w c % p = v c % p) : dotz n a w % p = dotz n b v % p := sm_mod fun i hi => mul_emod_cong (h i hi) (k i hi)
theorem sm_one {f : Nat → Int} {a : Nat} : ∀ {n : Nat}, a < n → (∀ i, i < n → i ≠ a → f i = 0) → sm f n = f a
 | 0, h, _ => by omega
 | n + 1, h, hz => by
  rw [sm]
  by_cases e : a = n
  ·subst e
   rw [sm_zero (fun i hi => hz i (by omega) (by omega))]; omega
  ·rw [sm_one (by omega) (fun i hi hne => hz i (by omega) hne), hz n (by omega) (by omega)]; omega
theorem sm_two {f : Nat → Int} {a b : Nat} : ∀ {n : Nat}, a < n → b < n → a ≠ b → (∀ i, i < n → i ≠ a → i ≠ b → f i = 0) → sm f n = f a + f b
 | 0, h, _, _, _ => by omega
 | n + 1, ha, hb, hab, hz => by
  rw [sm]
  by_cases e : a = n
  ·subst e
   rw [sm_one (show b < a by omega) (fun i hi hne => hz i (by omega) (by omega) hne)]; omega
  ·by_cases e2 : b = n
   ·subst e2
    rw [sm_one (show a < b by omega) (fun i hi hne => hz i (by omega) hne (by omega))]
   ·rw [sm_two (by omega) (by omega) hab (fun i hi h1 h2 => hz i (by omega) h1 h2), hz n (by omega) (by omega) (by omega)]; omega
structure KI (p n : Nat) (G0 G : Nat → Nat → Int) (j : Nat) (piv free : List Nat) : Prop where
 rng : ∀ r, r < n → ∀ c, 0 ≤ G r c ∧ G r c < p
 sol : ∀ w, Sol p n G w ↔ Sol p n G0 w
 pl : piv.length ≤ n
 unit : ∀ k, k < piv.length → ∀ r, r < n → G r (piv.getD k 0) = if r = k then 1 else 0
 zero : ∀ r, piv.length ≤ r → r < n → ∀ c, c < j → G r c = 0
 cover : ∀ c, c < j → (∃ k, k < piv.length ∧ piv.getD k 0 = c) ∨ ∃ q, q < free.length ∧ free.getD q 0 = c
 pb : ∀ k, k < piv.length → piv.getD k 0 < j
 fb : ∀ q, q < free.length → free.getD q 0 < j
 ne : ∀ k q, k < piv.length → q < free.length → piv.getD k 0 ≠ free.getD q 0
 fd : ∀ q q', q < free.length → q' < free.length → free.getD q 0 = free.getD q' 0 → q = q'
theorem getD_snoc (l : List Nat) (x : Nat) {k : Nat} (h : k < l.length) : (l ++ [x]).getD k 0 = l.getD k 0 := by
 rw [List.getD_eq_getElem?_getD, List.getElem?_append_left h, ← List.getD_eq_getElem?_getD]
theorem getD_last (l : List Nat) (x : Nat) : (l ++ [x]).getD l.length 0 = x := by simp
theorem KI.start {p n : Nat} {G0 : Nat → Nat → Int} (h : ∀ r, r < n → ∀ c, 0 ≤ G0 r c ∧ G0 r c < p) : KI p n G0 G0 0 [] [] where
 rng := h
 sol := fun _ => Iff.rfl
 pl := Nat.zero_le _
 unit := fun k hk => by simp at hk
 zero := fun _ _ _ c hc => by omega
 cover := fun c hc => by omega
 pb := fun k hk => by simp at hk
 fb := fun k hk => by simp at hk
 ne := fun k _ hk => by simp at hk
 fd := fun q _ hq => by simp at hq
theorem KI.none {p n : Nat} {G0 G : Nat → Nat → Int} {j : Nat} {piv free : List Nat} (h : KI p n G0 G j piv free) (hz : ∀ i, piv.length ≤ i → i < n → G i j = 0) : KI p n G0 G (j + 1) piv (free ++ [j]) where
 rng := h.rng
 sol := h.sol
 pl := h.pl
 unit := h.unit
 zero := fun r h1 h2 c hc => by
  by_cases e : c = j
  ·subst e; exact hz r h1 h2
  ·exact h.zero r h1 h2 c (by omega)
 cover := fun c hc => by
  by_cases e : c = j
  ·subst e; exact .inr ⟨free.length, by simp, getD_last _ _⟩
  ·rcases h.cover c (by omega) with h1 | ⟨q, h1, h2⟩
   ·exact .inl h1
   ·exact .inr ⟨q, by simp; omega, by rw [getD_snoc _ _ h1]; exact h2⟩
 pb := fun k hk => by have := h.pb k hk; omega
 fb := fun q hq => by
  simp only [List.length_append, List.length_cons, List.length_nil] at hq
  by_cases e : q = free.length
  ·subst e; rw [getD_last]; omega
  ·rw [getD_snoc _ _ (by omega)]
   have := h.fb q (by omega); omega
 ne := fun k q hk hq => by
  simp only [List.length_append, List.length_cons, List.length_nil] at hq
  by_cases e : q = free.length
  ·subst e; rw [getD_last]
   have := h.pb k hk; omega
  ·rw [getD_snoc _ _ (by omega)]
   exact h.ne k q hk (by omega)
 fd := fun q q' hq hq' e => by
  simp only [List.length_append, List.length_cons, List.length_nil] at hq hq'
  by_cases e1 : q = free.length <;> by_cases e2 : q' = free.length
  ·omega
  ·subst e1
   rw [getD_last, getD_snoc _ _ (by omega)] at e
   have := h.fb q' (by omega); omega
  ·subst e2
   rw [getD_last, getD_snoc _ _ (by omega)] at e
   have := h.fb q (by omega); omega
  ·rw [getD_snoc _ _ (by omega), getD_snoc _ _ (by omega)] at e
   exact h.fd q q' (by omega) (by omega) e
def swF (G : Nat → Nat → Int) (k i : Nat) : Nat → Nat → Int := fun r => if r = k then G i else if r = i then G k else G r
def scF (p : Nat) (G : Nat → Nat → Int) (k : Nat) (v : Int) : Nat → Nat → Int := fun r c => if r = k then G k c * v % (p : Int) else G r c
def elF (p : Nat) (G : Nat → Nat → Int) (k j : Nat) : Nat → Nat → Int := fun r c => if r ≠ k ∧ G r j ≠ 0 then (G r c + ((p : Int) - G r j) * G k c) % (p : Int) else G r c
theorem KI.some {p n : Nat} (H : P31 p) {G0 G : Nat → Nat → Int} {j : Nat} {piv free : List Nat} (h : KI p n G0 G j piv free) {i : Nat} {v : Int} (h1 : piv.length ≤ i) (h2 : i < n) (hv : G i j * v % (p : Int) = 1) :
  KI p n G0 (elF p (scF p (swF G piv.length i) piv.length v) piv.length j) (j + 1) (piv ++ [j]) free := by
 have hp := H.pos
 generalize hk : piv.length = k at *
 have hkn : k < n := by omega
 have hG1r : ∀ r, r < n → ∀ c, 0 ≤ swF G k i r c ∧ swF G k i r c < p := by
  intro r hr c
  unfold swF
  split
  ·exact h.rng i h2 c
  ·split
   ·exact h.rng k hkn c
   ·exact h.rng r hr c
 have hG1k : ∀ c, swF G k i k c = G i c := fun c => by unfold swF; rw [if_pos rfl]
 have hG1u : ∀ k', k' < k → ∀ r, r < n → swF G k i r (piv.getD k' 0) = if r = k' then 1 else 0 := by
  intro k' hk' r hr
  unfold swF
  by_cases e1 : r = k
  ·subst e1
   rw [if_pos rfl, h.unit k' (by omega) i h2, if_neg (by omega), if_neg (by omega)]
  ·rw [if_neg e1]
   by_cases e2 : r = i
   ·subst e2
    rw [if_pos rfl, h.unit k' (by omega) k hkn, if_neg (by omega), if_neg (by omega)]
   ·rw [if_neg e2, h.unit k' (by omega) r hr]
 have hG1z : ∀ r, k ≤ r → r < n → ∀ c, c < j → swF G k i r c = 0 := by
  intro r hr hrn c hc
  unfold swF
  split
  ·exact h.zero i (by omega) h2 c hc
  ·split
   ·exact h.zero k (by omega) hkn c hc
   ·exact h.zero r (by omega) hrn c hc
 have hG1s : ∀ w, Sol p n (swF G k i) w ↔ Sol p n G w := by
  intro w
  constructor
  ·intro hs r hr
   by_cases e1 : r = k
   ·subst e1
    have := hs i h2
    unfold swF at this
    by_cases e2 : i = r
    ·subst e2; simpa using this
    ·simpa [e2] using this
   ·by_cases e2 : r = i
    ·subst e2
     have := hs k hkn
     unfold swF at this
     simpa using this
    ·have := hs r hr
     unfold swF at this
     simpa [e1, e2] using this
  ·intro hs r hr
   unfold swF
   split
   ·exact hs i h2
   ·split
    ·exact hs k hkn
    ·exact hs r hr
 generalize swF G k i = G1 at *
 have hv1 : G1 k j * v % (p : Int) = 1 := by rw [hG1k]; exact hv
 have hG2k : ∀ c, scF p G1 k v k c = G1 k c * v % p := fun c => by unfold scF; rw [if_pos rfl]
 have hG2o : ∀ r c, r ≠ k → scF p G1 k v r c = G1 r c := fun r c hr => by unfold scF; rw [if_neg hr]
 have hG2r : ∀ r, r < n → ∀ c, 0 ≤ scF p G1 k v r c ∧ scF p G1 k v r c < p := by
  intro r hr c
  unfold scF
  split
  ·exact ⟨Int.emod_nonneg _ (by omega), Int.emod_lt_of_pos _ hp⟩
  ·exact hG1r r hr c
 have hG2s : ∀ w, Sol p n (scF p G1 k v) w ↔ Sol p n G1 w := by
  intro w
  have key : dotz n (scF p G1 k v k) w % (p : Int) = v * dotz n (G1 k) w % p := by
   rw [← dotz_smul]
   exact dotz_mod (fun c _ => by rw [hG2k, Int.emod_emod]) (fun _ _ => rfl)
  constructor
  ·intro hs r hr
   by_cases e : r = k
   ·subst e
    have h3 := hs r hr
    rw [key] at h3
    have h4 : G1 r j * (v * dotz n (G1 r) w) % (p : Int) = 0 := by rw [Int.mul_emod, h3, Int.mul_zero, Int.zero_emod]
    rw [← Int.mul_assoc, Int.mul_emod, hv1, Int.one_mul, Int.emod_emod] at h4
    exact h4
   ·have := hs r hr
    have e2 : scF p G1 k v r = G1 r := funext fun c => hG2o r c e
    rwa [e2] at this
  ·intro hs r hr
   by_cases e : r = k
   ·subst e
    rw [key, Int.mul_emod, hs r hr, Int.mul_zero, Int.zero_emod]
   ·have e2 : scF p G1 k v r = G1 r := funext fun c => hG2o r c e
    rw [e2]; exact hs r hr
 have hG2u : ∀ k', k' < k → ∀ r, r < n → scF p G1 k v r (piv.getD k' 0) = if r = k' then 1 else 0 := by
  intro k' hk' r hr
  by_cases e : r = k
  ·subst e
   rw [hG2k, hG1u k' hk' r hr, if_neg (by omega), Int.zero_mul, Int.zero_emod]
  ·rw [hG2o r _ e, hG1u k' hk' r hr]
 have hG2z : ∀ r, k ≤ r → r < n → ∀ c, c < j → scF p G1 k v r c = 0 := by
  intro r hr hrn c hc
  by_cases e : r = k
  ·subst e; rw [hG2k, hG1z r hr hrn c hc, Int.zero_mul, Int.zero_emod]
  ·rw [hG2o r _ e, hG1z r hr hrn c hc]
 have hG2j : scF p G1 k v k j = 1 := by rw [hG2k]; exact hv1
 generalize scF p G1 k v = G2 at *
 have hk3 : ∀ c, elF p G2 k j k c = G2 k c := fun c => by unfold elF; rw [if_neg (fun h => h.1 rfl)]
 have hlow : ∀ r, r < n → ∀ c, G2 k c = 0 → elF p G2 k j r c = G2 r c := by
  intro r hr c hc
  unfold elF
  split
  ·rw [hc, Int.mul_zero, Int.add_zero, Int.emod_eq_of_lt (hG2r r hr c).1 (hG2r r hr c).2]
  ·rfl
 have hcol : ∀ r, r < n → elF p G2 k j r j = if r = k then 1 else 0 := by
  intro r hr
  by_cases e : r = k
  ·subst e; rw [hk3, if_pos rfl, hG2j]
  ·rw [if_neg e]
   unfold elF
   split
   ·rw [hG2j, Int.mul_one, show G2 r j + ((p : Int) - G2 r j) = p by omega, Int.emod_self]
   ·rename_i hn
    exact Classical.byContradiction fun h3 => hn ⟨e, h3⟩
 refine ⟨?_, ?_, by simp; omega, ?_, ?_, ?_, ?_, ?_, ?_, h.fd⟩
 ·intro r hr c
  unfold elF
  split
  ·exact ⟨Int.emod_nonneg _ (by omega), Int.emod_lt_of_pos _ hp⟩
  ·exact hG2r r hr c
 ·intro w
  rw [← h.sol, ← hG1s, ← hG2s]
  have key : ∀ r, r < n → r ≠ k → dotz n (G2 k) w % (p : Int) = 0 → (dotz n (elF p G2 k j r) w % (p : Int) = 0 ↔ dotz n (G2 r) w % (p : Int) = 0) := by
   intro r hr hrk hk0
   by_cases e : G2 r j = 0
   ·have : elF p G2 k j r = G2 r := funext fun c => by unfold elF; rw [if_neg (fun h => h.2 e)]
    rw [this]
   ·have : dotz n (elF p G2 k j r) w % (p : Int) = dotz n (G2 r) w % (p : Int) := by
     rw [dotz_mod (b := fun c => G2 r c + ((p : Int) - G2 r j) * G2 k c) (v := w) (fun c _ => by unfold elF; rw [if_pos ⟨hrk, e⟩, Int.emod_emod]) (fun _ _ => rfl), dotz_lin, Int.add_emod, Int.mul_emod _ (dotz n (G2 k) w), hk0, Int.mul_zero, Int.zero_emod, Int.add_zero, Int.emod_emod]
    rw [this]
  have hkk : elF p G2 k j k = G2 k := funext hk3
  constructor
  ·intro hs r hr
   have hk0 := hs k hkn
   rw [hkk] at hk0
   by_cases e : r = k
   ·subst e; exact hk0
   ·exact (key r hr e hk0).1 (hs r hr)
  ·intro hs r hr
   have hk0 := hs k hkn
   by_cases e : r = k
   ·subst e; rw [hkk]; exact hk0
   ·exact (key r hr e hk0).2 (hs r hr)
 ·intro k' hk' r hr
  simp only [List.length_append, List.length_cons, List.length_nil] at hk'
  by_cases e : k' = piv.length
  ·subst e
   rw [getD_last, hk]; exact hcol r hr
  ·rw [getD_snoc _ _ (by omega), hlow r hr _ (by rw [hG2u k' (by omega) k hkn, if_neg (by omega)]), hG2u k' (by omega) r hr]
 ·intro r h3 h4 c hc
  simp only [List.length_append, List.length_cons, List.length_nil] at h3
  by_cases e : c = j
  ·subst e; rw [hcol r h4, if_neg (by omega)]
  ·rw [hlow r h4 c (hG2z k (Nat.le_refl _) hkn c (by omega)), hG2z r (by omega) h4 c (by omega)]
 ·intro c hc
  by_cases e : c = j
  ·subst e; exact .inl ⟨piv.length, by simp, getD_last _ _⟩
  ·rcases h.cover c (by omega) with ⟨k', h3, h4⟩ | h3
   ·exact .inl ⟨k', by simp; omega, by rw [getD_snoc _ _ h3]; exact h4⟩
   ·exact .inr h3
 ·intro k' hk'
  simp only [List.length_append, List.length_cons, List.length_nil] at hk'
  by_cases e : k' = piv.length
  ·subst e; rw [getD_last]; omega
  ·rw [getD_snoc _ _ (by omega)]
   have := h.pb k' (by omega); omega
 ·intro q hq
  have := h.fb q hq; omega
 ·intro k' q hk' hq
  simp only [List.length_append, List.length_cons, List.length_nil] at hk'
  by_cases e : k' = piv.length
  ·subst e; rw [getD_last]
   have := h.fb q hq; omega
  ·rw [getD_snoc _ _ (by omega)]
   exact h.ne k' q (by omega) hq
theorem KI.basis {p n : Nat} (H : P31 p) {G0 G : Nat → Nat → Int} {piv free : List Nat} (h : KI p n G0 G n piv free) {V : Nat → Nat → Int} (v1 : ∀ q, q < free.length → V q (free.getD q 0) = 1) (v2 : ∀ q, q < free.length → ∀ k, k < piv.length → V q (piv.getD k 0) = ((p : Int) - G k (free.getD q 0)) % p) (v3 : ∀ q q', q < free.length → q' < free.length → q ≠ q' → V q (free.getD q' 0) = 0) :
  (∀ q, q < free.length → Sol p n G0 (V q)) ∧ ∀ w, Sol p n G0 w → ∀ c, c < n → w c % (p : Int) = sm (fun q => w (free.getD q 0) * V q c) free.length % p := by
 have hp := H.pos
 have hpl := h.pl
 -- the sum of a row k below the number of pivots, for a vector that is 0 at all free places but one at most
 have row : ∀ k, k < piv.length → ∀ d : Nat → Int, (∀ q, q < free.length → d (free.getD q 0) % (p : Int) = 0) → dotz n (G k) d % (p : Int) = d (piv.getD k 0) % p := by
  intro k hk d hd
  let d' : Nat → Int := fun c => if c = piv.getD k 0 then d c else 0
  have e1 : dotz n (G k) d % (p : Int) = dotz n (G k) d' % p := sm_mod fun c hc => by
   show G k c * d c % (p : Int) = G k c * d' c % p
   by_cases e : c = piv.getD k 0
   ·simp only [d', if_pos e]
   ·simp only [d', if_neg e, Int.mul_zero, Int.zero_emod]
    rcases h.cover c hc with ⟨k', h1, h2⟩ | ⟨q, h1, h2⟩
    ·have hne : k ≠ k' := fun e2 => e (by rw [e2]; exact h2.symm)
     rw [← h2, h.unit k' h1 k (by omega), if_neg hne, Int.zero_mul, Int.zero_emod]
    ·rw [← h2, Int.mul_emod, hd q h1, Int.mul_zero, Int.zero_emod]
  rw [e1]
  unfold dotz
  rw [sm_one (a := piv.getD k 0) (h.pb k hk) (fun i _ hne => by simp only [d', if_neg hne, Int.mul_zero]), h.unit k hk k (by omega), if_pos rfl, Int.one_mul]
  simp only [d', if_pos rfl]
 have b1 : ∀ q, q < free.length → Sol p n G (V q) := by
  intro q hq r hr
  by_cases e : r < piv.length
  ·-- V q = (V q without its free place) + (1 at the free place)
   have hne := h.ne r q e hq
   have e1 : dotz n (G r) (V q) % (p : Int) = sm (fun c => if c = free.getD q 0 then G r c else if c = piv.getD r 0 then V q c else 0) n % p := sm_mod fun c hc => by
    by_cases e2 : c = free.getD q 0
    ·simp only [if_pos e2]; rw [e2, v1 q hq, Int.mul_one]
    ·simp only [if_neg e2]
     by_cases e3 : c = piv.getD r 0
     ·simp only [if_pos e3]; rw [e3, h.unit r e r hr, if_pos rfl, Int.one_mul]
     ·simp only [if_neg e3, Int.zero_emod]
      rcases h.cover c hc with ⟨k', h1, h2⟩ | ⟨q', h1, h2⟩
      ·have hne2 : r ≠ k' := fun e4 => e3 (by rw [e4]; exact h2.symm)
       rw [← h2, h.unit k' h1 r hr, if_neg hne2, Int.zero_mul, Int.zero_emod]
      ·have hne2 : q ≠ q' := fun e4 => e2 (by rw [e4]; exact h2.symm)
       rw [← h2, v3 q q' hq h1 hne2, Int.mul_zero, Int.zero_emod]
   rw [e1, sm_two (a := free.getD q 0) (b := piv.getD r 0) (h.fb q hq) (h.pb r e) (fun e => hne e.symm) (fun i _ h1 h2 => by rw [if_neg h1, if_neg h2])]
   rw [if_pos rfl, if_neg hne, if_pos rfl, v2 q hq r e, Int.add_emod, Int.emod_emod, ← Int.add_emod, show G r (free.getD q 0) + ((p : Int) - G r (free.getD q 0)) = p by omega, Int.emod_self]
  ·unfold dotz
   rw [sm_zero (fun c hc => by rw [h.zero r (by omega) hr c hc, Int.zero_mul]), Int.zero_emod]
 refine ⟨fun q hq => (h.sol _).1 (b1 q hq), fun w hw => ?_⟩
 have hw := (h.sol w).2 hw
 -- partial combinations are sent to 0
 have comb : ∀ t, t ≤ free.length → Sol p n G (fun c => sm (fun q => w (free.getD q 0) * V q c) t) := by
  intro t
  induction t with
  | zero =>
   intro _ r hr
   unfold dotz
   rw [sm_zero (fun c hc => by show G r c * (0 : Int) = 0; exact Int.mul_zero _), Int.zero_emod]
  | succ t ih =>
   intro ht r hr
   have e : dotz n (G r) (fun c => sm (fun q => w (free.getD q 0) * V q c) (t + 1)) = dotz n (G r) (fun c => sm (fun q => w (free.getD q 0) * V q c) t) + w (free.getD t 0) * dotz n (G r) (V t) := by
    rw [← dotz_lin2]; rfl
   rw [e, Int.add_emod, ih (by omega) r hr, Int.mul_emod, b1 t (by omega) r hr, Int.mul_zero, Int.zero_emod]; rfl
 let d : Nat → Int := fun c => w c + (-1) * sm (fun q => w (free.getD q 0) * V q c) free.length
 have hd : Sol p n G d := by
  intro r hr
  rw [dotz_lin2, Int.add_emod, hw r hr, Int.mul_emod, comb free.length (Nat.le_refl _) r hr, Int.mul_zero, Int.zero_emod]; rfl
 have hfree : ∀ q, q < free.length → d (free.getD q 0) % (p : Int) = 0 := by
  intro q hq
  show (w (free.getD q 0) + (-1) * sm (fun q' => w (free.getD q' 0) * V q' (free.getD q 0)) free.length) % (p : Int) = 0
  rw [sm_one (a := q) hq (fun i hi hne => by rw [v3 i q hi hq hne, Int.mul_zero]), v1 q hq, Int.mul_one, show w (free.getD q 0) + (-1) * w (free.getD q 0) = 0 by omega, Int.zero_emod]
 intro c hc
 have hdc : d c % (p : Int) = 0 := by
  rcases h.cover c hc with ⟨k, h1, h2⟩ | ⟨q, h1, h2⟩
  ·rw [← h2, ← row k h1 d hfree]
   exact hd k (by omega)
  ·rw [← h2]; exact hfree q h1
 refine Int.emod_eq_emod_iff_emod_sub_eq_zero.2 ?_
 have e : w c - sm (fun q => w (free.getD q 0) * V q c) free.length = d c := by show _ = w c + (-1) * _; omega
 rw [e]; exact hdc
end Go.El

/- Contracts: the first row with a number other than 0 in a column. Own work; no condition. -/
namespace Go.El
open Go Go.Proofs
theorem kclo_s (row : List Int) (j : Nat) (h : j < row.length) : FnS Tryz.prog 239 ([] ++ ([cS U64 row] ++ [.c (.E I64 (j : Int) 0)])) (cB (!(row.getD j 0 == 0))) := by
 refine fs_intro Tryz.func239 rfl rfl rfl rfl rfl (by decide) ?_
 refine rr rfl (rr rfl (hp := by simp only [Pr.an, Pr.h, num, i64r, true_and, and_true]; first | done | omega) (tr_ret (at_ret TT_ok rfl (AVle.of_eq ?_))))
 rw [Int.toNat_natCast]; rfl
abbrev cloJ (j : Nat) : AV := .c (.M (cloM 239 [] [(false, [.E I64 (j : Int) 0])]))
set_option maxHeartbeats 4000000 in
theorem kidx_s (L : List (List Int)) (j : Nat) (res : Int) (lL : L.length ≤ 1000) (hl : ∀ i, i < L.length → j < (L.getD i []).length) (h : (∃ q : Nat, q < L.length ∧ res = q ∧ (L.getD q []).getD j 0 ≠ 0 ∧ ∀ i, i < q → (L.getD i []).getD j 0 = 0) ∨ (res = -1 ∧ ∀ i, i < L.length → (L.getD i []).getD j 0 = 0)) :
  FnS Tryz.prog 238 [cS (.sl U64) L, cloJ j] (cI res) := by
 refine fs_intro Tryz.func238 rfl rfl rfl rfl rfl (by decide) ?_
 refine rr rfl (tr_seq (rr rfl (tr_block (tr_loop (α := Nat) (fun i => ⟨[(0, cS (.sl U64) L), (1, cloJ j), (7, cI L.length), (8, cI i)], [], 2, []⟩) (fun i => i ≤ L.length ∧ ∀ k, k < i → (L.getD k []).getD j 0 = 0) (fun i => L.length - i) 0 ⟨Nat.zero_le _, fun k hk => by omega⟩ (wk ⟨sR rfl, sR rfl, sR rfl, sR rfl, trivial⟩ trivial) ?_))))
 rintro i ⟨hi, hz⟩
 refine rr rfl (tr_seq (tr_cond rfl (fun h1 => ?_) (fun h1 => ?_)))
 ·have h1 : i < L.length := by
   have h1 : (i : Int) < (L.length : Int) := of_decide_eq_true h1
   omega
  have hc : FnS Tryz.prog 239 ([] ++ ([cS U64 (L.getD ((i : Int)).toNat [])] ++ [.c (.E I64 (j : Int) 0)])) (cB (!((L.getD i []).getD j 0 == 0))) := by
   rw [Int.toNat_natCast]
   exact kclo_s _ j (hl i h1)
  refine tr_skip (at_then (tr_seq (tr_block (rr rfl (rb (rcs rfl rfl (.inr ⟨_, _, rfl, rfl, rfl⟩) rfl hc (re rfl (tr_cond rfl (fun h2 => ?_) (fun h2 => ?_)))))))))
  ·have h2 : (L.getD i []).getD j 0 ≠ 0 := by simpa using h2
   refine rr rfl (tr_ret (at_block_ret (at_then_ret (at_loop_ret (at_block_ret (at_then_ret (at_ret TT_ok rfl (AVle.of_eq ?_))))))))
   rcases h with ⟨q, q1, q2, q3, q4⟩ | ⟨_, q4⟩
   ·have : i = q := by
     rcases Nat.lt_trichotomy i q with e | e | e
     ·exact absurd (q4 i e) h2
     ·exact e
     ·exact absurd (hz q e) q3
    rw [q2, this]
   ·exact absurd (q4 i h1) h2
  ·have h2 : (L.getD i []).getD j 0 = 0 := by simpa using h2
   refine tr_skip (at_block (at_then (rt rfl (hp := by simp only [Pr.an, Pr.h, num, i64r, true_and, and_true]; first | done | omega) (at_loop (i + 1) ⟨h1, fun k hk => ?_⟩ (by show L.length - (i + 1) < L.length - i; omega) (wk ⟨sR rfl, sR rfl, sR rfl, sR rfl, trivial⟩ trivial)))))
   by_cases e : k = i
   ·rw [e]; exact h2
   ·exact hz k (by omega)
 ·have h1 : i = L.length := by
   have h1 : ¬ (i : Int) < (L.length : Int) := of_decide_eq_false h1
   omega
  subst h1
  refine tr_exit (at_then_exit (at_loop_exit (at_block_exit (at_then (rr rfl (tr_ret (at_ret TT_ok rfl (AVle.of_eq ?_))))))))
  rcases h with ⟨q, q1, q2, q3, q4⟩ | ⟨q, _⟩
  ·exact absurd (hz q q1) q3
  ·rw [q]; rfl
end Go.El

/- Plain: what the elimination modulo p computes, as lists. Own work; no condition. -/
namespace Go.El
open Go Go.Proofs
def mG (F : Nat → List Int) : Nat → Nat → Int := fun r c => (F r).getD c 0
def swL (F : Nat → List Int) (k i : Nat) : Nat → List Int := fun r => if r = k then F i else if r = i then F k else F r
def upL (F : Nat → List Int) (k : Nat) (x : List Int) : Nat → List Int := fun r => if r = k then x else F r
def scL (p : Nat) (v : Int) (row : List Int) (t : Nat) : List Int := (List.range row.length).map fun c => if c < t then row.getD c 0 * v % (p : Int) else row.getD c 0
def elL (p : Nat) (s : Int) (row rk : List Int) (t : Nat) : List Int := (List.range row.length).map fun c => if c < t then (row.getD c 0 + ((p : Int) - s) * rk.getD c 0) % (p : Int) else row.getD c 0
def elA (p : Nat) (F : Nat → List Int) (k j t : Nat) : Nat → List Int := fun r => if r < t ∧ r ≠ k ∧ (F r).getD j 0 ≠ 0 then elL p ((F r).getD j 0) (F r) (F k) (F r).length else F r
theorem scL_len (p : Nat) (v : Int) (row : List Int) (t : Nat) : (scL p v row t).length = row.length := by simp [scL]
theorem elL_len (p : Nat) (s : Int) (row rk : List Int) (t : Nat) : (elL p s row rk t).length = row.length := by simp [elL]
theorem getDr (f : Nat → Int) {i r : Nat} (h : i < r) : ((List.range r).map f).getD i 0 = f i := by
 rw [List.getD_eq_getElem?_getD, List.getElem?_map, List.getElem?_range h]; rfl
theorem scL_get (p : Nat) (v : Int) (row : List Int) (t : Nat) {c : Nat} (h : c < row.length) : (scL p v row t).getD c 0 = if c < t then row.getD c 0 * v % (p : Int) else row.getD c 0 := getDr _ h
theorem elL_get (p : Nat) (s : Int) (row rk : List Int) (t : Nat) {c : Nat} (h : c < row.length) : (elL p s row rk t).getD c 0 = if c < t then (row.getD c 0 + ((p : Int) - s) * rk.getD c 0) % (p : Int) else row.getD c 0 := getDr _ h
theorem extD {a b : List Int} (hl : a.length = b.length) (h : ∀ j, j < a.length → a.getD j 0 = b.getD j 0) : a = b := by
 refine List.ext_getElem hl (fun j h1 h2 => ?_)
 have := h j h1
 rw [List.getD_eq_getElem?_getD, List.getD_eq_getElem?_getD, List.getElem?_eq_getElem h1, List.getElem?_eq_getElem h2] at this
 exact this
theorem scL_zero (p : Nat) (v : Int) (row : List Int) : scL p v row 0 = row := extD (scL_len p v row 0) fun c hc => by
 rw [scL_len] at hc
 rw [scL_get p v row 0 hc, if_neg (by omega)]
theorem scL_succ (p : Nat) (v : Int) (row : List Int) (t : Nat) (ht : t < row.length) : (scL p v row t).set t (row.getD t 0 * v % (p : Int)) = scL p v row (t + 1) := extD (by rw [List.length_set, scL_len, scL_len]) fun c hc => by
 rw [List.length_set, scL_len] at hc
 rw [getD_set_eq _ _ _ _ (by rw [scL_len]; exact ht), scL_get p v row t hc, scL_get p v row (t + 1) hc]
 by_cases e : t = c
 ·subst e; rw [if_pos (by simp), if_pos (by omega)]
 ·by_cases e2 : c < t
  ·rw [if_neg (by omega), if_pos e2, if_pos (by omega)]
  ·rw [if_neg (by omega), if_neg e2, if_neg (by omega)]
theorem elL_zero (p : Nat) (s : Int) (row rk : List Int) : elL p s row rk 0 = row := extD (elL_len p s row rk 0) fun c hc => by
 rw [elL_len] at hc
 rw [elL_get p s row rk 0 hc, if_neg (by omega)]
theorem elL_succ (p : Nat) (s : Int) (row rk : List Int) (t : Nat) (ht : t < row.length) : (elL p s row rk t).set t ((row.getD t 0 + ((p : Int) - s) * rk.getD t 0) % (p : Int)) = elL p s row rk (t + 1) := extD (by rw [List.length_set, elL_len, elL_len]) fun c hc => by
 rw [List.length_set, elL_len] at hc
 rw [getD_set_eq _ _ _ _ (by rw [elL_len]; exact ht), elL_get p s row rk t hc, elL_get p s row rk (t + 1) hc]
 by_cases e : t = c
 ·subst e; rw [if_pos (by simp), if_pos (by omega)]
 ·by_cases e2 : c < t
  ·rw [if_neg (by omega), if_pos e2, if_pos (by omega)]
  ·rw [if_neg (by omega), if_neg e2, if_neg (by omega)]
theorem scL_rp {p : Nat} (hp : 0 < p) (v : Int) {row : List Int} (h : rp p row) (t : Nat) : rp p (scL p v row t) := fun c => by
 by_cases hc : c < row.length
 ·rw [scL_get p v row t hc]
  split
  ·exact ⟨Int.emod_nonneg _ (by omega), Int.emod_lt_of_pos _ (by omega)⟩
  ·exact h c
 ·rw [getD_ge _ (by rw [scL_len]; omega)]
  exact ⟨Int.le_refl _, by omega⟩
theorem elL_rp {p : Nat} (hp : 0 < p) (s : Int) {row : List Int} (rk : List Int) (h : rp p row) (t : Nat) : rp p (elL p s row rk t) := fun c => by
 by_cases hc : c < row.length
 ·rw [elL_get p s row rk t hc]
  split
  ·exact ⟨Int.emod_nonneg _ (by omega), Int.emod_lt_of_pos _ (by omega)⟩
  ·exact h c
 ·rw [getD_ge _ (by rw [elL_len]; omega)]
  exact ⟨Int.le_refl _, by omega⟩
def Rws (p n : Nat) (F : Nat → List Int) : Prop := ∀ r, r < n → (F r).length = n ∧ rp p (F r)
theorem Rws.sw {p n : Nat} {F : Nat → List Int} (h : Rws p n F) {k i : Nat} (hk : k < n) (hi : i < n) : Rws p n (swL F k i) := fun r hr => by
 unfold swL
 split
 ·exact h i hi
 ·split
  ·exact h k hk
  ·exact h r hr
theorem Rws.up {p n : Nat} {F : Nat → List Int} (h : Rws p n F) {k : Nat} {x : List Int} (hx : x.length = n ∧ rp p x) : Rws p n (upL F k x) := fun r hr => by
 unfold upL
 split
 ·exact hx
 ·exact h r hr
theorem Rws.el {p n : Nat} (hp : 0 < p) {F : Nat → List Int} (h : Rws p n F) (k j t : Nat) : Rws p n (elA p F k j t) := fun r hr => by
 unfold elA
 split
 ·exact ⟨by rw [elL_len]; exact (h r hr).1, elL_rp hp _ _ (h r hr).2 _⟩
 ·exact h r hr
theorem KI.congr {p n : Nat} {G0 G G' : Nat → Nat → Int} {j : Nat} {piv free : List Nat} (h : KI p n G0 G j piv free) (e : ∀ r, r < n → ∀ c, G r c = G' r c) (hpb : ∀ k, k < piv.length → k < n) : KI p n G0 G' j piv free where
 rng := fun r hr c => by rw [← e r hr c]; exact h.rng r hr c
 sol := fun w => by
  rw [← h.sol w]
  constructor
  ·intro hs r hr
   have := hs r hr
   rwa [show G' r = G r from funext fun c => (e r hr c).symm] at this
  ·intro hs r hr
   rw [show G' r = G r from funext fun c => (e r hr c).symm]
   exact hs r hr
 pl := h.pl
 unit := fun k hk r hr => by rw [← e r hr]; exact h.unit k hk r hr
 zero := fun r h1 h2 c hc => by rw [← e r h2]; exact h.zero r h1 h2 c hc
 cover := h.cover
 pb := h.pb
 fb := h.fb
 ne := h.ne
 fd := h.fd
def FstP (F : Nat → List Int) (n j k i : Nat) : Prop := k ≤ i ∧ i < n ∧ (F i).getD j 0 ≠ 0 ∧ ∀ q, k ≤ q → q < i → (F q).getD j 0 = 0
theorem fst_ex (F : Nat → List Int) (n j k : Nat) : (∃ i, FstP F n j k i) ∨ ∀ i, k ≤ i → i < n → (F i).getD j 0 = 0 := by
 by_cases h : ∃ i, k ≤ i ∧ i < n ∧ (F i).getD j 0 ≠ 0
 ·left
  obtain ⟨i, h1, h2, h3⟩ := h
  obtain ⟨m, m1, ⟨m2, m3⟩, m4⟩ := least (P := fun i => k ≤ i ∧ (F i).getD j 0 ≠ 0) i ⟨h1, h3⟩
  exact ⟨m, m2, by omega, m3, fun q q1 q2 => Classical.byContradiction fun hn => m4 q q2 ⟨q1, hn⟩⟩
 ·right
  exact fun i h1 h2 => Classical.byContradiction fun hn => h ⟨i, h1, h2, hn⟩
def kel (p : Nat) (F : Nat → List Int) (n j k i : Nat) : Nat → List Int :=
 elA p (upL (swL F k i) k (scL p (invM ((F i).getD j 0).toNat p : Nat) (F i) n)) k j n
open Classical in
noncomputable def kstep (p n j : Nat) (S : (Nat → List Int) × List Nat × List Nat) : (Nat → List Int) × List Nat × List Nat :=
 if h : ∃ i, FstP S.1 n j S.2.1.length i then (kel p S.1 n j S.2.1.length (Classical.choose h), S.2.1 ++ [j], S.2.2) else (S.1, S.2.1, S.2.2 ++ [j])
noncomputable def kst (p n : Nat) (F : Nat → List Int) : Nat → (Nat → List Int) × List Nat × List Nat
 | 0 => (F, [], [])
 | j + 1 => kstep p n j (kst p n F j)
theorem FstP.uniq {F : Nat → List Int} {n j k i i' : Nat} (h : FstP F n j k i) (h' : FstP F n j k i') : i = i' := by
 rcases Nat.lt_trichotomy i i' with e | e | e
 ·exact absurd (h'.2.2.2 i h.1 e) h.2.2.1
 ·exact e
 ·exact absurd (h.2.2.2 i' h'.1 e) h'.2.2.1
theorem kstep_some {p n j : Nat} {S : (Nat → List Int) × List Nat × List Nat} {i : Nat} (h : FstP S.1 n j S.2.1.length i) : kstep p n j S = (kel p S.1 n j S.2.1.length i, S.2.1 ++ [j], S.2.2) := by
 have hx : ∃ i, FstP S.1 n j S.2.1.length i := ⟨i, h⟩
 unfold kstep
 rw [dif_pos hx, (Classical.choose_spec hx).uniq h]
theorem kstep_none {p n j : Nat} {S : (Nat → List Int) × List Nat × List Nat} (h : ∀ i, S.2.1.length ≤ i → i < n → (S.1 i).getD j 0 = 0) : kstep p n j S = (S.1, S.2.1, S.2.2 ++ [j]) := by
 unfold kstep
 rw [dif_neg]
 rintro ⟨i, h1, h2, h3, _⟩
 exact h3 (h i h1 h2)
theorem kel_mG {p n : Nat} (H : P31 p) {F : Nat → List Int} (h : Rws p n F) {k i j : Nat} (hk : k < n) (hi : i < n) : ∀ r, r < n → ∀ c, elF p (scF p (swF (mG F) k i) k (invM ((F i).getD j 0).toNat p : Nat)) k j r c = mG (kel p F n j k i) r c := by
 unfold kel
 generalize ((invM ((F i).getD j 0).toNat p : Nat) : Int) = v
 intro r hr c
 have e1 : ∀ r c, swF (mG F) k i r c = mG (swL F k i) r c := fun r c => by
  unfold swF mG swL
  split
  ·rfl
  ·split <;> rfl
 have hs := h.sw hk hi
 have e2 : ∀ r, r < n → ∀ c, scF p (swF (mG F) k i) k v r c = mG (upL (swL F k i) k (scL p v (F i) n)) r c := by
  intro r hr c
  unfold scF
  by_cases e : r = k
  ·rw [if_pos e, e1]
   unfold mG upL
   rw [if_pos e]
   have e3 : swL F k i k = F i := by unfold swL; rw [if_pos rfl]
   rw [e3]
   by_cases hc : c < n
   ·rw [scL_get p v (F i) n (by rw [(h i hi).1]; exact hc), if_pos hc]
   ·rw [getD_ge (F i) (by rw [(h i hi).1]; omega), getD_ge _ (by rw [scL_len, (h i hi).1]; omega), Int.zero_mul, Int.zero_emod]
  ·rw [if_neg e, e1]
   unfold mG upL
   rw [if_neg e]
 have hu : Rws p n (upL (swL F k i) k (scL p v (F i) n)) := hs.up ⟨by rw [scL_len]; exact (h i hi).1, scL_rp (by have := H.hp.1; omega) v (h i hi).2 n⟩
 rw [show elF p (scF p (swF (mG F) k i) k v) k j r c = if r ≠ k ∧ scF p (swF (mG F) k i) k v r j ≠ 0 then (scF p (swF (mG F) k i) k v r c + ((p : Int) - scF p (swF (mG F) k i) k v r j) * scF p (swF (mG F) k i) k v k c) % (p : Int) else scF p (swF (mG F) k i) k v r c from rfl]
 rw [e2 r hr, e2 r hr, e2 k hk]
 generalize upL (swL F k i) k (scL p v (F i) n) = B at *
 unfold mG elA
 by_cases hcase : r ≠ k ∧ (B r).getD j 0 ≠ 0
 ·rw [if_pos hcase, if_pos ⟨hr, hcase⟩]
  by_cases hc : c < n
  ·rw [elL_get p _ _ _ _ (by rw [(hu r hr).1]; exact hc), if_pos (by rw [(hu r hr).1]; exact hc)]
  ·rw [getD_ge (B r) (i := c) (by rw [(hu r hr).1]; omega), getD_ge (B k) (i := c) (by rw [(hu k hk).1]; omega), getD_ge (elL _ _ _ _ _) (i := c) (by rw [elL_len, (hu r hr).1]; omega), Int.mul_zero]; simp
 ·rw [if_neg hcase, if_neg (fun hx => hcase hx.2)]
theorem kst_ok {p n : Nat} (H : P31 p) {F : Nat → List Int} (h : Rws p n F) : ∀ j, j ≤ n → Rws p n (kst p n F j).1 ∧ KI p n (mG F) (mG (kst p n F j).1) j (kst p n F j).2.1 (kst p n F j).2.2 ∧ (kst p n F j).2.1.length ≤ j ∧ (kst p n F j).2.2.length ≤ j
 | 0, _ => ⟨h, KI.start fun r hr c => (h r hr).2 c, Nat.le_refl _, Nat.le_refl _⟩
 | j + 1, hj => by
  obtain ⟨i1, i2, i3, i4⟩ := kst_ok H h j (by omega)
  have hp : 0 < p := by have := H.hp.1; omega
  rw [kst]
  rcases fst_ex (kst p n F j).1 n j (kst p n F j).2.1.length with ⟨i, hi⟩ | hz
  ·rw [kstep_some hi]
   obtain ⟨a1, a2, a3, _⟩ := hi
   have hrp := (i1 i a2).2 j
   have hkn : (kst p n F j).2.1.length < n := by omega
   have hinv := lead_inv H.hp H.le hrp.1 hrp.2 a3
   rw [Int.toNat_natCast] at hinv
   have hk := i2.some H a1 a2 (v := ((invM (((kst p n F j).1 i).getD j 0).toNat p : Nat) : Int)) hinv
   refine ⟨?_, hk.congr (kel_mG H i1 hkn a2) (fun k hk => ?_), ?_, ?_⟩
   ·exact ((i1.sw hkn a2).up ⟨by rw [scL_len]; exact (i1 i a2).1, scL_rp hp _ (i1 i a2).2 n⟩).el hp _ _ _
   ·simp only [List.length_append, List.length_cons, List.length_nil] at hk; omega
   ·simp only [List.length_append, List.length_cons, List.length_nil]; omega
   ·show (kst p n F j).2.2.length ≤ j + 1; omega
  ·rw [kstep_none hz]
   refine ⟨i1, i2.none hz, by show (kst p n F j).2.1.length ≤ j + 1; omega, ?_⟩
   simp only [List.length_append, List.length_cons, List.length_nil]; omega
def bsP (p n : Nat) (F : Nat → List Int) (piv : List Nat) (f : Nat) : Nat → List Int
 | 0 => (List.replicate n 0).set f 1
 | t + 1 => (bsP p n F piv f t).set (piv.getD t 0) (((p : Int) - (F t).getD f 0) % (p : Int))
theorem bsP_len (p n : Nat) (F : Nat → List Int) (piv : List Nat) (f : Nat) : ∀ t, (bsP p n F piv f t).length = n
 | 0 => by simp [bsP]
 | t + 1 => by rw [bsP, List.length_set, bsP_len p n F piv f t]
theorem bsP_rp {p n : Nat} (H : P31 p) (F : Nat → List Int) (piv : List Nat) (f : Nat) : ∀ t, rp p (bsP p n F piv f t)
 | 0 => rp_set (rp_rep H.pos n) f (by decide) (by have := H.hp.1; omega)
 | t + 1 => rp_set (bsP_rp H F piv f t) _ (Int.emod_nonneg _ (by have := H.pos; omega)) (Int.emod_lt_of_pos _ H.pos)
theorem bsP_other {p n : Nat} {F : Nat → List Int} {piv : List Nat} {f x : Nat} : ∀ t, (∀ k, k < t → piv.getD k 0 ≠ x) → (∀ k, k < t → piv.getD k 0 < n) → f < n → x < n → (bsP p n F piv f t).getD x 0 = if f = x then 1 else 0
 | 0, _, _, hf, hx => by
  rw [bsP, getD_set_eq _ _ _ _ (by simpa using hf)]
  by_cases e : f = x
  ·rw [if_pos (by first | exact e | exact decide_eq_true e), if_pos e]
  ·rw [if_neg (by first | exact e | (intro h; exact e (of_decide_eq_true h))), if_neg e, List.getD_eq_getElem?_getD, List.getElem?_replicate, if_pos hx]; rfl
 | t + 1, h, hb, hf, hx => by
  have := h t (by omega)
  rw [bsP, getD_set_eq _ _ _ _ (by rw [bsP_len]; exact hb t (by omega)), if_neg (by first | exact this | (intro h; exact this (of_decide_eq_true h)))]
  exact bsP_other t (fun k hk => h k (by omega)) (fun k hk => hb k (by omega)) hf hx
theorem bsP_piv {p n : Nat} {F : Nat → List Int} {piv : List Nat} {f k : Nat} : ∀ t, k < t → (∀ k, k < t → piv.getD k 0 < n) → (∀ k', k < k' → k' < t → piv.getD k' 0 ≠ piv.getD k 0) → (bsP p n F piv f t).getD (piv.getD k 0) 0 = ((p : Int) - (F k).getD f 0) % (p : Int)
 | 0, h, _, _ => by omega
 | t + 1, h, hb, hd => by
  rw [bsP, getD_set_eq _ _ _ _ (by rw [bsP_len]; exact hb t (by omega))]
  by_cases e : k = t
  ·subst e; rw [if_pos (by first | rfl | simp)]
  ·have := hd t (by omega) (by omega)
   rw [if_neg (by first | exact this | (intro h; exact this (of_decide_eq_true h)))]
   exact bsP_piv t (by omega) (fun k hk => hb k (by omega)) (fun k' h1 h2 => hd k' h1 (by omega))
noncomputable def kerL (p n : Nat) (F : Nat → List Int) : List (List Int) := (kst p n F n).2.2.map fun f => bsP p n (kst p n F n).1 (kst p n F n).2.1 f (kst p n F n).2.1.length
theorem kerL_ok {p n : Nat} (H : P31 p) {F : Nat → List Int} (h : Rws p n F) : (kerL p n F).length ≤ n ∧ (∀ v ∈ kerL p n F, v.length = n ∧ rp p v ∧ (∃ i, v.getD i 0 ≠ 0) ∧ Sol p n (mG F) (fun c => v.getD c 0)) ∧
  ∀ w, Sol p n (mG F) w → ∃ x : Nat → Int, ∀ c, c < n → w c % (p : Int) = sm (fun q => x q * ((kerL p n F).getD q []).getD c 0) (kerL p n F).length % p := by
 obtain ⟨h1, h2, h3, h4⟩ := kst_ok H h n (Nat.le_refl _)
 unfold kerL
 generalize kst p n F n = S at *
 obtain ⟨B, piv, free⟩ := S
 simp only at h1 h2 h3 h4 ⊢
 have hpd : ∀ k k', k < piv.length → k' < piv.length → piv.getD k 0 = piv.getD k' 0 → k = k' := by
  intro k k' hk hk' e
  have e1 := h2.unit k hk k (by omega)
  have e2 := h2.unit k' hk' k (by omega)
  rw [e, e2, if_pos rfl] at e1
  by_cases hx : k = k'
  ·exact hx
  ·rw [if_neg hx] at e1; omega
 let V : Nat → Nat → Int := fun q c => (bsP p n B piv (free.getD q 0) piv.length).getD c 0
 obtain ⟨b1, b2⟩ := h2.basis H (V := V) (fun q hq => by
   show (bsP p n B piv (free.getD q 0) piv.length).getD (free.getD q 0) 0 = 1
   rw [bsP_other _ (fun k hk => h2.ne k q hk hq) (fun k hk => h2.pb k hk) (h2.fb q hq) (h2.fb q hq), if_pos rfl])
  (fun q hq k hk => bsP_piv _ hk (fun k hk => h2.pb k hk) (fun k' e1 e2 e3 => by have := hpd k' k e2 hk e3; omega))
  (fun q q' hq hq' hne => by
   show (bsP p n B piv (free.getD q 0) piv.length).getD (free.getD q' 0) 0 = 0
   rw [bsP_other _ (fun k hk => h2.ne k q' hk hq') (fun k hk => h2.pb k hk) (h2.fb q hq) (h2.fb q' hq'), if_neg (fun e => hne (h2.fd q q' hq hq' e))])
 refine ⟨by rw [List.length_map]; exact h4, fun v hv => ?_, fun w hw => ⟨fun q => w (free.getD q 0), fun c hc => ?_⟩⟩
 ·obtain ⟨f, hf, rfl⟩ := List.mem_map.1 hv
  obtain ⟨q, hq, e⟩ := List.getElem_of_mem hf
  have e2 : free.getD q 0 = f := by rw [List.getD_eq_getElem?_getD, List.getElem?_eq_getElem hq, Option.getD_some, e]
  refine ⟨bsP_len _ _ _ _ _ _, bsP_rp H _ _ _ _, ⟨f, ?_⟩, ?_⟩
  ·rw [← e2, bsP_other _ (fun k hk => h2.ne k q hk hq) (fun k hk => h2.pb k hk) (h2.fb q hq) (h2.fb q hq), if_pos rfl]; decide
  ·rw [← e2]; exact b1 q hq
 ·rw [b2 w hw c hc, List.length_map]
  congr 1
  refine sm_congr fun q hq => ?_
  congr 1
  show (bsP p n B piv (free.getD q 0) piv.length).getD c 0 = _
  congr 1
  rw [List.getD_eq_getElem?_getD, List.getD_eq_getElem?_getD, List.getElem?_map, List.getElem?_eq_getElem hq]
  rfl
end Go.El

/- The engine, part 50: weakenings beside a slice of slices: an id is renamed, two rows change places, nil, frozen boxes. Own work; no condition. -/
namespace Go.El
open Go Go.RowKit
def mw (A B id : Nat) : Nat := cond (Nat.beq id A) B id
theorem mw_ne {A B id : Nat} (h : id ≠ A) : mw A B id = id := by
 unfold mw
 cases e : Nat.beq id A with
 | true => exact absurd (Nat.eq_of_beq_eq_true e) h
 | false => rfl
theorem mw_eq (A B : Nat) : mw A B A = B := by unfold mw; rw [Nat.beq_refl]; rfl
theorem mw_inj {α : Type} {A B : Nat} {m : List (Nat × α)} (hB : lookA B m = none) : ∀ id id', (lookA id m).isSome = true → (lookA id' m).isSome = true → mw A B id = mw A B id' → id = id' := by
 intro id id' h h' e
 by_cases h1 : id = A <;> by_cases h2 : id' = A
 ·rw [h1, h2]
 ·subst h1
  rw [mw_eq, mw_ne h2] at e
  subst e
  rw [hB] at h'; cases h'
 ·subst h2
  rw [mw_eq, mw_ne h1] at e
  subst e
  rw [hB] at h; cases h
 ·rwa [mw_ne h1, mw_ne h2] at e
theorem lookD_w {α : Type} {t k : Nat} {l : List (Nat × α)} (h : t ≠ k) : lookA k (delA t l) = lookA k l := by rw [lookA_del, if_neg h]
theorem lookF_none {r : Nat} {E : TypeId} {T : ET} {f : Nat → List T.den} {id : Nat} (h : r < id) : lookA id (fam r E T f) = none := by
 cases e : lookA id (fam r E T f) with
 | none => rfl
 | some b => obtain ⟨i, h1, h2, _⟩ := lookA_fam_inv e; omega
theorem lookN_none {o : Nat} {E0 : TypeId} {r : Nat} {E : TypeId} {T : ET} {f : Nat → List T.den} {id : Nat} (h : r < id) (ho : o ≠ id) : lookA id (nst o E0 r E T f) = none := by
 unfold nst
 rw [lookA_skip ho]; exact lookF_none h
theorem lookC_none {conc : List (Nat × Blk)} {o : Nat} {E0 : TypeId} {r : Nat} {E : TypeId} {T : ET} {f : Nat → List T.den} {id : Nat} (h : r < id) (ho : o ≠ id) (hc : lookA id conc = none) : lookA id (conc ++ nst o E0 r E T f) = none := by
 rw [lookA_append, hc, lookN_none h ho]; rfl
theorem memP_cn {K : Nat} {conc : List (Nat × Blk)} {o : Nat} {E0 : TypeId} {r : Nat} {E : TypeId} {T : ET} {f : Nat → List T.den} (h : memB K conc = true) (ho : o < K) (hr : 1 + r ≤ K) : MemP K (conc ++ nst o E0 r E T f) := MemP.of (memB_append h (memB_nst ho hr))
theorem map_id_w {α : Type} {f : α → α} : ∀ {l : List α}, (∀ x ∈ l, f x = x) → l.map f = l
 | [], _ => rfl
 | x :: l, h => by rw [List.map_cons, h x (by simp), map_id_w fun y hy => h y (by simp [hy])]
theorem wk_nstR (A B : Nat) {sl : List (Nat × AV)} {mem : List (Nat × Blk)} {nx : Nat} {gd : List (Nat × Bool)} {sl' : List (Nat × AV)} {conc : List (Nat × Blk)} {nx' : Nat} {gd' : List (Nat × Bool)} {o : Nat} {E0 : TypeId} {r : Nat} {E : TypeId} {T : ET} {f : Nat → List T.den} (hs : WkS2 (mw A B) sl sl') (hm : WkM2 (mw A B) mem conc)
  (hbox : lookA o mem = some (.box E0 0 ((List.range r).map fun i => .X (1 + i)))) (hf : ∀ i, i < r → lookA (1 + i) mem = some (.vec E T (f i))) (hr : r ≤ 900) (hA : 900 < A) (hAo : o ≠ A) (hB : lookA B conc = none) (hB9 : 900 < B) (hBo : o ≠ B) (ho : o < 1000000 * nx') (hb : memB (1000000 * nx') conc = true := by rfl) (hbs : slB (1000000 * nx') sl' = true := by rfl) (hnx : Nat.ble 1 nx' = true := by rfl) : Wk ⟨sl, mem, nx, gd⟩ ⟨sl', conc ++ nst o E0 r E T f, nx', gd'⟩ := by
 have hnx1 := Nat.le_of_ble_eq_true hnx
 refine wk_map (mw A B) hs (WkM2.app hm ⟨⟨.box E0 0 ((List.range r).map fun i => .X (1 + i)), ?_, BLe.of_eq ?_⟩, WkM2.fam fun i hi => ?_⟩) (mw_ne (by omega)) (mw_inj (lookC_none (by omega) hBo hB)) (show MemP (1000000 * nx') _ from memP_cn hb ho (by omega)) hbs hnx
 ·rw [mw_ne hAo]; exact hbox
 ·refine congrArg (Blk.box E0 0) ?_
  refine (map_id_w fun c hc => ?_).symm
  obtain ⟨i, hi, rfl⟩ := List.mem_map.1 hc
  have := List.mem_range.1 hi
  show C.X (mw A B (1 + i)) = _
  rw [mw_ne (by omega)]
 ·rw [mw_ne (by omega)]; exact hf i hi
def sw2 (k i id : Nat) : Nat := if id = 1 + k then 1 + i else if id = 1 + i then 1 + k else id
theorem sw2_inj (k i : Nat) {a b : Nat} (h : sw2 k i a = sw2 k i b) : a = b := by
 unfold sw2 at h
 split at h <;> split at h <;> (try split at h) <;> (try split at h) <;> omega
theorem sw2_ne {k i id : Nat} (h1 : id ≠ 1 + k) (h2 : id ≠ 1 + i) : sw2 k i id = id := by unfold sw2; rw [if_neg h1, if_neg h2]
theorem wk_swap (k i : Nat) {sl : List (Nat × AV)} {mem : List (Nat × Blk)} {nx : Nat} {gd : List (Nat × Bool)} {sl' : List (Nat × AV)} {conc : List (Nat × Blk)} {nx' : Nat} {gd' : List (Nat × Bool)} {o : Nat} {E0 : TypeId} {r : Nat} {E : TypeId} {T : ET} {f g : Nat → List T.den} (hk : k < r) (hi : i < r) (hs : WkS2 (sw2 k i) sl sl') (hm : WkM2 (sw2 k i) mem conc)
  (hbox : lookA o mem = some (.box E0 0 ((((List.range r).map fun q => C.X (1 + q)).set k (.X (1 + i))).set i (.X (1 + k))))) (hf : ∀ q, q < r → lookA (1 + q) mem = some (.vec E T (f q))) (hg : ∀ q, q < r → g q = if q = k then f i else if q = i then f k else f q) (hr : r ≤ 900) (ho9 : 900 < o) (ho : o < 1000000 * nx') (hb : memB (1000000 * nx') conc = true := by rfl) (hbs : slB (1000000 * nx') sl' = true := by rfl) (hnx : Nat.ble 1 nx' = true := by rfl) : Wk ⟨sl, mem, nx, gd⟩ ⟨sl', conc ++ nst o E0 r E T g, nx', gd'⟩ := by
 have hnx1 := Nat.le_of_ble_eq_true hnx
 refine wk_map (sw2 k i) hs (WkM2.app hm ⟨⟨.box E0 0 ((((List.range r).map fun q => C.X (1 + q)).set k (.X (1 + i))).set i (.X (1 + k))), ?_, BLe.of_eq ?_⟩, WkM2.fam fun q hq => ?_⟩) (sw2_ne (by omega) (by omega)) (fun _ _ _ _ h => sw2_inj k i h) (show MemP (1000000 * nx') _ from memP_cn hb ho (by omega)) hbs hnx
 ·rw [sw2_ne (by omega) (by omega)]; exact hbox
 ·refine congrArg (Blk.box E0 0) (List.ext_getElem (by simp) fun q h1 h2 => ?_)
  simp only [List.length_map, List.length_range] at h2
  simp only [List.getElem_set, List.getElem_map, List.getElem_range, mpC]
  unfold sw2
  by_cases e1 : q = i
  ·subst e1
   by_cases e2 : q = k
   ·subst e2; simp
   ·rw [if_pos rfl, if_neg (by omega), if_pos rfl]
  ·by_cases e2 : q = k
   ·subst e2; rw [if_neg (by omega), if_pos rfl, if_pos rfl]
   ·rw [if_neg (by omega), if_neg (by omega), if_neg (by omega), if_neg (by omega)]
 ·rw [hg q hq]
  unfold sw2
  by_cases e1 : q = k
  ·subst e1; rw [if_pos rfl, if_pos rfl]; exact hf i hi
  ·rw [if_neg (by omega), if_neg e1]
   by_cases e2 : q = i
   ·subst e2; rw [if_pos rfl, if_pos rfl]; exact hf k hk
   ·rw [if_neg (by omega), if_neg e2]; exact hf q hq
def cellJ (r i : Nat) : List C := (List.range i).map (fun j => C.X (1 + j)) ++ List.replicate (r - i) (.V (.slice none 0 0))
theorem cellJ_len (r i : Nat) (h : i ≤ r) : (cellJ r i).length = r := by unfold cellJ; simp; omega
theorem cellJ_all (r : Nat) : cellJ r r = (List.range r).map fun j => C.X (1 + j) := by unfold cellJ; rw [Nat.sub_self, List.replicate_zero, List.append_nil]
theorem cellJ_zero (r : Nat) : cellJ r 0 = List.replicate r (.V (.slice none 0 0)) := by unfold cellJ; simp
theorem cellJ_set (r i : Nat) (h : i < r) : (cellJ r i).set i (.X (1 + i)) = cellJ r (i + 1) := by
 unfold cellJ
 rw [List.set_append_right _ _ (by simp), show r - i = (r - (i + 1)) + 1 by omega, List.replicate_succ, List.range_succ, List.map_append]
 simp
theorem map_setw {α β : Type} (f : α → β) (c : α) : ∀ (l : List α) (i : Nat), (l.set i c).map f = (l.map f).set i (f c)
 | [], _ => rfl
 | _ :: _, 0 => rfl
 | x :: l, i + 1 => by rw [List.set_cons_succ, List.map_cons, List.map_cons, List.set_cons_succ, map_setw f c l i]
theorem cellJ_mw {r i A B : Nat} (h : i < A) : (cellJ r i).map (mpC (mw A B)) = cellJ r i := map_id_w fun c hc => by
 rcases List.mem_append.1 hc with h1 | h1
 ·obtain ⟨j, hj, rfl⟩ := List.mem_map.1 h1
  have := List.mem_range.1 hj
  show C.X (mw A B (1 + j)) = _
  rw [mw_ne (by omega)]
 ·rw [List.eq_of_mem_replicate h1]; rfl
theorem cellJ_mids {r i K : Nat} (h : 1 + i ≤ K) : ∀ j ∈ midsL (cellJ r i), j < K := mids_cells fun c hc id hid => by
 rcases List.mem_append.1 hc with h1 | h1
 ·obtain ⟨j, hj, rfl⟩ := List.mem_map.1 h1
  have := List.mem_range.1 hj
  simp only [C.mids, List.mem_singleton] at hid
  omega
 ·rw [List.eq_of_mem_replicate h1] at hid; cases hid
end Go.El

/- Contract: the vectors that a matrix modulo p sends to 0. Own work; no condition. -/
namespace Go.El
open Go Go.Proofs
def zl (l : List Nat) : List Int := l.map (fun (x : Nat) => ((x : Nat) : Int))
theorem zl_len (l : List Nat) : (zl l).length = l.length := List.length_map _
theorem zl_snoc (l : List Nat) (x : Nat) : zl l ++ [(x : Int)] = zl (l ++ [x]) := by simp [zl]
theorem zl_get (l : List Nat) (i : Nat) : (zl l).getD i 0 = (l.getD i 0 : Nat) := by
 unfold zl
 rw [List.getD_eq_getElem?_getD, List.getElem?_map, List.getD_eq_getElem?_getD]
 cases l[i]? <;> rfl
theorem cellM_get {r j : Nat} (h : j < r) : ((List.range r).map fun i => C.X (1 + i))[0 + ((j : Int)).toNat * 1]? = some (.X (1 + j)) := by
 rw [Int.toNat_natCast, Nat.zero_add, Nat.mul_one, List.getElem?_map, List.getElem?_range h]; rfl
theorem elA_self (p : Nat) (F : Nat → List Int) (k j t : Nat) : elA p F k j t t = F t := by unfold elA; rw [if_neg (fun h => by omega)]
theorem elA_k (p : Nat) (F : Nat → List Int) (k j t : Nat) : elA p F k j t k = F k := by unfold elA; rw [if_neg (fun h => h.2.1 rfl)]
theorem elA_zero (p : Nat) (F : Nat → List Int) (k j : Nat) : elA p F k j 0 = F := funext fun r => by unfold elA; rw [if_neg (fun h => by omega)]
theorem elA_skip (p : Nat) (F : Nat → List Int) {k j t : Nat} (h : ¬ (t ≠ k ∧ (F t).getD j 0 ≠ 0)) : elA p F k j (t + 1) = elA p F k j t := funext fun r => by
 unfold elA
 by_cases e : r = t
 ·subst e; rw [if_neg (fun h2 => h h2.2), if_neg (fun h2 => h h2.2)]
 ·by_cases h2 : r < t ∧ r ≠ k ∧ (F r).getD j 0 ≠ 0
  ·rw [if_pos h2, if_pos ⟨by omega, h2.2⟩]
  ·rw [if_neg h2, if_neg (fun h3 => h2 ⟨by omega, h3.2⟩)]
theorem elA_step (p : Nat) (F : Nat → List Int) {k j t : Nat} (h : t ≠ k ∧ (F t).getD j 0 ≠ 0) : upL (elA p F k j t) t (elL p ((F t).getD j 0) (F t) (F k) (F t).length) = elA p F k j (t + 1) := funext fun r => by
 unfold upL elA
 by_cases e : r = t
 ·subst e; rw [if_pos rfl, if_pos ⟨by omega, h⟩]
 ·rw [if_neg e]
  by_cases h2 : r < t ∧ r ≠ k ∧ (F r).getD j 0 ≠ 0
  ·rw [if_pos h2, if_pos ⟨by omega, h2.2⟩]
  ·rw [if_neg h2, if_neg (fun h3 => h2 ⟨by omega, h3.2⟩)]
theorem upL_self (F : Nat → List Int) (k : Nat) (x : List Int) : upL F k x k = x := by unfold upL; rw [if_pos rfl]
theorem upL_ne (F : Nat → List Int) {k q : Nat} (x : List Int) (h : q ≠ k) : upL F k x q = F q := by unfold upL; rw [if_neg h]
theorem upL_id (F : Nat → List Int) (k : Nat) : upL F k (F k) = F := funext fun q => by
 unfold upL
 split
 ·rename_i e; rw [e]
 ·rfl
set_option maxRecDepth 100000 in
set_option maxHeartbeats 8000000 in
theorem kernel_s {p n : Nat} (H : P31 p) {F : Nat → List Int} (hF : Rws p n F) (hn0 : 1 ≤ n) (hn : n ≤ 200) : FnC Tryz.prog 183 [.c (.L 1000 0 n (some n)), cU p] (nst 1000 22 n 25 U64 F) (cS (.sl U64) (kerL p n F)) := by
 have hp2 := H.hp.1
 have hple := H.le
 have hpz : (p : Int) ≠ 0 := by omega
 refine fc_intro 1 Tryz.func183 rfl rfl rfl (fun id hid => by simp [midsVs, AV.mids, C.mids] at hid; omega) (MemP.of (memB_nst (by omega) (by omega))) rfl (by decide) ?_
 refine rr rfl (rb (rxl rfl rfl trivial (re rfl (rr rfl (tr_seq (rr rfl ?_))))))
 refine tr_block (tr_loop (α := Nat) (fun j => ⟨[(0, .c (.L 1000 0 n (some n))), (1, cU p), (5, cI n), (6, .c (.X 5000000)), (7, .c (.X 6000000)), (25, cI n), (26, cI j)], [(5000000, .vec 3 I64 (zl (kst p n F j).2.1)), (6000000, .vec 3 I64 (zl (kst p n F j).2.2))] ++ nst 1000 22 n 25 U64 (kst p n F j).1, 7, []⟩) (fun j => j ≤ n) (fun j => n - j) 0 (Nat.zero_le _) ?_ ?_)
 ·refine Wk.trans (wk_nil 5000000 3 I64 (sl' := [(0, .c (.L 1000 0 n (some n))), (1, cU p), (5, cI n), (6, .c (.X 5000000)), (7, .c (.V (.slice none 0 0))), (25, cI n), (26, cI 0)]) (m2 := nst 1000 22 n 25 U64 F) (nx' := 6) (gd' := []) ⟨.inl (sR rfl), .inl (sR rfl), .inl (sR rfl), .inr ⟨rfl, rfl⟩, .inl (sR rfl), .inl (sR rfl), .inl (sR rfl), trivial⟩ ⟨bR rfl, WkM.fam fun q hq => (by (repeat (refine (lookA_skip (by omega)).trans ?_)); exact lookA_fam (by omega))⟩ rfl (memP_cn (conc := [(5000000, .vec 3 I64 [])]) rfl (by omega) (by omega))) ?_
  refine Wk.trans (wk_nil 6000000 3 I64 (sl' := [(0, .c (.L 1000 0 n (some n))), (1, cU p), (5, cI n), (6, .c (.X 5000000)), (7, .c (.X 6000000)), (25, cI n), (26, cI 0)]) (m2 := (5000000, .vec 3 I64 []) :: nst 1000 22 n 25 U64 F) (nx' := 7) (gd' := []) ⟨.inl (sR rfl), .inl (sR rfl), .inl (sR rfl), .inl (sR rfl), .inr ⟨rfl, rfl⟩, .inl (sR rfl), .inl (sR rfl), trivial⟩ ⟨bR rfl, bR rfl, WkM.fam fun q hq => (by (repeat (refine (lookA_skip (by omega)).trans ?_)); exact lookA_fam (by omega))⟩ rfl (memP_cn (conc := [(6000000, .vec 3 I64 []), (5000000, .vec 3 I64 [])]) rfl (by omega) (by omega))) ?_
  exact wk_nst ⟨sR rfl, sR rfl, sR rfl, sR rfl, sR rfl, sR rfl, sR rfl, trivial⟩ ⟨⟨_, rfl, BLe.of_eq rfl⟩, ⟨_, rfl, BLe.of_eq rfl⟩, trivial⟩ rfl (fun q hq => (by (repeat (refine (lookA_skip (by omega)).trans ?_)); exact lookA_fam (by omega))) (by omega)
 intro j hj
 obtain ⟨i1, i2, i3, i4⟩ := kst_ok H hF j hj
 refine rr rfl (tr_seq (tr_cond rfl (fun h => ?_) (fun h => ?_)))
 ·have hjn : j < n := by
   have h : (j : Int) < (n : Int) := of_decide_eq_true h
   omega
  have hS : kst p n F (j + 1) = kstep p n j (kst p n F j) := rfl
  generalize hSj : kst p n F j = S at *
  obtain ⟨B, piv, free⟩ := S
  simp only at i1 i2 i3 i4 ⊢
  have hzp := zl_len piv
  have hzf := zl_len free
  refine tr_skip (at_then (tr_seq (tr_block (rr rfl (rr rfl ?_)))))
  refine tr_wk (wk_box 8001000 (T := I64) (x := (j : Int)) (sl' := [(0, .c (.L 1000 0 n (some n))), (1, cU p), (5, cI n), (6, .c (.X 5000000)), (7, .c (.X 6000000)), (25, cI n), (26, cI j), (8, .c (.E I64 (j : Int) 0)), (9, cI piv.length)]) (mem' := [(5000000, .vec 3 I64 (zl piv)), (6000000, .vec 3 I64 (zl free))] ++ nst 1000 22 n 25 U64 B) (nx' := 10) (gd' := []) rfl ⟨.inl (sR rfl), .inl (sR rfl), .inl (sR rfl), .inl (sR rfl), .inl (sR rfl), .inl (sR rfl), .inl (sR rfl), .inr ⟨0, rfl, rfl⟩, .inl ⟨_, rfl, AVle.of_eq (congrArg (fun z : Nat => cI (z : Int)) hzp)⟩, trivial⟩ (WkM.app ⟨bR rfl, bR rfl, trivial⟩ ⟨bR rfl, WkM.fam fun q hq => (by (repeat (refine (lookA_skip (by omega)).trans ?_)); exact lookA_fam (by omega))⟩) (lookC_none (by omega) (by omega) rfl) (memP_cn rfl (by omega) (by omega))) ?_
  have hpl := i2.pl
  obtain ⟨L, hL⟩ : ∃ L, L = (List.range (n - ((piv.length : Nat) : Int).toNat)).map fun i => B ((if n = ((piv.length : Nat) : Int).toNat then 0 else 0 + ((piv.length : Nat) : Int).toNat * 1) + i) := ⟨_, rfl⟩
  have hLl : L.length = n - piv.length := by rw [hL, Int.toNat_natCast]; simp
  have hLg : ∀ i, i < n - piv.length → L.getD i [] = B (piv.length + i) := fun i hi => by
   rw [hL, Int.toNat_natCast, List.getD_eq_getElem?_getD, List.getElem?_map, List.getElem?_range hi, if_neg (by omega), Nat.zero_add, Nat.mul_one]; rfl
  have hsl : (if n = ((piv.length : Nat) : Int).toNat then 0 else 0 + ((piv.length : Nat) : Int).toNat * 1) + (n - ((piv.length : Nat) : Int).toNat) ≤ n := by
   rw [Int.toNat_natCast]; split <;> omega
  rcases fst_ex B n j piv.length with ⟨i, hi⟩ | hz
  ·have hS' : kst p n F (j + 1) = (kel p B n j piv.length i, piv ++ [j], free) := hS.trans (kstep_some hi)
   obtain ⟨a1, a2, a3, a4⟩ := hi
   have hidx : FnS Tryz.prog 238 [cS (.sl U64) L, cloJ j] (.c (.I .i64 ((i - piv.length : Nat) : Int))) := kidx_s L j _ (by omega) (fun i hi => by rw [hLg i (by omega), (i1 _ (by omega)).1]; exact hjn) (.inl ⟨i - piv.length, by omega, rfl, by rw [hLg _ (by omega), show piv.length + (i - piv.length) = i by omega]; exact a3, fun q hq => by rw [hLg q (by omega)]; exact a4 _ (by omega) (by omega)⟩)
   rw [hL] at hidx
   generalize hk : piv.length = k at *
   have hkn : k < n := by omega
   refine rb (rxl rfl rfl ?_ (rmf rfl rfl rfl (rct (z := .I .i64 ((i - k : Nat) : Int)) rfl rfl rfl (fun q hq => (by (repeat (refine (lookA_skip (by omega)).trans ?_)); exact lookA_fam (by omega))) (by omega) hsl (Nat.le_refl _) hidx (fun _ _ _ h => h) (re rfl ?_))))
   ·simp only [Pr.an, Pr.h, true_and, and_true]; omega
   refine tr_seq (rr rfl (tr_cond rfl (fun h1 => ?_) (fun h1 => tr_skip (at_then ?_))))
   ·exfalso
    have h1 : (k : Int) + ((i - k : Nat) : Int) < (k : Int) := of_decide_eq_true h1
    omega
   refine tr_wk (wk_nst (sl' := [(0, .c (.L 1000 0 n (some n))), (1, cU p), (5, cI n), (6, .c (.X 5000000)), (7, .c (.X 6000000)), (25, cI n), (26, cI j), (8, .c (.E I64 (j : Int) 0)), (9, cI k), (10, cI i)]) (conc := [(5000000, .vec 3 I64 (zl piv)), (6000000, .vec 3 I64 (zl free))]) (nx' := 12) (gd' := []) (o := 1000) (E0 := 22) (r := n) (E := 25) (T := U64) (f := B) ⟨sR rfl, sR rfl, sR rfl, sR rfl, sR rfl, sR rfl, sR rfl, sR rfl, sR rfl, ⟨_, rfl, AVle.of_eq ?_⟩, trivial⟩ ⟨bR rfl, bR rfl, trivial⟩ rfl (fun q hq => (by (repeat (refine (lookA_skip (by omega)).trans ?_)); exact lookA_fam (by omega))) (by omega)) ?_
   ·exact congrArg cI (show (k : Int) + ((i - k : Nat) : Int) = (i : Int) by omega)
   have hbk : (0 : Int) ≤ (k : Int) ∧ (k : Int) < (n : Int) := ⟨by omega, by omega⟩
   have hbi : (0 : Int) ≤ (i : Int) ∧ (i : Int) < (n : Int) := ⟨by omega, by omega⟩
   refine rb (rxl rfl rfl hbi (rg_ldC TT_ok (c := .X (1 + i)) rfl rfl (cellM_get a2) rfl (rxl rfl rfl hbk (rg_ldC TT_ok (c := .X (1 + k)) rfl rfl (cellM_get hkn) rfl (rxl rfl rfl hbk (rg_stX TT_ok rfl rfl rfl (by (repeat (refine (lookA_skip (by omega)).trans ?_)); exact lookA_fam (by omega)) rfl ?_ (rxl rfl rfl ?_ (rg_stX TT_ok rfl rfl rfl (by (repeat (refine (lookA_skip (by omega)).trans ?_)); exact lookA_fam (by omega)) rfl ?_ (re rfl ?_ (ho := ord2 (by kernel_rfl)))))))))))
   ·show 0 + ((k : Int)).toNat * 1 < _
    simp; omega
   ·exact hbi
   ·show 0 + ((i : Int)).toNat * 1 < _
    simp; omega
   refine tr_wk (wk_swap k i (sl' := [(0, .c (.L 1000 0 n (some n))), (1, cU p), (5, cI n), (6, .c (.X 5000000)), (7, .c (.X 6000000)), (25, cI n), (26, cI j), (8, .c (.E I64 (j : Int) 0)), (9, cI k)]) (conc := [(5000000, .vec 3 I64 (zl piv)), (6000000, .vec 3 I64 (zl free))]) (nx' := 13) (gd' := []) (o := 1000) (E0 := 22) (r := n) (E := 25) (T := U64) (f := B) (g := swL B k i) hkn a2 ?_ ?_ ?_ (fun q hq => (by (repeat (refine (lookA_skip (by omega)).trans ?_)); exact lookA_fam (by omega))) (fun q hq => rfl) (by omega) (by omega) (by omega)) ?_
   ·refine ⟨⟨_, rfl, AVle.of_eq ?_⟩, sR rfl, sR rfl, ⟨_, rfl, AVle.of_eq ?_⟩, ⟨_, rfl, AVle.of_eq ?_⟩, sR rfl, sR rfl, sR rfl, sR rfl, trivial⟩
    ·exact congrArg (fun z => AV.c (.L z 0 n (some n))) (sw2_ne (by omega) (by omega)).symm
    ·exact congrArg (fun z => AV.c (.X z)) (sw2_ne (by omega) (by omega)).symm
    ·exact congrArg (fun z => AV.c (.X z)) (sw2_ne (by omega) (by omega)).symm
   ·refine ⟨⟨_, by rw [sw2_ne (by omega) (by omega)]; rfl, BLe.refl _⟩, ⟨_, by rw [sw2_ne (by omega) (by omega)]; rfl, BLe.refl _⟩, trivial⟩
   ·refine congrArg (fun z => some (Blk.box 22 0 z)) ?_
    rw [Int.toNat_natCast, Int.toNat_natCast, Nat.zero_add, Nat.mul_one, Nat.zero_add, Nat.mul_one]
   have hG := i1.sw hkn a2
   have hGk : swL B k i k = B i := by unfold swL; rw [if_pos rfl]
   have hkj := (i1 i a2).2 j
   have hinv : FnS Tryz.prog 124 [cU ((swL B k i k).getD ((j : Int)).toNat 0), cU p] (.t [(false, [.I .u64 (invM ((B i).getD j 0).toNat p : Nat)]), (false, [.I .i64 0])]) := by
    rw [Int.toNat_natCast, hGk]
    have := minv_z ((B i).getD j 0) p hkj a3 (by omega) (by omega)
    rwa [Int.toNat_natCast] at this
   have hv := powM_lt ((B i).getD j 0).toNat (p - 2) p (by omega)
   have hkel : kel p B n j k i = elA p (upL (swL B k i) k (scL p (invM ((B i).getD j 0).toNat p : Nat) (swL B k i k) n)) k j n := by rw [hGk]; rfl
   have hv : (0 : Int) ≤ ((invM ((B i).getD j 0).toNat p : Nat) : Int) ∧ ((invM ((B i).getD j 0).toNat p : Nat) : Int) < p := by
    unfold invM; omega
   rw [hkel] at hS'
   generalize ((invM ((B i).getD j 0).toNat p : Nat) : Int) = v at *
   generalize swL B k i = G at *
   have hGl := fun q (hq : q < n) => (hG q hq).1
   have hGr := fun q (hq : q < n) => (hG q hq).2
   refine rb (rxl rfl rfl hbk (rg_ldC TT_ok (c := .X (1 + k)) rfl rfl (cellM_get hkn) rfl (rk 1 rfl rfl (rg_idxX TT_ok (T := U64) (xs := G k) rfl (by (repeat (refine (lookA_skip (by omega)).trans ?_)); exact lookA_fam (by omega)) rfl rfl (by omega) (by rw [hGl k hkn]; omega) (rg_ldY TT_ok rfl (by (repeat (refine (lookA_skip (by omega)).trans ?_)); exact lookA_fam (by omega)) rfl rfl rfl (by show ((j : Int)).toNat < _; rw [hGl k hkn]; omega) (rc rfl rfl hinv (re rfl ?_ (ho := ord2 (by kernel_rfl)))))))))
   refine tr_seq (rr rfl (tr_block (tr_loop (α := Nat) (fun c => ⟨[(0, .c (.L 1000 0 n (some n))), (1, cU p), (5, cI n), (6, .c (.X 5000000)), (7, .c (.X 6000000)), (25, cI n), (26, cI j), (8, .c (.E I64 (j : Int) 0)), (9, cI k), (11, cU v), (71, cI n), (72, cI c)], [(5000000, .vec 3 I64 (zl piv)), (6000000, .vec 3 I64 (zl free))] ++ nst 1000 22 n 25 U64 (upL G k (scL p v (G k) c)), 15, []⟩) (fun c => c ≤ n) (fun c => n - c) 0 (Nat.zero_le _) ?_ ?_)))
   ·refine wk_nst ⟨sR rfl, sR rfl, sR rfl, sR rfl, sR rfl, sR rfl, sR rfl, sR rfl, sR rfl, sR rfl, sR rfl, sR rfl, trivial⟩ ⟨bR rfl, bR rfl, trivial⟩ rfl (fun q hq => ?_) (by omega)
    rw [scL_zero, upL_id]
    exact (by (repeat (refine (lookA_skip (by omega)).trans ?_)); exact lookA_fam (by omega))
   intro c hc
   have hsr := scL_rp (show 0 < p by omega) v (hGr k hkn) c
   have hsl2 := scL_len p v (G k) c
   have hUk : upL G k (scL p v (G k) c) k = scL p v (G k) c := upL_self _ _ _
   refine rr rfl (tr_seq (tr_cond rfl (fun h2 => ?_) (fun h2 => ?_)))
   ·have hcn : c < n := by
     have h2 : (c : Int) < (n : Int) := of_decide_eq_true h2
     omega
    refine tr_skip (at_then (tr_seq (tr_block (rr rfl ?_))))
    refine rbt (rxl rfl rfl hbk (rg_ldC TT_ok (c := .X (1 + k)) rfl rfl (cellM_get hkn) rfl (rxl rfl rfl hbk (rg_ldC TT_ok (c := .X (1 + k)) rfl rfl (cellM_get hkn) rfl (rk 1 rfl rfl (rg_idxX TT_ok (T := U64) (xs := upL G k (scL p v (G k) c) k) rfl (by (repeat (refine (lookA_skip (by omega)).trans ?_)); exact lookA_fam (by omega)) rfl rfl (by omega) (by rw [hUk, hsl2, hGl k hkn]; omega) (rg_ldY TT_ok rfl (by (repeat (refine (lookA_skip (by omega)).trans ?_)); exact lookA_fam (by omega)) rfl rfl rfl (by show ((c : Int)).toNat < _; rw [hUk, hsl2, hGl k hkn]; omega) (rk 4 rfl rfl ?_ (hp := by simp only [Pr.an, Pr.h, num, i64r, true_and, and_true]; first | done | omega)))))))))
    refine rg_idxX TT_ok (T := U64) (xs := upL G k (scL p v (G k) c) k) rfl (by (repeat (refine (lookA_skip (by omega)).trans ?_)); exact lookA_fam (by omega)) rfl rfl (by omega) (by rw [hUk, hsl2, hGl k hkn]; omega) ?_
    refine rg_storeV TT_ok (T := U64) (id := 1 + k) (xs := upL G k (scL p v (G k) c) k) rfl (by (repeat (refine (lookA_skip (by omega)).trans ?_)); exact lookA_fam (by omega)) rfl rfl rfl ((G k).getD c 0 * v % (p : Int)) ?_ (by show ((c : Int)).toNat < _; rw [hUk, hsl2, hGl k hkn]; omega) ?_
    ·have hx : (upL G k (scL p v (G k) c) k).getD ((c : Int)).toNat 0 = (G k).getD c 0 := by rw [Int.toNat_natCast, hUk, scL_get p v (G k) c (by rw [hGl k hkn]; exact hcn), if_neg (by omega)]
     show some [C.I .u64 ((IntKind.wrap .u64 ((upL G k (scL p v (G k) c) k).getD ((c : Int)).toNat 0 * v)).tmod (p : Int))] = _
     rw [hx, mul_mod2 _ _ _ (hGr k hkn c) hv (by omega)]; rfl
    refine re rfl ?_ (ho := ord2 (by kernel_rfl))
    refine at_block (at_then (rt rfl (hp := by simp only [Pr.an, Pr.h, num, i64r, true_and, and_true]; first | done | omega) (at_loop (c + 1) hcn (by show n - (c + 1) < n - c; omega) (wk_nst ⟨sR rfl, sR rfl, sR rfl, sR rfl, sR rfl, sR rfl, sR rfl, sR rfl, sR rfl, sR rfl, sR rfl, sR rfl, trivial⟩ ⟨⟨_, (lookA_skip (by omega)).trans rfl, BLe.refl _⟩, ⟨_, (lookA_skip (by omega)).trans rfl, BLe.refl _⟩, trivial⟩ ((lookA_skip (by omega)).trans rfl) (fun q hq => ?_) (by omega)))))
    by_cases e : q = k
    ·subst e
     refine lookA_hit.trans (congrArg (fun z => some (Blk.vec 25 U64 z)) ?_)
     rw [Int.toNat_natCast, upL_self, upL_self, scL_succ p v (G q) c (by rw [hGl q hkn]; exact hcn)]
    ·refine (lookA_skip (by omega)).trans (Eq.trans ((by (repeat (refine (lookA_skip (by omega)).trans ?_)); exact lookA_fam (by omega))) (congrArg (fun z => some (Blk.vec 25 U64 z)) ?_))
     rw [upL_ne _ _ e, upL_ne _ _ e]
   ·have hcn : n = c := by
     have h2 : ¬ (c : Int) < (n : Int) := of_decide_eq_false h2
     omega
    subst hcn
    refine tr_exit (at_then_exit (at_loop_exit (at_block_exit (at_then ?_))))
    have hU : Rws p n (upL G k (scL p v (G k) n)) := hG.up ⟨by rw [scL_len, hGl k hkn], hsr⟩
    generalize upL G k (scL p v (G k) n) = U at *
    have hUl := fun q (hq : q < n) => (hU q hq).1
    have hUr := fun q (hq : q < n) => (hU q hq).2
    refine tr_seq (rr rfl (tr_block (tr_loop (α := Nat) (fun r => ⟨[(0, .c (.L 1000 0 n (some n))), (1, cU p), (5, cI n), (6, .c (.X 5000000)), (7, .c (.X 6000000)), (25, cI n), (26, cI j), (8, .c (.E I64 (j : Int) 0)), (9, cI k), (93, cI n), (94, cI r)], [(5000000, .vec 3 I64 (zl piv)), (6000000, .vec 3 I64 (zl free))] ++ nst 1000 22 n 25 U64 (elA p U k j r), 17, []⟩) (fun r => r ≤ n) (fun r => n - r) 0 (Nat.zero_le _) ?_ ?_)))
    ·refine wk_nst ⟨sR rfl, sR rfl, sR rfl, sR rfl, sR rfl, sR rfl, sR rfl, sR rfl, sR rfl, sR rfl, sR rfl, trivial⟩ ⟨bR rfl, bR rfl, trivial⟩ rfl (fun q hq => ?_) (by omega)
     rw [elA_zero]
     exact (by (repeat (refine (lookA_skip (by omega)).trans ?_)); exact lookA_fam (by omega))
    intro r hr
    refine rr rfl (tr_seq (tr_cond rfl (fun h3 => ?_) (fun h3 => ?_)))
    ·have hrn : r < n := by
      have h3 : (r : Int) < (n : Int) := of_decide_eq_true h3
      omega
     have hbr : (0 : Int) ≤ (r : Int) ∧ (r : Int) < (n : Int) := ⟨by omega, by omega⟩
     have hAr := elA_self p U k j r
     have hAk := elA_k p U k j r
     have hs0 := hUr r hrn j
     refine tr_skip (at_then (tr_seq (tr_block (rr rfl ?_))))
     refine rb (rxl rfl rfl hbr (rg_ldC TT_ok (c := .X (1 + r)) rfl rfl (cellM_get hrn) rfl (rk 1 rfl rfl (rg_idxX TT_ok (T := U64) (xs := elA p U k j r r) rfl (by (repeat (refine (lookA_skip (by omega)).trans ?_)); exact lookA_fam (by omega)) rfl rfl (by omega) (by rw [hAr, hUl r hrn]; omega) (rg_ldY TT_ok rfl (by (repeat (refine (lookA_skip (by omega)).trans ?_)); exact lookA_fam (by omega)) rfl rfl rfl (by show ((j : Int)).toNat < _; rw [hAr, hUl r hrn]; omega) (re rfl ?_ (ho := ord2 (by kernel_rfl))))))))
     rw [show (elA p U k j r r).getD ((j : Int)).toNat 0 = (U r).getD j 0 by rw [Int.toNat_natCast, hAr]]
     generalize hse : (U r).getD j 0 = s at *
     have back : ∀ (st : St), Wk st ⟨[(0, .c (.L 1000 0 n (some n))), (1, cU p), (5, cI n), (6, .c (.X 5000000)), (7, .c (.X 6000000)), (25, cI n), (26, cI j), (8, .c (.E I64 (j : Int) 0)), (9, cI k), (93, cI n), (94, cI ((r + 1 : Nat) : Int))], [(5000000, .vec 3 I64 (zl piv)), (6000000, .vec 3 I64 (zl free))] ++ nst 1000 22 n 25 U64 (elA p U k j (r + 1)), 17, []⟩ → Wk st ⟨[(0, .c (.L 1000 0 n (some n))), (1, cU p), (5, cI n), (6, .c (.X 5000000)), (7, .c (.X 6000000)), (25, cI n), (26, cI j), (8, .c (.E I64 (j : Int) 0)), (9, cI k), (93, cI n), (94, cI ((r + 1 : Nat) : Int))], [(5000000, .vec 3 I64 (zl piv)), (6000000, .vec 3 I64 (zl free))] ++ nst 1000 22 n 25 U64 (elA p U k j (r + 1)), 17, []⟩ := fun _ h => h
     refine rb (rg 107 rfl rfl (fun h4 => ?_) (fun h4 => ?_))
     ·have h4 : r ≠ k := fun e => by subst e; simp at h4
      refine re rfl (tr_cond rfl (fun h5 => ?_) (fun h5 => ?_))
      ·have h5 : s ≠ 0 := fun e => by subst e; simp at h5
       have e1 : IntKind.wrap .u64 ((p : Int) - s) = (p : Int) - s := wrap_u64 _ (by omega) (by omega)
       refine rr rfl (tr_block (tr_loop (α := Nat) (fun c => ⟨[(0, .c (.L 1000 0 n (some n))), (1, cU p), (5, cI n), (6, .c (.X 5000000)), (7, .c (.X 6000000)), (25, cI n), (26, cI j), (8, .c (.E I64 (j : Int) 0)), (9, cI k), (93, cI n), (94, cI r), (14, cI r), (15, cU s), (111, cI n), (112, cI c)], [(5000000, .vec 3 I64 (zl piv)), (6000000, .vec 3 I64 (zl free))] ++ nst 1000 22 n 25 U64 (upL (elA p U k j r) r (elL p s (U r) (U k) c)), 22, []⟩) (fun c => c ≤ n) (fun c => n - c) 0 (Nat.zero_le _) ?_ ?_))
       ·refine wk_nst ⟨sR rfl, sR rfl, sR rfl, sR rfl, sR rfl, sR rfl, sR rfl, sR rfl, sR rfl, sR rfl, sR rfl, sR rfl, sR rfl, sR rfl, sR rfl, trivial⟩ ⟨bR rfl, bR rfl, trivial⟩ rfl (fun q hq => ?_) (by omega)
        rw [elL_zero, show upL (elA p U k j r) r (U r) = elA p U k j r from by rw [← hAr]; exact upL_id _ _]
        exact (by (repeat (refine (lookA_skip (by omega)).trans ?_)); exact lookA_fam (by omega))
       intro c hc
       have hWr : upL (elA p U k j r) r (elL p s (U r) (U k) c) r = elL p s (U r) (U k) c := upL_self _ _ _
       have hWk : upL (elA p U k j r) r (elL p s (U r) (U k) c) k = U k := by rw [upL_ne _ _ (fun e => h4 e.symm), hAk]
       have hWl := elL_len p s (U r) (U k) c
       have hrl := hUl r hrn
       have hkl := hUl k hkn
       refine rr rfl (tr_seq (tr_cond rfl (fun h6 => ?_) (fun h6 => ?_)))
       ·have hcn : c < n := by
         have h6 : (c : Int) < (n : Int) := of_decide_eq_true h6
         omega
        refine tr_skip (at_then (tr_seq (tr_block (rr rfl ?_))))
        refine rbt (rxl rfl rfl hbr (rg_ldC TT_ok (c := .X (1 + r)) rfl rfl (cellM_get hrn) rfl (rxl rfl rfl hbr (rg_ldC TT_ok (c := .X (1 + r)) rfl rfl (cellM_get hrn) rfl (rk 1 rfl rfl (rg_idxX TT_ok (T := U64) (xs := upL (elA p U k j r) r (elL p s (U r) (U k) c) r) rfl (by (repeat (refine (lookA_skip (by omega)).trans ?_)); exact lookA_fam (by omega)) rfl rfl (by omega) (by rw [hWr, hWl]; omega) (rg_ldY TT_ok rfl (by (repeat (refine (lookA_skip (by omega)).trans ?_)); exact lookA_fam (by omega)) rfl rfl rfl (by show ((c : Int)).toNat < _; rw [hWr, hWl]; omega) ?_)))))))
        refine rxl rfl rfl hbk (rg_ldC TT_ok (c := .X (1 + k)) rfl rfl (cellM_get hkn) rfl (rk 1 rfl rfl (rg_idxX TT_ok (T := U64) (xs := upL (elA p U k j r) r (elL p s (U r) (U k) c) k) rfl (by (repeat (refine (lookA_skip (by omega)).trans ?_)); exact lookA_fam (by omega)) rfl rfl (by omega) (by rw [hWk]; omega) (rg_ldY TT_ok rfl (by (repeat (refine (lookA_skip (by omega)).trans ?_)); exact lookA_fam (by omega)) rfl rfl rfl (by show ((c : Int)).toNat < _; rw [hWk]; omega) (rk 4 rfl rfl ?_ (hp := by simp only [Pr.an, Pr.h, num, i64r, true_and, and_true]; first | done | omega))))))
        refine rg_idxX TT_ok (T := U64) (xs := upL (elA p U k j r) r (elL p s (U r) (U k) c) r) rfl (by (repeat (refine (lookA_skip (by omega)).trans ?_)); exact lookA_fam (by omega)) rfl rfl (by omega) (by rw [hWr, hWl]; omega) ?_
        refine rg_storeV TT_ok (T := U64) (id := 1 + r) (xs := upL (elA p U k j r) r (elL p s (U r) (U k) c) r) rfl (by (repeat (refine (lookA_skip (by omega)).trans ?_)); exact lookA_fam (by omega)) rfl rfl rfl (((U r).getD c 0 + ((p : Int) - s) * (U k).getD c 0) % (p : Int)) ?_ (by show ((c : Int)).toNat < _; rw [hWr, hWl]; omega) ?_
        ·have hx : (upL (elA p U k j r) r (elL p s (U r) (U k) c) r).getD ((c : Int)).toNat 0 = (U r).getD c 0 := by rw [Int.toNat_natCast, hWr, elL_get p s (U r) (U k) c (by omega), if_neg (by omega)]
         have hy : (upL (elA p U k j r) r (elL p s (U r) (U k) c) k).getD ((c : Int)).toNat 0 = (U k).getD c 0 := by rw [Int.toNat_natCast, hWk]
         show some [C.I .u64 ((IntKind.wrap .u64 ((upL (elA p U k j r) r (elL p s (U r) (U k) c) r).getD ((c : Int)).toNat 0 + IntKind.wrap .u64 (IntKind.wrap .u64 ((p : Int) - s) * (upL (elA p U k j r) r (elL p s (U r) (U k) c) k).getD ((c : Int)).toNat 0))).tmod (p : Int))] = _
         rw [hx, hy, e1, muladd_mod2 _ _ _ _ (hUr r hrn c) (by omega) (hUr k hkn c) (by omega)]; rfl
        refine re rfl ?_ (ho := ord2 (by kernel_rfl))
        refine at_block (at_then (rt rfl (hp := by simp only [Pr.an, Pr.h, num, i64r, true_and, and_true]; first | done | omega) (at_loop (c + 1) hcn (by show n - (c + 1) < n - c; omega) (wk_nst ⟨sR rfl, sR rfl, sR rfl, sR rfl, sR rfl, sR rfl, sR rfl, sR rfl, sR rfl, sR rfl, sR rfl, sR rfl, sR rfl, sR rfl, sR rfl, trivial⟩ ⟨⟨_, (lookA_skip (by omega)).trans rfl, BLe.refl _⟩, ⟨_, (lookA_skip (by omega)).trans rfl, BLe.refl _⟩, trivial⟩ ((lookA_skip (by omega)).trans rfl) (fun q hq => ?_) (by omega)))))
        by_cases e : q = r
        ·subst e
         refine lookA_hit.trans (congrArg (fun z => some (Blk.vec 25 U64 z)) ?_)
         rw [Int.toNat_natCast, upL_self, upL_self, elL_succ p s (U q) (U k) c (by omega)]
        ·refine (lookA_skip (by omega)).trans (Eq.trans ((by (repeat (refine (lookA_skip (by omega)).trans ?_)); exact lookA_fam (by omega))) (congrArg (fun z => some (Blk.vec 25 U64 z)) ?_))
         rw [upL_ne _ _ e, upL_ne _ _ e]
       ·have hcn : c = n := by
         have h6 : ¬ (c : Int) < (n : Int) := of_decide_eq_false h6
         omega
        subst hcn
        refine tr_exit (at_then_exit (at_loop_exit (at_block_exit (at_block (at_then (rt rfl (hp := by simp only [Pr.an, Pr.h, num, i64r, true_and, and_true]; first | done | omega) (at_loop (r + 1) hrn (by show c - (r + 1) < c - r; omega) ?_)))))))
        have es := elA_step p U (t := r) (k := k) (j := j) ⟨h4, by rw [hse]; exact h5⟩
        rw [hse, hrl] at es
        refine back _ (wk_nst ⟨sR rfl, sR rfl, sR rfl, sR rfl, sR rfl, sR rfl, sR rfl, sR rfl, sR rfl, sR rfl, sR rfl, trivial⟩ ⟨bR rfl, bR rfl, trivial⟩ rfl (fun q hq => ?_) (by omega))
        rw [← es]
        exact (by (repeat (refine (lookA_skip (by omega)).trans ?_)); exact lookA_fam (by omega))
      ·have h5 : s = 0 := by simpa using h5
       refine tr_skip (at_block (at_then (rt rfl (hp := by simp only [Pr.an, Pr.h, num, i64r, true_and, and_true]; first | done | omega) (at_loop (r + 1) hrn (by show n - (r + 1) < n - r; omega) ?_))))
       refine back _ (wk_nst ⟨sR rfl, sR rfl, sR rfl, sR rfl, sR rfl, sR rfl, sR rfl, sR rfl, sR rfl, sR rfl, sR rfl, trivial⟩ ⟨bR rfl, bR rfl, trivial⟩ rfl (fun q hq => ?_) (by omega))
       rw [elA_skip p U (fun h => h.2 (by rw [hse]; exact h5))]
       exact (by (repeat (refine (lookA_skip (by omega)).trans ?_)); exact lookA_fam (by omega))
     ·have h4 : r = k := by
       have : ((r : Int) = (k : Int)) := by simpa using h4
       omega
      refine re rfl (tr_cond rfl (fun h5 => by cases h5) (fun h5 => ?_))
      refine tr_skip (at_block (at_then (rt rfl (hp := by simp only [Pr.an, Pr.h, num, i64r, true_and, and_true]; first | done | omega) (at_loop (r + 1) hrn (by show n - (r + 1) < n - r; omega) ?_))))
      refine back _ (wk_nst ⟨sR rfl, sR rfl, sR rfl, sR rfl, sR rfl, sR rfl, sR rfl, sR rfl, sR rfl, sR rfl, sR rfl, trivial⟩ ⟨bR rfl, bR rfl, trivial⟩ rfl (fun q hq => ?_) (by omega))
      rw [elA_skip p U (fun h => h.1 h4)]
      exact (by (repeat (refine (lookA_skip (by omega)).trans ?_)); exact lookA_fam (by omega))
    ·have hrn : n = r := by
      have h3 : ¬ (r : Int) < (n : Int) := of_decide_eq_false h3
      omega
     subst hrn
     refine tr_exit (at_then_exit (at_loop_exit (at_block_exit (at_then ?_))))
     refine rbt (rl I64 [(j : Int)] rfl rfl (ra rfl rfl rfl rfl rfl rfl rfl rfl rfl ?_ ?_ (re rfl (at_block (at_then (rt rfl (at_loop (j + 1) hjn (by show n - (j + 1) < n - j; omega) ?_)))))))
     ·show (_ + 1 + (_ + 1) / 4 + 192) * 8 ≤ _; omega
     ·show (_ + 1) * 1 ≤ _; omega
     show Wk _ ⟨[(0, .c (.L 1000 0 n (some n))), (1, cU p), (5, cI n), (6, .c (.X 5000000)), (7, .c (.X 6000000)), (25, cI n), (26, cI ((j + 1 : Nat) : Int))], [(5000000, .vec 3 I64 (zl (kst p n F (j + 1)).2.1)), (6000000, .vec 3 I64 (zl (kst p n F (j + 1)).2.2))] ++ nst 1000 22 n 25 U64 (kst p n F (j + 1)).1, 7, []⟩
     rw [hS']
     exact wk_nstR 5000000 18003000 ⟨sR rfl, sR rfl, sR rfl, sR rfl, sR rfl, sR rfl, sR rfl, trivial⟩ ⟨⟨_, rfl, BLe.of_eq (congrArg (Blk.vec 3 I64) (zl_snoc piv j))⟩, bR rfl, trivial⟩ rfl (fun q hq => (by (repeat (refine (lookA_skip (by omega)).trans ?_)); refine (lookD_w (by omega)).trans ?_; (repeat (refine (lookA_skip (by omega)).trans ?_)); exact lookA_fam (by omega))) (by omega) (by omega) (by omega) rfl (by omega) (by omega) (by omega)
  ·have hidx : FnS Tryz.prog 238 [cS (.sl U64) L, cloJ j] (.c (.I .i64 (-1))) := kidx_s L j (-1) (by omega) (fun i hi => by rw [hLg i (by omega), (i1 _ (by omega)).1]; exact hjn) (.inr ⟨rfl, fun i hi => by rw [hLg i (by omega)]; exact hz _ (by omega) (by omega)⟩)
   rw [hL] at hidx
   refine rb (rxl rfl rfl ?_ (rmf rfl rfl rfl (rct (z := .I .i64 (-1)) rfl rfl rfl (fun q hq => (by (repeat (refine (lookA_skip (by omega)).trans ?_)); exact lookA_fam (by omega))) (by omega) hsl (Nat.le_refl _) hidx (fun _ _ _ h => h) (re rfl ?_))))
   ·simp only [Pr.an, Pr.h, true_and, and_true]; omega
   have hS' : kst p n F (j + 1) = (B, piv, free ++ [j]) := hS.trans (kstep_none hz)
   refine tr_seq (rr rfl (tr_cond rfl (fun h1 => ?_) (fun h1 => ?_)))
   ·refine rb (rl I64 [(j : Int)] rfl rfl (ra rfl rfl rfl rfl rfl rfl rfl rfl rfl ?_ ?_ (re rfl (tr_exit (at_then_exit (at_block_exit (at_then (rt rfl (at_loop (j + 1) hjn (by show n - (j + 1) < n - j; omega) ?_)))))))))
    ·show (_ + 1 + (_ + 1) / 4 + 192) * 8 ≤ _; omega
    ·show (_ + 1) * 1 ≤ _; omega
    show Wk _ ⟨[(0, .c (.L 1000 0 n (some n))), (1, cU p), (5, cI n), (6, .c (.X 5000000)), (7, .c (.X 6000000)), (25, cI n), (26, cI ((j + 1 : Nat) : Int))], [(5000000, .vec 3 I64 (zl (kst p n F (j + 1)).2.1)), (6000000, .vec 3 I64 (zl (kst p n F (j + 1)).2.2))] ++ nst 1000 22 n 25 U64 (kst p n F (j + 1)).1, 7, []⟩
    rw [hS']
    exact wk_nstR 6000000 12003000 ⟨sR rfl, sR rfl, sR rfl, sR rfl, sR rfl, sR rfl, sR rfl, trivial⟩ ⟨bR rfl, ⟨_, rfl, BLe.of_eq (congrArg (Blk.vec 3 I64) (zl_snoc free j))⟩, trivial⟩ rfl (fun q hq => (by (repeat (refine (lookA_skip (by omega)).trans ?_)); refine (lookD_w (by omega)).trans ?_; (repeat (refine (lookA_skip (by omega)).trans ?_)); exact lookA_fam (by omega))) (by omega) (by omega) (by omega) rfl (by omega) (by omega) (by omega)
   ·exfalso
    have h1 : ¬ ((piv.length : Int) + -1 < (piv.length : Int)) := of_decide_eq_false h1
    omega
 ·have hjn : j = n := by
   have h : ¬ (j : Int) < (n : Int) := of_decide_eq_false h
   omega
  subst hjn
  have hker : kerL p j F = (kst p j F j).2.2.map fun f => bsP p j (kst p j F j).1 (kst p j F j).2.1 f (kst p j F j).2.1.length := rfl
  generalize hSj : kst p j F j = S at *
  obtain ⟨B, piv, free⟩ := S
  simp only at i1 i2 i3 i4 hker ⊢
  have hzp := zl_len piv
  have hzf := zl_len free
  have hkl : (kerL p j F).length = free.length := by rw [hker, List.length_map]
  have hkg : ∀ q, q < free.length → (kerL p j F)[q]? = some (bsP p j B piv (free.getD q 0) piv.length) := fun q hq => by
   rw [hker, List.getElem?_map, List.getD_eq_getElem?_getD, List.getElem?_eq_getElem hq]; rfl
  generalize kerL p j F = KL at *
  refine tr_exit (at_then_exit (at_loop_exit (at_block_exit (at_then (rr rfl ?_)))))
  refine tr_frzN 5000000 rfl rfl rfl (by omega) (tr_frzN 6000000 rfl rfl rfl (by omega) ?_)
  refine tr_seq (rr rfl (tr_block (tr_loop (α := Nat) (fun q => ⟨[(0, .c (.L 1000 0 j (some j))), (1, cU p), (5, cI j), (6, cS I64 (zl piv)), (17, .c (.X 10000000)), (149, cS I64 (zl free)), (150, cI free.length), (151, cI q)], [(10000000, .vec 22 (.sl U64) (KL.take q))] ++ nst 1000 22 j 25 U64 B, 11, []⟩) (fun q => q ≤ free.length) (fun q => free.length - q) 0 (Nat.zero_le _) ?_ ?_)))
  ·exact wk_nil 10000000 22 (.sl U64) (m2 := nst 1000 22 j 25 U64 B) ⟨.inl (sR rfl), .inl (sR rfl), .inl (sR rfl), .inl (sR rfl), .inr ⟨rfl, rfl⟩, .inl (sR rfl), .inl ⟨_, rfl, AVle.of_eq (congrArg (fun z : Nat => cI (z : Int)) hzf)⟩, .inl (sR rfl), trivial⟩ ⟨bR rfl, WkM.fam fun q hq => (by (repeat (refine (lookA_skip (by omega)).trans ?_)); exact lookA_fam (by omega))⟩ rfl (memP_cn (conc := [(10000000, .vec 22 (.sl U64) [])]) rfl (by omega) (by omega))
  intro q hq
  have hql : (KL.take q).length = q := by rw [List.length_take]; omega
  refine rr rfl (tr_seq (tr_cond rfl (fun h1 => ?_) (fun h1 => ?_)))
  ·have hqn : q < free.length := by
    have h1 : (q : Int) < (free.length : Int) := of_decide_eq_true h1
    omega
   have hfb := i2.fb q hqn
   have hff : (zl free).getD ((q : Int)).toNat 0 = ((free.getD q 0 : Nat) : Int) := by rw [Int.toNat_natCast, zl_get]
   have hffd : (zl free).getD ((q : Int)).toNat I64.dflt = ((free.getD q 0 : Nat) : Int) := hff
   have hkq := hkg q hqn
   generalize free.getD q 0 = f at *
   refine tr_skip (at_then (tr_seq (tr_block (rr rfl (hp := by simp only [Pr.an, Pr.h, num, i64r, true_and, and_true]; first | done | omega) (rb ?_)))))
   refine rm U64 j rfl rfl rfl rfl rfl rfl (zr_int .u64) rfl ?_ ?_ (re rfl ?_)
   ·show _ * 8 ≤ _; omega
   ·show _ * 1 ≤ _; omega
   have hrl : (List.replicate j (0 : Int)).length = j := List.length_replicate
   have hrl2 : (List.replicate j U64.dflt).length = j := List.length_replicate
   refine rr rfl (hp := by simp only [Pr.an, Pr.h, num, i64r, true_and, and_true]; omega) (tr_seq (rr rfl (tr_block (tr_loop (α := Nat) (fun t => ⟨[(0, .c (.L 1000 0 j (some j))), (1, cU p), (5, cI j), (6, cS I64 (zl piv)), (17, .c (.X 10000000)), (149, cS I64 (zl free)), (150, cI free.length), (151, cI q), (19, cI f), (20, .c (.X 13001000)), (160, cS I64 (zl piv)), (161, cI piv.length), (162, cI t)], [(10000000, .vec 22 (.sl U64) (KL.take q)), (13001000, .vec 25 U64 (bsP p j B piv f t))] ++ nst 1000 22 j 25 U64 B, 16, []⟩) (fun t => t ≤ piv.length) (fun t => piv.length - t) 0 (Nat.zero_le _) ?_ ?_))))
   ·refine wk_nst ⟨sR rfl, sR rfl, sR rfl, sR rfl, sR rfl, sR rfl, sR rfl, sR rfl, ⟨_, rfl, AVle.of_eq ?_⟩, sR rfl, sR rfl, ⟨_, rfl, AVle.of_eq ?_⟩, sR rfl, trivial⟩ ⟨bR rfl, ⟨_, rfl, BLe.of_eq ?_⟩, trivial⟩ rfl (fun q hq => (by (repeat (refine (lookA_skip (by omega)).trans ?_)); exact lookA_fam (by omega))) (by omega)
    ·exact congrArg cI hff
    ·exact congrArg (fun z : Nat => cI (z : Int)) hzp
    ·refine congrArg (Blk.vec 25 U64) ?_
     rw [hff, Int.toNat_natCast]; rfl
   intro t ht
   have hbl := bsP_len p j B piv f t
   have hpl := i2.pl
   refine rr rfl (tr_seq (tr_cond rfl (fun h2 => ?_) (fun h2 => ?_)))
   ·have htn : t < piv.length := by
     have h2 : (t : Int) < (piv.length : Int) := of_decide_eq_true h2
     omega
    have hpb := i2.pb t htn
    have hpp : (zl piv).getD ((t : Int)).toNat 0 = ((piv.getD t 0 : Nat) : Int) := by rw [Int.toNat_natCast, zl_get]
    have hppd : (zl piv).getD ((t : Int)).toNat I64.dflt = ((piv.getD t 0 : Nat) : Int) := hpp
    have htj : t < j := by omega
    have hBt := (i1 t htj).2 f
    have hBl := (i1 t htj).1
    have hbt : (0 : Int) ≤ (t : Int) ∧ (t : Int) < (j : Int) := ⟨by omega, by omega⟩
    have hstep : bsP p j B piv f (t + 1) = (bsP p j B piv f t).set (piv.getD t 0) (((p : Int) - (B t).getD f 0) % (p : Int)) := rfl
    refine tr_skip (at_then (tr_seq (tr_block (rr rfl (hp := by simp only [Pr.an, Pr.h, num, i64r, true_and, and_true]; first | done | omega) ?_))))
    refine rbt (rxl rfl rfl hbt (rg_ldC TT_ok (c := .X (1 + t)) rfl rfl (cellM_get htj) rfl (rk 1 rfl rfl (rg_idxX TT_ok (T := U64) (xs := B t) rfl (by (repeat (refine (lookA_skip (by omega)).trans ?_)); exact lookA_fam (by omega)) rfl rfl (by omega) (by omega) (rg_ldY TT_ok rfl (by (repeat (refine (lookA_skip (by omega)).trans ?_)); exact lookA_fam (by omega)) rfl rfl rfl (by show ((f : Int)).toNat < _; omega) (re rfl ?_ (hp := ?_)))))))
    ·refine at_block (at_then (rt rfl (hp := by simp only [Pr.an, Pr.h, num, i64r, true_and, and_true]; first | done | omega) (at_loop (t + 1) htn (by show piv.length - (t + 1) < piv.length - t; omega) (wk_nst ⟨sR rfl, sR rfl, sR rfl, sR rfl, sR rfl, sR rfl, sR rfl, sR rfl, sR rfl, sR rfl, sR rfl, sR rfl, sR rfl, trivial⟩ ⟨bR rfl, ⟨_, rfl, BLe.of_eq ?_⟩, trivial⟩ rfl (fun q hq => (by (repeat (refine (lookA_skip (by omega)).trans ?_)); exact lookA_fam (by omega))) (by omega)))))
     refine congrArg (Blk.vec 25 U64) ?_
     have e1 : IntKind.wrap .u64 ((p : Int) - (B t).getD f 0) = (p : Int) - (B t).getD f 0 := wrap_u64 _ (by omega) (by omega)
     rw [hstep, hpp, Int.toNat_natCast, Int.toNat_natCast, e1, Int.tmod_eq_emod_of_nonneg (by omega)]
    ·simp only [Pr.an, Pr.h, num, i64r, true_and, and_true]
     omega
   ·have htn : t = piv.length := by
     have h2 : ¬ (t : Int) < (piv.length : Int) := of_decide_eq_false h2
     omega
    subst htn
    refine tr_exit (at_then_exit (at_loop_exit (at_block_exit (at_then (tr_frzN 13001000 rfl rfl rfl (by omega) ?_)))))
    refine rbt (rl (.sl U64) [bsP p j B piv f piv.length] rfl rfl (ra rfl rfl rfl rfl rfl rfl rfl rfl rfl ?_ ?_ (re rfl (at_block (at_then (rt rfl (hp := by simp only [Pr.an, Pr.h, num, i64r, true_and, and_true]; first | done | omega) (at_loop (q + 1) hqn (by show free.length - (q + 1) < free.length - q; omega) ?_)))))))
    ·show (_ + 1 + (_ + 1) / 4 + 192) * 24 ≤ _; omega
    ·show (_ + 1) * 1 ≤ _; omega
    refine wk_nstR 10000000 17003000 ⟨sR rfl, sR rfl, sR rfl, sR rfl, sR rfl, sR rfl, sR rfl, sR rfl, trivial⟩ ⟨⟨_, rfl, BLe.of_eq ?_⟩, trivial⟩ rfl (fun q hq => (by (repeat (refine (lookA_skip (by omega)).trans ?_)); refine (lookD_w (by omega)).trans ?_; (repeat (refine (lookA_skip (by omega)).trans ?_)); exact lookA_fam (by omega))) (by omega) (by omega) (by omega) rfl (by omega) (by omega) (by omega)
    refine congrArg (Blk.vec 22 (.sl U64)) ?_
    rw [List.take_add_one, hkq]; rfl
  ·have hqn : q = free.length := by
    have h1 : ¬ (q : Int) < (free.length : Int) := of_decide_eq_false h1
    omega
   subst hqn
   rw [List.take_of_length_le (by omega)]
   exact tr_exit (at_then_exit (at_loop_exit (at_block_exit (at_then (tr_frzN 10000000 rfl rfl rfl (by omega) (rr rfl (tr_ret (at_retC TT_ok rfl (AVle.refl _)))))))))
end Go.El

/- Plain: Berlekamp's matrix. Own work; no condition. -/
namespace Go.El
open Go Go.Proofs
namespace Fx
variable {p : Nat}
def sF (f : Nat → Fx p) : Nat → Fx p
 | 0 => 0
 | k + 1 => sF f k + f k
theorem sF_congr {f g : Nat → Fx p} : ∀ {k : Nat}, (∀ i, i < k → f i = g i) → sF f k = sF g k
 | 0, _ => rfl
 | k + 1, h => by rw [sF, sF, sF_congr (fun i hi => h i (by omega)), h k (by omega)]
theorem sF_cong {Q : Fx p} {f g : Nat → Fx p} : ∀ {k : Nat}, (∀ i, i < k → Q ∣ f i - g i) → Q ∣ sF f k - sF g k
 | 0, _ => cong_refl Q _
 | k + 1, h => cong_add (sF_cong fun i hi => h i (by omega)) (h k (by omega))
theorem sF_frob (H : P31 p) (f : Nat → Fx p) : ∀ k, pk (sF f k) p = sF (fun i => pk (f i) p) k
 | 0 => zero_pk (by have := H.hp.1; omega)
 | k + 1 => by rw [sF, frob H, sF_frob H f k]; rfl
theorem sF_K (f : Nat → Int) : ∀ k, sF (fun i => (K (f i) : Fx p)) k = K (sm f k)
 | 0 => K_zero.symm
 | k + 1 => by rw [sF, sF_K f k, sm, K_add]
theorem fx_take (w : List Int) : ∀ k, (fx (w.take k) : Fx p) = sF (fun c => K (w.getD c 0) * pk X c) k
 | 0 => by rw [List.take_zero, fx_nil]; rfl
 | k + 1 => by
  rw [sF, ← fx_take w k, pk_X]
  exact mk_congr (ps_take_succ w k) _ ((Pol.ps p _).add ((Pol.K p _).mul (Pol_X k)))
theorem fx_sum {w : List Int} {n : Nat} (h : w.length ≤ n) : (fx w : Fx p) = sF (fun c => K (w.getD c 0) * pk X c) n := by
 rw [← fx_take, List.take_of_length_le h]
def cbP (x : Nat → Int) (L : Nat → List Int) (k : Nat) : PS := fun r => sm (fun c => x c * (L c).getD r 0) k
theorem cbP_succ (x : Nat → Int) (L : Nat → List Int) (k : Nat) : cbP x L k + PS.K (x k) * ps (L k) = cbP x L (k + 1) := PS.ext fun i => by rw [PS.add_at, PS.K_mul]; rfl
theorem comb_pol (x : Nat → Int) (L : Nat → List Int) (k : Nat) : Pol p (cbP x L k) := by
 induction k with
 | zero => exact ⟨0, fun i _ => Int.zero_emod _⟩
 | succ k ih => exact Pol.cg (ih.add ((Pol.K p (x k)).mul (Pol.ps p (L k)))) (Cg.of_eq (cbP_succ x L k))
theorem comb_mk (x : Nat → Int) (L : Nat → List Int) : ∀ k, sF (fun c => (K (x c) * fx (L c) : Fx p)) k = mk (cbP x L k) (comb_pol x L k)
 | 0 => mk_congr (PS.ext fun i => rfl) (Pol.zero p) _
 | k + 1 => by
  rw [sF, comb_mk x L k]
  exact mk_congr (cbP_succ x L k) ((comb_pol x L k).add ((Pol.K p (x k)).mul (Pol.ps p (L k)))) _
theorem fx_comb {w : List Int} {n : Nat} {x : Nat → Int} {L : Nat → List Int} {k : Nat} (hw : w.length ≤ n) (hL : ∀ c, c < k → (L c).length ≤ n) (h : ∀ r, r < n → w.getD r 0 % (p : Int) = sm (fun c => x c * (L c).getD r 0) k % p) : (fx w : Fx p) = sF (fun c => (K (x c) * fx (L c) : Fx p)) k := by
 rw [comb_mk]
 refine mk_eq.2 (Cg.of fun r => ?_)
 by_cases hr : r < n
 ·exact h r hr
 ·rw [ps_at, getD_ge w (by omega), cbP, sm_zero (fun c hc => by rw [getD_ge (L c) (by have := hL c hc; omega), Int.mul_zero])]
theorem comb_fx {w : List Int} {x : Nat → Int} {L : Nat → List Int} {k : Nat} (h : (fx w : Fx p) = sF (fun c => (K (x c) * fx (L c) : Fx p)) k) (r : Nat) : w.getD r 0 % (p : Int) = sm (fun c => x c * (L c).getD r 0) k % p := by
 rw [comb_mk] at h
 exact (mk_eq.1 h).at r
end Fx
open Fx
structure BkM (p n : Nat) (f : List Int) (im : Nat → List Int) (G : Nat → Nat → Int) : Prop where
 len : ∀ c, c < n → (im c).length ≤ n
 cong : ∀ c, c < n → (fx f : Fx p) ∣ fx (im c) - pk X (p * c)
 ent : ∀ r c, r < n → c < n → G r c % (p : Int) = ((im c).getD r 0 - if r = c then 1 else 0) % p
theorem BkM.dot {p n : Nat} {f : List Int} {im : Nat → List Int} {G : Nat → Nat → Int} (h : BkM p n f im G) (w : Nat → Int) {r : Nat} (hr : r < n) : dotz n (G r) w % (p : Int) = (sm (fun c => w c * (im c).getD r 0) n - w r) % p := by
 have e1 : dotz n (G r) w % (p : Int) = sm (fun c => w c * (im c).getD r 0 + (-1) * (if c = r then w c else 0)) n % p := sm_mod fun c hc => by
  rw [mul_emod_cong (h.ent r c hr hc) rfl]
  congr 1
  by_cases e : r = c
  ·subst e
   rw [if_pos rfl, if_pos rfl, Int.sub_mul, Int.mul_comm ((im r).getD r 0)]; omega
  ·rw [if_neg e, if_neg (fun h => e h.symm), Int.sub_zero, Int.mul_comm]; omega
 rw [e1, sm_add, sm_mul, sm_one (a := r) hr (fun i _ hne => if_neg hne), if_pos rfl]
 congr 1; omega
theorem BkM.iff {p n : Nat} (H : P31 p) {f : List Int} {im : Nat → List Int} {G : Nat → Nat → Int} (h : BkM p n f im G) (hf : pcan p f) (hfl : f.length = n + 1) {w : List Int} (hw : w.length ≤ n) : Sol p n G (fun c => w.getD c 0) ↔ (fx f : Fx p) ∣ pk (fx w) p - fx w := by
 have hA : (fx f : Fx p) ∣ sF (fun c => (K (w.getD c 0) * fx (im c) : Fx p)) n - pk (fx w) p := by
  have e : pk (fx w : Fx p) p = sF (fun c => K (w.getD c 0) * pk X (p * c)) n := by
   rw [fx_sum hw, sF_frob H]
   exact sF_congr fun c _ => by rw [mul_pk, fermat H, ← pk_mul, Nat.mul_comm]
  rw [e]
  exact sF_cong fun c hc => cong_mul (cong_refl _ _) (h.cong c hc)
 constructor
 ·intro hs
  have e : (fx w : Fx p) = sF (fun c => (K (w.getD c 0) * fx (im c) : Fx p)) n := fx_comb hw h.len fun r hr => by
   have h1 := hs r hr
   rw [h.dot _ hr] at h1
   have := Int.emod_eq_emod_iff_emod_sub_eq_zero.2 h1
   exact this.symm
  rw [← e] at hA
  exact dvd_sub_comm hA
 ·intro hd r hr
  have h1 := dvd_sub_trans hA hd
  have h2 := dvd_small H h1 (by
   have h3 := sz_sub H.pos (sF (fun c => (K (w.getD c 0) * fx (im c) : Fx p)) n) (fx w)
   have h4 := sz_list H.pos w (p := (p : Int))
   have h5 : sz (sF (fun c => (K (w.getD c 0) * fx (im c) : Fx p)) n) ≤ n := by
    rw [comb_mk]
    refine sz_lt H.pos _ (fun i hi => ?_)
    rw [cbP, sm_zero (fun c hc => by rw [getD_ge (im c) (by have := h.len c hc; omega), Int.mul_zero]), Int.zero_emod]
   rw [sz_fx hf]; omega)
  have h3 := comb_fx (eq_of_sub h2).symm r
  rw [h.dot _ hr]
  exact Int.emod_eq_emod_iff_emod_sub_eq_zero.1 h3.symm
theorem BkM.irr {p n : Nat} (H : P31 p) {f : List Int} {im : Nat → List Int} {F : Nat → List Int} (h : BkM p n f im (mG F)) (hF : Rws p n F) (hf : Mon p f) (hfl : f.length = n + 1) (hs : Sqf (fx f : Fx p)) {g : List Int} (hg : Mon p g) (hg2 : 2 ≤ g.length) (hd : (fx g : Fx p) ∣ fx f) (hc : ∀ q, q < (kerL p n F).length → ∃ c, (fx g : Fx p) ∣ fx ((kerL p n F).getD q []) - K c) : Irr (fx g : Fx p) := by
 refine berl H (hf.fne H) hs hd (by rw [sz_fx hg.c]; exact hg2) fun w hw => ?_
 obtain ⟨m1, m2, m3⟩ := modF_ok H hf.c hf.ne w
 have hw2 : (fx f : Fx p) ∣ pk (fx (modF H (f) w)) p - fx (modF H f w) := dvd_sub_trans (cong_pk m3 p) (dvd_sub_trans hw (dvd_sub_comm m3))
 have hsol := (h.iff H hf.c hfl (by omega)).2 hw2
 obtain ⟨k1, k2, k3⟩ := kerL_ok H hF
 obtain ⟨x, hx⟩ := k3 _ hsol
 have e : (fx (modF H f w) : Fx p) = sF (fun q => (K (x q) * fx ((kerL p n F).getD q []) : Fx p)) (kerL p n F).length := fx_comb (n := n) (by omega) (fun q hq => by
  have hm : (kerL p n F).getD q [] ∈ kerL p n F := by
   rw [List.getD_eq_getElem?_getD, List.getElem?_eq_getElem hq]; exact List.getElem_mem hq
  exact Nat.le_of_eq (k2 _ hm).1) hx
 have hcc : ∃ cc : Nat → Int, ∀ q, q < (kerL p n F).length → (fx g : Fx p) ∣ fx ((kerL p n F).getD q []) - K (cc q) := by
  refine ⟨fun q => if hq : q < (kerL p n F).length then Classical.choose (hc q hq) else 0, fun q hq => ?_⟩
  simp only [dif_pos hq]
  exact Classical.choose_spec (hc q hq)
 obtain ⟨cc, hcc⟩ := hcc
 refine ⟨sm (fun q => x q * cc q) (kerL p n F).length, ?_⟩
 have h1 : (fx g : Fx p) ∣ fx (modF H f w) - K (sm (fun q => x q * cc q) (kerL p n F).length) := by
  rw [e, ← sF_K]
  exact sF_cong fun q hq => by rw [K_mul]; exact cong_mul (cong_refl _ _) (hcc q hq)
 exact dvd_sub_trans (dvd_sub_comm (dvd_trans hd m3)) h1
end Go.El

/- Plain: what splitting a squarefree polynomial modulo p computes. Own work; no condition. -/
namespace Go.El
open Go Go.Proofs Fx
noncomputable def imF {p : Nat} (H : P31 p) (f : List Int) : Nat → List Int
 | 0 => [1]
 | c + 1 => prodF p f (imF H f c) (modF H f (pk X p))
theorem imF_ok {p : Nat} (H : P31 p) {f : List Int} (hf : Mon p f) (h3 : 3 ≤ f.length) : ∀ c, pcan p (imF H f c) ∧ (imF H f c).length < f.length ∧ (fx f : Fx p) ∣ fx (imF H f c) - pk X (p * c)
 | 0 => by
  refine ⟨⟨rp_single (by decide) (by have := H.hp.1; omega), .inr (by show (1 : Int) ≠ 0; decide)⟩, by show 1 < _; omega, ?_⟩
  rw [Nat.mul_zero, imF, fx_one]; exact cong_refl _ _
 | c + 1 => by
  obtain ⟨i1, i2, i3⟩ := imF_ok H hf h3 c
  obtain ⟨m1, m2, m3⟩ := modF_ok H hf.c hf.ne (pk (X : Fx p) p)
  obtain ⟨q1, q2, q3⟩ := prodF_ok H (a := imF H f c) (b := modF H f (pk X p)) hf.c hf.ne
  refine ⟨q1, q2, dvd_sub_trans q3 ?_⟩
  rw [Nat.mul_succ, pk_add]
  exact cong_mul i3 m3
def mtR (p n : Nat) (im : Nat → List Int) (i : Nat) : Nat → List Int := fun r => (List.range n).map fun c => if c < i then (if r = c then ((im c).getD r 0 + (p : Int) - 1) % (p : Int) else (im c).getD r 0) else 0
def mtP (p n : Nat) (im : Nat → List Int) (i j : Nat) : Nat → List Int := fun r => if r < j then (mtR p n im i r).set i ((im i).getD r 0) else mtR p n im i r
theorem mtR_len (p n : Nat) (im : Nat → List Int) (i r : Nat) : (mtR p n im i r).length = n := by simp [mtR]
theorem mtR_get (p n : Nat) (im : Nat → List Int) (i r : Nat) {c : Nat} (h : c < n) : (mtR p n im i r).getD c 0 = if c < i then (if r = c then ((im c).getD r 0 + (p : Int) - 1) % (p : Int) else (im c).getD r 0) else 0 := getDr _ h
theorem mtP_len (p n : Nat) (im : Nat → List Int) (i j r : Nat) : (mtP p n im i j r).length = n := by
 unfold mtP
 split
 ·rw [List.length_set, mtR_len]
 ·exact mtR_len _ _ _ _ _
theorem mtP_zero (p n : Nat) (im : Nat → List Int) (i : Nat) : mtP p n im i 0 = mtR p n im i := funext fun r => by unfold mtP; rw [if_neg (by omega)]
theorem mtP_self (p n : Nat) (im : Nat → List Int) (i j : Nat) : mtP p n im i j j = mtR p n im i j := by unfold mtP; rw [if_neg (by omega)]
theorem mtP_step (p n : Nat) (im : Nat → List Int) (i j : Nat) : upL (mtP p n im i j) j ((mtR p n im i j).set i ((im i).getD j 0)) = mtP p n im i (j + 1) := funext fun r => by
 unfold upL mtP
 by_cases e : r = j
 ·subst e; rw [if_pos rfl, if_pos (by omega)]
 ·rw [if_neg e]
  by_cases h : r < j
  ·rw [if_pos h, if_pos (by omega)]
  ·rw [if_neg h, if_neg (by omega)]
theorem set_getD (l : List Int) (i c : Nat) (x : Int) (h : i < l.length) : (l.set i x).getD c 0 = if i = c then x else l.getD c 0 := by
 rw [List.getD_eq_getElem?_getD, List.getElem?_set]
 by_cases e : i = c
 ·subst e; rw [if_pos rfl, if_pos rfl, if_pos h]; rfl
 ·rw [if_neg e, if_neg e, List.getD_eq_getElem?_getD]
theorem mtP_get {p n : Nat} {im : Nat → List Int} {i r c : Nat} (hi : i < n) (hc : c < n) : (mtP p n im i (im i).length r).getD c 0 = if c = i then (im i).getD r 0 else (mtR p n im i r).getD c 0 := by
 unfold mtP
 by_cases h : r < (im i).length
 ·rw [if_pos h, set_getD _ _ _ _ (by rw [mtR_len]; exact hi)]
  by_cases e : i = c
  ·rw [if_pos e, if_pos e.symm]
  ·rw [if_neg e, if_neg (fun h => e h.symm)]
 ·rw [if_neg h]
  by_cases e : c = i
  ·subst e
   rw [if_pos rfl, mtR_get p n im c r hc, if_neg (by omega), getD_ge _ (by omega)]
  ·rw [if_neg e]
theorem mtR_step {p n : Nat} {im : Nat → List Int} {i : Nat} (hi : i < n) : ∀ r, r < n → upL (mtP p n im i (im i).length) i ((mtP p n im i (im i).length i).set i (((im i).getD i 0 + (p : Int) - 1) % (p : Int))) r = mtR p n im (i + 1) r := by
 intro r hr
 have hl := mtP_len p n im i (im i).length
 unfold upL
 by_cases e : r = i
 ·subst e
  rw [if_pos rfl]
  refine extD (by rw [List.length_set, hl, mtR_len]) fun c hc => ?_
  rw [List.length_set, hl] at hc
  rw [set_getD _ _ _ _ (by rw [hl]; exact hr), mtP_get hr hc, mtR_get p n im (r + 1) r hc, mtR_get p n im r r hc]
  by_cases e : r = c
  ·subst e; rw [if_pos rfl, if_pos (by omega), if_pos rfl]
  ·rw [if_neg e, if_neg (fun h => e h.symm), if_neg e]
   by_cases h2 : c < r
   ·rw [if_pos h2, if_pos (by omega)]
   ·rw [if_neg h2, if_neg (by omega)]
 ·rw [if_neg e]
  refine extD (by rw [hl, mtR_len]) fun c hc => ?_
  rw [hl] at hc
  rw [mtP_get hi hc, mtR_get p n im (i + 1) r hc, mtR_get p n im i r hc]
  by_cases e2 : c = i
  ·subst e2; rw [if_pos rfl, if_pos (by omega), if_neg e]
  ·rw [if_neg e2]
   by_cases h2 : c < i
   ·simp only [if_pos h2, if_pos (show c < i + 1 by omega)]
   ·rw [if_neg h2, if_neg (by omega)]
theorem mtR_rws {p n : Nat} (H : P31 p) {im : Nat → List Int} (h : ∀ c, rp p (im c)) (i : Nat) : Rws p n (mtR p n im i) := fun r _ => ⟨mtR_len _ _ _ _ _, fun c => by
 have hp := H.pos
 by_cases hc : c < n
 ·rw [mtR_get p n im i r hc]
  split
  ·split
   ·exact ⟨Int.emod_nonneg _ (by omega), Int.emod_lt_of_pos _ hp⟩
   ·exact h c r
  ·exact ⟨Int.le_refl _, hp⟩
 ·rw [getD_ge _ (by rw [mtR_len]; omega)]
  exact ⟨Int.le_refl _, hp⟩⟩
theorem mtR_bk {p n : Nat} {f : List Int} {im : Nat → List Int} (h1 : ∀ c, (im c).length ≤ n) (h2 : ∀ c, (fx f : Fx p) ∣ fx (im c) - pk X (p * c)) : BkM p n f im (mG (mtR p n im n)) where
 len := fun c _ => h1 c
 cong := fun c _ => h2 c
 ent := fun r c _ hc => by
  show (mtR p n im n r).getD c 0 % (p : Int) = _
  rw [mtR_get p n im n r hc, if_pos hc]
  by_cases e : r = c
  ·rw [if_pos e, if_pos e, Int.emod_emod, show (im c).getD r 0 + (p : Int) - 1 = (im c).getD r 0 - 1 + p by omega, Int.add_emod_right]
  ·rw [if_neg e, if_neg e, Int.sub_zero]
structure SepPre (p : Nat) (f v : List Int) : Prop where
 l200 : f.length ≤ 200
 mon : Mon p f
 two : 2 ≤ f.length
 sqf : Sqf (fx f : Fx p)
 c : pcan p v
 ne : v ≠ []
 lv : v.length ≤ 200
 kn : (fx f : Fx p) ∣ pk (fx v) p - fx v
theorem SepPre.ex {p : Nat} (H : P31 p) {f v : List Int} (h : SepPre p f v) : ∃ l, SepOk p f (fx v) l ∧ l.length + 1 ≤ f.length ∧ FnV Tryz.prog 184 [aP f p, aP v p] 101 PT (lP p l) :=
 separate_s H (f.length + 1) f v (Nat.lt_succ_self _) h.l200 h.mon h.two h.sqf h.c h.ne h.lv h.kn
open Classical in
noncomputable def sepR {p : Nat} (H : P31 p) (f v : List Int) : List (List Int) := if h : SepPre p f v then Classical.choose (h.ex H) else []
theorem sepR_ok {p : Nat} (H : P31 p) {f v : List Int} (h : SepPre p f v) : SepOk p f (fx v) (sepR H f v) ∧ (sepR H f v).length + 1 ≤ f.length ∧ FnV Tryz.prog 184 [aP f p, aP v p] 101 PT (lP p (sepR H f v)) := by
 unfold sepR
 rw [dif_pos h]
 exact Classical.choose_spec (h.ex H)
noncomputable def spl {p : Nat} (H : P31 p) (f : List Int) (KL : List (List Int)) : Nat → List (List Int)
 | 0 => [f]
 | q + 1 => (spl H f KL q).flatMap fun g => sepR H g (trimW (KL.getD q []))
theorem prodL_flat {p : Nat} {φ : List Int → List (List Int)} : ∀ {l : List (List Int)}, (∀ g ∈ l, prodL p (φ g) = fx g) → prodL p (l.flatMap φ) = prodL p l
 | [], _ => rfl
 | g :: l, h => by
  rw [List.flatMap_cons, prodL_app, h g (by simp), prodL_flat fun g hg => h g (by simp [hg])]; rfl
theorem prodL_sz {p : Nat} (H : P31 p) : ∀ {l : List (List Int)}, (∀ g ∈ l, Mon p g ∧ 2 ≤ g.length) → prodL p l ≠ 0 ∧ l.length + 1 ≤ sz (prodL p l)
 | [], _ => ⟨one_ne H, by rw [prodL, sz_one H]; exact Nat.le_refl _⟩
 | g :: l, h => by
  obtain ⟨h1, h2⟩ := prodL_sz H (l := l) fun g hg => h g (by simp [hg])
  obtain ⟨m1, m2⟩ := h g (by simp)
  have h3 := sz_mul H (m1.fne H) h1
  rw [sz_fx m1.c] at h3
  refine ⟨mul_ne H (m1.fne H) h1, ?_⟩
  rw [prodL, List.length_cons]; omega
theorem flat_len {φ : List Int → List (List Int)} {b : Nat} : ∀ {l : List (List Int)}, (∀ g ∈ l, (φ g).length ≤ b) → (l.flatMap φ).length ≤ l.length * b
 | [], _ => by simp
 | g :: l, h => by
  have h1 := flat_len (l := l) fun g hg => h g (by simp [hg])
  have h2 := h g (by simp)
  rw [List.flatMap_cons, List.length_append, List.length_cons, Nat.succ_mul]; omega
structure KvP (p : Nat) (f : List Int) (KL : List (List Int)) : Prop where
 l200 : f.length ≤ 200
 mon : Mon p f
 two : 2 ≤ f.length
 sqf : Sqf (fx f : Fx p)
 v : ∀ q, q < KL.length → rp p (KL.getD q []) ∧ (KL.getD q []).length ≤ 200 ∧ (∃ i, (KL.getD q []).getD i 0 ≠ 0) ∧ (fx f : Fx p) ∣ pk (fx (KL.getD q [])) p - fx (KL.getD q [])
structure SplI (p : Nat) (f : List Int) (KL : List (List Int)) (q : Nat) (l : List (List Int)) : Prop where
 parts : ∀ g ∈ l, Mon p g ∧ 2 ≤ g.length ∧ (fx g : Fx p) ∣ fx f ∧ ∀ k, k < q → ∃ c, (fx g : Fx p) ∣ fx (KL.getD k []) - K c
 prod : prodL p l = fx f
theorem SplI.pre {p : Nat} (H : P31 p) {f : List Int} {KL : List (List Int)} {q : Nat} {l : List (List Int)} (hk : KvP p f KL) (h : SplI p f KL q l) (hq : q < KL.length) : ∀ g ∈ l, SepPre p g (trimW (KL.getD q [])) := by
 intro g hg
 obtain ⟨g1, g2, g3, _⟩ := h.parts g hg
 obtain ⟨v1, v2, ⟨i, v3⟩, v4⟩ := hk.v q hq
 have hgl : g.length ≤ f.length := by
  have := dvd_sz H g3 (hk.mon.fne H)
  rwa [sz_fx g1.c, sz_fx hk.mon.c] at this
 have := hk.l200
 refine ⟨by omega, g1, g2, hk.sqf.of_dvd g3, pcan_trim H.pos v1, fun e => v3 ?_, ?_, ?_⟩
 ·have h1 : ps (trimW (KL.getD q [])) i = ps (KL.getD q []) i := by rw [ps_trimW]
  rw [e, ps_at, ps_at] at h1
  exact h1.symm
 ·have := trimW_len (KL.getD q []); omega
 ·rw [fx_trim]; exact dvd_trans g3 v4
theorem spl_ok {p : Nat} (H : P31 p) {f : List Int} {KL : List (List Int)} (hk : KvP p f KL) : ∀ q, q ≤ KL.length → SplI p f KL q (spl H f KL q)
 | 0, _ => ⟨fun g hg => by
   have e := List.mem_singleton.1 (show g ∈ [f] from hg)
   subst e
   exact ⟨hk.mon, hk.two, dvd_refl _, fun k hk => by omega⟩, by rw [spl, prodL, prodL, mul_one]⟩
 | q + 1, hq => by
  have ih := spl_ok H hk q (by omega)
  have hpre := ih.pre H hk (by omega)
  refine ⟨fun g hg => ?_, ?_⟩
  ·obtain ⟨g0, h1, h2⟩ := List.mem_flatMap.1 (show g ∈ (spl H f KL q).flatMap _ from hg)
   obtain ⟨s1, s2, s3⟩ := sepR_ok H (hpre g0 h1)
   obtain ⟨_, _, g3, g4⟩ := ih.parts g0 h1
   obtain ⟨p1, p2, p3⟩ := s1.parts g h2
   have hgg : (fx g : Fx p) ∣ fx g0 := by rw [← s1.prod]; exact prodL_dvd p h2
   refine ⟨p1, p2, dvd_trans hgg g3, fun k hk => ?_⟩
   by_cases e : k = q
   ·subst e
    rwa [fx_trim] at p3
   ·obtain ⟨c, hc⟩ := g4 k (by omega)
    exact ⟨c, dvd_trans hgg hc⟩
  ·rw [spl, prodL_flat fun g hg => (sepR_ok H (hpre g hg)).1.prod]; exact ih.prod
theorem SplI.len {p : Nat} (H : P31 p) {f : List Int} {KL : List (List Int)} {q : Nat} {l : List (List Int)} (hf : Mon p f) (h : SplI p f KL q l) : l.length + 1 ≤ f.length := by
 obtain ⟨_, h2⟩ := prodL_sz H (l := l) fun g hg => ⟨(h.parts g hg).1, (h.parts g hg).2.1⟩
 rw [h.prod, sz_fx hf.c] at h2
 exact h2
structure SplitOk (p : Nat) (f : List Int) (l : List (List Int)) : Prop where
 parts : ∀ g ∈ l, Mon p g ∧ 2 ≤ g.length ∧ Irr (fx g : Fx p)
 prod : prodL p l = fx f
theorem irr_two {p : Nat} (H : P31 p) {f : List Int} (hf : Mon p f) (h2 : f.length = 2) : Irr (fx f : Fx p) := by
 refine ⟨by rw [sz_fx hf.c]; omega, fun A B e => ?_⟩
 have h0 := hf.fne H
 have hA : A ≠ 0 := fun e2 => h0 (by rw [e, e2, zero_mul])
 have hB : B ≠ 0 := fun e2 => h0 (by rw [e, e2, mul_zero])
 have h3 := sz_mul H hA hB
 rw [← e, sz_fx hf.c] at h3
 have := sz_pos H.pos hA
 have := sz_pos H.pos hB
 omega
noncomputable def bkL {p : Nat} (H : P31 p) (f : List Int) : List (List Int) := kerL p (f.length - 1) (mtR p (f.length - 1) (imF H f) (f.length - 1))
theorem bkL_ok {p : Nat} (H : P31 p) {f : List Int} (hf : Mon p f) (h3 : 3 ≤ f.length) (h200 : f.length ≤ 200) (hs : Sqf (fx f : Fx p)) : KvP p f (bkL H f) ∧ (bkL H f).length ≤ f.length ∧ SplitOk p f (spl H f (bkL H f) (bkL H f).length) := by
 have hi := imF_ok H hf h3
 have hfl : f.length = (f.length - 1) + 1 := by omega
 have hbk : BkM p (f.length - 1) f (imF H f) (mG (mtR p (f.length - 1) (imF H f) (f.length - 1))) := mtR_bk (fun c => by have := (hi c).2.1; omega) (fun c => (hi c).2.2)
 have hR : Rws p (f.length - 1) (mtR p (f.length - 1) (imF H f) (f.length - 1)) := mtR_rws H (fun c => (hi c).1.1) _
 obtain ⟨k1, k2, k3⟩ := kerL_ok H hR
 have hKv : KvP p f (bkL H f) := by
  refine ⟨h200, hf, by omega, hs, fun q hq => ?_⟩
  have hm : (bkL H f).getD q [] ∈ kerL p (f.length - 1) (mtR p (f.length - 1) (imF H f) (f.length - 1)) := by
   show (kerL p (f.length - 1) (mtR p (f.length - 1) (imF H f) (f.length - 1))).getD q [] ∈ _
   have hq : q < (kerL p (f.length - 1) (mtR p (f.length - 1) (imF H f) (f.length - 1))).length := hq
   rw [List.getD_eq_getElem?_getD, List.getElem?_eq_getElem hq]; exact List.getElem_mem hq
  obtain ⟨v1, v2, v3, v4⟩ := k2 _ hm
  exact ⟨v2, by omega, v3, (hbk.iff H hf.c hfl (by omega)).1 v4⟩
 have hsp := spl_ok H hKv (bkL H f).length (Nat.le_refl _)
 refine ⟨hKv, by show (kerL _ _ _).length ≤ _; omega, ⟨fun g hg => ?_, hsp.prod⟩⟩
 obtain ⟨g1, g2, g3, g4⟩ := hsp.parts g hg
 exact ⟨g1, g2, hbk.irr H hR hf hfl hs g1 g2 g3 g4⟩
noncomputable def splL {p : Nat} (H : P31 p) (f : List Int) : List (List Int) := if f.length ≤ 2 then [f] else spl H f (bkL H f) (bkL H f).length
theorem splL_ok {p : Nat} (H : P31 p) {f : List Int} (hf : Mon p f) (h2 : 2 ≤ f.length) (h200 : f.length ≤ 200) (hs : Sqf (fx f : Fx p)) : SplitOk p f (splL H f) := by
 unfold splL
 split
 ·refine ⟨fun g hg => ?_, by rw [prodL, prodL, mul_one]⟩
  have e := List.mem_singleton.1 hg
  subst e
  exact ⟨hf, h2, irr_two H hf (by omega)⟩
 ·exact (bkL_ok H hf (by omega) h200 hs).2.2
end Go.El

/- Contract: a squarefree polynomial modulo p is split. Own work; no condition. -/
namespace Go.El
open Go Go.Proofs Fx
theorem lP_len (p : Nat) (l : List (List Int)) : (lP p l).length = l.length := List.length_map _
theorem lP_get {p : Nat} {l : List (List Int)} {i : Nat} (h : i < l.length) : (lP p l).getD i ([], 0) = (l[i], (p : Int)) := by
 rw [List.getD_eq_getElem?_getD, List.getElem?_map, List.getElem?_eq_getElem h]; rfl
theorem nst_dis {o : Nat} {E0 : TypeId} {r : Nat} {E : TypeId} {T : ET} {f : Nat → List T.den} {conc : List (Nat × Blk)} (ho : lookA o conc = none) (hc : cncB conc = true) (hr : r ≤ 900) : ∀ id b, lookA id (nst o E0 r E T f) = some b → lookA id conc = none := by
 intro id b h
 unfold nst at h
 simp only [lookA] at h
 split at h
 ·rename_i e; rw [← e]; exact ho
 ·obtain ⟨i, h1, h2, _⟩ := lookA_fam_inv h
  rw [h2]; exact cnc_none hc (by omega)
theorem mwl {A B id : Nat} {l : List (Nat × Blk)} {v : Blk} (h : id ≠ A) (e : lookA id l = some v) : lookA (mw A B id) l = some v := by rwa [mw_ne h]
theorem mtR_zero (p n : Nat) (im : Nat → List Int) (r : Nat) : mtR p n im 0 r = List.replicate n 0 := extD (by rw [mtR_len, List.length_replicate]) fun c hc => by
 rw [mtR_len] at hc
 rw [mtR_get p n im 0 r hc, if_neg (by omega), List.getD_eq_getElem?_getD, List.getElem?_replicate, if_pos hc]; rfl
abbrev memS (n : Nat) (cs : List C) (f x : List Int) (p : Nat) (i : Nat) : List (Nat × Blk) := (1000, .box 22 0 cs) :: (0, .box 101 0 [.S U64 f, .I .u64 p]) :: (3009000, .box 101 0 [.S U64 x, .I .u64 p]) :: fam i 25 U64 (fun _ => List.replicate n 0)
theorem memS_P {n : Nat} {cs : List C} {f x : List Int} {p i K : Nat} (hcs : ∀ j ∈ midsL cs, j < K) (h : i ≤ 900) (hK : 4000000 ≤ K) : MemP K (memS n cs f x p i) :=
 .cons (by omega) hcs (.cons (by omega) (fun j hj => by cases hj) (.cons (by omega) (fun j hj => by cases hj) (.fam (by omega))))
set_option maxRecDepth 100000 in
set_option maxHeartbeats 8000000 in
theorem split_s {p : Nat} (H : P31 p) (f : List Int) (hf : Mon p f) (h2 : 2 ≤ f.length) (h200 : f.length ≤ 200) (hs : Sqf (fx f : Fx p)) : FnS Tryz.prog 128 [aP f p] (cS PT (lP p (splL H f))) := by
 have hp2 := H.hp.1
 have hple := H.le
 have hpz : (p : Int) ≠ 0 := by omega
 refine fs_intro Tryz.func128 rfl rfl rfl rfl rfl (by decide) ?_
 refine rr rfl (rb (rc rfl rfl (pdegree_s f p (by omega)) (re rfl ?_)))
 refine tr_seq (rr rfl (tr_cond rfl (fun h => ?_) (fun h => tr_skip (at_then ?_))))
 ·have h : f.length ≤ 2 := by
   have h : (f.length : Int) - 1 < 2 := of_decide_eq_true h
   omega
  rw [show splL H f = [f] from if_pos h]
  exact rb (rl PT [(f, (p : Int))] rfl rfl (re rfl (tr_ret (at_then_ret (at_ret TT_ok rfl (AVle.refl _))))))
 have h3 : 3 ≤ f.length := by
  have h : ¬ (f.length : Int) - 1 < 2 := of_decide_eq_false h
  omega
 obtain ⟨hKv, hKl, hSp⟩ := bkL_ok H hf h3 h200 hs
 have hi := imF_ok H hf h3
 obtain ⟨n, hn⟩ : ∃ n, f.length = n + 1 := ⟨f.length - 1, by omega⟩
 have en : (f.length : Int) - 1 = (n : Int) := by omega
 rw [show splL H f = spl H f (bkL H f) (bkL H f).length from if_neg (by omega)]
 have hbk : bkL H f = kerL p n (mtR p n (imF H f) n) := by unfold bkL; rw [hn, Nat.add_sub_cancel]
 rw [en]
 obtain ⟨m1, m2, m3⟩ := modF_ok H hf.c hf.ne (pk (X : Fx p) p)
 have hx : pcan p [0, 1] := ⟨fun i => by
  match i with
  | 0 => exact ⟨Int.le_refl _, by show (0 : Int) < (p : Int); omega⟩
  | 1 => exact ⟨by show (0 : Int) ≤ 1; decide, by show (1 : Int) < (p : Int); omega⟩
  | i + 2 => exact ⟨Int.le_refl _, by show (0 : Int) < (p : Int); omega⟩, .inr (by show (1 : Int) ≠ 0; decide)⟩
 have hfx : (fx [0, 1] : Fx p) = X := by rw [fx_cons, fx_one, K_zero, zero_add, mul_one]
 have hpow : FnS Tryz.prog 182 [aP [0, 1] p, cU p, cloP f p] (aP (modF H f (pk X p)) p) := by
  have := power_s H f [0, 1] p h200 hf.c hx (by show 2 < _; omega) (by omega) (by omega)
  rwa [hfx] at this
 generalize hxx : modF H f (pk (X : Fx p) p) = x at *
 refine rb (rl U64 [0, 1] rfl rfl (rmf rfl rfl rfl (rc rfl rfl hpow (re rfl ?_))))
 refine rb (rk 1 rfl rfl (rg_makeL TT_ok n (hx := rfl) rfl rfl rfl (by decide) (by show n * 24 ≤ _; omega) (by omega) (re rfl ?_)))
 refine tr_seq (rb (rxl rfl rfl trivial (re rfl (tr_block (tr_loop (α := Nat) (fun i => ⟨[(1, .c (.P 0 0)), (3, cI n), (4, .c (.P 3009000 0)), (5, .c (.L 1000 0 n (some n))), (34, cI n), (35, cI i)], memS n (cellJ n i) f x p i, 6, []⟩) (fun i => i ≤ n) (fun i => n - i) 0 (Nat.zero_le _) ?_ ?_)))))
 ·refine wk_map (mw 1000 4001000) ⟨sR rfl, sR rfl, sR rfl, sR rfl, sR rfl, sR rfl, trivial⟩ ⟨⟨_, rfl, BLe.of_eq ?_⟩, ⟨_, rfl, BLe.of_eq rfl⟩, ⟨_, rfl, BLe.of_eq rfl⟩, WkM2.fam fun q hq => absurd hq (by omega)⟩ rfl (mw_inj (by (repeat (refine (lookA_skip (by omega)).trans ?_)); exact lookF_none (by omega))) (memS_P (cellJ_mids (by show 1 + 0 ≤ 1000000 * 6; decide)) (by omega) (by show 4000000 ≤ 1000000 * 6; decide))
  show Blk.box 22 0 (flatRep [.V (.slice none 0 0)] n) = Blk.box 22 0 ((cellJ n 0).map (mpC (mw 1000 4001000)))
  rw [cellJ_mw (by omega), cellJ_zero, flatRep1]
 ·intro i hin
  have hci := cellJ_len n i hin
  refine rr rfl (tr_seq (tr_cond rfl (fun h => ?_) (fun h => ?_)))
  ·have hil : i < n := by
    have h : (i : Int) < (n : Int) := of_decide_eq_true h
    omega
   refine tr_skip (at_then (tr_seq (tr_block (rr rfl (rbt ?_)))))
   refine rm U64 n rfl rfl rfl rfl rfl rfl (zr_int .u64) rfl ?_ ?_ ?_
   ·show _ * 8 ≤ _; omega
   ·show _ * 1 ≤ _; omega
   refine rxl rfl rfl ⟨by show (0 : Int) ≤ (i : Int); omega, by show (i : Int) < (n : Int); omega⟩ (rg_stX TT_ok rfl rfl rfl rfl rfl ?_ (re rfl ?_ (ho := ord2 (by kernel_rfl))))
   ·show 0 + ((i : Int)).toNat * 1 < _
    rw [hci]; omega
   refine at_block (at_then (rt rfl (hp := by simp only [Pr.an, Pr.h, num, i64r, true_and, and_true]; first | done | omega) (at_loop (i + 1) hil (by show n - (i + 1) < n - i; omega) (wk_map (mw (1 + i) 8003000) ⟨⟨_, rfl, AVle.of_eq (congrArg (fun z => AV.c (.P z 0)) (mw_ne (by omega)).symm)⟩, sR rfl, ⟨_, rfl, AVle.of_eq (congrArg (fun z => AV.c (.P z 0)) (mw_ne (by omega)).symm)⟩, ⟨_, rfl, AVle.of_eq (congrArg (fun z => AV.c (.L z 0 n (some n))) (mw_ne (by omega)).symm)⟩, sR rfl, sR rfl, trivial⟩ ⟨⟨_, mwl (by omega) rfl, BLe.of_eq ?_⟩, ⟨_, mwl (by omega) rfl, BLe.of_eq rfl⟩, ⟨_, mwl (by omega) rfl, BLe.of_eq rfl⟩, WkM2.fam fun q hq => ?_⟩ (mw_ne (by omega)) (mw_inj (by (repeat (refine (lookA_skip (by omega)).trans ?_)); exact lookF_none (by omega))) (memS_P (cellJ_mids (by show 1 + (i + 1) ≤ 1000000 * 6; omega)) (by omega) (by show 4000000 ≤ 1000000 * 6; decide))))))
   ·show Blk.box 22 0 ((cellJ n i).set (0 + ((i : Int)).toNat * 1) (.X 8003000)) = Blk.box 22 0 ((cellJ n (i + 1)).map (mpC (mw (1 + i) 8003000)))
    rw [← cellJ_set n i hil, map_setw, cellJ_mw (by omega), Int.toNat_natCast, Nat.zero_add, Nat.mul_one]
    show _ = Blk.box 22 0 ((cellJ n i).set i (.X (mw (1 + i) 8003000 (1 + i))))
    rw [mw_eq]
   ·by_cases e : q = i
    ·subst e
     rw [mw_eq]; rfl
    ·rw [mw_ne (by omega)]
     (repeat (refine (lookA_skip (by omega)).trans ?_)); exact lookA_fam (f := fun _ => List.replicate n 0) (by omega)
  ·have hil : n = i := by
    have h : ¬ (i : Int) < (n : Int) := of_decide_eq_false h
    omega
   subst hil
   refine tr_exit (at_then_exit (at_loop_exit (at_block_exit (at_then ?_))))
   have h1c : FnS Tryz.prog 125 [aP f p, cU 1] (aP [1] p) := by
    have := pconst_s f 1 p H.pos (by omega) (by omega) (by omega)
    rwa [trimW_single (by decide)] at this
   refine rb (rc rfl rfl h1c (re rfl ?_))
   have himS : ∀ c, imF H f (c + 1) = prodF p f (imF H f c) x := fun c => by rw [← hxx]; rfl
   refine tr_seq (rr rfl (tr_block (tr_loop (α := Nat) (fun i => ⟨[(1, .c (.P 0 0)), (3, cI n), (4, .c (.P 3009000 0)), (5, .c (.L 1000 0 n (some n))), (7, .c (.P 7002000 0)), (46, cI n), (47, cI i)], [(0, .box 101 0 [.S U64 f, .I .u64 p]), (3009000, .box 101 0 [.S U64 x, .I .u64 p]), (7002000, .box 101 0 [.S U64 (imF H f i), .I .u64 p])] ++ nst 1000 22 n 25 U64 (mtR p n (imF H f) i), 9, []⟩) (fun i => i ≤ n) (fun i => n - i) 0 (Nat.zero_le _) ?_ ?_)))
   ·refine wk_nst ⟨sR rfl, sR rfl, sR rfl, sR rfl, sR rfl, sR rfl, sR rfl, trivial⟩ ⟨⟨_, rfl, BLe.of_eq rfl⟩, ⟨_, rfl, BLe.of_eq rfl⟩, ⟨_, rfl, BLe.of_eq rfl⟩, trivial⟩ (congrArg (fun z => some (Blk.box 22 0 z)) (cellJ_all n)) (fun q hq => ?_) (by omega)
    rw [mtR_zero]
    (repeat (refine (lookA_skip (by omega)).trans ?_)); exact lookA_fam (f := fun _ => List.replicate n 0) (by omega)
   intro i hin
   obtain ⟨q1, q2, q3⟩ := hi i
   generalize hI : imF H f = im at *
   have hbi : (0 : Int) ≤ (i : Int) := by omega
   have hil2 : (im i).length ≤ n := by omega
   refine rr rfl (tr_seq (tr_cond rfl (fun h4 => ?_) (fun h4 => ?_)))
   ·have hil : i < n := by
     have h4 : (i : Int) < (n : Int) := of_decide_eq_true h4
     omega
    have hbi : (0 : Int) ≤ (i : Int) ∧ (i : Int) < (n : Int) := ⟨by omega, by omega⟩
    refine tr_skip (at_then (tr_seq (tr_block (rr rfl (tr_seq (rr rfl (tr_block (tr_loop (α := Nat) (fun j => ⟨[(1, .c (.P 0 0)), (3, cI n), (4, .c (.P 3009000 0)), (5, .c (.L 1000 0 n (some n))), (7, .c (.P 7002000 0)), (46, cI n), (47, cI i), (8, cI i), (52, cI (im i).length), (53, cI j)], [(0, .box 101 0 [.S U64 f, .I .u64 p]), (3009000, .box 101 0 [.S U64 x, .I .u64 p]), (7002000, .box 101 0 [.S U64 (im i), .I .u64 p])] ++ nst 1000 22 n 25 U64 (mtP p n im i j), 12, []⟩) (fun j => j ≤ (im i).length) (fun j => (im i).length - j) 0 (Nat.zero_le _) ?_ ?_))))))))
    ·refine wk_nst ⟨sR rfl, sR rfl, sR rfl, sR rfl, sR rfl, sR rfl, sR rfl, sR rfl, sR rfl, sR rfl, trivial⟩ ⟨bR rfl, bR rfl, bR rfl, trivial⟩ rfl (fun q hq => ?_) (by omega)
     rw [mtP_zero]
     exact (by (repeat (refine (lookA_skip (by omega)).trans ?_)); exact lookA_fam (by omega))
    intro j hj
    refine rr rfl (tr_seq (tr_cond rfl (fun h5 => ?_) (fun h5 => ?_)))
    ·have hjl : j < (im i).length := by
      have h5 : (j : Int) < ((im i).length : Int) := of_decide_eq_true h5
      omega
     have hjn : j < n := by omega
     have hbj : (0 : Int) ≤ (j : Int) ∧ (j : Int) < (n : Int) := ⟨by omega, by omega⟩
     have hPl := mtP_len p n im i j j
     refine tr_skip (at_then (tr_seq (tr_block (rr rfl ?_))))
     refine rbt (rxl rfl rfl hbj (rg_ldC TT_ok (c := .X (1 + j)) rfl rfl (cellM_get hjn) rfl (rk 6 rfl rfl (rg_idxX TT_ok (T := U64) (xs := mtP p n im i j j) rfl (by (repeat (refine (lookA_skip (by omega)).trans ?_)); exact lookA_fam (by omega)) rfl rfl (by omega) (by omega) ?_) (hp := by simp only [Pr.an, Pr.h, num, i64r, true_and, and_true]; first | done | omega))))
     refine rg_storeV TT_ok (T := U64) (id := 1 + j) (xs := mtP p n im i j j) rfl (by (repeat (refine (lookA_skip (by omega)).trans ?_)); exact lookA_fam (by omega)) rfl rfl rfl ((im i).getD j 0) ?_ (by show ((i : Int)).toNat < _; omega) ?_
     ·show some [C.I .u64 ((im i).getD ((j : Int)).toNat 0)] = _
      rw [Int.toNat_natCast]; rfl
     refine re rfl ?_ (ho := ord2 (by kernel_rfl))
     refine at_block (at_then (rt rfl (hp := by simp only [Pr.an, Pr.h, num, i64r, true_and, and_true]; first | done | omega) (at_loop (j + 1) hjl (by show (im i).length - (j + 1) < (im i).length - j; omega) (wk_nst ⟨sR rfl, sR rfl, sR rfl, sR rfl, sR rfl, sR rfl, sR rfl, sR rfl, sR rfl, sR rfl, trivial⟩ ⟨⟨_, (lookA_skip (by omega)).trans rfl, BLe.refl _⟩, ⟨_, (lookA_skip (by omega)).trans rfl, BLe.refl _⟩, ⟨_, (lookA_skip (by omega)).trans rfl, BLe.refl _⟩, trivial⟩ ((lookA_skip (by omega)).trans rfl) (fun q hq => ?_) (by omega)))))
     rw [← mtP_step]
     by_cases e : q = j
     ·subst e
      refine lookA_hit.trans (congrArg (fun z => some (Blk.vec 25 U64 z)) ?_)
      rw [Int.toNat_natCast, upL_self, mtP_self]
     ·refine (lookA_skip (by omega)).trans (Eq.trans ((by (repeat (refine (lookA_skip (by omega)).trans ?_)); exact lookA_fam (by omega))) (congrArg (fun z => some (Blk.vec 25 U64 z)) ?_))
      rw [upL_ne _ _ e]
    ·have hjl : j = (im i).length := by
      have h5 : ¬ (j : Int) < ((im i).length : Int) := of_decide_eq_false h5
      omega
     subst hjl
     refine tr_exit (at_then_exit (at_loop_exit (at_block_exit (at_then ?_))))
     have hPl := mtP_len p n im i (im i).length i
     have hPx : (mtP p n im i (im i).length i).getD ((i : Int)).toNat 0 = (im i).getD i 0 := by rw [Int.toNat_natCast, mtP_get hil hil, if_pos rfl]
     have hgi := q1.1 i
     have hprod : FnS Tryz.prog 159 [aP f p, aP (im i) p, aP x p] (aP (prodF p f (im i) x) p) := pproduct_s p H.hp H.le f (im i) x (by omega) (by omega) (by omega) hf.c q1 m1 hf.ne
     refine rb (rxl rfl rfl hbi (rg_ldC TT_ok (c := .X (1 + i)) rfl rfl (cellM_get hil) rfl (rxl rfl rfl hbi (rg_ldC TT_ok (c := .X (1 + i)) rfl rfl (cellM_get hil) rfl (rk 1 rfl rfl (rg_idxX TT_ok (T := U64) (xs := mtP p n im i (im i).length i) rfl (by (repeat (refine (lookA_skip (by omega)).trans ?_)); exact lookA_fam (by omega)) rfl rfl (by omega) (by omega) (rg_ldY TT_ok rfl (by (repeat (refine (lookA_skip (by omega)).trans ?_)); exact lookA_fam (by omega)) rfl rfl rfl (by show ((i : Int)).toNat < _; omega) (rk 7 rfl rfl ?_ (hp := by simp only [Pr.an, Pr.h, num, i64r, true_and, and_true]; first | done | omega)))))))))
     refine rg_idxX TT_ok (T := U64) (xs := mtP p n im i (im i).length i) rfl (by (repeat (refine (lookA_skip (by omega)).trans ?_)); exact lookA_fam (by omega)) rfl rfl (by omega) (by omega) ?_
     refine rg_storeV TT_ok (T := U64) (id := 1 + i) (xs := mtP p n im i (im i).length i) rfl (by (repeat (refine (lookA_skip (by omega)).trans ?_)); exact lookA_fam (by omega)) rfl rfl rfl (((im i).getD i 0 + (p : Int) - 1) % (p : Int)) ?_ (by show ((i : Int)).toNat < _; omega) ?_
     ·show some [C.I .u64 ((IntKind.wrap .u64 (IntKind.wrap .u64 ((mtP p n im i (im i).length i).getD ((i : Int)).toNat 0 + (p : Int)) - 1)).tmod (p : Int))] = _
      rw [hPx, wrap_u64 ((im i).getD i 0 + (p : Int)) (by omega) (by omega), wrap_u64 _ (by omega) (by omega), Int.tmod_eq_emod_of_nonneg (by omega)]; rfl
     refine re rfl (tr_wk (wk_nst (sl' := [(1, .c (.P 0 0)), (3, cI n), (4, .c (.P 3009000 0)), (5, .c (.L 1000 0 n (some n))), (7, .c (.P 7002000 0)), (46, cI n), (47, cI i)]) (conc := [(0, .box 101 0 [.S U64 f, .I .u64 p]), (3009000, .box 101 0 [.S U64 x, .I .u64 p]), (7002000, .box 101 0 [.S U64 (im i), .I .u64 p])]) (nx' := 14) (gd' := []) (o := 1000) (E0 := 22) (r := n) (E := 25) (T := U64) (f := mtR p n im (i + 1)) ⟨sR rfl, sR rfl, sR rfl, sR rfl, sR rfl, sR rfl, sR rfl, trivial⟩ ⟨⟨_, (lookA_skip (by omega)).trans rfl, BLe.refl _⟩, ⟨_, (lookA_skip (by omega)).trans rfl, BLe.refl _⟩, ⟨_, (lookA_skip (by omega)).trans rfl, BLe.refl _⟩, trivial⟩ ((lookA_skip (by omega)).trans rfl) (fun q hq => ?_) (by omega)) ?_) (ho := ord2 (by kernel_rfl))
     ·rw [← mtR_step hil q hq]
      by_cases e : q = i
      ·subst e
       refine lookA_hit.trans (congrArg (fun z => some (Blk.vec 25 U64 z)) ?_)
       rw [Int.toNat_natCast, upL_self]
      ·refine (lookA_skip (by omega)).trans (Eq.trans ((by (repeat (refine (lookA_skip (by omega)).trans ?_)); exact lookA_fam (by omega))) (congrArg (fun z => some (Blk.vec 25 U64 z)) ?_))
       rw [upL_ne _ _ e]
     refine rbt (rc rfl rfl hprod (re rfl ?_))
     refine at_block (at_then (rt rfl (hp := by simp only [Pr.an, Pr.h, num, i64r, true_and, and_true]; first | done | omega) (at_loop (i + 1) hil (by show n - (i + 1) < n - i; omega) (wk_nst ⟨sR rfl, sR rfl, sR rfl, sR rfl, sR rfl, sR rfl, sR rfl, trivial⟩ ⟨bR rfl, bR rfl, ⟨_, rfl, BLe.of_eq ?_⟩, trivial⟩ rfl (fun q hq => (by (repeat (refine (lookA_skip (by omega)).trans ?_)); exact lookA_fam (by omega))) (by omega)))))
     rw [himS]; rfl
   ·have hil : i = n := by
     have h4 : ¬ (i : Int) < (n : Int) := of_decide_eq_false h4
     omega
    subst hil
    refine tr_exit (at_then_exit (at_loop_exit (at_block_exit (at_then ?_))))
    have hker : FnC Tryz.prog 183 [.c (.L 1000 0 i (some i)), cU p] (nst 1000 22 i 25 U64 (mtR p i im i)) (cS (.sl U64) (bkL H f)) := by
     rw [hbk]
     exact kernel_s H (mtR_rws H (fun c => (hi c).1.1) i) (by omega) (by omega)
    generalize bkL H f = KL at *
    refine rb (rl PT [(f, (p : Int))] rfl rfl (re rfl ?_))
    refine tr_seq (rb (rcc (conc := [(0, .box 101 0 [.S U64 f, .I .u64 p]), (3009000, .box 101 0 [.S U64 x, .I .u64 p]), (7002000, .box 101 0 [.S U64 (im i), .I .u64 p])]) (fm := nst 1000 22 i 25 U64 (mtR p i im i)) rfl rfl hker (nst_dis rfl rfl (by omega)) (re rfl ?_)))
    have hll : ∀ q, q ≤ KL.length → (spl H f KL q).length + 1 ≤ f.length := fun q hq => (spl_ok H hKv q hq).len H hf
    refine tr_block (tr_loop (α := Nat) (fun q => ⟨[(1, .c (.P 0 0)), (10, cS PT (lP p (spl H f KL q))), (98, cS (.sl U64) KL), (99, cI KL.length), (100, cI q)], [(0, .box 101 0 [.S U64 f, .I .u64 p])], 12, []⟩) (fun q => q ≤ KL.length) (fun q => KL.length - q) 0 (Nat.zero_le _) (wk ⟨sR rfl, sR rfl, sR rfl, sR rfl, sR rfl, trivial⟩ ⟨bR rfl, trivial⟩) ?_)
    intro q hq
    refine rr rfl (tr_seq (tr_cond rfl (fun h5 => ?_) (fun h5 => ?_)))
    ·have hql : q < KL.length := by
      have h5 : (q : Int) < (KL.length : Int) := of_decide_eq_true h5
      omega
     have hI := spl_ok H hKv q hq
     have hpre := hI.pre H hKv hql
     have hln := hll q hq
     obtain ⟨v1, v2, _⟩ := hKv.v q hql
     have hnext : spl H f KL (q + 1) = (spl H f KL q).flatMap fun g => sepR H g (trimW (KL.getD q [])) := rfl
     generalize spl H f KL q = l at *
     have hvq : KL.getD ((q : Int)).toNat [] = KL.getD q [] := by rw [Int.toNat_natCast]
     generalize KL.getD q [] = v at *
     have hred : FnS Tryz.prog 61 [cS U64 v, cU p] (aP (trimW v) p) := by
      have := preduced_s v p (by omega) H.pos (by omega) (fun i => (v1 i).1)
      rwa [md_self v1] at this
     have hlpl := lP_len p l
     refine tr_skip (at_then (tr_seq (tr_block (rr rfl (rr rfl (tr_seq (rr rfl (tr_block (tr_loop (α := Nat) (fun j => ⟨[(1, .c (.P 0 0)), (98, cS (.sl U64) KL), (99, cI KL.length), (100, cI q), (12, cS U64 v), (13, .c (.X 16000000)), (104, cS PT (lP p l)), (105, cI l.length), (106, cI j)], [(16000000, .vec 101 PT (lP p ((l.take j).flatMap fun g => sepR H g (trimW v)))), (0, .box 101 0 [.S U64 f, .I .u64 p])], 17, []⟩) (fun j => j ≤ l.length) (fun j => l.length - j) 0 (Nat.zero_le _) ?_ ?_)))))))))
     ·exact wk_nil 16000000 101 PT ⟨.inl (sR rfl), .inl (sR rfl), .inl (sR rfl), .inl (sR rfl), .inl ⟨_, rfl, AVle.of_eq (congrArg (cS U64) hvq)⟩, .inr ⟨rfl, rfl⟩, .inl (sR rfl), .inl ⟨_, rfl, AVle.of_eq (congrArg (fun z : Nat => cI (z : Int)) hlpl)⟩, .inl (sR rfl), trivial⟩ ⟨bR rfl, trivial⟩ rfl (MemP.of rfl)
     intro j hj
     refine rr rfl (tr_seq (tr_cond rfl (fun h6 => ?_) (fun h6 => ?_)))
     ·have hjl : j < l.length := by
       have h6 : (j : Int) < (l.length : Int) := of_decide_eq_true h6
       omega
      have hm : l[j] ∈ l := List.getElem_mem hjl
      obtain ⟨s1, s2, s3⟩ := sepR_ok H (hpre _ hm)
      have hgl := (hpre _ hm).l200
      have hg : (lP p l).getD ((j : Int)).toNat ([], 0) = (l[j], (p : Int)) := by rw [Int.toNat_natCast, lP_get hjl]
      have hfl : (lP p ((l.take j).flatMap fun g => sepR H g (trimW v))).length ≤ 200 * 200 := by
       rw [lP_len]
       have h1 := flat_len (φ := fun g => sepR H g (trimW v)) (b := 200) (l := l.take j) fun g hg => by
        have hg := List.mem_of_mem_take hg
        have := (sepR_ok H (hpre g hg)).2.1
        have := (hpre g hg).l200
        show (sepR H g (trimW v)).length ≤ 200; omega
       have h2 : (l.take j).length ≤ 200 := by rw [List.length_take]; omega
       have h3 := Nat.mul_le_mul_right 200 h2
       omega
      have hsl := lP_len p (sepR H l[j] (trimW v))
      have hsep : FnS Tryz.prog 184 [.a (av PT ((lP p l).getD ((j : Int)).toNat ([], 0))), aP (trimW v) p] (cS PT (lP p (sepR H l[j] (trimW v)))) := by
       rw [hg]; exact s3.fs
      refine tr_skip (at_then (tr_seq (tr_block (rr rfl (rbt (rc rfl rfl hred (rc rfl rfl hsep (ra rfl rfl rfl rfl rfl rfl rfl rfl rfl ?_ ?_ (re rfl ?_)))))))))
      ·show (_ + _ + (_ + _) / 4 + 192) * 32 ≤ _; omega
      ·show (_ + _) * 2 ≤ _; omega
      refine at_block (at_then (rt rfl (hp := by simp only [Pr.an, Pr.h, num, i64r, true_and, and_true]; first | done | omega) (at_loop (j + 1) hjl (by show l.length - (j + 1) < l.length - j; omega) (Wk.trans (wk (st' := ⟨[(1, .c (.P 0 0)), (98, cS (.sl U64) KL), (99, cI KL.length), (100, cI q), (12, cS U64 v), (13, .c (.X 19007000)), (104, cS PT (lP p l)), (105, cI l.length), (106, cI ((j + 1 : Nat) : Int))], [(19007000, .vec 101 PT (lP p ((l.take (j + 1)).flatMap fun g => sepR H g (trimW v)))), (0, .box 101 0 [.S U64 f, .I .u64 p])], 21, []⟩) ⟨sR rfl, sR rfl, sR rfl, sR rfl, sR rfl, sR rfl, sR rfl, sR rfl, sR rfl, trivial⟩ ⟨⟨_, rfl, BLe.of_eq ?_⟩, ⟨_, rfl, BLe.of_eq rfl⟩, trivial⟩) (Wk.trans (wk_ren 16000000 19007000 rfl rfl rfl) (wk ⟨sR rfl, sR rfl, sR rfl, sR rfl, sR rfl, sR rfl, sR rfl, sR rfl, sR rfl, trivial⟩ ⟨bR rfl, bR rfl, trivial⟩))))))
      refine congrArg (Blk.vec 101 PT) ?_
      rw [List.take_add_one, List.getElem?_eq_getElem hjl, List.flatMap_append, lP, lP, lP, List.map_append]
      simp
     ·have hjl : j = l.length := by
       have h6 : ¬ (j : Int) < (l.length : Int) := of_decide_eq_false h6
       omega
      subst hjl
      rw [List.take_length, ← hnext]
      exact tr_exit (at_then_exit (at_loop_exit (at_block_exit (at_then (tr_frz 16000000 rfl rfl rfl (rt rfl (at_block (at_then (rt rfl (hp := by simp only [Pr.an, Pr.h, num, i64r, true_and, and_true]; first | done | omega) (at_loop (q + 1) hql (by show KL.length - (q + 1) < KL.length - q; omega) (wk ⟨sR rfl, sR rfl, sR rfl, sR rfl, sR rfl, trivial⟩ ⟨bR rfl, trivial⟩)))))))))))
    ·have hql : q = KL.length := by
      have h5 : ¬ (q : Int) < (KL.length : Int) := of_decide_eq_false h5
      omega
     subst hql
     exact tr_exit (at_then_exit (at_loop_exit (at_block_exit (at_then (rr rfl (tr_ret (at_ret TT_ok rfl (AVle.refl _))))))))
end Go.El
