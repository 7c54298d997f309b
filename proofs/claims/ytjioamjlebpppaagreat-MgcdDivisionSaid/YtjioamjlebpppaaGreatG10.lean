/- Contract: division of polynomials. Own work; no condition. -/
import Derived.Shelf.SlIterI.Nil
import Derived.Shelf.SortM.Plain
import Derived.Shelf.SortM.SortNone
import Derived.Test.YtjioamjlebpppaaGreatG9
import Derived.Test.YtjioamjlebpppaaGreatG8
import Derived.Test.YtjioamjlebpppaaGreatG4
set_option linter.unusedVariables false
set_option linter.unusedSimpArgs false
set_option linter.unnecessarySimpa false
namespace Go.El
open Go Go.RowKit Go.Proofs
def inb (x y lim : MO.den) : Nat → Nat → Bool
 | 0, _ => true
 | n + 1, i => !(decide (mx x i - mx y i < 0) || decide (mx x i - mx y i > mx lim i)) && inb x y lim n (i + 1)
theorem inb_t {x y lim : MO.den} : ∀ {n i : Nat}, inb x y lim n i = true → ∀ j, i ≤ j → j < i + n → 0 ≤ mx x j - mx y j ∧ mx x j - mx y j ≤ mx lim j
 | 0, i, _, j, h1, h2 => by omega
 | n + 1, i, h, j, h1, h2 => by
  simp only [inb, Bool.and_eq_true, Bool.not_eq_true', Bool.or_eq_false_iff, decide_eq_false_iff_not] at h
  rcases Nat.lt_or_ge i j with h3 | h3
  ·exact inb_t h.2 j (by omega) (by omega)
  ·obtain rfl : j = i := by omega
   omega
theorem inb_f {x y lim : MO.den} : ∀ {n i : Nat}, (∀ j, i ≤ j → j < i + n → 0 ≤ mx x j - mx y j ∧ mx x j - mx y j ≤ mx lim j) → inb x y lim n i = true
 | 0, _, _ => rfl
 | n + 1, i, h => by
  have h0 := h i (Nat.le_refl _) (by omega)
  simp only [inb, Bool.and_eq_true, Bool.not_eq_true', Bool.or_eq_false_iff, decide_eq_false_iff_not]
  exact ⟨by omega, inb_f fun j h1 h2 => h j (by omega) (by omega)⟩
theorem inb_no1 {x y lim : MO.den} {n i : Nat} (h : decide (mx x i - mx y i < 0) = true) : inb x y lim (n + 1) i = false := by
 simp only [inb]; rw [h]; rfl
theorem inb_no2 {x y lim : MO.den} {n i : Nat} (h : decide (mx x i - mx y i > mx lim i) = true) : inb x y lim (n + 1) i = false := by
 simp only [inb]; rw [h, Bool.or_true]; rfl
theorem inb_go {x y lim : MO.den} {n i : Nat} (h : decide (mx x i - mx y i < 0) = false) (h2 : decide (mx x i - mx y i > mx lim i) = false) : inb x y lim (n + 1) i = inb x y lim n (i + 1) := by
 simp only [inb]; rw [h, h2]; rfl
def dvA (x y : TE.den) (a b : List TE.den) : List TE.den := aT6 a ((b.map (tE1 (x.1 * y.1⁻¹) (sbM' x.2 y.2))).map (gT fun c => -c))
def dvK (y : TE.den) (b : List TE.den) (lim : MO.den) : Nat → List TE.den → List TE.den → Option (Option (List TE.den))
 | 0, _, _ => none
 | _ + 1, [], q => some (some q)
 | n + 1, x :: a, q => if inb x.2 y.2 lim 8 0 = true then dvK y b lim n (dvA x y (x :: a) b) (q ++ [(x.1 * y.1⁻¹, sbM' x.2 y.2)]) else some none
def limT (a b : List TE.den) : MO.den := if dv4 (dgT b) (dgT a) then sbM' (dgT a) (dgT b) else MO.dflt
def dvT (N : Nat) (a b : List TE.den) : Option (Option (List TE.den)) := if (dv4 (dgT b) (dgT a) || a.isEmpty) = true then dvK (b.getD 0 TE.dflt) b (limT a b) N a [] else some none
theorem rinv_ne {c : Rat} (h : c ≠ 0) : c⁻¹ ≠ 0 := fun e => by
 have := Rat.mul_inv_cancel c h
 rw [e, Rat.mul_zero] at this
 exact absurd this (by decide)
theorem lcM_b {k : Int} {x y : MO.den} (hx : bM k x) (hy : bM k y) : bM k (lcM x y) := fun j hj => by
 rw [mx_lc hj]
 have := hx j hj
 have := hy j hj
 exact ⟨Int.le_trans this.1 (mxI_r _ _), mxI_le (hx j hj).2 this.2⟩
theorem dgT_b {k : Int} (hk : 0 ≤ k) (p : List TE.den) (h : ∀ x ∈ p, bM k x.2) : bM k (dgT p) := by
 have : ∀ (l : List TE.den) (d : MO.den), bM k d → (∀ x ∈ l, bM k x.2) → bM k (l.foldl (fun d x => lcM d x.2) d) := by
  intro l
  induction l with
  | nil => intro d hd _; exact hd
  | cons x l ih => intro d hd hl; exact ih _ (lcM_b hd (hl x (by simp))) fun y hy => hl y (by simp [hy])
 exact this p _ (fun j hj => by rcases lt8 hj with rfl | rfl | rfl | rfl | rfl | rfl | rfl | rfl <;> exact ⟨Int.le_refl _, hk⟩) h
theorem mx_dflt {j : Nat} (hj : j < 8) : mx MO.dflt j = 0 := by
 rcases lt8 hj with rfl | rfl | rfl | rfl | rfl | rfl | rfl | rfl <;> rfl
def zbS (i j : Nat) (a b : Int) : Int := if j < i then a - b else 0
def zbN (x y : MO.den) (i : Nat) : MO.den := (zbS i 0 x.1 y.1, zbS i 1 x.2.1 y.2.1, zbS i 2 x.2.2.1 y.2.2.1, zbS i 3 x.2.2.2.1 y.2.2.2.1, zbS i 4 x.2.2.2.2.1 y.2.2.2.2.1, zbS i 5 x.2.2.2.2.2.1 y.2.2.2.2.2.1, zbS i 6 x.2.2.2.2.2.2.1 y.2.2.2.2.2.2.1, zbS i 7 x.2.2.2.2.2.2.2 y.2.2.2.2.2.2.2)
structure DvP (w : Nat) (b : List TE.den) (lim : MO.den) (I : List TE.den → List TE.den → Prop) : Prop where
 la : ∀ {a q}, I a q → a.length ≤ 10000
 lq : ∀ {a q}, I a q → q.length ≤ 10000
 ok : ∀ {a q}, I a q → ∀ x ∈ a, bM 30000 x.2 ∧ QS w x.1
 ne : ∀ {x a q}, I (x :: a) q → x.1 ≠ 0
 nx : ∀ {x a q}, I (x :: a) q → inb x.2 (b.getD 0 TE.dflt).2 lim 8 0 = true → I (dvA x (b.getD 0 TE.dflt) (x :: a) b) (q ++ [(x.1 * (b.getD 0 TE.dflt).1⁻¹, sbM' x.2 (b.getD 0 TE.dflt).2)])
set_option maxRecDepth 100000 in
set_option maxHeartbeats 32000000 in
theorem pDivide_s {a b : List TE.den} {N w : Nat} {r : Option (List TE.den)} (I : List TE.den → List TE.den → Prop) (hb0 : 0 < b.length) (hy0 : (b.getD 0 TE.dflt).1 ≠ 0) (lb : b.length ≤ 1000) (hb : ∀ x ∈ b, bM 30000 x.2 ∧ QS w x.1) (hw : w ≤ 100000)
  (hI : DvP w b (limT a b) I) (h0 : I a []) (hr : dvT N a b = some r) :
  FnS Tryz.prog 22 [cS TE a, cS TE b] (.t [(false, [.S TE (r.getD [])]), (false, [.B r.isSome])]) := by
 have hy := getD_in (d := TE.dflt) hb hb0
 have la := hI.la h0
 have ha := hI.ok h0
 have da : bM 30000 (dgT a) := dgT_b (by decide) a fun x hx => (ha x hx).1
 have db : bM 30000 (dgT b) := dgT_b (by decide) b fun x hx => (hb x hx).1
 refine fsI Tryz.func22 ?_
 refine rr rfl (tr_scope ?_)
 refine tr_seq (rb (rg 18 rfl rfl (fun h => ?_) (fun h => ?_)))
 ·have h : (b.length : Int) = 0 := of_decide_eq_true h
  omega
 refine rcg rfl rfl rfl rfl rfl (qSign_s (b.getD ((0 : Int)).toNat TE.dflt).1) (re rfl (tr_cond rfl (fun h1 => ?_) (fun h1 => skT ?_)))
 ·have h1 : sgn (b.getD 0 TE.dflt).1.num = 0 := eq_of_beq h1
  exact absurd (Rat.num_eq_zero.1 (sgn_zero.1 h1)) hy0
 have hquo := pQuo4_s (x := dgT a) (y := dgT b) (da.le (by decide)) (db.le (by decide))
 refine rb (rc rfl rfl (pDegs_s (p := a) (by omega)) (rc rfl rfl (pDegs_s (p := b) (by omega)) (rc rfl rfl hquo (re rfl ?_))))
 generalize hokv : (dv4 (dgT b) (dgT a) || a.isEmpty) = okv
 refine tr_mid1 ⟨[(0, cS TE a), (1, cS TE b), (6, .c (.P 2008000 0)), (7, cB okv)], [(2008000, .box 63 0 (av MO (limT a b)))], 10, []⟩ ?_ (fun mid => ?_)
 rotate_left
 ·refine rbt (rg 35 rfl rfl (fun h => ?_) (fun h => ?_))
  ·have e : okv = true := by rw [← hokv, h]; rfl
   refine re rfl (at_mid mid (wk ⟨sR rfl, sR rfl, sR rfl, sE rfl ?_, trivial⟩ ⟨bR rfl, trivial⟩))
   rw [e]
  ·have e : okv = decide ((a.length : Int) = 0) := by
    rw [← hokv, h, Bool.false_or]
    cases a with
    | nil => rfl
    | cons x a => exact (decide_eq_false (by show ¬ ((a.length + 1 : Nat) : Int) = 0; omega)).symm
   refine re rfl (at_mid mid (wk ⟨sR rfl, sR rfl, sR rfl, sE rfl ?_, trivial⟩ ⟨bR rfl, trivial⟩))
   rw [e]; rfl
 have hinv := qInv_s (b.getD ((0 : Int)).toNat TE.dflt).1 (fun e => hy0 (num_zero e)) (hy.2.n.sm (by omega)) (hy.2.d.sm (by omega))
 refine rb (rc rfl rfl hinv (re rfl (rr rfl (tr_seq (tr_label (at_then ?_))))))
 refine tr_mid (α := Bool × List TE.den) (fun s => ⟨[(7, cB s.1), (10, .c (.X 30000000))], [(30000000, .vec 75 TE s.2)], 60, []⟩) (fun s => r = if s.1 = true then some s.2 else none) ?_ (fun mid => ?_)
 rotate_left
 ·refine tr_block (tr_loop (α := Nat × List TE.den × List TE.den) (fun s => ⟨[(0, cS TE s.2.1), (1, cS TE b), (6, .c (.P 2008000 0)), (7, cB okv), (8, .c (.P 10008000 0)), (10, .c (.X 30000000))], [(30000000, .vec 75 TE s.2.2), (2008000, .box 63 0 (av MO (limT a b))), (10008000, .box 72 0 (av .q (b.getD 0 TE.dflt).1⁻¹))], 31, []⟩) (fun s => (okv = false → r = none) ∧ (okv = true → I s.2.1 s.2.2 ∧ dvK (b.getD 0 TE.dflt) b (limT a b) s.1 s.2.1 s.2.2 = some r)) (fun s => s.1) (N, a, []) ⟨fun e => ?_, fun e => ⟨h0, ?_⟩⟩ ?_ ?_)
  ·rw [dvT, hokv, e] at hr
   exact (Option.some.inj hr).symm
  ·rw [dvT, hokv, if_pos e] at hr
   exact hr
  ·exact wk_nil 30000000 75 TE ⟨.inl (sR rfl), .inl (sR rfl), .inl (sR rfl), .inl (sR rfl), .inl (sR rfl), .inr ⟨rfl, rfl⟩, trivial⟩ ⟨bE rfl rfl, bE rfl rfl, trivial⟩ rfl (MemP.of rfl)
  rintro ⟨n, a', q⟩ ⟨hf, ht⟩
  simp only at hf ht ⊢
  refine tr_seq (rb (rg 49 rfl rfl (fun h => ?_) (fun h => ?_)))
  ·obtain ⟨hIa, hdv⟩ := ht h
   refine re rfl (tr_cond rfl (fun h2 => skT ?_) (fun h2 => ?_))
   ·have h2 : 0 < a'.length := by
     have h2 : (a'.length : Int) > 0 := of_decide_eq_true h2
     omega
    have hax := hI.ok hIa
    have hx := getD_in (d := TE.dflt) hax h2
    have hla := hI.la hIa
    have hlq := hI.lq hIa
    have dx := hd_tl h2
    have hc : FnS Tryz.prog 61 [aQ (a'.getD ((0 : Int)).toNat TE.dflt).1, aQ (b.getD 0 TE.dflt).1⁻¹] (aQ ((a'.getD 0 TE.dflt).1 * (b.getD 0 TE.dflt).1⁻¹)) := qMul_s (k := 2 * w) _ _ (hx.2.le (by omega)) ((hy.2.inv hy0).le (by omega)) (by omega)
    cases n with
    | zero => cases hdv
    | succ n =>
    rw [dx, dvK, ← dx] at hdv
    have hno : inb (a'.getD 0 TE.dflt).2 (b.getD 0 TE.dflt).2 (limT a b) 8 0 = false → r = none := fun e => by
     rw [e] at hdv
     exact (Option.some.inj hdv).symm
    refine tr_block (rb (rc rfl rfl hc (re rfl ?_)))
    refine tr_mid (α := Unit) (fun _ => ⟨[(0, cS TE a'), (1, cS TE b), (6, .c (.P 2008000 0)), (7, cB okv), (8, .c (.P 10008000 0)), (10, .c (.X 30000000)), (11, .c (.P 32007000 0))], [(32007000, .box 75 0 (av TE ((a'.getD 0 TE.dflt).1 * (b.getD 0 TE.dflt).1⁻¹, sbM' (a'.getD 0 TE.dflt).2 (b.getD 0 TE.dflt).2))), (30000000, .vec 75 TE q), (2008000, .box 63 0 (av MO (limT a b))), (10008000, .box 72 0 (av .q (b.getD 0 TE.dflt).1⁻¹))], 40, []⟩) (fun _ => inb (a'.getD 0 TE.dflt).2 (b.getD 0 TE.dflt).2 (limT a b) 8 0 = true) ?_ (fun mid2 => ?_)
    rotate_left
    ·refine rr rfl (tr_block (tr_loop (α := Nat) (fun i => ⟨[(0, cS TE a'), (1, cS TE b), (6, .c (.P 2008000 0)), (7, cB okv), (8, .c (.P 10008000 0)), (10, .c (.X 30000000)), (11, .c (.P 32007000 0)), (61, cI i)], [(32007000, .box 75 0 (av TE ((a'.getD 0 TE.dflt).1 * (b.getD 0 TE.dflt).1⁻¹, zbN (a'.getD 0 TE.dflt).2 (b.getD 0 TE.dflt).2 i))), (30000000, .vec 75 TE q), (2008000, .box 63 0 (av MO (limT a b))), (10008000, .box 72 0 (av .q (b.getD 0 TE.dflt).1⁻¹))], 34, []⟩) (fun i => i ≤ 8 ∧ inb (a'.getD 0 TE.dflt).2 (b.getD 0 TE.dflt).2 (limT a b) 8 0 = inb (a'.getD 0 TE.dflt).2 (b.getD 0 TE.dflt).2 (limT a b) (8 - i) i) (fun i => 8 - i) 0 ⟨by decide, rfl⟩ (wk (wkSr rfl) ⟨bE rfl rfl, bR rfl, bR rfl, bR rfl, trivial⟩) ?_))
     rintro i ⟨hi, hin⟩
     refine rr rfl (tr_seq (tr_cond rfl (fun h3 => ?_) (fun h3 => ?_)))
     ·have h3 : i < 8 := by
       have h3 : (i : Int) < 8 := of_decide_eq_true h3
       omega
      have hb1 := hx.1 i h3
      have hb2 := hy.1 i h3
      rcases lt8 h3 with rfl | rfl | rfl | rfl | rfl | rfl | rfl | rfl
      all_goals
       simp only [mx] at hb1 hb2
       refine skT (tr_seq (tr_block (rr rfl (rr rfl ?_ (hp := ?_)))))
       rotate_left
       ·simp [Pr.an, Pr.h, num, i64r]
        simp at hb1 hb2
        omega
       refine rb (rg 85 rfl rfl (fun h4 => ?_) (fun h4 => ?_))
       ·refine re rfl (tr_cond rfl (fun _ => ?_) (fun h => by cases h))
        refine rr rfl (tr_exit ?_)
        repeat (first | refine at_then_exit ?_ | refine at_block_exit_ne ?_ | refine at_loop_exit ?_)
        exact at_block_exit (at_mid (mid (false, q) (hno (hin.trans (inb_no1 h4)))) (wk ⟨sE rfl rfl, sR rfl, trivial⟩ ⟨bR rfl, trivial⟩))
       ·refine re rfl (tr_cond rfl (fun h5 => ?_) (fun h5 => ?_))
        ·refine rr rfl (tr_exit ?_)
         repeat (first | refine at_then_exit ?_ | refine at_block_exit_ne ?_ | refine at_loop_exit ?_)
         exact at_block_exit (at_mid (mid (false, q) (hno (hin.trans (inb_no2 h5)))) (wk ⟨sE rfl rfl, sR rfl, trivial⟩ ⟨bR rfl, trivial⟩))
        ·refine tr_skip (bkT (rt rfl (at_loop _ ?_ ?_ (wk (wkSr rfl) ⟨bE rfl rfl, bR rfl, bR rfl, bR rfl, trivial⟩))))
         ·exact ⟨by decide, hin.trans (inb_go h4 h5)⟩
         ·decide
     ·have h3 : i = 8 := by
       have h3 : ¬ (i : Int) < 8 := of_decide_eq_false h3
       omega
      subst h3
      exact xlE (at_mid (mid2 () hin) (wk (wkSr rfl) ⟨bE rfl rfl, bR rfl, bR rfl, bR rfl, trivial⟩))
    ·rintro _ hin
     rw [if_pos hin] at hdv
     have hIx : I (a'.getD 0 TE.dflt :: a'.drop 1) q := by rw [← dx]; exact hIa
     have hnx := hI.nx hIx hin
     rw [← dx] at hnx
     have hc0 : (a'.getD 0 TE.dflt).1 * (b.getD 0 TE.dflt).1⁻¹ ≠ 0 := fun e => (Rat.mul_eq_zero.1 e).elim (hI.ne hIx) (fun e => rinv_ne hy0 e)
     have hcq : QS (2 * w) ((a'.getD 0 TE.dflt).1 * (b.getD 0 TE.dflt).1⁻¹) := hx.2.mul (hy.2.inv hy0)
     have hm : bM 30000 (sbM' (a'.getD 0 TE.dflt).2 (b.getD 0 TE.dflt).2) := fun j hj => by
      rw [mx_sub hj]
      have h1 := inb_t hin j (Nat.zero_le _) (by omega)
      have h2 := hx.1 j hj
      have h3 := hy.1 j hj
      omega
     have hti := pTimes_s (w := 2 * w) (m := sbM' (a'.getD 0 TE.dflt).2 (b.getD 0 TE.dflt).2) hc0 (by omega) hcq (fun x hx => ⟨(hb x hx).1, (hb x hx).2.le (by omega)⟩) hm (by omega)
     have hsu := pSub_s (p := a') (q := b.map (tE1 ((a'.getD 0 TE.dflt).1 * (b.getD 0 TE.dflt).1⁻¹) (sbM' (a'.getD 0 TE.dflt).2 (b.getD 0 TE.dflt).2))) (w := 4 * w) (by omega) (by rw [List.length_map]; omega) (fun x hx => ⟨(hax x hx).1.le (by decide), (hax x hx).2.le (by omega)⟩) (fun x hx => by
      obtain ⟨z, hz, rfl⟩ := List.mem_map.1 hx
      exact ⟨(hm.add (hb z hz).1).le (by decide), (hcq.mul ((hb z hz).2.le (by omega))).le (by omega)⟩) (by omega)
     refine rb (rc rfl rfl hti (re rfl (rb (rc rfl rfl hsu (re rfl ?_)))))
     refine rbt (rl TE [((a'.getD 0 TE.dflt).1 * (b.getD 0 TE.dflt).1⁻¹, sbM' (a'.getD 0 TE.dflt).2 (b.getD 0 TE.dflt).2)] rfl rfl (ra rfl rfl rfl rfl rfl rfl rfl rfl rfl (by show (q.length + 1 + (q.length + 1) / 4 + 192) * 128 ≤ _; omega) (by show (q.length + 1) * 12 ≤ _; omega) (re rfl ?_)))
     refine at_block (at_loop (n, dvA (a'.getD 0 TE.dflt) (b.getD 0 TE.dflt) a' b, q ++ [((a'.getD 0 TE.dflt).1 * (b.getD 0 TE.dflt).1⁻¹, sbM' (a'.getD 0 TE.dflt).2 (b.getD 0 TE.dflt).2)]) ⟨fun e => (by rw [h] at e; cases e), fun _ => ⟨hnx, hdv⟩⟩ (Nat.lt_succ_self n) (Wk.trans (wk (st' := ⟨[(0, cS TE (dvA (a'.getD 0 TE.dflt) (b.getD 0 TE.dflt) a' b)), (1, cS TE b), (6, .c (.P 2008000 0)), (7, cB okv), (8, .c (.P 10008000 0)), (10, .c (.X 42003000))], [(42003000, .vec 75 TE (q ++ [((a'.getD 0 TE.dflt).1 * (b.getD 0 TE.dflt).1⁻¹, sbM' (a'.getD 0 TE.dflt).2 (b.getD 0 TE.dflt).2)])), (2008000, .box 63 0 (av MO (limT a b))), (10008000, .box 72 0 (av .q (b.getD 0 TE.dflt).1⁻¹))], 50, []⟩) ⟨sE rfl rfl, sR rfl, sR rfl, sR rfl, sR rfl, sR rfl, trivial⟩ (wkMr rfl)) (Wk.trans (wk_ren 30000000 42003000 rfl rfl rfl) wkA)))
   ·have h2 : a' = [] := List.eq_nil_of_length_eq_zero (by
     have h2 : ¬ (a'.length : Int) > 0 := of_decide_eq_false h2
     omega)
    subst h2
    refine xlE (at_mid (mid (true, q) ?_) (wk ⟨sE rfl ?_, sR rfl, trivial⟩ ⟨bR rfl, trivial⟩))
    ·cases n with
     | zero => cases hdv
     | succ n => exact (Option.some.inj hdv).symm
    ·rw [h]
  ·exact re rfl (tr_cond rfl (fun h => by cases h) (fun _ => xlE (at_mid (mid (false, q) (hf h)) (by rw [h]; exact wkA))))
 ·rintro ⟨ok, q⟩ hq
  simp only at hq
  cases ok with
  | false =>
   rw [if_neg (by decide)] at hq
   subst hq
   refine tr_seq (rr rfl (tr_cond rfl (fun _ => ?_) (fun h => by cases h)))
   exact rr rfl (tr_ret (at_then_ret (at_scope_ret (at_ret TT_ok rfl (avle_nilT TE _)))))
  | true =>
   rw [if_pos rfl] at hq
   subst hq
   refine tr_seq (rr rfl (tr_cond rfl (fun h => by cases h) (fun _ => skT ?_)))
   refine tr_frz 30000000 rfl rfl rfl ?_
   exact rr rfl (tr_ret (at_scope_ret (atR rfl)))
def dl (c : Rat) (k m : MO.den) : Rat := if cmp4 k m = 0 then c else 0
theorem cfT_c (x : TE.den) (p : List TE.den) (m : MO.den) : cfT (x :: p) m = dl x.1 x.2 m + cfT p m := rfl
theorem cfT_n (m : MO.den) : cfT [] m = 0 := rfl
theorem dl_e {c : Rat} {k m : MO.den} (h : k = m) : dl c k m = c := if_pos (cmp4_i0.2 h)
theorem dl_d {c : Rat} {k m : MO.den} (h : k ≠ m) : dl c k m = 0 := if_neg fun e => h (cmp4_i0.1 e)
theorem cfT_aE6 : ∀ {n : Nat} {p q : List TE.den}, p.length + q.length ≤ n → ∀ m, cfT (aE6 n p q) m = cfT p m + cfT q m
 | 0, [], [], _, m => by rw [aE6_nil, cfT_n, Rat.add_zero]
 | 0, _ :: _, _, h, _ => absurd h (by simp)
 | 0, [], _ :: _, h, _ => absurd h (by simp)
 | n + 1, [], [], _, m => by rw [aE6_nil, cfT_n, Rat.add_zero]
 | n + 1, x :: p, [], h, m => by
  rw [aE6_r, cfT_c, cfT_c, cfT_aE6 (by simp at h ⊢; omega), Rat.add_assoc]
 | n + 1, [], y :: q, h, m => by
  rw [aE6_l, cfT_c, cfT_c, cfT_aE6 (by simp at h ⊢; omega), cfT_n]; grind
 | n + 1, x :: p, y :: q, h, m => by
  simp only [List.length_cons] at h
  rw [aE6_b]
  split
  ·rw [cfT_c, cfT_c x, cfT_aE6 (by simp only [List.length_cons]; omega)]; grind
  ·split
   ·rw [cfT_c, cfT_c y, cfT_aE6 (by simp only [List.length_cons]; omega)]; grind
   ·have e : x.2 = y.2 := cmp4_i0.1 (by omega)
    split
    ·rw [cfT_c, cfT_c x, cfT_c y, cfT_aE6 (by omega)]
     show dl (x.1 + y.1) x.2 m + _ = _
     rw [← e]
     by_cases hm : x.2 = m
     ·rw [dl_e hm, dl_e hm, dl_e hm]; grind
     ·rw [dl_d hm, dl_d hm, dl_d hm]; grind
    ·rename_i hz
     have hz : x.1 + y.1 = 0 := Classical.byContradiction hz
     rw [cfT_c x, cfT_c y, cfT_aE6 (by omega), ← e]
     by_cases hm : x.2 = m
     ·rw [dl_e hm, dl_e hm]; grind
     ·rw [dl_d hm, dl_d hm]; grind
theorem cfT_aT6 (p q : List TE.den) (m : MO.den) : cfT (aT6 p q) m = cfT p m + cfT q m := cfT_aE6 (Nat.le_refl _) m
theorem aE6_mon : ∀ {n : Nat} {p q : List TE.den}, ∀ z ∈ aE6 n p q, (∃ x ∈ p, x.2 = z.2) ∨ ∃ y ∈ q, y.2 = z.2
 | 0, _, _, z, h => by cases h
 | n + 1, [], [], z, h => by cases h
 | n + 1, x :: p, [], z, h => by
  rw [aE6_r] at h
  rcases List.mem_cons.1 h with rfl | h
  ·exact .inl ⟨z, by simp, rfl⟩
  ·rcases aE6_mon z h with ⟨w, hw, e⟩ | ⟨w, hw, e⟩
   ·exact .inl ⟨w, by simp [hw], e⟩
   ·exact .inr ⟨w, hw, e⟩
 | n + 1, [], y :: q, z, h => by
  rw [aE6_l] at h
  rcases List.mem_cons.1 h with rfl | h
  ·exact .inr ⟨z, by simp, rfl⟩
  ·rcases aE6_mon z h with ⟨w, hw, e⟩ | ⟨w, hw, e⟩
   ·exact .inl ⟨w, hw, e⟩
   ·exact .inr ⟨w, by simp [hw], e⟩
 | n + 1, x :: p, y :: q, z, h => by
  rw [aE6_b] at h
  split at h
  ·rcases List.mem_cons.1 h with rfl | h
   ·exact .inl ⟨z, by simp, rfl⟩
   ·rcases aE6_mon z h with ⟨w, hw, e⟩ | ⟨w, hw, e⟩
    ·exact .inl ⟨w, by simp [hw], e⟩
    ·exact .inr ⟨w, hw, e⟩
  ·split at h
   ·rcases List.mem_cons.1 h with rfl | h
    ·exact .inr ⟨z, by simp, rfl⟩
    ·rcases aE6_mon z h with ⟨w, hw, e⟩ | ⟨w, hw, e⟩
     ·exact .inl ⟨w, hw, e⟩
     ·exact .inr ⟨w, by simp [hw], e⟩
   ·split at h
    ·rcases List.mem_cons.1 h with rfl | h
     ·exact .inl ⟨x, by simp, rfl⟩
     ·rcases aE6_mon z h with ⟨w, hw, e⟩ | ⟨w, hw, e⟩
      ·exact .inl ⟨w, by simp [hw], e⟩
      ·exact .inr ⟨w, by simp [hw], e⟩
    ·rcases aE6_mon z h with ⟨w, hw, e⟩ | ⟨w, hw, e⟩
     ·exact .inl ⟨w, by simp [hw], e⟩
     ·exact .inr ⟨w, by simp [hw], e⟩
theorem Cn.cons {x : TE.den} {p : List TE.den} (hp : Cn p) (h0 : x.1 ≠ 0) (h : ∀ y ∈ p, 0 < cmp4 x.2 y.2) : Cn (x :: p) := ⟨List.pairwise_cons.2 ⟨h, hp.dec⟩, fun y hy => by
 rcases List.mem_cons.1 hy with rfl | hy
 ·exact h0
 ·exact hp.ne y hy⟩
theorem Cn.gt {x : TE.den} {p : List TE.den} (h : Cn (x :: p)) : ∀ y ∈ p, 0 < cmp4 x.2 y.2 := (List.pairwise_cons.1 h.dec).1
theorem Cn.hd {x : TE.den} {p : List TE.den} (h : Cn (x :: p)) : x.1 ≠ 0 := h.ne x (by simp)
theorem Cn.aE6 : ∀ {n : Nat} {p q : List TE.den}, Cn p → Cn q → Cn (aE6 n p q)
 | 0, _, _, _, _ => Cn.nil
 | n + 1, [], [], _, _ => Cn.nil
 | n + 1, x :: p, [], hp, hq => by
  rw [aE6_r]
  refine (Cn.aE6 hp.tail hq).cons hp.hd fun z hz => ?_
  rcases aE6_mon z hz with ⟨w, hw, e⟩ | ⟨w, hw, e⟩
  ·rw [← e]; exact hp.gt w hw
  ·cases hw
 | n + 1, [], y :: q, hp, hq => by
  rw [aE6_l]
  refine (Cn.aE6 hp hq.tail).cons hq.hd fun z hz => ?_
  rcases aE6_mon z hz with ⟨w, hw, e⟩ | ⟨w, hw, e⟩
  ·cases hw
  ·rw [← e]; exact hq.gt w hw
 | n + 1, x :: p, y :: q, hp, hq => by
  rw [aE6_b]
  split
  ·rename_i h
   refine (Cn.aE6 hp.tail hq).cons hp.hd fun z hz => ?_
   rcases aE6_mon z hz with ⟨w, hw, e⟩ | ⟨w, hw, e⟩
   ·rw [← e]; exact hp.gt w hw
   ·rw [← e]
    rcases List.mem_cons.1 hw with rfl | hw
    ·exact h
    ·exact cmp4_tr h (hq.gt w hw)
  ·split
   ·rename_i h0 h
    have h : 0 < cmp4 y.2 x.2 := by rw [cmp4_neg]; omega
    refine (Cn.aE6 hp hq.tail).cons hq.hd fun z hz => ?_
    rcases aE6_mon z hz with ⟨w, hw, e⟩ | ⟨w, hw, e⟩
    ·rw [← e]
     rcases List.mem_cons.1 hw with rfl | hw
     ·exact h
     ·exact cmp4_tr h (hp.gt w hw)
    ·rw [← e]; exact hq.gt w hw
   ·have e0 : x.2 = y.2 := cmp4_i0.1 (by omega)
    split
    ·rename_i hz0
     refine (Cn.aE6 hp.tail hq.tail).cons hz0 fun z hz => ?_
     show 0 < cmp4 x.2 z.2
     rcases aE6_mon z hz with ⟨w, hw, e⟩ | ⟨w, hw, e⟩
     ·rw [← e]; exact hp.gt w hw
     ·rw [← e, e0]; exact hq.gt w hw
    ·exact Cn.aE6 hp.tail hq.tail
def cvF (f : MO.den → Rat) : List TE.den → MO.den → Rat
 | [], _ => 0
 | y :: q, m => y.1 * f (sbM' m y.2) + cvF f q m
theorem cvF_add (f g : MO.den → Rat) (m : MO.den) : ∀ q, cvF (fun k => f k + g k) q m = cvF f q m + cvF g q m
 | [] => by simp only [cvF, Rat.add_zero]
 | y :: q => by rw [cvF, cvF, cvF, cvF_add f g m q]; grind
theorem cvF_zero {f : MO.den → Rat} {m : MO.den} : ∀ {q : List TE.den}, (∀ z ∈ q, f (sbM' m z.2) = 0) → cvF f q m = 0
 | [], _ => rfl
 | y :: q, h => by rw [cvF, h y (by simp), cvF_zero fun z hz => h z (by simp [hz])]; grind
theorem cvF_one {f : MO.den → Rat} {m : MO.den} {y : TE.den} : ∀ {q : List TE.den}, DecT q → y ∈ q → (∀ z ∈ q, z.2 ≠ y.2 → f (sbM' m z.2) = 0) → cvF f q m = y.1 * f (sbM' m y.2)
 | [], _, hy, _ => by cases hy
 | x :: q, hd, hy, h => by
  have hd := List.pairwise_cons.1 hd
  rw [cvF]
  rcases List.mem_cons.1 hy with rfl | hy
  ·rw [cvF_zero fun z hz => h z (by simp [hz]) (fun e => cmp4_irr (hd.1 z hz) e.symm), Rat.add_zero]
  ·rw [h x (by simp) (fun e => cmp4_irr (hd.1 y hy) e), cvF_one hd.2 hy fun z hz => h z (by simp [hz])]; grind
theorem add_sub {x y m : MO.den} : aM' x y = m ↔ x = sbM' m y := by
 refine ⟨fun e => mx_ext fun j hj => ?_, fun e => mx_ext fun j hj => ?_⟩
 ·rw [mx_sub hj, ← e, mx_add hj]; omega
 ·rw [mx_add hj, e, mx_sub hj]; omega
theorem sub_add (x y : MO.den) : sbM' (aM' x y) y = x := (add_sub.1 rfl).symm
theorem add_comm' (x y : MO.den) : aM' x y = aM' y x := mx_ext fun j hj => by rw [mx_add hj, mx_add hj]; omega
theorem dl_mul (c d : Rat) (x y m : MO.den) : dl (c * d) (aM' x y) m = d * dl c x (sbM' m y) := by
 by_cases h : aM' x y = m
 ·rw [dl_e h, dl_e (add_sub.1 h)]; grind
 ·rw [dl_d h, dl_d fun e => h (add_sub.2 e)]; grind
theorem colT_nd {L : List TE.den} (c : Rat) (m : MO.den) (h : (L.map (·.2)).Nodup) : ((colT L c m).map (·.2)).Nodup := putT_nd _ _ h
theorem mlA_cf (x : TE.den) (m : MO.den) : ∀ {q L : List TE.den}, (L.map (·.2)).Nodup → cfT (mlA L x q) m = cfT L m + cvF (dl x.1 x.2) q m ∧ ((mlA L x q).map (·.2)).Nodup
 | [], L, h => by
  refine ⟨?_, h⟩
  show cfT L m = _ + cvF _ [] m
  rw [cvF, Rat.add_zero]
 | y :: q, L, h => by
  have ⟨i1, i2⟩ := mlA_cf x m (q := q) (colT_nd (x.1 * y.1) (aM' x.2 y.2) h)
  refine ⟨?_, i2⟩
  show cfT (mlA (colT L (x.1 * y.1) (aM' x.2 y.2)) x q) m = _
  rw [i1, colT_cf _ _ h, cvF]
  show cfT L m + dl (x.1 * y.1) (aM' x.2 y.2) m + _ = _
  rw [dl_mul]; grind
theorem mlP_cf (q : List TE.den) (m : MO.den) : ∀ {p L : List TE.den}, (L.map (·.2)).Nodup → cfT (mlP L q p) m = cfT L m + cvF (cfT p) q m ∧ ((mlP L q p).map (·.2)).Nodup
 | [], L, h => by
  refine ⟨?_, h⟩
  show cfT L m = _
  rw [cvF_zero fun z _ => cfT_n _, Rat.add_zero]
 | x :: p, L, h => by
  have ⟨a1, a2⟩ := mlA_cf x m (q := q) h
  have ⟨i1, i2⟩ := mlP_cf q m (p := p) a2
  refine ⟨?_, i2⟩
  show cfT (mlP (mlA L x q) q p) m = _
  rw [i1, a1, show cvF (cfT (x :: p)) q m = cvF (dl x.1 x.2) q m + cvF (cfT p) q m from cvF_add _ _ _ _, Rat.add_assoc]
theorem mulT_cf (p q : List TE.den) (m : MO.den) : cfT (mulT p q) m = cvF (cfT p) q m := by
 rw [mulT, cfT_srt, (mlP_cf q m (L := []) List.nodup_nil).1, cfT_n]; grind
theorem mulT_cn (p q : List TE.den) : Cn (mulT p q) := srt_cn (mlP_cf q MO.dflt (L := []) List.nodup_nil).2
structure Mord (o : MO.den → MO.den → Prop) : Prop where
 tr : ∀ {x y z}, o x y → o y z → o x z
 ir : ∀ x, ¬ o x x
 tot : ∀ {x y}, x ≠ y → o x y ∨ o y x
 ad : ∀ m {x y}, o x y → o (aM' m x) (aM' m y)
theorem cmM_ad (m x y : MO.den) : ∀ n i, i + n ≤ 8 → cmM (aM' m x) (aM' m y) n i = cmM x y n i
 | 0, _, _ => rfl
 | n + 1, i, h => by
  unfold cmM
  rw [mx_add (by omega), mx_add (by omega), cmM_ad m x y n (i + 1) (by omega)]
  by_cases h1 : mx x i < mx y i
  ·rw [if_pos h1, if_pos (by omega)]
  ·rw [if_neg h1, if_neg (by omega)]
   by_cases h2 : mx x i > mx y i
   ·rw [if_pos h2, if_pos (by omega)]
   ·rw [if_neg h2, if_neg (by omega)]
theorem cmp4_ad (m x y : MO.den) : cmp4 (aM' m x) (aM' m y) = cmp4 x y := cmM_ad m x y 8 0 (by decide)
abbrev o4 (x y : MO.den) : Prop := 0 < cmp4 x y
theorem mord4 : Mord o4 := ⟨cmp4_tr, fun x h => by simp only [o4, cmp4_self] at h; omega, fun {x y} h => by
 have h1 := cmp4_ne h
 have h2 := cmp4_neg x y
 show 0 < _ ∨ 0 < _
 omega, fun m {x y} h => by show 0 < _; rw [cmp4_ad]; exact h⟩
def oJ (j : Nat) (x y : MO.den) : Prop := mx y j < mx x j ∨ (mx x j = mx y j ∧ o4 x y)
theorem mordJ {j : Nat} (hj : j < 8) : Mord (oJ j) := ⟨fun {x y z} h k => by
 rcases h with h | ⟨h, h'⟩ <;> rcases k with k | ⟨k, k'⟩
 ·exact .inl (by omega)
 ·exact .inl (by omega)
 ·exact .inl (by omega)
 ·exact .inr ⟨by omega, mord4.tr h' k'⟩, fun x h => by
 rcases h with h | ⟨_, h⟩
 ·omega
 ·exact mord4.ir x h, fun {x y} h => by
 rcases Int.lt_trichotomy (mx x j) (mx y j) with h1 | h1 | h1
 ·exact .inr (.inl h1)
 ·rcases mord4.tot h with h2 | h2
  ·exact .inl (.inr ⟨h1, h2⟩)
  ·exact .inr (.inr ⟨h1.symm, h2⟩)
 ·exact .inl (.inl h1), fun m {x y} h => by
 rcases h with h | ⟨h, h'⟩
 ·refine .inl ?_
  rw [mx_add hj, mx_add hj]; omega
 ·refine .inr ⟨?_, mord4.ad m h'⟩
  rw [mx_add hj, mx_add hj]; omega⟩
def Top (o : MO.den → MO.den → Prop) (x : TE.den) (p : List TE.den) : Prop := x ∈ p ∧ ∀ z ∈ p, z.2 = x.2 ∨ o x.2 z.2
theorem top_ex {o : MO.den → MO.den → Prop} (O : Mord o) : ∀ {p : List TE.den}, p ≠ [] → ∃ x, Top o x p
 | [], h => absurd rfl h
 | [x], _ => ⟨x, by simp, fun z hz => .inl (by rw [List.mem_singleton.1 hz])⟩
 | x :: y :: p, _ => by
  obtain ⟨t, ht, hm⟩ := top_ex O (p := y :: p) (by simp)
  by_cases h : o t.2 x.2 ∨ x.2 = t.2
  ·refine ⟨t, List.mem_cons_of_mem _ ht, fun z hz => ?_⟩
   rcases List.mem_cons.1 hz with rfl | hz
   ·rcases h with h | h
    ·exact .inr h
    ·exact .inl h
   ·exact hm z hz
  ·have h1 : o x.2 t.2 := (O.tot (fun e => h (.inr e))).elim id fun h2 => absurd (.inl h2) h
   refine ⟨x, by simp, fun z hz => ?_⟩
   rcases List.mem_cons.1 hz with rfl | hz
   ·exact .inl rfl
   ·rcases hm z hz with e | e
    ·rw [e]; exact .inr h1
    ·exact .inr (O.tr h1 e)
theorem sum_lt {o : MO.den → MO.den → Prop} (O : Mord o) {x y : MO.den} {w z : MO.den} (hw : w = x ∨ o x w) (hz : z = y ∨ o y z) : aM' w z = aM' x y ∨ o (aM' x y) (aM' w z) := by
 rcases hw with rfl | hw <;> rcases hz with rfl | hz
 ·exact .inl rfl
 ·exact .inr (O.ad _ hz)
 ·refine .inr ?_
  rw [add_comm' x, add_comm' w]; exact O.ad _ hw
 ·refine .inr (O.tr (O.ad x hz) ?_)
  rw [add_comm' x, add_comm' w]; exact O.ad _ hw
theorem top_no {o : MO.den → MO.den → Prop} (O : Mord o) {p q : List TE.den} {x y : TE.den} (hx : Top o x p) (hy : Top o y q) {m : MO.den} (hm : o m (aM' x.2 y.2)) : cvF (cfT p) q m = 0 := cvF_zero fun z hz => Classical.byContradiction fun hc => by
 obtain ⟨w, hw, e⟩ := cfT_ne hc
 have e := add_sub.2 e
 rcases sum_lt O (hx.2 w hw) (hy.2 z hz) with h | h
 ·rw [e] at h; rw [h] at hm; exact O.ir _ hm
 ·rw [e] at h; exact O.ir _ (O.tr hm h)
theorem top_mul {o : MO.den → MO.den → Prop} (O : Mord o) {p q : List TE.den} (hp : DecT p) (hq : DecT q) {x y : TE.den} (hx : Top o x p) (hy : Top o y q) : cvF (cfT p) q (aM' x.2 y.2) = x.1 * y.1 := by
 rw [cvF_one hq hy.1 fun z hz hne => Classical.byContradiction fun hc => ?_, sub_add, cfT_mem hp hx.1]
 ·grind
 ·obtain ⟨w, hw, e⟩ := cfT_ne hc
  have e := add_sub.2 e
  have hz' := hy.2 z hz
  have h1 : o y.2 z.2 := hz'.elim (fun h => absurd h hne) id
  have h2 : o (aM' x.2 y.2) (aM' x.2 z.2) := O.ad _ h1
  rcases hx.2 w hw with h3 | h3
  ·rw [← e, h3] at h2; exact O.ir _ h2
  ·have h4 : o (aM' x.2 z.2) (aM' w.2 z.2) := by
    rw [add_comm' x.2, add_comm' w.2]; exact O.ad _ h3
   rw [e] at h4
   exact O.ir _ (O.tr h2 h4)
theorem rmul_ne {a b : Rat} (ha : a ≠ 0) (hb : b ≠ 0) : a * b ≠ 0 := fun e => (Rat.mul_eq_zero.1 e).elim ha hb
theorem Cn.top {x : TE.den} {p : List TE.den} (h : Cn (x :: p)) : Top o4 x (x :: p) := ⟨by simp, fun z hz => by
 rcases List.mem_cons.1 hz with rfl | hz
 ·exact .inl rfl
 ·exact .inr (h.gt z hz)⟩
theorem mulT_hd {t y : TE.den} {q b : List TE.den} (hq : Cn (t :: q)) (hb : Cn (y :: b)) : ∃ r, mulT (t :: q) (y :: b) = (t.1 * y.1, aM' t.2 y.2) :: r := by
 have hP := mulT_cn (t :: q) (y :: b)
 have h1 : cfT (mulT (t :: q) (y :: b)) (aM' t.2 y.2) = t.1 * y.1 := by
  rw [mulT_cf]; exact top_mul mord4 hq.dec hb.dec hq.top hb.top
 have h2 : ∀ m, o4 m (aM' t.2 y.2) → cfT (mulT (t :: q) (y :: b)) m = 0 := fun m hm => by
  rw [mulT_cf]; exact top_no mord4 hq.top hb.top hm
 cases e : mulT (t :: q) (y :: b) with
 | nil => rw [e, cfT_n] at h1; exact absurd h1.symm (rmul_ne hq.hd hb.hd)
 | cons h r =>
  rw [e] at h1 h2 hP
  have h3 := cfT_head hP.dec
  have h4 : h.2 = aM' t.2 y.2 := Classical.byContradiction fun hc => by
   rcases mord4.tot hc with h5 | h5
   ·exact hP.hd (h3.symm.trans (h2 _ h5))
   ·exact rmul_ne hq.hd hb.hd (h1.symm.trans (cfT_gt hP.dec h5))
  rw [h4, h1] at h3
  exact ⟨r, by rw [h3, ← h4]⟩
theorem dgT_ge {p : List TE.den} {x : TE.den} (hx : x ∈ p) {j : Nat} (hj : j < 8) : mx x.2 j ≤ mx (dgT p) j := by
 have key : ∀ (l : List TE.den) (d : MO.den), mx d j ≤ mx (l.foldl (fun d x => lcM d x.2) d) j ∧ ∀ x ∈ l, mx x.2 j ≤ mx (l.foldl (fun d x => lcM d x.2) d) j := by
  intro l
  induction l with
  | nil => intro d; exact ⟨Int.le_refl _, fun x hx => by cases hx⟩
  | cons a l ih =>
   intro d
   have ⟨i1, i2⟩ := ih (lcM d a.2)
   rw [mx_lc hj] at i1
   refine ⟨Int.le_trans (mxI_l _ _) i1, fun x hx => ?_⟩
   rcases List.mem_cons.1 hx with rfl | hx
   ·exact Int.le_trans (mxI_r _ _) i1
   ·exact i2 x hx
 exact (key p MO.dflt).2 x hx
theorem dgT_at {p : List TE.den} {j : Nat} (hj : j < 8) {k : Int} (h0 : 0 ≤ k) (h : ∀ x ∈ p, mx x.2 j ≤ k) : mx (dgT p) j ≤ k := by
 have key : ∀ (l : List TE.den) (d : MO.den), mx d j ≤ k → (∀ x ∈ l, mx x.2 j ≤ k) → mx (l.foldl (fun d x => lcM d x.2) d) j ≤ k := by
  intro l
  induction l with
  | nil => intro d hd _; exact hd
  | cons a l ih =>
   intro d hd hl
   refine ih _ ?_ fun x hx => hl x (by simp [hx])
   rw [mx_lc hj]; exact mxI_le hd (hl a (by simp))
 exact key p MO.dflt (by rw [mx_dflt hj]; exact h0) h
def Nn (p : List TE.den) : Prop := ∀ x ∈ p, ∀ j, j < 8 → 0 ≤ mx x.2 j
theorem dgT_mul {q b : List TE.den} (hq : Cn q) (hb : Cn b) (nq : Nn q) (nb : Nn b) (q0 : q ≠ []) (b0 : b ≠ []) {j : Nat} (hj : j < 8) : mx (dgT q) j + mx (dgT b) j ≤ mx (dgT (mulT q b)) j := by
 obtain ⟨x, hx⟩ := top_ex (mordJ hj) q0
 obtain ⟨y, hy⟩ := top_ex (mordJ hj) b0
 have h1 : cfT (mulT q b) (aM' x.2 y.2) ≠ 0 := by
  rw [mulT_cf, top_mul (mordJ hj) hq.dec hb.dec hx hy]
  exact rmul_ne (hq.ne x hx.1) (hb.ne y hy.1)
 obtain ⟨z, hz, e⟩ := cfT_ne h1
 have h2 := dgT_ge hz hj
 rw [e, mx_add hj] at h2
 have h3 : mx (dgT q) j ≤ mx x.2 j := dgT_at hj (nq x hx.1 j hj) fun z hz => by
  rcases hx.2 z hz with e | e | ⟨e, _⟩
  ·rw [e]; exact Int.le_refl _
  ·omega
  ·omega
 have h4 : mx (dgT b) j ≤ mx y.2 j := dgT_at hj (nb y hy.1 j hj) fun z hz => by
  rcases hy.2 z hz with e | e | ⟨e, _⟩
  ·rw [e]; exact Int.le_refl _
  ·omega
  ·omega
 omega
abbrev ngT (q : List TE.den) : List TE.den := q.map (gT fun c => -c)
theorem ngT_cf (m : MO.den) : ∀ q : List TE.den, cfT (ngT q) m = -cfT q m
 | [] => rfl
 | x :: q => by
  show cfT (gT (fun c => -c) x :: ngT q) m = _
  rw [cfT_c, cfT_c, ngT_cf m q]
  show dl (-x.1) x.2 m + _ = _
  by_cases h : x.2 = m
  ·rw [dl_e h, dl_e h]; grind
  ·rw [dl_d h, dl_d h]; grind
theorem ngT_cn {q : List TE.den} (h : Cn q) : Cn (ngT q) := ⟨List.pairwise_map.2 h.dec, fun z hz => by
 obtain ⟨x, hx, rfl⟩ := List.mem_map.1 hz
 exact fun e => h.ne x hx (by have e : -x.1 = 0 := e; grind)⟩
theorem tm_cf (c : Rat) (m k : MO.den) : ∀ b : List TE.den, cfT (b.map (tE1 c m)) k = cvF (dl c m) b k
 | [] => rfl
 | x :: b => by
  rw [List.map_cons, cfT_c, tm_cf c m k b, cvF]
  show dl (c * x.1) (aM' m x.2) k + _ = _
  rw [dl_mul]
theorem tm_cn {c : Rat} (h0 : c ≠ 0) (m : MO.den) {b : List TE.den} (h : Cn b) : Cn (b.map (tE1 c m)) := ⟨List.pairwise_map.2 (h.dec.imp fun {x y} hxy => by
 show 0 < cmp4 (aM' m x.2) (aM' m y.2)
 rw [cmp4_ad]; exact hxy), fun z hz => by
 obtain ⟨x, hx, rfl⟩ := List.mem_map.1 hz
 exact rmul_ne h0 (h.ne x hx)⟩
theorem dvA_cf (x y : TE.den) (a b : List TE.den) (k : MO.den) : cfT (dvA x y a b) k = cfT a k - cvF (dl (x.1 * y.1⁻¹) (sbM' x.2 y.2)) b k := by
 rw [dvA, cfT_aT6, ngT_cf, tm_cf]; grind
theorem dvA_cn {x y : TE.den} {a b : List TE.den} (ha : Cn a) (hb : Cn b) (h : x.1 * y.1⁻¹ ≠ 0) : Cn (dvA x y a b) := ha.aE6 (ngT_cn (tm_cn h _ hb))
theorem cvF_sub (f g : MO.den → Rat) (m : MO.den) : ∀ q, cvF (fun k => f k - g k) q m = cvF f q m - cvF g q m
 | [] => by simp only [cvF]; grind
 | y :: q => by rw [cvF, cvF, cvF, cvF_sub f g m q]; grind
theorem cfT_snoc (q : List TE.den) (t : TE.den) (m : MO.den) : cfT (q ++ [t]) m = cfT q m + dl t.1 t.2 m := by
 rw [cfT_app, cfT_c, cfT_n]; grind
theorem dvK_sound {y : TE.den} {b : List TE.den} {lim : MO.den} : ∀ {n : Nat} {a q r : List TE.den}, dvK y b lim n a q = some (some r) → (∀ k, cfT a k + cvF (cfT q) b k = cvF (cfT r) b k) ∧ (Nn q → Nn r)
 | 0, _, _, _, h => by cases h
 | n + 1, [], q, r, h => by
  have h : q = r := Option.some.inj (Option.some.inj h)
  subst h
  exact ⟨fun k => by rw [cfT_n]; grind, id⟩
 | n + 1, x :: a, q, r, h => by
  rw [dvK] at h
  split at h
  ·rename_i hin
   have ⟨i1, i2⟩ := dvK_sound h
   refine ⟨fun k => ?_, fun hn => i2 fun z hz j hj => ?_⟩
   ·rw [← i1 k, dvA_cf, show cvF (cfT (q ++ [(x.1 * y.1⁻¹, sbM' x.2 y.2)])) b k = cvF (cfT q) b k + cvF (dl (x.1 * y.1⁻¹) (sbM' x.2 y.2)) b k from by
     rw [← cvF_add]
     exact congrArg (fun f => cvF f b k) (funext fun m => cfT_snoc q _ m)]
    grind
   ·rcases List.mem_append.1 hz with hz | hz
    ·exact hn z hz j hj
    ·rw [List.mem_singleton.1 hz]
     show 0 ≤ mx (sbM' x.2 y.2) j
     rw [mx_sub hj]
     exact (inb_t hin j (Nat.zero_le _) (by omega)).1
  ·cases h
theorem dvK_found {y : TE.den} {b : List TE.den} {lim : MO.den} (hb : Cn (y :: b)) : ∀ {q : List TE.den} {n : Nat} {d : List TE.den}, Cn q → q.length < n → (∀ t ∈ q, ∀ j, j < 8 → 0 ≤ mx t.2 j ∧ mx t.2 j ≤ mx lim j) → dvK y (y :: b) lim n (mulT q (y :: b)) d = some (some (d ++ q))
 | [], n, d, _, hn, _ => by
  have h0 : mulT [] (y :: b) = [] := (mulT_cn _ _).nil_of fun m => by
   rw [mulT_cf]; exact cvF_zero fun z _ => cfT_n _
  rw [h0, List.append_nil]
  cases n with
  | zero => cases hn
  | succ n => rfl
 | t :: q, n, d, hq, hn, hl => by
  obtain ⟨r, e⟩ := mulT_hd hq hb
  rw [e]
  cases n with
  | zero => cases hn
  | succ n =>
   have hin : inb (aM' t.2 y.2) y.2 lim 8 0 = true := inb_f fun j _ hj => by
    have := hl t (by simp) j (by omega)
    rw [mx_add (by omega)]; omega
   rw [dvK, if_pos hin]
   have hy0 := hb.hd
   have e1 : t.1 * y.1 * y.1⁻¹ = t.1 := by
    rw [Rat.mul_assoc, Rat.mul_inv_cancel _ hy0, Rat.mul_one]
   have e2 : (t.1 * y.1 * y.1⁻¹, sbM' (aM' t.2 y.2) y.2) = t := by
    rw [e1, sub_add]
   have e3 : dvA (t.1 * y.1, aM' t.2 y.2) y ((t.1 * y.1, aM' t.2 y.2) :: r) (y :: b) = mulT q (y :: b) := by
    rw [← e]
    refine Cn.ext (dvA_cn (mulT_cn _ _) hb ?_) (mulT_cn _ _) fun m => ?_
    ·show t.1 * y.1 * y.1⁻¹ ≠ 0
     rw [e1]; exact hq.hd
    ·rw [dvA_cf, mulT_cf, mulT_cf]
     show cvF (cfT (t :: q)) (y :: b) m - cvF (dl (t.1 * y.1 * y.1⁻¹) (sbM' (aM' t.2 y.2) y.2)) (y :: b) m = _
     rw [e1, sub_add, show cvF (cfT (t :: q)) (y :: b) m = cvF (dl t.1 t.2) (y :: b) m + cvF (cfT q) (y :: b) m from cvF_add _ _ _ _]
     grind
   rw [e3, e2, dvK_found hb hq.tail (by simpa using hn) fun z hz => hl z (by simp [hz]), List.append_assoc]; rfl
theorem dvT_found {q b : List TE.den} {N : Nat} (hq : Cn q) (hb : Cn b) (nq : Nn q) (nb : Nn b) (b0 : b ≠ []) (hN : q.length < N) : dvT N (mulT q b) b = some (some q) := by
 cases b with
 | nil => exact absurd rfl b0
 | cons y b =>
  cases q with
  | nil =>
   have h0 : mulT [] (y :: b) = [] := (mulT_cn _ _).nil_of fun m => by
    rw [mulT_cf]; exact cvF_zero fun z _ => cfT_n _
   rw [h0, dvT, if_pos (by simp)]
   cases N with
   | zero => cases hN
   | succ n => rfl
  | cons t q =>
   have hd := fun j (hj : j < 8) => dgT_mul hq hb nq nb (by simp) (by simp) hj
   have hq0 : ∀ j, j < 8 → 0 ≤ mx (dgT (t :: q)) j := fun j hj => Int.le_trans (nq t (by simp) j hj) (dgT_ge (by simp) hj)
   have hdv : dv4 (dgT (y :: b)) (dgT (mulT (t :: q) (y :: b))) = true := dv4_iff.2 fun j hj => by
    have := hd j hj; have := hq0 j hj; omega
   rw [dvT, if_pos (by rw [hdv]; rfl), limT, if_pos hdv]
   exact dvK_found hb hq hN fun z hz j hj => ⟨nq z hz j hj, by
    rw [mx_sub hj]
    have h1 := hd j hj
    have h2 := dgT_ge hz hj
    omega⟩
theorem dvT_sound {a b r : List TE.den} {N : Nat} (ha : Cn a) (h : dvT N a b = some (some r)) : mulT r b = a ∧ Nn r := by
 rw [dvT] at h
 split at h
 ·have ⟨h1, h2⟩ := dvK_sound h
  refine ⟨Cn.ext (mulT_cn _ _) ha fun m => ?_, h2 (fun x hx => by cases hx)⟩
  have h3 : cvF (cfT []) b m = 0 := cvF_zero fun z _ => cfT_n _
  rw [mulT_cf, ← h1 m, h3]; grind
 ·cases h
def oneT : List TE.den := [(1, MO.dflt)]
theorem one_cf (r : List TE.den) (m : MO.den) : cfT (mulT r oneT) m = cfT r m := by
 rw [mulT_cf]
 show (1 : Rat) * cfT r (sbM' m MO.dflt) + 0 = _
 rw [show sbM' m MO.dflt = m from mx_ext fun j hj => by rw [mx_sub hj, mx_dflt hj]; omega]; grind
theorem dvT_cn {a b r : List TE.den} {N : Nat} (ha : Cn a) (hb : Cn b) (nb : Nn b) (b0 : b ≠ []) (hN : (mulT r oneT).length < N) (h : dvT N a b = some (some r)) : Cn r := by
 have ⟨h1, h2⟩ := dvT_sound ha h
 have hm : mulT (mulT r oneT) b = a := by
  rw [← h1]
  exact Cn.ext (mulT_cn _ _) (mulT_cn _ _) fun m => by
   rw [mulT_cf, mulT_cf]
   exact congrArg (fun f => cvF f b m) (funext fun k => one_cf r k)
 have hn : Nn (mulT r oneT) := fun x hx j hj => by
  have h3 : cfT (mulT r oneT) x.2 ≠ 0 := by
   rw [cfT_mem (mulT_cn _ _).dec hx]; exact (mulT_cn _ _).ne x hx
  rw [one_cf] at h3
  obtain ⟨z, hz, e⟩ := cfT_ne h3
  rw [← e]; exact h2 z hz j hj
 have h4 := dvT_found (mulT_cn r oneT) hb hn nb b0 hN
 rw [hm, h] at h4
 rw [Option.some.inj (Option.some.inj h4)]
 exact mulT_cn _ _
def eq1 (x y : TE.den) : Bool := decide (moL x.2 = moL y.2) && decide (x.1 = y.1)
def eqT : List TE.den → List TE.den → Bool
 | [], [] => true
 | x :: p, y :: q => eq1 x y && eqT p q
 | [], _ :: _ => false
 | _ :: _, [] => false
theorem eq1_iff {x y : TE.den} : eq1 x y = true ↔ x = y := by
 simp only [eq1, Bool.and_eq_true, decide_eq_true_eq]
 refine ⟨fun h => Prod.ext h.2 (moL_inj h.1), fun h => by subst h; exact ⟨rfl, rfl⟩⟩
theorem eqT_iff : ∀ {p q : List TE.den}, eqT p q = true ↔ p = q
 | [], [] => by simp [eqT]
 | x :: p, [] => by simp [eqT]
 | [], y :: q => by simp [eqT]
 | x :: p, y :: q => by
  rw [eqT, Bool.and_eq_true, eq1_iff, eqT_iff, List.cons.injEq]
theorem eqT_len : ∀ {p q : List TE.den}, p.length ≠ q.length → eqT p q = false := fun {p q} h => by
 cases e : eqT p q with
 | false => rfl
 | true => exact absurd (congrArg List.length (eqT_iff.1 e)) h
def SzT (k : Int) (w : Nat) (p : List TE.den) : Prop := ∀ x ∈ p, bM k x.2 ∧ QS w x.1
set_option maxRecDepth 100000 in
set_option maxHeartbeats 8000000 in
theorem rSameTerm_s {x y : TE.den} {w : Nat} (hx : bM 65535 x.2 ∧ QS w x.1) (hy : bM 65535 y.2) (hw : w ≤ 100000000000) : FnS Tryz.prog 49 [.a (av TE x), .a (av TE y)] (cB (eq1 x y)) := by
 refine fsI Tryz.func49 ?_
 refine rr rfl ?_
 refine rb (rqa arrMO eqgMO rfl rfl rfl (moL_key x.2) (moL_key y.2) (moL_wf hx.1) (moL_wf hy) (rg 10 rfl rfl (fun h => ?_) (fun h => ?_)))
 ·refine rcg rfl rfl rfl rfl rfl (rQSame_s x.1 y.1 hx.2 hw) (re rfl (rtE rfl ?_))
  rw [eq1, h]; rfl
 ·refine re rfl (rtE rfl ?_)
  rw [eq1, h]; rfl
set_option maxRecDepth 100000 in
set_option maxHeartbeats 8000000 in
theorem rSame6_s {p q : List TE.den} {w : Nat} (lp : p.length ≤ 100000) (hp : SzT 65535 w p) (hq : SzT 65535 w q) (hw : w ≤ 100000000000) : FnS Tryz.prog 20 [cS TE p, cS TE q] (cB (eqT p q)) := by
 refine fsI Tryz.func20 ?_
 refine rr rfl (tr_seq (rr rfl (tr_cond rfl (fun h => ?_) (fun h => skT ?_))))
 ·have h : p.length ≠ q.length := fun e => by
   have h : ((p.length : Int) != (q.length : Int)) = true := h
   rw [e] at h; simp at h
  exact rr rfl (tr_ret (at_then_ret (atE rfl (congrArg cB (eqT_len h).symm))))
 ·have hl : p.length = q.length := by
   have h : ((p.length : Int) != (q.length : Int)) = false := h
   have h : (p.length : Int) = (q.length : Int) := by simpa using h
   omega
  refine tr_seq (rr rfl ?_)
  refine tr_block (tr_loop (α := Nat) (fun i => ⟨[(0, cS TE p), (1, cS TE q), (5, cI i)], [], 4, []⟩) (fun i => i ≤ p.length ∧ eqT p q = eqT (p.drop i) (q.drop i)) (fun i => p.length - i) 0 ⟨Nat.zero_le _, rfl⟩ wkA ?_)
  rintro i ⟨hi, he⟩
  refine tr_seq (rr rfl (tr_cond rfl (fun h2 => skT ?_) (fun h2 => ?_)))
  ·have h2 : i < p.length := by
    have h2 : (i : Int) < (p.length : Int) := of_decide_eq_true h2
    omega
   have h3 : i < q.length := by omega
   have hx := getD_in (d := TE.dflt) hp h2
   have hy := getD_in (d := TE.dflt) hq h3
   have ei : ((i : Int)).toNat = i := Int.toNat_natCast i
   have hst : FnS Tryz.prog 49 [.a (av TE (p.getD ((i : Int)).toNat TE.dflt)), .a (av TE (q.getD ((i : Int)).toNat TE.dflt))] (cB (eq1 (p.getD i TE.dflt) (q.getD i TE.dflt))) := by
    rw [ei]; exact rSameTerm_s hx hy.1 hw
   rw [drop_getD TE.dflt h2, drop_getD TE.dflt h3, eqT] at he
   refine tr_seq (tr_block (rb (rc rfl rfl hst (re rfl (tr_cond rfl (fun h4 => ?_) (fun h4 => ?_))))))
   ·have h4 : eq1 (p.getD i TE.dflt) (q.getD i TE.dflt) = false := by simpa using h4
    rw [h4, Bool.false_and] at he
    refine rr rfl (tr_ret ?_)
    repeat (first | refine at_then_ret ?_ | refine at_block_ret ?_ | refine at_loop_ret ?_)
    exact atE rfl (congrArg cB he.symm)
   ·have h4 : eq1 (p.getD i TE.dflt) (q.getD i TE.dflt) = true := by simpa using h4
    rw [h4, Bool.true_and] at he
    exact tr_skip (bkT (rt rfl (hp := by simp only [Pr.an, Pr.h, num, i64r, true_and, and_true]; first | done | omega) (at_loop (i + 1) ⟨h2, he⟩ (by show p.length - (i + 1) < p.length - i; omega) (wk ⟨sR rfl, sR rfl, sE rfl rfl, trivial⟩ trivial))))
  ·have h2 : i = p.length := by
    have h2 : ¬ (i : Int) < (p.length : Int) := of_decide_eq_false h2
    omega
   subst h2
   rw [List.drop_length, List.drop_eq_nil_of_le (by omega : q.length ≤ p.length)] at he
   exact xlE (at_then (rr rfl (rtE rfl (congrArg cB he.symm))))
def DD (D : Int) (M : Nat) (c : Rat) : Prop := ∃ z : Int, z.natAbs ≤ M ∧ c * (D : Rat) = (z : Rat)
theorem DD.le {D : Int} {M M' : Nat} {c : Rat} (h : DD D M c) (k : M ≤ M') : DD D M' c := let ⟨z, a, b⟩ := h; ⟨z, Nat.le_trans a k, b⟩
theorem DD.zero (D : Int) (M : Nat) : DD D M 0 := ⟨0, Nat.zero_le _, by rw [Rat.zero_mul]; rfl⟩
theorem DD.add {D : Int} {M N : Nat} {c d : Rat} (h : DD D M c) (k : DD D N d) : DD D (M + N) (c + d) := by
 obtain ⟨z, a, b⟩ := h
 obtain ⟨w, e, f⟩ := k
 exact ⟨z + w, by omega, by rw [Rat.add_mul, b, f, Rat.intCast_add]⟩
theorem DD.neg {D : Int} {M : Nat} {c : Rat} (h : DD D M c) : DD D M (-c) := by
 obtain ⟨z, a, b⟩ := h
 exact ⟨-z, by omega, by rw [Rat.neg_mul, b, Rat.intCast_neg]⟩
theorem DD.mul {D E : Int} {M N : Nat} {c d : Rat} (h : DD D M c) (k : DD E N d) : DD (D * E) (M * N) (c * d) := by
 obtain ⟨z, a, b⟩ := h
 obtain ⟨w, e, f⟩ := k
 refine ⟨z * w, by rw [Int.natAbs_mul]; exact Nat.mul_le_mul a e, ?_⟩
 rw [Rat.intCast_mul, Rat.intCast_mul, ← b, ← f]; grind
theorem DD.up {D : Int} {M : Nat} {c : Rat} (h : DD D M c) (E : Int) {N : Nat} (hE : E.natAbs ≤ N) : DD (D * E) (M * N) c := by
 have h2 : DD E N 1 := ⟨E, hE, by rw [Rat.one_mul]⟩
 have := h.mul h2
 rwa [Rat.mul_one] at this
theorem DD.int (z : Int) {M : Nat} (h : z.natAbs ≤ M) : DD 1 M (z : Rat) := ⟨z, h, by rw [show ((1 : Int) : Rat) = 1 from rfl, Rat.mul_one]⟩
theorem icast_ne {D : Int} (h : D ≠ 0) : (D : Rat) ≠ 0 := fun e => h (Rat.intCast_eq_zero_iff.1 e)
theorem DD.qs {D : Int} {M s : Nat} {c : Rat} (h : DD D M c) (h0 : D ≠ 0) (hD : D.natAbs < 4294967296 ^ s) (hM : M < 4294967296 ^ s) : QS s c := by
 obtain ⟨z, a, b⟩ := h
 have key : ∀ (D z : Int), 0 < D → D.natAbs < 4294967296 ^ s → z.natAbs ≤ M → c * (D : Rat) = (z : Rat) → QS s c := by
  intro D z h0 h2 h4 h5
  have e : Rat.divInt z D = c := by
   rw [Rat.divInt_eq_div, Rat.div_def, ← h5, Rat.mul_assoc, Rat.mul_inv_cancel _ (icast_ne (show D ≠ 0 by omega)), Rat.mul_one]
  rw [← e]
  exact divInt_QS h0 (show z.natAbs < 4294967296 ^ s by omega) h2
 rcases Int.lt_trichotomy D 0 with e | e | e
 ·exact key (-D) (-z) (by omega) (by omega) (by omega) (by rw [Rat.intCast_neg, Rat.intCast_neg, ← b]; grind)
 ·exact absurd e h0
 ·exact key D z e hD a b
theorem colT_mem {L : List TE.den} {c : Rat} {m : MO.den} {x : TE.den} (h : x ∈ colT L c m) : (∃ o, (o, m) ∈ L ∧ x = (o + c, m)) ∨ x = (c, m) ∨ x ∈ L := by
 unfold colT at h
 rcases putT_mem h with h | h
 ·cases e : fndT L m with
  | none => rw [e] at h; exact .inr (.inl h)
  | some o => rw [e] at h; exact .inl ⟨o, fndT_mem e, h⟩
 ·exact .inr (.inr h)
theorem mlA_dd {D : Int} {M : Nat} {x : TE.den} : ∀ {q L : List TE.den} {n : Nat}, (∀ e ∈ L, DD D (n * M) e.1) → (∀ y ∈ q, DD D M (x.1 * y.1)) → ∀ e ∈ mlA L x q, DD D ((n + q.length) * M) e.1
 | [], _, _, hL, _, e, he => hL e he
 | y :: q, L, n, hL, hq, e, he => by
  have := mlA_dd (q := q) (n := n + 1) (fun z hz => by
   rw [Nat.add_mul, Nat.one_mul]
   rcases colT_mem hz with ⟨o, ho, rfl⟩ | rfl | hz
   ·exact (hL _ ho).add (hq y (by simp))
   ·exact (hq y (by simp)).le (Nat.le_add_left _ _)
   ·exact (hL z hz).le (Nat.le_add_right _ _)) (fun z hz => hq z (by simp [hz])) e he
  rwa [List.length_cons, show n + (q.length + 1) = n + 1 + q.length by omega]
theorem mlP_dd {D : Int} {M : Nat} {q : List TE.den} : ∀ {p L : List TE.den} {n : Nat}, (∀ e ∈ L, DD D (n * M) e.1) → (∀ x ∈ p, ∀ y ∈ q, DD D M (x.1 * y.1)) → ∀ e ∈ mlP L q p, DD D ((n + p.length * q.length) * M) e.1
 | [], _, _, hL, _, e, he => by rw [List.length_nil, Nat.zero_mul, Nat.add_zero]; exact hL e he
 | x :: p, L, n, hL, hp, e, he => by
  have := mlP_dd (p := p) (n := n + q.length) (mlA_dd hL (hp x (by simp))) (fun z hz => hp z (by simp [hz])) e he
  have e1 : n + (x :: p).length * q.length = n + q.length + p.length * q.length := by
   rw [List.length_cons, Nat.succ_mul]; omega
  rw [e1]; exact this
theorem pMulD_s {p q : List TE.den} {D : Int} {M w : Nat} (hp : SzT 30000 w p) (hq : SzT 30000 w q) (hw : w ≤ 1000000) (lp : p.length ≤ 200) (lq : q.length ≤ 200) (h : ∀ x ∈ p, ∀ y ∈ q, DD D M (x.1 * y.1)) (h0 : D ≠ 0) (hD : D.natAbs < 4294967296 ^ w) (hM : 100000 * M < 4294967296 ^ w) (h12 : (mulT p q).length ≤ 12) :
  FnS Tryz.prog 48 [cS TE p, cS TE q] (.t [(false, [.S TE (mulT p q)]), (false, [.I .i64 0])]) := by
 have hpq : p.length * q.length ≤ 40000 := Nat.mul_le_mul lp lq
 refine pMul_s hp hq hw (by omega) (by omega) (fun i hi j hj e he => ?_) h12
 have h1 : ∀ e ∈ mlP [] q (p.take i), DD D ((0 + (p.take i).length * q.length) * M) e.1 := mlP_dd (fun e he => by cases he) fun x hx => h x (List.mem_of_mem_take hx)
 have h2 := mlA_dd h1 (fun y hy => getD_in (p := fun x : TE.den => DD D M (x.1 * y.1)) (d := TE.dflt) (fun x hx => h x hx y (List.mem_of_mem_take hy)) hi) e he
 have h6 : (p.take i).length ≤ 200 := by rw [List.length_take]; omega
 have h3 : (p.take i).length * q.length ≤ 40000 := Nat.mul_le_mul h6 lq
 have h4 : (q.take j).length ≤ 200 := by rw [List.length_take]; omega
 have h5 : (0 + (p.take i).length * q.length + (q.take j).length) * M ≤ 100000 * M := Nat.mul_le_mul_right _ (by omega)
 exact ((h2.le h5).qs h0 hD hM).le (by omega)
def Bx (k : Int) (m : MO.den) : Prop := ∀ j, j < 8 → 0 ≤ mx m j ∧ mx m j ≤ if j < 3 then k else 0
def Vm (m : MO.den) : Nat := (25 * mx m 0 + 5 * mx m 1 + mx m 2).toNat
theorem Bx.le {k l : Int} {m : MO.den} (h : Bx k m) (hl : k ≤ l) : Bx l m := fun j hj => by
 have := h j hj
 refine ⟨this.1, ?_⟩
 split <;> rename_i h1
 ·rw [if_pos h1] at this; omega
 ·rw [if_neg h1] at this; omega
theorem Bx.bM {k : Int} {m : MO.den} (h : Bx k m) (hk : 0 ≤ k) : bM k m := fun j hj => by
 have := h j hj
 refine ⟨this.1, ?_⟩
 split at this <;> omega
theorem o4_ex {x y : MO.den} : ∀ {n i : Nat}, 0 < cmM x y n i → ∃ j, i ≤ j ∧ j < i + n ∧ (∀ l, i ≤ l → l < j → mx x l = mx y l) ∧ mx y j < mx x j
 | 0, i, h => by
  have h : (0 : Int) < 0 := h
  omega
 | n + 1, i, h => by
  unfold cmM at h
  split at h
  ·omega
  ·split at h
   ·rename_i h2
    exact ⟨i, Nat.le_refl _, by omega, fun l h1 h2 => by omega, h2⟩
   ·obtain ⟨j, h3, h4, h5, h6⟩ := o4_ex h
    refine ⟨j, by omega, by omega, fun l hl hl2 => ?_, h6⟩
    rcases Nat.lt_or_ge i l with h7 | h7
    ·exact h5 l (by omega) hl2
    ·obtain rfl : l = i := by omega
     omega
theorem Bx.j3 {k : Int} {m : MO.den} (h : Bx k m) {j : Nat} (hj : j < 3) : 0 ≤ mx m j ∧ mx m j ≤ k := by
 have := h j (by omega)
 rwa [if_pos hj] at this
theorem Vm_lt {x y : MO.den} (hx : Bx 4 x) (hy : Bx 4 y) (h : o4 x y) : Vm y < Vm x := by
 obtain ⟨j, _, hj, he, hl⟩ := o4_ex h
 have x0 := hx.j3 (j := 0) (by decide)
 have x1 := hx.j3 (j := 1) (by decide)
 have x2 := hx.j3 (j := 2) (by decide)
 have y0 := hy.j3 (j := 0) (by decide)
 have y1 := hy.j3 (j := 1) (by decide)
 have y2 := hy.j3 (j := 2) (by decide)
 have hj3 : j < 3 := Classical.byContradiction fun hc => by
  have h1 := hx j (by omega)
  have h2 := hy j (by omega)
  rw [if_neg hc] at h1 h2
  omega
 unfold Vm
 rcases (show j = 0 ∨ j = 1 ∨ j = 2 by omega) with rfl | rfl | rfl
 ·omega
 ·have := he 0 (by decide) (by decide); omega
 ·have := he 0 (by decide) (by decide)
  have := he 1 (by decide) (by decide); omega
theorem Vm_b {x : MO.den} (hx : Bx 4 x) : Vm x < 125 := by
 have x0 := hx.j3 (j := 0) (by decide)
 have x1 := hx.j3 (j := 1) (by decide)
 have x2 := hx.j3 (j := 2) (by decide)
 unfold Vm; omega
theorem Cn.len : ∀ {p : List TE.den} {x : TE.den}, Cn (x :: p) → (∀ z ∈ x :: p, Bx 4 z.2) → p.length ≤ Vm x.2
 | [], _, _, _ => Nat.zero_le _
 | y :: p, x, h, hb => by
  have h1 := Cn.len h.tail fun z hz => hb z (by simp [hz])
  have h2 := Vm_lt (hb x (by simp)) (hb y (by simp)) (h.gt y (by simp))
  rw [List.length_cons]; omega
theorem Cn.len125 {p : List TE.den} (h : Cn p) (hb : ∀ z ∈ p, Bx 4 z.2) : p.length ≤ 125 := by
 cases p with
 | nil => exact Nat.zero_le _
 | cons x p =>
  have := h.len hb
  have := Vm_b (hb x (by simp))
  rw [List.length_cons]; omega
theorem cvF_dl (c : Rat) (m k : MO.den) : ∀ b : List TE.den, cvF (dl c m) b k = c * cfT b (sbM' k m)
 | [] => by rw [cvF, cfT_n, Rat.mul_zero]
 | y :: b => by
  rw [cvF, cvF_dl c m k b, cfT_c]
  have e : m = sbM' k y.2 ↔ y.2 = sbM' k m := by
   rw [← add_sub, ← add_sub, add_comm']
  by_cases h : m = sbM' k y.2
  ·rw [dl_e h, dl_e (e.1 h)]; grind
  ·rw [dl_d h, dl_d fun g => h (e.2 g)]; grind
abbrev Cq (n : Nat) : Nat := 252 * 18 ^ n
theorem cq_s (n : Nat) : Cq n * 9 + Cq n * 9 = Cq (n + 1) := by
 show 252 * 18 ^ n * 9 + 252 * 18 ^ n * 9 = 252 * (18 ^ n * 18)
 omega
structure DvB (L : Int) (y : TE.den) (b : List TE.den) (lim : MO.den) : Prop where
 l0 : L ≠ 0
 l9 : L.natAbs ≤ 9
 yl : y.1 = (L : Rat)
 cn : Cn (y :: b)
 dd : ∀ m, DD 1 9 (cfT (y :: b) m)
 bx : ∀ z ∈ y :: b, Bx 2 z.2
 lim : ∀ j, j < 8 → mx lim j + mx (dgT (y :: b)) j ≤ if j < 3 then 4 else 0
structure DvQ (L : Int) (q : List TE.den) : Prop where
 ln : q.length ≤ 125
 bx : ∀ t ∈ q, Bx 4 t.2
 dd : ∀ t ∈ q, DD (L ^ 125) (Cq 125) t.1
structure DvS (L : Int) (a q : List TE.den) : Prop where
 cn : Cn a
 bx : ∀ x ∈ a, Bx 4 x.2
 dd : ∀ m, DD (L ^ q.length) (Cq q.length) (cfT a m)
 nu : ∀ x a', a = x :: a' → q.length + Vm x.2 + 1 ≤ 125
 q : DvQ L q
theorem pow9 {L : Int} (h : L.natAbs ≤ 9) : ∀ n, (L ^ n).natAbs ≤ 9 ^ n
 | 0 => by simp
 | n + 1 => by
  rw [Int.pow_succ, Int.natAbs_mul, Nat.pow_succ]
  exact Nat.mul_le_mul (pow9 h n) h
theorem DvS.next {L : Int} {y x : TE.den} {b a q : List TE.den} {lim : MO.den} (B : DvB L y b lim) (S : DvS L (x :: a) q) (hin : inb x.2 y.2 lim 8 0 = true) : DvS L (dvA x y (x :: a) (y :: b)) (q ++ [(x.1 * y.1⁻¹, sbM' x.2 y.2)]) := by
 have hy0 := B.cn.hd
 have hx0 := S.cn.hd
 have hc0 : x.1 * y.1⁻¹ ≠ 0 := rmul_ne hx0 (rinv_ne hy0)
 have hcf : ∀ k, cfT (dvA x y (x :: a) (y :: b)) k = cfT (x :: a) k - x.1 * y.1⁻¹ * cfT (y :: b) (sbM' k (sbM' x.2 y.2)) := fun k => by
  rw [dvA_cf, cvF_dl]
 have hcn : Cn (dvA x y (x :: a) (y :: b)) := dvA_cn S.cn B.cn hc0
 have hxd := S.dd x.2
 rw [cfT_head S.cn.dec] at hxd
 have hq124 : q.length ≤ 124 := by have := S.nu x a rfl; omega
 have hcd : DD (L ^ (q.length + 1)) (Cq q.length) (x.1 * y.1⁻¹) := by
  obtain ⟨z, h1, h2⟩ := hxd
  refine ⟨z, h1, ?_⟩
  rw [Int.pow_succ, Rat.intCast_mul, B.yl, ← h2]
  have := Rat.inv_mul_cancel _ (icast_ne B.l0)
  grind
 have hdd : ∀ m, DD (L ^ (q.length + 1)) (Cq (q.length + 1)) (cfT (dvA x y (x :: a) (y :: b)) m) := fun m => by
  rw [hcf, Rat.sub_eq_add_neg, ← cq_s]
  refine DD.add ?_ ?_
  ·rw [Int.pow_succ]; exact (S.dd m).up L B.l9
  ·have := (hcd.mul (B.dd (sbM' m (sbM' x.2 y.2)))).neg
   rwa [Int.mul_one] at this
 have hmb : ∀ j, j < 8 → 0 ≤ mx (sbM' x.2 y.2) j ∧ mx (sbM' x.2 y.2) j ≤ mx lim j := fun j hj => by
  rw [mx_sub hj]; exact inb_t hin j (Nat.zero_le _) (by omega)
 have hbx : ∀ z ∈ dvA x y (x :: a) (y :: b), Bx 4 z.2 := fun z hz => by
  rcases aE6_mon z hz with ⟨w, hw, e⟩ | ⟨w, hw, e⟩
  ·rw [← e]; exact S.bx w hw
  ·obtain ⟨v, hv, rfl⟩ := List.mem_map.1 hw
   obtain ⟨u, hu, rfl⟩ := List.mem_map.1 hv
   have e : aM' (sbM' x.2 y.2) u.2 = z.2 := e
   rw [← e]
   intro j hj
   rw [mx_add hj]
   have h1 := hmb j hj
   have h2 := B.lim j hj
   have h3 := dgT_ge hu hj
   have h4 := B.bx u hu j hj
   exact ⟨by omega, by omega⟩
 have hlt : ∀ z ∈ dvA x y (x :: a) (y :: b), o4 x.2 z.2 := fun z hz => Classical.byContradiction fun hc => by
  have h1 : cfT (dvA x y (x :: a) (y :: b)) z.2 ≠ 0 := by rw [cfT_mem hcn.dec hz]; exact hcn.ne z hz
  rw [hcf] at h1
  by_cases he : z.2 = x.2
  ·rw [he, show sbM' x.2 (sbM' x.2 y.2) = y.2 from mx_ext fun j hj => by rw [mx_sub hj, mx_sub hj]; omega, cfT_head S.cn.dec, cfT_head B.cn.dec, Rat.mul_assoc, Rat.inv_mul_cancel _ hy0] at h1
   exact h1 (by grind)
  ·have h2 : o4 z.2 x.2 := (mord4.tot he).elim id fun h => absurd h hc
   have h3 : o4 (sbM' z.2 (sbM' x.2 y.2)) y.2 := by
    have h4 := mord4.ad (sbM' y.2 x.2) h2
    rw [show aM' (sbM' y.2 x.2) x.2 = y.2 from mx_ext fun j hj => by rw [mx_add hj, mx_sub hj]; omega, show aM' (sbM' y.2 x.2) z.2 = sbM' z.2 (sbM' x.2 y.2) from mx_ext fun j hj => by rw [mx_add hj, mx_sub hj, mx_sub hj, mx_sub hj]; omega] at h4
    exact h4
   rw [cfT_gt S.cn.dec h2, cfT_gt B.cn.dec h3] at h1
   exact h1 (by grind)
 have hlen : (q ++ [(x.1 * y.1⁻¹, sbM' x.2 y.2)]).length = q.length + 1 := by simp
 refine ⟨hcn, hbx, by rw [hlen]; exact hdd, fun z a' e => ?_, ⟨by rw [hlen]; omega, fun t ht => ?_, fun t ht => ?_⟩⟩
 ·have hz : z ∈ dvA x y (x :: a) (y :: b) := by rw [e]; simp
  have h1 := Vm_lt (S.bx x (by simp)) (hbx z hz) (hlt z hz)
  have h2 := S.nu x a rfl
  rw [hlen]; omega
 ·rcases List.mem_append.1 ht with ht | ht
  ·exact S.q.bx t ht
  ·rw [List.mem_singleton.1 ht]
   intro j hj
   have h1 := hmb j hj
   have h2 := B.lim j hj
   have h3 := dgT_ge (p := y :: b) (x := y) (by simp) hj
   have h4 := B.bx y (by simp) j hj
   exact ⟨h1.1, by show mx (sbM' x.2 y.2) j ≤ _; omega⟩
 ·rcases List.mem_append.1 ht with ht | ht
  ·exact S.q.dd t ht
  ·rw [List.mem_singleton.1 ht]
   have h1 := hcd.up (L ^ (124 - q.length)) (pow9 B.l9 (124 - q.length))
   rw [← Int.pow_add, show q.length + 1 + (124 - q.length) = 125 by omega] at h1
   refine h1.le ?_
   have h2 : 9 ^ (124 - q.length) ≤ 18 ^ (124 - q.length) := Nat.pow_le_pow_left (by decide) _
   have h3 : 18 ^ q.length * 18 ^ (124 - q.length) = 18 ^ 124 := by rw [← Nat.pow_add]; congr 1; omega
   have h4 : Cq q.length * 9 ^ (124 - q.length) ≤ 252 * 18 ^ 124 := by
    rw [← h3, ← Nat.mul_assoc]; exact Nat.mul_le_mul_left _ h2
   exact Nat.le_trans h4 (Nat.mul_le_mul_left _ (Nat.pow_le_pow_right (by decide) (by decide)))
theorem DvS.ends {L : Int} {y : TE.den} {b : List TE.den} {lim : MO.den} (B : DvB L y b lim) : ∀ {n : Nat} {a q : List TE.den}, DvS L a q → 126 ≤ q.length + n → ∃ r, dvK y (y :: b) lim n a q = some r ∧ ∀ l, r = some l → DvQ L l
 | 0, a, q, S, h => absurd S.q.ln (by omega)
 | n + 1, [], q, S, _ => ⟨some q, rfl, fun l e => by cases e; exact S.q⟩
 | n + 1, x :: a, q, S, h => by
  rw [dvK]
  split
  ·rename_i hin
   exact DvS.ends B (S.next B hin) (by rw [List.length_append, List.length_singleton]; omega)
  ·exact ⟨none, rfl, fun l e => by cases e⟩
theorem DvS.ok {L : Int} {a q : List TE.den} (S : DvS L a q) (h0 : L ≠ 0) (h9 : L.natAbs ≤ 9) : SzT 30000 20 a := fun x hx => by
 refine ⟨((S.bx x hx).bM (by decide)).le (by decide), ?_⟩
 have h1 := S.dd x.2
 rw [cfT_mem S.cn.dec hx] at h1
 have h2 : 9 ^ q.length ≤ 9 ^ 125 := Nat.pow_le_pow_right (by decide) S.q.ln
 have h3 : Cq q.length ≤ 252 * 18 ^ 125 := Nat.mul_le_mul_left _ (Nat.pow_le_pow_right (by decide) S.q.ln)
 exact h1.qs (Int.pow_ne_zero h0) (Nat.lt_of_le_of_lt (Nat.le_trans (pow9 h9 _) h2) (by decide)) (Nat.lt_of_le_of_lt h3 (by decide))
theorem DvS.dvP {L : Int} {y : TE.den} {b : List TE.den} {lim : MO.den} (B : DvB L y b lim) : DvP 20 (y :: b) lim (DvS L) where
 la := fun {a q} S => Nat.le_trans (S.cn.len125 S.bx) (by decide)
 lq := fun {a q} S => Nat.le_trans S.q.ln (by decide)
 ok := fun {a q} S => S.ok B.l0 B.l9
 ne := fun {x a q} S => S.cn.hd
 nx := fun {x a q} S hin => S.next B hin
theorem DvS.start {L : Int} {a : List TE.den} (h : Cn a) (hb : ∀ x ∈ a, Bx 4 x.2) (hd : ∀ m, DD 1 252 (cfT a m)) : DvS L a [] := ⟨h, hb, fun m => (by show DD (L ^ 0) (252 * 18 ^ 0) _; rw [Int.pow_zero]; exact (hd m).le (by decide)), fun x a' e => by
 have := Vm_b (hb x (by rw [e]; simp))
 show 0 + Vm x.2 + 1 ≤ 125
 omega, ⟨by decide, fun t ht => (by cases ht), fun t ht => (by cases ht)⟩⟩
theorem lim_ok {a b : List TE.den} (ha : ∀ x ∈ a, Bx 4 x.2) (hb : ∀ x ∈ b, Bx 2 x.2) : ∀ j, j < 8 → mx (limT a b) j + mx (dgT b) j ≤ if j < 3 then 4 else 0 := fun j hj => by
 have h1 : mx (dgT a) j ≤ if j < 3 then 4 else 0 := dgT_at hj (by split <;> decide) fun x hx => (ha x hx j hj).2
 have h2 : mx (dgT b) j ≤ if j < 3 then 2 else 0 := dgT_at hj (by split <;> decide) fun x hx => (hb x hx j hj).2
 unfold limT
 split
 ·rw [mx_sub hj]; omega
 ·rw [mx_dflt hj]
  split at h2
  ·rename_i h3; rw [if_pos h3]; omega
  ·rename_i h3; rw [if_neg h3]; omega
structure Sm9 (C : Nat) (k : Int) (p : List TE.den) : Prop where
 cn : Cn p
 bx : ∀ x ∈ p, Bx k x.2
 dd : ∀ m, DD 1 C (cfT p m)
theorem Sm9.co {C : Nat} {k : Int} {p : List TE.den} (h : Sm9 C k p) {x : TE.den} (hx : x ∈ p) : DD 1 C x.1 := by
 have := h.dd x.2
 rwa [cfT_mem h.cn.dec hx] at this
theorem Sm9.sz {C : Nat} {k : Int} {p : List TE.den} (h : Sm9 C k p) (hC : C < 4294967296) (hk : 0 ≤ k) (hk2 : k ≤ 30000) : SzT 30000 1 p := fun x hx => ⟨((h.bx x hx).bM hk).le hk2, (h.co hx).qs (by decide) (by decide) (by omega)⟩
theorem Sm9.dvB {y : TE.den} {b a : List TE.den} (h : Sm9 9 2 (y :: b)) (ha : ∀ x ∈ a, Bx 4 x.2) : ∃ L, DvB L y (y :: b).tail (limT a (y :: b)) := by
 obtain ⟨z, h1, h2⟩ := h.co (x := y) (by simp)
 have h2 : y.1 = (z : Rat) := by
  rw [show ((1 : Int) : Rat) = 1 from rfl, Rat.mul_one] at h2; exact h2
 exact ⟨z, fun e => h.cn.hd (by rw [h2, e]; rfl), h1, h2, h.cn, h.dd, h.bx, lim_ok ha h.bx⟩
theorem div_all {a b : List TE.den} (ha : Sm9 252 4 a) (hb : Sm9 9 2 b) (b0 : b ≠ []) : ∃ r L, L ≠ 0 ∧ L.natAbs ≤ 9 ∧ dvT 126 a b = some r ∧ (∀ l, r = some l → DvQ L l) ∧
  FnS Tryz.prog 22 [cS TE a, cS TE b] (.t [(false, [.S TE (r.getD [])]), (false, [.B r.isSome])]) := by
 cases b with
 | nil => exact absurd rfl b0
 | cons y b =>
  obtain ⟨L, B⟩ := hb.dvB ha.bx
  have S := DvS.start (L := L) ha.cn ha.bx ha.dd
  have ⟨r, h1, h2⟩ : ∃ r, dvT 126 a (y :: b) = some r ∧ ∀ l, r = some l → DvQ L l := by
   unfold dvT
   split
   ·exact S.ends B (by decide)
   ·exact ⟨none, rfl, fun l e => by cases e⟩
  have hl : (y :: b).length ≤ 125 := hb.cn.len125 fun z hz => (hb.bx z hz).le (by decide)
  exact ⟨r, L, B.l0, B.l9, h1, h2, pDivide_s (N := 126) (w := 20) (DvS L) (by simp) hb.cn.hd (by omega) (fun x hx => have h := hb.sz (by decide) (by decide) (by decide) x hx; ⟨h.1, h.2.le (by decide)⟩) (by decide) (DvS.dvP B) S h1⟩
end Go.El

namespace Go.El
open Go Go.Proofs
def nE0 (x : R5.den) : Int := (mabs x.2.1).tmod (2 + 1)
def nE1 (x : R5.den) : Int := (mabs x.2.2.1).tmod (2 - nE0 x + 1)
def nE2 (x : R5.den) : Int := (mabs x.2.2.2.1).tmod (2 - nE0 x - nE1 x + 1)
theorem mabs_nn (v : Int) : 0 ≤ mabs v := by unfold mabs; split <;> omega
theorem nE0_r (x : R5.den) : 0 ≤ nE0 x ∧ nE0 x ≤ 2 := by
 have h := mabs_nn x.2.1
 unfold nE0
 rw [Int.tmod_eq_emod_of_nonneg h]; omega
theorem tm_r {a n : Int} (ha : 0 ≤ a) (hn : 0 ≤ n) : 0 ≤ a.tmod (n + 1) ∧ a.tmod (n + 1) ≤ n := by
 rw [Int.tmod_eq_emod_of_nonneg ha]
 have h1 := Int.emod_nonneg a (show n + 1 ≠ 0 by omega)
 have h2 := Int.emod_lt_of_pos a (show 0 < n + 1 by omega)
 omega
theorem nE1_r (x : R5.den) : 0 ≤ nE1 x ∧ nE1 x ≤ 2 - nE0 x := tm_r (mabs_nn _) (by have := nE0_r x; omega)
theorem nE2_r (x : R5.den) : 0 ≤ nE2 x ∧ nE2 x ≤ 2 - nE0 x - nE1 x := tm_r (mabs_nn _) (by have := nE1_r x; omega)
def nM (x : R5.den) (j : Nat) : MO.den := (if 0 < j then nE0 x else 0, if 1 < j then nE1 x else 0, if 2 < j then nE2 x else 0, 0, 0, 0, 0, 0)
def nLf (x : R5.den) (j : Nat) : Int := if 2 < j then 2 - nE0 x - nE1 x - nE2 x else if 1 < j then 2 - nE0 x - nE1 x else if 0 < j then 2 - nE0 x else 2
def nT (x : R5.den) : List TE.den := tEL ((x.1.tmod 4 : Int) : Rat) MO.dflt [(((1 : Int) : Rat), nM x 3)]
def nL (l : List R5.den) : Nat → List TE.den
 | 0 => []
 | n + 1 => aT6 (nL l n) (nT (l.getD n R5.dflt))
def R5k (x : R5.den) : Prop := (-128 ≤ x.1 ∧ x.1 ≤ 127) ∧ (-128 ≤ x.2.1 ∧ x.2.1 ≤ 127) ∧ (-128 ≤ x.2.2.1 ∧ x.2.2.1 ≤ 127) ∧ -128 ≤ x.2.2.2.1 ∧ x.2.2.2.1 ≤ 127
theorem nM_bx (x : R5.den) : Bx 2 (nM x 3) := fun j hj => by
 have h0 := nE0_r x
 have h1 := nE1_r x
 have h2 := nE2_r x
 rcases lt8 hj with rfl | rfl | rfl | rfl | rfl | rfl | rfl | rfl
 ·exact h0
 ·show 0 ≤ nE1 x ∧ nE1 x ≤ 2
  omega
 ·show 0 ≤ nE2 x ∧ nE2 x ≤ 2
  omega
 all_goals exact ⟨Int.le_refl _, (by decide : (0 : Int) ≤ 0)⟩
theorem nM_b (x : R5.den) : bM 3 (nM x 3) := ((nM_bx x).bM (by decide)).le (by decide)
theorem bM_z' : bM 0 MO.dflt := fun j hj => by rcases lt8 hj with rfl | rfl | rfl | rfl | rfl | rfl | rfl | rfl <;> decide
theorem tmod4 (z : Int) : (z.tmod 4).natAbs ≤ 3 := by
 rw [Int.tmod_eq_emod]; split <;> omega
theorem nT_ok (x : R5.den) : ∀ y ∈ nT x, TO 3 3 y := fun y hy => by
 have := tEL_ok (B := 3) (C := 1) (k := 0) (l := 3) ⟨_, rfl, tmod4 x.1⟩ bM_z' (p := [(((1 : Int) : Rat), nM x 3)]) (fun z hz => by
  rw [List.mem_singleton] at hz; subst hz
  exact ⟨⟨1, rfl, by decide⟩, nM_b x⟩) y hy
 exact this
theorem nT_len (x : R5.den) : (nT x).length ≤ 1 := tEL_len _ _ _
theorem nL_ok (l : List R5.den) : ∀ n, ∀ y ∈ nL l n, TO (n * 3) 3 y
 | 0, y, hy => by cases hy
 | n + 1, y, hy => by
  rw [Nat.add_mul, Nat.one_mul]
  exact aE6_ok (nL_ok l n) (nT_ok _) y hy
theorem nL_len (l : List R5.den) : ∀ n, (nL l n).length ≤ n
 | 0 => Nat.le_refl _
 | n + 1 => by
  have h1 : (aT6 (nL l n) (nT (l.getD n R5.dflt))).length ≤ (nL l n).length + (nT (l.getD n R5.dflt)).length := aE6_len
  have h2 := nT_len (l.getD n R5.dflt)
  have h3 := nL_len l n
  show (aT6 _ _).length ≤ _
  omega
theorem add_z (m : MO.den) : aM' MO.dflt m = m := mx_ext fun j hj => by rw [mx_add hj, mx_dflt hj]; omega
theorem nT_eq (x : R5.den) : nT x = if x.1.tmod 4 = 0 then [] else [(((x.1.tmod 4 : Int) : Rat), nM x 3)] := by
 unfold nT tEL
 by_cases h : x.1.tmod 4 = 0
 ·rw [if_pos h, if_pos (by rw [h]; rfl)]
 ·rw [if_neg h, if_neg (fun e => h (Rat.intCast_eq_zero_iff.1 e))]
  show [(((x.1.tmod 4 : Int) : Rat) * ((1 : Int) : Rat), aM' MO.dflt (nM x 3))] = _
  rw [add_z, show ((1 : Int) : Rat) = 1 from rfl, Rat.mul_one]
theorem nT_cn (x : R5.den) : Cn (nT x) := by
 rw [nT_eq]
 split
 ·exact Cn.nil
 ·rename_i h
  exact Cn.nil.cons (fun e => h (Rat.intCast_eq_zero_iff.1 e)) fun y hy => by cases hy
theorem nL_cn (l : List R5.den) : ∀ n, Cn (nL l n)
 | 0 => Cn.nil
 | n + 1 => (nL_cn l n).aE6 (nT_cn _)
theorem nL_bx (l : List R5.den) : ∀ n, ∀ y ∈ nL l n, Bx 2 y.2
 | 0, y, hy => by cases hy
 | n + 1, y, hy => by
  rcases aE6_mon y hy with ⟨w, hw, e⟩ | ⟨w, hw, e⟩
  ·rw [← e]; exact nL_bx l n w hw
  ·rw [nT_eq] at hw
   split at hw
   ·cases hw
   ·rw [List.mem_singleton] at hw
    rw [← e, hw]; exact nM_bx _
theorem nT_dd (x : R5.den) (m : MO.den) : DD 1 3 (cfT (nT x) m) := by
 rw [nT_eq]
 split
 ·exact DD.zero _ _
 ·rw [cfT_c, cfT_n, Rat.add_zero]
  unfold dl
  split
  ·exact DD.int _ (tmod4 _)
  ·exact DD.zero _ _
theorem nL_dd (l : List R5.den) (m : MO.den) : ∀ n, DD 1 (n * 3) (cfT (nL l n) m)
 | 0 => DD.zero _ _
 | n + 1 => by
  show DD 1 ((n + 1) * 3) (cfT (aT6 (nL l n) (nT (l.getD n R5.dflt))) m)
  rw [cfT_aT6, Nat.add_mul]
  exact (nL_dd l m n).add (nT_dd _ m)
theorem nL_sm (l : List R5.den) {n : Nat} (hn : n ≤ 3) : Sm9 9 2 (nL l n) := ⟨nL_cn l n, nL_bx l n, fun m => (nL_dd l m n).le (by omega)⟩
set_option maxRecDepth 100000 in
set_option maxHeartbeats 16000000 in
theorem rMade3_s (l : List R5.den) (hl : ∀ x ∈ l, R5k x) : FnS Tryz.prog 11 [.a [.S R5 l], cI 3, cI 2, cI 3] (cS TE (nL l (min l.length 3))) := by
 refine fsI Tryz.func11 (tr_lenA 0 0 rfl rfl fun hb => ?_)
 have hb : l.length * 5 ≤ 140737488355328 := hb
 refine rr rfl (rb (rl TE [] rfl rfl (re rfl ?_)))
 refine tr_mid1 ⟨[(9, cS TE (nL l (min l.length 3)))], [], 12, []⟩ ?_ (fun mid => ?_)
 ·exact rr rfl (rtR rfl)
 refine rr rfl (tr_block (tr_loop (α := Nat) (fun i => ⟨[(4, .c (.P 0 0)), (1, cI 3), (2, cI 2), (3, cI 3), (9, cS TE (nL l i)), (10, cI i)], [(0, .box 24 0 [.S R5 l])], 4, []⟩) (fun i => i ≤ l.length ∧ i ≤ 3) (fun i => l.length - i) 0 ⟨Nat.zero_le _, Nat.zero_le _⟩ wkA ?_))
 rintro i ⟨hi, hi3⟩
 have ei : ((i : Int)).toNat = i := Int.toNat_natCast i
 refine tr_seq (rb (rg 20 rfl rfl (fun h => ?_) (fun h => ?_)))
 ·have h : i < l.length := by
   have h : (i : Int) < (l.length : Int) := of_decide_eq_true h
   omega
  refine re rfl (tr_cond rfl (fun h2 => ?_) (fun h2 => ?_))
  ·have h2 : i < 3 := by
    have h2 : (i : Int) < 3 := of_decide_eq_true h2
    omega
   have hx := getD_in (d := R5.dflt) hl h
   have h0 := nE0_r (l.getD i R5.dflt)
   have h1 := nE1_r (l.getD i R5.dflt)
   have h12 := nE2_r (l.getD i R5.dflt)
   refine skT (tr_seq (tr_block (rb (rx rfl rfl trivial (re rfl (rr rfl ?_))))))
   refine tr_mid1 ⟨[(4, .c (.P 0 0)), (1, cI 3), (2, cI 2), (3, cI 3), (9, cS TE (nL l i)), (10, cI i), (11, .c (.P 5001000 0))], [(5001000, .box 63 0 (av MO (nM (l.getD i R5.dflt) 3))), (0, .box 24 0 [.S R5 l])], 12, []⟩ ?_ (fun mid2 => ?_)
   rotate_left
   ·refine rr rfl (tr_block (tr_loop (α := Nat) (fun j => ⟨[(4, .c (.P 0 0)), (1, cI 3), (2, cI 2), (3, cI 3), (9, cS TE (nL l i)), (10, cI i), (11, .c (.P 5001000 0)), (12, cI (nLf (l.getD i R5.dflt) j)), (13, cI j)], [(5001000, .box 63 0 (av MO (nM (l.getD i R5.dflt) j))), (0, .box 24 0 [.S R5 l])], 8, []⟩) (fun j => j ≤ 3) (fun j => 3 - j) 0 (by decide) (wk ⟨sR rfl, sR rfl, sR rfl, sR rfl, sR rfl, sR rfl, sR rfl, sE rfl rfl, sR rfl, trivial⟩ ⟨bE rfl rfl, bR rfl, trivial⟩) ?_))
    rintro j hj
    refine tr_seq (rb (rg 32 rfl rfl (fun h3 => ?_) (fun h3 => ?_)))
    ·have h3 : j < 3 := by
      have h3 : (j : Int) < 3 := of_decide_eq_true h3
      omega
     refine re rfl (tr_cond rfl (fun _ => ?_) (fun h4 => ?_))
     rotate_left
     ·have h4 : ¬ (j : Int) < 4 := of_decide_eq_false h4
      exact absurd h3 (by omega)
     have hj2 : j = 0 ∨ j = 1 ∨ j = 2 := by omega
     rcases hj2 with rfl | rfl | rfl
     ·have hab : FnS Tryz.prog 37 [.c (.I .i8 (l.getD ((i : Int)).toNat R5.dflt).2.1)] (cI (mabs (l.getD i R5.dflt).2.1)) := by
       rw [ei]; exact rabs6_s hx.2.1
      have f1 : nLf (l.getD i R5.dflt) 0 = 2 := rfl
      have f2 : (mabs (l.getD i R5.dflt).2.1).tmod (nLf (l.getD i R5.dflt) 0 + 1) = nE0 (l.getD i R5.dflt) := rfl
      refine skT (tr_seq (tr_block (rb (rc rfl rfl hab (re rfl (rt rfl (bkT (rt rfl (at_loop 1 (by decide) (by decide) (wk ⟨sR rfl, sR rfl, sR rfl, sR rfl, sR rfl, sR rfl, sR rfl, sE rfl rfl, sR rfl, trivial⟩ ⟨bE rfl rfl, bR rfl, trivial⟩)))) (hp := by simp only [Pr.an, Pr.h, num, i64r, true_and, and_true]; first | done | omega)) (hp := by simp only [Pr.an, Pr.h, num, i64r, true_and, and_true]; first | done | omega)) (hp := by simp only [Pr.an, Pr.h, num, i64r, true_and, and_true]; first | done | omega)))))
     ·have hab : FnS Tryz.prog 37 [.c (.I .i8 (l.getD ((i : Int)).toNat R5.dflt).2.2.1)] (cI (mabs (l.getD i R5.dflt).2.2.1)) := by
       rw [ei]; exact rabs6_s hx.2.2.1
      have f1 : nLf (l.getD i R5.dflt) 1 = 2 - nE0 (l.getD i R5.dflt) := rfl
      have f2 : (mabs (l.getD i R5.dflt).2.2.1).tmod (nLf (l.getD i R5.dflt) 1 + 1) = nE1 (l.getD i R5.dflt) := rfl
      refine skT (tr_seq (tr_block (rb (rc rfl rfl hab (re rfl (rt rfl (bkT (rt rfl (at_loop 2 (by decide) (by decide) (wk ⟨sR rfl, sR rfl, sR rfl, sR rfl, sR rfl, sR rfl, sR rfl, sE rfl rfl, sR rfl, trivial⟩ ⟨bE rfl rfl, bR rfl, trivial⟩)))) (hp := by simp only [Pr.an, Pr.h, num, i64r, true_and, and_true]; first | done | omega)) (hp := by simp only [Pr.an, Pr.h, num, i64r, true_and, and_true]; first | done | omega)) (hp := by simp only [Pr.an, Pr.h, num, i64r, true_and, and_true]; first | done | omega)))))
     ·have hab : FnS Tryz.prog 37 [.c (.I .i8 (l.getD ((i : Int)).toNat R5.dflt).2.2.2.1)] (cI (mabs (l.getD i R5.dflt).2.2.2.1)) := by
       rw [ei]; exact rabs6_s hx.2.2.2
      have f1 : nLf (l.getD i R5.dflt) 2 = 2 - nE0 (l.getD i R5.dflt) - nE1 (l.getD i R5.dflt) := rfl
      have f2 : (mabs (l.getD i R5.dflt).2.2.2.1).tmod (nLf (l.getD i R5.dflt) 2 + 1) = nE2 (l.getD i R5.dflt) := rfl
      refine skT (tr_seq (tr_block (rb (rc rfl rfl hab (re rfl (rt rfl (bkT (rt rfl (at_loop 3 (by decide) (by decide) (wk ⟨sR rfl, sR rfl, sR rfl, sR rfl, sR rfl, sR rfl, sR rfl, sE rfl rfl, sR rfl, trivial⟩ ⟨bE rfl rfl, bR rfl, trivial⟩)))) (hp := by simp only [Pr.an, Pr.h, num, i64r, true_and, and_true]; first | done | omega)) (hp := by simp only [Pr.an, Pr.h, num, i64r, true_and, and_true]; first | done | omega)) (hp := by simp only [Pr.an, Pr.h, num, i64r, true_and, and_true]; first | done | omega)))))
    ·have h3 : j = 3 := by
      have h3 : ¬ (j : Int) < 3 := of_decide_eq_false h3
      omega
     subst h3
     refine re rfl (tr_cond rfl (fun h => by cases h) (fun _ => ?_))
     exact xlE (at_mid mid2 wkA)
   ·have hw : FnS Tryz.prog 40 [cI ((l.getD ((i : Int)).toNat R5.dflt).1.tmod 4)] (aQ (((l.getD i R5.dflt).1.tmod 4 : Int) : Rat)) := by
     rw [ei]
     have : -3 ≤ (l.getD i R5.dflt).1.tmod 4 ∧ (l.getD i R5.dflt).1.tmod 4 ≤ 3 := by rw [Int.tmod_eq_emod]; split <;> omega
     exact rWhole_s _ (by omega) (by omega)
    have hsc : FnS Tryz.prog 39 [aQ (((l.getD i R5.dflt).1.tmod 4 : Int) : Rat), cS TE [(((1 : Int) : Rat), nM (l.getD i R5.dflt) 3)]] (cS TE (nT (l.getD i R5.dflt))) := by
     have h4 : ((l.getD i R5.dflt).1.tmod 4).natAbs ≤ 3 := by
      rw [Int.tmod_eq_emod]; split <;> omega
     refine rScale6_s (B := 1) (C := 0) (k := 3) (by show 1 ≤ 1000; decide) (QS.int (by decide) (by omega)) (fun z hz => ?_) (by decide) (by decide)
     rw [List.mem_singleton] at hz; subst hz
     exact ⟨⟨1, rfl, by decide⟩, nM_b _⟩
    have hln := nL_len l i
    have htr : -3 ≤ (l.getD ((i : Int)).toNat R5.dflt).1.tmod 4 ∧ (l.getD ((i : Int)).toNat R5.dflt).1.tmod 4 ≤ 3 := by rw [Int.tmod_eq_emod]; split <;> omega
    have htn := nT_len (l.getD i R5.dflt)
    have hadd := rAdd6_s (p := nL l i) (q := nT (l.getD i R5.dflt)) (by omega) (by omega) (nL_ok l i) (nT_ok _) (by omega) (by decide)
    refine rbt (rc rfl rfl hw (rc rfl rfl (rWhole_s 1 (by decide) (by decide)) (rl TE [(((1 : Int) : Rat), nM (l.getD i R5.dflt) 3)] rfl rfl (rc rfl rfl hsc (rc rfl rfl hadd (re rfl (bkT (rt rfl (at_loop (i + 1) ⟨h, h2⟩ (by show l.length - (i + 1) < l.length - i; omega) wkA)))))))) (hp := by simp only [Pr.an, Pr.h, num, i64r, true_and, and_true]; first | done | omega))
  ·have h2 : i = 3 := by
    have h2 : ¬ (i : Int) < 3 := of_decide_eq_false h2
    omega
   subst h2
   exact xlE (at_mid mid (wk ⟨⟨_, rfl, AVle.of_eq (by rw [Nat.min_eq_right hi])⟩, trivial⟩ trivial))
 ·have h : i = l.length := by
   have h : ¬ (i : Int) < (l.length : Int) := of_decide_eq_false h
   omega
  refine re rfl (tr_cond rfl (fun h2 => by cases h2) (fun _ => ?_))
  subst h
  exact xlE (at_mid mid (wk ⟨⟨_, rfl, AVle.of_eq (by rw [Nat.min_eq_left hi3])⟩, trivial⟩ trivial))
theorem made_s (l : List R5.den) (hl : ∀ x ∈ l, R5k x) : FnS Tryz.prog 12 [.a [.S R5 l]] (cS TE (nL l (min l.length 3))) := by
 refine fsI Tryz.func12 ?_
 refine rr rfl ?_
 refine rb (rc rfl rfl (rMade3_s l hl) (re rfl ?_))
 exact rtR rfl
end Go.El

namespace Go.El
open Go Go.RowKit Go.Proofs
theorem mulT_mon {p q : List TE.den} {z : TE.den} (hz : z ∈ mulT p q) : ∃ x ∈ p, ∃ y ∈ q, aM' x.2 y.2 = z.2 := Classical.byContradiction fun hc => by
 have h1 : cfT (mulT p q) z.2 ≠ 0 := by
  rw [cfT_mem (mulT_cn p q).dec hz]; exact (mulT_cn p q).ne z hz
 rw [mulT_cf] at h1
 exact h1 (cvF_zero fun y hy => Classical.byContradiction fun h2 => by
  obtain ⟨x, hx, e⟩ := cfT_ne h2
  exact hc ⟨x, hx, y, hy, add_sub.2 e⟩)
theorem cvF_dd {f : MO.den → Rat} {M N : Nat} (hf : ∀ k, DD 1 M (f k)) (m : MO.den) : ∀ {q : List TE.den}, (∀ y ∈ q, DD 1 N y.1) → DD 1 (q.length * (N * M)) (cvF f q m)
 | [], _ => DD.zero _ _
 | y :: q, h => by
  rw [cvF, List.length_cons, Nat.add_mul, Nat.one_mul, Nat.add_comm]
  have h1 := (h y (by simp)).mul (hf (sbM' m y.2))
  rw [Int.mul_one] at h1
  exact h1.add (cvF_dd hf m fun z hz => h z (by simp [hz]))
theorem mulT_len {p q : List TE.den} (hp : ∀ x ∈ p, bM 30000 x.2) (hq : ∀ x ∈ q, bM 30000 x.2) : (mulT p q).length ≤ p.length * q.length := by
 have h1 := (MlI.all hq hp MlI.nil).ln
 rw [Nat.zero_add] at h1
 have h2 : (mulT p q).length = (nzT (mlP [] q p)).length := (srtT_perm _).length_eq
 have h3 : (nzT (mlP [] q p)).length ≤ (mlP [] q p).length := List.length_filter_le _ _
 omega
theorem bx_add {x y : MO.den} (hx : Bx 2 x) (hy : Bx 2 y) : Bx 4 (aM' x y) := fun j hj => by
 have h1 := hx j hj
 have h2 := hy j hj
 rw [mx_add hj]
 split <;> rename_i h3
 ·rw [if_pos h3] at h1 h2; omega
 ·rw [if_neg h3] at h1 h2; omega
theorem Sm9.bm {C : Nat} {k : Int} {p : List TE.den} (h : Sm9 C k p) (hk : 0 ≤ k) (hk2 : k ≤ 30000) : ∀ x ∈ p, bM 30000 x.2 := fun x hx => ((h.bx x hx).bM hk).le hk2
theorem Sm9.nn {C : Nat} {k : Int} {p : List TE.den} (h : Sm9 C k p) : Nn p := fun x hx j hj => (h.bx x hx j hj).1
theorem sm9_mul {p q : List TE.den} (hp : Sm9 9 2 p) (hq : Sm9 9 2 q) (lq : q.length ≤ 3) : Sm9 243 4 (mulT p q) := ⟨mulT_cn _ _, fun z hz => by
 obtain ⟨x, hx, y, hy, e⟩ := mulT_mon hz
 rw [← e]; exact bx_add (hp.bx x hx) (hq.bx y hy), fun m => by
 rw [mulT_cf]
 exact (cvF_dd hp.dd m fun y hy => hq.co hy).le (by omega)⟩
theorem sm9_add {p q : List TE.den} (hp : Sm9 243 4 p) (hq : Sm9 9 2 q) : Sm9 252 4 (aT6 p q) := ⟨hp.cn.aE6 hq.cn, fun z hz => by
 rcases aE6_mon z hz with ⟨w, hw, e⟩ | ⟨w, hw, e⟩
 ·rw [← e]; exact hp.bx w hw
 ·rw [← e]; exact (hq.bx w hw).le (by decide), fun m => by
 rw [cfT_aT6]; exact (hp.dd m).add (hq.dd m)⟩
theorem Sm9.le {C D : Nat} {k l : Int} {p : List TE.den} (h : Sm9 C k p) (hC : C ≤ D) (hk : k ≤ l) : Sm9 D l p := ⟨h.cn, fun x hx => (h.bx x hx).le hk, fun m => (h.dd m).le hC⟩
set_option maxRecDepth 100000 in
theorem lmul_s {p q r : List TE.den} (h : FnS Tryz.prog 48 [cS TE p, cS TE q] (.t [(false, [.S TE r]), (false, [.I .i64 0])])) : FnS Tryz.prog 19 [cS TE p, cS TE q] (cS TE r) := by
 refine fsI Tryz.func19 ?_
 refine rr rfl ?_
 refine rb (rc rfl rfl h (re rfl ?_))
 refine rr rfl ?_
 exact rtR rfl
set_option maxRecDepth 100000 in
theorem pDivide_0 (a : List TE.den) : FnS Tryz.prog 22 [cS TE a, cS TE []] (.t [(false, [.S TE []]), (false, [.B false])]) := by
 refine fsI Tryz.func22 ?_
 refine rr rfl (tr_scope ?_)
 refine tr_seq (rb (rg 18 rfl rfl (fun h => ?_) (fun h => by cases h)))
 refine re rfl (tr_cond rfl (fun h1 => ?_) (fun h1 => by cases h1))
 exact rr rfl (tr_ret (at_then_ret (at_scope_ret (at_ret TT_ok rfl (avle_nilT TE _)))))
theorem ql_sz {L : Int} (h0 : L ≠ 0) (h9 : L.natAbs ≤ 9) {q : List TE.den} (h : DvQ L q) : SzT 30000 20 q := fun x hx => by
 refine ⟨((h.bx x hx).bM (by decide)).le (by decide), (h.dd x hx).qs (Int.pow_ne_zero h0) (Nat.lt_of_le_of_lt (pow9 h9 125) (by decide)) (by decide)⟩
theorem div_law {a b c : List TE.den} (ha : Sm9 9 2 a) (hb : Sm9 9 2 b) (hc : Sm9 9 2 c) (la : a.length ≤ 3) (lb : b.length ≤ 3) (lc : c.length ≤ 3) (b0 : b ≠ []) :
  FnS Tryz.prog 22 [cS TE (mulT a b), cS TE b] (.t [(false, [.S TE a]), (false, [.B true])]) ∧
  ((FnS Tryz.prog 22 [cS TE (aT6 (mulT a b) c), cS TE b] (.t [(false, [.S TE []]), (false, [.B false])]) ∧ FnS Tryz.prog 22 [cS TE c, cS TE b] (.t [(false, [.S TE []]), (false, [.B false])])) ∨
  ∃ s, FnS Tryz.prog 22 [cS TE (aT6 (mulT a b) c), cS TE b] (.t [(false, [.S TE (aT6 a s)]), (false, [.B true])]) ∧ FnS Tryz.prog 22 [cS TE c, cS TE b] (.t [(false, [.S TE s]), (false, [.B true])]) ∧
   FnS Tryz.prog 19 [cS TE (aT6 a s), cS TE b] (cS TE (aT6 (mulT a b) c)) ∧ FnS Tryz.prog 24 [cS TE a, cS TE s] (cS TE (aT6 a s)) ∧ (aT6 a s).length ≤ 125 ∧ SzT 65535 20 (aT6 a s)) := by
 have hP := sm9_mul ha hb lb
 have hS := sm9_add hP hc
 have hPl : (mulT a b).length ≤ 9 := Nat.le_trans (mulT_len (ha.bm (by decide) (by decide)) (hb.bm (by decide) (by decide))) (Nat.mul_le_mul la lb)
 have hSl : (aT6 (mulT a b) c).length ≤ 12 := Nat.le_trans aE6_len (by omega)
 obtain ⟨r1, L1, _, _, e1, _, f1⟩ := div_all (hP.le (by decide) (Int.le_refl _)) hb b0
 obtain ⟨r2, L2, h20, h29, e2, q2, f2⟩ := div_all hS hb b0
 obtain ⟨r3, L3, h30, h39, e3, q3, f3⟩ := div_all (hc.le (by decide) (by decide)) hb b0
 have g1 := dvT_found (N := 126) ha.cn hb.cn ha.nn hb.nn b0 (by omega)
 rw [e1] at g1
 have g1 := Option.some.inj g1
 subst g1
 refine ⟨f1, ?_⟩
 have up : ∀ s, Cn s → Nn s → (∀ t ∈ s, Bx 4 t.2) → mulT s b = c → r2 = some (aT6 a s) := fun s hs ns bs hm => by
  have hu : Cn (aT6 a s) := ha.cn.aE6 hs
  have bu : ∀ t ∈ aT6 a s, Bx 4 t.2 := fun t ht => by
   rcases aE6_mon t ht with ⟨w, hw, e⟩ | ⟨w, hw, e⟩
   ·rw [← e]; exact (ha.bx w hw).le (by decide)
   ·rw [← e]; exact bs w hw
  have hn : Nn (aT6 a s) := fun t ht j hj => (bu t ht j hj).1
  have hsum : mulT (aT6 a s) b = aT6 (mulT a b) c := Cn.ext (mulT_cn _ _) hS.cn fun m => by
   rw [mulT_cf, cfT_aT6, ← hm, mulT_cf, mulT_cf, ← cvF_add]
   exact congrArg (fun f => cvF f b m) (funext fun k => cfT_aT6 a s k)
  have g2 := dvT_found (N := 126) hu hb.cn hn hb.nn b0 (by have := hu.len125 bu; omega)
  rw [hsum, e2] at g2
  exact Option.some.inj g2
 cases r3 with
 | some s =>
  have ⟨s1, s2⟩ := dvT_sound hc.cn e3
  have Q3 := q3 s rfl
  have hlen : (mulT s oneT).length < 126 := by
   have := (mulT_cn s oneT).len125 fun z hz => by
    obtain ⟨x, hx, y, hy, e⟩ := mulT_mon hz
    rw [← e, List.mem_singleton.1 hy]
    rw [show aM' x.2 MO.dflt = x.2 by rw [add_comm', add_z]]
    exact Q3.bx x hx
   omega
  have hs := dvT_cn hc.cn hb.cn hb.nn b0 hlen e3
  have h2 := up s hs s2 Q3.bx s1
  subst h2
  have Q2 := q2 _ rfl
  have z2 := ql_sz h20 h29 Q2
  have z3 := ql_sz h30 h39 Q3
  have zb : SzT 30000 20 b := fun x hx => have h := hb.sz (by decide) (by decide) (by decide) x hx; ⟨h.1, h.2.le (by decide)⟩
  have za : SzT 30000 20 a := fun x hx => have h := ha.sz (by decide) (by decide) (by decide) x hx; ⟨h.1, h.2.le (by decide)⟩
  have hsum : mulT (aT6 a s) b = aT6 (mulT a b) c := (dvT_sound hS.cn e2).1
  refine .inr ⟨s, f2, f3, lmul_s ?_, pAdd_s (w := 20) (by omega) (Nat.le_trans Q3.ln (by decide)) (fun x hx => ⟨(za x hx).1.le (by decide), (za x hx).2⟩) (fun x hx => ⟨(z3 x hx).1.le (by decide), (z3 x hx).2⟩) (by decide), Q2.ln, fun x hx => ⟨(z2 x hx).1.le (by decide), (z2 x hx).2⟩⟩
  have hm := pMulD_s (D := L2 ^ 125) (M := Cq 125 * 9) (w := 20) z2 zb (by decide) (Nat.le_trans Q2.ln (by decide)) (by omega) (fun x hx y hy => by
   have := (Q2.dd x hx).mul (hb.co hy)
   rwa [Int.mul_one] at this) (Int.pow_ne_zero h20) (Nat.lt_of_le_of_lt (pow9 h29 125) (by decide)) (by decide) (by rw [hsum]; exact hSl)
  rwa [hsum] at hm
 | none =>
  refine .inl ⟨?_, f3⟩
  cases r2 with
  | none => exact f2
  | some r =>
   exfalso
   have ⟨s1, s2⟩ := dvT_sound hS.cn e2
   have Q2 := q2 r rfl
   have hlen : (mulT r oneT).length < 126 := by
    have := (mulT_cn r oneT).len125 fun z hz => by
     obtain ⟨x, hx, y, hy, e⟩ := mulT_mon hz
     rw [← e, List.mem_singleton.1 hy]
     rw [show aM' x.2 MO.dflt = x.2 by rw [add_comm', add_z]]
     exact Q2.bx x hx
    omega
   have hr := dvT_cn hS.cn hb.cn hb.nn b0 hlen e2
   have hu : Cn (aT6 r (ngT a)) := hr.aE6 (ngT_cn ha.cn)
   have bu : ∀ t ∈ aT6 r (ngT a), Bx 4 t.2 := fun t ht => by
    rcases aE6_mon t ht with ⟨w, hw, e⟩ | ⟨w, hw, e⟩
    ·rw [← e]; exact Q2.bx w hw
    ·obtain ⟨v, hv, rfl⟩ := List.mem_map.1 hw
     rw [← e]; exact (ha.bx v hv).le (by decide)
   have hcc : mulT (aT6 r (ngT a)) b = c := Cn.ext (mulT_cn _ _) hc.cn fun m => by
    have h1 : cvF (cfT r) b m = cvF (cfT a) b m + cfT c m := by rw [← mulT_cf, s1, cfT_aT6, mulT_cf]
    rw [mulT_cf, show cfT (aT6 r (ngT a)) = fun k => cfT r k - cfT a k from funext fun k => by rw [cfT_aT6, ngT_cf]; grind, cvF_sub, h1]
    clear up
    generalize cvF (cfT a) b m = u
    generalize cfT c m = v
    grind
   have g3 := dvT_found (N := 126) hu hb.cn (fun t ht j hj => (bu t ht j hj).1) hb.nn b0 (by have := hu.len125 bu; omega)
   rw [hcc, e3] at g3
   cases g3
end Go.El

namespace Go.El
open Go Go.Proofs Go.RowKit Go.Maps Go.Sort Go.Shelf
def keysA_ren : Ren := { f := fun x => match x with | 7 => 70 | 10 => 117 | n => n, t := fun x => match x with | 23 => 98 | 26 => 3 | 3 => 28 | 28 => 104 | 0 => 0 | 27 => 103 | 33 => 140 | 4 => 4 | n => n, g := fun x => x }
theorem keysA : SlLaysZI.n7 Tryz.prog keysA_ren := { mixed := MX, f7 := ⟨Tryz.f70.name, by decide, by kernel_rfl⟩, f10 := ⟨Tryz.f117.name, by decide, by kernel_rfl⟩, t0 := Tryz.underlying0, a0 := Tryz.isAgg0, z0 := Tryz.sizeOf0, v0 := Tryz.zeroValue0, t4 := Tryz.underlying4, a4 := Tryz.isAgg4, z4 := Tryz.sizeOf4, v4 := Tryz.zeroValue4, t23 := Tryz.underlying98, a23 := Tryz.isAgg98, z23 := Tryz.sizeOf98, v23 := Tryz.zeroValue98, t26 := Tryz.underlying3, a26 := Tryz.isAgg3, z26 := Tryz.sizeOf3, v26 := Tryz.zeroValue3, t27 := Tryz.underlying103, a27 := Tryz.isAgg103, z27 := Tryz.sizeOf103, v27 := Tryz.zeroValue103, t28 := Tryz.underlying104, a28 := Tryz.isAgg104, z28 := Tryz.sizeOf104, v28 := Tryz.zeroValue104, t33 := Tryz.underlying140, a33 := Tryz.isAgg140, z33 := Tryz.sizeOf140, v33 := Tryz.zeroValue140 }
def sortedA_ren : Ren := { f := fun x => match x with | 6 => 69 | 8 => 115 | 9 => 116 | 11 => 147 | 13 => 149 | 12 => 148 | 23 => 164 | 24 => 174 | 14 => 165 | 15 => 166 | 16 => 167 | 17 => 168 | 18 => 169 | 19 => 170 | 20 => 171 | 21 => 172 | 22 => 173 | 25 => 191 | 26 => 192 | 27 => 193 | 28 => 194 | 29 => 195 | 30 => 196 | 31 => 205 | n => n, t := fun x => match x with | 26 => 3 | 28 => 104 | 24 => 101 | 0 => 0 | 3 => 3 | 37 => 57 | 48 => 132 | 50 => 124 | 4 => 4 | 40 => 172 | 39 => 171 | 45 => 177 | 5 => 5 | 9 => 9 | 51 => 191 | 55 => 195 | 57 => 201 | 58 => 202 | 33 => 140 | n => n, g := fun x => x }
theorem sortedA : SlLaysZI.n6 Tryz.prog sortedA_ren := { mixed := MX, f6 := ⟨Tryz.f69.name, by decide, by kernel_rfl⟩, f8 := ⟨Tryz.f115.name, by decide, by kernel_rfl⟩, f11 := ⟨Tryz.f147.name, by decide, by kernel_rfl⟩, t0 := Tryz.underlying0, a0 := Tryz.isAgg0, z0 := Tryz.sizeOf0, v0 := Tryz.zeroValue0, t24 := Tryz.underlying101, a24 := Tryz.isAgg101, z24 := Tryz.sizeOf101, v24 := Tryz.zeroValue101, t26 := Tryz.underlying3, a26 := Tryz.isAgg3, z26 := Tryz.sizeOf3, v26 := Tryz.zeroValue3, t28 := Tryz.underlying104, a28 := Tryz.isAgg104, z28 := Tryz.sizeOf104, v28 := Tryz.zeroValue104, i26 := by kernel_rfl }
def sortA_ren : Ren := { f := fun x => match x with | 5 => 116 | 8 => 149 | 7 => 148 | 19 => 164 | 20 => 174 | 10 => 165 | 11 => 166 | 12 => 167 | 13 => 168 | 14 => 169 | 15 => 170 | 16 => 171 | 17 => 172 | 18 => 173 | 30 => 191 | 31 => 192 | 32 => 193 | 33 => 194 | 34 => 195 | 35 => 196 | 40 => 205 | n => n, t := fun x => match x with | 23 => 101 | 25 => 3 | 3 => 3 | 32 => 57 | 22 => 101 | 0 => 0 | 44 => 132 | 46 => 124 | 4 => 4 | 36 => 172 | 35 => 171 | 41 => 177 | 5 => 5 | 9 => 9 | 53 => 191 | 57 => 195 | 63 => 201 | 64 => 202 | n => n, g := fun x => x }
theorem sortA : SlLaysM.n5 Tryz.prog sortA_ren := { mixed := MX, f5 := ⟨Tryz.f116.name, by decide, by kernel_rfl⟩, f7 := ⟨Tryz.f148.name, by decide, by kernel_rfl⟩, f8 := by kernel_rfl, f10 := ⟨Tryz.f165.name, by decide, by kernel_rfl⟩, f11 := ⟨Tryz.f166.name, by decide, by kernel_rfl⟩, f12 := ⟨Tryz.f167.name, by decide, by kernel_rfl⟩, f13 := ⟨Tryz.f168.name, by decide, by kernel_rfl⟩, f14 := ⟨Tryz.f169.name, by decide, by kernel_rfl⟩, f15 := ⟨Tryz.f170.name, by decide, by kernel_rfl⟩, f16 := ⟨Tryz.f171.name, by decide, by kernel_rfl⟩, f17 := ⟨Tryz.f172.name, by decide, by kernel_rfl⟩, f18 := ⟨Tryz.f173.name, by decide, by kernel_rfl⟩, f19 := by kernel_rfl, f20 := by kernel_rfl, f30 := ⟨Tryz.f191.name, by decide, by kernel_rfl⟩, f31 := by kernel_rfl, f32 := by kernel_rfl, f33 := ⟨Tryz.f194.name, by decide, by kernel_rfl⟩, f34 := ⟨Tryz.f195.name, by decide, by kernel_rfl⟩, f35 := ⟨Tryz.f196.name, by decide, by kernel_rfl⟩, f40 := ⟨Tryz.f205.name, by decide, by kernel_rfl⟩, t0 := Tryz.underlying0, a0 := Tryz.isAgg0, z0 := Tryz.sizeOf0, v0 := Tryz.zeroValue0, t3 := Tryz.underlying3, a3 := Tryz.isAgg3, z3 := Tryz.sizeOf3, v3 := Tryz.zeroValue3, t4 := Tryz.underlying4, a4 := Tryz.isAgg4, z4 := Tryz.sizeOf4, v4 := Tryz.zeroValue4, t5 := Tryz.underlying5, a5 := Tryz.isAgg5, z5 := Tryz.sizeOf5, v5 := Tryz.zeroValue5, t9 := Tryz.underlying9, a9 := Tryz.isAgg9, z9 := Tryz.sizeOf9, v9 := Tryz.zeroValue9, t22 := Tryz.underlying101, a22 := Tryz.isAgg101, z22 := Tryz.sizeOf101, v22 := Tryz.zeroValue101, t23 := Tryz.underlying101, a23 := Tryz.isAgg101, z23 := Tryz.sizeOf101, v23 := Tryz.zeroValue101, t25 := Tryz.underlying3, a25 := Tryz.isAgg3, z25 := Tryz.sizeOf3, v25 := Tryz.zeroValue3, t32 := Tryz.underlying57, a32 := Tryz.isAgg57, z32 := Tryz.sizeOf57, v32 := Tryz.zeroValue57, t35 := Tryz.underlying171, a35 := Tryz.isAgg171, z35 := Tryz.sizeOf171, v35 := Tryz.zeroValue171, t36 := Tryz.underlying172, a36 := Tryz.isAgg172, z36 := Tryz.sizeOf172, v36 := Tryz.zeroValue172, t41 := Tryz.underlying177, a41 := Tryz.isAgg177, z41 := Tryz.sizeOf177, v41 := Tryz.zeroValue177, t44 := Tryz.underlying132, a44 := Tryz.isAgg132, z44 := Tryz.sizeOf132, v44 := Tryz.zeroValue132, t46 := Tryz.underlying124, a46 := Tryz.isAgg124, z46 := Tryz.sizeOf124, v46 := Tryz.zeroValue124, t53 := Tryz.underlying191, a53 := Tryz.isAgg191, z53 := Tryz.sizeOf191, v53 := Tryz.zeroValue191, t57 := Tryz.underlying195, a57 := Tryz.isAgg195, z57 := Tryz.sizeOf195, v57 := Tryz.zeroValue195, t63 := Tryz.underlying201, a63 := Tryz.isAgg201, z63 := Tryz.sizeOf201, v63 := Tryz.zeroValue201, t64 := Tryz.underlying202, a64 := Tryz.isAgg202, z64 := Tryz.sizeOf202, v64 := Tryz.zeroValue202 }
theorem sortsA (m : Nat) : AnyZI.SortsIn Tryz.prog sortedA_ren Fence.wide m :=
 ⟨fun blk off cap ss W hH hblk hsz => callsIn_wide.2 (AnyM.slices_Sort_int sortA blk off cap ss W hH hblk hsz),
  fun p cap W => callsIn_wide.2 (AnyM.slices_Sort_int_none sortA p cap W)⟩
end Go.El

namespace Go.El
open Go Go.RowKit Go.Proofs Go.Maps
abbrev intTy : TypeId := 3
theorem relM_keys {g : Gh} {va : Bool} : ∀ {n : Nat} {xs : List (List C × List C)} {es : List MapEntry} {ks : List Int}, RelM g false va n xs es → xs.map (·.1) = ks.map (fun z => [C.I .i64 z]) → es.map (·.key) = ks.map encZ ∧ es.map (·.born) = List.range' n ks.length
 | _, [], es, ks, h, hk => by
  have h : es = [] := h
  subst h
  cases ks with
  | nil => exact ⟨rfl, rfl⟩
  | cons k ks => cases hk
 | n, x :: xs, es, ks, h, hk => by
  obtain ⟨e, r, rfl, hb, ⟨kv, e1, e2⟩, _, h5⟩ := h
  cases ks with
  | nil => cases hk
  | cons k ks =>
   simp only [List.map_cons, List.cons.injEq] at hk
   have ⟨i1, i2⟩ := relM_keys h5 hk.2
   rw [hk.1] at e2
   obtain ⟨v, r', rfl, e3, e4⟩ := e2
   have e3 : v = .int .i64 k := e3
   subst e3
   refine ⟨?_, ?_⟩
   ·rw [List.map_cons, List.map_cons, i1, e1]; rfl
   ·rw [List.map_cons, i2, hb, List.length_cons, List.range'_succ]
abbrev unitR : Value → Option (DataW Unit × List MemPlace) := fun _ => some (.nil, [])
theorem keyZ {z : Int} (hw : (Lit.int .i64 z).wf = true) : keyOf Tryz.prog intTy (encZ z) = some (.int .i64 z) := by
 simp [keyOf, Tryz.underlying3, mapKey, hw]
theorem rgZ {x : MapEntry} {z : Int} (hk : x.key = encZ z) (hw : (Lit.int .i64 z).wf = true) : WideElems.rd Tryz.prog intTy unitR x = some (.int .i64 z, .nil) := by
 unfold WideElems.rd
 rw [hk, keyZ hw]; rfl
theorem owns_of {W : World} {r n : Nat} {es : Array MapEntry} {ks : List Int} (hh : W.heap[r]? = some (.map es n)) (hkey : es.toList.map (·.key) = ks.map encZ) (hborn : es.toList.map (·.born) = List.range' 0 ks.length) (hn : n = ks.length) (hnd : ks.Nodup)
  (hwf : ∀ z ∈ ks, (Lit.int .i64 z).wf = true) (hl : ks.length ≤ 100000) : ∃ D0 : DataW Unit, W.ownsMap Tryz.prog intTy unitR r n D0 ∧ (intKeys D0).Perm ks ∧ Maps.size D0 = ks.length := by
 have hsz : es.size = ks.length := by
  have := congrArg List.length hkey
  simpa using this
 have hat : ∀ x ∈ es.toList, ∃ z ∈ ks, x.key = encZ z := fun x hx => by
  have h1 : x.key ∈ ks.map encZ := by rw [← hkey]; exact List.mem_map_of_mem hx
  obtain ⟨z, hz, e⟩ := List.mem_map.1 h1
  exact ⟨z, hz, e.symm⟩
 have F : WideElems.Fit Tryz.prog intTy unitR es n := by
  refine ⟨by rw [hsz]; exact Nat.le_trans hl (by decide), ⟨fun x hx => ?_, ?_, ?_⟩, fun x hx => ?_⟩
  ·have h1 : x.born ∈ List.range' 0 ks.length := by rw [← hborn]; exact List.mem_map_of_mem hx
   have := List.mem_range'_1.1 h1
   omega
  ·rw [hborn]; exact List.nodup_range'
  ·rw [hkey]
   exact List.pairwise_map.2 (hnd.imp fun hne e => hne (encZ_inj e))
  ·obtain ⟨z, hz, e⟩ := hat x hx
   exact ⟨_, rgZ e (hwf z hz)⟩
 refine ⟨_, ⟨es, n, hh, F, by omega, rfl⟩, ?_, ?_⟩
 ·show (List.map (fun p => intOf p.1) ((es.toList.map (WideElems.rg Tryz.prog intTy unitR)).foldr DataW.insert [])).Perm ks
  refine ((WideShapes.sorted_perm _).map _).trans ?_
  rw [List.map_map]
  have : es.toList.map ((fun p => intOf p.1) ∘ WideElems.rg Tryz.prog intTy unitR) = ks := by
   have h2 : es.toList.map ((fun p => intOf p.1) ∘ WideElems.rg Tryz.prog intTy unitR) = (es.toList.map (·.key)).map fun v => match v with | .int _ z => z | _ => 0 := by
    rw [List.map_map]
    refine List.map_congr_left fun x hx => ?_
    obtain ⟨z, hz, e⟩ := hat x hx
    simp only [Function.comp, WideElems.rg, rgZ e (hwf z hz), Option.getD_some, e]
    rfl
   rw [h2, hkey, List.map_map]
   exact List.map_id _
  rw [this]
 ·show ((es.toList.map (WideElems.rg Tryz.prog intTy unitR)).foldr DataW.insert []).length = _
  rw [length_sorted, List.length_map]
  simpa using hsz
theorem sorted_eq {l ks ss : List Int} (hp : l.Perm ks) (hs : l.Pairwise (· ≤ ·)) (h : ss.Perm ks) : ss.mergeSort (fun x y => decide (x ≤ y)) = l := by
 have tr : ∀ a b c : Int, decide (a ≤ b) = true → decide (b ≤ c) = true → decide (a ≤ c) = true := fun a b c h1 h2 => by simp only [decide_eq_true_eq] at *; omega
 have to : ∀ a b : Int, (decide (a ≤ b) || decide (b ≤ a)) = true := fun a b => by simp only [Bool.or_eq_true, decide_eq_true_eq]; omega
 refine List.Perm.eq_of_pairwise (le := fun a b => a ≤ b) (fun a b _ _ h1 h2 => Int.le_antisymm h1 h2) ((List.pairwise_mergeSort tr to ss).imp fun h => of_decide_eq_true h) hs (((List.mergeSort_perm ss _).trans h).trans hp.symm)
set_option maxRecDepth 100000 in
theorem sorted_cx {fm : List (Nat × Blk)} {c bx m k sz : Nat} {va : Bool} {xs : List (List C × List C)} {l ks : List Int} {E : TypeId} (hc : lookA c fm = some (.clo 117 [] [(false, [.P bx 0])])) (hb : lookA bx fm = some (.box E sz [.X m])) (hm : lookA m fm = some (.mp false va xs))
  (hk : xs.map (·.1) = ks.map fun z => [C.I .i64 z]) (hnd : ks.Nodup) (hwf : ∀ z ∈ ks, (Lit.int .i64 z).wf = true) (hlen : ks.length ≤ 100000) (hp : l.Perm ks) (hs : l.Pairwise (· ≤ ·)) :
  CX Tryz.prog 69 [.c (.X c)] fm k (cS I64 l) fm k := by
 refine ⟨by kernel_rfl, Nat.le_refl _, ?_⟩
 intro F g W us hn' hus h
 obtain ⟨u, rfl⟩ : ∃ u, us = [u] := by
  cases us with
  | nil => cases hus
  | cons u r => cases r with
   | nil => exact ⟨u, rfl⟩
   | cons _ _ => cases hus
 have hu : u = g.γ c := h.slots 0 (.c (.X c)) rfl
 obtain ⟨us1, ws, e1, r1, r2⟩ := h.blks c (.clo 117 [] [(false, [.P bx 0])]) (by simp [St.kn, hc])
 have r1 : us1 = [] := r1
 subst r1
 obtain ⟨w, r, rfl, hw, hr⟩ := r2
 have hr : r = [] := hr
 subst hr
 obtain ⟨b, hb1, rfl⟩ : ∃ b, blk (g.γ bx) = some b ∧ w = .pointer (some ⟨b, 0, none⟩) := hw
 obtain ⟨b', vs, rest, e2, hh, hvs, _, _, _⟩ := h.blks bx (.box E sz [.X m]) (by simp [St.kn, hb])
 obtain rfl : b = b' := Option.some.inj (hb1.symm.trans e2)
 obtain ⟨v0, rr, rfl, hv0, hrr⟩ := hvs
 have hv0 : v0 = g.γ m := hv0
 obtain ⟨rm, es, e3, hh3, hrel, _, _⟩ := h.blks m (.mp false va xs) (by simp [St.kn, hm])
 subst hv0
 have ⟨k1, k2⟩ := relM_keys hrel hk
 have hxl : xs.length = ks.length := by simpa using congrArg List.length hk
 obtain ⟨D0, hown, hperm, hsz⟩ := owns_of hh3 k1 k2 hxl hnd hwf hlen
 have hbl : b < W.heap.size := (Array.getElem?_eq_some_iff.1 hh).1
 have hcell : W.cell? ⟨b, 0, none⟩ = some (.map (some rm)) := by
  have := cell_of_block hh 0 (by simp)
  rw [this]; simp [e3]
 have hseq : SeqGives Fence.wide 2 Tryz.prog 117 #[.pointer (some ⟨b, 0, none⟩)] encZ (fun ss => ss.Perm (intKeys D0)) (Maps.size D0) W :=
  AnyZI.keys_gives (ρ := keysA_ren) { keysA with } Fence.wide _ trivial rfl (by omega) b rm _ D0 _ hbl hcell hown
 have hS5 := AnyZI.sorted_in sortedA Fence.wide 5 trivial trivial trivial trivial rfl (by omega) (sortsA _) (enters_of Tryz.func116 (by kernel_rfl) rfl) 117 #[.pointer (some ⟨b, 0, none⟩)] trivial (enters_of Tryz.func117 (by kernel_rfl) rfl) _ _ (by rw [hsz]; exact Nat.le_trans hlen (by decide)) (by rw [hsz]; omega) W hseq
 change CallsIn _ _ Tryz.prog 69 _ _ _ at hS5
 have hu' : u = .func (.func 117) #[] #[.pointer (some ⟨b, 0, none⟩)] := hu.trans e1
 rw [hu']
 refine (callsIn_wide.1 hS5).mono ?_
 rintro e w' ⟨v, ss, rfl, hS, hrow, hnil, hbe⟩
 have hle : l = ss.mergeSort (fun x y => decide (x ≤ y)) := (sorted_eq hp hs (hS.trans hperm)).symm
 rw [← hle] at hrow
 have hss : ss.length = l.length := (hS.trans hperm).length_eq.trans hp.length_eq.symm
 have hll : l.length ≤ 100000 := by rw [hp.length_eq]; exact hlen
 refine ⟨v, ⟨HN W.heap.size g.H w', g.γ⟩, rfl, ?_⟩
 have hfle : FLe g.H (HN W.heap.size g.H w') := fun b o u hu => by
  have h1 := h.sub b o u hu
  have h2 : b < W.heap.size := by
   unfold World.cell? at h1
   split at h1
   ·rename_i h3; exact (Array.getElem?_eq_some_iff.1 h3).1
   ·cases h1
  show (if b < W.heap.size then g.H b o else _) = _
  rw [if_pos h2]; exact hu
 have hsub : Sub (HN W.heap.size g.H w') w' := fun b o u hu => by
  have hu : (if b < W.heap.size then g.H b o else w'.cell? ⟨b, o, none⟩) = some u := hu
  by_cases h2 : b < W.heap.size
  ·rw [if_pos h2] at hu
   have h1 := h.sub b o u hu
   unfold World.cell? at h1 ⊢
   rw [hbe.block b h2]; exact h1
  ·rw [if_neg h2] at hu; exact hu
 have hx : Ext (fun x => x < k) (fun _ => False) g W ⟨HN W.heap.size g.H w', g.γ⟩ w' :=
  ⟨⟨hfle, fun _ _ => rfl⟩, fun b o hb => by show (if b < W.heap.size then g.H b o else _) = _; rw [if_pos hb], hsub, hbe.size, fun j hj _ => hbe.block j hj, hbe.os, hbe.tape, hbe.output⟩
 have hkn : ∀ j y, St.kn ⟨[(0, cS I64 l)], fm, 0, []⟩ (.m j) = some y → St.kn ⟨argSl 0 [.c (.X c)], fm, 0, []⟩ (.m j) = some y := fun j y hy => hy
 have hres : RelV ⟨HN W.heap.size g.H w', g.γ⟩ (cS I64 l) v := by
  rcases hrow.2 with ⟨rfl, h0⟩ | ⟨gb, cap, cur, rfl, hge, hgb, c1, c2, c3, c4⟩
  ·have : l = [] := List.eq_nil_of_length_eq_zero (by omega)
   subst this
   exact ⟨none, 0, rfl, Nat.le_refl _, by simp, .inl rfl⟩
  ·refine ⟨some ⟨gb, 0, none⟩, cap, by rw [hss], by omega, by show l.length * 1 ≤ _; omega, .inr ⟨gb, 0, rfl, fun i hi => ⟨[.int .i64 l[i]], rfl, rfl, fun j hj => ?_⟩⟩⟩
   have hj : j = 0 := by simpa using hj
   subst hj
   show (if gb < W.heap.size then g.H gb _ else w'.cell? ⟨gb, 0 + i * 1 + 0, none⟩) = _
   rw [if_neg (by omega), show 0 + i * 1 + 0 = i by omega]
   have h5 : cur.toList[i]? = some (encZ l[i]) := by
    have h6 : (cur.toList.take (ss.length * 1))[i]? = (l.map encZ)[i]? := by rw [c4]
    rw [List.getElem?_take, if_pos (by omega), List.getElem?_map, List.getElem?_eq_getElem hi] at h6
    exact h6
   have h7 : w'.heap[gb]? = some (.cells cur.toList.toArray intTy (0, 0)) := by
    have hgb : w'.heap[gb]? = some (.cells cur intTy (0, 0)) := hgb
    simpa using hgb
   obtain ⟨h8, h9⟩ := List.getElem?_eq_some_iff.1 h5
   rw [cell_of_block h7 i h8, h9]
   rfl
 refine ⟨rfl, h.defers, ?_, ?_, ?_, ?_, ?_, hsub, ?_, h.le.trans hfle, ?_, fun id hid => h.kfix id hid⟩
 ·intro t y ht
  simp only [St.kn, Option.map_eq_some_iff] at ht
  obtain ⟨z, hz, he⟩ := ht
  cases he
  simp only [lookA] at hz
  split at hz
  ·rename_i e
   cases hz
   subst e
   exact hres
  ·cases hz
 ·intro id bb hid
  exact (h.blks id bb (hkn id _ hid)).step hx (h.mkn _ _ (hkn id _ hid)) (fun j hj => h.mids _ _ (hkn id _ hid) j hj) (fun j k hj => hj.elim)
 ·intro id id' b1 b2 j e e' hj hj'
  exact h.inj id id' b1 b2 j (hkn id _ e) (hkn id' _ e') hj hj'
 ·intro key y e id hid
  cases key with
  | m j => exact h.mids _ _ (hkn j _ e) id hid
  | s t =>
   simp only [St.kn, Option.map_eq_some_iff] at e
   obtain ⟨z, hz, he⟩ := e
   subst he
   simp only [lookA] at hz
   split at hz
   ·cases hz
    simp [Info.mids, AV.mids, C.mids] at hid
   ·cases hz
 ·intro id y e
  exact h.mkn id y (hkn id _ e)
 ·exact ⟨hbe.os.trans h.below.os, hbe.tape.trans h.below.tape, hbe.output.trans h.below.output, Nat.le_trans h.below.size hbe.size, fun j hj hno => (hbe.block j (by have h1 := h.below.size; have h2 : j < F.w0.heap.size := hj; omega)).trans (h.below.block j hj hno)⟩
 ·intro b o hb hno
  show (if b < W.heap.size then g.H b o else _) = _
  rw [if_pos (by have := h.below.size; have hb : b < F.w0.heap.size := hb; omega)]
  exact h.fresh b o hb hno
end Go.El

namespace Go.El
open Go Go.Proofs
def keysI : List (List C × List C) → Option (List Int)
 | [] => some []
 | ([.I .i64 z], _) :: r => (match keysI r with
  | some l => some (z :: l)
  | none => none)
 | _ => none
theorem keysI_ok : ∀ {xs : List (List C × List C)} {ks : List Int}, keysI xs = some ks → xs.map (·.1) = ks.map fun z => [C.I .i64 z]
 | [], ks, h => by cases h; rfl
 | x :: r, ks, h => by
  unfold keysI at h
  split at h
  ·rename_i e; cases e
  ·rename_i z _ r' e
   cases e
   split at h
   ·rename_i l hl
    cases h
    rw [List.map_cons, List.map_cons, keysI_ok hl]
   ·cases h
  ·cases h
def insI (z : Int) : List Int → List Int
 | [] => [z]
 | y :: l => if z ≤ y then z :: y :: l else y :: insI z l
def srtI : List Int → List Int
 | [] => []
 | z :: l => insI z (srtI l)
theorem insI_perm (z : Int) : ∀ l, (insI z l).Perm (z :: l)
 | [] => .refl _
 | y :: l => by
  unfold insI
  split
  ·exact .refl _
  ·exact ((insI_perm z l).cons y).trans (.swap z y l)
theorem srtI_perm : ∀ l, (srtI l).Perm l
 | [] => .refl _
 | z :: l => (insI_perm z _).trans ((srtI_perm l).cons z)
theorem insI_srt (z : Int) : ∀ l : List Int, l.Pairwise (· ≤ ·) → (insI z l).Pairwise (· ≤ ·)
 | [], _ => by simp [insI]
 | y :: l, h => by
  have h := List.pairwise_cons.1 h
  unfold insI
  split
  ·rename_i hz
   refine List.pairwise_cons.2 ⟨fun x hx => ?_, List.pairwise_cons.2 h⟩
   rcases List.mem_cons.1 hx with rfl | hx
   ·exact hz
   ·exact Int.le_trans hz (h.1 x hx)
  ·rename_i hz
   refine List.pairwise_cons.2 ⟨fun x hx => ?_, insI_srt z l h.2⟩
   rcases List.mem_cons.1 ((insI_perm z l).mem_iff.1 hx) with rfl | hx
   ·omega
   ·exact h.1 x hx
theorem srtI_srt : ∀ l, (srtI l).Pairwise (· ≤ ·)
 | [] => .nil
 | z :: l => insI_srt z _ (srtI_srt l)
def nodI : List Int → Bool
 | [] => true
 | z :: l => l.all (fun y => y != z) && nodI l
theorem nodI_ok : ∀ {l : List Int}, nodI l = true → l.Nodup
 | [], _ => .nil
 | z :: l, h => by
  simp only [nodI, Bool.and_eq_true] at h
  refine List.nodup_cons.2 ⟨fun hz => ?_, nodI_ok h.2⟩
  have := List.all_eq_true.1 h.1 z hz
  simp at this
def okK (l : List Int) : Bool := nodI l && l.all (fun z => (Lit.int .i64 z).wf) && Nat.ble l.length 1000
noncomputable def srtC (f : FuncId) (vs : List AV) (ms : Ms) : Option ConR := match Nat.beq f 69, vs with
 | true, [.c (.X c)] => (match lookS c ms with
  | some (.clo f1 [] [(false, [.P bx 0])]) => (match Nat.beq f1 117, lookS bx ms with
   | true, some (.box _ _ [.X m]) => (match lookS m ms with
    | some (.mp false _ xs) => (match keysI xs with
     | some ks => (match okK ks with
      | true => some (.cx (cS I64 (srtI ks)))
      | false => none)
     | none => none)
    | _ => none)
   | _, _ => none)
  | _ => none)
 | _, _ => none
theorem srtC_ok {f : FuncId} {vs : List AV} {ms : Ms} {x : ConR} (h : srtC f vs ms = some x) : ∃ r, x = .cx r ∧ ∀ k, CX Tryz.prog f vs ms.flatten k r ms.flatten k := by
 unfold srtC at h
 split at h
 ·rename_i c hf
  have hf := Nat.eq_of_beq_eq_true hf
  split at h
  ·rename_i f1 bx hc
   split at h
   ·rename_i E sz m hf1 hb
    have hf1 := Nat.eq_of_beq_eq_true hf1
    split at h
    ·rename_i va xs hm
     split at h
     ·rename_i ks hk
      split at h
      ·rename_i ho
       cases h
       simp only [okK, Bool.and_eq_true] at ho
       refine ⟨_, rfl, fun k => ?_⟩
       rw [hf]
       rw [hf1] at hc
       exact sorted_cx (by rw [look_flat]; exact hc) (by rw [look_flat]; exact hb) (by rw [look_flat]; exact hm) (keysI_ok hk) (nodI_ok ho.1.1) (fun z hz => List.all_eq_true.1 ho.1.2 z hz) (Nat.le_trans (Nat.le_of_ble_eq_true ho.2) (by decide)) (srtI_perm ks) (srtI_srt ks)
      ·cases h
     ·cases h
    ·cases h
   ·cases h
  ·cases h
 ·cases h
abbrev Cl := FuncId × List AV × AV
noncomputable def conL (l : List Cl) (f : FuncId) (vs : List AV) (ms : Ms) : Option ConR := List.rec (motive := fun _ => Option ConR) (srtC f vs ms)
 (fun e _ ih => match Nat.beq f e.1 with
  | true => (match matVs (fun id => lookS id ms) vs e.2.1 with
   | true => some (.fs e.2.1 e.2.2)
   | false => ih)
  | false => ih) l
def AllS : List Cl → Prop
 | [] => True
 | e :: r => FnS Tryz.prog e.1 e.2.1 e.2.2 ∧ AllS r
theorem conL_at : ∀ {l : List Cl}, AllS l → ∀ f vs ms x, conL l f vs ms = some x → (∃ vs' r, x = .fs vs' r ∧ FnS Tryz.prog f vs' r) ∨ ∃ r, x = .cx r ∧ ∀ k, CX Tryz.prog f vs ms.flatten k r ms.flatten k
 | [], _, f, vs, ms, x, h => .inr (srtC_ok h)
 | e :: l, hl, f, vs, ms, x, h => by
  have h' : (match Nat.beq f e.1 with
   | true => (match matVs (fun id => lookS id ms) vs e.2.1 with
    | true => some (.fs e.2.1 e.2.2)
    | false => conL l f vs ms)
   | false => conL l f vs ms) = some x := h
  split at h'
  ·rename_i hf
   have hf := Nat.eq_of_beq_eq_true hf
   split at h'
   ·cases h'
    rw [hf]
    exact .inl ⟨_, _, rfl, hl.1⟩
   ·exact conL_at hl.2 f vs ms x h'
  ·exact conL_at hl.2 f vs ms x h'
theorem conL_ok {l : List Cl} (hl : AllS l) : ConOk Tryz.prog (conL l) := by
 refine ⟨fun f vs ms vs' r h => ?_, fun f vs ms r k h => ?_⟩
 ·rcases conL_at hl f vs ms _ h with ⟨vs1, r1, e, h1⟩ | ⟨r1, e, _⟩
  ·cases e; exact h1
  ·cases e
 ·rcases conL_at hl f vs ms _ h with ⟨vs1, r1, e, h1⟩ | ⟨r1, e, h1⟩
  ·cases e
  ·cases e; exact h1 k
theorem cl_fz {l : List Cl} (hl : AllS l) {f : FuncId} {vs : List AV} {r' : AV} (h : endIs r' (callF Tryz.prog TTab (conL l) (runF Tryz.prog TTab (conL l) 100000) f vs [] 0) = true) (hm : midsVs vs = []) (hr : r'.mids = []) : FnS Tryz.prog f vs r' :=
 fs_fz MX TT_ok (conL_ok hl) 100000 h hm hr
def qI (n : Int) : Rat := Rat.ofInt n
def tm (c : Int) (a b : Int) : TE.den := (qI c, (a, b, 0, 0, 0, 0, 0, 0))
def okMo (k : Int) (x : MO.den) : Bool := (moL x).all fun e => decide (0 ≤ e) && decide (e ≤ k)
def okQc (c : Rat) : Bool := Nat.blt c.num.natAbs 4294967296 && Nat.blt c.den 4294967296
def okTs (p : List TE.den) : Bool := p.all (fun x => okMo 30000 x.2 && okQc x.1) && Nat.ble p.length 1000
theorem okMo_ok {k : Int} {x : MO.den} (h : okMo k x = true) : bM k x := fun j hj => by
 have h := List.all_eq_true.1 h (mx x j) (by rcases lt8 hj with rfl | rfl | rfl | rfl | rfl | rfl | rfl | rfl <;> simp [moL, mx])
 simp only [Bool.and_eq_true, decide_eq_true_eq] at h
 exact h
theorem okQc_ok {c : Rat} (h : okQc c = true) : QS 1 c := by
 simp only [okQc, Bool.and_eq_true] at h
 have h1 := Nat.le_of_ble_eq_true h.1
 have h2 := Nat.le_of_ble_eq_true h.2
 exact ⟨SmB.one (by omega), SmB.one (by show ((c.den : Int)).natAbs < _; omega)⟩
theorem okTs_ok {p : List TE.den} (h : okTs p = true) : SzT 30000 1 p ∧ p.length ≤ 1000 := by
 simp only [okTs, Bool.and_eq_true] at h
 refine ⟨fun x hx => ?_, Nat.le_of_ble_eq_true h.2⟩
 have h := List.all_eq_true.1 h.1 x hx
 simp only [Bool.and_eq_true] at h
 exact ⟨okMo_ok h.1, okQc_ok h.2⟩
theorem SzT.le {k l : Int} {v w : Nat} {p : List TE.den} (h : SzT k v p) (h1 : k ≤ l) (h2 : v ≤ w) : SzT l w p := fun x hx => ⟨(h x hx).1.le h1, (h x hx).2.le h2⟩
def mulB (p q r : List TE.den) : Bool := okTs p && okTs q && Nat.ble (p.length * q.length) 1000 && (List.range p.length).all (fun i => (List.range q.length).all fun j => (mlA (mlP [] q (p.take i)) (p.getD i TE.dflt) (q.take j)).all fun x => okQc x.1) && Nat.ble (mulT p q).length 12 && eqT (mulT p q) r
theorem mulC {p q r : List TE.den} (h : mulB p q r = true) : FnS Tryz.prog 48 [cS TE p, cS TE q] (.t [(false, [.S TE r]), (false, [.I .i64 0])]) := by
 simp only [mulB, Bool.and_eq_true] at h
 let ⟨⟨⟨⟨⟨h1, h2⟩, h3⟩, h4⟩, h5⟩, h6⟩ := h
 have hp := okTs_ok h1
 have hq := okTs_ok h2
 rw [← eqT_iff.1 h6]
 refine pMul_s (w := 1) hp.1 hq.1 (by decide) (Nat.le_trans (Nat.le_of_ble_eq_true h3) (by decide)) (Nat.le_trans hp.2 (by decide)) (fun i hi j hj x hx => ?_) (Nat.le_of_ble_eq_true h5)
 have h7 := List.all_eq_true.1 (List.all_eq_true.1 (List.all_eq_true.1 h4 i (List.mem_range.2 hi)) j (List.mem_range.2 hj)) x hx
 exact (okQc_ok h7).le (by decide)
def sumB (p q r : List TE.den) : Bool := okTs p && okTs q && eqT (aT6 p q) r
theorem addC {p q r : List TE.den} (h : sumB p q r = true) : FnS Tryz.prog 24 [cS TE p, cS TE q] (cS TE r) := by
 simp only [sumB, Bool.and_eq_true] at h
 have hp := okTs_ok h.1.1
 have hq := okTs_ok h.1.2
 rw [← eqT_iff.1 h.2]
 exact pAdd_s (w := 1) (Nat.le_trans hp.2 (by decide)) (Nat.le_trans hq.2 (by decide)) (hp.1.le (by decide) (Nat.le_refl _)) (hq.1.le (by decide) (Nat.le_refl _)) (by decide)
def difB (p q r : List TE.den) : Bool := okTs p && okTs q && eqT (aT6 p (q.map (gT fun c => -c))) r
theorem subC {p q r : List TE.den} (h : difB p q r = true) : FnS Tryz.prog 26 [cS TE p, cS TE q] (cS TE r) := by
 simp only [difB, Bool.and_eq_true] at h
 have hp := okTs_ok h.1.1
 have hq := okTs_ok h.1.2
 rw [← eqT_iff.1 h.2]
 exact pSub_s (w := 1) (Nat.le_trans hp.2 (by decide)) (Nat.le_trans hq.2 (by decide)) (hp.1.le (by decide) (Nat.le_refl _)) (hq.1.le (by decide) (Nat.le_refl _)) (by decide)
def timB (c : Rat) (m : MO.den) (p r : List TE.den) : Bool := decide (c ≠ 0) && okQc c && okMo 30000 m && okTs p && eqT (p.map (tE1 c m)) r
theorem timC {c : Rat} {m : MO.den} {p r : List TE.den} (h : timB c m p r = true) : FnS Tryz.prog 57 [aQ c, aM m, cS TE p] (.t [(false, [.S TE r]), (false, [.I .i64 0])]) := by
 simp only [timB, Bool.and_eq_true, decide_eq_true_eq] at h
 let ⟨⟨⟨⟨h1, h2⟩, h3⟩, h4⟩, h5⟩ := h
 have hp := okTs_ok h4
 rw [← eqT_iff.1 h5]
 exact pTimes_s (w := 1) h1 (Nat.le_trans hp.2 (by decide)) (okQc_ok h2) hp.1 (okMo_ok h3) (by decide)
def chD (y : TE.den) (b : List TE.den) (lim : MO.den) : Nat → List TE.den → List TE.den → Bool
 | 0, _, _ => false
 | _ + 1, [], q => Nat.ble q.length 1000
 | n + 1, x :: a, q => okTs (x :: a) && Nat.ble q.length 1000 && decide (x.1 ≠ 0) && (!inb x.2 y.2 lim 8 0 || chD y b lim n (dvA x y (x :: a) b) (q ++ [(x.1 * y.1⁻¹, sbM' x.2 y.2)]))
theorem chD_ok {y : TE.den} {b : List TE.den} {lim : MO.den} : ∀ {n : Nat} {a q : List TE.den}, chD y b lim n a q = true → okTs a = true ∧ q.length ≤ 1000
 | 0, _, _, h => by cases h
 | _ + 1, [], q, h => ⟨rfl, Nat.le_of_ble_eq_true h⟩
 | n + 1, x :: a, q, h => by
  simp only [chD, Bool.and_eq_true] at h
  exact ⟨h.1.1.1, Nat.le_of_ble_eq_true h.1.1.2⟩
def divB (a b r : List TE.den) (ok : Bool) : Bool := Nat.blt 0 b.length && decide ((b.getD 0 TE.dflt).1 ≠ 0) && okTs b && chD (b.getD 0 TE.dflt) b (limT a b) 40 a [] && (match dvT 40 a b with
 | some (some q) => ok && eqT q r
 | some none => !ok && eqT [] r
 | none => false)
theorem divC {a b r : List TE.den} {ok : Bool} (h : divB a b r ok = true) : FnS Tryz.prog 22 [cS TE a, cS TE b] (.t [(false, [.S TE r]), (false, [.B ok])]) := by
 simp only [divB, Bool.and_eq_true, decide_eq_true_eq] at h
 let ⟨⟨⟨⟨h1, h2⟩, h3⟩, h4⟩, h5⟩ := h
 have hb := okTs_ok h3
 have hI : DvP 1 b (limT a b) (fun a' q => ∃ n, chD (b.getD 0 TE.dflt) b (limT a b) n a' q = true) := {
  la := fun {a q} ⟨n, h⟩ => Nat.le_trans (okTs_ok (chD_ok h).1).2 (by decide)
  lq := fun {a q} ⟨n, h⟩ => Nat.le_trans (chD_ok h).2 (by decide)
  ok := fun {a q} ⟨n, h⟩ => (okTs_ok (chD_ok h).1).1
  ne := fun {x a q} ⟨n, h⟩ => by
   cases n with
   | zero => cases h
   | succ n =>
    simp only [chD, Bool.and_eq_true, decide_eq_true_eq] at h
    exact h.1.2
  nx := fun {x a q} ⟨n, h⟩ hin => by
   cases n with
   | zero => cases h
   | succ n =>
    simp only [chD, Bool.and_eq_true, Bool.or_eq_true, hin] at h
    rcases h.2 with h | h
    ·cases h
    ·exact ⟨n, h⟩ }
 cases e : dvT 40 a b with
 | none => rw [e] at h5; cases h5
 | some s =>
  have := pDivide_s (N := 40) (w := 1) _ (Nat.le_of_ble_eq_true h1) h2 hb.2 hb.1 (by decide) hI ⟨40, h4⟩ e
  rw [e] at h5
  cases s with
  | none =>
   have h5 : (!ok && eqT [] r) = true := h5
   simp only [Bool.and_eq_true, Bool.not_eq_true'] at h5
   obtain ⟨rfl, h6⟩ := h5
   rw [← eqT_iff.1 h6]
   exact this
  | some q =>
   have h5 : (ok && eqT q r) = true := h5
   simp only [Bool.and_eq_true] at h5
   obtain ⟨rfl, h6⟩ := h5
   rw [← eqT_iff.1 h6]
   exact this
abbrev FE : ET := .pr (.sl TE) I64
def qF (n : Int) (d : Nat) : Rat := mkRat n d
def okTO (B : Nat) (x : TE.den) : Bool := Nat.beq x.1.den 1 && Nat.ble x.1.num.natAbs B && okMo 30000 x.2
theorem den1 {c : Rat} (h : c.den = 1) : c = (c.num : Rat) := Rat.ext rfl h
theorem okTO_ok {B : Nat} {x : TE.den} (h : okTO B x = true) : TO B 30000 x := by
 simp only [okTO, Bool.and_eq_true] at h
 exact ⟨⟨x.1.num, den1 (Nat.eq_of_beq_eq_true h.1.1), Nat.le_of_ble_eq_true h.1.2⟩, okMo_ok h.2⟩
def okTL (p : List TE.den) : Bool := p.all (okTO 1000000) && Nat.ble p.length 1000
theorem okTL_ok {p : List TE.den} (h : okTL p = true) : (∀ x ∈ p, TO 1000000 30000 x) ∧ p.length ≤ 1000 := by
 simp only [okTL, Bool.and_eq_true] at h
 exact ⟨fun x hx => okTO_ok (List.all_eq_true.1 h.1 x hx), Nat.le_of_ble_eq_true h.2⟩
def rtimB (c : Rat) (m : MO.den) (p r : List TE.den) : Bool := okQc c && okMo 30000 m && okTL p && eqT (tEL c m p) r
theorem rtimC {c : Rat} {m : MO.den} {p r : List TE.den} (h : rtimB c m p r = true) : FnS Tryz.prog 73 [aQ c, aM m, cS TE p] (.t [(false, [.S TE r]), (false, [.I .i64 0])]) := by
 simp only [rtimB, Bool.and_eq_true] at h
 let ⟨⟨⟨h1, h2⟩, h3⟩, h4⟩ := h
 have hp := okTL_ok h3
 rw [← eqT_iff.1 h4]
 exact rTimes_s hp.2 (okQc_ok h1) hp.1 (by decide) (by decide) (okMo_ok h2)
def raddB (p q r : List TE.den) : Bool := okTL p && okTL q && eqT (aT6 p q) r
theorem raddC {p q r : List TE.den} (h : raddB p q r = true) : FnS Tryz.prog 38 [cS TE p, cS TE q] (cS TE r) := by
 simp only [raddB, Bool.and_eq_true] at h
 have hp := okTL_ok h.1.1
 have hq := okTL_ok h.1.2
 rw [← eqT_iff.1 h.2]
 exact rAdd6_s hp.2 hq.2 hp.1 hq.1 (by decide) (by decide)
def sameB (p q : List TE.den) (r : Bool) : Bool := okTs p && okTs q && (eqT p q == r)
theorem sameC {p q : List TE.den} {r : Bool} (h : sameB p q r = true) : FnS Tryz.prog 20 [cS TE p, cS TE q] (cB r) := by
 simp only [sameB, Bool.and_eq_true] at h
 have hp := okTs_ok h.1.1
 have hq := okTs_ok h.1.2
 rw [← eq_of_beq h.2]
 exact rSame6_s (w := 1) (Nat.le_trans hp.2 (by decide)) (hp.1.le (by decide) (Nat.le_refl _)) (hq.1.le (by decide) (Nat.le_refl _)) (by decide)
theorem k0_s : FnS Tryz.prog 73 [aQ (qI 1), aM (0, 0, 0, 0, 0, 0, 0, 0), cS TE [tm 1 1 0]] (.t [(false, [.S TE [tm 1 1 0]]), (false, [.I .i64 0])]) := rtimC (by kernel_rfl)
theorem k1_s : FnS Tryz.prog 73 [aQ (qI 0), aM (0, 0, 0, 0, 0, 0, 0, 0), cS TE [tm 1 0 1]] (.t [(false, [.S TE []]), (false, [.I .i64 0])]) := rtimC (by kernel_rfl)
theorem k2_s : FnS Tryz.prog 38 [cS TE [tm 1 1 0], cS TE []] (cS TE [tm 1 1 0]) := raddC (by kernel_rfl)
theorem k3_s : FnS Tryz.prog 38 [cS TE [], cS TE [tm 1 1 0]] (cS TE [tm 1 1 0]) := raddC (by kernel_rfl)
theorem k5_s : FnS Tryz.prog 73 [aQ (qI 0), aM (0, 0, 0, 0, 0, 0, 0, 0), cS TE [tm 1 1 0]] (.t [(false, [.S TE []]), (false, [.I .i64 0])]) := rtimC (by kernel_rfl)
theorem k6_s : FnS Tryz.prog 73 [aQ (qI 1), aM (0, 0, 0, 0, 0, 0, 0, 0), cS TE [tm 1 0 1]] (.t [(false, [.S TE [tm 1 0 1]]), (false, [.I .i64 0])]) := rtimC (by kernel_rfl)
theorem k7_s : FnS Tryz.prog 38 [cS TE [], cS TE [tm 1 0 1]] (cS TE [tm 1 0 1]) := raddC (by kernel_rfl)
theorem k9_s : FnS Tryz.prog 73 [aQ (qI (-1)), aM (0, 0, 0, 0, 0, 0, 0, 0), cS TE [tm 1 0 1]] (.t [(false, [.S TE [tm (-1) 0 1]]), (false, [.I .i64 0])]) := rtimC (by kernel_rfl)
theorem k10_s : FnS Tryz.prog 38 [cS TE [tm 1 1 0], cS TE [tm (-1) 0 1]] (cS TE [tm 1 1 0, tm (-1) 0 1]) := raddC (by kernel_rfl)
theorem k11_s : FnS Tryz.prog 38 [cS TE [], cS TE [tm 1 1 0, tm (-1) 0 1]] (cS TE [tm 1 1 0, tm (-1) 0 1]) := raddC (by kernel_rfl)
theorem k13_s : FnS Tryz.prog 38 [cS TE [tm 1 1 0], cS TE [tm 1 0 1]] (cS TE [tm 1 1 0, tm 1 0 1]) := raddC (by kernel_rfl)
theorem k14_s : FnS Tryz.prog 38 [cS TE [], cS TE [tm 1 1 0, tm 1 0 1]] (cS TE [tm 1 1 0, tm 1 0 1]) := raddC (by kernel_rfl)
theorem k16_s : FnS Tryz.prog 48 [cS TE [tm 1 1 0, tm (-1) 0 1], cS TE [tm 1 1 0, tm 1 0 1]] (.t [(false, [.S TE [tm 1 2 0, tm (-1) 0 2]]), (false, [.I .i64 0])]) := mulC (by kernel_rfl)
theorem k17_s : FnS Tryz.prog 22 [cS TE [tm 1 2 0, tm (-1) 0 2], cS TE [tm 1 1 0, tm (-1) 0 1]] (.t [(false, [.S TE [tm 1 1 0, tm 1 0 1]]), (false, [.B true])]) := divC (by kernel_rfl)
theorem k18_s : FnS Tryz.prog 38 [cS TE [], cS TE []] (cS TE []) := raddC (by kernel_rfl)
theorem k19_s : FnS Tryz.prog 38 [cS TE [tm 2 0 0], cS TE []] (cS TE [tm 2 0 0]) := raddC (by kernel_rfl)
theorem k21_s : FnS Tryz.prog 48 [cS TE [tm 1 1 0, tm (-1) 0 1], cS TE [tm 2 0 0]] (.t [(false, [.S TE [tm 2 1 0, tm (-2) 0 1]]), (false, [.I .i64 0])]) := mulC (by kernel_rfl)
theorem k22_s : FnS Tryz.prog 48 [cS TE [tm 1 1 0, tm (-1) 0 1], cS TE [tm 2 1 0, tm (-2) 0 1]] (.t [(false, [.S TE [tm 2 2 0, tm (-4) 1 1, tm 2 0 2]]), (false, [.I .i64 0])]) := mulC (by kernel_rfl)
theorem k23_s : FnS Tryz.prog 57 [aQ (qI 1), aM (0, 0, 0, 0, 0, 0, 0, 0), cS TE [tm 1 2 0, tm (-1) 0 2]] (.t [(false, [.S TE [tm 1 2 0, tm (-1) 0 2]]), (false, [.I .i64 0])]) := timC (by kernel_rfl)
theorem k25_s : FnS Tryz.prog 57 [aQ (qF 1 2), aM (0, 0, 0, 0, 0, 0, 0, 0), cS TE [tm 2 2 0, tm (-4) 1 1, tm 2 0 2]] (.t [(false, [.S TE [tm 1 2 0, tm (-2) 1 1, tm 1 0 2]]), (false, [.I .i64 0])]) := timC (by kernel_rfl)
theorem k27_s : FnS Tryz.prog 22 [cS TE [tm 1 2 0, tm (-1) 0 2], cS TE [tm 1 2 0, tm (-2) 1 1, tm 1 0 2]] (.t [(false, [.S TE []]), (false, [.B false])]) := divC (by kernel_rfl)
theorem k28_s : FnS Tryz.prog 22 [cS TE [tm 1 2 0, tm (-2) 1 1, tm 1 0 2], cS TE [tm 1 2 0, tm (-1) 0 2]] (.t [(false, [.S TE []]), (false, [.B false])]) := divC (by kernel_rfl)
theorem k33_s : FnS Tryz.prog 24 [cS TE [], cS TE []] (cS TE []) := addC (by kernel_rfl)
theorem k36_s : FnS Tryz.prog 24 [cS TE [], cS TE [tm (-1) 0 2]] (cS TE [tm (-1) 0 2]) := addC (by kernel_rfl)
theorem k37_s : FnS Tryz.prog 57 [aQ (qI (-1)), aM (0, 0, 0, 0, 0, 0, 0, 0), cS TE [tm (-1) 0 2]] (.t [(false, [.S TE [tm 1 0 2]]), (false, [.I .i64 0])]) := timC (by kernel_rfl)
theorem k40_s : FnS Tryz.prog 57 [aQ (qI 1), aM (0, 0, 0, 0, 0, 0, 0, 0), cS TE [tm 1 0 2]] (.t [(false, [.S TE [tm 1 0 2]]), (false, [.I .i64 0])]) := timC (by kernel_rfl)
theorem k42_s : FnS Tryz.prog 57 [aQ (qI 1), aM (0, 0, 0, 0, 0, 0, 0, 0), cS TE [tm 1 0 0]] (.t [(false, [.S TE [tm 1 0 0]]), (false, [.I .i64 0])]) := timC (by kernel_rfl)
theorem k46_s : FnS Tryz.prog 24 [cS TE [], cS TE [tm 1 0 2]] (cS TE [tm 1 0 2]) := addC (by kernel_rfl)
theorem k48_s : FnS Tryz.prog 57 [aQ (qF (-1) 2), aM (0, 0, 0, 0, 0, 0, 0, 0), cS TE [tm (-2) 0 1]] (.t [(false, [.S TE [tm 1 0 1]]), (false, [.I .i64 0])]) := timC (by kernel_rfl)
theorem k50_s : FnS Tryz.prog 22 [cS TE [tm 1 0 2], cS TE [tm 1 0 1]] (.t [(false, [.S TE [tm 1 0 1]]), (false, [.B true])]) := divC (by kernel_rfl)
theorem k52_s : FnS Tryz.prog 57 [aQ (qI 1), aM (0, 0, 0, 0, 0, 0, 0, 0), cS TE [tm 1 0 1]] (.t [(false, [.S TE [tm 1 0 1]]), (false, [.I .i64 0])]) := timC (by kernel_rfl)
theorem k56_s : FnS Tryz.prog 22 [cS TE [tm (-1) 0 2], cS TE [tm 1 0 0]] (.t [(false, [.S TE [tm (-1) 0 2]]), (false, [.B true])]) := divC (by kernel_rfl)
theorem k57_s : FnS Tryz.prog 22 [cS TE [], cS TE [tm 1 0 0]] (.t [(false, [.S TE []]), (false, [.B true])]) := divC (by kernel_rfl)
theorem k58_s : FnS Tryz.prog 22 [cS TE [tm 1 0 0], cS TE [tm 1 0 0]] (.t [(false, [.S TE [tm 1 0 0]]), (false, [.B true])]) := divC (by kernel_rfl)
theorem k60_s : FnS Tryz.prog 22 [cS TE [tm 1 0 2], cS TE [tm 1 0 0]] (.t [(false, [.S TE [tm 1 0 2]]), (false, [.B true])]) := divC (by kernel_rfl)
theorem k61_s : FnS Tryz.prog 22 [cS TE [tm (-2) 0 1], cS TE [tm 1 0 0]] (.t [(false, [.S TE [tm (-2) 0 1]]), (false, [.B true])]) := divC (by kernel_rfl)
theorem k63_s : FnS Tryz.prog 48 [cS TE [tm 1 0 0], cS TE [tm (-1) 0 2]] (.t [(false, [.S TE [tm (-1) 0 2]]), (false, [.I .i64 0])]) := mulC (by kernel_rfl)
theorem k64_s : FnS Tryz.prog 48 [cS TE [tm 1 0 0], cS TE [tm 1 0 2]] (.t [(false, [.S TE [tm 1 0 2]]), (false, [.I .i64 0])]) := mulC (by kernel_rfl)
theorem k65_s : FnS Tryz.prog 26 [cS TE [tm (-1) 0 2], cS TE [tm 1 0 2]] (cS TE [tm (-2) 0 2]) := subC (by kernel_rfl)
theorem k66_s : FnS Tryz.prog 48 [cS TE [tm 1 0 0], cS TE []] (.t [(false, [.S TE []]), (false, [.I .i64 0])]) := mulC (by kernel_rfl)
theorem k67_s : FnS Tryz.prog 48 [cS TE [tm 1 0 0], cS TE [tm (-2) 0 1]] (.t [(false, [.S TE [tm (-2) 0 1]]), (false, [.I .i64 0])]) := mulC (by kernel_rfl)
theorem k68_s : FnS Tryz.prog 26 [cS TE [], cS TE [tm (-2) 0 1]] (cS TE [tm 2 0 1]) := subC (by kernel_rfl)
theorem k70_s : FnS Tryz.prog 24 [cS TE [], cS TE [tm (-2) 0 2]] (cS TE [tm (-2) 0 2]) := addC (by kernel_rfl)
theorem k71_s : FnS Tryz.prog 57 [aQ (qF (-1) 2), aM (0, 0, 0, 0, 0, 0, 0, 0), cS TE [tm (-2) 0 2]] (.t [(false, [.S TE [tm 1 0 2]]), (false, [.I .i64 0])]) := timC (by kernel_rfl)
theorem k74_s : FnS Tryz.prog 57 [aQ (qF 1 2), aM (0, 0, 0, 0, 0, 0, 0, 0), cS TE [tm 2 0 1]] (.t [(false, [.S TE [tm 1 0 1]]), (false, [.I .i64 0])]) := timC (by kernel_rfl)
theorem k78_s : FnS Tryz.prog 22 [cS TE [tm (-2) 0 2], cS TE [tm 1 0 1]] (.t [(false, [.S TE [tm (-2) 0 1]]), (false, [.B true])]) := divC (by kernel_rfl)
theorem k79_s : FnS Tryz.prog 22 [cS TE [tm 2 0 1], cS TE [tm 1 0 1]] (.t [(false, [.S TE [tm 2 0 0]]), (false, [.B true])]) := divC (by kernel_rfl)
theorem k81_s : FnS Tryz.prog 57 [aQ (qI 1), aM (0, 0, 0, 0, 0, 0, 0, 0), cS TE [tm (-2) 0 1]] (.t [(false, [.S TE [tm (-2) 0 1]]), (false, [.I .i64 0])]) := timC (by kernel_rfl)
theorem k82_s : FnS Tryz.prog 24 [cS TE [], cS TE [tm (-2) 0 1]] (cS TE [tm (-2) 0 1]) := addC (by kernel_rfl)
theorem k83_s : FnS Tryz.prog 57 [aQ (qI 1), aM (1, 0, 0, 0, 0, 0, 0, 0), cS TE [tm 2 0 0]] (.t [(false, [.S TE [tm 2 1 0]]), (false, [.I .i64 0])]) := timC (by kernel_rfl)
theorem k84_s : FnS Tryz.prog 24 [cS TE [tm (-2) 0 1], cS TE [tm 2 1 0]] (cS TE [tm 2 1 0, tm (-2) 0 1]) := addC (by kernel_rfl)
theorem k86_s : FnS Tryz.prog 57 [aQ (qF 1 2), aM (0, 0, 0, 0, 0, 0, 0, 0), cS TE [tm 2 1 0, tm (-2) 0 1]] (.t [(false, [.S TE [tm 1 1 0, tm (-1) 0 1]]), (false, [.I .i64 0])]) := timC (by kernel_rfl)
theorem k89_s : FnS Tryz.prog 48 [cS TE [tm 1 0 0], cS TE [tm (-1) 0 1]] (.t [(false, [.S TE [tm (-1) 0 1]]), (false, [.I .i64 0])]) := mulC (by kernel_rfl)
theorem k90_s : FnS Tryz.prog 26 [cS TE [tm (-2) 0 1], cS TE [tm (-1) 0 1]] (cS TE [tm (-1) 0 1]) := subC (by kernel_rfl)
theorem k91_s : FnS Tryz.prog 48 [cS TE [tm (-1) 0 1], cS TE [tm (-1) 0 1]] (.t [(false, [.S TE [tm 1 0 2]]), (false, [.I .i64 0])]) := mulC (by kernel_rfl)
theorem k92_s : FnS Tryz.prog 26 [cS TE [tm 1 0 2], cS TE [tm 1 0 2]] (cS TE []) := subC (by kernel_rfl)
theorem k96_s : FnS Tryz.prog 57 [aQ (qI 1), aM (0, 0, 0, 0, 0, 0, 0, 0), cS TE [tm (-1) 0 1]] (.t [(false, [.S TE [tm (-1) 0 1]]), (false, [.I .i64 0])]) := timC (by kernel_rfl)
theorem k97_s : FnS Tryz.prog 24 [cS TE [], cS TE [tm (-1) 0 1]] (cS TE [tm (-1) 0 1]) := addC (by kernel_rfl)
theorem k98_s : FnS Tryz.prog 57 [aQ (qI 1), aM (1, 0, 0, 0, 0, 0, 0, 0), cS TE [tm 1 0 0]] (.t [(false, [.S TE [tm 1 1 0]]), (false, [.I .i64 0])]) := timC (by kernel_rfl)
theorem k99_s : FnS Tryz.prog 24 [cS TE [tm (-1) 0 1], cS TE [tm 1 1 0]] (cS TE [tm 1 1 0, tm (-1) 0 1]) := addC (by kernel_rfl)
theorem k101_s : FnS Tryz.prog 48 [cS TE [tm 1 0 0], cS TE [tm 1 1 0, tm (-1) 0 1]] (.t [(false, [.S TE [tm 1 1 0, tm (-1) 0 1]]), (false, [.I .i64 0])]) := mulC (by kernel_rfl)
theorem k102_s : FnS Tryz.prog 57 [aQ (qI 1), aM (0, 0, 0, 0, 0, 0, 0, 0), cS TE [tm 1 1 0, tm (-1) 0 1]] (.t [(false, [.S TE [tm 1 1 0, tm (-1) 0 1]]), (false, [.I .i64 0])]) := timC (by kernel_rfl)
theorem k106_s : FnS Tryz.prog 73 [aQ (qI 4), aM (0, 0, 0, 0, 0, 0, 0, 0), cS TE [tm 1 0 1]] (.t [(false, [.S TE [tm 4 0 1]]), (false, [.I .i64 0])]) := rtimC (by kernel_rfl)
theorem k107_s : FnS Tryz.prog 38 [cS TE [], cS TE [tm 4 0 1]] (cS TE [tm 4 0 1]) := raddC (by kernel_rfl)
theorem k109_s : FnS Tryz.prog 48 [cS TE [tm 1 1 0, tm 1 0 1], cS TE [tm 1 1 0, tm 1 0 1]] (.t [(false, [.S TE [tm 1 2 0, tm 2 1 1, tm 1 0 2]]), (false, [.I .i64 0])]) := mulC (by kernel_rfl)
theorem k110_s : FnS Tryz.prog 48 [cS TE [tm 4 0 1], cS TE [tm 1 2 0, tm 2 1 1, tm 1 0 2]] (.t [(false, [.S TE [tm 4 2 1, tm 8 1 2, tm 4 0 3]]), (false, [.I .i64 0])]) := mulC (by kernel_rfl)
theorem k111_s : FnS Tryz.prog 57 [aQ (qF 1 4), aM (0, 0, 0, 0, 0, 0, 0, 0), cS TE [tm 4 2 1, tm 8 1 2, tm 4 0 3]] (.t [(false, [.S TE [tm 1 2 1, tm 2 1 2, tm 1 0 3]]), (false, [.I .i64 0])]) := timC (by kernel_rfl)
theorem k114_s : FnS Tryz.prog 24 [cS TE [], cS TE [tm 1 0 3]] (cS TE [tm 1 0 3]) := addC (by kernel_rfl)
theorem k115_s : FnS Tryz.prog 57 [aQ (qI 1), aM (0, 0, 0, 0, 0, 0, 0, 0), cS TE [tm 1 0 3]] (.t [(false, [.S TE [tm 1 0 3]]), (false, [.I .i64 0])]) := timC (by kernel_rfl)
theorem k118_s : FnS Tryz.prog 57 [aQ (qF 1 2), aM (0, 0, 0, 0, 0, 0, 0, 0), cS TE [tm 2 0 2]] (.t [(false, [.S TE [tm 1 0 2]]), (false, [.I .i64 0])]) := timC (by kernel_rfl)
theorem k120_s : FnS Tryz.prog 22 [cS TE [tm 1 0 3], cS TE [tm 1 0 2]] (.t [(false, [.S TE [tm 1 0 1]]), (false, [.B true])]) := divC (by kernel_rfl)
theorem k125_s : FnS Tryz.prog 24 [cS TE [], cS TE [tm 1 0 0]] (cS TE [tm 1 0 0]) := addC (by kernel_rfl)
theorem k129_s : FnS Tryz.prog 22 [cS TE [tm 1 0 1], cS TE [tm 1 0 0]] (.t [(false, [.S TE [tm 1 0 1]]), (false, [.B true])]) := divC (by kernel_rfl)
theorem k131_s : FnS Tryz.prog 26 [cS TE [tm 1 0 0], cS TE [tm 1 0 0]] (cS TE []) := subC (by kernel_rfl)
theorem k132_s : FnS Tryz.prog 24 [cS TE [tm 1 0 1], cS TE []] (cS TE [tm 1 0 1]) := addC (by kernel_rfl)
theorem k134_s : FnS Tryz.prog 22 [cS TE [tm 1 0 1], cS TE [tm 1 0 1]] (.t [(false, [.S TE [tm 1 0 0]]), (false, [.B true])]) := divC (by kernel_rfl)
theorem k135_s : FnS Tryz.prog 22 [cS TE [], cS TE [tm 1 0 1]] (.t [(false, [.S TE []]), (false, [.B true])]) := divC (by kernel_rfl)
theorem k137_s : FnS Tryz.prog 22 [cS TE [tm 1 2 1, tm 2 1 2, tm 1 0 3], cS TE [tm 1 0 1]] (.t [(false, [.S TE [tm 1 2 0, tm 2 1 1, tm 1 0 2]]), (false, [.B true])]) := divC (by kernel_rfl)
theorem k139_s : FnS Tryz.prog 57 [aQ (qI 1), aM (0, 0, 0, 0, 0, 0, 0, 0), cS TE [tm 1 2 0, tm 2 1 1, tm 1 0 2]] (.t [(false, [.S TE [tm 1 2 0, tm 2 1 1, tm 1 0 2]]), (false, [.I .i64 0])]) := timC (by kernel_rfl)
theorem k141_s : FnS Tryz.prog 57 [aQ (qF 1 2), aM (0, 0, 0, 0, 0, 0, 0, 0), cS TE [tm 2 1 0, tm 2 0 1]] (.t [(false, [.S TE [tm 1 1 0, tm 1 0 1]]), (false, [.I .i64 0])]) := timC (by kernel_rfl)
theorem k143_s : FnS Tryz.prog 22 [cS TE [tm 1 2 0, tm 2 1 1, tm 1 0 2], cS TE [tm 1 1 0, tm 1 0 1]] (.t [(false, [.S TE [tm 1 1 0, tm 1 0 1]]), (false, [.B true])]) := divC (by kernel_rfl)
theorem k145_s : FnS Tryz.prog 22 [cS TE [tm 2 1 0, tm 2 0 1], cS TE [tm 1 1 0, tm 1 0 1]] (.t [(false, [.S TE [tm 2 0 0]]), (false, [.B true])]) := divC (by kernel_rfl)
theorem k147_s : FnS Tryz.prog 26 [cS TE [tm 2 0 0], cS TE [tm 1 0 0]] (cS TE [tm 1 0 0]) := subC (by kernel_rfl)
theorem k148_s : FnS Tryz.prog 57 [aQ (qI 1), aM (0, 0, 0, 0, 0, 0, 0, 0), cS TE [tm 1 1 0, tm 1 0 1]] (.t [(false, [.S TE [tm 1 1 0, tm 1 0 1]]), (false, [.I .i64 0])]) := timC (by kernel_rfl)
theorem k151_s : FnS Tryz.prog 22 [cS TE [tm 1 1 0, tm 1 0 1], cS TE [tm 1 0 0]] (.t [(false, [.S TE [tm 1 1 0, tm 1 0 1]]), (false, [.B true])]) := divC (by kernel_rfl)
theorem k152_s : FnS Tryz.prog 24 [cS TE [tm 1 1 0, tm 1 0 1], cS TE []] (cS TE [tm 1 1 0, tm 1 0 1]) := addC (by kernel_rfl)
theorem k154_s : FnS Tryz.prog 22 [cS TE [tm 1 1 0, tm 1 0 1], cS TE [tm 1 1 0, tm 1 0 1]] (.t [(false, [.S TE [tm 1 0 0]]), (false, [.B true])]) := divC (by kernel_rfl)
theorem k155_s : FnS Tryz.prog 22 [cS TE [], cS TE [tm 1 1 0, tm 1 0 1]] (.t [(false, [.S TE []]), (false, [.B true])]) := divC (by kernel_rfl)
theorem k158_s : FnS Tryz.prog 48 [cS TE [tm 1 1 0], cS TE [tm 1 1 0]] (.t [(false, [.S TE [tm 1 2 0]]), (false, [.I .i64 0])]) := mulC (by kernel_rfl)
theorem k159_s : FnS Tryz.prog 48 [cS TE [tm 1 0 1], cS TE [tm 1 0 1]] (.t [(false, [.S TE [tm 1 0 2]]), (false, [.I .i64 0])]) := mulC (by kernel_rfl)
theorem k160_s : FnS Tryz.prog 38 [cS TE [tm 1 0 0], cS TE []] (cS TE [tm 1 0 0]) := raddC (by kernel_rfl)
theorem k162_s : FnS Tryz.prog 26 [cS TE [tm 1 0 2], cS TE [tm 1 0 0]] (cS TE [tm 1 0 2, tm (-1) 0 0]) := subC (by kernel_rfl)
theorem k163_s : FnS Tryz.prog 24 [cS TE [tm 1 2 0], cS TE [tm 1 0 2, tm (-1) 0 0]] (cS TE [tm 1 2 0, tm 1 0 2, tm (-1) 0 0]) := addC (by kernel_rfl)
theorem k165_s : FnS Tryz.prog 48 [cS TE [tm 1 0 0], cS TE [tm 1 0 2, tm (-1) 0 0]] (.t [(false, [.S TE [tm 1 0 2, tm (-1) 0 0]]), (false, [.I .i64 0])]) := mulC (by kernel_rfl)
theorem k166_s : FnS Tryz.prog 26 [cS TE [], cS TE [tm (-1) 0 1]] (cS TE [tm 1 0 1]) := subC (by kernel_rfl)
theorem k167_s : FnS Tryz.prog 48 [cS TE [tm 1 0 1], cS TE [tm (-1) 0 1]] (.t [(false, [.S TE [tm (-1) 0 2]]), (false, [.I .i64 0])]) := mulC (by kernel_rfl)
theorem k168_s : FnS Tryz.prog 26 [cS TE [tm 1 0 2, tm (-1) 0 0], cS TE [tm (-1) 0 2]] (cS TE [tm 2 0 2, tm (-1) 0 0]) := subC (by kernel_rfl)
theorem k170_s : FnS Tryz.prog 48 [cS TE [tm 1 0 0], cS TE [tm 1 0 0]] (.t [(false, [.S TE [tm 1 0 0]]), (false, [.I .i64 0])]) := mulC (by kernel_rfl)
theorem k172_s : FnS Tryz.prog 22 [cS TE [tm 2 0 2, tm (-1) 0 0], cS TE [tm 1 0 0]] (.t [(false, [.S TE [tm 2 0 2, tm (-1) 0 0]]), (false, [.B true])]) := divC (by kernel_rfl)
theorem k176_s : FnS Tryz.prog 48 [cS TE [tm 1 0 0], cS TE [tm 2 0 2, tm (-1) 0 0]] (.t [(false, [.S TE [tm 2 0 2, tm (-1) 0 0]]), (false, [.I .i64 0])]) := mulC (by kernel_rfl)
theorem k181_s : FnS Tryz.prog 48 [cS TE [tm 1 1 0], cS TE [tm 1 0 1]] (.t [(false, [.S TE [tm 1 1 1]]), (false, [.I .i64 0])]) := mulC (by kernel_rfl)
theorem k182_s : FnS Tryz.prog 24 [cS TE [tm 1 1 1], cS TE [tm 1 0 0]] (cS TE [tm 1 1 1, tm 1 0 0]) := addC (by kernel_rfl)
theorem k183_s : FnS Tryz.prog 24 [cS TE [tm 1 2 0], cS TE [tm 1 1 1, tm 1 0 0]] (cS TE [tm 1 2 0, tm 1 1 1, tm 1 0 0]) := addC (by kernel_rfl)
theorem k187_s : FnS Tryz.prog 48 [cS TE [tm 2 0 0], cS TE [tm 1 0 0]] (.t [(false, [.S TE [tm 2 0 0]]), (false, [.I .i64 0])]) := mulC (by kernel_rfl)
theorem k188_s : FnS Tryz.prog 48 [cS TE [tm 2 0 0], cS TE [tm 1 0 1]] (.t [(false, [.S TE [tm 2 0 1]]), (false, [.I .i64 0])]) := mulC (by kernel_rfl)
theorem k189_s : FnS Tryz.prog 48 [cS TE [tm 1 0 0], cS TE [tm 1 0 1]] (.t [(false, [.S TE [tm 1 0 1]]), (false, [.I .i64 0])]) := mulC (by kernel_rfl)
theorem k190_s : FnS Tryz.prog 26 [cS TE [tm 2 0 1], cS TE [tm 1 0 1]] (cS TE [tm 1 0 1]) := subC (by kernel_rfl)
theorem k191_s : FnS Tryz.prog 48 [cS TE [tm 2 0 0], cS TE [tm 2 0 0]] (.t [(false, [.S TE [tm 4 0 0]]), (false, [.I .i64 0])]) := mulC (by kernel_rfl)
theorem k192_s : FnS Tryz.prog 26 [cS TE [tm 4 0 0], cS TE [tm 1 0 2]] (cS TE [tm (-1) 0 2, tm 4 0 0]) := subC (by kernel_rfl)
theorem k194_s : FnS Tryz.prog 22 [cS TE [tm (-1) 0 2, tm 4 0 0], cS TE [tm 1 0 0]] (.t [(false, [.S TE [tm (-1) 0 2, tm 4 0 0]]), (false, [.B true])]) := divC (by kernel_rfl)
theorem k196_s : FnS Tryz.prog 48 [cS TE [tm 1 0 0], cS TE [tm 2 0 0]] (.t [(false, [.S TE [tm 2 0 0]]), (false, [.I .i64 0])]) := mulC (by kernel_rfl)
theorem k198_s : FnS Tryz.prog 22 [cS TE [tm 2 0 0], cS TE [tm 1 0 0]] (.t [(false, [.S TE [tm 2 0 0]]), (false, [.B true])]) := divC (by kernel_rfl)
theorem k200_s : FnS Tryz.prog 48 [cS TE [tm 1 0 0], cS TE [tm (-1) 0 2, tm 4 0 0]] (.t [(false, [.S TE [tm (-1) 0 2, tm 4 0 0]]), (false, [.I .i64 0])]) := mulC (by kernel_rfl)
theorem k205_s : FnS Tryz.prog 26 [cS TE [], cS TE [tm (-1) 0 2, tm 4 0 0]] (cS TE [tm 1 0 2, tm (-4) 0 0]) := subC (by kernel_rfl)
theorem k209_s : FnS Tryz.prog 20 [cS TE [tm 1 1 0, tm 1 0 1], cS TE [tm 1 1 0, tm 1 0 1]] (cB true) := sameC (by kernel_rfl)
theorem k210_s : FnS Tryz.prog 20 [cS TE [tm 1 1 0, tm (-1) 0 1], cS TE [tm 1 1 0, tm (-1) 0 1]] (cB true) := sameC (by kernel_rfl)
theorem k211_s : FnS Tryz.prog 48 [cS TE [tm 1 0 2], cS TE [tm 2 0 0]] (.t [(false, [.S TE [tm 2 0 2]]), (false, [.I .i64 0])]) := mulC (by kernel_rfl)
theorem k212_s : FnS Tryz.prog 73 [aQ (qI (-1)), aM (0, 0, 0, 0, 0, 0, 0, 0), cS TE [tm 1 0 0]] (.t [(false, [.S TE [tm (-1) 0 0]]), (false, [.I .i64 0])]) := rtimC (by kernel_rfl)
theorem k214_s : FnS Tryz.prog 38 [cS TE [tm 2 0 2], cS TE [tm (-1) 0 0]] (cS TE [tm 2 0 2, tm (-1) 0 0]) := raddC (by kernel_rfl)
theorem k216_s : FnS Tryz.prog 20 [cS TE [tm 2 0 2, tm (-1) 0 0], cS TE [tm 2 0 2, tm (-1) 0 0]] (cB true) := sameC (by kernel_rfl)
theorem k217_s : FnS Tryz.prog 38 [cS TE [tm 4 0 0], cS TE []] (cS TE [tm 4 0 0]) := raddC (by kernel_rfl)
theorem k219_s : FnS Tryz.prog 73 [aQ (qI (-1)), aM (0, 0, 0, 0, 0, 0, 0, 0), cS TE [tm 4 0 0]] (.t [(false, [.S TE [tm (-4) 0 0]]), (false, [.I .i64 0])]) := rtimC (by kernel_rfl)
theorem k221_s : FnS Tryz.prog 38 [cS TE [tm 1 0 2], cS TE [tm (-4) 0 0]] (cS TE [tm 1 0 2, tm (-4) 0 0]) := raddC (by kernel_rfl)
theorem k223_s : FnS Tryz.prog 20 [cS TE [tm 1 0 2, tm (-4) 0 0], cS TE [tm 1 0 2, tm (-4) 0 0]] (cB true) := sameC (by kernel_rfl)
theorem k224_s : FnS Tryz.prog 20 [cS TE [tm 1 0 1], cS TE [tm 1 0 1]] (cB true) := sameC (by kernel_rfl)
theorem k225_s : FnS Tryz.prog 73 [aQ (qI (-4)), aM (0, 0, 0, 0, 0, 0, 0, 0), cS TE [tm 1 1 0]] (.t [(false, [.S TE [tm (-4) 1 0]]), (false, [.I .i64 0])]) := rtimC (by kernel_rfl)
theorem k226_s : FnS Tryz.prog 38 [cS TE [tm (-4) 1 0], cS TE []] (cS TE [tm (-4) 1 0]) := raddC (by kernel_rfl)
theorem k227_s : FnS Tryz.prog 38 [cS TE [tm 6 0 0], cS TE [tm (-4) 1 0]] (cS TE [tm (-4) 1 0, tm 6 0 0]) := raddC (by kernel_rfl)
theorem k229_s : FnS Tryz.prog 57 [aQ (qF (-1) 2), aM (0, 0, 0, 0, 0, 0, 0, 0), cS TE [tm (-4) 1 0, tm 6 0 0]] (.t [(false, [.S TE [tm 2 1 0, tm (-3) 0 0]]), (false, [.I .i64 0])]) := timC (by kernel_rfl)
theorem k231_s : FnS Tryz.prog 73 [aQ (qI 2), aM (0, 0, 0, 0, 0, 0, 0, 0), cS TE [tm 1 1 0]] (.t [(false, [.S TE [tm 2 1 0]]), (false, [.I .i64 0])]) := rtimC (by kernel_rfl)
theorem k232_s : FnS Tryz.prog 38 [cS TE [tm 2 1 0], cS TE []] (cS TE [tm 2 1 0]) := raddC (by kernel_rfl)
theorem k233_s : FnS Tryz.prog 38 [cS TE [tm (-3) 0 0], cS TE [tm 2 1 0]] (cS TE [tm 2 1 0, tm (-3) 0 0]) := raddC (by kernel_rfl)
theorem k235_s : FnS Tryz.prog 20 [cS TE [tm 2 1 0, tm (-3) 0 0], cS TE [tm 2 1 0, tm (-3) 0 0]] (cB true) := sameC (by kernel_rfl)
end Go.El
