/- The law: division undoes multiplication. Own work; no condition. -/
import Derived.Test.YtjioamjlebpppaaGreatG10
import Derived.Test.YtjioamjlebpppaaGreatGD6
set_option linter.unusedVariables false
set_option linter.unusedSimpArgs false
set_option linter.unnecessarySimpa false
namespace Go.El
open Go Go.RowKit Go.Proofs
theorem sm_pos {p : List TE.den} (h : p ≠ []) : decide ((p.length : Int) > 0) = true := decide_eq_true (by
 cases p with
 | nil => exact absurd rfl h
 | cons x p => show ((p.length + 1 : Nat) : Int) > 0; omega)
theorem same_t {p : List TE.den} {w : Nat} (lp : p.length ≤ 1000) (hp : SzT 65535 w p) (hw : w ≤ 100000000000) : FnS Tryz.prog 20 [cS TE p, cS TE p] (cB true) := by
 have h := rSame6_s (p := p) (q := p) (w := w) (by omega) hp hp hw
 rwa [show eqT p p = true from eqT_iff.2 rfl] at h
set_option maxRecDepth 100000 in
set_option maxHeartbeats 32000000 in
theorem mgcdDivision_s (l0 l1 l2 : List R5.den) (h0 : ∀ x ∈ l0, R5k x) (h1 : ∀ x ∈ l1, R5k x) (h2 : ∀ x ∈ l2, R5k x) :
  FnS Tryz.prog 5 [.a [.S R5 l0, .S R5 l1, .S R5 l2]] (cB true) := by
 have m0 := made_s l0 h0
 have m1 := made_s l1 h1
 have m2 := made_s l2 h2
 have ha := nL_sm l0 (Nat.min_le_right l0.length 3)
 have hb := nL_sm l1 (Nat.min_le_right l1.length 3)
 have hc := nL_sm l2 (Nat.min_le_right l2.length 3)
 have la : (nL l0 (min l0.length 3)).length ≤ 3 := Nat.le_trans (nL_len _ _) (Nat.min_le_right _ _)
 have lb : (nL l1 (min l1.length 3)).length ≤ 3 := Nat.le_trans (nL_len _ _) (Nat.min_le_right _ _)
 have lc : (nL l2 (min l2.length 3)).length ≤ 3 := Nat.le_trans (nL_len _ _) (Nat.min_le_right _ _)
 generalize nL l0 (min l0.length 3) = a at *
 generalize nL l1 (min l1.length 3) = b at *
 generalize nL l2 (min l2.length 3) = c at *
 have za := ha.sz (by decide) (by decide) (by decide)
 have zb := hb.sz (by decide) (by decide) (by decide)
 have zc := hc.sz (by decide) (by decide) (by decide)
 have hP := sm9_mul ha hb lb
 have zP := hP.sz (by decide) (by decide) (by decide)
 have hPl : (mulT a b).length ≤ 9 := Nat.le_trans (mulT_len (ha.bm (by decide) (by decide)) (hb.bm (by decide) (by decide))) (Nat.mul_le_mul la lb)
 have hS := sm9_add hP hc
 have zS := hS.sz (by decide) (by decide) (by decide)
 have hSl : (aT6 (mulT a b) c).length ≤ 12 := Nat.le_trans aE6_len (by omega)
 have hmul := lmul_s (pMulD_s (p := a) (q := b) (D := 1) (M := 9 * 9) (w := 1) za zb (by decide) (by omega) (by omega) (fun x hx y hy => by
  have := (ha.co hx).mul (hb.co hy)
  rwa [Int.one_mul] at this) (by decide) (by decide) (by decide) (by omega))
 have hadd := pAdd_s (p := mulT a b) (q := c) (w := 1) (by omega) (by omega) (fun x hx => ⟨(zP x hx).1.le (by decide), (zP x hx).2⟩) (fun x hx => ⟨(zc x hx).1.le (by decide), (zc x hx).2⟩) (by decide)
 have sa := same_t (p := a) (w := 1) (by omega) (fun x hx => ⟨(za x hx).1.le (by decide), (za x hx).2⟩) (by decide)
 have sS := same_t (p := aT6 (mulT a b) c) (w := 1) (by omega) (fun x hx => ⟨(zS x hx).1.le (by decide), (zS x hx).2⟩) (by decide)
 refine fsI Tryz.func5 ?_
 refine rr rfl (rb (rc rfl rfl k236_s (re rfl ?_)))
 refine tr_seq (rr rfl (tr_cond rfl (fun h => by cases h) (fun _ => skT ?_)))
 refine rb (rc rfl rfl m0 (rc rfl rfl m1 (rc rfl rfl m2 (re rfl ?_))))
 refine rb (rc rfl rfl hmul (re rfl ?_))
 by_cases b0 : b = []
 ·subst b0
  refine rb (rc rfl rfl (pDivide_0 _) (re rfl ?_))
  refine tr_seq (rb (rg 41 rfl rfl (fun h => by cases h) (fun _ => ?_)))
  refine rg 43 rfl rfl (fun h => by cases h) (fun _ => ?_)
  refine rg 50 rfl rfl (fun h => by cases h) (fun _ => ?_)
  refine rg 53 rfl rfl (fun _ => ?_) (fun h => by cases h)
  refine re rfl (tr_cond rfl (fun h => by cases h) (fun _ => skT ?_))
  refine rb (rc rfl rfl hadd (re rfl ?_))
  refine rb (rc rfl rfl (pDivide_0 _) (re rfl ?_))
  refine tr_seq (rb (rg 69 rfl rfl (fun h => by cases h) (fun _ => ?_)))
  refine rg 77 rfl rfl (fun h => by cases h) (fun _ => ?_)
  refine rg 80 rfl rfl (fun _ => ?_) (fun h => by cases h)
  refine re rfl (tr_cond rfl (fun h => by cases h) (fun _ => skT ?_))
  refine rb (rc rfl rfl (pDivide_0 _) (re rfl ?_))
  refine rb (rg 95 rfl rfl (fun _ => ?_) (fun h => by cases h))
  refine rg 98 rfl rfl (fun _ => ?_) (fun h => by cases h)
  refine rg 106 rfl rfl (fun _ => ?_) (fun h => by cases h)
  refine re rfl ?_
  exact rtR rfl
 ·obtain ⟨d1, hd⟩ := div_law ha hb hc la lb lc b0
  have hbp := sm_pos b0
  refine rb (rc rfl rfl d1 (re rfl ?_))
  refine tr_seq (rb (rg 41 rfl rfl (fun h => ?_) (fun _ => ?_)))
  ·have h : (true != decide ((b.length : Int) > 0)) = true := h
   rw [hbp] at h; cases h
  refine rg 43 rfl rfl (fun _ => ?_) (fun h => by cases h)
  refine rcg rfl rfl rfl rfl rfl sa ?_
  refine rg 50 rfl rfl (fun h => by cases h) (fun _ => ?_)
  refine rg 53 rfl rfl (fun h => by cases h) (fun _ => ?_)
  refine re rfl (tr_cond rfl (fun h => by cases h) (fun _ => skT ?_))
  refine rb (rc rfl rfl hadd (re rfl ?_))
  rcases hd with ⟨d2, d3⟩ | ⟨s, d2, d3, hm, hs, ls, zs⟩
  ·refine rb (rc rfl rfl d2 (re rfl ?_))
   refine tr_seq (rb (rg 69 rfl rfl (fun h => by cases h) (fun _ => ?_)))
   refine rg 77 rfl rfl (fun h => by cases h) (fun _ => ?_)
   refine rg 80 rfl rfl (fun _ => ?_) (fun h => by cases h)
   refine re rfl (tr_cond rfl (fun h => by cases h) (fun _ => skT ?_))
   refine rb (rc rfl rfl d3 (re rfl ?_))
   refine rb (rg 95 rfl rfl (fun _ => ?_) (fun h => by cases h))
   refine rg 98 rfl rfl (fun _ => ?_) (fun h => by cases h)
   refine rg 106 rfl rfl (fun _ => ?_) (fun h => by cases h)
   refine re rfl ?_
   exact rtR rfl
  ·have ss := same_t (p := aT6 a s) (w := 20) (by omega) zs (by decide)
   refine rb (rc rfl rfl d2 (re rfl ?_))
   refine tr_seq (rb (rg 69 rfl rfl (fun _ => ?_) (fun h => by cases h)))
   refine rcg rfl rfl rfl rfl rfl hm (rcg rfl rfl rfl rfl rfl sS ?_)
   refine rg 77 rfl rfl (fun h => by cases h) (fun _ => ?_)
   refine rg 80 rfl rfl (fun h => by cases h) (fun _ => ?_)
   refine re rfl (tr_cond rfl (fun h => by cases h) (fun _ => skT ?_))
   refine rb (rc rfl rfl d3 (re rfl ?_))
   refine rb (rg 95 rfl rfl (fun _ => ?_) (fun h => by cases h))
   refine rg 98 rfl rfl (fun h => by cases h) (fun _ => ?_)
   refine rcg rfl rfl rfl rfl rfl hs (rcg rfl rfl rfl rfl rfl ss ?_)
   refine rg 106 rfl rfl (fun _ => ?_) (fun h => by cases h)
   refine re rfl ?_
   exact rtR rfl
end Go.El
