/- The law FactorLifts returns true. Own work; no condition. -/
import Derived.Test.YtkkccchkmcjcpaaGreatL10
import Derived.Test.YtkkccchkmcjcpaaGreatLW31
set_option linter.unusedVariables false
set_option linter.unusedSimpArgs false
namespace Go.El
open Go Go.RowKit Go.Proofs
theorem prI_congr {F G : Nat → List Int} : ∀ n, (∀ i, i < n → F i = G i) → prI F n = prI G n
 | 0, _ => rfl
 | n + 1, h => by rw [prI, prI, prI_congr n fun i hi => h i (by omega), h n (by omega)]
set_option maxHeartbeats 8000000 in
theorem factorLifts_s (d : List Int) (hd : ∀ x ∈ d, -128 ≤ x ∧ x ≤ 127) (n : Nat) (hn : n < 4294967296) (e : Nat) (he : e < 256) : FnS Tryz.prog 5 [cS I8 d, cW n, .c (.I .u8 e)] (cB true) := by
 obtain ⟨p, hp, hpm, hlf⟩ := lifts_s d hd n hn
 have h2 := hp.1
 have hI := LsI.next hp hpm (d := d) (min 5 (d.length / 2)) (by omega)
 have hm5 : min 5 (d.length / 2) ≤ 5 := by omega
 generalize min 5 (d.length / 2) = m at *
 generalize liS p d m = S at *
 obtain ⟨Ls, Q, F⟩ := S
 have hLs : Ls.length ≤ m := hI.n
 have hFl : F.length ≤ 2 * m + 1 := hI.Fl2
 have hFB : ∀ j, SmB (2 * m + 1) (F.getD j 0) := hI.FB
 obtain ⟨k, hk⟩ : ∃ k, k = 1 + e % 9 := ⟨_, rfl⟩
 obtain ⟨kl, hkl⟩ : ∃ kl, kl = 1 + k / 2 := ⟨_, rfl⟩
 have B1 := liB_of hp hpm hm5 hI e he (k := k) (by omega) (by omega)
 have B2 := liB_of hp hpm hm5 hI e he (k := kl) (by omega) (by omega)
 have hH := heH_of hp hI e k 15 B1
 have hL1 := Lift_s B1
 have hL2 := Lift_s B2
 have hem : (e : Int).tmod 9 = ((e % 9 : Nat) : Int) := tmod_nat e 9
 have hem1 : 0 ≤ (e : Int).tmod 9 ∧ (e : Int).tmod 9 ≤ 8 := by rw [hem]; omega
 have hek : (1 : Int) + (e : Int).tmod 9 = (k : Int) := by rw [hem, hk]; omega
 refine fs_intro Tryz.func5 rfl rfl rfl rfl rfl (by decide) ?_
 refine rr rfl (rb (rc rfl rfl sanity_s (re rfl (tr_seq (rr rfl (tr_cond rfl (fun h => by cases h) (fun _ => tr_skip (at_then ?_))))))))
 refine rb (rc rfl rfl hlf (re rfl (rr rfl (rb (rlv .z [] rfl rfl (ra rfl rfl rfl rfl rfl rfl rfl rfl rfl ?_ ?_ (re rfl ?_)))))))
 ·show (0 + F.length + (0 + F.length) / 4 + 192) * 32 ≤ _; omega
 ·show (0 + F.length) * 2 ≤ _; omega
 refine tr_mid1 ⟨[(7, cB true), (8, .c (.P 3003000 0)), (9, cI k), (10, .c (.X 5003000))], [(3003000, .box 69 0 [.S .z F, .S (.sl U64) Ls, .I .u64 p]), (5003000, .vec 44 .z (liA p F e))], 8, []⟩ ?_ (fun mid => rr rfl (tr_cond rfl (fun h3 => ?_) (fun h3 => ?_)))
 ·refine tr_frz 5003000 rfl rfl rfl ?_
  generalize hA : liA p F e = a at *
  have eq2 : (1 : Int) + (k : Int).tdiv 2 = (kl : Int) := by rw [show (k : Int).tdiv 2 = ((k / 2 : Nat) : Int) from (Int.ofNat_tdiv k 2).symm, hkl]; omega
  have hq2 : 0 ≤ (k : Int).tdiv 2 ∧ (k : Int).tdiv 2 ≤ 100 := by omega
  rw [← eq2] at hL2
  have hH1 : ∀ q, (liftL p a (fun i => Ls.getD i []) Ls.length q).length = Ls.length := fun q => by simp [liftL]
  have hHg : ∀ q i, i < Ls.length → (liftL p a (fun i => Ls.getD i []) Ls.length q).getD i [] = (liftS p a (fun i => Ls.getD i []) Ls.length (q - 1) i).map (nearZ · ((p : Int) ^ q)) := fun q i hi => getDm _ _ hi
  generalize hHI : liftL p a (fun i => Ls.getD i []) Ls.length k = HI at *
  generalize hLO : liftL p a (fun i => Ls.getD i []) Ls.length kl = LO at *
  have hHl : HI.length = Ls.length := by rw [← hHI]; exact hH1 k
  have hLl : LO.length = Ls.length := by rw [← hLO]; exact hH1 kl
  refine rb (rc rfl rfl hL1 (re rfl (rb (rc rfl rfl hL2 (re rfl ?_)))))
  refine tr_seq (rb (rg 74 rfl rfl (fun h => by cases h) (fun _ => rg 78 rfl rfl (fun h => by cases h) (fun _ => rg 86 rfl rfl (fun h => ?_) (fun _ => re rfl (tr_cond rfl (fun h => ?_) (fun _ => tr_skip (at_then ?_))))))))
  ·exfalso
   have h : ((HI.length : Int) != (Ls.length : Int)) = true := h
   exact bne_z h (by rw [hHl])
  ·exfalso
   have h : ((LO.length : Int) != (Ls.length : Int)) = true := h
   exact bne_z h (by rw [hLl])
  have hgen : ∀ i, i < Ls.length → mon (HI.getD i []) ∧ (HI.getD i []).length = (Ls.getD i []).length ∧ ∀ t, SmB (k + 1) ((HI.getD i []).getD t 0) := fun i hi => by
   obtain ⟨l1, l2⟩ := hH.one (k - 1) hi
   have g0 := hHg k i hi
   rw [hHI] at g0
   have hk1 : k - 1 + 1 = k := by omega
   have hm1 : (1 : Int) < (p : Int) ^ k := by have := hH.pw (k - 1); rwa [hk1] at this
   refine ⟨by rw [g0]; exact mon_near hm1 l2, by rw [g0, List.length_map, l1], fun t => ?_⟩
   rw [g0, near_get _ (by omega)]
   exact nearZ_B (by omega) (powp_B (by omega) k)
  have hpl : ∀ i, i ≤ Ls.length → (prI (fun i => HI.getD i []) i).length ≤ 400 := fun i hi => by
   rw [prI_len (G := fun i => Ls.getD i []) (m := p) i fun q hq => (hgen q (by omega)).2.1]
   have h5 := prL_le (F := fun i => Ls.getD i []) (m := p) (Ls.length - i) i fun q hq => by have := B1.A.H.l2 q (by omega); omega
   rw [show i + (Ls.length - i) = Ls.length by omega, ← B1.A.hpl] at h5
   have := B1.A.la
   omega
  have hpB : ∀ i, i ≤ Ls.length → ∀ t, SmB (100 * i + 100) ((prI (fun i => HI.getD i []) i).getD t 0) := fun i hi t => by
   refine (prI_B (F := fun i => HI.getD i []) (u := k + 1) i (fun q hq => ⟨(hgen q (by omega)).2.2, by have := hpl q (by omega); omega, by have := (hgen q (by omega)).2.1; have := B1.A.H.l100 q (by omega); omega⟩) t).le ?_
   have := Nat.mul_le_mul_left i (show k + 1 + 1 ≤ 100 by omega)
   omega
  have hP1 := rPower_s p k (by omega) (by omega)
  have hP2 := rPower_s p kl (by omega) (by omega)
  rw [← eq2] at hP2
  have hin : FnS Tryz.prog 40 [cS U64 [1]] (cS .z [1]) := rInts_s [1] (by decide) (fun i => by
   cases i with
   | zero => exact ⟨by show (0 : Int) ≤ 1; decide, by show (1 : Int) < 4294967296; decide⟩
   | succ i => exact ⟨Int.le_refl _, by show (0 : Int) < 4294967296; decide⟩)
  refine rb (rc rfl rfl hP1 (re rfl (rb (rc rfl rfl hP2 (re rfl (rb (rl U64 [1] rfl rfl (rc rfl rfl hin (re rfl ?_)))))))))
  refine tr_seq (rr rfl (tr_block (tr_loop (α := Nat) (fun j => ⟨[(7, cB true), (8, .c (.P 3003000 0)), (9, cI k), (10, cS .z a), (11, cS (.sl .z) HI), (13, cS (.sl .z) LO), (15, .c (.P 11004000 0)), (16, .c (.P 12006000 0)), (17, cS .z (prI (fun i => HI.getD i []) j)), (18, cI j)], [(3003000, .box 69 0 [.S .z F, .S (.sl U64) Ls, .I .u64 p]), (11004000, .box 44 0 (av .z ((p : Int) ^ k))), (12006000, .box 44 0 (av .z ((p : Int) ^ kl)))], 15, []⟩) (fun j => j ≤ Ls.length) (fun j => Ls.length - j) 0 (Nat.zero_le _) (wk ⟨sR rfl, sR rfl, sR rfl, sR rfl, sR rfl, sR rfl, sR rfl, sR rfl, sR rfl, sR rfl, trivial⟩ ⟨bR rfl, bR rfl, bR rfl, trivial⟩) ?_)))
  intro j hj
  refine tr_seq (rr rfl (tr_cond rfl (fun h => tr_skip (at_then ?_)) (fun h => ?_)))
  ·have hjr : j < Ls.length := by
    have h : (j : Int) < (HI.length : Int) := of_decide_eq_true h
    omega
   obtain ⟨l1, l2⟩ := hH.one (k - 1) hjr
   have l3 := B1.A.H.l100 j hjr
   have l4 := B1.A.H.l2 j hjr
   have g0 := hHg k j hjr
   have g1 := hHg kl j hjr
   rw [hHI] at g0
   rw [hLO] at g1
   have hk1 : k - 1 + 1 = k := by omega
   have n1 := hH.near (k - 1) hjr
   have n2 := hH.image (k - 1) hjr
   rw [hk1, ← g0] at n1
   rw [hk1, ← g0] at n2
   have hm1 : (1 : Int) < (p : Int) ^ k := by have := hH.pw (k - 1); rwa [hk1] at this
   have hqm : mon (HI.getD j []) := by rw [g0]; exact mon_near hm1 l2
   have hql : (HI.getD j []).length = (Ls.getD j []).length := by rw [g0, List.length_map, l1]
   have hqB : ∀ t, SmB (k + 1) ((HI.getD j []).getD t 0) := fun t => by
    rw [g0, near_get _ (by omega)]
    exact nearZ_B (by omega) (powp_B (by omega) k)
   have en : ((j : Int)).toNat = j := Int.toNat_natCast j
   have hx1 : (HI.getD ((j : Int)).toNat (ET.dflt (.sl .z))) = HI.getD j [] := congrArg (fun z => HI.getD z []) en
   have hx2 : (Ls.getD ((j : Int)).toNat (ET.dflt (.sl U64))) = Ls.getD j [] := congrArg (fun z => Ls.getD z []) en
   have hx3 : (LO.getD ((j : Int)).toNat (ET.dflt (.sl .z))) = LO.getD j [] := congrArg (fun z => LO.getD z []) en
   have y1 : (HI.getD ((j : Int)).toNat (ET.dflt (.sl .z))).length = (Ls.getD j []).length := by rw [hx1, hql]
   have c1 : FnS Tryz.prog 41 [cS .z (HI.getD ((j : Int)).toNat (ET.dflt (.sl .z))), aZ ((p : Int) ^ k)] (cS .z (HI.getD j [])) := by
    rw [hx1]
    have := rNear_s (HI.getD j []) ((p : Int) ^ k) (k + 1) (by omega) (by omega) (by omega) hqB (powp_B (by omega) k)
    rwa [n1] at this
   have c2 : FnS Tryz.prog 31 [cS .z (HI.getD ((j : Int)).toNat (ET.dflt (.sl .z))), cS .z (HI.getD j [])] (cB true) := by
    rw [hx1]
    have := rSameInts_s (HI.getD j []) (HI.getD j []) (by omega) (fun t => (hqB t).sm (by omega))
    rwa [decide_eq_true rfl] at this
   have c3 : FnS Tryz.prog 42 [.a (av .z ((HI.getD ((j : Int)).toNat (ET.dflt (.sl .z))).getD (((HI.getD ((j : Int)).toNat (ET.dflt (.sl .z))).length : Int) - 1).toNat 0)), aZ 1] (cI 0) := by
    rw [hx1, show ((((HI.getD j []).length : Nat) : Int) - 1).toNat = (HI.getD j []).length - 1 by omega, hqm.2]
    exact rCmp_s 1 1
   have c4 : FnS Tryz.prog 28 [cS .z (HI.getD ((j : Int)).toNat (ET.dflt (.sl .z))), cU p] (cS U64 (Ls.getD j [])) := by
    rw [hx1]
    have := rImage_s (HI.getD j []) p (by omega) h2 (by omega) (fun t => (hqB t).sm (by omega))
    rwa [n2] at this
   have c5 : FnS Tryz.prog 13 [cS U64 (Ls.getD j []), cS U64 (Ls.getD ((j : Int)).toNat (ET.dflt (.sl U64)))] (cB true) := by
    rw [hx2]
    have := rSame9_s (Ls.getD j []) (Ls.getD j []) (by omega)
    rwa [decide_eq_true rfl] at this
   have hpm2 : mon (prI (fun i => HI.getD i []) j) := prI_mon j fun i hi => by
    show mon (HI.getD i [])
    have g0' := hHg k i (by omega)
    rw [hHI] at g0'
    rw [g0']; exact mon_near hm1 (hH.one (k - 1) (by omega)).2
   have c7 : FnS Tryz.prog 43 [cS .z (prI (fun i => HI.getD i []) j), cS .z (HI.getD ((j : Int)).toNat (ET.dflt (.sl .z)))] (cS .z (prI (fun i => HI.getD i []) (j + 1))) := by
    rw [hx1]
    have := rImulB_s (prI (fun i => HI.getD i []) j) (HI.getD j []) (100 * j + 100) (k + 1) (by have := hpl j hj; omega) (by omega) (by omega) (hpB j hj) hqB
    rwa [(hpm2.imul hqm).trim] at this
   refine tr_seq (tr_block (tr_seq (rb (rg 124 rfl rfl (fun h => ?_) (fun _ => ?_)))))
   ·exfalso
    have h : (((HI.getD ((j : Int)).toNat (ET.dflt (.sl .z))).length : Int) != ((Ls.getD ((j : Int)).toNat (ET.dflt (.sl U64))).length : Int)) = true := h
    exact bne_z h (by rw [y1, hx2])
   refine rcg rfl rfl rfl rfl rfl c1 (rcg rfl rfl rfl rfl rfl c2 (rg 138 rfl rfl (fun h => by cases h) (fun _ => ?_)))
   refine rcg rfl rfl rfl rfl rfl (rOf_s 1 (by decide) (by decide)) (rcg rfl rfl rfl rfl rfl c3 (rg 155 rfl rfl (fun h => by cases h) (fun _ => ?_)))
   refine rcg rfl rfl rfl rfl rfl c4 (rcg rfl rfl rfl rfl rfl c5 (re rfl (tr_cond rfl (fun h => by cases h) (fun _ => tr_skip (at_then ?_)))))
   refine tr_seq (rb (rg 176 rfl rfl (fun h => ?_) (fun _ => re rfl (tr_cond rfl (fun h => by cases h) (fun _ => tr_skip (at_then (rbt (rc rfl rfl c7 (re rfl (at_block (at_then (rt rfl (at_loop (j + 1) hjr (by show Ls.length - (j + 1) < Ls.length - j; omega) (wk ⟨sR rfl, sR rfl, sR rfl, sR rfl, sR rfl, sR rfl, sR rfl, sR rfl, sR rfl, sR rfl, trivial⟩ ⟨bR rfl, bR rfl, bR rfl, trivial⟩))))))))))))))
   have hle : (1 : Int) + (k : Int).tdiv 2 ≤ (k : Int) := of_decide_eq_true h
   have hlk : kl ≤ k := by omega
   have n3 := hH.lower (kl - 1) (k - kl) hjr
   rw [show kl - 1 + (k - kl) = k - 1 by omega, hk1, show kl - 1 + 1 = kl by omega, ← g0, ← g1] at n3
   have hPl0 : (0 : Int) < (p : Int) ^ kl := Int.pow_pos (by omega)
   have c6 : FnS Tryz.prog 41 [cS .z (HI.getD ((j : Int)).toNat (ET.dflt (.sl .z))), aZ ((p : Int) ^ kl)] (cS .z (LO.getD j [])) := by
    rw [hx1]
    have := rNear_s (HI.getD j []) ((p : Int) ^ kl) (k + 1) (by omega) (by omega) hPl0 hqB ((powp_B (by omega) kl).le (by omega))
    rwa [n3] at this
   have c66 : FnS Tryz.prog 31 [cS .z (LO.getD j []), cS .z (LO.getD ((j : Int)).toNat (ET.dflt (.sl .z)))] (cB true) := by
    rw [hx3]
    have := rSameInts_s (LO.getD j []) (LO.getD j []) (by rw [g1, List.length_map, (hH.one (kl - 1) hjr).1]; omega) (fun t => by
     rw [g1, near_get _ hPl0]
     exact (nearZ_B hPl0 (powp_B (by omega) kl)).sm (by omega))
    rwa [decide_eq_true rfl] at this
   refine rcg rfl rfl rfl rfl rfl c6 (rcg rfl rfl rfl rfl rfl c66 (re rfl (tr_cond rfl (fun h => by cases h) (fun _ => tr_skip (at_then (rbt (rc rfl rfl c7 (re rfl (at_block (at_then (rt rfl (at_loop (j + 1) hjr (by show Ls.length - (j + 1) < Ls.length - j; omega) (wk ⟨sR rfl, sR rfl, sR rfl, sR rfl, sR rfl, sR rfl, sR rfl, sR rfl, sR rfl, sR rfl, trivial⟩ ⟨bR rfl, bR rfl, bR rfl, trivial⟩)))))))))))))
  ·have hjr : j = Ls.length := by
    have h : ¬ (j : Int) < (HI.length : Int) := of_decide_eq_false h
    omega
   subst hjr
   have hk1 : k - 1 + 1 = k := by omega
   have hm1 : (1 : Int) < (p : Int) ^ k := by have := hH.pw (k - 1); rwa [hk1] at this
   have hf := hH.fin (k - 1)
   rw [hk1] at hf
   have ham : mon (a.map (nearZ · ((p : Int) ^ k))) := mon_near hm1 hH.am
   have hpc : prI (fun i => HI.getD i []) Ls.length = prI (fun i => (liftS p a (fun i => Ls.getD i []) Ls.length (k - 1) i).map (nearZ · ((p : Int) ^ k))) Ls.length := prI_congr _ fun i hi => by
    have g0 := hHg k i hi
    rwa [hHI] at g0
   have hla := B1.A.la
   have c8 : FnS Tryz.prog 41 [cS .z (prI (fun i => HI.getD i []) Ls.length), aZ ((p : Int) ^ k)] (cS .z (a.map (nearZ · ((p : Int) ^ k)))) := by
    have := rNear_s (prI (fun i => HI.getD i []) Ls.length) ((p : Int) ^ k) (100 * Ls.length + 100) (by omega) (by have := hpl _ (Nat.le_refl Ls.length); omega) (by omega) (hpB _ (Nat.le_refl _)) ((powp_B (by omega) k).le (by omega))
    rw [hpc, hf, ham.trim] at this
    rw [hpc]; exact this
   have c9 : FnS Tryz.prog 41 [cS .z a, aZ ((p : Int) ^ k)] (cS .z (a.map (nearZ · ((p : Int) ^ k)))) := by
    have := rNear_s a ((p : Int) ^ k) 100 (by omega) (by omega) (by omega) (fun t => (B1.A.ha t).le (by omega)) ((powp_B (by omega) k).le (by omega))
    rwa [ham.trim] at this
   have c10 : FnS Tryz.prog 31 [cS .z (a.map (nearZ · ((p : Int) ^ k))), cS .z (a.map (nearZ · ((p : Int) ^ k)))] (cB true) := by
    have := rSameInts_s (a.map (nearZ · ((p : Int) ^ k))) (a.map (nearZ · ((p : Int) ^ k))) (by rw [List.length_map]; omega) (fun t => by
     rw [near_get _ (by omega)]
     exact (nearZ_B (by omega) (powp_B (by omega) k)).sm (by omega))
    rwa [decide_eq_true rfl] at this
   refine tr_exit (at_then_exit (at_loop_exit (at_block_exit (at_then ?_))))
   exact rb (rc rfl rfl c8 (rc rfl rfl c9 (rc rfl rfl c10 (rg 203 rfl rfl (fun _ => re rfl (tr_ret (at_ret TT_ok rfl (AVle.refl _)))) (fun h => by cases h)))))
 ·have h3 : (F.length : Int) > 1 := of_decide_eq_true h3
  have hof1 : FnS Tryz.prog 38 [.c (num .i64 (e : Int)).1] (aZ e) := rOf_s _ (by omega) (by omega)
  have hof2 : FnS Tryz.prog 38 [.c (num .i64 (p : Int)).1] (aZ p) := rOf_s _ (by omega) (by omega)
  have hml := rMul_s (e : Int) (p : Int) (Sm.of (by omega)) (Sm.of (by omega))
  have hBe : SmB 2 ((e : Int) * (p : Int)) := (SmB.one (a := (e : Int)) (by omega)).mul (SmB.one (a := (p : Int)) (by omega))
  have had := rAdd_s (F.getD 0 0) ((e : Int) * (p : Int)) ((hFB 0).sm (by omega)) (hBe.sm (by omega))
  refine rbt (rc rfl rfl hof1 (rc rfl rfl hof2 (rc rfl rfl hml (rc rfl rfl had (rsv (F.getD 0 0 + (e : Int) * (p : Int)) rfl rfl rfl rfl rfl ?_ (re rfl (at_mid mid ?_)))))))
  ·show (0 : Int).toNat < ([] ++ F).length
   simp; omega
  ·refine (wk ⟨sR rfl, sR rfl, ⟨_, rfl, AVle.of_eq ?_⟩, sR rfl, trivial⟩ ⟨bR rfl, ⟨_, rfl, BLe.of_eq ?_⟩, trivial⟩)
   ·exact congrArg cI hek
   ·refine congrArg (Blk.vec 44 .z) ?_
    rw [liA, if_pos (by omega)]; rfl
 ·have h3 : ¬ (F.length : Int) > 1 := of_decide_eq_false h3
  refine tr_skip (at_mid mid (wk ⟨sR rfl, sR rfl, ⟨_, rfl, AVle.of_eq ?_⟩, sR rfl, trivial⟩ ⟨bR rfl, ⟨_, rfl, BLe.of_eq ?_⟩, trivial⟩))
  ·exact congrArg cI hek
  ·refine congrArg (Blk.vec 44 .z) ?_
   rw [liA, if_neg (by omega)]; rfl
end Go.El
