/- Contract: the law FactorBounds returns true. Own work; no condition. -/
import Derived.Test.YtkkccchkmcjcpaaGreatB10
import Derived.Test.YtkkccchkmcjcpaaGreatBW31
import Derived.Test.YtkkccchkmcjcpaaGreatBW32
namespace Go.El
open Go Go.Proofs

theorem fs_nil {P : Program} {f : FuncId} {T : ET} {r : AV} (h : FnS P f [cS T []] r) : FnS P f [.c (.V (.slice none 0 0))] r :=
  ⟨h.call, h.noid, fun H W vs hs hv => h.spec H W vs hs (by
    obtain ⟨v, r, rfl, h1, h2⟩ := hv
    have h1 : v = .slice none 0 0 := h1
    subst h1
    exact ⟨_, _, rfl, ⟨none, 0, rfl, Nat.le_refl _, by simp, .inl rfl⟩, h2⟩)⟩
theorem cmpN_le {x y : Int} (h : x ≤ y) : ¬ cmpN x y > 0 := by
  unfold cmpN
  split
  · decide
  · split
    · omega
    · decide

set_option maxHeartbeats 4000000 in
theorem factorBounds_s (l m : List Int) (hl : ∀ x ∈ l, -128 ≤ x ∧ x ≤ 127) (hm : ∀ x ∈ m, -128 ≤ x ∧ x ≤ 127) : FnS Tryz.prog 8 [cS I8 l, cS I8 m] (cB true) := by
  refine fs_intro Tryz.func8 rfl rfl rfl rfl rfl (by decide) ?_
  obtain ⟨lu, nu, du, tu⟩ := upoly_ok l 6
  obtain ⟨lv, nv, dv, tv⟩ := upoly_ok m 6
  have pu := rupoly_s l 6 (by decide) hl
  have pv := rupoly_s m 6 (by decide) hm
  have qu := rIntegral_s _ (by omega) nu du tu
  have qv := rIntegral_s _ (by omega) nv dv tv
  have su := integral_small _ nu du
  have sv := integral_small _ nv dv
  have eu := integral_last _ nu du tu
  have ev := integral_last _ nv dv tv
  have lu' := integral_len (upolyL l 6)
  have lv' := integral_len (upolyL m 6)
  generalize upolyL l 6 = u at *
  generalize upolyL m 6 = v at *
  generalize integralL u = a at *
  generalize integralL v = b at *
  have hla : a.length ≤ 7 := by omega
  have hlb : b.length ≤ 7 := by omega
  obtain ⟨hpl, hps⟩ := product_ok hla hlb su sv
  have pr := rImul_s a b (by omega) (by omega) (fun i => by have := su i; omega) (fun i => by have := sv i; omega)
  have pb := bound_s _ hpl hps
  have core := fun ha0 hb0 => law_core (a := a) (b := b) ha0 hb0 su (eu ha0) (ev hb0)
  generalize trimW (imulL a b) = c at *
  generalize boundN c = B at *
  refine rr rfl (rb (rc rfl rfl sanity_s (re rfl (tr_seq (rr rfl ?_)))))
  refine tr_cond rfl (fun h => by cases h) (fun _ => tr_skip (at_then ?_))
  refine rb (rc rfl rfl pu (rc rfl rfl qu (rc rfl rfl pv (rc rfl rfl qv (re rfl ?_)))))
  refine rb (rc rfl rfl pr (re rfl ?_))
  refine rb (rc rfl rfl pb (re rfl ?_))
  refine tr_seq (rb (rg 32 rfl rfl (fun h => ?_) (fun h => ?_)))
  · refine re rfl (tr_cond rfl (fun _ => ?_) (fun h => by cases h))
    refine rb (rc rfl rfl (fs_nil boundN_s) (rc rfl rfl (rSign_s 0) (rg 40 rfl rfl (fun h => ?_) (fun h => by cases h))))
    exact re rfl (tr_ret (at_then_ret (at_ret TT_ok rfl (AVle.refl _))))
  · have ha0 : a ≠ [] := by
      intro e
      subst e
      cases h
    refine re rfl (tr_cond rfl (fun h2 => ?_) (fun h2 => ?_))
    · refine rb (rc rfl rfl (fs_nil boundN_s) (rc rfl rfl (rSign_s 0) (rg 40 rfl rfl (fun h => ?_) (fun h => by cases h))))
      exact re rfl (tr_ret (at_then_ret (at_ret TT_ok rfl (AVle.refl _))))
    · have hb0 : b ≠ [] := by
        intro e
        subst e
        cases h2
      have core := core ha0 hb0
      refine tr_skip (at_then (tr_seq (rr rfl ?_)))
      refine tr_block (tr_loop (α := Nat) (fun i => ⟨[(5, cB true), (6, cS .z a), (9, .c (.P 5002000 0)), (10, cI i)], [(5002000, .box 44 0 (av .z (B : Int)))], 8, []⟩) (fun i => i ≤ a.length) (fun i => a.length - i) 0 (Nat.zero_le _) (wk ⟨⟨_, rfl, AVle.refl _⟩, ⟨_, rfl, AVle.refl _⟩, ⟨_, rfl, AVle.refl _⟩, ⟨_, rfl, AVle.refl _⟩, trivial⟩ ⟨⟨_, rfl, BLe.of_eq rfl⟩, trivial⟩) ?_)
      intro i hi
      refine tr_seq (rr rfl ?_)
      refine tr_cond rfl (fun h => ?_) (fun h => ?_)
      · have h : i < a.length := by simpa using h
        have hc := core i
        refine tr_skip (at_then (tr_seq (tr_block (rr rfl (tr_seq (rb (rc rfl rfl (rSign_s (a.getD (i : Int).toNat 0)) (re rfl ?_))))))))
        rw [Int.toNat_natCast]
        refine tr_cond rfl (fun h2 => ?_) (fun h2 => ?_)
        · have h2 : a.getD i 0 < 0 := sgn_neg (by simpa using h2)
          have hle : -(a.getD i 0) ≤ (B : Int) := by omega
          refine rbt (rc rfl rfl (rNeg_s (a.getD i 0)) (re rfl (at_then (rb (rc rfl rfl (rCmp_s (-(a.getD i 0)) (B : Int)) (re rfl ?_))))))
          refine tr_cond rfl (fun h3 => absurd (by simpa using h3) (cmpN_le hle)) (fun _ => tr_skip ?_)
          refine at_block (at_then (rt rfl (at_loop (i + 1) h (by show a.length - (i + 1) < a.length - i; omega) (wk ⟨⟨_, rfl, AVle.refl _⟩, ⟨_, rfl, AVle.refl _⟩, ⟨_, rfl, AVle.refl _⟩, ⟨_, rfl, AVle.of_eq ?_⟩, trivial⟩ ⟨⟨_, rfl, BLe.of_eq rfl⟩, trivial⟩))))
          exact congrArg cI (by omega)
        · have h2 : ¬ a.getD i 0 < 0 := fun e => by rw [sgn_of_neg e] at h2; cases h2
          have hle : a.getD i 0 ≤ (B : Int) := by omega
          refine tr_skip (at_then (rb (rc rfl rfl (rCmp_s (a.getD i 0) (B : Int)) (re rfl ?_))))
          refine tr_cond rfl (fun h3 => absurd (by simpa using h3) (cmpN_le hle)) (fun _ => tr_skip ?_)
          refine at_block (at_then (rt rfl (at_loop (i + 1) h (by show a.length - (i + 1) < a.length - i; omega) (wk ⟨⟨_, rfl, AVle.refl _⟩, ⟨_, rfl, AVle.refl _⟩, ⟨_, rfl, AVle.refl _⟩, ⟨_, rfl, AVle.of_eq ?_⟩, trivial⟩ ⟨⟨_, rfl, BLe.of_eq rfl⟩, trivial⟩))))
          exact congrArg cI (by omega)
      · refine tr_exit (at_then_exit (at_loop_exit (at_block_exit (at_then (rb (rlv .q [] rfl rfl (re rfl (tr_seq (rr rfl ?_)))))))))
        refine tr_block (tr_loop (α := Nat) (fun i => ⟨[(5, cB true), (12, .c (.X 9000000)), (13, cI i)], [(9000000, .vec 46 .q (List.replicate i (qI 1)))], 11, []⟩) (fun i => i ≤ 14) (fun i => 14 - i) 0 (Nat.zero_le _) (wk ⟨⟨_, rfl, AVle.refl _⟩, ⟨_, rfl, AVle.refl _⟩, ⟨_, rfl, AVle.refl _⟩, trivial⟩ ⟨⟨_, rfl, BLe.refl _⟩, trivial⟩) ?_)
        intro k hk
        refine tr_seq (rr rfl ?_)
        refine tr_cond rfl (fun h => ?_) (fun h => ?_)
        · have h : k < 14 := by
            have h : (k : Int) < 14 := by simpa using h
            omega
          refine tr_skip (at_then (tr_seq (tr_block (rbt (rc rfl rfl (rWhole_s 1 (by decide) (by decide)) (rl .q [qI 1] rfl rfl (ra rfl rfl rfl rfl rfl rfl rfl rfl rfl ?_ ?_ (re rfl ?_))))))))
          · show (_ + 1 + (_ + 1) / 4 + 192) * 64 ≤ _
            simp only [List.length_replicate]; omega
          · show (_ + 1) * 4 ≤ _
            simp only [List.length_replicate]; omega
          refine at_block (at_then (rt rfl (at_loop (k + 1) h (by show 14 - (k + 1) < 14 - k; omega) (Wk.trans (wk (st' := ⟨[(5, cB true), (12, .c (.X 12003000)), (13, cI ((k + 1 : Nat) : Int))], [(12003000, .vec 46 .q (List.replicate (k + 1) (qI 1)))], 14, []⟩) ⟨⟨_, rfl, AVle.refl _⟩, ⟨_, rfl, AVle.refl _⟩, ⟨_, rfl, AVle.of_eq ?_⟩, trivial⟩ ⟨⟨_, rfl, BLe.of_eq ?_⟩, trivial⟩) (Wk.trans (wk_ren 9000000 12003000 rfl rfl rfl) (wk ⟨⟨_, rfl, AVle.refl _⟩, ⟨_, rfl, AVle.refl _⟩, ⟨_, rfl, AVle.refl _⟩, trivial⟩ ⟨⟨_, rfl, BLe.refl _⟩, trivial⟩))))))
          · exact congrArg cI (by omega)
          · rw [List.replicate_succ']
        · have h : ¬ k < 14 := fun e => by
            have : ¬ (k : Int) < 14 := by simpa using h
            omega
          have hk : k = 14 := by omega
          subst hk
          refine tr_exit (at_then_exit (at_loop_exit (at_block_exit (at_then (tr_frz 9000000 rfl rfl rfl (tr_wk (st' := ⟨[(5, cB true), (12, uP bigL)], [], 12, []⟩) (wk ⟨⟨_, rfl, AVle.refl _⟩, ⟨_, rfl, AVle.of_eq rfl⟩, trivial⟩ trivial) ?_))))))
          refine rb (rc rfl rfl wholeG_s (re rfl ?_))
          refine rb (rg 76 rfl rfl (fun _ => ?_) (fun h => by cases h))
          refine rg 82 rfl rfl (fun _ => ?_) (fun h => by cases h)
          refine rcg rfl rfl rfl rfl rfl irredG_s ?_
          refine rg 87 rfl rfl (fun _ => ?_) (fun h => by cases h)
          refine rcg rfl rfl rfl rfl rfl rootsG_s ?_
          refine rg 93 rfl rfl (fun _ => ?_) (fun h => by cases h)
          exact re rfl (tr_ret (at_ret TT_ok rfl (AVle.refl _)))
end Go.El
