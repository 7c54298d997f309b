/- The engine, part 39: the id of a vector is renamed (for loops that append). Own work; no condition. -/
import Derived.Test.YtkkccchkmcjcpaaGreatB5
import Derived.Test.YtkkccchkmcjcpaaGreatB6
namespace Go.El
open Go Go.RowKit

def renA (i j : Nat) : AV → AV
  | .c (.X k) => if k = j then .c (.X i) else .c (.X k)
  | v => v
def renS (i j : Nat) : List (Nat × AV) → List (Nat × AV)
  | [] => []
  | (t, v) :: r => (t, renA i j v) :: renS i j r
def renM (i j : Nat) : List (Nat × Blk) → List (Nat × Blk)
  | [] => []
  | (k, b) :: r => (if k = j then i else k, b) :: renM i j r
def okA2 (i j : Nat) : AV → Bool
  | .c (.X k) => !(k == i)
  | v => v.mids.all fun k => !(k == i) && !(k == j)
def okS (i j : Nat) : List (Nat × AV) → Bool
  | [] => true
  | (_, v) :: r => okA2 i j v && okS i j r
def okM (i j : Nat) : List (Nat × Blk) → Bool
  | [] => true
  | (k, b) :: r => !(k == i) && (b.mids.all fun k => !(k == i) && !(k == j)) && okM i j r
theorem look_renS (i j t : Nat) : ∀ l : List (Nat × AV), lookA t (renS i j l) = (lookA t l).map (renA i j)
  | [] => rfl
  | (k, v) :: r => by
    simp only [renS, lookA, look_renS i j t r]
    split <;> rfl
theorem okS_get {i j t : Nat} {v : AV} : ∀ {l : List (Nat × AV)}, okS i j l = true → lookA t l = some v → okA2 i j v = true
  | [], _, h => by simp [lookA] at h
  | (k, x) :: r, h, hl => by
    simp only [okS, Bool.and_eq_true] at h
    simp only [lookA] at hl
    split at hl
    · cases hl; exact h.1
    · exact okS_get h.2 hl
theorem okM_get {i j t : Nat} {b : Blk} : ∀ {l : List (Nat × Blk)}, okM i j l = true → lookA t l = some b → t ≠ i ∧ ∀ k ∈ b.mids, k ≠ i ∧ k ≠ j
  | [], _, h => by simp [lookA] at h
  | (k, x) :: r, h, hl => by
    simp only [okM, Bool.and_eq_true, List.all_eq_true] at h
    simp only [lookA] at hl
    split at hl
    · rename_i e
      cases hl
      subst e
      exact ⟨by simpa using h.1.1, fun k hk => by simpa using h.1.2 k hk⟩
    · exact okM_get h.2 hl
theorem look_renM {i j : Nat} (t : Nat) {b : Blk} : ∀ {l : List (Nat × Blk)}, okM i j l = true → lookA t (renM i j l) = some b → (t = i ∧ lookA j l = some b) ∨ (t ≠ i ∧ t ≠ j ∧ lookA t l = some b)
  | [], _, h => by simp [renM, lookA] at h
  | (k, x) :: r, h, hl => by
    simp only [okM, Bool.and_eq_true] at h
    have hki : k ≠ i := by simpa using h.1.1
    simp only [renM, lookA] at hl
    by_cases hkj : k = j
    · rw [if_pos hkj] at hl
      subst hkj
      split at hl
      · rename_i e; cases hl; exact .inl ⟨e.symm, by simp [lookA]⟩
      · rename_i hne
        rcases look_renM t h.2 hl with ⟨rfl, _⟩ | ⟨h1, h2, h3⟩
        · exact absurd rfl hne
        · exact .inr ⟨h1, h2, by simp only [lookA]; rw [if_neg (fun (e : k = t) => h2 e.symm)]; exact h3⟩
    · rw [if_neg hkj] at hl
      split at hl
      · rename_i e; cases hl; subst e; exact .inr ⟨hki, hkj, by simp [lookA]⟩
      · rename_i hne
        rcases look_renM t h.2 hl with ⟨rfl, h2⟩ | ⟨h1, h2, h3⟩
        · exact .inl ⟨rfl, by simp only [lookA, if_neg hkj]; exact h2⟩
        · exact .inr ⟨h1, h2, by simp only [lookA, if_neg hne]; exact h3⟩
theorem wk_ren (i j : Nat) {sl : List (Nat × AV)} {mem : List (Nat × Blk)} {nx : Nat} {gd : List (Nat × Bool)} (hi : Nat.blt i (1000000 * nx) = true) (hs : okS i j sl = true) (hm : okM i j mem = true) : Wk ⟨sl, mem, nx, gd⟩ ⟨renS i j sl, renM i j mem, nx, gd⟩ := by
  intro F hk0 g W a h
  have hi : i < 1000000 * nx := by simpa [Nat.blt_eq] using hi
  let g' : Gh := ⟨g.H, fun id => if id = i then g.γ j else g.γ id⟩
  have hle : GLe (fun id => id ≠ i) g g' := ⟨FLe.refl _, fun id hid => if_neg hid⟩
  have hgi : g'.γ i = g.γ j := if_pos rfl
  have hgn : ∀ id, id ≠ i → g'.γ id = g.γ id := fun id hid => if_neg hid
  have hS : ∀ t v', St.kn ⟨renS i j sl, renM i j mem, nx, gd⟩ (.s t) = some (.v v') → ∃ v, lookA t sl = some v ∧ v' = renA i j v := by
    intro t v' e
    simp only [St.kn, look_renS, Option.map_map, Option.map_eq_some_iff] at e
    obtain ⟨v, hv, he⟩ := e
    cases he
    exact ⟨v, hv, rfl⟩
  have hM : ∀ t b, St.kn ⟨renS i j sl, renM i j mem, nx, gd⟩ (.m t) = some (.b b) → (t = i ∧ lookA j mem = some b) ∨ (t ≠ i ∧ t ≠ j ∧ lookA t mem = some b) := by
    intro t b e
    simp only [St.kn, Option.map_eq_some_iff] at e
    obtain ⟨v, hv, he⟩ := e
    cases he
    exact look_renM t hm hv
  have keepB : ∀ t u b, lookA t mem = some b → RepB F.N g W t b → g'.γ u = g.γ t → RepB F.N g' W u b := by
    intro t u b hb hr hγ
    have hmid := (okM_get hm hb).2
    cases b with
    | box E bz cs =>
      obtain ⟨k, vs, rest, e1, e2, e3, e4, e5, e6⟩ := hr
      exact ⟨k, vs, rest, by rw [hγ]; exact e1, e2, RelL.mono hle (fun id hid => (hmid id hid).1) e3, e4, e5, by rw [hγ]; exact e6⟩
    | vec E T ys =>
      rcases hr with ⟨e1, e2⟩ | ⟨k, cap, vs, e1, e2⟩
      · exact .inl ⟨by rw [hγ]; exact e1, e2⟩
      · exact .inr ⟨k, cap, vs, by rw [hγ]; exact e1, e2⟩
    | clo f first caps =>
      obtain ⟨us, ws, e1, e2, e3⟩ := hr
      exact ⟨us, ws, by rw [hγ]; exact e1, RelT.mono hle (fun id hid => (hmid id (List.mem_append_left _ hid)).1) e2, RelT.mono hle (fun id hid => (hmid id (List.mem_append_right _ hid)).1) e3⟩
    | fz E cs =>
      obtain ⟨k, vs, rest, e1, e2, e3, e4, e5⟩ := hr
      exact ⟨k, vs, rest, by rw [hγ]; exact e1, e2, RelL.mono hle (fun id hid => (hmid id hid).1) e3, e4, e5⟩
  have old : ∀ t b, lookA t mem = some b → St.kn ⟨sl, mem, nx, gd⟩ (.m t) = some (.b b) := fun t b hb => by simp [St.kn, hb]
  refine ⟨g', h.size, h.defers, ?_, ?_, ?_, ?_, ?_, h.sub, h.below, h.le, h.fresh, fun id hid => by omega⟩
  · intro t v' e
    obtain ⟨v, hv, rfl⟩ := hS t v' e
    have hr := h.slots t v (by simp [St.kn, hv])
    have hok := okS_get hs hv
    unfold renA
    split
    · rename_i k
      have hki : k ≠ i := by simpa [okA2] using hok
      have hr' : a.tmps.getD t undef = g.γ k := hr
      split
      · rename_i e'; subst e'; show _ = g'.γ i; rw [hgi]; exact hr'
      · show _ = g'.γ k; rw [hgn k hki]; exact hr'
    · rename_i hne
      refine RelV.mono hle (fun id hid => ?_) hr
      unfold okA2 at hok
      split at hok
      · rename_i k; exact absurd rfl (hne k)
      · have := (List.all_eq_true.1 hok) id hid
        simp at this
        exact this.1
  · intro t b e
    rcases hM t b e with ⟨rfl, hb⟩ | ⟨h1, h2, hb⟩
    · exact keepB j t b hb (h.blks j b (old j b hb)) hgi
    · exact keepB t t b hb (h.blks t b (old t b hb)) (hgn t h1)
  · intro t u b b' k e e' hk hk'
    rcases hM t b e with ⟨rfl, hb⟩ | ⟨h1, h2, hb⟩ <;> rcases hM u b' e' with ⟨rfl, hb'⟩ | ⟨h1', h2', hb'⟩
    · rfl
    · rw [hgi] at hk; rw [hgn u h1'] at hk'
      exact absurd (h.inj j u b b' k (old _ _ hb) (old _ _ hb') hk hk') (fun e => h2' e.symm)
    · rw [hgi] at hk'; rw [hgn t h1] at hk
      exact absurd (h.inj t j b b' k (old _ _ hb) (old _ _ hb') hk hk') h2
    · rw [hgn t h1] at hk; rw [hgn u h1'] at hk'
      exact h.inj t u b b' k (old _ _ hb) (old _ _ hb') hk hk'
  · intro key x e id hid
    cases key with
    | s t =>
      cases x with
      | b b' => simp only [St.kn, Option.map_eq_some_iff] at e; obtain ⟨_, _, he⟩ := e; cases he
      | v v' =>
        obtain ⟨v, hv, rfl⟩ := hS t v' e
        have hm0 := h.mids (.s t) (.v v) (by simp [St.kn, hv])
        have hid : id ∈ (renA i j v).mids := hid
        unfold renA at hid
        split at hid
        · split at hid
          · simp only [AV.mids, C.mids, List.mem_singleton] at hid; subst hid; exact hi
          · exact hm0 id hid
        · exact hm0 id hid
    | m t =>
      cases x with
      | v v' => simp only [St.kn, Option.map_eq_some_iff] at e; obtain ⟨_, _, he⟩ := e; cases he
      | b b' =>
        rcases hM t b' e with ⟨rfl, hb⟩ | ⟨h1, h2, hb⟩
        · exact h.mids (.m j) (.b b') (old j b' hb) id hid
        · exact h.mids (.m t) (.b b') (old t b' hb) id hid
  · intro t x e
    cases x with
    | v v' => simp only [St.kn, Option.map_eq_some_iff] at e; obtain ⟨_, _, he⟩ := e; cases he
    | b b' =>
      rcases hM t b' e with ⟨rfl, hb⟩ | ⟨h1, h2, hb⟩
      · exact hi
      · exact h.mkn t _ (old t b' hb)
theorem Wk.trans {a b c : St} (h : Wk a b) (k : Wk b c) : Wk a c := fun F hk g W ac hh => by
  obtain ⟨g', h'⟩ := h F hk g W ac hh
  exact k F hk g' W ac h'
end Go.El

/- Contracts: polynomials of the reference: iat, trim; the law's upoly. Own work; no condition. -/
namespace Go.El
open Go Go.Proofs

theorem riat_s (a : List Int) (i : Nat) : FnS Tryz.prog 115 [cS .z a, cI i] (aZ (a.getD i 0)) := by
  refine fs_intro Tryz.func115 rfl rfl rfl rfl rfl (by decide) ?_
  refine rr rfl (tr_seq (rr rfl ?_))
  refine tr_cond rfl (fun h => ?_) (fun h => ?_)
  · have h : i < a.length := by simpa using h
    refine rr rfl (tr_ret (at_then_ret (at_ret TT_ok rfl (AVle.of_eq ?_))))
    rfl
  · have h : ¬ i < a.length := by simpa using h
    refine tr_skip (at_then (rb (rc rfl rfl (rOf_s 0 (by decide) (by decide)) (re rfl (tr_ret (at_ret TT_ok rfl (AVle.of_eq ?_)))))))
    have e : a.getD i 0 = 0 := by simp [List.getD_eq_getElem?_getD, List.getElem?_eq_none (Nat.le_of_not_lt h)]
    rw [e]; rfl
theorem sgn_zero {a : Int} : sgn a = 0 ↔ a = 0 := by
  unfold sgn
  split
  · omega
  · split <;> omega
theorem rtrimZ_s (a : List Int) : FnS Tryz.prog 114 [cS .z a] (cS .z (trimW a)) := by
  refine fs_intro Tryz.func114 rfl rfl rfl rfl rfl (by decide) (tr_len 0 rfl fun hb => ?_)
  have hb : a.length * 2 ≤ 140737488355328 := hb
  refine rr rfl (tr_seq (tr_block (tr_loop (α := Nat) (fun k => ⟨[(0, cS .z (a.take k))], [], 1, []⟩) (fun k => k ≤ a.length ∧ trimN a k = trimN a a.length) (fun k => k) a.length ⟨Nat.le_refl _, rfl⟩ (wk ⟨⟨_, rfl, AVle.of_eq (by rw [List.take_length])⟩, trivial⟩ trivial) ?_)))
  rintro k ⟨hk, hrec⟩
  have hlen : (a.take k).length = k := by simp; omega
  refine tr_seq (rb ?_)
  refine rg 6 rfl rfl (fun h => ?_) (fun h => ?_)
  · have h : 0 < k := by
      have h : (((a.take k).length : Nat) : Int) > 0 := by simpa using h
      rw [hlen] at h; omega
    obtain ⟨j, rfl⟩ : ∃ j, k = j + 1 := ⟨k - 1, by omega⟩
    have ej : (((a.take (j + 1)).length : Int) - 1).toNat = j := by rw [hlen]; omega
    have ev : (a.take (j + 1)).getD j 0 = a.getD j 0 := by
      rw [List.getD_eq_getElem?_getD, List.getElem?_take_of_lt (by omega), ← List.getD_eq_getElem?_getD]
    refine rcg rfl rfl rfl rfl rfl (rSign_s ((a.take (j + 1)).getD (((a.take (j + 1)).length : Int) - 1).toNat 0)) (re rfl ?_) (hp := by simp only [Pr.an, Pr.h, num, i64r, true_and, and_true]; omega)
    refine tr_cond rfl (fun h2 => ?_) (fun h2 => ?_)
    · have h2 : a.getD j 0 = 0 := by
        have h2 : sgn ((a.take (j + 1)).getD (((a.take (j + 1)).length : Int) - 1).toNat 0) = 0 := by simpa using h2
        rw [ej, ev] at h2
        exact sgn_zero.1 h2
      refine tr_skip (at_then (tr_block (rt rfl (at_block (at_loop j ⟨by omega, ?_⟩ (by show j < j + 1; omega) (wk ⟨⟨_, rfl, AVle.of_eq ?_⟩, trivial⟩ trivial))) (hp := by simp only [Pr.an, Pr.h, num, i64r, true_and, and_true]; omega))))
      · rw [← hrec, trimN, if_pos h2]
      · rw [ej]; simp only [List.drop_zero, List.take_take]; rw [Nat.min_eq_left (by omega)]
    · have h2 : a.getD j 0 ≠ 0 := by
        have h2 : ¬ sgn ((a.take (j + 1)).getD (((a.take (j + 1)).length : Int) - 1).toNat 0) = 0 := by simpa using h2
        rw [ej, ev] at h2
        exact fun e => h2 (sgn_zero.2 e)
      refine tr_exit (at_then_exit (at_loop_exit (at_block_exit (at_then (rr rfl (tr_ret (at_ret TT_ok rfl (AVle.of_eq ?_))))))))
      unfold trimW
      rw [← hrec, trimN, if_neg h2]
  · have h : k = 0 := by
      have h : ¬ (((a.take k).length : Nat) : Int) > 0 := by simpa using h
      rw [hlen] at h; omega
    subst h
    refine re rfl (tr_cond rfl (fun h2 => by simp at h2) (fun _ => ?_))
    refine tr_exit (at_then_exit (at_loop_exit (at_block_exit (at_then (rr rfl (tr_ret (at_ret TT_ok rfl (AVle.of_eq ?_))))))))
    unfold trimW
    rw [← hrec]; rfl
/-- The coefficient that a small number gives. -/
def cf (x : Int) : Rat := if 100 ≤ x then Rat.divInt ((x.tmod 7 : Int) * ((1 : Nat) : Int)) (((1 : Nat) : Int) * 3) else ((x.tmod 7 : Int) : Rat)
def trimQN (l : List Rat) : Nat → Nat
  | 0 => 0
  | n + 1 => if (l.getD n 0).num = 0 then trimQN l n else n + 1
def trimQ (l : List Rat) : List Rat := l.take (trimQN l l.length)
def upolyL (l : List Int) (most : Nat) : List Rat := trimQ ((l.take (most + 1)).map cf)
theorem tmod7 (x : Int) : -6 ≤ x.tmod 7 ∧ x.tmod 7 ≤ 6 := by
  rw [Int.tmod_eq_emod]
  split <;> omega
theorem take_map_succ (l : List Int) (i : Nat) (h : i < l.length) : ((l.take (i + 1)).map cf) = ((l.take i).map cf) ++ [cf (l.getD i 0)] := by
  rw [List.take_add_one, List.map_append]
  simp [List.getElem?_eq_getElem h, List.getD_eq_getElem?_getD]
set_option maxHeartbeats 2000000 in
theorem rupoly_s (l : List Int) (most : Nat) (hmost : most ≤ 1000) (hl : ∀ x ∈ l, -128 ≤ x ∧ x ≤ 127) : FnS Tryz.prog 17 [cS I8 l, cI most] (cS .q (upolyL l most)) := by
  refine fs_intro Tryz.func17 rfl rfl rfl rfl rfl (by decide) (tr_len 0 rfl fun hb => ?_)
  have hb : l.length * 1 ≤ 140737488355328 := hb
  refine rr rfl (rb (rlv .q [] rfl rfl (re rfl (tr_seq (rr rfl ?_)))))
  refine tr_block (tr_loop (α := Nat) (fun i => ⟨[(0, cS I8 l), (1, cI most), (5, .c (.X 1000000)), (6, cI i)], [(1000000, .vec 46 .q ((l.take i).map cf))], 3, []⟩) (fun i => i ≤ l.length ∧ i ≤ most + 1) (fun i => l.length - i) 0 ⟨Nat.zero_le _, Nat.zero_le _⟩ (wk ⟨⟨_, rfl, AVle.refl _⟩, ⟨_, rfl, AVle.refl _⟩, ⟨_, rfl, AVle.refl _⟩, ⟨_, rfl, AVle.refl _⟩, trivial⟩ ⟨⟨_, rfl, BLe.refl _⟩, trivial⟩) ?_)
  rintro i ⟨hi, him⟩
  refine tr_seq (rb ?_)
  refine rg 13 rfl rfl (fun h => ?_) (fun h => ?_)
  · have h : i < l.length := by simpa using h
    refine re rfl (tr_cond rfl (fun h2 => ?_) (fun h2 => ?_))
    · have h2 : i ≤ most := by
        have h2 : (i : Int) ≤ most := by simpa using h2
        omega
      have hx : -128 ≤ l.getD i 0 ∧ l.getD i 0 ≤ 127 := by
        rw [List.getD_eq_getElem?_getD, List.getElem?_eq_getElem h]
        exact hl _ (List.getElem_mem h)
      have h7 := tmod7 (l.getD i 0)
      have h7' := tmod7 (l.getD (i : Int).toNat I8.dflt)
      have hmap := take_map_succ l i h
      refine tr_skip (at_then (tr_seq (tr_block (rb ?_))))
      refine rc rfl rfl (rWhole_s ((l.getD (i : Int).toNat 0).tmod 7) (by rw [Int.toNat_natCast]; omega) (by rw [Int.toNat_natCast]; omega)) (re rfl (tr_seq (rr rfl ?_)))
      refine tr_cond rfl (fun h3 => ?_) (fun h3 => ?_)
      · have h3 : 100 ≤ l.getD i 0 := by simpa using h3
        have hcf : cf (l.getD i 0) = Rat.divInt (((l.getD i 0).tmod 7 : Int) * ((1 : Nat) : Int)) (((1 : Nat) : Int) * 3) := by unfold cf; rw [if_pos h3]
        refine rbt (rc rfl rfl (rWhole_s 3 (by decide) (by decide)) (rc rfl rfl (rDiv_s _ _ (by decide) (by show ((l.getD (i : Int).toNat 0).tmod 7).natAbs ≤ 65535; rw [Int.toNat_natCast]; omega) (by show 1 ≤ 65535; decide) (by decide) (by decide)) (re rfl (at_then ?_))))
        refine tr_wk (st' := ⟨[(0, cS I8 l), (1, cI most), (5, .c (.X 1000000)), (6, cI i), (7, .c (.P 4007000 0))], [(4007000, .box 46 0 (av .q (cf (l.getD i 0)))), (1000000, .vec 46 .q ((l.take i).map cf))], 6, []⟩) (wk ⟨⟨_, rfl, AVle.refl _⟩, ⟨_, rfl, AVle.refl _⟩, ⟨_, rfl, AVle.refl _⟩, ⟨_, rfl, AVle.refl _⟩, ⟨_, rfl, AVle.refl _⟩, trivial⟩ ⟨⟨_, rfl, BLe.of_eq ?_⟩, ⟨_, rfl, BLe.refl _⟩, trivial⟩) ?_
        · rw [hcf]; rfl
        refine rbt (rl .q [cf (l.getD i 0)] rfl rfl (ra rfl rfl rfl rfl rfl rfl rfl rfl rfl ?_ ?_ (re rfl ?_)))
        · show (_ + 1 + (_ + 1) / 4 + 192) * 64 ≤ _
          simp only [List.length_map, List.length_take]; omega
        · show (_ + 1) * 4 ≤ _
          simp only [List.length_map, List.length_take]; omega
        refine at_block (at_then (rt rfl (at_loop (i + 1) ⟨by omega, by omega⟩ (by show l.length - (i + 1) < l.length - i; omega) (Wk.trans (wk (st' := ⟨[(0, cS I8 l), (1, cI most), (5, .c (.X 6003000)), (6, cI ((i + 1 : Nat) : Int))], [(6003000, .vec 46 .q ((l.take (i + 1)).map cf))], 8, []⟩) ⟨⟨_, rfl, AVle.refl _⟩, ⟨_, rfl, AVle.refl _⟩, ⟨_, rfl, AVle.refl _⟩, ⟨_, rfl, AVle.of_eq ?_⟩, trivial⟩ ⟨⟨_, rfl, BLe.of_eq ?_⟩, trivial⟩) (Wk.trans (wk_ren 1000000 6003000 rfl rfl rfl) (wk ⟨⟨_, rfl, AVle.refl _⟩, ⟨_, rfl, AVle.refl _⟩, ⟨_, rfl, AVle.refl _⟩, ⟨_, rfl, AVle.refl _⟩, trivial⟩ ⟨⟨_, rfl, BLe.refl _⟩, trivial⟩))))))
        · rfl
        · rw [hmap]
      · have h3 : ¬ 100 ≤ l.getD i 0 := by simpa using h3
        have hcf : cf (l.getD i 0) = (((l.getD i 0).tmod 7 : Int) : Rat) := by unfold cf; rw [if_neg h3]
        refine tr_skip (at_then ?_)
        refine tr_wk (st' := ⟨[(0, cS I8 l), (1, cI most), (5, .c (.X 1000000)), (6, cI i), (7, .c (.P 4007000 0))], [(4007000, .box 46 0 (av .q (cf (l.getD i 0)))), (1000000, .vec 46 .q ((l.take i).map cf))], 6, []⟩) (wk ⟨⟨_, rfl, AVle.refl _⟩, ⟨_, rfl, AVle.refl _⟩, ⟨_, rfl, AVle.refl _⟩, ⟨_, rfl, AVle.refl _⟩, ⟨_, rfl, AVle.refl _⟩, trivial⟩ ⟨⟨_, rfl, BLe.of_eq ?_⟩, ⟨_, rfl, BLe.refl _⟩, trivial⟩) ?_
        · rw [hcf]; rfl
        refine rbt (rl .q [cf (l.getD i 0)] rfl rfl (ra rfl rfl rfl rfl rfl rfl rfl rfl rfl ?_ ?_ (re rfl ?_)))
        · show (_ + 1 + (_ + 1) / 4 + 192) * 64 ≤ _
          simp only [List.length_map, List.length_take]; omega
        · show (_ + 1) * 4 ≤ _
          simp only [List.length_map, List.length_take]; omega
        refine at_block (at_then (rt rfl (at_loop (i + 1) ⟨by omega, by omega⟩ (by show l.length - (i + 1) < l.length - i; omega) (Wk.trans (wk (st' := ⟨[(0, cS I8 l), (1, cI most), (5, .c (.X 6003000)), (6, cI ((i + 1 : Nat) : Int))], [(6003000, .vec 46 .q ((l.take (i + 1)).map cf))], 8, []⟩) ⟨⟨_, rfl, AVle.refl _⟩, ⟨_, rfl, AVle.refl _⟩, ⟨_, rfl, AVle.refl _⟩, ⟨_, rfl, AVle.of_eq ?_⟩, trivial⟩ ⟨⟨_, rfl, BLe.of_eq ?_⟩, trivial⟩) (Wk.trans (wk_ren 1000000 6003000 rfl rfl rfl) (wk ⟨⟨_, rfl, AVle.refl _⟩, ⟨_, rfl, AVle.refl _⟩, ⟨_, rfl, AVle.refl _⟩, ⟨_, rfl, AVle.refl _⟩, trivial⟩ ⟨⟨_, rfl, BLe.refl _⟩, trivial⟩))))))
        · rfl
        · rw [hmap]
    · have h2 : ¬ i ≤ most := by
        have h2 : ¬ (i : Int) ≤ most := by simpa using h2
        omega
      have hfin : l.take i = l.take (most + 1) := by rw [show i = most + 1 by omega]
      refine tr_exit (at_then_exit (at_loop_exit (at_block_exit (at_then (tr_frz 1000000 rfl rfl rfl (tr_wk (st' := ⟨[(5, cS .q ((l.take i).map cf))], [], 4, []⟩) (wk ⟨⟨_, rfl, AVle.refl _⟩, trivial⟩ trivial) ?_))))))
      have hL : (l.take i).map cf = (l.take (most + 1)).map cf := by rw [hfin]
      unfold upolyL
      rw [← hL]
      generalize hLg : (l.take i).map cf = L
      have hLl : L.length ≤ 1001 := by rw [← hLg]; simp; omega
      refine tr_seq (tr_block (tr_loop (α := Nat) (fun k => ⟨[(5, cS .q (L.take k))], [], 4, []⟩) (fun k => k ≤ L.length ∧ trimQN L k = trimQN L L.length) (fun k => k) L.length ⟨Nat.le_refl _, rfl⟩ (wk ⟨⟨_, rfl, AVle.of_eq (by rw [List.take_length])⟩, trivial⟩ trivial) ?_))
      rintro k ⟨hk, hrec⟩
      have hlen : (L.take k).length = k := by simp; omega
      refine tr_seq (rb ?_)
      refine rg 45 rfl rfl (fun h => ?_) (fun h => ?_)
      · have h : 0 < k := by
          have h : (((L.take k).length : Nat) : Int) > 0 := by simpa using h
          rw [hlen] at h; omega
        obtain ⟨j, rfl⟩ : ∃ j, k = j + 1 := ⟨k - 1, by omega⟩
        have ej : (((L.take (j + 1)).length : Int) - 1).toNat = j := by rw [hlen]; omega
        have ev : (L.take (j + 1)).getD j 0 = L.getD j 0 := by
          rw [List.getD_eq_getElem?_getD, List.getElem?_take_of_lt (by omega), ← List.getD_eq_getElem?_getD]
        refine rcg rfl rfl rfl rfl rfl (rQSign_s ((L.take (j + 1)).getD (((L.take (j + 1)).length : Int) - 1).toNat 0)) (re rfl ?_) (hp := by simp only [Pr.an, Pr.h, num, i64r, true_and, and_true]; omega)
        refine tr_cond rfl (fun h2 => ?_) (fun h2 => ?_)
        · have h2 : (L.getD j 0).num = 0 := by
            have h2 : sgn ((L.take (j + 1)).getD (((L.take (j + 1)).length : Int) - 1).toNat 0).num = 0 := by simpa using h2
            rw [ej, ev] at h2
            exact sgn_zero.1 h2
          refine tr_skip (at_then (tr_block (rt rfl (at_block (at_loop j ⟨by omega, ?_⟩ (by show j < j + 1; omega) (wk ⟨⟨_, rfl, AVle.of_eq ?_⟩, trivial⟩ trivial))) (hp := by simp only [Pr.an, Pr.h, num, i64r, true_and, and_true]; omega))))
          · rw [← hrec, trimQN, if_pos h2]
          · rw [ej]; simp only [List.drop_zero, List.take_take]; rw [Nat.min_eq_left (by omega)]
        · have h2 : (L.getD j 0).num ≠ 0 := by
            have h2 : ¬ sgn ((L.take (j + 1)).getD (((L.take (j + 1)).length : Int) - 1).toNat 0).num = 0 := by simpa using h2
            rw [ej, ev] at h2
            exact fun e => h2 (sgn_zero.2 e)
          refine tr_exit (at_then_exit (at_loop_exit (at_block_exit (at_then (rr rfl (tr_ret (at_ret TT_ok rfl (AVle.of_eq ?_))))))))
          unfold trimQ
          rw [← hrec, trimQN, if_neg h2]
      · have h : k = 0 := by
          have h : ¬ (((L.take k).length : Nat) : Int) > 0 := by simpa using h
          rw [hlen] at h; omega
        subst h
        refine re rfl (tr_cond rfl (fun h2 => by simp at h2) (fun _ => ?_))
        refine tr_exit (at_then_exit (at_loop_exit (at_block_exit (at_then (rr rfl (tr_ret (at_ret TT_ok rfl (AVle.of_eq ?_))))))))
        unfold trimQ
        rw [← hrec]; rfl
  · have h : ¬ i < l.length := by simpa using h
    have hfin : l.take i = l.take (most + 1) := by rw [List.take_of_length_le (by omega), List.take_of_length_le (by omega)]
    refine re rfl (tr_cond rfl (fun h2 => by simp at h2) (fun _ => ?_))
    refine tr_exit (at_then_exit (at_loop_exit (at_block_exit (at_then (tr_frz 1000000 rfl rfl rfl (tr_wk (st' := ⟨[(5, cS .q ((l.take i).map cf))], [], 4, []⟩) (wk ⟨⟨_, rfl, AVle.refl _⟩, trivial⟩ trivial) ?_))))))
    have hL : (l.take i).map cf = (l.take (most + 1)).map cf := by rw [hfin]
    unfold upolyL
    rw [← hL]
    generalize hLg : (l.take i).map cf = L
    have hLl : L.length ≤ 1001 := by rw [← hLg]; simp; omega
    refine tr_seq (tr_block (tr_loop (α := Nat) (fun k => ⟨[(5, cS .q (L.take k))], [], 4, []⟩) (fun k => k ≤ L.length ∧ trimQN L k = trimQN L L.length) (fun k => k) L.length ⟨Nat.le_refl _, rfl⟩ (wk ⟨⟨_, rfl, AVle.of_eq (by rw [List.take_length])⟩, trivial⟩ trivial) ?_))
    rintro k ⟨hk, hrec⟩
    have hlen : (L.take k).length = k := by simp; omega
    refine tr_seq (rb ?_)
    refine rg 45 rfl rfl (fun h => ?_) (fun h => ?_)
    · have h : 0 < k := by
        have h : (((L.take k).length : Nat) : Int) > 0 := by simpa using h
        rw [hlen] at h; omega
      obtain ⟨j, rfl⟩ : ∃ j, k = j + 1 := ⟨k - 1, by omega⟩
      have ej : (((L.take (j + 1)).length : Int) - 1).toNat = j := by rw [hlen]; omega
      have ev : (L.take (j + 1)).getD j 0 = L.getD j 0 := by
        rw [List.getD_eq_getElem?_getD, List.getElem?_take_of_lt (by omega), ← List.getD_eq_getElem?_getD]
      refine rcg rfl rfl rfl rfl rfl (rQSign_s ((L.take (j + 1)).getD (((L.take (j + 1)).length : Int) - 1).toNat 0)) (re rfl ?_) (hp := by simp only [Pr.an, Pr.h, num, i64r, true_and, and_true]; omega)
      refine tr_cond rfl (fun h2 => ?_) (fun h2 => ?_)
      · have h2 : (L.getD j 0).num = 0 := by
          have h2 : sgn ((L.take (j + 1)).getD (((L.take (j + 1)).length : Int) - 1).toNat 0).num = 0 := by simpa using h2
          rw [ej, ev] at h2
          exact sgn_zero.1 h2
        refine tr_skip (at_then (tr_block (rt rfl (at_block (at_loop j ⟨by omega, ?_⟩ (by show j < j + 1; omega) (wk ⟨⟨_, rfl, AVle.of_eq ?_⟩, trivial⟩ trivial))) (hp := by simp only [Pr.an, Pr.h, num, i64r, true_and, and_true]; omega))))
        · rw [← hrec, trimQN, if_pos h2]
        · rw [ej]; simp only [List.drop_zero, List.take_take]; rw [Nat.min_eq_left (by omega)]
      · have h2 : (L.getD j 0).num ≠ 0 := by
          have h2 : ¬ sgn ((L.take (j + 1)).getD (((L.take (j + 1)).length : Int) - 1).toNat 0).num = 0 := by simpa using h2
          rw [ej, ev] at h2
          exact fun e => h2 (sgn_zero.2 e)
        refine tr_exit (at_then_exit (at_loop_exit (at_block_exit (at_then (rr rfl (tr_ret (at_ret TT_ok rfl (AVle.of_eq ?_))))))))
        unfold trimQ
        rw [← hrec, trimQN, if_neg h2]
    · have h : k = 0 := by
        have h : ¬ (((L.take k).length : Nat) : Int) > 0 := by simpa using h
        rw [hlen] at h; omega
      subst h
      refine re rfl (tr_cond rfl (fun h2 => by simp at h2) (fun _ => ?_))
      refine tr_exit (at_then_exit (at_loop_exit (at_block_exit (at_then (rr rfl (tr_ret (at_ret TT_ok rfl (AVle.of_eq ?_))))))))
      unfold trimQ
      rw [← hrec]; rfl
end Go.El

/- Plain law: small coefficients of a factor are not greater than the bound of the product. Own work; no condition. -/
namespace Go.El

def convS (A B : Nat → Int) (n : Nat) : Nat → Int
  | 0 => 0
  | i + 1 => convS A B n i + A i * B (n - i)
/-- The coefficient n of a product. -/
def conv (A B : Nat → Int) (n : Nat) : Int := convS A B n (n + 1)

theorem na_le (a b : Int) (h : b ≠ 0) : a.natAbs ≤ (a * b).natAbs := by
  rw [Int.natAbs_mul]; exact Nat.le_mul_of_pos_right _ (Int.natAbs_pos.mpr h)
theorem na_step {x y p u v : Int} (h : x * u + y * v = p) (hv : v.natAbs ≤ u.natAbs) (hu : u ≠ 0) : x.natAbs ≤ p.natAbs + y.natAbs := by
  have h1 : x * u = p - y * v := by omega
  have h2 : (x * u).natAbs ≤ p.natAbs + (y * v).natAbs := by rw [h1]; omega
  rw [Int.natAbs_mul, Int.natAbs_mul] at h2
  have hu' : 0 < u.natAbs := Int.natAbs_pos.mpr hu
  have h3 : y.natAbs * v.natAbs ≤ y.natAbs * u.natAbs := Nat.mul_le_mul_left _ hv
  have h4 : p.natAbs ≤ p.natAbs * u.natAbs := Nat.le_mul_of_pos_right _ hu'
  have h5 : x.natAbs * u.natAbs ≤ (p.natAbs + y.natAbs) * u.natAbs := by rw [Nat.add_mul]; omega
  exact Nat.le_of_mul_le_mul_right h5 hu'

theorem convS_zero (A B : Nat → Int) (n : Nat) : ∀ k, (∀ i, i < k → A i * B (n - i) = 0) → convS A B n k = 0
  | 0, _ => rfl
  | k + 1, h => by simp only [convS, convS_zero A B n k (fun i hi => h i (by omega)), h k (by omega)]; rfl
theorem convS_one (A B : Nat → Int) (n d : Nat) : ∀ k, d < k → (∀ i, i < k → i ≠ d → A i * B (n - i) = 0) → convS A B n k = A d * B (n - d)
  | 0, h, _ => by omega
  | k + 1, h, h2 => by
    simp only [convS]
    by_cases hk : k = d
    · subst hk
      rw [convS_zero A B n k (fun i hi => h2 i (by omega) (by omega))]; omega
    · rw [convS_one A B n d k (by omega) (fun i hi => h2 i (by omega)), h2 k (by omega) hk]; omega
theorem conv_top {A B : Nat → Int} {da db : Nat} (hA : ∀ i, da < i → A i = 0) (hB : ∀ i, db < i → B i = 0) : conv A B (da + db) = A da * B db := by
  unfold conv
  rw [convS_one A B (da + db) da _ (by omega)]
  · congr 2; omega
  · intro i h1 h2
    by_cases h : i < da
    · rw [hB (da + db - i) (by omega)]; simp
    · rw [hA i (by omega)]; simp
/-- The constant coefficient is in the product. -/
theorem conv_low {A B : Nat → Int} {S n : Nat} (hS : ∀ k, k ≤ n → (conv A B k).natAbs ≤ S) : ∀ j, j ≤ n → (∀ i, i < j → B i = 0) → B j ≠ 0 → (A 0).natAbs ≤ S := by
  intro j hj h0 hne
  have h1 := hS j hj
  have : conv A B j = A 0 * B j := by
    unfold conv
    rw [convS_one A B j 0 _ (by omega)]
    · rfl
    · intro i h2 h3
      rw [h0 (j - i) (by omega)]; simp
  rw [this] at h1
  exact Nat.le_trans (na_le _ _ hne) h1
theorem first_ne {B : Nat → Int} : ∀ d, B d ≠ 0 → ∃ j, j ≤ d ∧ (∀ i, i < j → B i = 0) ∧ B j ≠ 0 := by
  intro d
  induction d using Nat.strongRecOn with
  | ind d ih =>
    intro h
    by_cases h2 : ∃ i, i < d ∧ B i ≠ 0
    · obtain ⟨i, hi, hb⟩ := h2
      obtain ⟨j, h3, h4, h5⟩ := ih i hi hb
      exact ⟨j, by omega, h4, h5⟩
    · exact ⟨d, Nat.le_refl _, fun i hi => Decidable.byContradiction fun hb => h2 ⟨i, hi, hb⟩, h⟩

theorem core {A B : Nat → Int} {da db : Nat} (hA : ∀ i, da < i → A i = 0) (hB : ∀ i, db < i → B i = 0) (hAd : A da ≠ 0) (hBd : B db ≠ 0) {S : Nat} (hS : ∀ k, k ≤ da + db → (conv A B k).natAbs ≤ S) (h18 : ∀ i, (A i).natAbs ≤ 18) (hsum : S = 1 → ∀ k, k < da + db → conv A B k = 0) :
    ∀ i, (A i).natAbs ≤ S * 2 ^ (da + db) := by
  intro i
  have htop := hS (da + db) (Nat.le_refl _)
  rw [conv_top hA hB] at htop
  have hlead : (A da).natAbs ≤ S := Nat.le_trans (na_le _ _ hBd) htop
  have h1 : 1 ≤ S := Nat.le_trans (Int.natAbs_pos.mpr hAd) hlead
  have hlow : (A 0).natAbs ≤ S := by
    obtain ⟨j, h2, h3, h4⟩ := first_ne db hBd
    exact conv_low hS j (by omega) h3 h4
  have hp : 1 ≤ 2 ^ (da + db) := Nat.one_le_two_pow
  have up : ∀ {x : Nat}, x ≤ S → x ≤ S * 2 ^ (da + db) := fun h => Nat.le_trans h (Nat.le_mul_of_pos_right _ hp)
  by_cases hi0 : i = 0
  · subst hi0; exact up hlow
  by_cases hid : i = da
  · subst hid; exact up hlead
  by_cases hgt : da < i
  · rw [hA i hgt]; simp
  have hmid : 0 < i ∧ i < da := by omega
  by_cases h5 : 5 ≤ da + db
  · have h6 : 2 ^ 5 ≤ 2 ^ (da + db) := Nat.pow_le_pow_right (by decide) h5
    have h7 := h18 i
    have h8 : 1 * 2 ^ 5 ≤ S * 2 ^ (da + db) := Nat.mul_le_mul h1 h6
    omega
  have hda : da = 2 ∨ da = 3 ∨ da = 4 := by omega
  by_cases hdb0 : db = 0
  · subst hdb0
    have h9 := hS i (by omega)
    have : conv A B i = A i * B 0 := by
      unfold conv
      rw [convS_one A B i i _ (by omega)]
      · simp
      · intro j h2 h3
        rw [hB (i - j) (by omega)]; simp
    rw [this] at h9
    exact up (Nat.le_trans (na_le _ _ hBd) h9)
  by_cases hdb1 : db = 1
  · subst hdb1
    have hc : ∀ k, conv A B (k + 1) = A k * B 1 + A (k + 1) * B 0 := by
      intro k
      unfold conv
      simp only [convS]
      rw [convS_zero A B (k + 1) k (fun j hj => by rw [hB (k + 1 - j) (by omega)]; simp)]
      simp
    have h8S : S * 8 ≤ S * 2 ^ (da + 1) := Nat.mul_le_mul_left _ (by
      have : 2 ^ 3 ≤ 2 ^ (da + 1) := Nat.pow_le_pow_right (by decide) (by omega)
      omega)
    have e1 : ∀ k, k + 1 ≤ da + 1 → (B 0).natAbs ≤ (B 1).natAbs → (A k).natAbs ≤ S + (A (k + 1)).natAbs := by
      intro k hk hle
      have := na_step (hc k).symm hle hBd
      have h9 := hS (k + 1) hk
      omega
    have e2 : ∀ k, k + 1 ≤ da + 1 → (B 1).natAbs ≤ (B 0).natAbs → (A (k + 1)).natAbs ≤ S + (A k).natAbs := by
      intro k hk hle
      have hb0 : B 0 ≠ 0 := by intro h0; rw [h0] at hle; have := Int.natAbs_pos.mpr hBd; simp at hle; omega
      have := na_step (x := A (k + 1)) (y := A k) (by have := hc k; omega : A (k + 1) * B 0 + A k * B 1 = conv A B (k + 1)) hle hb0
      have h9 := hS (k + 1) hk
      omega
    have hi : i = 1 ∨ i = 2 ∨ i = 3 := by omega
    rcases Nat.le_total (B 0).natAbs (B 1).natAbs with hle | hle
    · have f1 := e1 1; have f2 := e1 2; have f3 := e1 3
      simp only [Nat.reduceAdd] at f1 f2 f3
      rcases hda with rfl | rfl | rfl <;> rcases hi with rfl | rfl | rfl <;> omega
    · have f0 := e2 0; have f1 := e2 1; have f2 := e2 2
      simp only [Nat.reduceAdd] at f0 f1 f2
      rcases hda with rfl | rfl | rfl <;> rcases hi with rfl | rfl | rfl <;> omega
  -- both of degree 2
  have : da = 2 ∧ db = 2 := by omega
  obtain ⟨rfl, rfl⟩ := this
  have : i = 1 := by omega
  subst this
  by_cases hs : 2 ≤ S
  · have := h18 1
    omega
  have hs1 : S = 1 := by omega
  have hz := hsum hs1
  have p0 := hz 0 (by omega)
  have p1 := hz 1 (by omega)
  have p2 := hz 2 (by omega)
  have p3 := hz 3 (by omega)
  simp only [conv, convS, Nat.sub_self, Nat.sub_zero, Nat.reduceSub, Nat.reduceAdd, Int.zero_add] at p0 p1 p2 p3
  rw [hA 3 (by omega), hB 3 (by omega)] at p3
  -- leading coefficients are units
  have hu : (A 2 * B 2).natAbs ≤ 1 := by rw [← hs1]; exact htop
  rw [Int.natAbs_mul] at hu
  have ha2 : (A 2).natAbs = 1 := by
    have h1 := Int.natAbs_pos.mpr hAd
    have h2 := Int.natAbs_pos.mpr hBd
    have := Nat.mul_le_mul h1 h2
    have h3 : (A 2).natAbs * 1 ≤ (A 2).natAbs * (B 2).natAbs := Nat.mul_le_mul_left _ h2
    omega
  have hb2 : (B 2).natAbs = 1 := by
    have h2 := Int.natAbs_pos.mpr hBd
    rw [ha2] at hu
    omega
  have hzero : A 1 = 0 := by
    have e : A 1 * B 2 = -(A 2 * B 1) := by omega
    rcases Int.natAbs_eq (A 2) with q | q <;> rcases Int.natAbs_eq (B 2) with r | r <;> rw [ha2] at q <;> rw [hb2] at r <;> rw [q] at * <;> rw [r] at * <;>
    · have hp0 : A 0 = 0 ∨ B 0 = 0 := Int.mul_eq_zero.mp p0
      have hcube : A 1 * A 1 * A 1 = 0 := by
        rcases hp0 with h | h <;> rw [h] at p1 p2 <;> grind
      rcases Int.mul_eq_zero.mp hcube with h | h
      · rcases Int.mul_eq_zero.mp h with h | h <;> exact h
      · exact h
  rw [hzero]; simp
end Go.El

/- Contracts: products of polynomials of the reference. Own work; no condition. -/
namespace Go.El
open Go Go.Proofs

/-- The product, with zeros at its end. -/
def imulL (a b : List Int) : List Int := (List.range (a.length + b.length - 1)).map (conv (fun i => a.getD i 0) (fun i => b.getD i 0))
theorem convS_small (a b : List Int) (ha : ∀ i, (a.getD i 0).natAbs ≤ 65535) (hb : ∀ i, (b.getD i 0).natAbs ≤ 65535) (n : Nat) : ∀ k, (convS (fun i => a.getD i 0) (fun i => b.getD i 0) n k).natAbs ≤ k * 4294836225
  | 0 => by simp [convS]
  | k + 1 => by
    have := convS_small a b ha hb n k
    have h2 := small_mul (ha k) (hb (n - k))
    simp only [convS]
    omega
set_option maxHeartbeats 2000000 in
theorem rImul_s (a b : List Int) (la : a.length ≤ 1000) (lb : b.length ≤ 1000) (ha : ∀ i, (a.getD i 0).natAbs ≤ 65535) (hb : ∀ i, (b.getD i 0).natAbs ≤ 65535) : FnS Tryz.prog 43 [cS .z a, cS .z b] (cS .z (trimW (imulL a b))) := by
  refine fs_intro Tryz.func43 rfl rfl rfl rfl rfl (by decide) ?_
  refine rr rfl (rb (rlv .z [] rfl rfl (re rfl (tr_seq (rr rfl ?_)))))
  generalize hA : (fun i => a.getD i 0) = A
  generalize hB : (fun i => b.getD i 0) = B
  refine tr_block (tr_loop (α := Nat) (fun n => ⟨[(0, cS .z a), (1, cS .z b), (5, .c (.X 1000000)), (6, cI n)], [(1000000, .vec 44 .z ((List.range n).map (conv A B)))], 3, []⟩) (fun n => n ≤ a.length + b.length - 1) (fun n => a.length + b.length - n) 0 (Nat.zero_le _) (wk ⟨⟨_, rfl, AVle.refl _⟩, ⟨_, rfl, AVle.refl _⟩, ⟨_, rfl, AVle.refl _⟩, ⟨_, rfl, AVle.refl _⟩, trivial⟩ ⟨⟨_, rfl, BLe.refl _⟩, trivial⟩) ?_)
  intro n hn
  refine tr_seq (rr rfl ?_)
  refine tr_cond rfl (fun h => ?_) (fun h => ?_)
  · have h : n + 1 < a.length + b.length := by
      have h : (n : Int) + 1 < a.length + b.length := by simpa using h
      omega
    refine tr_skip (at_then (tr_seq (tr_block (rb (rc rfl rfl (rOf_s 0 (by decide) (by decide)) (re rfl (tr_seq (rr rfl ?_))))))))
    refine tr_block (tr_loop (α := Nat) (fun k => ⟨[(0, cS .z a), (1, cS .z b), (5, .c (.X 1000000)), (6, cI n), (7, .c (.P 4001000 0)), (8, cI k)], [(4001000, .box 44 0 (av .z (convS A B n k))), (1000000, .vec 44 .z ((List.range n).map (conv A B)))], 6, []⟩) (fun k => k ≤ n + 1) (fun k => n + 1 - k) 0 (Nat.zero_le _) (wk ⟨⟨_, rfl, AVle.refl _⟩, ⟨_, rfl, AVle.refl _⟩, ⟨_, rfl, AVle.refl _⟩, ⟨_, rfl, AVle.refl _⟩, ⟨_, rfl, AVle.refl _⟩, ⟨_, rfl, AVle.refl _⟩, trivial⟩ ⟨⟨_, rfl, BLe.of_eq rfl⟩, ⟨_, rfl, BLe.refl _⟩, trivial⟩) ?_)
    intro k hk
    refine tr_seq (rr rfl ?_)
    refine tr_cond rfl (fun h2 => ?_) (fun h2 => ?_)
    · have h2 : k ≤ n := by
        have h2 : (k : Int) ≤ n := by simpa using h2
        omega
      have hs := convS_small a b ha hb n k
      rw [hA, hB] at hs
      have hm := small_mul (ha k) (hb (n - k))
      have hs2 : (convS A B n k).natAbs < 18446744073709551616 := by
        have : k * 4294836225 ≤ 2000 * 4294836225 := Nat.mul_le_mul_right _ (by omega)
        omega
      refine tr_skip (at_then (tr_seq (tr_block (rbt ?_))))
      refine rc rfl rfl (riat_s a k) ?_
      refine rc rfl rfl (f := 115) (r := aZ (b.getD (n - k) 0)) (by have := riat_s b (n - k); rw [show ((n - k : Nat) : Int) = (n : Int) - (k : Int) by omega] at this; exact this) ?_
      refine rc rfl rfl (rMul_s (a.getD k 0) (b.getD (n - k) 0) (Sm.of (by have := ha k; omega)) (Sm.of (by have := hb (n - k); omega))) ?_
      refine rc rfl rfl (rAdd_s (convS A B n k) (a.getD k 0 * b.getD (n - k) 0) (Sm.of hs2) (Sm.of (by omega))) (re rfl ?_)
      refine at_block (at_then (rt rfl (at_loop (k + 1) (by omega) (by show n + 1 - (k + 1) < n + 1 - k; omega) (wk ⟨⟨_, rfl, AVle.refl _⟩, ⟨_, rfl, AVle.refl _⟩, ⟨_, rfl, AVle.refl _⟩, ⟨_, rfl, AVle.refl _⟩, ⟨_, rfl, AVle.refl _⟩, ⟨_, rfl, AVle.of_eq rfl⟩, trivial⟩ ⟨⟨_, rfl, BLe.of_eq ?_⟩, ⟨_, rfl, BLe.refl _⟩, trivial⟩))))
      have e : convS A B n (k + 1) = convS A B n k + a.getD k 0 * b.getD (n - k) 0 := by simp only [convS, ← hA, ← hB]
      rw [e]; rfl
    · have h2 : ¬ k ≤ n := by
        have h2 : ¬ (k : Int) ≤ n := by simpa using h2
        omega
      have hk : k = n + 1 := by omega
      subst hk
      refine tr_exit (at_then_exit (at_loop_exit (at_block_exit (at_then ?_))))
      refine rbt (rl .z [conv A B n] rfl rfl (ra rfl rfl rfl rfl rfl rfl rfl rfl rfl ?_ ?_ (re rfl ?_)))
      · show (_ + 1 + (_ + 1) / 4 + 192) * 32 ≤ _
        simp only [List.length_map, List.length_range]; omega
      · show (_ + 1) * 2 ≤ _
        simp only [List.length_map, List.length_range]; omega
      refine at_block (at_then (rt rfl (at_loop (n + 1) (by omega) (by show a.length + b.length - (n + 1) < a.length + b.length - n; omega) (Wk.trans (wk (st' := ⟨[(0, cS .z a), (1, cS .z b), (5, .c (.X 7003000)), (6, cI ((n + 1 : Nat) : Int))], [(7003000, .vec 44 .z ((List.range (n + 1)).map (conv A B)))], 9, []⟩) ⟨⟨_, rfl, AVle.refl _⟩, ⟨_, rfl, AVle.refl _⟩, ⟨_, rfl, AVle.refl _⟩, ⟨_, rfl, AVle.of_eq ?_⟩, trivial⟩ ⟨⟨_, rfl, BLe.of_eq ?_⟩, trivial⟩) (Wk.trans (wk_ren 1000000 7003000 rfl rfl rfl) (wk ⟨⟨_, rfl, AVle.refl _⟩, ⟨_, rfl, AVle.refl _⟩, ⟨_, rfl, AVle.refl _⟩, ⟨_, rfl, AVle.refl _⟩, trivial⟩ ⟨⟨_, rfl, BLe.refl _⟩, trivial⟩))))))
      · rfl
      · rw [List.range_succ, List.map_append]; rfl
  · have h : ¬ n + 1 < a.length + b.length := by
      have h : ¬ (n : Int) + 1 < a.length + b.length := by simpa using h
      omega
    have hn : n = a.length + b.length - 1 := by omega
    refine tr_exit (at_then_exit (at_loop_exit (at_block_exit (at_then (tr_frz 1000000 rfl rfl rfl (rb (rc rfl rfl (rtrimZ_s _) (re rfl (tr_ret (at_ret TT_ok rfl (AVle.of_eq ?_)))))))))))
    unfold imulL
    rw [hA, hB, ← hn]
end Go.El

/- Contracts: the primitive integer polynomial. Own work; no condition. -/
namespace Go.El
open Go Go.Proofs

/-- The common denominator of the first i coefficients. -/
def dN (cs : List Rat) : Nat → Int
  | 0 => 1
  | i + 1 => dN cs i * (((cs.getD i 0).den : Int) / ((Int.gcd (dN cs i) (cs.getD i 0).den : Nat) : Int))
def xN (cs : List Rat) (i : Nat) : Int := (Rat.divInt ((cs.getD i 0).num * dN cs cs.length) (((cs.getD i 0).den : Int) * ((1 : Nat) : Int))).num
def gN (cs : List Rat) : Nat → Int
  | 0 => 0
  | i + 1 => ((Int.gcd (gN cs i) (xN cs i) : Nat) : Int)
def gF (cs : List Rat) : Int := if 0 < cs.length ∧ xN cs (cs.length - 1) < 0 then -gN cs cs.length else gN cs cs.length
def integralL (cs : List Rat) : List Int := (List.range cs.length).map (fun j => xN cs j / gF cs)

theorem dN_13 (cs : List Rat) (hden : ∀ i, (cs.getD i 0).den = 1 ∨ (cs.getD i 0).den = 3) : ∀ i, dN cs i = 1 ∨ dN cs i = 3
  | 0 => .inl rfl
  | i + 1 => by
    simp only [dN]
    rcases dN_13 cs hden i with h | h <;> rcases hden i with h2 | h2 <;> rw [h, h2] <;> decide
theorem xN_eq (cs : List Rat) (hden : ∀ i, (cs.getD i 0).den = 1 ∨ (cs.getD i 0).den = 3) (i : Nat) : (xN cs i).natAbs ≤ ((cs.getD i 0).num * dN cs cs.length).natAbs ∧ ((cs.getD i 0).num ≠ 0 → xN cs i ≠ 0) ∧ (0 ≤ (cs.getD i 0).num → 0 ≤ xN cs i) := by
  have hd := dN_13 cs hden cs.length
  have hne : (((cs.getD i 0).den : Int) * ((1 : Nat) : Int)) ≠ 0 := by rcases hden i with h | h <;> rw [h] <;> decide
  obtain ⟨p1, _⟩ := divInt_parts ((cs.getD i 0).num * dN cs cs.length) (((cs.getD i 0).den : Int) * ((1 : Nat) : Int)) hne
  have hpos : ¬ (((cs.getD i 0).den : Int) * ((1 : Nat) : Int)) < 0 := by rcases hden i with h | h <;> rw [h] <;> decide
  rw [if_neg hpos] at p1
  unfold xN
  rw [p1]
  generalize hn : (cs.getD i 0).num * dN cs cs.length = n
  generalize hg : Int.gcd n (((cs.getD i 0).den : Int) * ((1 : Nat) : Int)) = g
  have hg0 : g ≠ 0 := by rw [← hg]; intro h0; exact hne (Int.gcd_eq_zero_iff.1 h0).2
  have hdv : (g : Int) ∣ n := by rw [← hg]; exact Int.gcd_dvd_left ..
  obtain ⟨c, hc⟩ := hdv
  have e : n / (g : Int) = c := by rw [hc]; exact Int.mul_ediv_cancel_left _ (by omega)
  rw [e]
  refine ⟨?_, fun h => ?_, fun h => ?_⟩
  · rw [hc, Int.natAbs_mul]
    exact Nat.le_mul_of_pos_left _ (by omega)
  · intro h0
    rw [h0] at hc
    simp only [Int.mul_zero] at hc
    rw [hc] at hn
    rcases Int.mul_eq_zero.1 hn with h1 | h1
    · exact h h1
    · rcases hd with h2 | h2 <;> rw [h2] at h1 <;> cases h1
  · have hn0 : 0 ≤ n := by rw [← hn]; exact Int.mul_nonneg h (by rcases hd with h2 | h2 <;> rw [h2] <;> decide)
    rw [← e]
    exact Int.ediv_nonneg hn0 (by omega)
theorem xN_small (cs : List Rat) (hnum : ∀ i, (cs.getD i 0).num.natAbs ≤ 6) (hden : ∀ i, (cs.getD i 0).den = 1 ∨ (cs.getD i 0).den = 3) (i : Nat) : (xN cs i).natAbs ≤ 18 := by
  have h1 := (xN_eq cs hden i).1
  have h2 := hnum i
  have h3 : ((cs.getD i 0).num * dN cs cs.length).natAbs ≤ 6 * 3 := small_mul h2 (by rcases dN_13 cs hden cs.length with h | h <;> rw [h] <;> decide)
  omega
theorem gN_small (cs : List Rat) (hnum : ∀ i, (cs.getD i 0).num.natAbs ≤ 6) (hden : ∀ i, (cs.getD i 0).den = 1 ∨ (cs.getD i 0).den = 3) : ∀ i, 0 ≤ gN cs i ∧ gN cs i ≤ 18
  | 0 => by simp [gN]
  | i + 1 => by
    have ih := gN_small cs hnum hden i
    have hx := xN_small cs hnum hden i
    simp only [gN]
    refine ⟨by omega, ?_⟩
    by_cases h0 : xN cs i = 0
    · rw [h0, Int.gcd_zero_right]; omega
    · have : Int.gcd (gN cs i) (xN cs i) ≤ (xN cs i).natAbs := Nat.gcd_le_right _ (by omega)
      omega
theorem gF_ok (cs : List Rat) (hnum : ∀ i, (cs.getD i 0).num.natAbs ≤ 6) (hden : ∀ i, (cs.getD i 0).den = 1 ∨ (cs.getD i 0).den = 3) (hlast : cs = [] ∨ (cs.getD (cs.length - 1) 0).num ≠ 0) (hl : 0 < cs.length) : gF cs ≠ 0 ∧ (gF cs).natAbs ≤ 18 := by
  have hg := gN_small cs hnum hden cs.length
  have hx : xN cs (cs.length - 1) ≠ 0 := (xN_eq cs hden _).2.1 (hlast.resolve_left (by intro h; rw [h] at hl; simp at hl))
  have hne : gN cs cs.length ≠ 0 := by
    obtain ⟨m, hm⟩ : ∃ m, cs.length = m + 1 := ⟨cs.length - 1, by omega⟩
    rw [hm] at hx ⊢
    simp only [gN, Nat.add_sub_cancel] at hx ⊢
    intro h0
    have : Int.gcd (gN cs m) (xN cs m) = 0 := by omega
    exact hx (Int.gcd_eq_zero_iff.1 this).2
  unfold gF
  split <;> omega
theorem gN_int (cs : List Rat) (i : Nat) (hnum : ∀ i, (cs.getD i 0).num.natAbs ≤ 6) (hden : ∀ i, (cs.getD i 0).den = 1 ∨ (cs.getD i 0).den = 3) : (gN cs i).natAbs ≤ 18 := by
  have := gN_small cs hnum hden i
  omega
set_option maxHeartbeats 4000000 in
theorem rIntegral_s (cs : List Rat) (la : cs.length ≤ 1000) (hnum : ∀ i, (cs.getD i 0).num.natAbs ≤ 6) (hden : ∀ i, (cs.getD i 0).den = 1 ∨ (cs.getD i 0).den = 3) (hlast : cs = [] ∨ (cs.getD (cs.length - 1) 0).num ≠ 0) : FnS Tryz.prog 26 [cS .q cs] (cS .z (integralL cs)) := by
  refine fs_intro Tryz.func26 rfl rfl rfl rfl rfl (by decide) ?_
  refine rr rfl (rb (rc rfl rfl (rOf_s 1 (by decide) (by decide)) (re rfl (tr_seq (rr rfl ?_)))))
  refine tr_block (tr_loop (α := Nat) (fun i => ⟨[(0, cS .q cs), (3, .c (.P 1001000 0)), (4, cI i)], [(1001000, .box 44 0 (av .z (dN cs i)))], 3, []⟩) (fun i => i ≤ cs.length) (fun i => cs.length - i) 0 (Nat.zero_le _) (wk ⟨⟨_, rfl, AVle.refl _⟩, ⟨_, rfl, AVle.refl _⟩, ⟨_, rfl, AVle.refl _⟩, trivial⟩ ⟨⟨_, rfl, BLe.of_eq rfl⟩, trivial⟩) ?_)
  intro i hi
  have hd := dN_13 cs hden i
  refine tr_seq (rr rfl ?_)
  refine tr_cond rfl (fun h => ?_) (fun h => ?_)
  · have h : i < cs.length := by simpa using h
    have hdi := hden i
    have hg0 : Int.gcd (dN cs i) ((cs.getD i 0).den : Int) ≠ 0 := by intro h0; have := (Int.gcd_eq_zero_iff.1 h0).2; omega
    have hgs : Int.gcd (dN cs i) ((cs.getD i 0).den : Int) ≤ 3 := Nat.le_trans (Nat.gcd_le_right _ (by omega)) (by omega)
    have hq : (((cs.getD i 0).den : Int) / ((Int.gcd (dN cs i) ((cs.getD i 0).den : Int) : Nat) : Int)).natAbs ≤ 3 := by
      have h1 : 0 ≤ ((cs.getD i 0).den : Int) / ((Int.gcd (dN cs i) ((cs.getD i 0).den : Int) : Nat) : Int) := Int.ediv_nonneg (by omega) (by omega)
      have h2 : ((cs.getD i 0).den : Int) / ((Int.gcd (dN cs i) ((cs.getD i 0).den : Int) : Nat) : Int) ≤ ((cs.getD i 0).den : Int) := Int.ediv_le_self _ (by omega)
      omega
    refine tr_skip (at_then (tr_seq (tr_block (rb ?_))))
    refine rc rfl rfl (rGcd_s (dN cs i) ((cs.getD i 0).den : Int) (by omega) (by omega)) (re rfl (rb ?_))
    refine rc rfl rfl (rDivMod_s ((cs.getD i 0).den : Int) ((Int.gcd (dN cs i) ((cs.getD i 0).den : Int) : Nat) : Int) (by omega) (.inr (by omega)) (Sm.of (by omega)) (Sm.of (by omega))) (re rfl (rbt ?_))
    refine rc rfl rfl (rMul_s (dN cs i) (((cs.getD i 0).den : Int) / ((Int.gcd (dN cs i) ((cs.getD i 0).den : Int) : Nat) : Int)) (Sm.of (by omega)) (Sm.of (by omega))) (re rfl ?_)
    refine at_block (at_then (rt rfl (at_loop (i + 1) (by omega) (by show cs.length - (i + 1) < cs.length - i; omega) (wk ⟨⟨_, rfl, AVle.refl _⟩, ⟨_, rfl, AVle.refl _⟩, ⟨_, rfl, AVle.of_eq rfl⟩, trivial⟩ ⟨⟨_, rfl, BLe.of_eq rfl⟩, trivial⟩))))
  · have h : ¬ i < cs.length := by simpa using h
    have hi : i = cs.length := by omega
    subst hi
    refine tr_exit (at_then_exit (at_loop_exit (at_block_exit (at_then (rb (rlv .z [] rfl rfl (re rfl ?_)))))))
    refine rb (rc rfl rfl (rOf_s 0 (by decide) (by decide)) (re rfl (tr_seq (rr rfl ?_))))
    refine tr_block (tr_loop (α := Nat) (fun i => ⟨[(0, cS .q cs), (3, .c (.P 1001000 0)), (9, .c (.X 4000000)), (10, .c (.P 5001000 0)), (11, cI i)], [(1001000, .box 44 0 (av .z (dN cs cs.length))), (4000000, .vec 44 .z ((List.range i).map (xN cs))), (5001000, .box 44 0 (av .z (gN cs i)))], 7, []⟩) (fun i => i ≤ cs.length) (fun i => cs.length - i) 0 (Nat.zero_le _) (wk ⟨⟨_, rfl, AVle.refl _⟩, ⟨_, rfl, AVle.refl _⟩, ⟨_, rfl, AVle.refl _⟩, ⟨_, rfl, AVle.refl _⟩, ⟨_, rfl, AVle.refl _⟩, trivial⟩ ⟨⟨_, rfl, BLe.refl _⟩, ⟨_, rfl, BLe.of_eq rfl⟩, ⟨_, rfl, BLe.of_eq rfl⟩, trivial⟩) ?_)
    intro i hi
    refine tr_seq (rr rfl ?_)
    refine tr_cond rfl (fun h => ?_) (fun h => ?_)
    · have h : i < cs.length := by simpa using h
      have hdi := hden i
      have hni := hnum i
      have hgs := gN_int cs i hnum hden
      have hxs := xN_small cs hnum hden i
      refine tr_skip (at_then (tr_seq (tr_block (rb ?_))))
      refine rc rfl rfl (rOf_s 1 (by decide) (by decide)) ?_
      refine rc rfl rfl (rQMul_s (cs.getD (i : Int).toNat 0) ((dN cs cs.length : Int) : Rat) (by rw [Int.toNat_natCast]; omega) (by rw [Int.toNat_natCast]; omega) (by show (dN cs cs.length).natAbs ≤ 65535; omega) (by show 1 ≤ 65535; decide)) (re rfl (rb ?_))
      refine rl .z [xN cs i] rfl rfl (ra rfl rfl rfl rfl rfl rfl rfl rfl rfl ?_ ?_ (re rfl (rbt ?_)))
      · show (_ + 1 + (_ + 1) / 4 + 192) * 32 ≤ _
        simp only [List.length_map, List.length_range]; omega
      · show (_ + 1) * 2 ≤ _
        simp only [List.length_map, List.length_range]; omega
      refine rc rfl rfl (rGcd_s (gN cs i) (xN cs i) (by omega) (by omega)) (re rfl ?_)
      refine at_block (at_then (rt rfl (at_loop (i + 1) (by omega) (by show cs.length - (i + 1) < cs.length - i; omega) (Wk.trans (wk (st' := ⟨[(0, cS .q cs), (3, .c (.P 1001000 0)), (9, .c (.X 9004000)), (10, .c (.P 5001000 0)), (11, cI ((i + 1 : Nat) : Int))], [(1001000, .box 44 0 (av .z (dN cs cs.length))), (9004000, .vec 44 .z ((List.range (i + 1)).map (xN cs))), (5001000, .box 44 0 (av .z (gN cs (i + 1))))], 12, []⟩) ⟨⟨_, rfl, AVle.refl _⟩, ⟨_, rfl, AVle.refl _⟩, ⟨_, rfl, AVle.refl _⟩, ⟨_, rfl, AVle.refl _⟩, ⟨_, rfl, AVle.of_eq rfl⟩, trivial⟩ ⟨⟨_, rfl, BLe.refl _⟩, ⟨_, rfl, BLe.of_eq ?_⟩, ⟨_, rfl, BLe.of_eq rfl⟩, trivial⟩) (Wk.trans (wk_ren 4000000 9004000 rfl rfl rfl) (wk ⟨⟨_, rfl, AVle.refl _⟩, ⟨_, rfl, AVle.refl _⟩, ⟨_, rfl, AVle.refl _⟩, ⟨_, rfl, AVle.refl _⟩, ⟨_, rfl, AVle.refl _⟩, trivial⟩ ⟨⟨_, rfl, BLe.refl _⟩, ⟨_, rfl, BLe.refl _⟩, ⟨_, rfl, BLe.refl _⟩, trivial⟩))))))
      rw [List.range_succ, List.map_append]; rfl
    · have h : ¬ i < cs.length := by simpa using h
      have hi : i = cs.length := by omega
      subst hi
      refine tr_exit (at_then_exit (at_loop_exit (at_block_exit (at_then (tr_seq (rb ?_))))))
      refine rg 73 rfl rfl (fun h3 => ?_) (fun h3 => ?_)
      · have h3 : 0 < cs.length := by
          have h3 : (cs.length : Int) > 0 := by simpa using h3
          omega
        have hlenx : ((List.range cs.length).map (xN cs)).length = cs.length := by simp
        have ex : ((List.range cs.length).map (xN cs)).getD ((((List.range cs.length).map (xN cs)).length : Int) - 1).toNat 0 = xN cs (cs.length - 1) := by
          rw [hlenx, show ((cs.length : Int) - 1).toNat = cs.length - 1 by omega]
          simp [List.getD_eq_getElem?_getD, show cs.length - 1 < cs.length by omega]
        refine rcg rfl rfl rfl rfl rfl (rSign_s (((List.range cs.length).map (xN cs)).getD ((((List.range cs.length).map (xN cs)).length : Int) - 1).toNat 0)) (re rfl ?_) (hp := by simp only [Pr.an, Pr.h, num, i64r, true_and, and_true]; omega)
        rw [ex]
        refine tr_cond rfl (fun h4 => ?_) (fun h4 => ?_)
        · have h4 : xN cs (cs.length - 1) < 0 := by
            have h4 : sgn (xN cs (cs.length - 1)) < 0 := by simpa using h4
            unfold sgn at h4
            split at h4
            · assumption
            · (try split at h4) <;> omega
          refine rbt (rc rfl rfl (rNeg_s (gN cs cs.length)) (re rfl (at_then ?_)))
          have hbox : (Blk.box 44 0 (over (over (List.map ZV.toC [ZV.b, ZV.s]) (av .z (gN cs cs.length)) 0) (av .z (-gN cs cs.length)) 0)) = .box 44 0 (av .z (gF cs)) := by
            unfold gF; rw [if_pos ⟨h3, h4⟩]; rfl
          have hvec : (Blk.vec 44 .z ((List.range cs.length).map (xN cs))) = .vec 44 .z ((List.range cs.length).map (xN cs)) := rfl
          refine tr_wk (st' := ⟨[(9, .c (.X 4000000)), (10, .c (.P 5001000 0))], [(4000000, .vec 44 .z ((List.range cs.length).map (xN cs))), (5001000, .box 44 0 (av .z (gF cs)))], 10, []⟩) (wk ⟨⟨_, rfl, AVle.refl _⟩, ⟨_, rfl, AVle.refl _⟩, trivial⟩ ⟨⟨_, rfl, BLe.of_eq hvec⟩, ⟨_, rfl, BLe.of_eq hbox⟩, trivial⟩) ?_
          refine tr_seq (rr rfl ?_)
          refine tr_block (tr_loop (α := Nat) (fun i => ⟨[(9, .c (.X 4000000)), (10, .c (.P 5001000 0)), (13, cI i)], [(4000000, .vec 44 .z ((List.range cs.length).map (fun j => if j < i then xN cs j / gF cs else xN cs j))), (5001000, .box 44 0 (av .z (gF cs)))], 11, []⟩) (fun i => i ≤ cs.length) (fun i => cs.length - i) 0 (Nat.zero_le _) (wk ⟨⟨_, rfl, AVle.refl _⟩, ⟨_, rfl, AVle.refl _⟩, ⟨_, rfl, AVle.refl _⟩, trivial⟩ ⟨⟨_, rfl, BLe.of_eq (by simp)⟩, ⟨_, rfl, BLe.refl _⟩, trivial⟩) ?_)
          intro i hi
          generalize hV : (List.range cs.length).map (fun j => if j < i then xN cs j / gF cs else xN cs j) = V
          have hVl : V.length = cs.length := by rw [← hV]; simp
          refine tr_seq (rr rfl ?_)
          refine tr_cond rfl (fun h => ?_) (fun h => ?_)
          · have h : i < cs.length := by
              have h : (i : Int) < V.length := by simpa using h
              omega
            have hVi : V.getD (i : Int).toNat 0 = xN cs i := by
              rw [Int.toNat_natCast, ← hV]
              simp [List.getD_eq_getElem?_getD, h]
            have hG := gF_ok cs hnum hden hlast (by omega)
            have hxs := xN_small cs hnum hden i
            refine tr_skip (at_then (tr_seq (tr_block (rb ?_))))
            refine rc rfl rfl (rDivMod_s (V.getD (i : Int).toNat 0) (gF cs) hG.1 (.inr (by omega)) (Sm.of (by rw [hVi]; omega)) (Sm.of (by omega))) (re rfl (rbt ?_))
            refine rsv (V.getD (i : Int).toNat 0 / gF cs) rfl rfl rfl rfl rfl (by rw [Int.toNat_natCast]; omega) (re rfl ?_)
            refine at_block (at_then (rt rfl (at_loop (i + 1) (by omega) (by show cs.length - (i + 1) < cs.length - i; omega) (wk ⟨⟨_, rfl, AVle.refl _⟩, ⟨_, rfl, AVle.refl _⟩, ⟨_, rfl, AVle.of_eq rfl⟩, trivial⟩ ⟨⟨_, rfl, BLe.of_eq ?_⟩, ⟨_, rfl, BLe.refl _⟩, trivial⟩))))
            rw [hVi, Int.toNat_natCast, ← hV]
            congr 1
            apply List.ext_getElem
            · simp
            · intro j h1 h2
              simp only [List.getElem_set, List.getElem_map, List.getElem_range]
              by_cases e : i = j
              · subst e; simp
              · rw [if_neg e]
                by_cases hj : j < i
                · rw [if_pos hj, if_pos (by omega)]
                · rw [if_neg hj, if_neg (by omega)]
          · have h : ¬ i < cs.length := by
              have h : ¬ (i : Int) < V.length := by simpa using h
              omega
            refine tr_exit (at_then_exit (at_loop_exit (at_block_exit (at_then (tr_frz 4000000 rfl rfl rfl (rr rfl (tr_ret (at_ret TT_ok rfl (AVle.of_eq ?_)))))))))
            rw [← hV]
            unfold integralL
            refine congrArg (fun x => AV.c (C.S .z x)) ?_
            apply List.map_congr_left
            intro j hj
            rw [if_pos (by simp at hj; omega)]
        · have h4 : ¬ xN cs (cs.length - 1) < 0 := by
            have h4 : ¬ sgn (xN cs (cs.length - 1)) < 0 := by simpa using h4
            unfold sgn at h4
            split at h4
            · omega
            · assumption
          refine tr_skip (at_then ?_)
          have hbox : (Blk.box 44 0 (av .z (gN cs cs.length))) = .box 44 0 (av .z (gF cs)) := by
            unfold gF; rw [if_neg (fun h => h4 h.2)]
          have hvec : (Blk.vec 44 .z ((List.range cs.length).map (xN cs))) = .vec 44 .z ((List.range cs.length).map (xN cs)) := rfl
          refine tr_wk (st' := ⟨[(9, .c (.X 4000000)), (10, .c (.P 5001000 0))], [(4000000, .vec 44 .z ((List.range cs.length).map (xN cs))), (5001000, .box 44 0 (av .z (gF cs)))], 10, []⟩) (wk ⟨⟨_, rfl, AVle.refl _⟩, ⟨_, rfl, AVle.refl _⟩, trivial⟩ ⟨⟨_, rfl, BLe.of_eq hvec⟩, ⟨_, rfl, BLe.of_eq hbox⟩, trivial⟩) ?_
          refine tr_seq (rr rfl ?_)
          refine tr_block (tr_loop (α := Nat) (fun i => ⟨[(9, .c (.X 4000000)), (10, .c (.P 5001000 0)), (13, cI i)], [(4000000, .vec 44 .z ((List.range cs.length).map (fun j => if j < i then xN cs j / gF cs else xN cs j))), (5001000, .box 44 0 (av .z (gF cs)))], 11, []⟩) (fun i => i ≤ cs.length) (fun i => cs.length - i) 0 (Nat.zero_le _) (wk ⟨⟨_, rfl, AVle.refl _⟩, ⟨_, rfl, AVle.refl _⟩, ⟨_, rfl, AVle.refl _⟩, trivial⟩ ⟨⟨_, rfl, BLe.of_eq (by simp)⟩, ⟨_, rfl, BLe.refl _⟩, trivial⟩) ?_)
          intro i hi
          generalize hV : (List.range cs.length).map (fun j => if j < i then xN cs j / gF cs else xN cs j) = V
          have hVl : V.length = cs.length := by rw [← hV]; simp
          refine tr_seq (rr rfl ?_)
          refine tr_cond rfl (fun h => ?_) (fun h => ?_)
          · have h : i < cs.length := by
              have h : (i : Int) < V.length := by simpa using h
              omega
            have hVi : V.getD (i : Int).toNat 0 = xN cs i := by
              rw [Int.toNat_natCast, ← hV]
              simp [List.getD_eq_getElem?_getD, h]
            have hG := gF_ok cs hnum hden hlast (by omega)
            have hxs := xN_small cs hnum hden i
            refine tr_skip (at_then (tr_seq (tr_block (rb ?_))))
            refine rc rfl rfl (rDivMod_s (V.getD (i : Int).toNat 0) (gF cs) hG.1 (.inr (by omega)) (Sm.of (by rw [hVi]; omega)) (Sm.of (by omega))) (re rfl (rbt ?_))
            refine rsv (V.getD (i : Int).toNat 0 / gF cs) rfl rfl rfl rfl rfl (by rw [Int.toNat_natCast]; omega) (re rfl ?_)
            refine at_block (at_then (rt rfl (at_loop (i + 1) (by omega) (by show cs.length - (i + 1) < cs.length - i; omega) (wk ⟨⟨_, rfl, AVle.refl _⟩, ⟨_, rfl, AVle.refl _⟩, ⟨_, rfl, AVle.of_eq rfl⟩, trivial⟩ ⟨⟨_, rfl, BLe.of_eq ?_⟩, ⟨_, rfl, BLe.refl _⟩, trivial⟩))))
            rw [hVi, Int.toNat_natCast, ← hV]
            congr 1
            apply List.ext_getElem
            · simp
            · intro j h1 h2
              simp only [List.getElem_set, List.getElem_map, List.getElem_range]
              by_cases e : i = j
              · subst e; simp
              · rw [if_neg e]
                by_cases hj : j < i
                · rw [if_pos hj, if_pos (by omega)]
                · rw [if_neg hj, if_neg (by omega)]
          · have h : ¬ i < cs.length := by
              have h : ¬ (i : Int) < V.length := by simpa using h
              omega
            refine tr_exit (at_then_exit (at_loop_exit (at_block_exit (at_then (tr_frz 4000000 rfl rfl rfl (rr rfl (tr_ret (at_ret TT_ok rfl (AVle.of_eq ?_)))))))))
            rw [← hV]
            unfold integralL
            refine congrArg (fun x => AV.c (C.S .z x)) ?_
            apply List.map_congr_left
            intro j hj
            rw [if_pos (by simp at hj; omega)]
      · have h3 : ¬ 0 < cs.length := by
          have h3 : ¬ (cs.length : Int) > 0 := by simpa using h3
          omega
        refine re rfl (tr_cond rfl (fun h4 => by simp at h4) (fun _ => ?_))
        refine tr_skip (at_then ?_)
        have hbox : (Blk.box 44 0 (av .z (gN cs cs.length))) = .box 44 0 (av .z (gF cs)) := by
          unfold gF; rw [if_neg (fun h => h3 h.1)]
        have hvec : (Blk.vec 44 .z ((List.range cs.length).map (xN cs))) = .vec 44 .z ((List.range cs.length).map (xN cs)) := rfl
        refine tr_wk (st' := ⟨[(9, .c (.X 4000000)), (10, .c (.P 5001000 0))], [(4000000, .vec 44 .z ((List.range cs.length).map (xN cs))), (5001000, .box 44 0 (av .z (gF cs)))], 10, []⟩) (wk ⟨⟨_, rfl, AVle.refl _⟩, ⟨_, rfl, AVle.refl _⟩, trivial⟩ ⟨⟨_, rfl, BLe.of_eq hvec⟩, ⟨_, rfl, BLe.of_eq hbox⟩, trivial⟩) ?_
        refine tr_seq (rr rfl ?_)
        refine tr_block (tr_loop (α := Nat) (fun i => ⟨[(9, .c (.X 4000000)), (10, .c (.P 5001000 0)), (13, cI i)], [(4000000, .vec 44 .z ((List.range cs.length).map (fun j => if j < i then xN cs j / gF cs else xN cs j))), (5001000, .box 44 0 (av .z (gF cs)))], 11, []⟩) (fun i => i ≤ cs.length) (fun i => cs.length - i) 0 (Nat.zero_le _) (wk ⟨⟨_, rfl, AVle.refl _⟩, ⟨_, rfl, AVle.refl _⟩, ⟨_, rfl, AVle.refl _⟩, trivial⟩ ⟨⟨_, rfl, BLe.of_eq (by simp)⟩, ⟨_, rfl, BLe.refl _⟩, trivial⟩) ?_)
        intro i hi
        generalize hV : (List.range cs.length).map (fun j => if j < i then xN cs j / gF cs else xN cs j) = V
        have hVl : V.length = cs.length := by rw [← hV]; simp
        refine tr_seq (rr rfl ?_)
        refine tr_cond rfl (fun h => ?_) (fun h => ?_)
        · have h : i < cs.length := by
            have h : (i : Int) < V.length := by simpa using h
            omega
          have hVi : V.getD (i : Int).toNat 0 = xN cs i := by
            rw [Int.toNat_natCast, ← hV]
            simp [List.getD_eq_getElem?_getD, h]
          have hG := gF_ok cs hnum hden hlast (by omega)
          have hxs := xN_small cs hnum hden i
          refine tr_skip (at_then (tr_seq (tr_block (rb ?_))))
          refine rc rfl rfl (rDivMod_s (V.getD (i : Int).toNat 0) (gF cs) hG.1 (.inr (by omega)) (Sm.of (by rw [hVi]; omega)) (Sm.of (by omega))) (re rfl (rbt ?_))
          refine rsv (V.getD (i : Int).toNat 0 / gF cs) rfl rfl rfl rfl rfl (by rw [Int.toNat_natCast]; omega) (re rfl ?_)
          refine at_block (at_then (rt rfl (at_loop (i + 1) (by omega) (by show cs.length - (i + 1) < cs.length - i; omega) (wk ⟨⟨_, rfl, AVle.refl _⟩, ⟨_, rfl, AVle.refl _⟩, ⟨_, rfl, AVle.of_eq rfl⟩, trivial⟩ ⟨⟨_, rfl, BLe.of_eq ?_⟩, ⟨_, rfl, BLe.refl _⟩, trivial⟩))))
          rw [hVi, Int.toNat_natCast, ← hV]
          congr 1
          apply List.ext_getElem
          · simp
          · intro j h1 h2
            simp only [List.getElem_set, List.getElem_map, List.getElem_range]
            by_cases e : i = j
            · subst e; simp
            · rw [if_neg e]
              by_cases hj : j < i
              · rw [if_pos hj, if_pos (by omega)]
              · rw [if_neg hj, if_neg (by omega)]
        · have h : ¬ i < cs.length := by
            have h : ¬ (i : Int) < V.length := by simpa using h
            omega
          refine tr_exit (at_then_exit (at_loop_exit (at_block_exit (at_then (tr_frz 4000000 rfl rfl rfl (rr rfl (tr_ret (at_ret TT_ok rfl (AVle.of_eq ?_)))))))))
          rw [← hV]
          unfold integralL
          refine congrArg (fun x => AV.c (C.S .z x)) ?_
          apply List.map_congr_left
          intro j hj
          rw [if_pos (by simp at hj; omega)]
end Go.El

/- Contracts: integers of the program: words, sums. Own work; no condition. -/
namespace Go.El
open Go Go.Proofs

theorem iwords_s (m : Nat) (hm : m < 18446744073709551616) : FnS Tryz.prog 169 [cU m] (cS U32 (wordsN m)) := by
  refine fs_intro Tryz.func169 rfl rfl rfl rfl rfl (by decide) ?_
  refine rr rfl (rb ?_)
  have e1 : IntKind.wrap .u32 (m : Int) = ((m % 4294967296 : Nat) : Int) := by simp [IntKind.wrap, IntKind.bits, IntKind.signed]
  have e2 : IntKind.wrap .u32 ((m : Int).fdiv (2 ^ (min (32 : Int).toNat (IntKind.bits .u64)))) = ((m / 4294967296 : Nat) : Int) := by
    have : (m : Int).fdiv (2 ^ (min (32 : Int).toNat (IntKind.bits .u64))) = ((m / 4294967296 : Nat) : Int) := by
      rw [Int.fdiv_eq_ediv_of_nonneg _ (by decide)]; rfl
    rw [this, wrap_u32 _ (by omega) (by omega)]
  refine rl U32 [_, _] rfl rfl ?_
  refine rc rfl rfl (trim_s _) ?_
  refine re rfl (tr_ret (at_ret TT_ok rfl (AVle.of_eq ?_)))
  rw [e1, e2, two_words m hm]
theorem isigned_z (neg : Bool) (m : Nat) : FnS Tryz.prog 168 [cB neg, cS U32 (wordsN m)] (aZ (sg neg m)) := by
  refine fs_intro Tryz.func168 rfl rfl rfl rfl rfl (by decide) ?_
  have ht := trim_s (wordsN m)
  rw [trimW_words] at ht
  refine rr rfl (rb (rc rfl rfl ht (re rfl (tr_seq (rr rfl ?_)))))
  refine tr_cond rfl (fun h => ?_) (fun h => ?_)
  · have h : (wordsN m).length = 0 := by
      have h : ((wordsN m).length : Int) = 0 := by simpa using h
      omega
    have h0 : m = 0 := Decidable.byContradiction fun hne => by have := words_nil.2 hne; omega
    subst h0
    refine rr rfl (tr_ret (at_then_ret (at_ret TT_ok rfl ?_)))
    have e : sg neg 0 = 0 := by cases neg <;> rfl
    rw [e]
    refine ⟨?_, fun id hid => by cases hid⟩
    rintro g v ⟨vs, rfl, v1, r, rfl, h1, v2, r2, rfl, h2, rfl⟩
    have h2 : v2 = .slice none 0 0 := h2
    exact ⟨_, rfl, v1, _, rfl, h1, v2, _, rfl, by rw [h2]; exact nilW g.H, rfl⟩
  · have h : (wordsN m).length ≠ 0 := by
      have h : ¬ ((wordsN m).length : Int) = 0 := by simpa using h
      omega
    refine tr_skip (at_then (rr rfl (tr_ret (at_ret TT_ok rfl (AVle.of_eq ?_)))))
    rw [← mkZ]
    have e : (neg && decide (0 < (wordsN m).length)) = neg := by
      have : 0 < (wordsN m).length := by omega
      simp [this]
    rw [e]; rfl
theorem iclone_s (ws : List Int) (hl : ws.length ≤ 1099511627776) : FnS Tryz.prog 170 [cS U32 ws] (cS U32 ws) := by
  refine fs_intro Tryz.func170 rfl rfl rfl rfl rfl (by decide) ?_
  refine rr rfl (rb (ran rfl rfl rfl rfl rfl rfl rfl rfl ?_ ?_ (re rfl (tr_frz 1001000 rfl rfl rfl (tr_ret (at_ret TT_ok rfl (AVle.refl _)))))))
  · show (_ + _ / 4 + 192) * 4 ≤ _; omega
  · show _ * 1 ≤ _; omega
theorem iOf_s (n : Int) (h0 : -9223372036854775808 ≤ n) (h1 : n ≤ 9223372036854775807) : FnS Tryz.prog 100 [cI n] (aZ n) := by
  refine fs_intro Tryz.func100 rfl rfl rfl rfl rfl (by decide) ?_
  refine rr rfl (rr rfl (tr_seq (rr rfl ?_)))
  refine tr_cond rfl (fun h => ?_) (fun h => ?_)
  · have h : n < 0 := by simpa using h
    have e : IntKind.wrap .u64 (0 - IntKind.wrap .u64 n) = ((-n).toNat : Nat) := by
      simp [IntKind.wrap, IntKind.bits, IntKind.signed]; omega
    refine rt rfl (at_then (rb ?_))
    refine rc rfl rfl (f := 169) (r := cS U32 (wordsN (-n).toNat)) (by rw [show (AV.c (num .u64 (0 - IntKind.wrap .u64 n)).1) = cU (((-n).toNat : Nat) : Int) from congrArg (fun x => AV.c (C.I .u64 x)) e]; exact iwords_s _ (by omega)) ?_
    refine rc rfl rfl (isigned_z _ _) (re rfl (tr_ret (at_ret TT_ok rfl (AVle.of_eq ?_))))
    have e2 : sg (decide (n < 0)) (-n).toNat = n := by unfold sg; simp [h]; omega
    exact congrArg aZ e2
  · have h : ¬ n < 0 := by simpa using h
    have e : IntKind.wrap .u64 n = (n.toNat : Nat) := by
      rw [wrap_u64 _ (by omega) (by omega)]; omega
    refine tr_skip (at_then (rb ?_))
    refine rc rfl rfl (f := 169) (r := cS U32 (wordsN n.toNat)) (by rw [show (AV.c (num .u64 n).1) = cU ((n.toNat : Nat) : Int) from congrArg (fun x => AV.c (C.I .u64 x)) e]; exact iwords_s _ (by omega)) ?_
    refine rc rfl rfl (isigned_z _ _) (re rfl (tr_ret (at_ret TT_ok rfl (AVle.of_eq ?_))))
    have e2 : sg (decide (n < 0)) n.toNat = n := by unfold sg; simp [h]; omega
    exact congrArg aZ e2
theorem iSign_s (a : Int) : FnS Tryz.prog 101 [aZ a] (cI (sgn a)) := by
  refine fs_intro Tryz.func101 rfl rfl rfl rfl rfl (by decide) ?_
  refine rr rfl (tr_seq (rr rfl ?_))
  refine tr_cond rfl (fun h => ?_) (fun h => ?_)
  · have h : a = 0 := by
      have h : ((zmag a).length : Int) = 0 := by simpa using h
      have : a.natAbs = 0 := Decidable.byContradiction fun hne => by have := words_nil.2 hne; unfold zmag at h; omega
      omega
    refine rr rfl (tr_ret (at_then_ret (at_ret TT_ok rfl (AVle.of_eq ?_))))
    rw [h]; rfl
  · have h : a ≠ 0 := by
      have h : ¬ ((zmag a).length : Int) = 0 := by simpa using h
      intro h0; subst h0; exact h rfl
    refine tr_skip (at_then (tr_seq (rr rfl ?_)))
    refine tr_cond rfl (fun h2 => ?_) (fun h2 => ?_)
    · have h2 : a < 0 := by simpa [zneg] using h2
      refine rr rfl (tr_ret (at_then_ret (at_ret TT_ok rfl (AVle.of_eq ?_))))
      rw [sgn, if_pos h2]; rfl
    · have h2 : ¬ a < 0 := by simpa [zneg] using h2
      refine tr_skip (at_then (rr rfl (tr_ret (at_ret TT_ok rfl (AVle.of_eq ?_)))))
      rw [sgn, if_neg h2, if_neg h]; rfl
theorem iNeg_s (a : Int) (ha : Sm a) : FnS Tryz.prog 102 [aZ a] (aZ (-a)) := by
  refine fs_intro Tryz.func102 rfl rfl rfl rfl rfl (by decide) ?_
  refine rr rfl (rb (rc rfl rfl (iclone_s _ ha) (rc rfl rfl (isigned_z (!zneg a) a.natAbs) (re rfl (tr_ret (at_ret TT_ok rfl (AVle.of_eq ?_)))))))
  have e2 : sg (!zneg a) a.natAbs = -a := by
    unfold sg zneg
    by_cases h : a < 0
    · simp [h]; omega
    · simp [h]; omega
  exact congrArg aZ e2
set_option maxHeartbeats 2000000 in
theorem isum_s (a b : List Int) (ha : rng a) (hb : rng b) (la : a.length ≤ 1099511627776) (lb : b.length ≤ 1099511627776) : FnS Tryz.prog 171 [cS U32 a, cS U32 b] (cS U32 (wordsN (val a + val b).toNat)) := by
  refine fs_intro Tryz.func171 rfl rfl rfl rfl rfl (by decide) ?_
  refine rr rfl (tr_seq (rr rfl ?_))
  refine tr_cond rfl (fun h => ?_) (fun h => ?_)
  · have hl : a.length ≤ b.length := by
      have h : a.length < b.length := by simpa using h
      omega
    rw [Int.add_comm (val a)]
    refine rt rfl (at_then ?_)
    revert ha hb la lb hl
    generalize b = X
    generalize a = Y
    intro hY hX lY lX hl
    refine tr_wk (st' := ⟨[(0, cS U32 X), (1, cS U32 Y)], [], 30, []⟩) (wk ⟨⟨_, rfl, AVle.refl _⟩, ⟨_, rfl, AVle.refl _⟩, trivial⟩ trivial) (rb ?_)
    refine rm U32 (X.length + 1) rfl rfl rfl rfl rfl rfl (zr_int .u32) rfl ?_ ?_ ?_
    · show _ * 4 ≤ _; omega
    · show _ * 1 ≤ _; omega
    refine re rfl (rr rfl (tr_seq (rr rfl ?_)))
    refine tr_block (tr_loop (α := Nat × List Int × Int) (fun x => ⟨[(0, cS U32 X), (1, cS U32 Y), (5, .c (.X 30003000)), (6, cU x.2.2), (21, cI X.length), (22, cI x.1)], [(30003000, .vec 23 U32 x.2.1)], 33, []⟩) (fun x => AddI X Y (X.length + 1) x ∧ x.1 ≤ X.length) (fun x => X.length - x.1) (0, List.replicate (X.length + 1) 0, 0) ?_ ?_ ?_)
    · refine ⟨⟨Nat.zero_le _, by simp, rng_rep _, ?_, Int.le_refl _, (by show (0 : Int) ≤ 1; decide), by simp [val_rep, val]⟩, Nat.zero_le _⟩
      intro j _
      simp only [List.getD_eq_getElem?_getD, List.getElem?_replicate]
      split <;> rfl
    · exact wk ⟨⟨_, rfl, AVle.refl _⟩, ⟨_, rfl, AVle.refl _⟩, ⟨_, rfl, AVle.refl _⟩, ⟨_, rfl, AVle.refl _⟩, ⟨_, rfl, AVle.refl _⟩, ⟨_, rfl, AVle.refl _⟩, trivial⟩ ⟨⟨_, rfl, BLe.refl _⟩, trivial⟩
    · rintro ⟨i, o, c⟩ ⟨hI, hi⟩
      have hi : i ≤ X.length := hi
      have hlen : o.length = X.length + 1 := hI.len
      have hc0 : 0 ≤ c := hI.c0
      have hc1 : c ≤ 1 := hI.c1
      have ga := rng_get hX i
      have gb := rng_get hY i
      refine rr rfl (tr_seq ?_)
      refine tr_cond rfl (fun h => ?_) (fun h => ?_)
      · have h : i < X.length := by simpa using h
        have hn := hI.next (by show i < X.length + 1; omega) hX hY
        simp only at hn
        generalize ht : X.getD i 0 + Y.getD i 0 + c = s at hn
        have e1 : IntKind.wrap .u32 s = s % 4294967296 := by
          simp [IntKind.wrap, IntKind.bits, IntKind.signed]
        have e2 : s.fdiv (2 ^ (min (32 : Int).toNat (IntKind.bits .u64))) = s / 4294967296 := by
          rw [Int.fdiv_eq_ediv_of_nonneg _ (by decide)]; rfl
        refine tr_skip (at_then (tr_seq (tr_block (rr rfl (rr rfl (tr_seq (rr rfl ?_)))))))
        refine tr_cond rfl (fun h2 => ?_) (fun h2 => ?_)
        · have h2 : i < Y.length := by simpa using h2
          refine rt rfl (at_then ?_)
          have e0 : IntKind.wrap .u64 (IntKind.wrap .u64 (IntKind.wrap .u64 (X.getD (i : Int).toNat 0) + c) + IntKind.wrap .u64 (Y.getD (i : Int).toNat 0)) = s := by
            rw [Int.toNat_natCast, wrap_u64 (X.getD i 0) (by omega) (by omega), wrap_u64 (Y.getD i 0) (by omega) (by omega), wrap_u64 (X.getD i 0 + c) (by omega) (by omega), wrap_u64 _ (by omega) (by omega)]; omega
          refine tr_wk (st' := ⟨[(0, cS U32 X), (1, cS U32 Y), (5, .c (.X 30003000)), (7, cI i), (8, cU s), (21, cI X.length), (22, cI i)], [(30003000, .vec 23 U32 o)], 40, []⟩) (wk ⟨⟨_, rfl, AVle.refl _⟩, ⟨_, rfl, AVle.refl _⟩, ⟨_, rfl, AVle.refl _⟩, ⟨_, rfl, AVle.refl _⟩, ⟨_, rfl, AVle.of_eq (congrArg (fun x => AV.c (C.I .u64 x)) e0)⟩, ⟨_, rfl, AVle.refl _⟩, ⟨_, rfl, AVle.refl _⟩, trivial⟩ ⟨⟨_, rfl, BLe.refl _⟩, trivial⟩) ?_
          refine rr rfl (rt rfl (at_block (at_then (rt rfl (at_loop (i + 1, o.set i (s % 4294967296), s / 4294967296) ⟨hn, by show i + 1 ≤ X.length; omega⟩ (by show X.length - (i + 1) < X.length - i; omega) (wk ⟨⟨_, rfl, AVle.refl _⟩, ⟨_, rfl, AVle.refl _⟩, ⟨_, rfl, AVle.refl _⟩, ⟨_, rfl, AVle.of_eq ?_⟩, ⟨_, rfl, AVle.refl _⟩, ⟨_, rfl, AVle.of_eq rfl⟩, trivial⟩ ⟨⟨_, rfl, BLe.of_eq ?_⟩, trivial⟩))))))
          · exact congrArg (fun x => AV.c (C.I .u64 x)) e2
          · rw [e1, Int.toNat_natCast]
        · have h2 : ¬ i < Y.length := by simpa using h2
          have hY0 : Y.getD i 0 = 0 := by simp [List.getD_eq_getElem?_getD, List.getElem?_eq_none (Nat.le_of_not_lt h2)]
          refine tr_skip (at_then ?_)
          have e0 : IntKind.wrap .u64 (IntKind.wrap .u64 (X.getD (i : Int).toNat 0) + c) = s := by
            rw [Int.toNat_natCast, wrap_u64 (X.getD i 0) (by omega) (by omega), wrap_u64 _ (by omega) (by omega)]; omega
          refine tr_wk (st' := ⟨[(0, cS U32 X), (1, cS U32 Y), (5, .c (.X 30003000)), (7, cI i), (8, cU s), (21, cI X.length), (22, cI i)], [(30003000, .vec 23 U32 o)], 40, []⟩) (wk ⟨⟨_, rfl, AVle.refl _⟩, ⟨_, rfl, AVle.refl _⟩, ⟨_, rfl, AVle.refl _⟩, ⟨_, rfl, AVle.refl _⟩, ⟨_, rfl, AVle.of_eq (congrArg (fun x => AV.c (C.I .u64 x)) e0)⟩, ⟨_, rfl, AVle.refl _⟩, ⟨_, rfl, AVle.refl _⟩, trivial⟩ ⟨⟨_, rfl, BLe.refl _⟩, trivial⟩) ?_
          refine rr rfl (rt rfl (at_block (at_then (rt rfl (at_loop (i + 1, o.set i (s % 4294967296), s / 4294967296) ⟨hn, by show i + 1 ≤ X.length; omega⟩ (by show X.length - (i + 1) < X.length - i; omega) (wk ⟨⟨_, rfl, AVle.refl _⟩, ⟨_, rfl, AVle.refl _⟩, ⟨_, rfl, AVle.refl _⟩, ⟨_, rfl, AVle.of_eq ?_⟩, ⟨_, rfl, AVle.refl _⟩, ⟨_, rfl, AVle.of_eq rfl⟩, trivial⟩ ⟨⟨_, rfl, BLe.of_eq ?_⟩, trivial⟩))))))
          · exact congrArg (fun x => AV.c (C.I .u64 x)) e2
          · rw [e1, Int.toNat_natCast]
      · have h : ¬ i < X.length := by simpa using h
        have hi : i = X.length := by omega
        subst hi
        have ec : IntKind.wrap .u32 c = c := wrap_u32 c hc0 (by omega)
        refine tr_exit (at_then_exit (at_loop_exit (at_block_exit (at_then (rr rfl ?_)))))
        refine tr_wk (st' := ⟨[(5, .c (.X 30003000))], [(30003000, .vec 23 U32 (o.set X.length c))], 40, []⟩) (wk ⟨⟨_, rfl, AVle.refl _⟩, trivial⟩ ⟨⟨_, rfl, BLe.of_eq ?_⟩, trivial⟩) ?_
        · rw [ec, Int.toNat_natCast]
        refine tr_frz 30003000 rfl rfl rfl (rb (rc rfl rfl (trim_s _) (re rfl (tr_ret (at_ret TT_ok rfl (AVle.of_eq ?_))))))
        have hr : rng (o.set X.length c) := rng_set hI.r _ ⟨hc0, by omega⟩
        have hv := hI.v
        simp only [List.take_length] at hv
        rw [val_take_ge Y X.length hl] at hv
        rw [trimW_eq hr, val_put o X.length c (by omega) (hI.z X.length (Nat.le_refl _)), hv]
  · have hl : b.length ≤ a.length := by
      have h : ¬ a.length < b.length := by simpa using h
      omega
    refine tr_skip (at_then ?_)
    revert ha hb la lb hl
    generalize a = X
    generalize b = Y
    intro hX hY lX lY hl
    refine tr_wk (st' := ⟨[(0, cS U32 X), (1, cS U32 Y)], [], 30, []⟩) (wk ⟨⟨_, rfl, AVle.refl _⟩, ⟨_, rfl, AVle.refl _⟩, trivial⟩ trivial) (rb ?_)
    refine rm U32 (X.length + 1) rfl rfl rfl rfl rfl rfl (zr_int .u32) rfl ?_ ?_ ?_
    · show _ * 4 ≤ _; omega
    · show _ * 1 ≤ _; omega
    refine re rfl (rr rfl (tr_seq (rr rfl ?_)))
    refine tr_block (tr_loop (α := Nat × List Int × Int) (fun x => ⟨[(0, cS U32 X), (1, cS U32 Y), (5, .c (.X 30003000)), (6, cU x.2.2), (21, cI X.length), (22, cI x.1)], [(30003000, .vec 23 U32 x.2.1)], 33, []⟩) (fun x => AddI X Y (X.length + 1) x ∧ x.1 ≤ X.length) (fun x => X.length - x.1) (0, List.replicate (X.length + 1) 0, 0) ?_ ?_ ?_)
    · refine ⟨⟨Nat.zero_le _, by simp, rng_rep _, ?_, Int.le_refl _, (by show (0 : Int) ≤ 1; decide), by simp [val_rep, val]⟩, Nat.zero_le _⟩
      intro j _
      simp only [List.getD_eq_getElem?_getD, List.getElem?_replicate]
      split <;> rfl
    · exact wk ⟨⟨_, rfl, AVle.refl _⟩, ⟨_, rfl, AVle.refl _⟩, ⟨_, rfl, AVle.refl _⟩, ⟨_, rfl, AVle.refl _⟩, ⟨_, rfl, AVle.refl _⟩, ⟨_, rfl, AVle.refl _⟩, trivial⟩ ⟨⟨_, rfl, BLe.refl _⟩, trivial⟩
    · rintro ⟨i, o, c⟩ ⟨hI, hi⟩
      have hi : i ≤ X.length := hi
      have hlen : o.length = X.length + 1 := hI.len
      have hc0 : 0 ≤ c := hI.c0
      have hc1 : c ≤ 1 := hI.c1
      have ga := rng_get hX i
      have gb := rng_get hY i
      refine rr rfl (tr_seq ?_)
      refine tr_cond rfl (fun h => ?_) (fun h => ?_)
      · have h : i < X.length := by simpa using h
        have hn := hI.next (by show i < X.length + 1; omega) hX hY
        simp only at hn
        generalize ht : X.getD i 0 + Y.getD i 0 + c = s at hn
        have e1 : IntKind.wrap .u32 s = s % 4294967296 := by
          simp [IntKind.wrap, IntKind.bits, IntKind.signed]
        have e2 : s.fdiv (2 ^ (min (32 : Int).toNat (IntKind.bits .u64))) = s / 4294967296 := by
          rw [Int.fdiv_eq_ediv_of_nonneg _ (by decide)]; rfl
        refine tr_skip (at_then (tr_seq (tr_block (rr rfl (rr rfl (tr_seq (rr rfl ?_)))))))
        refine tr_cond rfl (fun h2 => ?_) (fun h2 => ?_)
        · have h2 : i < Y.length := by simpa using h2
          refine rt rfl (at_then ?_)
          have e0 : IntKind.wrap .u64 (IntKind.wrap .u64 (IntKind.wrap .u64 (X.getD (i : Int).toNat 0) + c) + IntKind.wrap .u64 (Y.getD (i : Int).toNat 0)) = s := by
            rw [Int.toNat_natCast, wrap_u64 (X.getD i 0) (by omega) (by omega), wrap_u64 (Y.getD i 0) (by omega) (by omega), wrap_u64 (X.getD i 0 + c) (by omega) (by omega), wrap_u64 _ (by omega) (by omega)]; omega
          refine tr_wk (st' := ⟨[(0, cS U32 X), (1, cS U32 Y), (5, .c (.X 30003000)), (7, cI i), (8, cU s), (21, cI X.length), (22, cI i)], [(30003000, .vec 23 U32 o)], 40, []⟩) (wk ⟨⟨_, rfl, AVle.refl _⟩, ⟨_, rfl, AVle.refl _⟩, ⟨_, rfl, AVle.refl _⟩, ⟨_, rfl, AVle.refl _⟩, ⟨_, rfl, AVle.of_eq (congrArg (fun x => AV.c (C.I .u64 x)) e0)⟩, ⟨_, rfl, AVle.refl _⟩, ⟨_, rfl, AVle.refl _⟩, trivial⟩ ⟨⟨_, rfl, BLe.refl _⟩, trivial⟩) ?_
          refine rr rfl (rt rfl (at_block (at_then (rt rfl (at_loop (i + 1, o.set i (s % 4294967296), s / 4294967296) ⟨hn, by show i + 1 ≤ X.length; omega⟩ (by show X.length - (i + 1) < X.length - i; omega) (wk ⟨⟨_, rfl, AVle.refl _⟩, ⟨_, rfl, AVle.refl _⟩, ⟨_, rfl, AVle.refl _⟩, ⟨_, rfl, AVle.of_eq ?_⟩, ⟨_, rfl, AVle.refl _⟩, ⟨_, rfl, AVle.of_eq rfl⟩, trivial⟩ ⟨⟨_, rfl, BLe.of_eq ?_⟩, trivial⟩))))))
          · exact congrArg (fun x => AV.c (C.I .u64 x)) e2
          · rw [e1, Int.toNat_natCast]
        · have h2 : ¬ i < Y.length := by simpa using h2
          have hY0 : Y.getD i 0 = 0 := by simp [List.getD_eq_getElem?_getD, List.getElem?_eq_none (Nat.le_of_not_lt h2)]
          refine tr_skip (at_then ?_)
          have e0 : IntKind.wrap .u64 (IntKind.wrap .u64 (X.getD (i : Int).toNat 0) + c) = s := by
            rw [Int.toNat_natCast, wrap_u64 (X.getD i 0) (by omega) (by omega), wrap_u64 _ (by omega) (by omega)]; omega
          refine tr_wk (st' := ⟨[(0, cS U32 X), (1, cS U32 Y), (5, .c (.X 30003000)), (7, cI i), (8, cU s), (21, cI X.length), (22, cI i)], [(30003000, .vec 23 U32 o)], 40, []⟩) (wk ⟨⟨_, rfl, AVle.refl _⟩, ⟨_, rfl, AVle.refl _⟩, ⟨_, rfl, AVle.refl _⟩, ⟨_, rfl, AVle.refl _⟩, ⟨_, rfl, AVle.of_eq (congrArg (fun x => AV.c (C.I .u64 x)) e0)⟩, ⟨_, rfl, AVle.refl _⟩, ⟨_, rfl, AVle.refl _⟩, trivial⟩ ⟨⟨_, rfl, BLe.refl _⟩, trivial⟩) ?_
          refine rr rfl (rt rfl (at_block (at_then (rt rfl (at_loop (i + 1, o.set i (s % 4294967296), s / 4294967296) ⟨hn, by show i + 1 ≤ X.length; omega⟩ (by show X.length - (i + 1) < X.length - i; omega) (wk ⟨⟨_, rfl, AVle.refl _⟩, ⟨_, rfl, AVle.refl _⟩, ⟨_, rfl, AVle.refl _⟩, ⟨_, rfl, AVle.of_eq ?_⟩, ⟨_, rfl, AVle.refl _⟩, ⟨_, rfl, AVle.of_eq rfl⟩, trivial⟩ ⟨⟨_, rfl, BLe.of_eq ?_⟩, trivial⟩))))))
          · exact congrArg (fun x => AV.c (C.I .u64 x)) e2
          · rw [e1, Int.toNat_natCast]
      · have h : ¬ i < X.length := by simpa using h
        have hi : i = X.length := by omega
        subst hi
        have ec : IntKind.wrap .u32 c = c := wrap_u32 c hc0 (by omega)
        refine tr_exit (at_then_exit (at_loop_exit (at_block_exit (at_then (rr rfl ?_)))))
        refine tr_wk (st' := ⟨[(5, .c (.X 30003000))], [(30003000, .vec 23 U32 (o.set X.length c))], 40, []⟩) (wk ⟨⟨_, rfl, AVle.refl _⟩, trivial⟩ ⟨⟨_, rfl, BLe.of_eq ?_⟩, trivial⟩) ?_
        · rw [ec, Int.toNat_natCast]
        refine tr_frz 30003000 rfl rfl rfl (rb (rc rfl rfl (trim_s _) (re rfl (tr_ret (at_ret TT_ok rfl (AVle.of_eq ?_))))))
        have hr : rng (o.set X.length c) := rng_set hI.r _ ⟨hc0, by omega⟩
        have hv := hI.v
        simp only [List.take_length] at hv
        rw [val_take_ge Y X.length hl] at hv
        rw [trimW_eq hr, val_put o X.length c (by omega) (hI.z X.length (Nat.le_refl _)), hv]
end Go.El

/- The engine, part 38: arrays, indexes into arrays and strings, slices held against nil. Own work; no condition. -/
namespace Go.El
open Go Go.RowKit

/-- Is a slice nil? -/
def nilS : AV → Option Bool
  | .c (.V (.slice none 0 0)) => some true
  | .c (.L _ _ _ _) => some false
  | .c (.S _ (_ :: _)) => some false
  | _ => none
def slKind (tt : TT) (t : Nat) : Bool := match lookA t tt with
  | some ti => (match ti.kind with | .sl _ => true | _ => false)
  | none => false
def strAt (s : ByteArray) (i : Int) : Option Int := match s[i.toNat]? with
  | some b => some b.toNat
  | none => none
/-- A slice held against nil. -/
def nilT (tt : TT) (op : BinOp) (t : Nat) (v w : AV) : Option AV := match w with
  | .c (.V (.slice none 0 0)) => (match slKind tt t, nilS v with
    | true, some b => (match op with
      | .eql => some (.c (.B b))
      | .neq => some (.c (.B (!b)))
      | _ => none)
    | _, _ => none)
  | _ => none
def evalM (tt : TT) (st : St) : Op → Option (AV × Pr)
  | .build t parts => (match lookA t tt with
    | some ti => (match ti.kind with
      | .arr len E => (match lookA E tt with
        | some ei => (match fillC (slPlaces ei.size 0 len) st (ti.zero.map ZV.toC) parts.toList with
          | some cs => some (.a cs, .t)
          | none => none)
        | none => none)
      | _ => none)
    | none => none)
  | .index t x i => (match st.ev x, st.ev i with
    | some (.a cs), some (.c (.I _ j)) => (match lookA t tt with
      | some ti => (match ti.kind with
        | .arr len E => (match tySz tt E with
          | some (sz, ag) => (match partA cs (j.toNat * sz) sz ag with
            | some u => some (u, .and (.le 0 j) (.lt j len))
            | none => none)
          | none => none)
        | _ => none)
      | none => none)
    | some (.c (.V (.string s))), some (.c (.I _ j)) => (match lookA t tt with
      | some ti => (match ti.kind, strAt s j with
        | .str, some b => some (.c (.I .u8 b), .le 0 j)
        | _, _ => none)
      | none => none)
    | _, _ => none)
  | .binOp op t x y _ => (match st.ev x, st.ev y with
    | some v, some w => (match nilT tt op t v w with
      | some u => some (u, .t)
      | none => none)
    | _, _ => none)
  | _ => none

section
variable {P : Program} {tt : TT} {g : Gh} {W : World}

theorem nilS_ok {v : AV} {b : Bool} (h : nilS v = some b) {u : Value} (hu : RelV g v u) : ∃ a l c, u = .slice a l c ∧ a.isNone = b := by
  unfold nilS at h
  split at h
  · cases h
    have hu' : u = .slice none 0 0 := hu
    exact ⟨none, 0, 0, hu', rfl⟩
  · rename_i id off len cap
    cases h
    cases cap with
    | some c => obtain ⟨b, _, rfl⟩ := hu; exact ⟨_, _, _, rfl, rfl⟩
    | none => obtain ⟨_, b, c, _, rfl, _⟩ := hu; exact ⟨_, _, _, rfl, rfl⟩
  · rename_i T x xs
    cases h
    obtain ⟨a, cap, rfl, _, _, h1⟩ := hu
    rcases h1 with h1 | ⟨b, off, rfl, _⟩
    · cases h1
    · exact ⟨_, _, _, rfl, rfl⟩
  · cases h
theorem run_equal_nil {t e : TypeId} (hu : P.underlying t = some (.slice e)) (a : Option Addr) (l c : Nat) : (Op.equal t (.slice a l c) (.slice none 0 0)).run P W = .ok a.isNone W := by
  rw [Op.equal, show Op.maxDepth = 9999 + 1 from rfl, Op.equalIn]
  cases a <;> simp [run_underlying hu]

theorem nil_fin (htt : ttB P tt = true) {F : Fix} {known : Nat → Prop} {σ : Kn} {g : Gh} {W : World} {a : Act} (hsem : Hold F known σ g W a) {o : Oper} {bo : BinOp} {t : TypeId} {y z : Operand} {ty : TypeId} (hop : o.op = .binOp bo t y z ty) {v : AV} {b : Bool} (hsk : slKind tt t = true) (hn : nilS v = some b) {x : AV}
    (he : (bo = .eql ∧ x = AV.c (.B b)) ∨ (bo = .neq ∧ x = AV.c (.B (!b)))) (h1 : RelV g v (a.eval y) ∧ ∀ id ∈ v.mids, known id) (hzv : a.eval z = .slice none 0 0) :
    (∀ id ∈ x.mids, known id) ∧ ∃ v, (execOp a.eval o).run P W = .ok (.value v) W ∧ RelV g x v := by
  obtain ⟨ad, l, c, hyv, hb⟩ := nilS_ok hn h1.1
  have hund : ∃ e, P.underlying t = some (.slice e) := by
    unfold slKind at hsk
    split at hsk
    · rename_i ti hti
      split at hsk
      · rename_i e hk
        have h2 := (ttB_ok htt hti).kind
        rw [hk] at h2
        exact ⟨e, h2⟩
      · cases hsk
    · cases hsk
  obtain ⟨e, hund⟩ := hund
  have hexec : execOp a.eval o = (do pure (.value (← (do eqGuard bo t y z (a.eval y) (a.eval z); binOp bo t (a.eval y) (a.eval z) : Go.Sem Value)))) := by rw [execOp, hop]
  have heq := run_equal_nil (P := P) (W := W) hund ad l c
  rcases he with ⟨rfl, rfl⟩ | ⟨rfl, rfl⟩
  · refine ⟨fun id hid => by simp [AV.mids, C.mids] at hid, .bool b, ?_, rfl⟩
    rw [hexec, hyv, hzv]
    simp [eqGuard, binOp, heq, Result.andThen, hb]
  · refine ⟨fun id hid => by simp [AV.mids, C.mids] at hid, .bool (!b), ?_, rfl⟩
    rw [hexec, hyv, hzv]
    simp [eqGuard, binOp, heq, Result.andThen, hb]

theorem evalM_sound (htt : ttB P tt = true) {ops : Array Oper} {i : Nat} {o : Oper} {d : Nat} (ho : ops[i]? = some o) (hg : o.guard = none) (hd : o.dst = some d) {n : Nat} (hdn : d < n)
    {st : St} {x : AV} {p : Pr} (he : evalM tt st o.op = some (x, p)) (hp : p) (new : Nat) : StepS P n ops i (rdV st o.op) [(.s d, some (.v x))] new := by
  refine stepS_val ho hg hd hdn _ x new ?_
  intro F known σ g W a hsem hrd
  have hrs : ∀ y ∈ o.op.operands, ∀ kx ∈ opd st y, σ kx.1 = some kx.2 := by
    intro y hy kx hkx
    exact hrd kx (List.mem_flatMap.2 ⟨y, by simpa using hy, hkx⟩)
  have hev : ∀ y ∈ o.op.operands, ∀ u, st.ev y = some u → RelV g u (a.eval y) ∧ ∀ id ∈ u.mids, known id := by
    intro y hy u hu
    exact ⟨ev_rel hsem st y u hu (hrs y hy), ev_mids hsem st y u hu (hrs y hy)⟩
  generalize hop : o.op = op at he hev hrs hrd
  unfold evalM at he
  split at he
  · -- an array literal
    rename_i t parts
    split at he
    · rename_i ti hti
      split at he
      · rename_i len E hk
        split at he
        · rename_i ei hei
          split at he
          · rename_i cs hcs
            cases he
            have h2 := (ttB_ok htt hti).kind
            rw [hk] at h2
            have hu : P.underlying t = some (.array len E) := h2
            obtain ⟨inf, hinf, hsz, _, z, hz, hzc⟩ := (ttB_ok htt hti).info
            obtain ⟨ie, hie, hse, _⟩ := (ttB_ok htt hei).info
            have hzr : RelL g (ti.zero.map ZV.toC) (ti.zero.map ZV.toV) := zeros_rel g ti.zero
            obtain ⟨us, hfill, hrel, hlen, hmid⟩ := fill_sound hsem st (slPlaces ei.size 0 len) (fun i => some (i * ei.size, ei.size)) (fun i y hy => by
                have := slPlaces_get ei.size len 0 i y hy
                rw [this, Nat.zero_add]) parts.toList _ cs _ hcs hzr (fun q hq kx hkx => hrd kx (List.mem_flatMap.2 ⟨q.2, by simp only [Op.operands]; simp only [List.mem_map]; exact ⟨q, hq, rfl⟩, hkx⟩)) (by rw [zeros_mids]; intro _ h; cases h)
            refine ⟨hmid, .agg us.toArray, ?_, us, rfl, hrel⟩
            have hzv : (zeroValue t).run P W = .ok z W := by
              simp [zeroValue, typeInfo, hinf, hz]
            have hzc' : z.cells = (ti.zero.map ZV.toV).toArray := by rw [← Array.toList_inj]; simpa using hzc
            have hexec : execOp a.eval o = (do pure (.value (← Instr.build t (parts.map fun (i, x) => (i, a.eval x))))) := by rw [execOp, hop]
            have hpm : (parts.map fun (i, x) => (i, a.eval x)).toList = parts.toList.map fun p => (p.1, a.eval p.2) := by simp
            have hb : (Instr.build t (parts.map fun (i, x) => (i, a.eval x))).run P W = .ok (.agg us.toArray) W := by
              unfold Instr.build
              rw [Sem.run_bind, hzv]
              simp only [Result.andThen]
              rw [Sem.run_bind, run_underlying hu]
              simp only [Result.andThen]
              rw [Sem.run_bind, run_sizeOf hie]
              simp only [Result.andThen, hpm, hzc', hse, hfill]
              rfl
            rw [hexec, Sem.run_bind, hb]
            rfl
          · cases he
        · cases he
      · cases he
    · cases he
  · -- an index
    rename_i t y j
    have hexec : execOp a.eval o = (do pure (.value (← Instr.index t (a.eval y) (a.eval j)))) := by rw [execOp, hop]
    split at he
    · rename_i cs k jj hy hj
      split at he
      · rename_i ti hti
        split at he
        · rename_i len E hk
          split at he
          · rename_i sz ag hts
            split at he
            · rename_i u hu
              cases he
              obtain ⟨hb1, hb2⟩ : 0 ≤ jj ∧ jj < (len : Int) := hp
              have h2 := (ttB_ok htt hti).kind
              rw [hk] at h2
              have hund : P.underlying t = some (.array len E) := h2
              obtain ⟨vs, hvs, hrel⟩ := (hev y (by simp [Op.operands]) _ hy).1
              have hjv : a.eval j = .int k jj := (hev j (by simp [Op.operands]) _ hj).1
              obtain ⟨hag, ⟨inf, hinf, hsz⟩, _⟩ := tySz_ok htt hts
              obtain ⟨v, hv, hvr⟩ := partA_sound (P := P) hrel hu hag hinf hsz W
              refine ⟨fun id hid => (hev y (by simp [Op.operands]) _ hy).2 id (partA_mids hu id hid), v, ?_, hvr⟩
              have hrun : (Instr.index t (a.eval y) (a.eval j)).run P W = .ok v W := by
                rw [hvs, hjv]
                unfold Instr.index
                simp only [asIntOf, Sem.run_bind, Sem.run_pure, Result.andThen, run_underlying hund, hb1, hb2, and_self, if_true, run_sizeOf hinf, hsz]
                exact hv
              rw [hexec, Sem.run_bind, hrun]
              rfl
            · cases he
          · cases he
        · cases he
      · cases he
    · rename_i s k jj hy hj
      split at he
      · rename_i ti hti
        split at he
        · rename_i b hk hb
          cases he
          have hb1 : 0 ≤ jj := hp
          have h2 := (ttB_ok htt hti).kind
          rw [hk] at h2
          have hund : P.underlying t = some .string := h2
          have hyv : a.eval y = .string s := (hev y (by simp [Op.operands]) _ hy).1
          have hjv : a.eval j = .int k jj := (hev j (by simp [Op.operands]) _ hj).1
          refine ⟨fun id hid => by simp [AV.mids, C.mids] at hid, .int .u8 b, ?_, rfl⟩
          have hrun : (Instr.index t (a.eval y) (a.eval j)).run P W = .ok (.int .u8 b) W := by
            rw [hyv, hjv]
            unfold strAt at hb
            unfold Instr.index
            simp only [asIntOf, Sem.run_bind, Sem.run_pure, Result.andThen, run_underlying hund, hb1, if_true]
            split at hb
            · rename_i bb hbb
              cases hb
              rw [hbb]
              rfl
            · cases hb
          rw [hexec, Sem.run_bind, hrun]
          rfl
        · cases he
      · cases he
    · cases he
  · -- nil
    rename_i bo t y z ty
    split at he
    · rename_i v w hy hz
      split at he
      · rename_i u0 hnt
        cases he
        unfold nilT at hnt
        split at hnt
        · split at hnt
          · rename_i b hsk hn
            have hnt' : (bo = .eql ∧ x = AV.c (.B b)) ∨ (bo = .neq ∧ x = AV.c (.B (!b))) := by
              split at hnt
              · cases hnt; exact .inl ⟨rfl, rfl⟩
              · cases hnt; exact .inr ⟨rfl, rfl⟩
              · cases hnt
            exact nil_fin htt hsem hop hsk hn hnt' (hev y (by simp [Op.operands]) _ hy) (hev z (by simp [Op.operands]) _ hz).1
          · cases hnt
        · cases hnt
      · cases he
    · cases he
  · cases he
end
end Go.El
