/- Contracts: integers of the program: products, powers of at most 12. Own work; no condition. -/
import Derived.Test.YtkkccchkmcjcpaaGreatL5
import Derived.Test.YtkkccchkmcjcpaaGreatL6
import Derived.Test.YtkkccchkmcjcpaaGreatL4
set_option linter.unusedVariables false
set_option linter.unusedSimpArgs false
namespace Go.El
open Go Go.Proofs
set_option maxHeartbeats 2000000 in
theorem iproduct_s (a b : List Int) (ha : rng a) (hb : rng b) (la : a.length ≤ 1099511627776) (lb : b.length ≤ 1099511627776) : FnS Tryz.prog 175 [cS U32 a, cS U32 b] (cS U32 (wordsN (val a * val b).toNat)) := by
 refine fs_intro Tryz.func175 rfl rfl rfl rfl rfl (by decide) ?_
 refine rr rfl (rb ?_)
 refine rm U32 (a.length + b.length) rfl rfl rfl rfl rfl rfl (zr_int .u32) rfl ?_ ?_ ?_
 ·show _ * 4 ≤ _; omega
 ·show _ * 1 ≤ _; omega
 refine re rfl (tr_seq (rr rfl ?_))
 refine tr_block (tr_loop (α := Nat × List Int) (fun x => ⟨[(0, cS U32 a), (1, cS U32 b), (5, .c (.X 1005000)), (18, cI a.length), (19, cI x.1)], [(1005000, .vec 23 U32 x.2)], 3, []⟩) (MulO a b) (fun x => a.length - x.1) (0, List.replicate (a.length + b.length) 0) ?_ ?_ ?_)
 ·refine ⟨Nat.zero_le _, by simp, rng_rep _, ?_, by simp [val_rep, val]⟩
  intro j _
  simp only [List.getD_eq_getElem?_getD, List.getElem?_replicate]
  split <;> rfl
 ·exact wk ⟨sR rfl, sR rfl, sR rfl, sR rfl, sR rfl, trivial⟩ ⟨bR rfl, trivial⟩
 ·rintro ⟨i, o⟩ hO
  have hlen : o.length = a.length + b.length := hO.len
  refine rr rfl (tr_seq ?_)
  refine tr_cond rfl (fun h => ?_) (fun h => ?_)
  ·have h : i < a.length := by simpa using h
   have ga := rng_get ha i
   refine tr_skip (at_then (tr_seq (tr_block (rr rfl (rr rfl (rr rfl (tr_seq (rr rfl ?_))))))))
   have ea : IntKind.wrap .u64 (a.getD (i : Int).toNat 0) = a.getD i 0 := by rw [Int.toNat_natCast, wrap_u64 _ (by omega) (by omega)]
   refine tr_block (tr_loop (α := Nat × List Int × Int) (fun x => ⟨[(0, cS U32 a), (1, cS U32 b), (5, .c (.X 1005000)), (6, cI i), (7, cU x.2.2), (8, cU (a.getD i 0)), (18, cI a.length), (19, cI i), (28, cI b.length), (29, cI x.1)], [(1005000, .vec 23 U32 x.2.1)], 8, []⟩) (MulI a b i) (fun x => b.length - x.1) (0, o, 0) ?_ ?_ ?_)
   ·refine ⟨Nat.zero_le _, hlen, hO.r, hO.z, Int.le_refl _, (by show (0 : Int) < _; decide), ?_⟩
    have := hO.v
    simp only at this
    simp [this, val]
   ·exact wk ⟨sR rfl, sR rfl, sR rfl, sR rfl, sR rfl, ⟨_, rfl, AVle.of_eq (congrArg (fun x => AV.c (C.I .u64 x)) ea)⟩, sR rfl, sR rfl, sR rfl, sR rfl, trivial⟩ ⟨bR rfl, trivial⟩
   ·rintro ⟨k, o, c⟩ hI
    have hlen : o.length = a.length + b.length := hI.len
    have hc0 : 0 ≤ c := hI.c0
    have hc1 : c < 4294967296 := hI.c1
    refine rr rfl (tr_seq ?_)
    refine tr_cond rfl (fun h2 => ?_) (fun h2 => ?_)
    ·have h2 : k < b.length := by simpa using h2
     have gb := rng_get hb k
     have go := rng_get hI.r (i + k)
     simp only at go
     have gm := mul_lt_sq ga.1 (by omega) gb.1 (by omega)
     refine tr_skip (at_then (tr_seq (tr_block (rr rfl (rr rfl ?_ (hp := by simp only [Pr.an, Pr.h, num, i64r, true_and, and_true]; omega))))))
     have eik : ((i : Int) + (k : Int)).toNat = i + k := by omega
     have e0 : IntKind.wrap .u64 (IntKind.wrap .u64 (IntKind.wrap .u64 (a.getD i 0 * IntKind.wrap .u64 (b.getD (k : Int).toNat 0)) + IntKind.wrap .u64 (o.getD ((i : Int) + (k : Int)).toNat 0)) + c) = a.getD i 0 * b.getD k 0 + o.getD (i + k) 0 + c := by
      rw [eik, Int.toNat_natCast, wrap_u64 (b.getD k 0) (by omega) (by omega), wrap_u64 (o.getD (i + k) 0) (by omega) (by omega), wrap_u64 (a.getD i 0 * b.getD k 0) (by omega) (by omega), wrap_u64 (a.getD i 0 * b.getD k 0 + o.getD (i + k) 0) (by omega) (by omega), wrap_u64 _ (by omega) (by omega)]
     have hn := hI.next h h2 ha hb
     simp only at hn
     generalize ht : a.getD i 0 * b.getD k 0 + o.getD (i + k) 0 + c = s at hn e0
     have e1 : IntKind.wrap .u32 s = s % 4294967296 := by
      simp [IntKind.wrap, IntKind.bits, IntKind.signed]
     have e2 : s.fdiv (2 ^ (min (32 : Int).toNat (IntKind.bits .u64))) = s / 4294967296 := by
      rw [Int.fdiv_eq_ediv_of_nonneg _ (by decide)]; rfl
     refine tr_wk (st' := ⟨[(0, cS U32 a), (1, cS U32 b), (5, .c (.X 1005000)), (6, cI i), (8, cU (a.getD i 0)), (9, cI k), (10, cU s), (18, cI a.length), (19, cI i), (28, cI b.length), (29, cI k)], [(1005000, .vec 23 U32 o)], 12, []⟩) (wk ⟨sR rfl, sR rfl, sR rfl, sR rfl, sR rfl, sR rfl, ⟨_, rfl, AVle.of_eq ?_⟩, sR rfl, sR rfl, sR rfl, sR rfl, trivial⟩ ⟨bR rfl, trivial⟩) ?_
     ·exact congrArg (fun x => AV.c (C.I .u64 x)) e0
     refine rr rfl (rt rfl (at_block (at_then (rt rfl (at_loop (k + 1, o.set (i + k) (s % 4294967296), s / 4294967296) hn (by show b.length - (k + 1) < b.length - k; omega) (wk ⟨sR rfl, sR rfl, sR rfl, sR rfl, ⟨_, rfl, AVle.of_eq ?_⟩, sR rfl, sR rfl, sR rfl, sR rfl, ⟨_, rfl, AVle.of_eq ?_⟩, trivial⟩ ⟨⟨_, rfl, BLe.of_eq ?_⟩, trivial⟩))))))
     ·exact congrArg (fun x => AV.c (C.I .u64 x)) e2
     ·rfl
     ·rw [e1, eik]
    ·have h2 : ¬ k < b.length := by simpa using h2
     have hk : k = b.length := by have := hI.k; simp only at this; omega
     subst hk
     have hd := hI.done h
     have eik : ((i : Int) + (b.length : Int)).toNat = i + b.length := by omega
     have e1 : IntKind.wrap .u32 c = c := wrap_u32 c hc0 hc1
     refine tr_exit (at_then_exit (at_loop_exit (at_block_exit (at_then (rt rfl (at_block (at_then (rt rfl (at_loop (i + 1, o.set (i + b.length) c) hd (by show a.length - (i + 1) < a.length - i; omega) (wk ⟨sR rfl, sR rfl, sR rfl, sR rfl, ⟨_, rfl, AVle.of_eq ?_⟩, trivial⟩ ⟨⟨_, rfl, BLe.of_eq ?_⟩, trivial⟩))))))))))
     ·rfl
     ·rw [e1, eik]
  ·have h : ¬ i < a.length := by simpa using h
   have hi : i = a.length := by have := hO.i; simp only at this; omega
   subst hi
   refine tr_exit (at_then_exit (at_loop_exit (at_block_exit (at_then (tr_frz 1005000 rfl rfl rfl (rb ?_))))))
   refine rc rfl rfl (trim_s _) (re rfl (tr_ret (at_ret TT_ok rfl (AVle.of_eq ?_))))
   have hv := hO.v
   simp only [List.take_length] at hv
   rw [trimW_eq hO.r]
   simp only [hv]
theorem isum_z (m k : Nat) (hm : (wordsN m).length ≤ 1099511627776) (hk : (wordsN k).length ≤ 1099511627776) : FnS Tryz.prog 171 [cS U32 (wordsN m), cS U32 (wordsN k)] (cS U32 (wordsN (m + k))) := by
 have := isum_s (wordsN m) (wordsN k) (rng_words m) (rng_words k) hm hk
 rw [val_words, val_words, show ((m : Int) + (k : Int)).toNat = m + k by omega] at this
 exact this
theorem iproduct_z (m k : Nat) (hm : (wordsN m).length ≤ 1099511627776) (hk : (wordsN k).length ≤ 1099511627776) : FnS Tryz.prog 175 [cS U32 (wordsN m), cS U32 (wordsN k)] (cS U32 (wordsN (m * k))) := by
 have := iproduct_s (wordsN m) (wordsN k) (rng_words m) (rng_words k) hm hk
 rw [val_words, val_words, show ((m : Int) * (k : Int)).toNat = m * k by rw [← Int.natCast_mul]; rfl] at this
 exact this
theorem iMul_s (a b : Int) (ha : Sm a) (hb : Sm b) : FnS Tryz.prog 105 [aZ a, aZ b] (aZ (a * b)) := by
 refine fs_intro Tryz.func105 rfl rfl rfl rfl rfl (by decide) ?_
 refine rr rfl (rb ?_)
 refine rc rfl rfl (iproduct_z _ _ ha hb) (rc rfl rfl (isigned_z _ _) (re rfl (tr_ret (at_ret TT_ok rfl (AVle.of_eq ?_)))))
 have e2 : sg (zneg a != zneg b) (a.natAbs * b.natAbs) = a * b := by
  have ea := sg_self a
  have eb := sg_self b
  generalize a.natAbs = x at ea ⊢
  generalize b.natAbs = y at eb ⊢
  cases hza : zneg a <;> cases hzb : zneg b <;> rw [hza] at ea <;> rw [hzb] at eb <;> simp only [sg, if_true, if_false, Bool.false_eq_true] at ea eb <;> rw [← ea, ← eb] <;> simp [sg] <;> grind
 exact congrArg aZ e2
def con0 : FuncId → List AV → Ms → Option (List AV × AV) := fun _ _ _ => none
theorem con0_ok {P : Program} : ∀ f vs ms vs' r, con0 f vs ms = some (vs', r) → FnS P f vs' r := fun _ _ _ _ _ h => by cases h
end Go.El

/- The engine, part 43: a slice that a function made, read as data. Own work; no condition. -/
namespace Go.El
open Go Go.RowKit
theorem FnV.fs {P : Program} {f : FuncId} {args : List AV} {E : TypeId} {T : ET} {xs : List T.den} (h : FnV P f args E T xs) : FnS P f args (.c (.S T xs)) := by
 refine ⟨h.call, rfl, fun H W vs hs hv cs => ?_⟩
 obtain ⟨e, w', fr, ⟨v, H', e1, hrep, hle, hfr, hsub, hbel⟩, h2⟩ := h.spec H W vs hs hv cs
 refine ⟨e, w', fr, ?_, h2⟩
 rcases hrep with ⟨hγ, hx⟩ | ⟨b, cap, us, hγ, hh, hvl, hcl, hlen, hr, hN, hz⟩
 ·subst hx
  refine ⟨v, H', e1, ?_, hle, hfr, hsub, hbel⟩
  have hγ : v = .slice none 0 0 := hγ
  exact ⟨none, 0, hγ, by simp, by simp, .inl rfl⟩
 ·have hγ : v = .slice (some ⟨b, 0, none⟩) xs.length cap := hγ
  have hFLe : FLe H' (fun b' o => if b' = b then (if o < xs.length * T.n then us[o]? else none) else H' b' o) := by
   intro b' o v hv
   by_cases e : b' = b
   ·subst e
    have : H' b' o = none := hz o
    rw [this] at hv; cases hv
   ·simp [e, hv]
  refine ⟨v, fun b' o => if b' = b then (if o < xs.length * T.n then us[o]? else none) else H' b' o, e1, ?_, FLe.trans hle hFLe, ?_, ?_, hbel⟩
  ·refine ⟨some ⟨b, 0, none⟩, cap, hγ, hcl, hlen, ?_⟩
   by_cases hx : xs = []
   ·exact .inl hx
   ·refine .inr ⟨b, 0, rfl, fun k hk => ⟨(us.drop (k * T.n)).take T.n, RelD.length T _ _ (hr k hk), RelD.mono hFLe T _ _ (hr k hk), fun j hj => ?_⟩⟩
    have hk2 : (k + 1) * T.n ≤ cap * T.n := Nat.mul_le_mul_right _ (by omega)
    have hk3 : (k + 1) * T.n ≤ xs.length * T.n := Nat.mul_le_mul_right _ (by omega)
    rw [Nat.add_mul, Nat.one_mul] at hk2 hk3
    simp only [List.length_take, List.length_drop] at hj
    have hlt : k * T.n + j < xs.length * T.n := by omega
    simp only [if_true, Nat.zero_add, List.getElem_take, List.getElem_drop, hlt]
    exact List.getElem?_eq_getElem (by omega)
  ·intro b' o hb'
   have hb : W.heap.size ≤ b := hN
   have : b' ≠ b := by omega
   simp only [this, if_false]
   exact hfr b' o hb'
  ·intro b' o u hv
   by_cases e : b' = b
   ·subst e
    simp only [if_true] at hv
    split at hv
    ·simp [World.cell?, hh, hv]
    ·cases hv
   ·simp only [e, if_false] at hv
    exact hsub b' o u hv
theorem tr_mid {P : Program} {n : Nat} {x y : Code} {st : St} {Q : Post} {α : Type} (stM : α → St) (φ : α → Prop) (hrest : ∀ m, φ m → TR P n y (stM m) Q) (h : (∀ m, φ m → AtQ n .normal (stM m) (thenQ P y Q)) → TR P n x st (thenQ P y Q)) : TR P n (.seq x y) st Q :=
 tr_seq (h fun m hm => at_then (hrest m hm))
theorem tr_mid1 {P : Program} {n : Nat} {x y : Code} {st : St} {Q : Post} (st1 : St) (hrest : TR P n y st1 Q) (h : AtQ n .normal st1 (thenQ P y Q) → TR P n x st (thenQ P y Q)) : TR P n (.seq x y) st Q :=
 tr_seq (h (at_then hrest))
theorem at_mid {n : Nat} {e : Exit} {st st' : St} {Q : Post} (h : AtQ n e st' Q) (hw : Wk st st') : AtQ n e st Q := at_wk hw h
end Go.El

/- Contracts: integers of the program: bits of a word, division by one word, shifts. Own work; no condition. -/
namespace Go.El
open Go Go.Proofs
theorem or_u64 (x c : Int) (s : Nat) (hx : 0 ≤ x) (hd : x % 2 ^ s = 0) (hc : 0 ≤ c) (hcs : c < 2 ^ s) (h : x + c < 18446744073709551616) :
  IntKind.wrap .u64 ((BitVec.ofInt (IntKind.bits .u64) x ||| BitVec.ofInt (IntKind.bits .u64) c).toNat : Int) = x + c := by
 obtain ⟨X, rfl⟩ := Int.eq_ofNat_of_zero_le hx
 obtain ⟨C, rfl⟩ := Int.eq_ofNat_of_zero_le hc
 have e1 : ((X : Int) % 2 ^ s) = ((X % 2 ^ s : Nat) : Int) := by simp
 rw [e1] at hd
 have hd : X % 2 ^ s = 0 := by omega
 have hcs : C < 2 ^ s := by
  have : ((C : Nat) : Int) < ((2 ^ s : Nat) : Int) := by rw [Int.natCast_pow]; exact hcs
  omega
 have e2 : (BitVec.ofInt (IntKind.bits .u64) (X : Int) ||| BitVec.ofInt (IntKind.bits .u64) (C : Int)).toNat = X + C := by
  rw [BitVec.ofInt_natCast, BitVec.ofInt_natCast, BitVec.toNat_or, BitVec.toNat_ofNat, BitVec.toNat_ofNat, show IntKind.bits .u64 = 64 from rfl, Nat.mod_eq_of_lt (by omega), Nat.mod_eq_of_lt (by omega)]
  have e3 : X = 2 ^ s * (X / 2 ^ s) := by have := Nat.div_add_mod X (2 ^ s); omega
  rw [e3, ← Nat.two_pow_add_eq_or_of_lt hcs]
 rw [e2, wrap_u64 _ (by omega) (by omega)]; omega
theorem shl_u64 (x : Int) (s : Nat) (h0 : 0 ≤ x) (hs : s ≤ 64) (h : x * 2 ^ s < 18446744073709551616) : IntKind.wrap .u64 (x * 2 ^ (min ((s : Nat) : Int).toNat (IntKind.bits .u64))) = x * 2 ^ s := by
 rw [Int.toNat_natCast, show min s (IntKind.bits .u64) = s from Nat.min_eq_left hs, wrap_u64 _ (Int.mul_nonneg h0 (Int.pow_nonneg (by decide))) h]
theorem shr_u64 (x : Int) (s : Nat) (hs : s ≤ 64) : x.fdiv (2 ^ (min ((s : Nat) : Int).toNat (IntKind.bits .u64))) = x / 2 ^ s := by
 rw [Int.toNat_natCast, show min s (IntKind.bits .u64) = s from Nat.min_eq_left hs, Int.fdiv_eq_ediv_of_nonneg _ (Int.pow_nonneg (by decide))]
theorem shr_u32 (x : Int) (s : Nat) (hs : s ≤ 32) : x.fdiv (2 ^ (min ((s : Nat) : Int).toNat (IntKind.bits .u32))) = x / 2 ^ s := by
 rw [Int.toNat_natCast, show min s (IntKind.bits .u32) = s from Nat.min_eq_left hs, Int.fdiv_eq_ediv_of_nonneg _ (Int.pow_nonneg (by decide))]
def len8 : ByteArray := { data := (([0, 1, 2, 2, 3, 3, 3, 3, 4, 4, 4, 4, 4, 4, 4, 4, 5, 5, 5, 5, 5, 5, 5, 5, 5, 5, 5, 5, 5, 5, 5, 5, 6, 6, 6, 6, 6, 6, 6, 6, 6, 6, 6, 6, 6, 6, 6, 6, 6, 6, 6, 6, 6, 6, 6, 6, 6, 6, 6, 6, 6, 6, 6, 6].append [7, 7, 7, 7, 7, 7, 7, 7, 7, 7, 7, 7, 7, 7, 7, 7, 7, 7, 7, 7, 7, 7, 7, 7, 7, 7, 7, 7, 7, 7, 7, 7, 7, 7, 7, 7, 7, 7, 7, 7, 7, 7, 7, 7, 7, 7, 7, 7, 7, 7, 7, 7, 7, 7, 7, 7, 7, 7, 7, 7, 7, 7, 7, 7]).append ([8, 8, 8, 8, 8, 8, 8, 8, 8, 8, 8, 8, 8, 8, 8, 8, 8, 8, 8, 8, 8, 8, 8, 8, 8, 8, 8, 8, 8, 8, 8, 8, 8, 8, 8, 8, 8, 8, 8, 8, 8, 8, 8, 8, 8, 8, 8, 8, 8, 8, 8, 8, 8, 8, 8, 8, 8, 8, 8, 8, 8, 8, 8, 8].append [8, 8, 8, 8, 8, 8, 8, 8, 8, 8, 8, 8, 8, 8, 8, 8, 8, 8, 8, 8, 8, 8, 8, 8, 8, 8, 8, 8, 8, 8, 8, 8, 8, 8, 8, 8, 8, 8, 8, 8, 8, 8, 8, 8, 8, 8, 8, 8, 8, 8, 8, 8, 8, 8, 8, 8, 8, 8, 8, 8, 8, 8, 8, 8])).toArray }
def len8B (n : Nat) : Bool := match strAt len8 (n : Int) with
 | some l => decide (0 ≤ l) && decide (l ≤ 8) && Nat.blt n (2 ^ l.toNat) && (Nat.ble (2 ^ l.toNat) (2 * n) || Nat.beq n 0)
 | none => false
theorem len8_all : ((List.range 256).all len8B) = true := by kernel_rfl
theorem len8_ok {n : Nat} (h : n < 256) : ∃ l : Nat, strAt len8 (n : Int) = some (l : Int) ∧ l ≤ 8 ∧ n < 2 ^ l ∧ (2 ^ l ≤ 2 * n ∨ n = 0) := by
 have h1 := List.all_eq_true.1 len8_all n (List.mem_range.2 h)
 unfold len8B at h1
 split at h1
 ·rename_i l e
  simp only [Bool.and_eq_true, Bool.or_eq_true, decide_eq_true_eq] at h1
  obtain ⟨⟨⟨h2, h3⟩, h4⟩, h5⟩ := h1
  have h4 := Nat.le_of_ble_eq_true h4
  refine ⟨l.toNat, by rw [Int.toNat_of_nonneg h2]; exact e, by omega, h4, ?_⟩
  rcases h5 with h5 | h5
  ·exact .inl (Nat.le_of_ble_eq_true h5)
  ·exact .inr (Nat.eq_of_beq_eq_true h5)
 ·cases h1
theorem evalM_str {st : St} {t : TypeId} {x i : Operand} {b8 : ByteArray} {k : IntKind} {j b : Int} {ti : TI} (h1 : st.ev x = some (.c (.V (.string b8)))) (h2 : st.ev i = some (.c (.I k j))) (h3 : lookA t TTab = some ti) (h4 : ti.kind = .str) (h5 : strAt b8 j = some b) : evalM TTab st (.index t x i) = some (.c (.I .u8 b), .le 0 j) := by
 simp [evalM, h1, h2, h3, h4, h5]
theorem len32_s (x : Nat) (h0 : 0 < x) (hx : x < 4294967296) : ∃ l : Nat, FnS Tryz.prog 193 [cW x] (cI l) ∧ l ≤ 32 ∧ 1 ≤ l ∧ x < 2 ^ l ∧ 2 ^ l ≤ 2 * x := by
 have tail : ∀ (y n : Nat), y < 256 → n ≤ 24 → ∃ l : Nat, l ≤ 8 ∧ y < 2 ^ l ∧ (2 ^ l ≤ 2 * y ∨ y = 0) ∧ strAt len8 (y : Int) = some (l : Int) := by
  intro y n hy _
  obtain ⟨l, e, h1, h2, h3⟩ := len8_ok hy
  exact ⟨l, h1, h2, h3, e⟩
 obtain ⟨y, n, hn, hy, ex⟩ : ∃ y n : Nat, (n = 0 ∧ y = x ∧ x < 256 ∨ n = 8 ∧ y = x / 256 ∧ 256 ≤ x ∧ x < 65536 ∨ n = 16 ∧ y = x / 65536 ∧ 65536 ≤ x ∧ x < 16777216 ∨ n = 24 ∧ y = x / 65536 / 256 ∧ 16777216 ≤ x) ∧ y < 256 ∧ 0 < y := by
  by_cases a1 : x < 256
  ·exact ⟨x, 0, .inl ⟨rfl, rfl, a1⟩, a1, h0⟩
  ·by_cases a2 : x < 65536
   ·exact ⟨x / 256, 8, .inr (.inl ⟨rfl, rfl, by omega, a2⟩), by omega, by omega⟩
   ·by_cases a3 : x < 16777216
    ·exact ⟨x / 65536, 16, .inr (.inr (.inl ⟨rfl, rfl, by omega, a3⟩)), by omega, by omega⟩
    ·exact ⟨x / 65536 / 256, 24, .inr (.inr (.inr ⟨rfl, rfl, by omega⟩)), by omega, by omega⟩
 obtain ⟨l, el, h1, h2, h3⟩ := len8_ok hy
 have h3 : 2 ^ l ≤ 2 * y := by omega
 have l1 : 1 ≤ l := by
  by_cases e : l = 0
  ·subst e; simp at h2; omega
  ·omega
 refine ⟨n + l, ?_, by omega, by omega, ?_, ?_⟩
 ·have sh16 : (x : Int).fdiv (2 ^ (min ((16 : Nat) : Int).toNat (IntKind.bits .u32))) = ((x / 65536 : Nat) : Int) := by rw [shr_u32 _ _ (by omega)]; omega
  have sh8 : ∀ z : Nat, (z : Int).fdiv (2 ^ (min ((8 : Nat) : Int).toNat (IntKind.bits .u32))) = ((z / 256 : Nat) : Int) := fun z => by rw [shr_u32 _ _ (by omega)]; omega
  have wu8 : ∀ z : Nat, z < 256 → IntKind.wrap .u8 (z : Int) = (z : Int) := fun z hz => by simp [IntKind.wrap, IntKind.bits, IntKind.signed]; omega
  refine fs_intro Tryz.func193 rfl rfl rfl rfl rfl (by decide) ?_
  refine rr rfl (tr_seq (rr rfl ?_))
  refine tr_cond rfl (fun c1 => ?_) (fun c1 => ?_)
  ·have c1 : 65536 ≤ x := by
    have c1 : (65536 : Int) ≤ (x : Int) := of_decide_eq_true c1
    omega
   refine rr rfl (hp := by simp only [Pr.an, Pr.h, num, i64r, true_and, and_true]; first | done | omega) (rt rfl (at_then (tr_seq (rr rfl ?_))))
   refine tr_cond rfl (fun c2 => ?_) (fun c2 => ?_)
   ·have c2 : 256 ≤ x / 65536 := by
     have c2 : (256 : Int) ≤ (x : Int).fdiv (2 ^ (min ((16 : Nat) : Int).toNat (IntKind.bits .u32))) := of_decide_eq_true c2
     rw [sh16] at c2
     omega
    refine rr rfl (hp := by simp only [Pr.an, Pr.h, num, i64r, true_and, and_true]; first | done | omega) (rt rfl (hp := by simp only [Pr.an, Pr.h, num, i64r, true_and, and_true]; first | done | omega) (at_then ?_))
    refine tr_wk (st' := ⟨[(0, cW y), (2, cI n)], [], 9, []⟩) (wk ⟨⟨_, rfl, AVle.of_eq (congrArg (fun z => AV.c (C.I .u32 z)) (by show Int.fdiv (Int.fdiv (x : Int) (2 ^ (min ((16 : Nat) : Int).toNat (IntKind.bits .u32)))) (2 ^ (min ((8 : Nat) : Int).toNat (IntKind.bits .u32))) = _; rw [sh16, sh8]; omega))⟩, ⟨_, rfl, AVle.of_eq (congrArg (fun z => AV.c (C.I .i64 z)) (by omega))⟩, trivial⟩ trivial) ?_
    refine rb (rx (x := .c (.I .u8 l)) (pm := .le 0 (IntKind.wrap .u8 (y : Int))) rfl (evalM_str rfl rfl rfl rfl (by rw [wu8 y hy]; exact el)) (by rw [wu8 y hy]; exact Int.natCast_nonneg y) (hp := by simp only [Pr.an, Pr.h, num, i64r, true_and, and_true]; first | done | omega) (re rfl (hp := by simp only [Pr.an, Pr.h, num, i64r, true_and, and_true]; first | done | omega) (tr_ret (at_ret TT_ok rfl (AVle.of_eq (congrArg (fun z => AV.c (C.I .i64 z)) ?_))))))
    show (n : Int) + (l : Int) = ((n + l : Nat) : Int)
    omega
   ·have c2 : x / 65536 < 256 := by
     have c2 : ¬ (256 : Int) ≤ (x : Int).fdiv (2 ^ (min ((16 : Nat) : Int).toNat (IntKind.bits .u32))) := of_decide_eq_false c2
     rw [sh16] at c2
     omega
    refine tr_skip (at_then ?_)
    refine tr_wk (st' := ⟨[(0, cW y), (2, cI n)], [], 5, []⟩) (wk ⟨⟨_, rfl, AVle.of_eq (congrArg (fun z => AV.c (C.I .u32 z)) (by show Int.fdiv (x : Int) (2 ^ (min ((16 : Nat) : Int).toNat (IntKind.bits .u32))) = _; rw [sh16]; omega))⟩, ⟨_, rfl, AVle.of_eq (congrArg (fun z => AV.c (C.I .i64 z)) (by omega))⟩, trivial⟩ trivial) ?_
    refine rb (rx (x := .c (.I .u8 l)) (pm := .le 0 (IntKind.wrap .u8 (y : Int))) rfl (evalM_str rfl rfl rfl rfl (by rw [wu8 y hy]; exact el)) (by rw [wu8 y hy]; exact Int.natCast_nonneg y) (hp := by simp only [Pr.an, Pr.h, num, i64r, true_and, and_true]; first | done | omega) (re rfl (hp := by simp only [Pr.an, Pr.h, num, i64r, true_and, and_true]; first | done | omega) (tr_ret (at_ret TT_ok rfl (AVle.of_eq (congrArg (fun z => AV.c (C.I .i64 z)) ?_))))))
    show (n : Int) + (l : Int) = ((n + l : Nat) : Int)
    omega
  ·have c1 : x < 65536 := by
    have c1 : ¬ (65536 : Int) ≤ (x : Int) := of_decide_eq_false c1
    omega
   refine tr_skip (at_then (tr_seq (rr rfl ?_)))
   refine tr_cond rfl (fun c2 => ?_) (fun c2 => ?_)
   ·have c2 : 256 ≤ x := by
     have c2 : (256 : Int) ≤ (x : Int) := of_decide_eq_true c2
     omega
    refine rr rfl (hp := by simp only [Pr.an, Pr.h, num, i64r, true_and, and_true]; first | done | omega) (rt rfl (hp := by simp only [Pr.an, Pr.h, num, i64r, true_and, and_true]; first | done | omega) (at_then ?_))
    refine tr_wk (st' := ⟨[(0, cW y), (2, cI n)], [], 5, []⟩) (wk ⟨⟨_, rfl, AVle.of_eq (congrArg (fun z => AV.c (C.I .u32 z)) (by show Int.fdiv (x : Int) (2 ^ (min ((8 : Nat) : Int).toNat (IntKind.bits .u32))) = _; rw [sh8]; omega))⟩, ⟨_, rfl, AVle.of_eq (congrArg (fun z => AV.c (C.I .i64 z)) (by omega))⟩, trivial⟩ trivial) ?_
    refine rb (rx (x := .c (.I .u8 l)) (pm := .le 0 (IntKind.wrap .u8 (y : Int))) rfl (evalM_str rfl rfl rfl rfl (by rw [wu8 y hy]; exact el)) (by rw [wu8 y hy]; exact Int.natCast_nonneg y) (hp := by simp only [Pr.an, Pr.h, num, i64r, true_and, and_true]; first | done | omega) (re rfl (hp := by simp only [Pr.an, Pr.h, num, i64r, true_and, and_true]; first | done | omega) (tr_ret (at_ret TT_ok rfl (AVle.of_eq (congrArg (fun z => AV.c (C.I .i64 z)) ?_))))))
    show (n : Int) + (l : Int) = ((n + l : Nat) : Int)
    omega
   ·have c2 : x < 256 := by
     have c2 : ¬ (256 : Int) ≤ (x : Int) := of_decide_eq_false c2
     omega
    refine tr_skip (at_then ?_)
    refine tr_wk (st' := ⟨[(0, cW y), (2, cI n)], [], 3, []⟩) (wk ⟨⟨_, rfl, AVle.of_eq (congrArg (fun z => AV.c (C.I .u32 z)) (show (x : Int) = (y : Int) by omega))⟩, ⟨_, rfl, AVle.of_eq (congrArg (fun z => AV.c (C.I .i64 z)) (by omega))⟩, trivial⟩ trivial) ?_
    refine rb (rx (x := .c (.I .u8 l)) (pm := .le 0 (IntKind.wrap .u8 (y : Int))) rfl (evalM_str rfl rfl rfl rfl (by rw [wu8 y hy]; exact el)) (by rw [wu8 y hy]; exact Int.natCast_nonneg y) (hp := by simp only [Pr.an, Pr.h, num, i64r, true_and, and_true]; first | done | omega) (re rfl (hp := by simp only [Pr.an, Pr.h, num, i64r, true_and, and_true]; first | done | omega) (tr_ret (at_ret TT_ok rfl (AVle.of_eq (congrArg (fun z => AV.c (C.I .i64 z)) ?_))))))
    show (n : Int) + (l : Int) = ((n + l : Nat) : Int)
    omega
 ·rcases hn with ⟨e1, e2, a⟩ | ⟨e1, e2, a⟩ | ⟨e1, e2, a⟩ | ⟨e1, e2, a⟩
  ·subst e1 e2; simpa using h2
  ·subst e1; rw [Nat.pow_add]; omega
  ·subst e1; rw [Nat.pow_add]; omega
  ·subst e1; rw [Nat.pow_add]; omega
 ·rcases hn with ⟨e1, e2, a⟩ | ⟨e1, e2, a⟩ | ⟨e1, e2, a⟩ | ⟨e1, e2, a⟩
  ·subst e1 e2; simpa using h3
  ·subst e1; rw [Nat.pow_add]; omega
  ·subst e1; rw [Nat.pow_add]; omega
  ·subst e1; rw [Nat.pow_add]; omega
end Go.El

/- Contracts: integers of the program: division by one word, shifts. Own work; no condition. -/
namespace Go.El
open Go Go.Proofs
theorem lz32_s (x : Nat) (h0 : 0 < x) (hx : x < 4294967296) : ∃ s : Nat, FnS Tryz.prog 274 [cW x] (cI s) ∧ s ≤ 31 ∧ 2147483648 ≤ x * 2 ^ s ∧ x * 2 ^ s < 4294967296 := by
 obtain ⟨l, hf, h1, h2, h3, h4⟩ := len32_s x h0 hx
 have e : 2 ^ l * 2 ^ (32 - l) = 4294967296 := by rw [← Nat.pow_add, show l + (32 - l) = 32 by omega]
 have hp : 0 < 2 ^ (32 - l) := Nat.pow_pos (by decide)
 have a1 : x * 2 ^ (32 - l) < 2 ^ l * 2 ^ (32 - l) := Nat.mul_lt_mul_of_pos_right h3 hp
 have a2 : 2 ^ l * 2 ^ (32 - l) ≤ 2 * x * 2 ^ (32 - l) := Nat.mul_le_mul_right _ h4
 rw [Nat.mul_assoc] at a2
 refine ⟨32 - l, ?_, by omega, by omega, by omega⟩
 refine fs_intro Tryz.func274 rfl rfl rfl rfl rfl (by decide) ?_
 refine rr rfl (rb (rc rfl rfl hf (re rfl (hp := by simp only [Pr.an, Pr.h, num, i64r, true_and, and_true]; first | done | omega) (tr_ret (at_ret TT_ok rfl (AVle.of_eq (congrArg (fun z => AV.c (C.I .i64 z)) ?_)))))))
 show (32 : Int) - (l : Int) = ((32 - l : Nat) : Int)
 omega
set_option maxHeartbeats 1000000 in
theorem idivideSmall_s (a : List Int) (d : Int) (ha : rng a) (hd0 : 0 < d) (hd : d < 4294967296) (la : a.length ≤ 1099511627776) : FnS Tryz.prog 273 [cS U32 a, cU d] (.t [(false, [.S U32 (wordsN (val a / d).toNat)]), (false, [.I .u64 (val a % d)])]) := by
 refine fs_intro Tryz.func273 rfl rfl rfl rfl rfl (by decide) ?_
 refine rr rfl (rb ?_)
 refine rm U32 a.length rfl rfl rfl rfl rfl rfl (zr_int .u32) rfl ?_ ?_ ?_
 ·show _ * 4 ≤ _; omega
 ·show _ * 1 ≤ _; omega
 refine re rfl (rr rfl (tr_seq (rr rfl ?_)))
 refine tr_block (tr_loop (α := Nat × List Int × Int) (fun x => ⟨[(0, cS U32 a), (1, cU d), (6, .c (.X 1002000)), (7, cU x.2.2), (8, cI ((x.1 : Int) - 1))], [(1002000, .vec 23 U32 x.2.1)], 4, []⟩) (DivI a d) (fun x => x.1) (a.length, List.replicate a.length 0, 0) ?_ (wk ⟨sR rfl, sR rfl, sR rfl, sR rfl, sR rfl, trivial⟩ ⟨bR rfl, trivial⟩) ?_)
 ·exact ⟨Nat.le_refl _, by simp, rng_rep _, Int.le_refl _, hd0, by simp [val]⟩
 ·rintro ⟨k, q, r⟩ hI
  have hlen : q.length = a.length := hI.len
  have h0 : 0 ≤ r := hI.r0
  have h1 : r < d := hI.r1
  have hk : k ≤ a.length := hI.k
  refine tr_seq (rr rfl ?_)
  refine tr_cond rfl (fun h => ?_) (fun h => ?_)
  ·have h : (k : Int) - 1 ≥ 0 := by simpa using h
   obtain ⟨j, rfl⟩ : ∃ j, k = j + 1 := ⟨k - 1, by omega⟩
   have ej : (((j + 1 : Nat) : Int) - 1).toNat = j := by omega
   have g := rng_get ha j
   have hb := div_bound h0 h1 g.1 g.2 hd
   have hn := hI.next ha hd
   refine tr_skip (at_then (tr_seq (tr_block (rr rfl (hp := by simp only [Pr.an, Pr.h, num, i64r, true_and, and_true]; first | done | omega) ?_))))
   have e0 : IntKind.wrap .u64 ((BitVec.ofInt (IntKind.bits .u64) (IntKind.wrap .u64 (r * 2 ^ (min ((32 : Nat) : Int).toNat (IntKind.bits .u64)))) ||| BitVec.ofInt (IntKind.bits .u64) (IntKind.wrap .u64 (a.getD (((j + 1 : Nat) : Int) - 1).toNat 0))).toNat : Int) = r * 4294967296 + a.getD j 0 := by
    rw [ej, shl_u64 r 32 h0 (by omega) (by omega), wrap_u64 (a.getD j 0) (by omega) (by omega), or_u64 (r * 2 ^ 32) (a.getD j 0) 32 (by omega) (Int.mul_emod_left _ _) (by omega) (by omega) (by omega), show (2 : Int) ^ 32 = 4294967296 from rfl]
   generalize ht : r * 4294967296 + a.getD j 0 = s at hn hb e0
   have e1 : IntKind.wrap .u32 (IntKind.wrap .u64 (s.tdiv d)) = s / d := by
    rw [Int.tdiv_eq_ediv_of_nonneg (by omega), wrap_u64 _ (by omega) (by omega), wrap_u32 _ (by omega) (by omega)]
   have e2 : s.tmod d = s % d := Int.tmod_eq_emod_of_nonneg (by omega)
   refine tr_wk (st' := ⟨[(0, cS U32 a), (1, cU d), (6, .c (.X 1002000)), (8, cI (((j + 1 : Nat) : Int) - 1)), (9, cU s)], [(1002000, .vec 23 U32 q)], 6, []⟩) (wk ⟨sR rfl, sR rfl, sR rfl, sR rfl, ⟨_, rfl, AVle.of_eq ?_⟩, trivial⟩ ⟨bR rfl, trivial⟩) ?_
   ·exact congrArg (fun z => AV.c (C.I .u64 z)) e0
   refine rr rfl (rt rfl (at_block (at_then (rt rfl (at_loop (j, q.set j (s / d), s % d) hn (by show j < j + 1; omega) (wk ⟨sR rfl, sR rfl, sR rfl, ⟨_, rfl, AVle.of_eq ?_⟩, ⟨_, rfl, AVle.of_eq ?_⟩, trivial⟩ ⟨⟨_, rfl, BLe.of_eq ?_⟩, trivial⟩))))))
   ·exact congrArg (fun z => AV.c (C.I .u64 z)) e2
   ·refine congrArg (fun z => AV.c (C.I .i64 z)) ?_
    show ((j + 1 : Nat) : Int) - 1 - 1 = (j : Int) - 1
    omega
   ·rw [e1, ej]
  ·have h : ¬ ((k : Int) - 1 ≥ 0) := by simpa using h
   have : k = 0 := by omega
   subst this
   refine tr_exit (at_then_exit (at_loop_exit (at_block_exit (at_then (tr_frz 1002000 rfl rfl rfl (rb ?_))))))
   refine rc rfl rfl (trim_s _) (re rfl (tr_ret (at_ret TT_ok rfl (AVle.of_eq ?_))))
   have hv : val a = val q * d + r := hI.v
   have hr : rng q := hI.r
   have eq : val a / d = val q := by
    rw [hv, Int.add_comm, Int.add_mul_ediv_right _ _ (by omega), Int.ediv_eq_zero_of_lt h0 h1]; omega
   have er : val a % d = r := by
    rw [hv, Int.add_comm, Int.add_mul_emod_self_right, Int.emod_eq_of_lt h0 h1]
   rw [trimW_eq hr, eq, er]; rfl
theorem shl_carry {a : List Int} (ha : rng a) (s i : Nat) : 0 ≤ val (a.take i) * 2 ^ s / 4294967296 ^ i ∧ val (a.take i) * 2 ^ s / 4294967296 ^ i < 2 ^ s := by
 have h1 := val_nonneg (rng_take ha i)
 have h2 := val_lt (rng_take ha i)
 have h3 := powB_le (m := (a.take i).length) (n := i) (by simp; omega)
 have h4 := powB_pos i
 have h5 : (0 : Int) < 2 ^ s := Int.pow_pos (by decide)
 refine ⟨Int.ediv_nonneg (Int.mul_nonneg h1 (by omega)) (by omega), Int.ediv_lt_of_lt_mul h4 ?_⟩
 rw [Int.mul_comm]
 exact Int.mul_lt_mul_of_pos_left (by omega) h5
theorem shl_next (a : List Int) (s i : Nat) :
  wordsK (i + 1) (val (a.take (i + 1)) * 2 ^ s) = wordsK i (val (a.take i) * 2 ^ s) ++ [(a.getD i 0 * 2 ^ s + val (a.take i) * 2 ^ s / 4294967296 ^ i) % 4294967296] ∧
  val (a.take (i + 1)) * 2 ^ s / 4294967296 ^ (i + 1) = (a.getD i 0 * 2 ^ s + val (a.take i) * 2 ^ s / 4294967296 ^ i) / 4294967296 := by
 have h4 := powB_pos i
 have e : val (a.take (i + 1)) * 2 ^ s = val (a.take i) * 2 ^ s + a.getD i 0 * 2 ^ s * 4294967296 ^ i := by
  rw [val_take_succ', Int.add_mul, Int.mul_assoc, Int.mul_comm (4294967296 ^ i), ← Int.mul_assoc]
 have e2 : val (a.take (i + 1)) * 2 ^ s / 4294967296 ^ i = a.getD i 0 * 2 ^ s + val (a.take i) * 2 ^ s / 4294967296 ^ i := by
  rw [e, Int.add_mul_ediv_right _ _ (by omega), Int.add_comm]
 refine ⟨?_, by rw [ediv_powB, e2]⟩
 rw [wordsK_succ, e2, e, wordsK_add]
theorem set_mid (xs : List Int) (n : Nat) (w : Int) : (xs ++ List.replicate (n + 1) 0).set xs.length w = (xs ++ [w]) ++ List.replicate n 0 := by
 rw [List.set_append_right _ _ (Nat.le_refl _), Nat.sub_self, List.replicate_succ, List.set_cons_zero, List.append_assoc]; rfl
set_option maxHeartbeats 2000000 in
theorem ishl_s (a : List Int) (s : Nat) (ha : rng a) (hs : s ≤ 31) (la : a.length ≤ 1099511627776) : FnV Tryz.prog 275 [cS U32 a, cI s] 23 U32 (wordsK (a.length + 1) (val a * 2 ^ s)) := by
 refine fv_intro Tryz.func275 rfl rfl rfl rfl (by decide) ?_
 have hp2 : (2 : Int) ^ s ≤ 2 ^ 31 := by
  have := Nat.pow_le_pow_right (show 2 > 0 by decide) hs
  have e1 : (2 : Int) ^ s = ((2 ^ s : Nat) : Int) := by simp
  omega
 have hp1 : (0 : Int) < 2 ^ s := Int.pow_pos (by decide)
 refine rr rfl (rb ?_)
 refine rm U32 (a.length + 1) rfl rfl rfl rfl rfl rfl (zr_int .u32) rfl ?_ ?_ ?_
 ·show _ * 4 ≤ _; omega
 ·show _ * 1 ≤ _; omega
 refine re rfl (rr rfl (tr_seq (rr rfl ?_)))
 refine tr_block (tr_loop (α := Nat) (fun i => ⟨[(0, cS U32 a), (1, cI s), (5, .c (.X 1003000)), (6, cU (val (a.take i) * 2 ^ s / 4294967296 ^ i)), (14, cI a.length), (15, cI i)], [(1003000, .vec 23 U32 (wordsK i (val (a.take i) * 2 ^ s) ++ List.replicate (a.length + 1 - i) 0))], 4, []⟩) (fun i => i ≤ a.length) (fun i => a.length - i) 0 (Nat.zero_le _) (wk ⟨sR rfl, sR rfl, sR rfl, ⟨_, rfl, AVle.of_eq ?_⟩, sR rfl, sR rfl, trivial⟩ ⟨⟨_, rfl, BLe.of_eq ?_⟩, trivial⟩) ?_)
 ·simp [val]; rfl
 ·simp [wordsK]
 intro i hi
 have hc := shl_carry ha s i
 have hnx := shl_next a s i
 have hwl : (wordsK i (val (a.take i) * 2 ^ s)).length = i := wordsK_len _ _
 generalize hcc : val (a.take i) * 2 ^ s / 4294967296 ^ i = c at hc hnx
 refine rr rfl (tr_seq ?_)
 refine tr_cond rfl (fun h => ?_) (fun h => ?_)
 ·have h : i < a.length := by simpa using h
  have g := rng_get ha i
  have hm0 : 0 ≤ a.getD i 0 * 2 ^ s := Int.mul_nonneg g.1 (by omega)
  have hm1 : a.getD i 0 * 2 ^ s ≤ 4294967295 * 2 ^ 31 := Int.mul_le_mul (by omega) hp2 (by omega) (by decide)
  refine tr_skip (at_then (tr_seq (tr_block (rr rfl (rr rfl (hp := by simp only [Pr.an, Pr.h, num, i64r, true_and, and_true]; first | done | omega) ?_)))))
  have e0 : IntKind.wrap .u64 ((BitVec.ofInt (IntKind.bits .u64) (IntKind.wrap .u64 (IntKind.wrap .u64 (a.getD (i : Int).toNat 0) * 2 ^ (min ((s : Nat) : Int).toNat (IntKind.bits .u64)))) ||| BitVec.ofInt (IntKind.bits .u64) c).toNat : Int) = a.getD i 0 * 2 ^ s + c := by
   rw [Int.toNat_natCast i, wrap_u64 (a.getD i 0) (by omega) (by omega), shl_u64 _ s g.1 (by omega) (by omega), or_u64 _ c s hm0 (Int.mul_emod_left _ _) hc.1 hc.2 (by omega)]
  generalize ht : a.getD i 0 * 2 ^ s + c = t at *
  refine tr_wk (st' := ⟨[(0, cS U32 a), (1, cI s), (5, .c (.X 1003000)), (7, cI i), (8, cU t), (14, cI a.length), (15, cI i)], [(1003000, .vec 23 U32 (wordsK i (val (a.take i) * 2 ^ s) ++ List.replicate (a.length + 1 - i) 0))], 7, []⟩) (wk ⟨sR rfl, sR rfl, sR rfl, sR rfl, ⟨_, rfl, AVle.of_eq ?_⟩, sR rfl, sR rfl, trivial⟩ ⟨bR rfl, trivial⟩) ?_
  ·exact congrArg (fun z => AV.c (C.I .u64 z)) e0
  have hrl : (wordsK i (val (a.take i) * 2 ^ s) ++ List.replicate (a.length + 1 - i) (0 : Int)).length = a.length + 1 := by rw [List.length_append, hwl, List.length_replicate]; omega
  refine rr rfl (hp := by simp only [Pr.an, Pr.h, num, i64r, true_and, and_true]; first | done | omega) (rt rfl (hp := by simp only [Pr.an, Pr.h, num, i64r, true_and, and_true]; first | done | omega) (at_block (at_then (rt rfl (at_loop (i + 1) h (by show a.length - (i + 1) < a.length - i; omega) (wk ⟨sR rfl, sR rfl, sR rfl, ⟨_, rfl, AVle.of_eq ?_⟩, sR rfl, sR rfl, trivial⟩ ⟨⟨_, rfl, BLe.of_eq ?_⟩, trivial⟩))))))
  ·refine congrArg (fun z => AV.c (C.I .u64 z)) ?_
   rw [hnx.2]; exact shr_u64 t 32 (by omega)
  ·refine congrArg (Blk.vec 23 U32) ?_
   have e1 : IntKind.wrap .u32 t = t % 4294967296 := by simp [IntKind.wrap, IntKind.bits, IntKind.signed]
   have e2 := set_mid (wordsK i (val (a.take i) * 2 ^ s)) (a.length - i) (t % 4294967296)
   rw [hwl, show a.length - i + 1 = a.length + 1 - i by omega] at e2
   rw [e1, Int.toNat_natCast, e2, hnx.1, show a.length - i = a.length + 1 - (i + 1) by omega]
 ·have h : ¬ i < a.length := by simpa using h
  have e : i = a.length := by omega
  subst e
  have hcB : c < 4294967296 := by omega
  have hrl : (wordsK a.length (val (a.take a.length) * 2 ^ s) ++ List.replicate (a.length + 1 - a.length) (0 : Int)).length = a.length + 1 := by rw [List.length_append, hwl, List.length_replicate]; omega
  refine tr_exit (at_then_exit (at_loop_exit (at_block_exit (at_then (rr rfl (hp := by simp only [Pr.an, Pr.h, num, i64r, true_and, and_true]; first | done | omega) (rr rfl ?_))))))
  refine tr_wk (st' := ⟨[(4, .c (.X 1003000))], [(1003000, .vec 23 U32 (wordsK (a.length + 1) (val a * 2 ^ s)))], 20, []⟩) (wk ⟨sR rfl, trivial⟩ ⟨⟨_, rfl, BLe.of_eq ?_⟩, trivial⟩) (tr_ret (at_retV (id := 1003000) TT_ok rfl rfl))
  refine congrArg (Blk.vec 23 U32) ?_
  have e2 := set_mid (wordsK a.length (val (a.take a.length) * 2 ^ s)) 0 c
  rw [hwl] at e2
  rw [wrap_u32 c hc.1 hcB, Int.toNat_natCast, show a.length + 1 - a.length = 0 + 1 by omega, e2, List.replicate_zero, List.append_nil, wordsK_succ, List.take_length]
  rw [List.take_length] at hcc
  rw [hcc, Int.emod_eq_of_lt hc.1 hcB]
end Go.El

/- Contracts: integers of the program: shift to the right, difference. Own work; no condition. -/
namespace Go.El
open Go Go.Proofs
theorem and_u64 (t : Int) (s : Nat) (ht0 : 0 ≤ t) (ht : t < 18446744073709551616) (hs : s ≤ 31) :
  IntKind.wrap .u64 ((BitVec.ofInt (IntKind.bits .u64) t &&& BitVec.ofInt (IntKind.bits .u64) (IntKind.wrap .u64 (IntKind.wrap .u64 (1 * 2 ^ (min ((s : Nat) : Int).toNat (IntKind.bits .u64))) - 1))).toNat : Int) = t % 2 ^ s := by
 have hp : 2 ^ s ≤ 2 ^ 31 := Nat.pow_le_pow_right (by decide) hs
 have hp0 : 0 < 2 ^ s := Nat.pow_pos (by decide)
 have e0 : (2 : Int) ^ s = ((2 ^ s : Nat) : Int) := by simp
 obtain ⟨T, rfl⟩ := Int.eq_ofNat_of_zero_le ht0
 rw [shl_u64 1 s (by decide) (by omega) (by omega), Int.one_mul, wrap_u64 (2 ^ s - 1) (by omega) (by omega)]
 have e1 : (2 : Int) ^ s - 1 = ((2 ^ s - 1 : Nat) : Int) := by omega
 rw [e1, BitVec.ofInt_natCast, BitVec.ofInt_natCast, BitVec.toNat_and, BitVec.toNat_ofNat, BitVec.toNat_ofNat, show IntKind.bits .u64 = 64 from rfl, Nat.mod_eq_of_lt (by omega), Nat.mod_eq_of_lt (by omega), Nat.and_two_pow_sub_one_eq_mod]
 have := Nat.mod_lt T hp0
 rw [wrap_u64 _ (by omega) (by omega), e0, Int.natCast_emod]
set_option maxHeartbeats 1000000 in
theorem ishr_s (a : List Int) (s : Nat) (ha : rng a) (hs : s ≤ 31) (la : a.length ≤ 1099511627776) : FnS Tryz.prog 277 [cS U32 a, cI s] (cS U32 (wordsN (val a / 2 ^ s).toNat)) := by
 refine fs_intro Tryz.func277 rfl rfl rfl rfl rfl (by decide) ?_
 have hp2 : (2 : Int) ^ s ≤ 2 ^ 31 := by
  have := Nat.pow_le_pow_right (show 2 > 0 by decide) hs
  have e1 : (2 : Int) ^ s = ((2 ^ s : Nat) : Int) := by simp
  omega
 have hd0 : (0 : Int) < 2 ^ s := Int.pow_pos (by decide)
 refine rr rfl (rb ?_)
 refine rm U32 a.length rfl rfl rfl rfl rfl rfl (zr_int .u32) rfl ?_ ?_ ?_
 ·show _ * 4 ≤ _; omega
 ·show _ * 1 ≤ _; omega
 refine re rfl (rr rfl (tr_seq (rr rfl ?_)))
 refine tr_block (tr_loop (α := Nat × List Int × Int) (fun x => ⟨[(0, cS U32 a), (1, cI s), (5, .c (.X 1002000)), (6, cU x.2.2), (7, cI ((x.1 : Int) - 1))], [(1002000, .vec 23 U32 x.2.1)], 4, []⟩) (DivI a (2 ^ s)) (fun x => x.1) (a.length, List.replicate a.length 0, 0) ?_ (wk ⟨sR rfl, sR rfl, sR rfl, sR rfl, sR rfl, trivial⟩ ⟨bR rfl, trivial⟩) ?_)
 ·exact ⟨Nat.le_refl _, by simp, rng_rep _, Int.le_refl _, hd0, by simp [val]⟩
 ·rintro ⟨k, q, r⟩ hI
  have hlen : q.length = a.length := hI.len
  have h0 : 0 ≤ r := hI.r0
  have h1 : r < 2 ^ s := hI.r1
  have hk : k ≤ a.length := hI.k
  refine tr_seq (rr rfl ?_)
  refine tr_cond rfl (fun h => ?_) (fun h => ?_)
  ·have h : (k : Int) - 1 ≥ 0 := by simpa using h
   obtain ⟨j, rfl⟩ : ∃ j, k = j + 1 := ⟨k - 1, by omega⟩
   have ej : (((j + 1 : Nat) : Int) - 1).toNat = j := by omega
   have g := rng_get ha j
   have hb := div_bound h0 h1 g.1 g.2 (by omega)
   have hn := hI.next ha (by omega)
   refine tr_skip (at_then (tr_seq (tr_block (rr rfl (hp := by simp only [Pr.an, Pr.h, num, i64r, true_and, and_true]; first | done | omega) ?_))))
   have e0 : IntKind.wrap .u64 ((BitVec.ofInt (IntKind.bits .u64) (IntKind.wrap .u64 (r * 2 ^ (min ((32 : Nat) : Int).toNat (IntKind.bits .u64)))) ||| BitVec.ofInt (IntKind.bits .u64) (IntKind.wrap .u64 (a.getD (((j + 1 : Nat) : Int) - 1).toNat 0))).toNat : Int) = r * 4294967296 + a.getD j 0 := by
    rw [ej, shl_u64 r 32 h0 (by omega) (by omega), wrap_u64 (a.getD j 0) (by omega) (by omega), or_u64 (r * 2 ^ 32) (a.getD j 0) 32 (by omega) (Int.mul_emod_left _ _) (by omega) (by omega) (by omega), show (2 : Int) ^ 32 = 4294967296 from rfl]
   generalize ht : r * 4294967296 + a.getD j 0 = t at hn hb e0
   refine tr_wk (st' := ⟨[(0, cS U32 a), (1, cI s), (5, .c (.X 1002000)), (7, cI (((j + 1 : Nat) : Int) - 1)), (8, cU t)], [(1002000, .vec 23 U32 q)], 6, []⟩) (wk ⟨sR rfl, sR rfl, sR rfl, sR rfl, ⟨_, rfl, AVle.of_eq ?_⟩, trivial⟩ ⟨bR rfl, trivial⟩) ?_
   ·exact congrArg (fun z => AV.c (C.I .u64 z)) e0
   refine rr rfl (hp := by simp only [Pr.an, Pr.h, num, i64r, true_and, and_true]; first | done | omega) (rt rfl (hp := by simp only [Pr.an, Pr.h, num, i64r, true_and, and_true]; first | done | omega) (at_block (at_then (rt rfl (at_loop (j, q.set j (t / 2 ^ s), t % 2 ^ s) hn (by show j < j + 1; omega) (wk ⟨sR rfl, sR rfl, sR rfl, ⟨_, rfl, AVle.of_eq ?_⟩, ⟨_, rfl, AVle.of_eq ?_⟩, trivial⟩ ⟨⟨_, rfl, BLe.of_eq ?_⟩, trivial⟩))))))
   ·exact congrArg (fun z => AV.c (C.I .u64 z)) (and_u64 t s hb.1 hb.2.1 hs)
   ·refine congrArg (fun z => AV.c (C.I .i64 z)) ?_
    show ((j + 1 : Nat) : Int) - 1 - 1 = (j : Int) - 1
    omega
   ·refine congrArg (Blk.vec 23 U32) ?_
    rw [shr_u64 t s (by omega), ej, wrap_u32 _ (by omega) (by omega)]
  ·have h : ¬ ((k : Int) - 1 ≥ 0) := by simpa using h
   have : k = 0 := by omega
   subst this
   refine tr_exit (at_then_exit (at_loop_exit (at_block_exit (at_then (tr_frz 1002000 rfl rfl rfl (rb ?_))))))
   refine rc rfl rfl (trim_s _) (re rfl (tr_ret (at_ret TT_ok rfl (AVle.of_eq ?_))))
   have hv : val a = val q * 2 ^ s + r := hI.v
   have hr : rng q := hI.r
   have eq : val a / 2 ^ s = val q := by
    rw [hv, Int.add_comm, Int.add_mul_ediv_right _ _ (by omega), Int.ediv_eq_zero_of_lt h0 h1]; omega
   rw [trimW_eq hr, eq]
end Go.El

/- Contracts: integers of the program: comparison, differences, sums. Own work; no condition. -/
namespace Go.El
open Go Go.Proofs
theorem wrapm_u64 (n : Int) : IntKind.wrap .u64 n = n % 18446744073709551616 := by simp [IntKind.wrap, IntKind.bits, IntKind.signed]
theorem wrapm_u32 (n : Int) : IntKind.wrap .u32 n = n % 4294967296 := by simp [IntKind.wrap, IntKind.bits, IntKind.signed]
theorem bne_z {x y : Int} (h : (x != y) = true) : x ≠ y := by simpa using h
theorem bne_z' {x y : Int} (h : (x != y) = false) : x = y := by simpa using h
set_option maxHeartbeats 1000000 in
theorem icompare_s (a b : List Int) (ha : rng a) (hb : rng b) (ca : can a) (cb : can b) : FnS Tryz.prog 172 [cS U32 a, cS U32 b] (cI (cmpN (val a) (val b))) := by
 refine fs_intro Tryz.func172 rfl rfl rfl rfl rfl (by decide) (tr_len 0 rfl fun hba => tr_len 1 rfl fun hbb => ?_)
 simp only [ET.n, Nat.mul_one] at hba hbb
 refine rr rfl (tr_seq (rr rfl ?_))
 refine tr_cond rfl (fun h => ?_) (fun h => ?_)
 ·have h : a.length ≠ b.length := by
   have h := bne_z h
   omega
  refine tr_seq (rr rfl ?_)
  refine tr_cond rfl (fun h2 => ?_) (fun h2 => ?_)
  ·have h2 : a.length < b.length := by
    have h2 : (a.length : Int) < (b.length : Int) := of_decide_eq_true h2
    omega
   refine rr rfl (tr_ret ?_)
   repeat (first | refine at_then_ret ?_ | refine at_block_ret ?_ | refine at_loop_ret ?_)
   refine at_ret TT_ok rfl (AVle.of_eq ?_)
   rw [cmpN, if_pos (can_len_lt ha hb cb h2)]; rfl
  ·have h2 : ¬ a.length < b.length := by
    have h2 : ¬ (a.length : Int) < (b.length : Int) := of_decide_eq_false h2
    omega
   refine tr_skip (at_then ?_)
   refine rr rfl (tr_ret ?_)
   repeat (first | refine at_then_ret ?_ | refine at_block_ret ?_ | refine at_loop_ret ?_)
   refine at_ret TT_ok rfl (AVle.of_eq ?_)
   have := can_len_lt hb ha ca (by omega)
   rw [cmpN, if_neg (by omega), if_pos this]; rfl
 ·have hl : a.length = b.length := by
   have h := bne_z' h
   omega
  refine tr_skip (at_then (tr_seq (rr rfl ?_)))
  refine tr_block (tr_loop (α := Nat) (fun k => ⟨[(0, cS U32 a), (1, cS U32 b), (5, cI ((k : Int) - 1))], [], 3, []⟩) (fun k => k ≤ a.length ∧ a.drop k = b.drop k) (fun k => k) a.length ⟨Nat.le_refl _, by simp [hl]⟩ (wk ⟨sR rfl, sR rfl, sR rfl, trivial⟩ trivial) ?_)
  rintro k ⟨hk, hd⟩
  refine tr_seq (rr rfl ?_)
  refine tr_cond rfl (fun h3 => ?_) (fun h3 => ?_)
  ·simp at h3
   obtain ⟨j, rfl⟩ : ∃ j, k = j + 1 := ⟨k - 1, by omega⟩
   have hj : (((j + 1 : Nat) : Int) - 1) = j := by omega
   have hlt : j < a.length := by omega
   rw [hj]
   refine tr_skip (at_then (tr_seq (tr_block (rr rfl ?_))))
   have ga := rng_get ha j
   have gb := rng_get hb j
   refine tr_cond rfl (fun h4 => ?_) (fun h4 => ?_)
   ·have h4 : a.getD j 0 ≠ b.getD j 0 := bne_z h4
    refine tr_seq (rr rfl ?_)
    refine tr_cond rfl (fun h5 => ?_) (fun h5 => ?_)
    ·have h5 : a.getD j 0 < b.getD j 0 := of_decide_eq_true h5
     refine rr rfl (tr_ret ?_)
     repeat (first | refine at_then_ret ?_ | refine at_block_ret ?_ | refine at_loop_ret ?_)
     refine at_ret TT_ok rfl (AVle.of_eq ?_)
     rw [cmpN, if_pos (val_lt_at ha hb j hd hl hlt h5)]; rfl
    ·have h5 : ¬ a.getD j 0 < b.getD j 0 := of_decide_eq_false h5
     refine tr_skip (at_then ?_)
     refine rr rfl (tr_ret ?_)
     repeat (first | refine at_then_ret ?_ | refine at_block_ret ?_ | refine at_loop_ret ?_)
     refine at_ret TT_ok rfl (AVle.of_eq ?_)
     have := val_lt_at hb ha j hd.symm hl.symm (by omega) (by omega)
     rw [cmpN, if_neg (by omega), if_pos this]; rfl
   ·have e : a.getD j 0 = b.getD j 0 := bne_z' h4
    refine tr_skip (at_block (at_then (rt rfl (at_loop j ⟨by omega, ?_⟩ (by show j < j + 1; omega) (wk ⟨sR rfl, sR rfl, sR rfl, trivial⟩ trivial)))))
    have hltb : j < b.length := by omega
    rw [List.drop_eq_getElem_cons hlt, List.drop_eq_getElem_cons hltb, hd]
    simp only [List.getD_eq_getElem?_getD, List.getElem?_eq_getElem hlt, List.getElem?_eq_getElem hltb, Option.getD_some] at e
    rw [e]
  ·simp at h3
   have : k = 0 := by omega
   subst this
   refine tr_exit (at_then_exit (at_loop_exit (at_block_exit (at_then ?_))))
   refine rr rfl (tr_ret ?_)
   repeat (first | refine at_then_ret ?_ | refine at_block_ret ?_ | refine at_loop_ret ?_)
   refine at_ret TT_ok rfl (AVle.of_eq ?_)
   simp only [List.drop_zero] at hd
   rw [hd, cmpN, if_neg (by omega), if_neg (by omega)]; rfl
theorem icompare_z (m k : Nat) : FnS Tryz.prog 172 [cS U32 (wordsN m), cS U32 (wordsN k)] (cI (cmpN m k)) := by
 have := icompare_s (wordsN m) (wordsN k) (rng_words m) (rng_words k) (words_can m) (words_can k)
 rw [val_words, val_words] at this
 exact this
set_option maxHeartbeats 2000000 in
theorem idiff_s (a b : List Int) (ha : rng a) (hb : rng b) (hl : b.length ≤ a.length) (hle : val b ≤ val a) (la : a.length ≤ 1099511627776) : FnS Tryz.prog 173 [cS U32 a, cS U32 b] (cS U32 (wordsN (val a - val b).toNat)) := by
 refine fs_intro Tryz.func173 rfl rfl rfl rfl rfl (by decide) ?_
 refine rr rfl (rb ?_)
 refine rm U32 a.length rfl rfl rfl rfl rfl rfl (zr_int .u32) rfl ?_ ?_ ?_
 ·show _ * 4 ≤ _; omega
 ·show _ * 1 ≤ _; omega
 refine re rfl (rr rfl (tr_seq (rr rfl ?_)))
 generalize hM : a.length = M
 refine tr_block (tr_loop (α := Nat × List Int × Int) (fun x => ⟨[(0, cS U32 a), (1, cS U32 b), (5, .c (.X 1002000)), (6, cU x.2.2), (13, cI M), (14, cI x.1)], [(1002000, .vec 23 U32 x.2.1)], 4, []⟩) (SubI a b M) (fun x => M - x.1) (0, List.replicate M 0, 0) ?_ ?_ ?_)
 ·refine ⟨Nat.zero_le _, by simp, rng_rep M, ?_, Int.le_refl _, (by show (0 : Int) ≤ 1; decide), by simp [val_rep, val]⟩
  intro j _
  simp only [List.getD_eq_getElem?_getD, List.getElem?_replicate]
  split <;> rfl
 ·exact (wk ⟨sR rfl, sR rfl, sR rfl, sR rfl, sR rfl, sR rfl, trivial⟩ ⟨bR rfl, trivial⟩)
 ·rintro ⟨i, o, c⟩ hI
  have hlen : o.length = M := hI.len
  have hc0 : 0 ≤ c := hI.c0
  have hc1 : c ≤ 1 := hI.c1
  have hi : i ≤ M := hI.i
  have ga := rng_get ha i
  have gb := rng_get hb i
  refine rr rfl (tr_seq ?_)
  refine tr_cond rfl (fun h => ?_) (fun h => ?_)
  ·have h : i < M := by
    have h : (i : Int) < (M : Int) := of_decide_eq_true h
    omega
   have hn := hI.next h ha hb
   simp only at hn
   refine tr_skip (at_then (tr_seq (tr_block (rr rfl (rr rfl (hp := by simp only [Pr.an, Pr.h, num, i64r, true_and, and_true]; first | done | omega) ?_)))))
   refine tr_seq (rr rfl ?_)
   refine tr_cond rfl (fun h2 => ?_) (fun h2 => ?_)
   ·have h2 : i < b.length := by
     have h2 : (i : Int) < (b.length : Int) := of_decide_eq_true h2
     omega
    refine rt rfl (hp := by simp only [Pr.an, Pr.h, num, i64r, true_and, and_true]; first | done | omega) (at_then ?_)
    have e0 : IntKind.wrap .u64 (IntKind.wrap .u64 (IntKind.wrap .u64 (a.getD (i : Int).toNat 0) - c) - IntKind.wrap .u64 (b.getD (i : Int).toNat 0)) = (a.getD i 0 - b.getD i 0 - c) % 18446744073709551616 := by
     rw [Int.toNat_natCast, wrapm_u64, wrapm_u64, wrapm_u64, wrapm_u64]; omega
    generalize hd : (a.getD i 0 - b.getD i 0 - c) % 18446744073709551616 = d at e0
    refine tr_wk (st' := ⟨[(0, cS U32 a), (1, cS U32 b), (5, .c (.X 1002000)), (7, cI i), (8, cU d), (13, cI M), (14, cI i)], [(1002000, .vec 23 U32 o)], 20, []⟩) (wk ⟨sR rfl, sR rfl, sR rfl, sR rfl, ⟨_, rfl, AVle.of_eq ?_⟩, sR rfl, sR rfl, trivial⟩ ⟨bR rfl, trivial⟩) ?_
    ·exact congrArg (fun z => AV.c (C.I .u64 z)) e0
    refine rr rfl (hp := by simp only [Pr.an, Pr.h, num, i64r, true_and, and_true]; first | done | omega) (rt rfl (hp := by simp only [Pr.an, Pr.h, num, i64r, true_and, and_true]; first | done | omega) (at_block (at_then (rt rfl (at_loop (i + 1, o.set i ((4294967296 + a.getD i 0 - b.getD i 0 - c) % 4294967296), 1 - (4294967296 + a.getD i 0 - b.getD i 0 - c) / 4294967296) hn (by show M - (i + 1) < M - i; omega) (wk ⟨sR rfl, sR rfl, sR rfl, ⟨_, rfl, AVle.of_eq ?_⟩, sR rfl, sR rfl, trivial⟩ ⟨⟨_, rfl, BLe.of_eq ?_⟩, trivial⟩))))))
    ·refine congrArg (fun z => AV.c (C.I .u64 z)) ?_
     show d.fdiv (2 ^ (min ((63 : Nat) : Int).toNat (IntKind.bits .u64))) = 1 - (4294967296 + a.getD i 0 - b.getD i 0 - c) / 4294967296
     rw [shr_u64 d 63 (by omega)]
     omega
    ·refine congrArg (Blk.vec 23 U32) ?_
     show o.set (i : Int).toNat (IntKind.wrap .u32 d) = o.set i ((4294967296 + a.getD i 0 - b.getD i 0 - c) % 4294967296)
     rw [Int.toNat_natCast, wrapm_u32]
     exact congrArg (o.set i) (by omega)
   ·have h2 : ¬ i < b.length := by
     have h2 : ¬ (i : Int) < (b.length : Int) := of_decide_eq_false h2
     omega
    have hb0 : b.getD i 0 = 0 := by simp [List.getD_eq_getElem?_getD, List.getElem?_eq_none (Nat.le_of_not_lt h2)]
    refine tr_skip (at_then ?_)
    have e0 : IntKind.wrap .u64 (IntKind.wrap .u64 (a.getD (i : Int).toNat 0) - c) = (a.getD i 0 - b.getD i 0 - c) % 18446744073709551616 := by
     rw [Int.toNat_natCast, wrapm_u64, wrapm_u64]; omega
    generalize hd : (a.getD i 0 - b.getD i 0 - c) % 18446744073709551616 = d at e0
    refine tr_wk (st' := ⟨[(0, cS U32 a), (1, cS U32 b), (5, .c (.X 1002000)), (7, cI i), (8, cU d), (13, cI M), (14, cI i)], [(1002000, .vec 23 U32 o)], 20, []⟩) (wk ⟨sR rfl, sR rfl, sR rfl, sR rfl, ⟨_, rfl, AVle.of_eq ?_⟩, sR rfl, sR rfl, trivial⟩ ⟨bR rfl, trivial⟩) ?_
    ·exact congrArg (fun z => AV.c (C.I .u64 z)) e0
    refine rr rfl (hp := by simp only [Pr.an, Pr.h, num, i64r, true_and, and_true]; first | done | omega) (rt rfl (hp := by simp only [Pr.an, Pr.h, num, i64r, true_and, and_true]; first | done | omega) (at_block (at_then (rt rfl (at_loop (i + 1, o.set i ((4294967296 + a.getD i 0 - b.getD i 0 - c) % 4294967296), 1 - (4294967296 + a.getD i 0 - b.getD i 0 - c) / 4294967296) hn (by show M - (i + 1) < M - i; omega) (wk ⟨sR rfl, sR rfl, sR rfl, ⟨_, rfl, AVle.of_eq ?_⟩, sR rfl, sR rfl, trivial⟩ ⟨⟨_, rfl, BLe.of_eq ?_⟩, trivial⟩))))))
    ·refine congrArg (fun z => AV.c (C.I .u64 z)) ?_
     show d.fdiv (2 ^ (min ((63 : Nat) : Int).toNat (IntKind.bits .u64))) = 1 - (4294967296 + a.getD i 0 - b.getD i 0 - c) / 4294967296
     rw [shr_u64 d 63 (by omega)]
     omega
    ·refine congrArg (Blk.vec 23 U32) ?_
     show o.set (i : Int).toNat (IntKind.wrap .u32 d) = o.set i ((4294967296 + a.getD i 0 - b.getD i 0 - c) % 4294967296)
     rw [Int.toNat_natCast, wrapm_u32]
     exact congrArg (o.set i) (by omega)
  ·have h : ¬ i < M := by
    have h : ¬ (i : Int) < (M : Int) := of_decide_eq_false h
    omega
   have hi : i = M := by omega
   subst hi
   refine tr_exit (at_then_exit (at_loop_exit (at_block_exit (at_then (tr_frz 1002000 rfl rfl rfl (rb ?_))))))
   refine rc rfl rfl (trim_s _) (re rfl (tr_ret (at_ret TT_ok rfl (AVle.of_eq ?_))))
   have hr : rng o := hI.r
   have hv : val o - c * 4294967296 ^ i = val (a.take i) - val (b.take i) := hI.v
   rw [val_take_ge a i (by omega), val_take_ge b i (by omega)] at hv
   have hc : c = 0 := by
    have h1 := val_lt hr
    rw [hlen] at h1
    have h2 := powB_pos i
    rcases (show c = 0 ∨ c = 1 by omega) with e | e
    ·exact e
    ·subst e; omega
   subst hc
   rw [trimW_eq hr, ← hv]; simp
theorem idiff_z (m k : Nat) (h : k ≤ m) (hm : (wordsN m).length ≤ 1099511627776) : FnS Tryz.prog 173 [cS U32 (wordsN m), cS U32 (wordsN k)] (cS U32 (wordsN (m - k))) := by
 have := idiff_s (wordsN m) (wordsN k) (rng_words m) (rng_words k) (words_len_mono h) (by rw [val_words, val_words]; omega) hm
 rw [val_words, val_words, show ((m : Int) - (k : Int)).toNat = m - k by omega] at this
 exact this
theorem iAddR_s (na nb : Bool) (m k : Nat) (hm : (wordsN m).length ≤ 1099511627776) (hk : (wordsN k).length ≤ 1099511627776) : FnS Tryz.prog 103 [.a [.B na, .S U32 (wordsN m)], .a [.B nb, .S U32 (wordsN k)]] (aZ (sg na m + sg nb k)) := by
 refine fs_intro Tryz.func103 rfl rfl rfl rfl rfl (by decide) ?_
 refine rr rfl (tr_seq (rr rfl ?_))
 refine tr_cond rfl (fun h => ?_) (fun h => ?_)
 ·have h : na = nb := eq_of_beq h
  subst h
  refine rb (rc rfl rfl (isum_z _ _ hm hk) (rc rfl rfl (isigned_z _ _) (re rfl (tr_ret (at_then_ret (at_ret TT_ok rfl (AVle.of_eq ?_)))))))
  have e2 : sg na (m + k) = sg na m + sg na k := by unfold sg; split <;> omega
  exact congrArg aZ e2
 ·have h : na ≠ nb := fun e => by subst e; simp at h
  refine tr_skip (at_then (tr_seq (rb (rc rfl rfl (icompare_z _ _) (re rfl ?_)))))
  refine tr_cond rfl (fun h2 => ?_) (fun h2 => ?_)
  ·have h2 : k ≤ m := by
    have h2 : cmpN (m : Int) (k : Int) ≥ 0 := of_decide_eq_true h2
    unfold cmpN at h2
    split at h2 <;> omega
   refine rb (rc rfl rfl (idiff_z _ _ h2 hm) (rc rfl rfl (isigned_z _ _) (re rfl (tr_ret (at_then_ret (at_ret TT_ok rfl (AVle.of_eq ?_)))))))
   have e2 : sg na (m - k) = sg na m + sg nb k := by unfold sg; cases na <;> cases nb <;> simp at h ⊢ <;> omega
   exact congrArg aZ e2
  ·have h2 : m ≤ k := by
    have h2 : ¬ cmpN (m : Int) (k : Int) ≥ 0 := of_decide_eq_false h2
    unfold cmpN at h2
    split at h2
    ·omega
    ·split at h2 <;> omega
   refine tr_skip (at_then (rb (rc rfl rfl (idiff_z _ _ h2 hk) (rc rfl rfl (isigned_z _ _) (re rfl (tr_ret (at_ret TT_ok rfl (AVle.of_eq ?_))))))))
   have e2 : sg nb (k - m) = sg na m + sg nb k := by unfold sg; cases na <;> cases nb <;> simp at h ⊢ <;> omega
   exact congrArg aZ e2
theorem iAdd_s (a b : Int) (ha : Sm a) (hb : Sm b) : FnS Tryz.prog 103 [aZ a, aZ b] (aZ (a + b)) := by
 have h := iAddR_s (zneg a) (zneg b) a.natAbs b.natAbs ha hb
 rw [sg_self, sg_self] at h
 exact h
theorem iSub_s (a b : Int) (ha : Sm a) (hb : Sm b) : FnS Tryz.prog 163 [aZ a, aZ b] (aZ (a - b)) := by
 refine fs_intro Tryz.func163 rfl rfl rfl rfl rfl (by decide) ?_
 have h := iAddR_s (zneg a) (!zneg b) a.natAbs b.natAbs ha hb
 have e : sg (zneg a) a.natAbs + sg (!zneg b) b.natAbs = a - b := by
  rw [sg_self]
  unfold sg zneg
  by_cases h : b < 0 <;> simp [h] <;> omega
 rw [e] at h
 exact rr rfl (rb (rc rfl rfl h (re rfl (tr_ret (at_ret TT_ok rfl (AVle.refl _))))))
theorem iCmp_s (a b : Int) : FnS Tryz.prog 149 [aZ a, aZ b] (cI (cmpN a b)) := by
 refine fs_intro Tryz.func149 rfl rfl rfl rfl rfl (by decide) ?_
 refine rr rfl (rb (rc rfl rfl (iSign_s a) (rc rfl rfl (iSign_s b) (re rfl ?_))))
 refine tr_seq (rr rfl (tr_cond rfl (fun h => ?_) (fun h => ?_)))
 ·have h := bne_z h
  refine tr_seq (rr rfl (tr_cond rfl (fun h2 => ?_) (fun h2 => ?_)))
  ·have h2 : sgn a < sgn b := of_decide_eq_true h2
   refine rr rfl (tr_ret (at_then_ret (at_then_ret (at_ret TT_ok rfl (AVle.of_eq (congrArg (fun z => AV.c (C.I .i64 z)) ?_))))))
   unfold sgn at h2; unfold cmpN
   rw [if_pos]
   split at h2 <;> split at h2 <;> (try split at h2) <;> (try split at h2) <;> omega
  ·have h2 : ¬ sgn a < sgn b := of_decide_eq_false h2
   refine tr_skip (at_then (rr rfl (tr_ret (at_then_ret (at_ret TT_ok rfl (AVle.of_eq (congrArg (fun z => AV.c (C.I .i64 z)) ?_)))))))
   unfold sgn at h h2; unfold cmpN
   have : b < a := by
    split at h <;> split at h <;> (try split at h) <;> (try split at h) <;> simp_all <;> omega
   rw [if_neg (by omega), if_pos this]
 ·have h := bne_z' h
  refine tr_skip (at_then (tr_seq (rr rfl (tr_cond rfl (fun h2 => ?_) (fun h2 => ?_)))))
  ·have h2 : sgn a < 0 := of_decide_eq_true h2
   refine rb (rc rfl rfl (icompare_z _ _) (re rfl (tr_ret (at_then_ret (at_ret TT_ok rfl (AVle.of_eq (congrArg (fun z => AV.c (C.I .i64 z)) ?_)))))))
   have e1 : a < 0 := by unfold sgn at h2; split at h2 <;> (try split at h2) <;> omega
   have e2 : b < 0 := by rw [h] at h2; unfold sgn at h2; split at h2 <;> (try split at h2) <;> omega
   unfold cmpN
   split <;> split <;> (try split) <;> omega
  ·have h2 : ¬ sgn a < 0 := of_decide_eq_false h2
   refine tr_skip (at_then (rb (rc rfl rfl (icompare_z _ _) (re rfl (tr_ret (at_ret TT_ok rfl (AVle.of_eq (congrArg (fun z => AV.c (C.I .i64 z)) ?_))))))))
   have e1 : 0 ≤ a := by unfold sgn at h2; split at h2 <;> (try split at h2) <;> omega
   have e2 : 0 ≤ b := by rw [h] at h2; unfold sgn at h2; split at h2 <;> (try split at h2) <;> omega
   unfold cmpN
   split <;> split <;> (try split) <;> omega
end Go.El

/- Contracts: integers of the program: a digit of a long division. Own work; no condition. -/
namespace Go.El
open Go Go.Proofs
theorem beq_z' {x y : Int} (h : (x == y) = false) : x ≠ y := by simpa using h
set_option maxHeartbeats 8000000 in
theorem iqw_s (U v : List Int) (j n : Nat) (hU : rng U) (hv : rng v) (hn : v.length = n + 2) (hj : j + n + 3 ≤ U.length) (hl : U.length ≤ 1099511627777) (htop : 2147483648 ≤ v.getD (n + 1) 0) (hlt : val ((U.drop j).take (n + 3)) < val v * 4294967296) :
  FnM Tryz.prog 276 [.c (.W 0 j (n + 3)), cS U32 v] 23 U32 U (cW (val ((U.drop j).take (n + 3)) / val v)) (wput U j (wordsK (n + 3) (val ((U.drop j).take (n + 3)) % val v))) := by
 refine fm_intro Tryz.func276 rfl rfl rfl rfl rfl (by decide) ?_
 have K := kn1_of hU hv hn hj htop hlt
 have g1 := rng_get hU (j + (n + 2))
 have g2 := rng_get hU (j + (n + 1))
 have g3 := rng_get hU (j + n)
 have k1 := rng_get hv (n + 1)
 have k2 := rng_get hv n
 have hv1 := K.hv1
 have hvp := K.vpos
 have a1 : ((v.length : Int)).toNat = n + 2 := by omega
 have a2 : ((v.length : Int) - 1).toNat = n + 1 := by omega
 have a3 : ((v.length : Int) - 2).toNat = n := by omega
 generalize hQ : gsL 2 ((U.getD (j + (n + 2)) 0 * 4294967296 + U.getD (j + (n + 1)) 0) / v.getD (n + 1) 0) ((U.getD (j + (n + 2)) 0 * 4294967296 + U.getD (j + (n + 1)) 0) % v.getD (n + 1) 0) (v.getD (n + 1) 0) (v.getD n 0) (U.getD (j + n) 0) = Q0
 refine rr rfl (rr rfl (rr rfl (hp := by simp only [Pr.an, Pr.h, num, i64r, true_and, and_true]; first | done | omega) ?_))
 rw [a1, a2]
 have e6 : IntKind.wrap .u64 ((BitVec.ofInt (IntKind.bits .u64) (IntKind.wrap .u64 (IntKind.wrap .u64 (U.getD (j + (n + 2)) 0) * 2 ^ (min ((32 : Nat) : Int).toNat (IntKind.bits .u64)))) ||| BitVec.ofInt (IntKind.bits .u64) (IntKind.wrap .u64 (U.getD (j + (n + 1)) 0))).toNat : Int) = U.getD (j + (n + 2)) 0 * 4294967296 + U.getD (j + (n + 1)) 0 := by
  rw [wrap_u64 (U.getD (j + (n + 2)) 0) (by omega) (by omega), wrap_u64 (U.getD (j + (n + 1)) 0) (by omega) (by omega), shl_u64 _ 32 (by omega) (by omega) (by omega), or_u64 _ _ 32 (by omega) (Int.mul_emod_left _ _) (by omega) (by omega) (by omega), show (2 : Int) ^ 32 = 4294967296 from rfl]
 have ev1 : IntKind.wrap .u64 (v.getD (n + 1) 0) = v.getD (n + 1) 0 := wrap_u64 _ (by omega) (by omega)
 have ev2 : IntKind.wrap .u64 (v.getD n 0) = v.getD n 0 := wrap_u64 _ (by omega) (by omega)
 have eu2 : IntKind.wrap .u64 (U.getD (j + n) 0) = U.getD (j + n) 0 := wrap_u64 _ (by omega) (by omega)
 have ht0 : 0 ≤ U.getD (j + (n + 2)) 0 * 4294967296 + U.getD (j + (n + 1)) 0 := by omega
 have ht1 : U.getD (j + (n + 2)) 0 * 4294967296 + U.getD (j + (n + 1)) 0 < 18446744073709551616 := by omega
 have hsm := @Kn1.small _ _ _ _ _ _ _ _ _ K
 have hdn := @gsL_ok _ _ _ _ _ _ _ _ _ K
 have hfi := K.first
 have hq0 := K.q0
 refine tr_wk (st' := ⟨[(0, .c (.W 0 j (n + 3))), (1, cS U32 v), (5, cI v.length), (6, cU (U.getD (j + (n + 2)) 0 * 4294967296 + U.getD (j + (n + 1)) 0))], [(0, .vec 23 U32 U)], 4, []⟩) (wk ⟨sR rfl, sR rfl, sR rfl, ⟨_, rfl, AVle.of_eq ?_⟩, trivial⟩ ⟨bR rfl, trivial⟩) ?_
 ·exact congrArg (fun z => AV.c (C.I .u64 z)) e6
 generalize U.getD (j + (n + 2)) 0 * 4294967296 + U.getD (j + (n + 1)) 0 = t at *
 generalize hv1e : v.getD (n + 1) 0 = v1 at *
 generalize hv2e : v.getD n 0 = v2 at *
 generalize hu2e : U.getD (j + n) 0 = u2 at *
 generalize hue : val ((U.drop j).take (n + 3)) = u at *
 have x1 : IntKind.wrap .u64 (v.getD ((v.length : Int) - 1).toNat 0) = v1 := by rw [a2, hv1e]; exact ev1
 have x2 : IntKind.wrap .u64 (v.getD ((v.length : Int) - 2).toNat 0) = v2 := by rw [a3, hv2e]; exact ev2
 have x3 : IntKind.wrap .u64 (U.getD (j + ((v.length : Int) - 2).toNat) 0) = u2 := by rw [a3, hu2e]; exact eu2
 have hd0 : 0 ≤ t / v1 := Int.ediv_nonneg ht0 (by omega)
 have hr0 : 0 ≤ t % v1 := Int.emod_nonneg _ (by omega)
 have hr1 : t % v1 < v1 := Int.emod_lt_of_pos _ (by omega)
 have htt := Int.emod_add_mul_ediv t v1
 have hp1 : ((-9223372036854775808 ≤ (v.length : Int) - 1 ∧ (v.length : Int) - 1 ≤ 9223372036854775807) ∧ 0 ≤ (v.length : Int) - 1 ∧ (v.length : Int) - 1 < (v.length : Int)) ∧ IntKind.wrap .u64 (v.getD ((v.length : Int) - 1).toNat 0) ≠ 0 := by rw [x1]; omega
 have hQq := hdn 2 (t / v1) (t % v1) (by rw [Int.mul_comm]; omega) hr0 (by omega) (by show (4294967296 : Int) ≤ t % v1 + (2 : Nat) * 2147483648; omega) hfi
 rw [hQ] at hQq
 obtain ⟨q1, q2, q3⟩ := hQq
 refine rr rfl (hp := by simp only [Pr.an, Pr.h, num, i64r, true_and, and_true]; exact ⟨⟨⟨hp1, hp1.1.1⟩, hp1.1.2⟩, hp1.2⟩) ?_
 refine tr_mid1 ⟨[(0, .c (.W 0 j (n + 3))), (1, cS U32 v), (5, cI v.length), (7, cU Q0)], [(0, .vec 23 U32 U)], 30, []⟩ ?_ (fun mid => tr_block (tr_loop (α := Nat × Int × Int) (fun x => ⟨[(0, .c (.W 0 j (n + 3))), (1, cS U32 v), (5, cI v.length), (6, cU t), (7, cU x.2.1), (8, cU x.2.2)], [(0, .vec 23 U32 U)], 6, []⟩) (fun x => gsL x.1 x.2.1 x.2.2 v1 v2 u2 = Q0 ∧ t = x.2.1 * v1 + x.2.2 ∧ 0 ≤ x.2.2 ∧ x.2.2 < 4294967296 ∧ 4294967296 ≤ x.2.2 + x.1 * 2147483648 ∧ u / val v ≤ x.2.1) (fun x => x.1) (2, t / v1, t % v1) ⟨hQ, by show t = t / v1 * v1 + t % v1; rw [Int.mul_comm]; omega, hr0, by show t % v1 < 4294967296; omega, by show (4294967296 : Int) ≤ t % v1 + (2 : Nat) * 2147483648; omega, hfi⟩ (wk ⟨sR rfl, sR rfl, sR rfl, sR rfl, ⟨_, rfl, AVle.of_eq ?_⟩, ⟨_, rfl, AVle.of_eq ?_⟩, trivial⟩ ⟨bR rfl, trivial⟩) ?_))
 ·-- the multiple is taken away
  clear hdn hsm hQ
  refine rr rfl (tr_seq (rr rfl ?_))
  refine tr_block (tr_loop (α := Nat × Int × Int) (fun x => ⟨[(0, .c (.W 0 j (n + 3))), (1, cS U32 v), (5, cI v.length), (7, cU Q0), (9, cU x.2.1), (10, cU x.2.2), (82, cI v.length), (83, cI x.1)], [(0, .vec 23 U32 (wput U j (wordsK x.1 (val ((U.drop j).take x.1) - Q0 * val (v.take x.1)))))], 32, []⟩) (fun x => x.1 ≤ n + 2 ∧ (val ((U.drop j).take x.1) - Q0 * val (v.take x.1)) / 4294967296 ^ x.1 = -(x.2.1 + x.2.2) ∧ x.2.1 = Q0 * val (v.take x.1) / 4294967296 ^ x.1 ∧ (x.2.2 = 0 ∨ x.2.2 = 1)) (fun x => n + 2 - x.1) (0, 0, 0) ⟨Nat.zero_le _, by simp [val], by simp [val], .inl rfl⟩ (wk ⟨sR rfl, sR rfl, sR rfl, sR rfl, sR rfl, sR rfl, sR rfl, sR rfl, trivial⟩ ⟨⟨_, rfl, BLe.of_eq ?_⟩, trivial⟩) ?_)
  ·exact congrArg (Blk.vec 23 U32) (wput_nil U j).symm
  rintro ⟨i, c, b⟩ ⟨h1, h2, h3, h4⟩
  simp only at h1 h2 h3 h4
  have hc := ls_carry hv (show 0 ≤ Q0 by omega) q3 i
  rw [← h3] at hc
  have gu := rng_get hU (j + i)
  have hst := ls_step U v j i Q0 (c := c) (b := b) rfl h2
  have hlen : (wordsK i (val ((U.drop j).take i) - Q0 * val (v.take i))).length = i := wordsK_len _ _
  have hwl := wput_len (U := U) (j := j) (ws := wordsK i (val ((U.drop j).take i) - Q0 * val (v.take i))) (by omega)
  have hwg := wput_get (U := U) (j := j) (ws := wordsK i (val ((U.drop j).take i) - Q0 * val (v.take i))) (by omega)
  have hws := fun w => wput_set (U := U) (j := j) (ws := wordsK i (val ((U.drop j).take i) - Q0 * val (v.take i))) w (by omega)
  rw [hlen] at hwg hws
  simp only at hst
  obtain ⟨s1, s2⟩ := hst
  refine rr rfl (tr_seq ?_)
  refine tr_cond rfl (fun h => ?_) (fun h => ?_)
  ·have h : i < n + 2 := by
    have h : (i : Int) < (v.length : Int) := of_decide_eq_true h
    omega
   have gv := rng_get hv i
   have hm : 0 ≤ Q0 * v.getD i 0 ∧ Q0 * v.getD i 0 ≤ 18446744065119617025 := mul_lt_sq (by omega) (by omega) gv.1 (by omega)
   have hcn := ls_carry_next (v := v) (q := Q0) i h3
   refine tr_skip (at_then (tr_seq (tr_block (rr rfl (rr rfl (hp := by simp only [Pr.an, Pr.h, num, i64r, true_and, and_true]; first | done | omega) ?_)))))
   have ei : (i : Int).toNat = i := Int.toNat_natCast i
   have w1 : IntKind.wrap .u64 (IntKind.wrap .u64 (Q0 * IntKind.wrap .u64 (v.getD (i : Int).toNat 0)) + c) = Q0 * v.getD i 0 + c := by rw [ei, wrap_u64 (v.getD i 0) (by omega) (by omega), wrap_u64 (Q0 * v.getD i 0) (by omega) (by omega), wrap_u64 _ (by omega) (by omega)]
   generalize hp : Q0 * v.getD i 0 + c = p at *
   have hp0 : 0 ≤ p ∧ p < 18446744073709551616 := by omega
   refine tr_wk (st' := ⟨[(0, .c (.W 0 j (n + 3))), (1, cS U32 v), (5, cI v.length), (7, cU Q0), (10, cU b), (11, cI i), (12, cU p), (82, cI v.length), (83, cI i)], [(0, .vec 23 U32 (wput U j (wordsK i (val ((U.drop j).take i) - Q0 * val (v.take i)))))], 40, []⟩) (wk ⟨sR rfl, sR rfl, sR rfl, sR rfl, sR rfl, sR rfl, ⟨_, rfl, AVle.of_eq ?_⟩, sR rfl, sR rfl, trivial⟩ ⟨bR rfl, trivial⟩) ?_
   ·exact congrArg (fun z => AV.c (C.I .u64 z)) w1
   generalize hX : wput U j (wordsK i (val ((U.drop j).take i) - Q0 * val (v.take i))) = X at *
   refine rr rfl (rr rfl (hp := by simp only [Pr.an, Pr.h, num, i64r, true_and, and_true]; first | done | omega) ?_)
   have w2 : p.fdiv (2 ^ (min ((32 : Nat) : Int).toNat (IntKind.bits .u64))) = p / 4294967296 := shr_u64 p 32 (by omega)
   have w3 : IntKind.wrap .u64 (IntKind.wrap .u64 (IntKind.wrap .u64 (X.getD (j + (i : Int).toNat) 0) - IntKind.wrap .u64 (IntKind.wrap .u32 p)) - b) = (U.getD (j + i) 0 - p % 4294967296 - b) % 18446744073709551616 := by
    rw [ei, hwg, wrapm_u64, wrapm_u64, wrapm_u64, wrapm_u64, wrapm_u32]; omega
   generalize hd : (U.getD (j + i) 0 - p % 4294967296 - b) % 18446744073709551616 = d at *
   refine tr_wk (st' := ⟨[(0, .c (.W 0 j (n + 3))), (1, cS U32 v), (5, cI v.length), (7, cU Q0), (9, cU (p / 4294967296)), (11, cI i), (13, cU d), (82, cI v.length), (83, cI i)], [(0, .vec 23 U32 X)], 44, []⟩) (wk ⟨sR rfl, sR rfl, sR rfl, sR rfl, ⟨_, rfl, AVle.of_eq ?_⟩, sR rfl, ⟨_, rfl, AVle.of_eq ?_⟩, sR rfl, sR rfl, trivial⟩ ⟨bR rfl, trivial⟩) ?_
   ·exact congrArg (fun z => AV.c (C.I .u64 z)) w2
   ·exact congrArg (fun z => AV.c (C.I .u64 z)) w3
   refine rr rfl (hp := by simp only [Pr.an, Pr.h, num, i64r, true_and, and_true]; first | done | omega) (rt rfl (hp := by simp only [Pr.an, Pr.h, num, i64r, true_and, and_true]; first | done | omega) (at_block (at_then (rt rfl (at_loop (i + 1, p / 4294967296, 1 - (4294967296 + U.getD (j + i) 0 - p % 4294967296 - b) / 4294967296) ⟨by show i + 1 ≤ n + 2; omega, s2, hcn.symm, by show 1 - (4294967296 + U.getD (j + i) 0 - p % 4294967296 - b) / 4294967296 = 0 ∨ 1 - (4294967296 + U.getD (j + i) 0 - p % 4294967296 - b) / 4294967296 = 1; omega⟩ (by show n + 2 - (i + 1) < n + 2 - i; omega) (wk ⟨sR rfl, sR rfl, sR rfl, sR rfl, sR rfl, ⟨_, rfl, AVle.of_eq ?_⟩, sR rfl, sR rfl, trivial⟩ ⟨⟨_, rfl, BLe.of_eq ?_⟩, trivial⟩))))))
   ·refine congrArg (fun z => AV.c (C.I .u64 z)) ?_
    show d.fdiv (2 ^ (min ((63 : Nat) : Int).toNat (IntKind.bits .u64))) = 1 - (4294967296 + U.getD (j + i) 0 - p % 4294967296 - b) / 4294967296
    rw [shr_u64 d 63 (by omega)]
    omega
   ·refine congrArg (Blk.vec 23 U32) ?_
    show X.set (j + (i : Int).toNat) (IntKind.wrap .u32 d) = wput U j (wordsK (i + 1) _)
    rw [s1, ei, wrapm_u32, show d % 4294967296 = (4294967296 + U.getD (j + i) 0 - p % 4294967296 - b) % 4294967296 by omega, hws]
  ·have e : i = n + 2 := by
    have h : ¬ (i : Int) < (v.length : Int) := of_decide_eq_false h
    omega
   subst e
   have hv0 : v.getD (n + 2) 0 = 0 := by simp [List.getD_eq_getElem?_getD, List.getElem?_eq_none (show v.length ≤ n + 2 by omega)]
   rw [hv0, Int.mul_zero, Int.zero_add, Int.emod_eq_of_lt hc.1 hc.2, Int.ediv_eq_zero_of_lt hc.1 hc.2, Int.zero_add, val_take_ge v (n + 2 + 1) (by omega), hue] at s2
   rw [hv0, Int.mul_zero, Int.zero_add, Int.emod_eq_of_lt hc.1 hc.2, val_take_ge v (n + 2 + 1) (by omega), hue] at s1
   generalize hX : wput U j (wordsK (n + 2) (val ((U.drop j).take (n + 2)) - Q0 * val (v.take (n + 2)))) = X at *
   refine tr_exit (at_then_exit (at_loop_exit (at_block_exit (at_then (rr rfl (hp := by simp only [Pr.an, Pr.h, num, i64r, true_and, and_true]; first | done | omega) ?_)))))
   have w3 : IntKind.wrap .u64 (IntKind.wrap .u64 (IntKind.wrap .u64 (X.getD (j + (v.length : Int).toNat) 0) - c) - b) = (U.getD (j + (n + 2)) 0 - c - b) % 18446744073709551616 := by
    rw [a1, hwg, wrapm_u64, wrapm_u64, wrapm_u64]; omega
   generalize hd : (U.getD (j + (n + 2)) 0 - c - b) % 18446744073709551616 = d at *
   refine tr_wk (st' := ⟨[(0, .c (.W 0 j (n + 3))), (1, cS U32 v), (5, cI v.length), (7, cU Q0), (14, cU d)], [(0, .vec 23 U32 X)], 44, []⟩) (wk ⟨sR rfl, sR rfl, sR rfl, sR rfl, ⟨_, rfl, AVle.of_eq ?_⟩, trivial⟩ ⟨bR rfl, trivial⟩) ?_
   ·exact congrArg (fun z => AV.c (C.I .u64 z)) w3
   refine rr rfl (hp := by simp only [Pr.an, Pr.h, num, i64r, true_and, and_true]; first | done | omega) (tr_seq (rr rfl (hp := by simp only [Pr.an, Pr.h, num, i64r, true_and, and_true]; first | done | omega) ?_))
   have hX2 : X.set (j + (v.length : Int).toNat) (IntKind.wrap .u32 d) = wput U j (wordsK (n + 3) (u - Q0 * val v)) := by
    rw [a1, show n + 3 = n + 2 + 1 from rfl, s1, wrapm_u32, show d % 4294967296 = (4294967296 + U.getD (j + (n + 2)) 0 - c - b) % 4294967296 by omega, hws]
   have hsh : d.fdiv (2 ^ (min ((63 : Nat) : Int).toNat (IntKind.bits .u64))) = 1 - (4294967296 + U.getD (j + (n + 2)) 0 - c - b) / 4294967296 := by
    rw [shr_u64 d 63 (by omega)]; omega
   generalize hbb : 1 - (4294967296 + U.getD (j + (n + 2)) 0 - c - b) / 4294967296 = b' at *
   have hb01 : b' = 0 ∨ b' = 1 := by omega
   have hdm := Int.emod_add_mul_ediv u (val v)
   have hm0 := Int.emod_nonneg u (show val v ≠ 0 by omega)
   have hm1 := Int.emod_lt_of_pos u hvp
   have hpn := powB_pos (n + 2 + 1)
   have h5 := Int.emod_add_mul_ediv (u - Q0 * val v) (4294967296 ^ (n + 2 + 1))
   have h6 := Int.emod_nonneg (u - Q0 * val v) (show (4294967296 : Int) ^ (n + 2 + 1) ≠ 0 by omega)
   have h7 := Int.emod_lt_of_pos (u - Q0 * val v) hpn
   rw [s2] at h5
   refine tr_cond rfl (fun h8 => ?_) (fun h8 => ?_)
   ·have h8 : b' = 0 := by
     have h8 : d.fdiv (2 ^ (min ((63 : Nat) : Int).toNat (IntKind.bits .u64))) = 0 := eq_of_beq h8
     rw [← hsh]; exact h8
    have hq : Q0 = u / val v := by
     rw [h8] at h5
     simp only [Int.neg_zero, Int.mul_zero, Int.add_zero] at h5
     by_cases e : Q0 = u / val v
     ·exact e
     ·exfalso
      have e2 : Q0 = u / val v + 1 := by omega
      have hqv : Q0 * val v = val v * (u / val v) + val v := by rw [e2, Int.add_mul, Int.one_mul, Int.mul_comm]
      omega
    have e1 : u - Q0 * val v = u % val v := by
     have := Int.mul_comm (u / val v) (val v)
     rw [hq]; omega
    refine rr rfl (tr_ret ?_)
    repeat (first | refine at_then_ret ?_ | refine at_block_ret ?_ | refine at_loop_ret ?_)
    refine at_wk (st' := ⟨[(4, cW (u / val v))], [(0, .vec 23 U32 (wput U j (wordsK (n + 3) (u % val v))))], 60, []⟩) (wk ⟨⟨_, rfl, AVle.of_eq ?_⟩, trivial⟩ ⟨⟨_, rfl, BLe.of_eq ?_⟩, trivial⟩) (at_retM TT_ok rfl (AVle.refl _) rfl)
    ·refine congrArg (fun z => AV.c (C.I .u32 z)) ?_
     rw [wrap_u32 _ (by omega) (by omega)]; exact hq
    ·rw [hX2, e1]
   ·have h8 : b' = 1 := by
     have h8 : ¬ d.fdiv (2 ^ (min ((63 : Nat) : Int).toNat (IntKind.bits .u64))) = 0 := beq_z' h8
     rw [hsh] at h8
     omega
    have hq : Q0 = u / val v + 1 := by
     rw [h8] at h5
     rw [Int.mul_neg, Int.mul_one] at h5
     by_cases e : Q0 = u / val v
     ·exfalso
      have : Q0 * val v = val v * (u / val v) := by rw [e, Int.mul_comm]
      omega
     ·omega
    have hqv : Q0 * val v = val v * (u / val v) + val v := by rw [hq, Int.add_mul, Int.one_mul, Int.mul_comm]
    refine tr_skip (at_then ?_)
    refine tr_wk (st' := ⟨[(0, .c (.W 0 j (n + 3))), (1, cS U32 v), (5, cI v.length), (7, cU Q0)], [(0, .vec 23 U32 (wput U j (wordsK (n + 3) (u - Q0 * val v))))], 50, []⟩) (wk ⟨sR rfl, sR rfl, sR rfl, sR rfl, trivial⟩ ⟨⟨_, rfl, BLe.of_eq ?_⟩, trivial⟩) ?_
    ·rw [hX2]
    have hwlen : ∀ x, (wordsK (n + 3) x).length = n + 3 := fun x => wordsK_len _ _
    have hU1 : rng (wput U j (wordsK (n + 3) (u - Q0 * val v))) := wput_rng hU (wordsK_rng _ _)
    have hU1l : (wput U j (wordsK (n + 3) (u - Q0 * val v))).length = U.length := wput_len (by rw [hwlen]; omega)
    have hlast : wput (wput U j (wordsK (n + 3) (u - Q0 * val v))) j (wordsK (n + 3) (val (((wput U j (wordsK (n + 3) (u - Q0 * val v))).drop j).take (n + 3)) + val v)) = wput U j (wordsK (n + 3) (u % val v)) := by
     rw [wput_wput (by rw [hwlen]; omega) (by rw [hwlen, hwlen]), wput_drop (by rw [hwlen]; omega), List.take_append_of_le_length (by rw [hwlen]; omega), List.take_of_length_le (by rw [hwlen]; omega), wordsK_val]
     refine congrArg (wput U j) (wordsK_mod _ _ _ ?_)
     rw [Int.emod_add_emod]
     congr 1
     omega
    generalize wput U j (wordsK (n + 3) (u - Q0 * val v)) = U1 at *
    clear hX2 hsh hbb s1 s2 hws hwg hX
    refine rr rfl (tr_seq (rr rfl ?_))
    refine tr_block (tr_loop (α := Nat × Int) (fun x => ⟨[(0, .c (.W 0 j (n + 3))), (1, cS U32 v), (5, cI v.length), (7, cU Q0), (9, cU x.2), (135, cI v.length), (136, cI x.1)], [(0, .vec 23 U32 (wput U1 j (wordsK x.1 (val ((U1.drop j).take x.1) + val (v.take x.1)))))], 60, []⟩) (fun x => x.1 ≤ n + 2 ∧ (val ((U1.drop j).take x.1) + val (v.take x.1)) / 4294967296 ^ x.1 = x.2 ∧ (x.2 = 0 ∨ x.2 = 1)) (fun x => n + 2 - x.1) (0, 0) ⟨Nat.zero_le _, by simp [val], .inl rfl⟩ (wk ⟨sR rfl, sR rfl, sR rfl, sR rfl, sR rfl, sR rfl, sR rfl, trivial⟩ ⟨⟨_, rfl, BLe.of_eq ?_⟩, trivial⟩) ?_)
    ·exact congrArg (Blk.vec 23 U32) (wput_nil U1 j).symm
    rintro ⟨i, c⟩ ⟨h1, h2, h4⟩
    simp only at h1 h2 h4
    have gu := rng_get hU1 (j + i)
    have hst := ad_step U1 v j i (c := c) rfl h2
    simp only at hst
    obtain ⟨s1, s2⟩ := hst
    have hlen : (wordsK i (val ((U1.drop j).take i) + val (v.take i))).length = i := wordsK_len _ _
    have hwl := wput_len (U := U1) (j := j) (ws := wordsK i (val ((U1.drop j).take i) + val (v.take i))) (by omega)
    have hwg := wput_get (U := U1) (j := j) (ws := wordsK i (val ((U1.drop j).take i) + val (v.take i))) (by omega)
    have hws := fun w => wput_set (U := U1) (j := j) (ws := wordsK i (val ((U1.drop j).take i) + val (v.take i))) w (by omega)
    rw [hlen] at hwg hws
    refine rr rfl (tr_seq ?_)
    refine tr_cond rfl (fun h => ?_) (fun h => ?_)
    ·have h : i < n + 2 := by
      have h : (i : Int) < (v.length : Int) := of_decide_eq_true h
      omega
     have gv := rng_get hv i
     generalize hX : wput U1 j (wordsK i (val ((U1.drop j).take i) + val (v.take i))) = X at *
     have ei : (i : Int).toNat = i := Int.toNat_natCast i
     refine tr_skip (at_then (tr_seq (tr_block (rr rfl (rr rfl (hp := by simp only [Pr.an, Pr.h, num, i64r, true_and, and_true]; first | done | omega) ?_)))))
     have w1 : IntKind.wrap .u64 (IntKind.wrap .u64 (IntKind.wrap .u64 (X.getD (j + (i : Int).toNat) 0) + IntKind.wrap .u64 (v.getD (i : Int).toNat 0)) + c) = U1.getD (j + i) 0 + v.getD i 0 + c := by
      rw [ei, hwg, wrap_u64 (U1.getD (j + i) 0) (by omega) (by omega), wrap_u64 (v.getD i 0) (by omega) (by omega), wrap_u64 (_ + v.getD i 0) (by omega) (by omega), wrap_u64 _ (by omega) (by omega)]
     generalize ht : U1.getD (j + i) 0 + v.getD i 0 + c = s at *
     have ht0 : 0 ≤ s ∧ s < 8589934592 := by omega
     refine tr_wk (st' := ⟨[(0, .c (.W 0 j (n + 3))), (1, cS U32 v), (5, cI v.length), (7, cU Q0), (15, cI i), (16, cU s), (135, cI v.length), (136, cI i)], [(0, .vec 23 U32 X)], 70, []⟩) (wk ⟨sR rfl, sR rfl, sR rfl, sR rfl, sR rfl, ⟨_, rfl, AVle.of_eq ?_⟩, sR rfl, sR rfl, trivial⟩ ⟨bR rfl, trivial⟩) ?_
     ·exact congrArg (fun z => AV.c (C.I .u64 z)) w1
     refine rr rfl (hp := by simp only [Pr.an, Pr.h, num, i64r, true_and, and_true]; first | done | omega) (rt rfl (hp := by simp only [Pr.an, Pr.h, num, i64r, true_and, and_true]; first | done | omega) (at_block (at_then (rt rfl (at_loop (i + 1, s / 4294967296) ⟨by show i + 1 ≤ n + 2; omega, s2, by show s / 4294967296 = 0 ∨ s / 4294967296 = 1; omega⟩ (by show n + 2 - (i + 1) < n + 2 - i; omega) (wk ⟨sR rfl, sR rfl, sR rfl, sR rfl, ⟨_, rfl, AVle.of_eq ?_⟩, sR rfl, sR rfl, trivial⟩ ⟨⟨_, rfl, BLe.of_eq ?_⟩, trivial⟩))))))
     ·exact congrArg (fun z => AV.c (C.I .u64 z)) (shr_u64 s 32 (by omega))
     ·refine congrArg (Blk.vec 23 U32) ?_
      show X.set (j + (i : Int).toNat) (IntKind.wrap .u32 s) = wput U1 j (wordsK (i + 1) _)
      rw [s1, ei, wrapm_u32, hws]
    ·have e : i = n + 2 := by
      have h : ¬ (i : Int) < (v.length : Int) := of_decide_eq_false h
      omega
     subst e
     rw [hv0, Int.add_zero, val_take_ge v (n + 2 + 1) (by omega)] at s1
     generalize hX : wput U1 j (wordsK (n + 2) (val ((U1.drop j).take (n + 2)) + val (v.take (n + 2)))) = X at *
     refine tr_exit (at_then_exit (at_loop_exit (at_block_exit (at_then (rr rfl (hp := by simp only [Pr.an, Pr.h, num, i64r, true_and, and_true]; first | done | omega) (rr rfl (tr_ret ?_)))))))
     refine at_wk (st' := ⟨[(4, cW (u / val v))], [(0, .vec 23 U32 (wput U j (wordsK (n + 3) (u % val v))))], 90, []⟩) (wk ⟨⟨_, rfl, AVle.of_eq ?_⟩, trivial⟩ ⟨⟨_, rfl, BLe.of_eq ?_⟩, trivial⟩) (at_retM TT_ok rfl (AVle.refl _) rfl)
     ·refine congrArg (fun z => AV.c (C.I .u32 z)) ?_
      rw [wrapm_u64, wrapm_u32]; omega
     ·refine congrArg (Blk.vec 23 U32) ?_
      rw [← hlast, show n + 3 = n + 2 + 1 from rfl, s1, a1, hwg, wrapm_u32, wrapm_u32, show (U1.getD (j + (n + 2)) 0 + c % 4294967296) % 4294967296 = (U1.getD (j + (n + 2)) 0 + c) % 4294967296 by omega, hws]
 ·refine congrArg (fun z => AV.c (C.I .u64 z)) ?_
  show IntKind.wrap .u64 (t.tdiv (IntKind.wrap .u64 (v.getD ((v.length : Int) - 1).toNat 0))) = t / v1
  have := Int.ediv_le_self v1 ht0
  rw [x1, tdiv_pos' ht0, wrap_u64 _ hd0 (by omega)]
 ·refine congrArg (fun z => AV.c (C.I .u64 z)) ?_
  show (t.tmod (IntKind.wrap .u64 (v.getD ((v.length : Int) - 1).toNat 0))) = t % v1
  rw [x1, tmod_pos' ht0]
 ·rintro ⟨f, q, r⟩ ⟨h1, h2, h3, h4, h5, h6⟩
  simp only at h1 h2 h3 h4 h5 h6
  have hqs := hsm h2 h3
  cases f with
  | zero => omega
  | succ f =>
  rw [gsL] at h1
  have hm1 : 0 ≤ q * v2 ∧ q * v2 < 18446744073709551616 := by
   refine ⟨Int.mul_nonneg (by omega) (by omega), ?_⟩
   have : q * v2 ≤ 4294967297 * 4294967295 := Int.mul_le_mul (by omega) (by omega) (by omega) (by decide)
   omega
  refine tr_seq (rb (rg 50 rfl rfl (fun h => ?_) (fun h => ?_)))
  ·have hqB : q ≥ 4294967296 := by simpa using h
   have hc : q ≥ 4294967296 ∨ q * v2 > r * 4294967296 + u2 := .inl hqB
   refine re rfl (tr_cond rfl (fun _ => ?_) (fun h7 => by cases h7))
   have hlt : u / val v < q := by
    rcases hc with hc | hc
    ·have := K.qlt; omega
    ·exact K.down h2 (by omega) hc
   have w1 : IntKind.wrap .u64 (q - 1) = q - 1 := wrap_u64 _ (by omega) (by omega)
   have w2 : IntKind.wrap .u64 (r + IntKind.wrap .u64 (v.getD ((v.length : Int) - 1).toNat 0)) = r + v1 := by rw [x1, wrap_u64 _ (by omega) (by omega)]
   refine tr_skip (at_then (tr_block (rr rfl (rr rfl (hp := by simp only [Pr.an, Pr.h, num, i64r, true_and, and_true]; first | done | omega) (rr rfl (tr_cond rfl (fun h7 => ?_) (fun h7 => ?_)))))))
   ·have h7 : r + v1 ≥ 4294967296 := by
     have h7 : IntKind.wrap .u64 (r + IntKind.wrap .u64 (v.getD ((v.length : Int) - 1).toNat 0)) ≥ 4294967296 := of_decide_eq_true h7
     omega
    rw [if_pos hc, if_pos h7] at h1
    refine tr_exit (at_block_exit_ne (at_loop_exit (at_block_exit (at_mid mid (wk ⟨sR rfl, sR rfl, sR rfl, ⟨_, rfl, AVle.of_eq ?_⟩, trivial⟩ ⟨bR rfl, trivial⟩)))))
    refine congrArg (fun z => AV.c (C.I .u64 z)) ?_
    rw [← h1]; exact w1
   ·have h7 : ¬ r + v1 ≥ 4294967296 := by
     have h7 : ¬ IntKind.wrap .u64 (r + IntKind.wrap .u64 (v.getD ((v.length : Int) - 1).toNat 0)) ≥ 4294967296 := of_decide_eq_false h7
     omega
    rw [if_pos hc, if_neg h7] at h1
    refine tr_skip (at_block (at_loop (f, q - 1, r + v1) ⟨h1, by show t = (q - 1) * v1 + (r + v1); rw [Int.sub_mul, Int.one_mul]; omega, by show 0 ≤ r + v1; omega, by show r + v1 < 4294967296; omega, by show (4294967296 : Int) ≤ r + v1 + (f : Nat) * 2147483648; omega, by show u / val v ≤ q - 1; omega⟩ (Nat.lt_succ_self f) (wk ⟨sR rfl, sR rfl, sR rfl, sR rfl, ⟨_, rfl, AVle.of_eq ?_⟩, ⟨_, rfl, AVle.of_eq ?_⟩, trivial⟩ ⟨bR rfl, trivial⟩)))
    ·exact congrArg (fun z => AV.c (C.I .u64 z)) w1
    ·exact congrArg (fun z => AV.c (C.I .u64 z)) w2
  ·have hqB : ¬ q ≥ 4294967296 := by
    have : q < 4294967296 := by simpa using h
    omega
   have w3 : IntKind.wrap .u64 (q * IntKind.wrap .u64 (v.getD ((v.length : Int) - 2).toNat 0)) = q * v2 := by rw [x2, wrap_u64 _ hm1.1 hm1.2]
   have w4 : IntKind.wrap .u64 ((BitVec.ofInt (IntKind.bits .u64) (IntKind.wrap .u64 (r * 2 ^ (min ((32 : Nat) : Int).toNat (IntKind.bits .u64)))) ||| BitVec.ofInt (IntKind.bits .u64) (IntKind.wrap .u64 (U.getD (j + ((v.length : Int) - 2).toNat) 0))).toNat : Int) = r * 4294967296 + u2 := by
    rw [x3, shl_u64 r 32 h3 (by omega) (by omega), or_u64 _ _ 32 (by omega) (Int.mul_emod_left _ _) (by omega) (by omega) (by omega), show (2 : Int) ^ 32 = 4294967296 from rfl]
   refine re rfl (hp := by simp only [Pr.an, Pr.h, num, i64r, true_and, and_true]; first | done | omega) (tr_cond rfl (fun h8 => ?_) (fun h8 => ?_))
   ·have hc : q ≥ 4294967296 ∨ q * v2 > r * 4294967296 + u2 := .inr (by
     have h8 : IntKind.wrap .u64 (q * IntKind.wrap .u64 (v.getD ((v.length : Int) - 2).toNat 0)) > IntKind.wrap .u64 ((BitVec.ofInt (IntKind.bits .u64) (IntKind.wrap .u64 (r * 2 ^ (min ((32 : Nat) : Int).toNat (IntKind.bits .u64)))) ||| BitVec.ofInt (IntKind.bits .u64) (IntKind.wrap .u64 (U.getD (j + ((v.length : Int) - 2).toNat) 0))).toNat : Int) := of_decide_eq_true h8
     rw [w3, w4] at h8
     exact h8)
    have hlt : u / val v < q := by
     rcases hc with hc | hc
     ·have := K.qlt; omega
     ·exact K.down h2 (by omega) hc
    have w1 : IntKind.wrap .u64 (q - 1) = q - 1 := wrap_u64 _ (by omega) (by omega)
    have w2 : IntKind.wrap .u64 (r + IntKind.wrap .u64 (v.getD ((v.length : Int) - 1).toNat 0)) = r + v1 := by rw [x1, wrap_u64 _ (by omega) (by omega)]
    refine tr_skip (at_then (tr_block (rr rfl (rr rfl (hp := by simp only [Pr.an, Pr.h, num, i64r, true_and, and_true]; first | done | omega) (rr rfl (tr_cond rfl (fun h7 => ?_) (fun h7 => ?_)))))))
    ·have h7 : r + v1 ≥ 4294967296 := by
      have h7 : IntKind.wrap .u64 (r + IntKind.wrap .u64 (v.getD ((v.length : Int) - 1).toNat 0)) ≥ 4294967296 := of_decide_eq_true h7
      omega
     rw [if_pos hc, if_pos h7] at h1
     refine tr_exit (at_block_exit_ne (at_loop_exit (at_block_exit (at_mid mid (wk ⟨sR rfl, sR rfl, sR rfl, ⟨_, rfl, AVle.of_eq ?_⟩, trivial⟩ ⟨bR rfl, trivial⟩)))))
     refine congrArg (fun z => AV.c (C.I .u64 z)) ?_
     rw [← h1]; exact w1
    ·have h7 : ¬ r + v1 ≥ 4294967296 := by
      have h7 : ¬ IntKind.wrap .u64 (r + IntKind.wrap .u64 (v.getD ((v.length : Int) - 1).toNat 0)) ≥ 4294967296 := of_decide_eq_false h7
      omega
     rw [if_pos hc, if_neg h7] at h1
     refine tr_skip (at_block (at_loop (f, q - 1, r + v1) ⟨h1, by show t = (q - 1) * v1 + (r + v1); rw [Int.sub_mul, Int.one_mul]; omega, by show 0 ≤ r + v1; omega, by show r + v1 < 4294967296; omega, by show (4294967296 : Int) ≤ r + v1 + (f : Nat) * 2147483648; omega, by show u / val v ≤ q - 1; omega⟩ (Nat.lt_succ_self f) (wk ⟨sR rfl, sR rfl, sR rfl, sR rfl, ⟨_, rfl, AVle.of_eq ?_⟩, ⟨_, rfl, AVle.of_eq ?_⟩, trivial⟩ ⟨bR rfl, trivial⟩)))
     ·exact congrArg (fun z => AV.c (C.I .u64 z)) w1
     ·exact congrArg (fun z => AV.c (C.I .u64 z)) w2
   ·have hc : ¬ (q ≥ 4294967296 ∨ q * v2 > r * 4294967296 + u2) := by
     have h8 : ¬ IntKind.wrap .u64 (q * IntKind.wrap .u64 (v.getD ((v.length : Int) - 2).toNat 0)) > IntKind.wrap .u64 ((BitVec.ofInt (IntKind.bits .u64) (IntKind.wrap .u64 (r * 2 ^ (min ((32 : Nat) : Int).toNat (IntKind.bits .u64)))) ||| BitVec.ofInt (IntKind.bits .u64) (IntKind.wrap .u64 (U.getD (j + ((v.length : Int) - 2).toNat) 0))).toNat : Int) := of_decide_eq_false h8
     rw [w3, w4] at h8
     omega
    rw [if_neg hc] at h1
    subst h1
    exact tr_exit (at_then_exit (at_loop_exit (at_block_exit (at_mid mid (wk ⟨sR rfl, sR rfl, sR rfl, sR rfl, trivial⟩ ⟨bR rfl, trivial⟩)))))
end Go.El

/- Contracts: integers of the program: division. Own work; no condition. -/
namespace Go.El
open Go Go.Proofs
theorem itrim_z (m : Nat) : FnS Tryz.prog 234 [cS U32 (wordsN m)] (cS U32 (wordsN m)) := by
 have h := trim_s (wordsN m)
 rwa [trimW_words] at h
theorem shnorm_ok {k n : Nat} (hn : (wordsN k).length = n + 2) {x s : Nat} (ex : (x : Int) = (wordsN k).getD (n + 1) 0) (h1 : 2147483648 ≤ x * 2 ^ s) (h2 : x * 2 ^ s < 4294967296) (hs : s ≤ 31) :
  ((k * 2 ^ s : Nat) : Int) < 4294967296 ^ (n + 2) ∧ (wordsN (k * 2 ^ s)).length = n + 2 ∧ 2147483648 ≤ (wordsN (k * 2 ^ s)).getD (n + 1) 0 := by
 have hD : 0 < 2 ^ s := Nat.pow_pos (by decide)
 have hx1 : (x + 1) * 2 ^ s ≤ 4294967296 := by
  have e : 4294967296 = 2 ^ (32 - s) * 2 ^ s := by rw [← Nat.pow_add, show 32 - s + s = 32 by omega]
  have : x < 2 ^ (32 - s) := by
   rw [e] at h2
   exact Nat.lt_of_mul_lt_mul_right h2
  rw [e]
  exact Nat.mul_le_mul_right _ this
 generalize hDD : 2 ^ s = D at *
 have hv := val_take_succ' (wordsN k) (n + 1)
 rw [val_take_ge _ _ (show (wordsN k).length ≤ n + 1 + 1 by omega), val_words, ← ex] at hv
 have l1 := val_lt (rng_take (rng_words k) (n + 1))
 rw [show ((wordsN k).take (n + 1)).length = n + 1 by simp; omega] at l1
 have l0 := val_nonneg (rng_take (rng_words k) (n + 1))
 have hp := powB_pos (n + 1)
 generalize val ((wordsN k).take (n + 1)) = k' at *
 have hx1' : ((x : Int) + 1) * (D : Int) ≤ 4294967296 := by
  have : (((x + 1) * D : Nat) : Int) ≤ ((4294967296 : Nat) : Int) := by omega
  rw [Int.natCast_mul, Int.natCast_add] at this
  exact this
 have h1' : (2147483648 : Int) ≤ (x : Int) * (D : Int) := by
  have : ((2147483648 : Nat) : Int) ≤ ((x * D : Nat) : Int) := by omega
  rw [Int.natCast_mul] at this
  exact this
 have kd : ((k * D : Nat) : Int) < 4294967296 ^ (n + 2) := by
  rw [Int.natCast_mul, powB_succ, hv]
  have a1 : (k' + (x : Int) * 4294967296 ^ (n + 1)) * D < (((x : Int) + 1) * 4294967296 ^ (n + 1)) * D := Int.mul_lt_mul_of_pos_right (by rw [Int.add_mul, Int.one_mul]; omega) (by omega)
  have a2 : ((x : Int) + 1) * 4294967296 ^ (n + 1) * D = 4294967296 ^ (n + 1) * (((x : Int) + 1) * D) := by
   generalize (4294967296 : Int) ^ (n + 1) = y
   grind
  have a3 : 4294967296 ^ (n + 1) * (((x : Int) + 1) * D) ≤ 4294967296 ^ (n + 1) * 4294967296 := Int.mul_le_mul_of_nonneg_left hx1' (by omega)
  omega
 have hl : (wordsN (k * D)).length = n + 2 := by
  have b1 : (wordsN (k * D)).length ≤ n + 2 := words_len_le kd
  have b2 := words_len_mono (m := k) (k := k * D) (Nat.le_mul_of_pos_right _ hD)
  omega
 refine ⟨kd, hl, ?_⟩
 have hv2 := val_take_succ' (wordsN (k * D)) (n + 1)
 rw [val_take_ge _ _ (show (wordsN (k * D)).length ≤ n + 1 + 1 by omega), val_words] at hv2
 have m1 := val_lt (rng_take (rng_words (k * D)) (n + 1))
 rw [show ((wordsN (k * D)).take (n + 1)).length = n + 1 by simp; omega] at m1
 generalize (wordsN (k * D)).getD (n + 1) 0 = c1 at *
 generalize val ((wordsN (k * D)).take (n + 1)) = c' at *
 by_cases e : 2147483648 ≤ c1
 ·exact e
 ·exfalso
  have e1 : (c1 + 1) * 4294967296 ^ (n + 1) ≤ (x : Int) * D * 4294967296 ^ (n + 1) := Int.mul_le_mul_of_nonneg_right (by omega) (by omega)
  have e2 : (x : Int) * 4294967296 ^ (n + 1) * D ≤ (k : Int) * D := Int.mul_le_mul_of_nonneg_right (by omega) (by omega)
  have e3 : (x : Int) * 4294967296 ^ (n + 1) * D = (x : Int) * D * 4294967296 ^ (n + 1) := by
   generalize (4294967296 : Int) ^ (n + 1) = y
   grind
  have e4 : (c1 + 1) * 4294967296 ^ (n + 1) = c1 * 4294967296 ^ (n + 1) + 4294967296 ^ (n + 1) := by rw [Int.add_mul, Int.one_mul]
  rw [Int.natCast_mul] at hv2
  omega
set_option maxHeartbeats 8000000 in
theorem idivideL_s (m k n : Nat) (hn : (wordsN k).length = n + 2) (hmk : k ≤ m) (lm : (wordsN m).length ≤ 1099511627776) : FnS Tryz.prog 235 [cS U32 (wordsN m), cS U32 (wordsN k)] (.t [(false, [.S U32 (wordsN (m / k))]), (false, [.S U32 (wordsN (m % k))])]) := by
 refine fs_intro Tryz.func235 rfl rfl rfl rfl rfl (by decide) ?_
 have hb1 := rng_get (rng_words k) (n + 1)
 have hb0 : (wordsN k).getD (n + 1) 0 ≠ 0 := by
  rcases words_can k with e | e
  ·rw [e] at hn; simp at hn
  ·rw [hn] at e; exact e
 obtain ⟨x, ex⟩ : ∃ x : Nat, (x : Int) = (wordsN k).getD (n + 1) 0 := ⟨((wordsN k).getD (n + 1) 0).toNat, Int.toNat_of_nonneg hb1.1⟩
 obtain ⟨s, hlz, hs, x1, x2⟩ := lz32_s x (by omega) (by omega)
 obtain ⟨f5, f6, f7⟩ := shnorm_ok hn ex x1 x2 hs
 have hD : 0 < 2 ^ s := Nat.pow_pos (by decide)
 have hD2 : 2 ^ s ≤ 2 ^ 31 := Nat.pow_le_pow_right (by decide) hs
 have hDz : (2 : Int) ^ s = ((2 ^ s : Nat) : Int) := by simp
 have hk0 : 0 < k := by
  rcases Nat.eq_zero_or_pos k with e | e
  ·subst e; rw [wordsN_zero] at hn; simp at hn
  ·exact e
 have hla : n + 2 ≤ (wordsN m).length := by rw [← hn]; exact words_len_mono hmk
 obtain ⟨M, hM⟩ : ∃ M, (wordsN m).length = M + (n + 2) := ⟨(wordsN m).length - (n + 2), by omega⟩
 have hmd : ((m * 2 ^ s : Nat) : Int) < 4294967296 ^ (M + (n + 2) + 1) := by
  have h1 := words_len_lt (n := m)
  rw [hM] at h1
  rw [powB_succ, Int.natCast_mul]
  have := powB_pos (M + (n + 2))
  have h2 : (m : Int) * ((2 ^ s : Nat) : Int) ≤ (m : Int) * 4294967296 := Int.mul_le_mul_of_nonneg_left (by omega) (by omega)
  omega
 have hcmp : ¬ cmpN (m : Int) (k : Int) < 0 := by
  unfold cmpN
  rw [if_neg (by omega)]
  split <;> decide
 have hsa := ishl_s (wordsN m) s (rng_words m) hs lm
 have hsb := (ishl_s (wordsN k) s (rng_words k) hs (by omega)).fs
 have hlk := words_len_lt (n := k)
 rw [hn] at hlk
 rw [val_words, hn, hDz, ← Int.natCast_mul] at hsb
 rw [val_words, hDz, ← Int.natCast_mul, hM] at hsa
 have hVt : (wordsK (n + 2 + 1) ((k * 2 ^ s : Nat) : Int)).take (n + 2) = wordsN (k * 2 ^ s) := by
  have := wordsK_self (rng_words (k * 2 ^ s))
  rw [f6, val_words] at this
  rw [wordsK_succ, List.take_left' (wordsK_len _ _), this]
 refine rr rfl (rb (rc rfl rfl (itrim_z m) (rc rfl rfl (itrim_z k) (re rfl ?_))))
 refine tr_seq (rb (rc rfl rfl (icompare_z m k) (re rfl (tr_cond rfl (fun h => absurd (of_decide_eq_true h) hcmp) (fun _ => tr_skip (at_then ?_))))))
 refine tr_seq (rr rfl (tr_cond rfl (fun h => ?_) (fun _ => tr_skip (at_then ?_))))
 ·exfalso
  have h : ((wordsN k).length : Int) = 1 := eq_of_beq h
  omega
 have a2 : (((wordsN k).length : Int) - 1).toNat = n + 1 := by omega
 have hlz' : FnS Tryz.prog 274 [cW ((wordsN k).getD (((wordsN k).length : Int) - 1).toNat 0)] (cI s) := by
  rw [a2, ← ex]; exact hlz
 refine rr rfl (rb (rc rfl rfl hlz' (re rfl (hp := by simp only [Pr.an, Pr.h, num, i64r, true_and, and_true]; first | done | omega) ?_)))
 refine rb (rcv rfl rfl hsa (re rfl ?_))
 refine rb (rc rfl rfl hsb (re rfl (hp := by simp only [Pr.an, Pr.h, num, i64r, true_and, and_true]; rw [wordsK_len]; omega) ?_))
 refine rb (rm U32 (M + 1) rfl rfl rfl rfl rfl rfl (zr_int .u32) (by omega) ?_ ?_ (re rfl ?_))
 ·show _ * 4 ≤ _; omega
 ·show _ * 1 ≤ _; omega
 generalize hU0 : wordsK (M + (n + 2) + 1) ((m * 2 ^ s : Nat) : Int) = U0
 have hU0v : val U0 = ((m * 2 ^ s : Nat) : Int) := by
  rw [← hU0, wordsK_val, Int.emod_eq_of_lt (by omega) hmd]
 have hU0r : rng U0 := by rw [← hU0]; exact wordsK_rng _ _
 have hU0l : U0.length = M + (n + 2) + 1 := by rw [← hU0, wordsK_len]
 have hv0 : (0 : Int) < ((k * 2 ^ s : Nat) : Int) := by
  have : 0 < k * 2 ^ s := Nat.mul_pos hk0 hD
  omega
 have hI0 : KdI ((m * 2 ^ s : Nat) : Int) ((k * 2 ^ s : Nat) : Int) (n + 2) M (M + 1, U0, List.replicate (M + 1) 0) := by
  refine ⟨Nat.le_refl _, hU0l, hU0r, ?_, by simp, rng_rep _, fun i hi => ?_, ?_⟩
  ·show val (U0.drop (M + 1)) < _
   have h1 := val_split U0 (M + 1) (by omega)
   have h2 := val_nonneg (rng_take hU0r (M + 1))
   have hp := powB_pos (M + 1)
   by_cases e : val (U0.drop (M + 1)) < ((k * 2 ^ s : Nat) : Int)
   ·exact e
   ·exfalso
    have h3 : 4294967296 ^ (M + 1) * ((k * 2 ^ s : Nat) : Int) ≤ 4294967296 ^ (M + 1) * val (U0.drop (M + 1)) := Int.mul_le_mul_of_nonneg_left (by omega) (by omega)
    have h4 := can_ge (rng_words k) (words_can k) (by intro e; rw [e] at hn; simp at hn)
    rw [val_words, hn, show n + 2 - 1 = n + 1 by omega] at h4
    have h5 := words_len_lt (n := m)
    rw [hM, show M + (n + 2) = M + 1 + (n + 1) by omega, Int.pow_add] at h5
    have h6 : 4294967296 ^ (M + 1) * 4294967296 ^ (n + 1) * ((2 ^ s : Nat) : Int) ≤ 4294967296 ^ (M + 1) * ((k * 2 ^ s : Nat) : Int) := by
     rw [Int.natCast_mul, Int.mul_assoc]
     exact Int.mul_le_mul_of_nonneg_left (Int.mul_le_mul_of_nonneg_right h4 (by omega)) (by omega)
    have h7 : (m : Int) * ((2 ^ s : Nat) : Int) < 4294967296 ^ (M + 1) * 4294967296 ^ (n + 1) * ((2 ^ s : Nat) : Int) := Int.mul_lt_mul_of_pos_right h5 (by omega)
    rw [hU0v, Int.natCast_mul m] at h1
    omega
  ·show (List.replicate (M + 1) (0 : Int)).getD i 0 = 0
   rw [List.getD_eq_getElem?_getD, List.getElem?_replicate]
   split <;> rfl
  ·show _ = val U0 + _ * val (List.replicate (M + 1) 0)
   rw [val_rep, hU0v]; omega
 refine tr_seq (rr rfl ?_)
 refine tr_block (tr_loop (α := Nat × List Int × List Int) (fun x => ⟨[(8, cI ((n + 2 : Nat) : Int)), (9, cI s), (10, .c (.X 6002000)), (11, cS U32 (wordsN (k * 2 ^ s))), (12, .c (.X 8005000)), (13, cI ((x.1 : Int) - 1))], [(6002000, .vec 23 U32 x.2.1), (8005000, .vec 23 U32 x.2.2)], 10, []⟩) (KdI ((m * 2 ^ s : Nat) : Int) ((k * 2 ^ s : Nat) : Int) (n + 2) M) (fun x => x.1) (M + 1, U0, List.replicate (M + 1) 0) hI0 (wk ⟨⟨_, rfl, AVle.of_eq ?_⟩, sR rfl, sR rfl, ⟨_, rfl, AVle.of_eq ?_⟩, sR rfl, ⟨_, rfl, AVle.of_eq ?_⟩, trivial⟩ ⟨bR rfl, bR rfl, trivial⟩) ?_)
 ·exact congrArg (fun z => AV.c (C.I .i64 z)) (by omega)
 ·refine congrArg (fun z => AV.c (C.S U32 z)) ?_
  rw [← hVt]
  simp only [hn, Int.toNat_natCast, List.drop_zero]
 ·exact congrArg (fun z => AV.c (C.I .i64 z)) (by omega)
 rintro ⟨c, U, Q⟩ hI
 have hul : U.length = M + (n + 2) + 1 := hI.ul
 have hur : rng U := hI.ur
 have hql : Q.length = M + 1 := hI.ql
 have hck : c ≤ M + 1 := hI.k
 refine tr_seq (rr rfl ?_)
 refine tr_cond rfl (fun h => ?_) (fun h => ?_)
 ·have h : (c : Int) - 1 ≥ 0 := of_decide_eq_true h
  obtain ⟨j, rfl⟩ : ∃ j, c = j + 1 := ⟨c - 1, by omega⟩
  have ej : ((j + 1 : Nat) : Int) - 1 = (j : Int) := by omega
  rw [ej]
  have hnext := hI.next hv0 f5
  obtain ⟨_, hwl⟩ := hI.win f5
  have hqw := iqw_s U (wordsN (k * 2 ^ s)) j n hur (rng_words _) f6 (by omega) (by omega) f7 (by rw [val_words]; exact hwl)
  rw [val_words] at hqw
  rw [show n + 2 + 1 = n + 3 from rfl] at hnext hwl
  have hu0 := val_nonneg (rng_take (rng_drop hur j) (n + 3))
  have hqb := Int.ediv_nonneg hu0 (Int.le_of_lt hv0)
  have hqb2 : val ((U.drop j).take (n + 3)) / ((k * 2 ^ s : Nat) : Int) < 4294967296 := Int.ediv_lt_of_lt_mul hv0 (by rw [Int.mul_comm]; exact hwl)
  refine tr_skip (at_then (tr_seq (tr_block ?_)))
  refine rbt (rw_ j (j + (n + 3)) rfl rfl rfl rfl rfl rfl (by omega) (by omega) (by show j + (n + 3) ≤ U.length; omega) ?_)
  rw [show j + (n + 3) - j = n + 3 by omega]
  refine rcm 6002000 rfl hqw rfl rfl (re rfl ?_)
  refine at_block (at_then (rt rfl (at_loop (j, wput U j (wordsK (n + 3) (val ((U.drop j).take (n + 3)) % ((k * 2 ^ s : Nat) : Int))), Q.set j (val ((U.drop j).take (n + 3)) / ((k * 2 ^ s : Nat) : Int))) hnext (Nat.lt_succ_self j) (wk ⟨sR rfl, sR rfl, sR rfl, sR rfl, sR rfl, sR rfl, trivial⟩ ⟨bR rfl, ⟨_, rfl, BLe.of_eq ?_⟩, trivial⟩))))
  refine congrArg (Blk.vec 23 U32) ?_
  show Q.set (j : Int).toNat _ = Q.set j _
  rw [Int.toNat_natCast]
 ·have h : ¬ (c : Int) - 1 ≥ 0 := of_decide_eq_false h
  have hc : c = 0 := by omega
  subst hc
  obtain ⟨e1, e2⟩ := hI.fin
  have q1 : trimW Q = wordsN (m / k) := by
   rw [trimW_eq hI.qr]
   show wordsN (val Q).toNat = _
   rw [e1]
   have : ((m * 2 ^ s : Nat) : Int) / ((k * 2 ^ s : Nat) : Int) = ((m / k : Nat) : Int) := by
    rw [← Int.natCast_ediv, Nat.mul_div_mul_right _ _ hD]
   rw [this, Int.toNat_natCast]
  have hub : val U < ((k * 2 ^ s : Nat) : Int) := hI.ub
  have hut : val (U.take (n + 2)) = val U := by
   have h1 := val_split U (n + 2) (by omega)
   rw [val_zero_of_small hur (n + 2) (by omega) (by omega), Int.mul_zero, Int.add_zero] at h1
   exact h1.symm
  have hsh := ishr_s (U.take (n + 2)) s (rng_take hur _) hs (by rw [List.length_take]; omega)
  have q2 : wordsN (val (U.take (n + 2)) / 2 ^ s).toNat = wordsN (m % k) := by
   rw [hut, e2, hDz]
   have : ((m * 2 ^ s : Nat) : Int) % ((k * 2 ^ s : Nat) : Int) / ((2 ^ s : Nat) : Int) = ((m % k : Nat) : Int) := by
    rw [← Int.natCast_emod, Nat.mul_mod_mul_right, ← Int.natCast_ediv, Nat.mul_div_cancel _ hD]
   rw [this, Int.toNat_natCast]
  rw [q2] at hsh
  have ht := trim_s Q
  rw [q1] at ht
  refine tr_exit (at_then_exit (at_loop_exit (at_block_exit (at_then (tr_frz 6002000 rfl rfl rfl (tr_frz 8005000 rfl rfl rfl ?_))))))
  refine rb (rc rfl rfl ht (rc rfl rfl hsh (hp := by simp only [Pr.an, Pr.h, num, i64r, true_and, and_true]; first | done | omega) (re rfl (tr_ret (at_ret TT_ok rfl (AVle.of_eq ?_))))))
  rfl
theorem idivide_s (m k : Nat) (hk : k ≠ 0) (lm : (wordsN m).length ≤ 1099511627776) : FnS Tryz.prog 235 [cS U32 (wordsN m), cS U32 (wordsN k)] (.t [(false, [.S U32 (wordsN (m / k))]), (false, [.S U32 (wordsN (m % k))])]) := by
 by_cases hmk : m < k
 ·refine fs_intro Tryz.func235 rfl rfl rfl rfl rfl (by decide) ?_
  refine rr rfl (rb (rc rfl rfl (itrim_z m) (rc rfl rfl (itrim_z k) (re rfl ?_))))
  refine tr_seq (rb (rc rfl rfl (icompare_z m k) (re rfl (tr_cond rfl (fun _ => ?_) (fun h => ?_)))))
  ·refine rb (rc rfl rfl (iclone_s (wordsN m) lm) (re rfl (tr_ret (at_then_ret (at_ret TT_ok rfl ?_)))))
   rw [Nat.div_eq_of_lt hmk, Nat.mod_eq_of_lt hmk]
   exact AVle.t2 (AVle.nil U32)
  ·exfalso
   have h : ¬ cmpN (m : Int) (k : Int) < 0 := of_decide_eq_false h
   unfold cmpN at h
   rw [if_pos (by omega)] at h
   omega
 ·by_cases hk2 : k < 4294967296
  ·refine fs_intro Tryz.func235 rfl rfl rfl rfl rfl (by decide) ?_
   have hw : wordsN k = [(k : Int)] := by
    rw [wordsN_pos hk, Nat.div_eq_of_lt hk2, wordsN_zero, Nat.mod_eq_of_lt hk2]
   have hcmp : ¬ cmpN (m : Int) (k : Int) < 0 := by
    unfold cmpN
    rw [if_neg (by omega)]
    split <;> decide
   have hd := idivideSmall_s (wordsN m) (k : Int) (rng_words m) (by omega) (by omega) lm
   rw [val_words, ← Int.natCast_ediv, ← Int.natCast_emod, Int.toNat_natCast] at hd
   have hc := icompare_z m k
   have ht := itrim_z k
   rw [hw] at hc ht ⊢
   refine rr rfl (rb (rc rfl rfl (itrim_z m) (rc rfl rfl ht (re rfl ?_))))
   refine tr_seq (rb (rc rfl rfl hc (re rfl (tr_cond rfl (fun h => absurd (of_decide_eq_true h) hcmp) (fun _ => tr_skip (at_then ?_))))))
   have hd' : FnS Tryz.prog 273 [cS U32 (wordsN m), .c (num .u64 (k : Int)).1] (.t [(false, [.S U32 (wordsN (m / k))]), (false, [.I .u64 ((m % k : Nat) : Int)])]) := by
    rw [show (AV.c (num .u64 (k : Int)).1) = cU (k : Int) from congrArg (fun z => AV.c (C.I .u64 z)) (wrap_u64 _ (by omega) (by omega))]
    exact hd
   have hmod := Nat.mod_lt m (Nat.pos_of_ne_zero hk)
   refine tr_seq (rr rfl (tr_cond rfl (fun _ => ?_) (fun h => by cases h)))
   refine rb (rc rfl rfl hd' (re rfl ?_))
   refine rb (rc rfl rfl (iwords_s (m % k) (by omega)) (re rfl (tr_ret (at_then_ret (at_ret TT_ok rfl (AVle.refl _))))))
  ·have h1 : 2 ≤ (wordsN k).length := by
    by_cases e : 2 ≤ (wordsN k).length
    ·exact e
    ·exfalso
     have h2 := words_len_lt (n := k)
     have h3 := powB_le (m := (wordsN k).length) (n := 1) (by omega)
     rw [Int.pow_one] at h3
     omega
   exact idivideL_s m k ((wordsN k).length - 2) (by omega) (by omega) lm
end Go.El

/- Contracts: integers of the program: Euclidean division, small values. Own work; no condition. -/
namespace Go.El
open Go Go.Proofs
theorem iDivMod_s (a b : Int) (hb : b ≠ 0) (ha : Sm a) (hsb : Sm b) : FnS Tryz.prog 162 [aZ a, aZ b] (.t [(true, av .z (a / b)), (true, av .z (a % b)), (false, [.I .i64 0])]) := by
 refine fs_intro Tryz.func162 rfl rfl rfl rfl rfl (by decide) ?_
 have hb' : b.natAbs ≠ 0 := by omega
 refine rr rfl (tr_seq (rb (rc rfl rfl (itrim_z b.natAbs) (re rfl ?_))))
 refine tr_cond rfl (fun h2 => ?_) (fun h2 => ?_)
 ·exfalso
  have h2 : ((wordsN b.natAbs).length : Int) = 0 := eq_of_beq h2
  have := words_nil.2 hb'
  omega
 ·refine tr_skip (at_then (rb (rc rfl rfl (idivide_s _ _ hb' ha) (re rfl (tr_seq (rb ?_))))))
  refine rg 26 rfl rfl (fun h3 => ?_) (fun h3 => ?_)
  ·have h3 : a < 0 := by simpa [zneg] using h3
   refine re rfl (tr_cond rfl (fun h4 => ?_) (fun h4 => ?_))
   ·have h4 : a.natAbs % b.natAbs ≠ 0 := by
     have h4 : ((wordsN (a.natAbs % b.natAbs)).length : Int) > 0 := by simpa using h4
     exact words_nil.1 (by omega)
    obtain ⟨e1, e2⟩ := dm_neg1 (Nat.pos_of_ne_zero hb') h3 h4
    have hz : zneg a = true := by simp [zneg, h3]
    obtain ⟨e3, e4⟩ := dm_sgn a b (a.natAbs / b.natAbs + 1) (b.natAbs - a.natAbs % b.natAbs) (by rw [hz, e1]; rfl) e2
    have hr : a.natAbs % b.natAbs < b.natAbs := Nat.mod_lt _ (Nat.pos_of_ne_zero hb')
    refine rb (rl U32 [_] rfl rfl (rc rfl rfl (isum_z (a.natAbs / b.natAbs) 1 ?_ (by decide)) (re rfl (rbt (rc rfl rfl (idiff_z b.natAbs _ (by omega) hsb) (re rfl (at_then (rb ?_))))))))
    ·exact Nat.le_trans (words_len_mono (Nat.div_le_self _ _)) ha
    refine rc rfl rfl (isigned_z _ _) (rc rfl rfl (isigned_z _ _) (re rfl (tr_ret (at_ret TT_ok rfl (AVle.of_eq ?_)))))
    rw [e3, e4]; rfl
   ·have h4 : a.natAbs % b.natAbs = 0 := by
     have h4 : ¬ ((wordsN (a.natAbs % b.natAbs)).length : Int) > 0 := by simpa using h4
     exact Decidable.byContradiction fun hne => by have := words_nil.2 hne; omega
    obtain ⟨e1, e2⟩ := dm_neg0 (Nat.pos_of_ne_zero hb') h3 h4
    have hz : zneg a = true := by simp [zneg, h3]
    obtain ⟨e3, e4⟩ := dm_sgn a b (a.natAbs / b.natAbs) (a.natAbs % b.natAbs) (by rw [hz, e1]; rfl) (by rw [e2, h4]; rfl)
    refine tr_skip (at_then (rb (rc rfl rfl (isigned_z _ _) (rc rfl rfl (isigned_z _ _) (re rfl (tr_ret (at_ret TT_ok rfl (AVle.of_eq ?_))))))))
    rw [e3, e4]; rfl
  ·have h3 : ¬ a < 0 := by simpa [zneg] using h3
   refine re rfl (tr_cond rfl (fun h4 => by simp at h4) (fun h4 => ?_))
   obtain ⟨e1, e2⟩ := dm_pos (Nat.pos_of_ne_zero hb') h3
   have hz : zneg a = false := by simp [zneg, h3]
   obtain ⟨e3, e4⟩ := dm_sgn a b (a.natAbs / b.natAbs) (a.natAbs % b.natAbs) (by rw [hz, e1]; rfl) e2
   refine tr_skip (at_then (rb (rc rfl rfl (isigned_z _ _) (rc rfl rfl (isigned_z _ _) (re rfl (tr_ret (at_ret TT_ok rfl (AVle.of_eq ?_))))))))
   rw [e3, e4]; rfl
theorem ivalue_s (m : Nat) (hm : m < 18446744073709551616) : FnS Tryz.prog 255 [cS U32 (wordsN m)] (cU m) := by
 refine fs_intro Tryz.func255 rfl rfl rfl rfl rfl (by decide) ?_
 have hl := words_len2 hm
 refine rr rfl (rr rfl (tr_seq (rr rfl ?_)))
 refine tr_block (tr_loop (α := Nat) (fun i => ⟨[(0, cS U32 (wordsN m)), (3, cU (val ((wordsN m).take i))), (6, cI (wordsN m).length), (7, cI i)], [], 4, []⟩) (fun i => i ≤ (wordsN m).length) (fun i => (wordsN m).length - i) 0 (Nat.zero_le _) (wk ⟨sR rfl, sR rfl, sR rfl, sR rfl, trivial⟩ trivial) ?_)
 intro i hi
 have g := rng_get (rng_words m) i
 have hs := val_take_succ' (wordsN m) i
 have l1 := val_lt (rng_take (rng_words m) i)
 have l0 := val_nonneg (rng_take (rng_words m) i)
 refine rr rfl (tr_seq ?_)
 refine tr_cond rfl (fun h => ?_) (fun h => ?_)
 ·have h : i < (wordsN m).length := by
   have h : (i : Int) < ((wordsN m).length : Int) := of_decide_eq_true h
   omega
  have hl2 : ((wordsN m).take i).length = i := by simp; omega
  rw [hl2] at l1
  refine tr_skip (at_then (tr_seq (tr_block (rr rfl (rt rfl (hp := by simp only [Pr.an, Pr.h, num, i64r, true_and, and_true]; first | done | omega) (at_block (at_then (rt rfl (at_loop (i + 1) h (by show (wordsN m).length - (i + 1) < (wordsN m).length - i; omega) (wk ⟨sR rfl, ⟨_, rfl, AVle.of_eq ?_⟩, sR rfl, sR rfl, trivial⟩ trivial))))))))))
  refine congrArg (fun z => AV.c (C.I .u64 z)) ?_
  have hi01 : i = 0 ∨ i = 1 := by omega
  rcases hi01 with e | e
  ·subst e
   have e1 : ((32 : Int) * ((0 : Nat) : Int)) = ((0 : Nat) : Int) := rfl
   show IntKind.wrap .u64 ((BitVec.ofInt (IntKind.bits .u64) (val ((wordsN m).take 0)) ||| BitVec.ofInt (IntKind.bits .u64) (IntKind.wrap .u64 (IntKind.wrap .u64 ((wordsN m).getD 0 0) * 2 ^ (min (((0 : Nat) : Int)).toNat (IntKind.bits .u64))))).toNat : Int) = val ((wordsN m).take (0 + 1))
   rw [hs, wrap_u64 ((wordsN m).getD 0 0) (by omega) (by omega), shl_u64 _ 0 g.1 (by omega) (by omega)]
   have := or_u64 ((wordsN m).getD 0 0 * 2 ^ 0) 0 0 (by omega) (by simp [Int.emod_one]) (by decide) (by decide) (by omega)
   rw [List.take_zero]
   simp only [val]
   rw [BitVec.or_comm, this]
   simp
  ·subst e
   show IntKind.wrap .u64 ((BitVec.ofInt (IntKind.bits .u64) (val ((wordsN m).take 1)) ||| BitVec.ofInt (IntKind.bits .u64) (IntKind.wrap .u64 (IntKind.wrap .u64 ((wordsN m).getD 1 0) * 2 ^ (min (((32 : Nat) : Int)).toNat (IntKind.bits .u64))))).toNat : Int) = val ((wordsN m).take (1 + 1))
   rw [Int.pow_one] at l1 hs
   rw [hs, wrap_u64 ((wordsN m).getD 1 0) (by omega) (by omega), shl_u64 _ 32 g.1 (by omega) (by omega)]
   have := or_u64 ((wordsN m).getD 1 0 * 2 ^ 32) (val ((wordsN m).take 1)) 32 (by omega) (Int.mul_emod_left _ _) l0 (by omega) (by omega)
   rw [BitVec.or_comm, this, show (2 : Int) ^ 32 = 4294967296 from rfl]
   omega
 ·have h : i = (wordsN m).length := by
   have h : ¬ (i : Int) < ((wordsN m).length : Int) := of_decide_eq_false h
   omega
  subst h
  refine tr_exit (at_then_exit (at_loop_exit (at_block_exit (at_then (rr rfl (tr_ret (at_ret TT_ok rfl (AVle.of_eq (congrArg (fun z => AV.c (C.I .u64 z)) ?_)))))))))
  rw [List.take_length, val_words]
theorem iSmall_s (a : Int) (h0 : 0 ≤ a) (h1 : a < 9223372036854775808) : FnS Tryz.prog 232 [aZ a] (.t [(false, [.I .i64 a]), (false, [.B true])]) := by
 refine fs_intro Tryz.func232 rfl rfl rfl rfl rfl (by decide) ?_
 have hn : a.natAbs < 18446744073709551616 := by omega
 have hl := words_len2 hn
 have hz : zneg a = false := by simp [zneg]; omega
 refine rr rfl (tr_seq (rr rfl (tr_cond rfl (fun h => ?_) (fun _ => tr_skip (at_then ?_)))))
 ·exfalso
  have h : ((wordsN a.natAbs).length : Int) > 2 := of_decide_eq_true h
  omega
 refine rb (rc rfl rfl (ivalue_s a.natAbs hn) (re rfl ?_))
 refine tr_seq (rr rfl (tr_cond rfl (fun h => ?_) (fun _ => tr_skip (at_then ?_))))
 ·rw [hz] at h; cases h
 refine tr_seq (rr rfl (tr_cond rfl (fun h => ?_) (fun _ => tr_skip (at_then ?_))))
 ·exfalso
  have e : decide (((a.natAbs : Nat) : Int) ≥ 9223372036854775808) = false := decide_eq_false (by omega)
  rw [e] at h
  cases h
 have hr : -9223372036854775808 ≤ ((a.natAbs : Nat) : Int) ∧ ((a.natAbs : Nat) : Int) ≤ 9223372036854775807 := by omega
 refine rr rfl (hp := hr) (tr_ret (at_ret TT_ok rfl (AVle.of_eq ?_)))
 exact congrArg (fun x => AV.t [(false, [C.I .i64 x]), (false, [C.B true])]) (by omega)
theorem iValid_s (a : Int) (ha : Sm a) : FnS Tryz.prog 157 [aZ a] (cB true) := by
 refine fs_intro Tryz.func157 rfl rfl rfl rfl rfl (by decide) ?_
 have hlen : (wordsN a.natAbs).length ≤ 1099511627776 := ha
 have hlen2 : (zmag a).length ≤ 1099511627776 := ha
 refine rr rfl (rr rfl (tr_seq (rr rfl (tr_cond rfl (fun h => ?_) (fun h => tr_skip (at_then ?_))))))
 ·have h : ((wordsN a.natAbs).length : Int) = 0 := eq_of_beq h
  have h0 : a = 0 := by
   have : ¬ 0 < (wordsN a.natAbs).length := by omega
   rw [words_nil] at this
   omega
  subst h0
  exact rr rfl (tr_ret (at_then_ret (at_ret TT_ok rfl (AVle.refl _))))
 ·have h : ((wordsN a.natAbs).length : Int) ≠ 0 := beq_z' h
  have hpos : 0 < (zmag a).length := by show 0 < (wordsN a.natAbs).length; omega
  refine rr rfl (hp := by simp only [Pr.an, Pr.h, num, i64r, true_and, and_true]; first | done | omega) (tr_ret (at_ret TT_ok rfl (AVle.of_eq ?_)))
  have hc := words_can a.natAbs
  refine congrArg cB ?_
  rcases hc with e | e
  ·rw [e] at h; simp at h
  ·show ((wordsN a.natAbs).getD (((wordsN a.natAbs).length : Int) - 1).toNat 0 != 0) = true
   rw [show (((wordsN a.natAbs).length : Int) - 1).toNat = (wordsN a.natAbs).length - 1 by omega]
   simpa using e
end Go.El

/- Contract: the bound. Own work; no condition. -/
namespace Go.El
open Go Go.Proofs
end Go.El

/- The fast interpreter, part 11: results that lie in memory are frozen when the call ends. Own work; no condition. -/
namespace Go.El
open Go Go.RowKit
def HN (s : Nat) (H0 : FH) (W : World) : FH := fun b o => if b < s then H0 b o else W.cell? ⟨b, o, none⟩
section
variable {P : Program} {tt : TT}
theorem cx_fz {f : FuncId} {vs : List AV} {r r' : AV} {fm' : List (Nat × Blk)} {k' : Nat} (h : CX P f vs [] 0 r fm' k') (hm : midsVs vs = []) (hr : r'.mids = []) (ha : matA (fun id => lookA id fm') r r' = true) : FnS P f vs r' := by
 refine ⟨h.call, hr, ?_⟩
 intro H W us hsub hrel
 have hul := relVs_length hrel
 have h0 : Hold { w0 := W, H0 := H, n := vs.length } (· < 0) (St.kn ⟨argSl 0 vs, [], 0, []⟩) ⟨H, noγ⟩ W (actN us) := by
  refine ⟨by simp [actN, hul], rfl, ?_, ?_, ?_, ?_, ?_, hsub, ⟨rfl, rfl, rfl, Nat.le_refl _, fun _ _ _ => rfl⟩, FLe.refl _, fun _ _ _ _ => rfl, fun _ h => absurd h (Nat.not_lt_zero _)⟩
  ·intro t v ht
   simp only [St.kn, Option.map_eq_some_iff] at ht
   obtain ⟨x, hx, he⟩ := ht
   cases he
   obtain ⟨_, u, hu, hr, _⟩ := argSl_look vs us 0 hrel t v hx
   have hu' : us[t]? = some u := by simpa using hu
   simp only [actN, Array.getD_eq_getD_getElem?, List.getElem?_toArray, hu', Option.getD_some]
   exact hr
  ·intro id b hb; simp [St.kn, lookA] at hb
  ·intro id id' b b' kk hb; simp [St.kn, lookA] at hb
  ·intro key x hx id hid
   cases key with
   | m j => simp [St.kn, lookA] at hx
   | s t =>
    simp only [St.kn, Option.map_eq_some_iff] at hx
    obtain ⟨y, hy, he⟩ := hx
    subst he
    obtain ⟨_, _, _, _, h6⟩ := argSl_look vs us 0 hrel t y hy
    have := h6 id hid
    rw [hm] at this
    cases this
  ·intro id x hx; simp [St.kn, lookA] at hx
 refine (h.spec _ _ W us rfl hul h0).mono ?_
 rintro e W' ⟨v, g', rfl, h1⟩
 have hfr : ∀ b o, b < W.heap.size → g'.H b o = H b o := fun b o hb => h1.fresh b o hb (fun h => h)
 have ok : FzOk (HN W.heap.size H W') g' W' (fun id => lookA id fm') := by
  refine ⟨?_, ?_⟩
  ·intro b o u hu
   unfold HN
   split
   ·rename_i hb; rw [← hfr b o hb]; exact hu
   ·exact h1.sub b o u hu
  ·intro id E cs hl
   have hx : ∃ b, ∃ vs rest : List Value, blk (g'.γ id) = some b ∧ W'.heap[b]? = some (.cells (vs ++ rest).toArray E (0, 0)) ∧ RelL g' cs vs ∧ W.heap.size ≤ b := by
    rcases hl with ⟨sz, hl⟩ | hl
    ·obtain ⟨b, ws, rest, e1, e2, e3, e4, _⟩ := h1.blks id (.box E sz cs) (by simp [St.kn, hl])
     exact ⟨b, ws, rest, e1, e2, e3, by rcases e4 with e4 | e4; exact e4; exact e4.elim⟩
    ·obtain ⟨b, ws, rest, e1, e2, e3, e4, _⟩ := h1.blks id (.fz E cs) (by simp [St.kn, hl])
     exact ⟨b, ws, rest, e1, e2, e3, by rcases e4 with e4 | e4; exact e4; exact e4.elim⟩
   obtain ⟨b, ws, rest, e1, e2, e3, hs⟩ := hx
   exact ⟨b, ws, rest, e1, fun o => by simp only [HN, Nat.not_lt.2 hs, if_false], e2, e3⟩
 have hs := h1.slots 0 r (by simp [St.kn, lookA])
 have h2 : RelV g' r v := by simpa [actN] using hs
 refine ⟨v, HN W.heap.size H W', rfl, matA_rel ok ha h2, fun b o u hu => ok.le b o u (h1.le b o u hu), fun b o hb => by simp [HN, hb], ?_, ⟨h1.below.os, h1.below.tape, h1.below.output, h1.below.size, fun kk hk => h1.below.block kk hk (fun h => h)⟩⟩
 intro b o u hu
 unfold HN at hu
 split at hu
 ·rename_i hb; rw [← hfr b o hb] at hu; exact h1.sub b o u hu
 ·exact hu
def endIs (r' : AV) : Cr → Bool
 | .ok r ms _ _ => matA (fun id => lookA id ms.flatten) r r'
 | _ => false
theorem fs_fz {con : FuncId → List AV → Ms → Option (List AV × AV)} (hmx : P.follows .mixedOrders = true) (htt : ttB P tt = true) (hcon : ∀ f vs ms vs' r, con f vs ms = some (vs', r) → FnS P f vs' r) (fuel : Nat) {f : FuncId} {vs : List AV} {r' : AV}
  (h : endIs r' (callF P tt con (runF P tt con fuel) f vs [] 0) = true) (hm : midsVs vs = []) (hr : r'.mids = []) : FnS P f vs r' := by
 cases hx : callF P tt con (runF P tt con fuel) f vs [] 0 with
 | ok r ms k wl =>
  rw [hx] at h
  have hok := (callF_ok htt hcon (runF_sound hmx htt hcon fuel)).ok hx (fun id b hb => by simp [lookS] at hb) (fun id hid => by rw [hm] at hid; cases hid)
  exact cx_fz hok.1 hm hr h
 | _ => rw [hx] at h; cases h
end
end Go.El

/- Closed runs that the sanity check reaches: factors modulo a prime. Own work; no condition. -/
namespace Go.El
open Go Go.Proofs
theorem modular_s : FnS Tryz.prog 12 [cS U64 [1, 0, 1], cU 5] (.t [(false, [.S (.pr (.sl U64) I64) [([2, 1], 1), ([3, 1], 1)]]), (false, [.I .i64 0])]) :=
 fs_fz MX TT_ok con0_ok 100000 (by kernel_rfl) rfl rfl
end Go.El

/- Contracts: powers and inverses modulo p. Own work; no condition. -/
namespace Go.El
open Go Go.Proofs
def powL : Nat → Nat → Nat → Nat → Nat → Nat
 | 0, r, _, _, _ => r
 | f + 1, r, a, n, p => if n = 0 then r else powL f (if n % 2 = 1 then r * a % p else r) (a * a % p) (n / 2) p
def powM (a n p : Nat) : Nat := powL 64 (1 % p) (a % p) n p
def invM (a p : Nat) : Nat := powM a (p - 2) p
theorem powL_lt : ∀ (f r a n p : Nat), 0 < p → r < p → powL f r a n p < p
 | 0, r, _, _, _, _, h => h
 | f + 1, r, a, n, p, hp, h => by
  unfold powL
  split
  ·exact h
  ·refine powL_lt f _ _ _ _ hp ?_
   split
   ·exact Nat.mod_lt _ hp
   ·exact h
theorem powM_lt (a n p : Nat) (hp : 0 < p) : powM a n p < p := powL_lt _ _ _ _ _ hp (Nat.mod_lt _ hp)
theorem tmod_nat (x y : Nat) : (x : Int).tmod (y : Int) = ((x % y : Nat) : Int) := by rw [Int.tmod_eq_emod_of_nonneg (by omega)]; omega
theorem mulmod_nat (x y p : Nat) (hx : x < p) (hy : y < p) (hp : p ≤ 4294967296) : (IntKind.wrap .u64 ((x : Int) * (y : Int))).tmod (p : Int) = ((x * y % p : Nat) : Int) := by
 have h : x * y < 18446744073709551616 := Nat.lt_of_lt_of_le (Nat.mul_lt_mul'' hx hy) (Nat.le_trans (Nat.mul_le_mul hp hp) (by decide))
 rw [← Int.natCast_mul, wrap_u64 _ (by omega) (by omega), tmod_nat]
theorem half_nat (x : Nat) (hx : x < 18446744073709551616) : (IntKind.wrap .u64 ((x : Int).tdiv 2)) = ((x / 2 : Nat) : Int) := by
 have e : (x : Int).tdiv 2 = ((x / 2 : Nat) : Int) := by rw [Int.tdiv_eq_ediv_of_nonneg (by omega)]; omega
 rw [e, wrap_u64 _ (by omega) (by omega)]
set_option maxHeartbeats 2000000 in
theorem mpow_s (a n p : Nat) (ha : a < 18446744073709551616) (hn : n < 18446744073709551616) (hp0 : 0 < p) (hp : p ≤ 4294967296) : FnS Tryz.prog 180 [cU a, cU n, cU p] (cU (powM a n p)) := by
 refine fs_intro Tryz.func180 rfl rfl rfl rfl rfl (by decide) ?_
 refine rr rfl (tr_seq (rr rfl ?_))
 refine tr_cond rfl (fun h => ?_) (fun h => ?_)
 ·exfalso
  have h : (p : Int) = 0 := by simpa using h
  omega
 ·have hpz : (p : Int) ≠ 0 := by omega
  refine tr_skip (at_then (rr rfl (tr_seq (rr rfl (tr_block (tr_loop (α := Nat × Nat × Nat × Nat) (fun x => ⟨[(0, cU x.2.2.1), (1, cU x.2.2.2), (2, cU p), (7, cU x.2.1)], [], 4, []⟩) (fun x => powL x.1 x.2.1 x.2.2.1 x.2.2.2 p = powM a n p ∧ x.2.2.2 < 2 ^ x.1 ∧ x.2.1 < p ∧ x.2.2.1 < p ∧ x.2.2.2 < 18446744073709551616) (fun x => x.2.2.2) (64, 1 % p, a % p, n) ⟨rfl, hn, Nat.mod_lt _ hp0, Nat.mod_lt _ hp0, hn⟩ (wk ⟨⟨_, rfl, AVle.of_eq ?_⟩, sR rfl, sR rfl, ⟨_, rfl, AVle.of_eq ?_⟩, trivial⟩ trivial) ?_)))))) 
  ·exact congrArg (fun z => AV.c (C.I .u64 z)) (tmod_nat a p)
  ·exact congrArg (fun z => AV.c (C.I .u64 z)) (tmod_nat 1 p)
  ·rintro ⟨f, r, b, m⟩ ⟨hL, hm, hr, hb, hmm⟩
   simp only at hL hm hr hb hmm
   refine tr_seq (rr rfl ?_)
   refine tr_cond rfl (fun h2 => ?_) (fun h2 => ?_)
   ·have h2 : (m : Int) > 0 := by simpa using h2
    cases f with
    | zero => rw [Nat.pow_zero] at hm; omega
    | succ f =>
     have hm2 : m / 2 < 2 ^ f := by rw [Nat.pow_succ] at hm; omega
     rw [powL, if_neg (by omega)] at hL
     refine tr_skip (at_then (tr_seq (tr_block (tr_seq (rr rfl ?_)))))
     refine tr_cond rfl (fun h3 => ?_) (fun h3 => ?_)
     ·have h3 : m % 2 = 1 := by
       have h3 := eq_of_beq h3
       have e : (m : Int).tmod 2 = ((m % 2 : Nat) : Int) := tmod_nat m 2
       have h4 : (m : Int).tmod 2 = 1 := h3
       omega
      rw [if_pos h3] at hL
      refine rt rfl (at_then (rt rfl (at_block (at_then (rt rfl (at_loop (f, r * b % p, b * b % p, m / 2) ⟨hL, hm2, Nat.mod_lt _ hp0, Nat.mod_lt _ hp0, by show m / 2 < 18446744073709551616; omega⟩ (by show m / 2 < m; omega) (wk ⟨⟨_, rfl, AVle.of_eq ?_⟩, ⟨_, rfl, AVle.of_eq ?_⟩, sR rfl, ⟨_, rfl, AVle.of_eq ?_⟩, trivial⟩ trivial)))))))
      ·exact congrArg (fun z => AV.c (C.I .u64 z)) (mulmod_nat b b p hb hb hp)
      ·exact congrArg (fun z => AV.c (C.I .u64 z)) (half_nat m hmm)
      ·exact congrArg (fun z => AV.c (C.I .u64 z)) (mulmod_nat r b p hr hb hp)
     ·have h3 : ¬ m % 2 = 1 := by
       intro e
       have e2 : (m : Int).tmod 2 = ((m % 2 : Nat) : Int) := tmod_nat m 2
       have h4 : ((m : Int).tmod 2 == 1) = false := h3
       rw [show (m : Int).tmod 2 = 1 by omega] at h4
       cases h4
      rw [if_neg h3] at hL
      refine tr_skip (at_then (rt rfl (at_block (at_then (rt rfl (at_loop (f, r, b * b % p, m / 2) ⟨hL, hm2, hr, Nat.mod_lt _ hp0, by show m / 2 < 18446744073709551616; omega⟩ (by show m / 2 < m; omega) (wk ⟨⟨_, rfl, AVle.of_eq ?_⟩, ⟨_, rfl, AVle.of_eq ?_⟩, sR rfl, sR rfl, trivial⟩ trivial)))))))
      ·exact congrArg (fun z => AV.c (C.I .u64 z)) (mulmod_nat b b p hb hb hp)
      ·exact congrArg (fun z => AV.c (C.I .u64 z)) (half_nat m hmm)
   ·have h2 : ¬ (m : Int) > 0 := by simpa using h2
    have : m = 0 := by omega
    subst this
    refine tr_exit (at_then_exit (at_loop_exit (at_block_exit (at_then (rr rfl (tr_ret (at_ret TT_ok rfl (AVle.of_eq ?_))))))))
    rw [← hL]
    cases f with
    | zero => rfl
    | succ f => rw [powL, if_pos rfl]
theorem minv_s (a p : Nat) (ha : a < 18446744073709551616) (hz : a % p ≠ 0) (hp0 : 2 ≤ p) (hp : p ≤ 4294967296) : FnS Tryz.prog 124 [cU a, cU p] (.t [(false, [.I .u64 (invM a p)]), (false, [.I .i64 0])]) := by
 refine fs_intro Tryz.func124 rfl rfl rfl rfl rfl (by decide) ?_
 have hpz : (p : Int) ≠ 0 := by omega
 refine rr rfl (tr_seq (rb ?_))
 refine rg 8 rfl rfl (fun h => ?_) (fun h => ?_)
 ·exfalso
  have h : (p : Int) < 2 := by simpa using h
  omega
 ·refine re rfl (tr_cond rfl (fun h2 => ?_) (fun h2 => ?_))
  ·exfalso
   have h2 : (a : Int).tmod (p : Int) = 0 := by simpa using h2
   rw [tmod_nat] at h2
   omega
  ·have e : FnS Tryz.prog 180 [cU a, .c (num .u64 ((p : Int) - 2)).1, cU p] (cU (powM a (p - 2) p)) := by
    rw [show (AV.c (num .u64 ((p : Int) - 2)).1) = cU ((p - 2 : Nat) : Int) from congrArg (fun x => AV.c (C.I .u64 x)) ((wrap_u64 _ (by omega) (by omega)).trans (by omega))]
    exact mpow_s a (p - 2) p ha (by omega) (by omega) hp
   exact tr_skip (at_then (rb (rc rfl rfl e (re rfl (tr_ret (at_ret TT_ok rfl (AVle.refl _)))))))
end Go.El

/- Contracts: polynomials modulo p: trim, times. Own work; no condition. -/
namespace Go.El
open Go Go.Proofs
def aP (xs : List Int) (p : Int) : AV := .a [.S U64 xs, .I .u64 p]
theorem trim_fin {ws : List Int} {k : Nat} (hrec : trimN ws k = trimN ws ws.length) (h1 : k = 0 ∨ ws.getD (k - 1) 0 ≠ 0) : ws.take k = trimW ws := by
 unfold trimW
 rw [← hrec]
 cases k with
 | zero => rfl
 | succ k =>
  rcases h1 with h1 | h1
  ·omega
  ·simp only [Nat.add_sub_cancel] at h1
   simp only [trimN, h1, if_false]
set_option maxHeartbeats 1000000 in
theorem ptrim_s (ws : List Int) (p : Int) (hb : ws.length ≤ 1000000) : FnS Tryz.prog 123 [aP ws p] (aP (trimW ws) p) := by
 refine fs_intro Tryz.func123 rfl rfl rfl rfl rfl (by decide) ?_
 refine rr rfl (rr rfl ?_)
 refine tr_seq (tr_block (tr_loop (α := Nat) (fun k => ⟨[(1, .c (.P 0 0)), (2, .c (.P 1000 0)), (3, cI k)], [(0, .box 101 0 [.S U64 ws, .I .u64 p]), (1000, .box 101 0 [.V (.slice none 0 0), .I .u64 0])], 2, []⟩) (fun k => k ≤ ws.length ∧ trimN ws k = trimN ws ws.length) (fun k => k) ws.length ⟨Nat.le_refl _, rfl⟩ (wk ⟨sR rfl, sR rfl, sR rfl, trivial⟩ ⟨⟨_, rfl, BLe.of_eq rfl⟩, ⟨_, rfl, BLe.of_eq rfl⟩, trivial⟩) ?_))
 rintro k ⟨hk, hrec⟩
 refine tr_seq (rb ?_)
 refine rg 9 rfl rfl (fun h => ?_) (fun h => ?_)
 ·simp at h
  refine re rfl (tr_cond rfl (fun h2 => ?_) (fun h2 => ?_))
  ·refine tr_skip (at_then (tr_block (rt rfl (at_block (at_loop (k - 1) ⟨by omega, ?_⟩ (by show k - 1 < k; omega) (wk ⟨sR rfl, sR rfl, ⟨_, rfl, AVle.of_eq ?_⟩, trivial⟩ ⟨⟨_, rfl, BLe.of_eq rfl⟩, ⟨_, rfl, BLe.of_eq rfl⟩, trivial⟩))))))
   ·rw [← hrec]
    obtain ⟨j, rfl⟩ : ∃ j, k = j + 1 := ⟨k - 1, by omega⟩
    have h3 : ws.getD j 0 = 0 := by
     have : (((j + 1 : Nat) : Int) - 1).toNat = j := by omega
     simpa [this] using h2
    simp only [Nat.add_sub_cancel, trimN, h3, if_true]
   ·congr 2; omega
  ·refine tr_exit (at_then_exit (at_loop_exit (at_block_exit (at_then (rr rfl (tr_ret (at_ret TT_ok rfl (AVle.of_eq ?_))))))))
   refine congrArg (aP · p) ?_
   rw [← trim_fin hrec (.inr ?_)]
   ·simp
   ·have : ((k : Int) - 1).toNat = k - 1 := by omega
    simpa [this] using h2
 ·simp at h
  subst h
  refine re rfl (tr_cond rfl (fun h2 => by simp at h2) (fun _ => ?_))
  refine tr_exit (at_then_exit (at_loop_exit (at_block_exit (at_then (rr rfl (tr_ret (at_ret TT_ok rfl (AVle.of_eq ?_))))))))
  exact congrArg (aP · p) (trim_fin hrec (.inl rfl))
def rp (p : Int) (r : List Int) : Prop := ∀ i, 0 ≤ r.getD i 0 ∧ r.getD i 0 < p
theorem rp_set {p : Int} {r : List Int} (h : rp p r) (i : Nat) {x : Int} (h0 : 0 ≤ x) (h1 : x < p) : rp p (r.set i x) := by
 intro j
 have := h j
 simp only [List.getD_eq_getElem?_getD, List.getElem?_set] at this ⊢
 split
 ·split
  ·exact ⟨h0, h1⟩
  ·rename_i e1 e2
   simp only [Option.getD_none]
   exact ⟨Int.le_refl _, by omega⟩
 ·exact this
theorem rp_rep {p : Int} (hp : 0 < p) (n : Nat) : rp p (List.replicate n 0) := by
 intro j
 simp only [List.getD_eq_getElem?_getD, List.getElem?_replicate]
 split
 ·exact ⟨Int.le_refl _, hp⟩
 ·exact ⟨Int.le_refl _, hp⟩
def tRow (a b : List Int) (p : Int) (i : Nat) : Nat → List Int → List Int
 | 0, r => r
 | j + 1, r => (tRow a b p i j r).set (i + j) (((tRow a b p i j r).getD (i + j) 0 + a.getD i 0 * b.getD j 0) % p)
def tAll (a b : List Int) (p : Int) : Nat → List Int
 | 0 => List.replicate (a.length + b.length - 1) 0
 | i + 1 => tRow a b p i b.length (tAll a b p i)
theorem tRow_len (a b : List Int) (p : Int) (i : Nat) (r : List Int) : ∀ j, (tRow a b p i j r).length = r.length
 | 0 => rfl
 | j + 1 => by rw [tRow, List.length_set, tRow_len a b p i r j]
theorem tAll_len (a b : List Int) (p : Int) : ∀ i, (tAll a b p i).length = a.length + b.length - 1
 | 0 => by simp [tAll]
 | i + 1 => by rw [tAll, tRow_len, tAll_len a b p i]
theorem tRow_rp {a b : List Int} {p : Int} (hp : 0 < p) (i : Nat) {r : List Int} (h : rp p r) : ∀ j, rp p (tRow a b p i j r)
 | 0 => h
 | j + 1 => rp_set (tRow_rp hp i h j) _ (Int.emod_nonneg _ (by omega)) (Int.emod_lt_of_pos _ hp)
theorem tAll_rp (a b : List Int) {p : Int} (hp : 0 < p) : ∀ i, rp p (tAll a b p i)
 | 0 => rp_rep hp _
 | i + 1 => tRow_rp hp i (tAll_rp a b hp i) _
def ptimes (a b : List Int) (p : Int) : List Int := if a = [] ∨ b = [] then [] else trimW (tAll a b p a.length)
theorem muladd_mod (x y z p : Int) (hx : 0 ≤ x ∧ x < p) (hy : 0 ≤ y ∧ y < p) (hz : 0 ≤ z ∧ z < p) (hp : p ≤ 2147483648) : (IntKind.wrap .u64 (x + IntKind.wrap .u64 (y * z))).tmod p = (x + y * z) % p := by
 have h0 : 0 ≤ y * z := Int.mul_nonneg hy.1 hz.1
 have h1 : y * z ≤ 2147483648 * 2147483648 := Int.mul_le_mul (by omega) (by omega) hz.1 (by omega)
 rw [wrap_u64 (y * z) h0 (by omega), wrap_u64 _ (by omega) (by omega), Int.tmod_eq_emod_of_nonneg (by omega)]
theorem AVle.trans {x y z : AV} (h : AVle x y) (k : AVle y z) : AVle x z := ⟨fun g v e => k.1 g v (h.1 g v e), fun id e => h.2 id (k.2 id e)⟩
theorem AVle.a2 {x x' y : C} (h : AVle (.c x) (.c x')) : AVle (.a [x, y]) (.a [x', y]) := by
 refine ⟨?_, ?_⟩
 ·rintro g v ⟨vs, rfl, v1, r, rfl, h1, h2⟩
  exact ⟨_, rfl, v1, r, rfl, h.1 g v1 h1, h2⟩
 ·intro id hid
  have h2 := h.2 id
  simp only [AV.mids, midsL, List.append_nil, List.mem_append] at hid h2 ⊢
  exact hid.elim (fun h => .inl (h2 h)) .inr
set_option maxHeartbeats 2000000 in
theorem ptimes_s (a b : List Int) (p : Int) (la : a.length ≤ 1000) (lb : b.length ≤ 1000) (hp0 : 0 < p) (hp : p ≤ 2147483648) (ha : rp p a) (hb : rp p b) : FnS Tryz.prog 94 [aP a p, aP b p] (aP (ptimes a b p) p) := by
 refine fs_intro Tryz.func94 rfl rfl rfl rfl rfl (by decide) ?_
 have hpz : p ≠ 0 := by omega
 refine rr rfl (tr_seq (rb ?_))
 have fin : a = [] ∨ b = [] → aP [] p = aP (ptimes a b p) p := fun h => by rw [ptimes, if_pos h]
 refine rg 12 rfl rfl (fun h => ?_) (fun h => ?_)
 ·have h : a = [] := by simpa using h
  refine re rfl (tr_cond rfl (fun h2 => ?_) (fun h2 => by simp at h2))
  exact rr rfl (tr_ret (at_then_ret (at_ret TT_ok rfl (AVle.trans (AVle.a2 (AVle.nil U64)) (AVle.of_eq (fin (.inl h)))))))
 ·have h : a ≠ [] := by simpa using h
  refine re rfl (tr_cond rfl (fun h2 => ?_) (fun h2 => ?_))
  ·have h2 : b = [] := by simpa using h2
   exact rr rfl (tr_ret (at_then_ret (at_ret TT_ok rfl (AVle.trans (AVle.a2 (AVle.nil U64)) (AVle.of_eq (fin (.inr h2)))))))
  ·have h2 : b ≠ [] := by simpa using h2
   have pa := List.length_pos_iff.2 h
   have pb := List.length_pos_iff.2 h2
   refine tr_skip (at_then (rb ?_))
   refine rm U64 (a.length + b.length - 1) rfl rfl rfl rfl rfl rfl (zr_int .u64) (by omega) ?_ ?_ ?_
   ·show _ * 8 ≤ _; omega
   ·show _ * 1 ≤ _; omega
   refine re rfl (tr_seq (rr rfl ?_))
   refine tr_block (tr_loop (α := Nat) (fun i => ⟨[(2, .c (.P 0 0)), (3, .c (.P 1000 0)), (4, .c (.P 2000 0)), (5, .c (.X 2008000)), (32, cI a.length), (33, cI i)], [(0, .box 101 0 [.S U64 a, .I .u64 p]), (1000, .box 101 0 [.S U64 b, .I .u64 p]), (2000, .box 101 0 [.V (.slice none 0 0), .I .u64 0]), (2008000, .vec 25 U64 (tAll a b p i))], 4, []⟩) (fun i => i ≤ a.length) (fun i => a.length - i) 0 (Nat.zero_le _) (wk ⟨sR rfl, sR rfl, sR rfl, sR rfl, sR rfl, sR rfl, trivial⟩ ⟨⟨_, rfl, BLe.of_eq rfl⟩, ⟨_, rfl, BLe.of_eq rfl⟩, ⟨_, rfl, BLe.of_eq rfl⟩, ⟨_, rfl, BLe.of_eq rfl⟩, trivial⟩) ?_)
   intro i hi
   have hli := tAll_len a b p i
   refine rr rfl (tr_seq ?_)
   refine tr_cond rfl (fun h3 => ?_) (fun h3 => ?_)
   ·have h3 : i < a.length := by simpa using h3
    refine tr_skip (at_then (tr_seq (tr_block (rr rfl (rr rfl ?_)))))
    refine tr_block (tr_loop (α := Nat) (fun j => ⟨[(2, .c (.P 0 0)), (3, .c (.P 1000 0)), (4, .c (.P 2000 0)), (5, .c (.X 2008000)), (6, cI i), (32, cI a.length), (33, cI i), (38, cI b.length), (39, cI j)], [(0, .box 101 0 [.S U64 a, .I .u64 p]), (1000, .box 101 0 [.S U64 b, .I .u64 p]), (2000, .box 101 0 [.V (.slice none 0 0), .I .u64 0]), (2008000, .vec 25 U64 (tRow a b p i j (tAll a b p i)))], 7, []⟩) (fun j => j ≤ b.length) (fun j => b.length - j) 0 (Nat.zero_le _) (wk ⟨sR rfl, sR rfl, sR rfl, sR rfl, sR rfl, sR rfl, sR rfl, sR rfl, sR rfl, trivial⟩ ⟨⟨_, rfl, BLe.of_eq rfl⟩, ⟨_, rfl, BLe.of_eq rfl⟩, ⟨_, rfl, BLe.of_eq rfl⟩, ⟨_, rfl, BLe.of_eq rfl⟩, trivial⟩) ?_)
    intro j hj
    have hlj := tRow_len a b p i (tAll a b p i) j
    refine rr rfl (tr_seq ?_)
    refine tr_cond rfl (fun h4 => ?_) (fun h4 => ?_)
    ·have h4 : j < b.length := by simpa using h4
     have ga := ha i
     have gb := hb j
     have gr := tRow_rp hp0 (a := a) (b := b) i (tAll_rp a b hp0 i) j (i + j)
     have eij : ((i : Int) + (j : Int)).toNat = i + j := by omega
     refine tr_skip (at_then (tr_seq (tr_block (rr rfl (rt rfl ?_ (hp := by simp only [Pr.an, Pr.h, num, i64r, true_and, and_true]; omega))))))
     refine at_block (at_then (rt rfl (at_loop (j + 1) h4 (by show b.length - (j + 1) < b.length - j; omega) (wk ⟨sR rfl, sR rfl, sR rfl, sR rfl, sR rfl, sR rfl, sR rfl, sR rfl, sR rfl, trivial⟩ ⟨⟨_, rfl, BLe.of_eq rfl⟩, ⟨_, rfl, BLe.of_eq rfl⟩, ⟨_, rfl, BLe.of_eq rfl⟩, ⟨_, rfl, BLe.of_eq ?_⟩, trivial⟩))))
     rw [tRow, eij, ← muladd_mod _ _ _ p gr ga gb hp]; rfl
    ·have h4 : ¬ j < b.length := by simpa using h4
     have e : j = b.length := by omega
     subst e
     refine tr_exit (at_then_exit (at_loop_exit (at_block_exit (at_block (at_then (rt rfl (at_loop (i + 1) h3 (by show a.length - (i + 1) < a.length - i; omega) (wk ⟨sR rfl, sR rfl, sR rfl, sR rfl, sR rfl, sR rfl, trivial⟩ ⟨⟨_, rfl, BLe.of_eq rfl⟩, ⟨_, rfl, BLe.of_eq rfl⟩, ⟨_, rfl, BLe.of_eq rfl⟩, ⟨_, rfl, BLe.of_eq rfl⟩, trivial⟩))))))))
   ·have h3 : ¬ i < a.length := by simpa using h3
    have e : i = a.length := by omega
    subst e
    refine tr_exit (at_then_exit (at_loop_exit (at_block_exit (at_then (tr_frz 2008000 rfl rfl rfl (rb (rc rfl rfl (ptrim_s (tAll a b p a.length) p (by omega)) (re rfl (tr_ret (at_ret TT_ok rfl (AVle.of_eq ?_)))))))))))
    rw [ptimes, if_neg (fun e => e.elim h h2)]; rfl
end Go.El

/- Contracts: polynomials modulo p: quotient and remainder. Own work; no condition. -/
namespace Go.El
open Go Go.Proofs
theorem sclone_s (x : Int) (ws : List Int) (hl : ws.length ≤ 1000000) : FnV Tryz.prog 181 [cS U64 (x :: ws)] 25 U64 (x :: ws) := by
 refine fv_intro Tryz.func181 rfl rfl rfl rfl (by decide) ?_
 refine rr rfl (tr_seq (rb (rx rfl rfl trivial (re rfl ?_))))
 refine tr_cond rfl (fun h => by simp at h) (fun h => ?_)
 refine tr_skip (at_then (rb (rlv U64 [] rfl rfl (ra rfl rfl rfl rfl rfl rfl rfl rfl rfl ?_ ?_ (re rfl (tr_ret (at_retV (id := 2002000) TT_ok rfl rfl)))))))
 ·show (_ + (_ + 1) + (_ + (_ + 1)) / 4 + 192) * 8 ≤ _; simp only [List.length_nil]; omega
 ·show (_ + (_ + 1)) * 1 ≤ _; simp only [List.length_nil]; omega
theorem pdegree_s (ws : List Int) (p : Int) (hl : ws.length ≤ 1000000) : FnS Tryz.prog 93 [aP ws p] (cI ((ws.length : Int) - 1)) := by
 refine fs_intro Tryz.func93 rfl rfl rfl rfl rfl (by decide) ?_
 exact rr rfl (rr rfl (tr_ret (at_ret TT_ok rfl (AVle.refl _))))
def dRow (b : List Int) (p c : Int) (i : Nat) : Nat → List Int → List Int
 | 0, r => r
 | j + 1, r => (dRow b p c i j r).set (i + j) (((dRow b p c i j r).getD (i + j) 0 + (p - c) * b.getD j 0) % p)
def dSt (a b : List Int) (p v : Int) (m n : Nat) : Nat → List Int × List Int
 | 0 => (List.replicate m 0, a)
 | k + 1 => ((dSt a b p v m n k).1.set (m - (k + 1)) ((dSt a b p v m n k).2.getD (m - (k + 1) + n) 0 * v % p), dRow b p ((dSt a b p v m n k).2.getD (m - (k + 1) + n) 0 * v % p) (m - (k + 1)) b.length (dSt a b p v m n k).2)
theorem dRow_len (b : List Int) (p c : Int) (i : Nat) (r : List Int) : ∀ j, (dRow b p c i j r).length = r.length
 | 0 => rfl
 | j + 1 => by rw [dRow, List.length_set, dRow_len b p c i r j]
theorem dRow_rp {b : List Int} {p c : Int} (hp : 0 < p) (i : Nat) {r : List Int} (h : rp p r) : ∀ j, rp p (dRow b p c i j r)
 | 0 => h
 | j + 1 => rp_set (dRow_rp hp i h j) _ (Int.emod_nonneg _ (by omega)) (Int.emod_lt_of_pos _ hp)
theorem dSt_len (a b : List Int) (p v : Int) (m n : Nat) : ∀ k, (dSt a b p v m n k).1.length = m ∧ (dSt a b p v m n k).2.length = a.length
 | 0 => by simp [dSt]
 | k + 1 => by
  have := dSt_len a b p v m n k
  simp only [dSt, List.length_set, dRow_len]; exact this
theorem dSt_rp {a : List Int} (b : List Int) {p : Int} (v : Int) (m n : Nat) (hp : 0 < p) (ha : rp p a) : ∀ k, rp p (dSt a b p v m n k).1 ∧ rp p (dSt a b p v m n k).2
 | 0 => ⟨rp_rep hp _, ha⟩
 | k + 1 => by
  have h := dSt_rp b v m n hp ha k
  exact ⟨rp_set h.1 _ (Int.emod_nonneg _ (by omega)) (Int.emod_lt_of_pos _ hp), dRow_rp hp _ h.2 _⟩
def pdivide (a b : List Int) (p : Int) : List Int × List Int :=
 if a.length ≤ b.length - 1 then ([], a)
 else (fun x => (x.1, trimW (x.2.take (b.length - 1)))) (dSt a b p (invM (b.getD (b.length - 1) 0).toNat p.toNat : Nat) (a.length - (b.length - 1)) (b.length - 1) (a.length - (b.length - 1)))
theorem muladd_mod2 (x y z p : Int) (hx : 0 ≤ x ∧ x < p) (hy : 0 ≤ y ∧ y ≤ p) (hz : 0 ≤ z ∧ z < p) (hp : p ≤ 2147483648) : (IntKind.wrap .u64 (x + IntKind.wrap .u64 (y * z))).tmod p = (x + y * z) % p := by
 have h0 : 0 ≤ y * z := Int.mul_nonneg hy.1 hz.1
 have h1 : y * z ≤ 2147483648 * 2147483648 := Int.mul_le_mul (by omega) (by omega) hz.1 (by omega)
 rw [wrap_u64 (y * z) h0 (by omega), wrap_u64 _ (by omega) (by omega), Int.tmod_eq_emod_of_nonneg (by omega)]
theorem mul_mod2 (y z p : Int) (hy : 0 ≤ y ∧ y < p) (hz : 0 ≤ z ∧ z < p) (hp : p ≤ 2147483648) : (IntKind.wrap .u64 (y * z)).tmod p = y * z % p := by
 have h0 : 0 ≤ y * z := Int.mul_nonneg hy.1 hz.1
 have h1 : y * z ≤ 2147483648 * 2147483648 := Int.mul_le_mul (by omega) (by omega) hz.1 (by omega)
 rw [wrap_u64 (y * z) h0 (by omega), Int.tmod_eq_emod_of_nonneg (by omega)]
theorem minv_z (a p : Int) (ha : 0 ≤ a ∧ a < p) (hz : a ≠ 0) (hp0 : 2 ≤ p) (hp : p ≤ 2147483648) : FnS Tryz.prog 124 [cU a, cU p] (.t [(false, [.I .u64 (invM a.toNat p.toNat : Nat)]), (false, [.I .i64 0])]) := by
 have h := minv_s a.toNat p.toNat (by omega) (by rw [Nat.mod_eq_of_lt (by omega)]; omega) (by omega) (by omega)
 rwa [Int.toNat_of_nonneg ha.1, Int.toNat_of_nonneg (by omega : 0 ≤ p)] at h
theorem AVle.ta {x x' y : C} {r : List (Bool × List C)} (h : AVle (.c x) (.c x')) : AVle (.t ((true, [x, y]) :: r)) (.t ((true, [x', y]) :: r)) := by
 refine ⟨?_, ?_⟩
 ·rintro g v ⟨vs, rfl, v1, r1, rfl, ⟨us, rfl, v2, r2, rfl, h1, h2⟩, h3⟩
  exact ⟨_, rfl, _, _, rfl, ⟨_, rfl, v2, r2, rfl, h.1 g v2 h1, h2⟩, h3⟩
 ·intro id hid
  have h2 := h.2 id
  simp only [AV.mids, midsT, midsL, List.append_nil, List.mem_append] at hid h2 ⊢
  rcases hid with (hid | hid) | hid
  ·exact .inl (.inl (h2 hid))
  ·exact .inl (.inr hid)
  ·exact .inr hid
set_option maxHeartbeats 4000000 in
theorem pdivide_s (x : Int) (a' b : List Int) (p : Int) {a : List Int} (ea : a = x :: a') (la : a.length ≤ 1000) (lb : b.length ≤ 1000) (hp0 : 2 ≤ p) (hp : p ≤ 2147483648) (ha : rp p a) (hb : rp p b) (hb0 : b ≠ []) (hbl : b.getD (b.length - 1) 0 ≠ 0) : FnS Tryz.prog 127 [aP a p, aP b p] (.t [(true, [.S U64 (pdivide a b p).1, .I .u64 p]), (true, [.S U64 (pdivide a b p).2, .I .u64 p])]) := by
 refine fs_intro Tryz.func127 rfl rfl rfl rfl rfl (by decide) ?_
 have hpz : p ≠ 0 := by omega
 have pb := List.length_pos_iff.2 hb0
 have hcl : FnV Tryz.prog 181 [cS U64 a] 25 U64 a := by
  rw [ea] at la ⊢
  exact sclone_s x a' (by simp at la; omega)
 refine rr rfl (rb (rcv rfl rfl hcl (re rfl (rb (rc rfl rfl (pdegree_s b p (by omega)) (re rfl (tr_seq (rr rfl ?_)))))))) 
 refine tr_cond rfl (fun h => ?_) (fun h => ?_)
 ·have h : a.length ≤ b.length - 1 := by
   have h : (a.length : Int) ≤ (b.length : Int) - 1 := by simpa using h
   omega
  have e : pdivide a b p = ([], a) := by rw [pdivide, if_pos h]
  rw [e]
  refine rr rfl (tr_ret (at_then_ret (at_ret TT_ok rfl ?_)))
  exact AVle.ta (AVle.nil U64)
 ·have h : ¬ a.length ≤ b.length - 1 := by
   have h : ¬ (a.length : Int) ≤ (b.length : Int) - 1 := by simpa using h
   omega
  obtain ⟨n, hn⟩ : ∃ n, b.length = n + 1 := ⟨b.length - 1, by omega⟩
  obtain ⟨m, hm⟩ : ∃ m, a.length = n + m := ⟨a.length - n, by omega⟩
  have e : pdivide a b p = ((dSt a b p (invM (b.getD n 0).toNat p.toNat : Nat) m n m).1, trimW ((dSt a b p (invM (b.getD n 0).toNat p.toNat : Nat) m n m).2.take n)) := by
   rw [pdivide, if_neg h, hn, hm, Nat.add_sub_cancel, Nat.add_sub_cancel_left]
  rw [e]
  rw [hn, Nat.add_sub_cancel] at hbl
  have en : (b.length : Int) - 1 = (n : Int) := by omega
  generalize hv : (invM (b.getD n 0).toNat p.toNat : Nat) = v
  have hvp : (0 : Int) ≤ (v : Int) ∧ (v : Int) < p := by
   have := powM_lt (b.getD n 0).toNat (p.toNat - 2) p.toNat (by omega)
   unfold invM at hv
   omega
  rw [en]
  have hinv := minv_z (b.getD n 0) p (hb n) hbl hp0 hp
  rw [hv] at hinv
  refine tr_skip (at_then (rb (rc rfl rfl hinv (re rfl (rb ?_)))))
  refine rm U64 m rfl rfl rfl rfl rfl rfl (zr_int .u64) (by omega) ?_ ?_ ?_
  ·show _ * 8 ≤ _; omega
  ·show _ * 1 ≤ _; omega
  refine re rfl (tr_seq (rr rfl ?_))
  refine tr_block (tr_loop (α := Nat) (fun k => ⟨[(2, .c (.P 0 0)), (3, .c (.P 1000 0)), (4, .c (.P 2000 0)), (5, .c (.P 3000 0)), (6, .c (.X 1002000)), (7, cI n), (8, cU v), (10, .c (.X 5004000)), (11, cI ((m : Int) - 1 - k))], [(0, .box 101 0 [.S U64 a, .I .u64 p]), (1000, .box 101 0 [.S U64 b, .I .u64 p]), (2000, .box 101 0 [.V (.slice none 0 0), .I .u64 0]), (3000, .box 101 0 [.V (.slice none 0 0), .I .u64 0]), (1002000, .vec 25 U64 (dSt a b p v m n k).2), (5004000, .vec 25 U64 (dSt a b p v m n k).1)], 7, []⟩) (fun k => k ≤ m) (fun k => m - k) 0 (Nat.zero_le _) (wk ⟨sR rfl, sR rfl, sR rfl, sR rfl, sR rfl, sR rfl, sR rfl, sR rfl, ⟨_, rfl, AVle.of_eq ?_⟩, trivial⟩ ⟨⟨_, rfl, BLe.of_eq rfl⟩, ⟨_, rfl, BLe.of_eq rfl⟩, ⟨_, rfl, BLe.of_eq rfl⟩, ⟨_, rfl, BLe.of_eq rfl⟩, ⟨_, rfl, BLe.of_eq rfl⟩, ⟨_, rfl, BLe.of_eq rfl⟩, trivial⟩) ?_)
  ·exact congrArg cI (by simp only [List.length_replicate]; omega)
  intro k hk
  have hlk := dSt_len a b p v m n k
  have hrk := dSt_rp b v m n (by omega) ha k
  refine tr_seq (rr rfl ?_)
  refine tr_cond rfl (fun h3 => ?_) (fun h3 => ?_)
  ·have h3 : k < m := by
    have h3 : (m : Int) - 1 - k ≥ 0 := by simpa using h3
    omega
   obtain ⟨i, hi⟩ : ∃ i, m = i + (k + 1) := ⟨m - (k + 1), by omega⟩
   have ei : (m : Int) - 1 - k = (i : Int) := by omega
   have ei2 : m - (k + 1) = i := by omega
   rw [ei]
   have ein : ((i : Int) + (n : Int)).toNat = i + n := by omega
   generalize hc : (dSt a b p v m n k).2.getD (i + n) 0 * v % p = c
   have hcp : 0 ≤ c ∧ c < p := by
    rw [← hc]
    exact ⟨Int.emod_nonneg _ (by omega), Int.emod_lt_of_pos _ (by omega)⟩
   have hgi := hrk.2 (i + n)
   refine tr_skip (at_then (tr_seq (tr_block (rr rfl (hp := by simp only [Pr.an, Pr.h, num, i64r, true_and, and_true]; omega) (rr rfl ?_)))))
   refine tr_block (tr_loop (α := Nat) (fun j => ⟨[(2, .c (.P 0 0)), (3, .c (.P 1000 0)), (4, .c (.P 2000 0)), (5, .c (.P 3000 0)), (6, .c (.X 1002000)), (7, cI n), (8, cU v), (10, .c (.X 5004000)), (11, cI i), (65, cI b.length), (66, cI j)], [(0, .box 101 0 [.S U64 a, .I .u64 p]), (1000, .box 101 0 [.S U64 b, .I .u64 p]), (2000, .box 101 0 [.V (.slice none 0 0), .I .u64 0]), (3000, .box 101 0 [.V (.slice none 0 0), .I .u64 0]), (1002000, .vec 25 U64 (dRow b p c i j (dSt a b p v m n k).2)), (5004000, .vec 25 U64 ((dSt a b p v m n k).1.set i c))], 10, []⟩) (fun j => j ≤ b.length) (fun j => b.length - j) 0 (Nat.zero_le _) (wk ⟨sR rfl, sR rfl, sR rfl, sR rfl, sR rfl, sR rfl, sR rfl, sR rfl, sR rfl, sR rfl, sR rfl, trivial⟩ ⟨⟨_, rfl, BLe.of_eq rfl⟩, ⟨_, rfl, BLe.of_eq rfl⟩, ⟨_, rfl, BLe.of_eq rfl⟩, ⟨_, rfl, BLe.of_eq rfl⟩, ⟨_, rfl, BLe.of_eq rfl⟩, ⟨_, rfl, BLe.of_eq ?_⟩, trivial⟩) ?_)
   ·rw [← hc, ← mul_mod2 _ _ p hgi hvp hp, ← ein]; rfl
   intro j hj
   have hlj := dRow_len b p c i (dSt a b p v m n k).2 j
   have hrj := dRow_rp (b := b) (p := p) (c := c) (by omega) i hrk.2 j (i + j)
   refine rr rfl (tr_seq ?_)
   refine tr_cond rfl (fun h4 => ?_) (fun h4 => ?_)
   ·have h4 : j < b.length := by simpa using h4
    have gb := hb j
    have eij : ((i : Int) + (j : Int)).toNat = i + j := by omega
    have hset : ((dSt a b p v m n k).1.set i c).getD i 0 = c := by
     rw [List.getD_eq_getElem?_getD, List.getElem?_set_self (by omega)]; rfl
    have hll : ((dSt a b p v m n k).1.set i c).length = m := by rw [List.length_set]; exact hlk.1
    refine tr_skip (at_then (tr_seq (tr_block (rr rfl (rt rfl ?_ (hp := by simp only [Pr.an, Pr.h, num, i64r, true_and, and_true]; omega))))))
    refine at_block (at_then (rt rfl (at_loop (j + 1) h4 (by show b.length - (j + 1) < b.length - j; omega) (wk ⟨sR rfl, sR rfl, sR rfl, sR rfl, sR rfl, sR rfl, sR rfl, sR rfl, sR rfl, sR rfl, sR rfl, trivial⟩ ⟨⟨_, rfl, BLe.of_eq rfl⟩, ⟨_, rfl, BLe.of_eq rfl⟩, ⟨_, rfl, BLe.of_eq rfl⟩, ⟨_, rfl, BLe.of_eq rfl⟩, ⟨_, rfl, BLe.of_eq ?_⟩, ⟨_, rfl, BLe.of_eq rfl⟩, trivial⟩))))
    rw [dRow, eij, ← muladd_mod2 _ (p - c) _ p hrj (by omega) gb hp]
    have e2 : IntKind.wrap .u64 (p - ((dSt a b p v m n k).1.set i c).getD (i : Int).toNat 0) = p - c := by
     rw [Int.toNat_natCast, hset, wrap_u64 _ (by omega) (by omega)]
    rw [← e2]; rfl
   ·have h4 : ¬ j < b.length := by simpa using h4
    have e : j = b.length := by omega
    subst e
    refine tr_exit (at_then_exit (at_loop_exit (at_block_exit (at_block (at_then (rt rfl (at_loop (k + 1) h3 (by show m - (k + 1) < m - k; omega) (wk ⟨sR rfl, sR rfl, sR rfl, sR rfl, sR rfl, sR rfl, sR rfl, sR rfl, ⟨_, rfl, AVle.of_eq ?_⟩, trivial⟩ ⟨⟨_, rfl, BLe.of_eq rfl⟩, ⟨_, rfl, BLe.of_eq rfl⟩, ⟨_, rfl, BLe.of_eq rfl⟩, ⟨_, rfl, BLe.of_eq rfl⟩, ⟨_, rfl, BLe.of_eq ?_⟩, ⟨_, rfl, BLe.of_eq ?_⟩, trivial⟩))))))))
    ·exact congrArg cI (by omega)
    ·rw [dSt, ei2, hc]
    ·rw [dSt, ei2, hc]
  ·have h3 : ¬ k < m := by
    have h3 : ¬ (m : Int) - 1 - k ≥ 0 := by simpa using h3
    omega
   have e : k = m := by omega
   subst e
   refine tr_exit (at_then_exit (at_loop_exit (at_block_exit (at_then (tr_frz 1002000 rfl rfl rfl (tr_frz 5004000 rfl rfl rfl (rb (rc rfl rfl (ptrim_s ((dSt a b p v k n k).2.take n) p (by rw [List.length_take]; omega)) (re rfl (tr_ret (at_ret TT_ok rfl (AVle.refl _)))))))))))) 
end Go.El
