/- The engine over this seat's program: short rules. Own work; no condition. -/
import Derived.Test.YtkkccchkmcjcpaaGreatM3
import Derived.Test.YtkkccchkmcjcpaaGreatM2
import Derived.Test.YtkkccchkmcjcpaaGreatM1
set_option linter.unusedVariables false
set_option linter.unusedSimpArgs false
namespace Go.El
open Go Go.Proofs
abbrev U64 : ET := .int .u64
abbrev I64 : ET := .int .i64
abbrev I8 : ET := .int .i8
abbrev cI (n : Int) : AV := .c (.I .i64 n)
abbrev cU (n : Int) : AV := .c (.I .u64 n)
abbrev cW (n : Int) : AV := .c (.I .u32 n)
abbrev cB (b : Bool) : AV := .c (.B b)
abbrev cS (T : ET) (xs : List T.den) : AV := .c (.S T xs)
abbrev aZ (z : Int) : AV := .a (av .z z)
section
variable {n : Nat} {Q : Post} {sl sl' : List (Nat × AV)} {mem mem' : List (Nat × Blk)} {nx : Nat} {gd gd' : List (Nat × Bool)} {id : Nat} {ops : Array Oper} {draw : Bool} {y : Code} {p : Pr} {ks ks' : List Ks} {i i' n0 n0' : Nat}
theorem rr (h : runs TTab n nx draw ops.toList ops.toList 0 ⟨sl, mem, nx, gd⟩ .t [] = ([], i', ⟨sl', mem', n0, gd'⟩, p, ks)) (hk : TR Tryz.prog n y ⟨sl', mem', nx + 1, []⟩ Q)
  (hp : p := by first | trivial | (simp only [Pr.an, Pr.h, num, i64r, true_and, and_true]; first | done | omega) | (simp [Pr.an, Pr.h, num, i64r]; done) | (simp [Pr.an, Pr.h, num, i64r]; omega)) (ho : (!draw || ordB ops.toList ks) = true := by kernel_rfl) (hsz : Nat.ble ops.size 1000 = true := by rfl) : TR Tryz.prog n (.seq (.region id ops draw) y) ⟨sl, mem, nx, gd⟩ Q :=
 tr_seq (tr_region MX (rg_run TT_ok h hp (rg_nil hk ho hsz)))
theorem rt (h : runs TTab n nx draw ops.toList ops.toList 0 ⟨sl, mem, nx, gd⟩ .t [] = ([], i', ⟨sl', mem', n0, gd'⟩, p, ks)) (hk : AtQ n .normal ⟨sl', mem', nx + 1, []⟩ Q)
  (hp : p := by first | trivial | (simp only [Pr.an, Pr.h, num, i64r, true_and, and_true]; first | done | omega) | (simp [Pr.an, Pr.h, num, i64r]; done) | (simp [Pr.an, Pr.h, num, i64r]; omega)) (ho : (!draw || ordB ops.toList ks) = true := by kernel_rfl) (hsz : Nat.ble ops.size 1000 = true := by rfl) : TR Tryz.prog n (.region id ops draw) ⟨sl, mem, nx, gd⟩ Q :=
 tr_region MX (rg_run TT_ok h hp (rg_nil hk ho hsz))
theorem rb (h : RG Tryz.prog n ops draw nx 0 ops.toList ⟨sl, mem, nx, gd⟩ [] (fun st' => TR Tryz.prog n y st' Q)) : TR Tryz.prog n (.seq (.region id ops draw) y) ⟨sl, mem, nx, gd⟩ Q := tr_seq (tr_region MX h)
theorem rbt (h : RG Tryz.prog n ops draw nx 0 ops.toList ⟨sl, mem, nx, gd⟩ [] (fun st' => AtQ n .normal st' Q)) : TR Tryz.prog n (.region id ops draw) ⟨sl, mem, nx, gd⟩ Q := tr_region MX h
variable {R : St → Prop} {os : List Oper} {d f : Nat} {args : Array Operand} {tys : Array TypeId} {ty : TypeId} {pos : String} {aft : Array Edge} {os' : List Oper} {vs : List AV} {r : AV}
theorem rc (h : runs TTab n nx draw ops.toList os i ⟨sl, mem, n0, gd⟩ .t ks = (⟨some d, .call ⟨.value (.func f), args, tys⟩, ty, pos, aft, none⟩ :: os', i', ⟨sl', mem', n0', gd'⟩, p, ks')) (hv : evs ⟨sl', mem', n0', gd'⟩ args.toList = some vs) (hf : FnS Tryz.prog f vs r)
  (hk : RG Tryz.prog n ops draw nx (i' + 1) os' ⟨(d, r) :: sl', mem', n0', gd'⟩ (addK draw ks' (okeys args.toList, [.s d])) R)
  (hp : p := by first | trivial | (simp only [Pr.an, Pr.h, num, i64r, true_and, and_true]; first | done | omega) | (simp [Pr.an, Pr.h, num, i64r]; done) | (simp [Pr.an, Pr.h, num, i64r]; omega)) (hm : midsVs vs = [] := by rfl) (hdn : Nat.blt d n = true := by rfl) : RG Tryz.prog n ops draw nx i os ⟨sl, mem, n0, gd⟩ ks R :=
 rg_run TT_ok h hp (rg_call hv hf hk hm hdn)
theorem rcg {j tg : Nat} {want b : Bool} (h : runs TTab n nx draw ops.toList os i ⟨sl, mem, n0, gd⟩ .t ks = (⟨some d, .call ⟨.value (.func f), args, tys⟩, ty, pos, aft, some (j, want)⟩ :: os', i', ⟨sl', mem', n0', gd'⟩, p, ks')) (hj : gslot ops.toList j = some tg) (hb : lookA tg sl' = some (.c (.B b))) (hbw : b = want) (hv : evs ⟨sl', mem', n0', gd'⟩ args.toList = some vs) (hf : FnS Tryz.prog f vs r)
  (hk : RG Tryz.prog n ops draw nx (i' + 1) os' ⟨(d, r) :: sl', mem', n0', gd'⟩ (addK draw ks' (.s tg :: okeys args.toList, [.s d])) R)
  (hp : p := by first | trivial | (simp only [Pr.an, Pr.h, num, i64r, true_and, and_true]; first | done | omega) | (simp [Pr.an, Pr.h, num, i64r]; done) | (simp [Pr.an, Pr.h, num, i64r]; omega)) (hm : midsVs vs = [] := by rfl) (hdn : Nat.blt d n = true := by rfl) : RG Tryz.prog n ops draw nx i os ⟨sl, mem, n0, gd⟩ ks R :=
 rg_run TT_ok h hp (rg_callG hj hb hbw hv hf hk hm hdn)
theorem re (h : runs TTab n nx draw ops.toList os i ⟨sl, mem, n0, gd⟩ .t ks = ([], i', ⟨sl', mem', n0', gd'⟩, p, ks')) (hk : R ⟨sl', mem', nx + 1, []⟩)
  (hp : p := by first | trivial | (simp only [Pr.an, Pr.h, num, i64r, true_and, and_true]; first | done | omega) | (simp [Pr.an, Pr.h, num, i64r]; done) | (simp [Pr.an, Pr.h, num, i64r]; omega)) (ho : (!draw || ordB ops.toList ks') = true := by kernel_rfl) (hsz : Nat.ble ops.size 1000 = true := by rfl) : RG Tryz.prog n ops draw nx i os ⟨sl, mem, n0, gd⟩ ks R :=
 rg_run TT_ok h hp (rg_nil hk ho hsz)
theorem rg (t : Nat) {b : Bool} {o : Oper} (h : runs TTab n nx draw ops.toList os i ⟨sl, mem, n0, gd⟩ .t ks = (o :: os', i', ⟨sl', mem', n0', gd'⟩, p, ks')) (hb : lookA t sl' = some (.c (.B b)))
  (ht : b = true → RG Tryz.prog n ops draw nx i' (o :: os') ⟨(t, .c (.B true)) :: sl', mem', n0', (t, true) :: gd'⟩ ks' R) (hf : b = false → RG Tryz.prog n ops draw nx i' (o :: os') ⟨(t, .c (.B false)) :: sl', mem', n0', (t, false) :: gd'⟩ ks' R)
  (hp : p := by first | trivial | (simp only [Pr.an, Pr.h, num, i64r, true_and, and_true]; first | done | omega) | (simp [Pr.an, Pr.h, num, i64r]; done) | (simp [Pr.an, Pr.h, num, i64r]; omega)) : RG Tryz.prog n ops draw nx i os ⟨sl, mem, n0, gd⟩ ks R :=
 rg_run TT_ok h hp (rg_split t hb ht hf)
theorem rm {t : Nat} {x : Operand} (T : ET) (m : Nat) (h : runs TTab n nx draw ops.toList os i ⟨sl, mem, n0, gd⟩ .t ks = (⟨some d, .makeSlice t x x, ty, pos, aft, none⟩ :: os', i', ⟨sl', mem', n0', gd'⟩, p, ks')) {k : IntKind} {v : Int} (hx : St.ev ⟨sl', mem', n0', gd'⟩ x = some (.c (.I k v))) {E : Nat} {ti ei : TI} (hti : lookA t TTab = some ti) (hkd : ti.kind = .sl E) (hei : lookA E TTab = some ei) (hTn : ei.size = T.n)
  (hz : ∀ g : Gh, RelL g (av T T.dflt) (ei.zero.map ZV.toV)) (hv : v = (m : Int)) (hb : m * ei.bytes ≤ 281474976710656) (hb2 : m * T.n ≤ 140737488355328)
  (hk : RG Tryz.prog n ops draw nx (i' + 1) os' ⟨(d, .c (.X (1000000 * nx + 1000 * i'))) :: sl', (1000000 * nx + 1000 * i', .vec E T (List.replicate m T.dflt)) :: mem', n0', gd'⟩ (addK draw ks' (okeys [x, x], [.s d, .m (1000000 * nx + 1000 * i')])) R)
  (hp : p := by first | trivial | (simp only [Pr.an, Pr.h, num, i64r, true_and, and_true]; first | done | omega) | (simp [Pr.an, Pr.h, num, i64r]; done) | (simp [Pr.an, Pr.h, num, i64r]; omega)) (hdn : Nat.blt d n = true := by rfl) : RG Tryz.prog n ops draw nx i os ⟨sl, mem, n0, gd⟩ ks R :=
 rg_run TT_ok h hp (rg_make TT_ok T m hx hv hti hkd hei hTn hz hb hb2 hk hdn)
end
theorem zr_int (k : IntKind) (g : Gh) : RelL g (av (.int k) (ET.dflt (.int k))) ([ZV.i k].map ZV.toV) := ⟨_, _, rfl, rfl, rfl⟩
end Go.El

/- The engine over this seat's program: short rules for literals, stores, appends. Own work; no condition. -/
namespace Go.El
open Go Go.Proofs
section
variable {n : Nat} {sl sl' : List (Nat × AV)} {mem mem' : List (Nat × Blk)} {nx : Nat} {gd gd' : List (Nat × Bool)} {ops : Array Oper} {draw : Bool} {p : Pr} {ks ks' : List Ks} {i i' n0 n0' : Nat}
variable {R : St → Prop} {os : List Oper} {d : Nat} {ty : TypeId} {pos : String} {aft : Array Edge} {os' : List Oper}
theorem rl (T : ET) (xs : List T.den) {t len : Nat} {parts : Array (Nat × Operand)} (h : runs TTab n nx draw ops.toList os i ⟨sl, mem, n0, gd⟩ .t ks = (⟨some d, .buildSlice t len parts, ty, pos, aft, none⟩ :: os', i', ⟨sl', mem', n0', gd'⟩, p, ks')) {E : Nat} {ei : TI} (hv : bslC TTab ⟨sl', mem', n0', gd'⟩ t len parts.toList = some (E, ei, xs.flatMap (av T)))
  (hk : RG Tryz.prog n ops draw nx (i' + 1) os' ⟨(d, .c (.S T xs)) :: sl', mem', n0', gd'⟩ (addK draw ks' (okeys (Op.buildSlice t len parts).operands.toList, [.s d])) R) (hT : ei.size = T.n := by rfl) (hlx : xs.length = len := by rfl) (hsmall : Nat.ble (len * T.n) 16777216 = true := by rfl)
  (hp : p := by first | trivial | (simp only [Pr.an, Pr.h, num, i64r, true_and, and_true]; first | done | omega) | (simp [Pr.an, Pr.h, num, i64r]; done) | (simp [Pr.an, Pr.h, num, i64r]; omega)) (hdn : Nat.blt d n = true := by rfl) : RG Tryz.prog n ops draw nx i os ⟨sl, mem, n0, gd⟩ ks R :=
 rg_run TT_ok h hp (rg_bsl TT_ok T xs hv hT hlx hsmall hk hdn)
theorem rlv (T : ET) (xs : List T.den) {t len : Nat} {parts : Array (Nat × Operand)} (h : runs TTab n nx draw ops.toList os i ⟨sl, mem, n0, gd⟩ .t ks = (⟨some d, .buildSlice t len parts, ty, pos, aft, none⟩ :: os', i', ⟨sl', mem', n0', gd'⟩, p, ks')) {E : Nat} {ei : TI} (hv : bslC TTab ⟨sl', mem', n0', gd'⟩ t len parts.toList = some (E, ei, xs.flatMap (av T)))
  (hk : RG Tryz.prog n ops draw nx (i' + 1) os' ⟨(d, .c (.X (1000000 * nx + 1000 * i'))) :: sl', (1000000 * nx + 1000 * i', .vec E T xs) :: mem', n0', gd'⟩ (addK draw ks' (okeys (Op.buildSlice t len parts).operands.toList, [.s d, .m (1000000 * nx + 1000 * i')])) R) (hT : ei.size = T.n := by rfl) (hlx : xs.length = len := by rfl) (hsmall : Nat.ble (len * T.n) 16777216 = true := by rfl)
  (hp : p := by first | trivial | (simp only [Pr.an, Pr.h, num, i64r, true_and, and_true]; first | done | omega) | (simp [Pr.an, Pr.h, num, i64r]; done) | (simp [Pr.an, Pr.h, num, i64r]; omega)) (hdn : Nat.blt d n = true := by rfl) : RG Tryz.prog n ops draw nx i os ⟨sl, mem, n0, gd⟩ ks R :=
 rg_run TT_ok h hp (rg_bslV TT_ok T xs hv hT hlx hsmall hk hdn)
theorem rsv {t : Nat} {x y : Operand} {id m k : Nat} {E : TypeId} {T : ET} {xs : List T.den} {vy : AV} {ag : Bool} (e : T.den) (h : runs TTab n nx draw ops.toList os i ⟨sl, mem, n0, gd⟩ .t ks = (⟨none, .store t x y, ty, pos, aft, none⟩ :: os', i', ⟨sl', mem', n0', gd'⟩, p, ks'))
  (hx : St.ev ⟨sl', mem', n0', gd'⟩ x = some (.c (.Y id m k 0))) (hl : lookA id mem' = some (.vec E T xs)) (hy : St.ev ⟨sl', mem', n0', gd'⟩ y = some vy) (hcs : cellsAV vy = some (av T e)) (hk : k < xs.length)
  (hr : RG Tryz.prog n ops draw nx (i' + 1) os' ⟨sl', (id, .vec E T (xs.set k e)) :: mem', n0', gd'⟩ (addK draw ks' (okeys [x, y] ++ mkeys [id], [.m id])) R) (hm : T.n = m := by rfl) (hts : tySz TTab t = some (m, ag) := by rfl)
  (hp : p := by first | trivial | (simp only [Pr.an, Pr.h, num, i64r, true_and, and_true]; first | done | omega) | (simp [Pr.an, Pr.h, num, i64r]; done) | (simp [Pr.an, Pr.h, num, i64r]; omega)) : RG Tryz.prog n ops draw nx i os ⟨sl, mem, n0, gd⟩ ks R :=
 rg_run TT_ok h hp (rg_storeV TT_ok hx hl hy hm hts e hcs hk hr)
theorem ra {x y : Operand} {t1 t2 : TypeId} {id : Nat} {E E2 : TypeId} {T : ET} {xs ys : List T.den} {ti ti2 ei : TI} (h : runs TTab n nx draw ops.toList os i ⟨sl, mem, n0, gd⟩ .t ks = (⟨some d, .call ⟨.builtin .append, #[x, y], #[t1, t2]⟩, ty, pos, aft, none⟩ :: os', i', ⟨sl', mem', n0', gd'⟩, p, ks'))
  (hx : St.ev ⟨sl', mem', n0', gd'⟩ x = some (.c (.X id))) (hl : lookA id mem' = some (.vec E T xs)) (hy : St.ev ⟨sl', mem', n0', gd'⟩ y = some (.c (.S T ys))) (hti : lookA t1 TTab = some ti) (hk : ti.kind = .sl E) (hti2 : lookA t2 TTab = some ti2) (hk2 : ti2.kind = .sl E2) (hei : lookA E TTab = some ei)
  (hb : ((xs.length + ys.length) + (xs.length + ys.length) / 4 + 192) * ei.bytes ≤ 281474976710656) (hb2 : (xs.length + ys.length) * T.n ≤ 140737488355328)
  (hr : RG Tryz.prog n ops draw nx (i' + 1) os' ⟨(d, .c (.X (1000000 * nx + 1000 * i'))) :: sl', (1000000 * nx + 1000 * i', .vec E T (xs ++ ys)) :: delA id mem', n0', gd'⟩ (addK draw ks' (okeys [x, y] ++ mkeys [id], [.s d, .m (1000000 * nx + 1000 * i'), .m id])) R) (hTn : ei.size = T.n := by rfl) (hzl : ei.zero.length = T.n := by rfl)
  (hp : p := by first | trivial | (simp only [Pr.an, Pr.h, num, i64r, true_and, and_true]; first | done | omega) | (simp [Pr.an, Pr.h, num, i64r]; done) | (simp [Pr.an, Pr.h, num, i64r]; omega)) (hdn : Nat.blt d n = true := by rfl) : RG Tryz.prog n ops draw nx i os ⟨sl, mem, n0, gd⟩ ks R :=
 rg_run TT_ok h hp (rg_app TT_ok hx hl hy hti hk hti2 hk2 hei hTn hzl hb hb2 hr hdn)
end
end Go.El

/- The engine, part 38: arrays, indexes into arrays and strings, slices held against nil. Own work; no condition. -/
namespace Go.El
open Go Go.RowKit
def nilS : AV → Option Bool
 | .c (.V (.slice none 0 0)) => some true
 | .c (.L _ _ _ _) => some false
 | .c (.S _ (_ :: _)) => some false
 | _ => none
def slKind (tt : TT) (t : Nat) : Bool := match lookA t tt with
 | some ti => (match ti.kind with | .sl _ => true | _ => false)
 | none => false
def strAt (s : ByteArray) (i : Int) : Option Int := match s[i.toNat]? with
 | some b => some b.toNat
 | none => none
def nilT (tt : TT) (op : BinOp) (t : Nat) (v w : AV) : Option AV := match w with
 | .c (.V (.slice none 0 0)) => (match slKind tt t, nilS v with
  | true, some b => (match op with
   | .eql => some (.c (.B b))
   | .neq => some (.c (.B (!b)))
   | _ => none)
  | _, _ => none)
 | _ => none
def evalM (tt : TT) (st : St) : Op → Option (AV × Pr)
 | .build t parts => (match lookA t tt with
  | some ti => (match ti.kind with
   | .arr len E => (match lookA E tt with
    | some ei => (match fillC (slPlaces ei.size 0 len) st (ti.zero.map ZV.toC) parts.toList with
     | some cs => some (.a cs, .t)
     | none => none)
    | none => none)
   | _ => none)
  | none => none)
 | .index t x i => (match st.ev x, st.ev i with
  | some (.a cs), some (.c (.I _ j)) => (match lookA t tt with
   | some ti => (match ti.kind with
    | .arr len E => (match tySz tt E with
     | some (sz, ag) => (match partA cs (j.toNat * sz) sz ag with
      | some u => some (u, .and (.le 0 j) (.lt j len))
      | none => none)
     | none => none)
    | _ => none)
   | none => none)
  | some (.c (.V (.string s))), some (.c (.I _ j)) => (match lookA t tt with
   | some ti => (match ti.kind, strAt s j with
    | .str, some b => some (.c (.I .u8 b), .le 0 j)
    | _, _ => none)
   | none => none)
  | _, _ => none)
 | .binOp op t x y _ => (match st.ev x, st.ev y with
  | some v, some w => (match nilT tt op t v w with
   | some u => some (u, .t)
   | none => none)
  | _, _ => none)
 | _ => none
section
variable {P : Program} {tt : TT} {g : Gh} {W : World}
theorem nilS_ok {v : AV} {b : Bool} (h : nilS v = some b) {u : Value} (hu : RelV g v u) : ∃ a l c, u = .slice a l c ∧ a.isNone = b := by
 unfold nilS at h
 split at h
 ·cases h
  have hu' : u = .slice none 0 0 := hu
  exact ⟨none, 0, 0, hu', rfl⟩
 ·rename_i id off len cap
  cases h
  cases cap with
  | some c => obtain ⟨b, _, rfl⟩ := hu; exact ⟨_, _, _, rfl, rfl⟩
  | none => obtain ⟨_, b, c, _, rfl, _⟩ := hu; exact ⟨_, _, _, rfl, rfl⟩
 ·rename_i T x xs
  cases h
  obtain ⟨a, cap, rfl, _, _, h1⟩ := hu
  rcases h1 with h1 | ⟨b, off, rfl, _⟩
  ·cases h1
  ·exact ⟨_, _, _, rfl, rfl⟩
 ·cases h
theorem run_equal_nil {t e : TypeId} (hu : P.underlying t = some (.slice e)) (a : Option Addr) (l c : Nat) : (Op.equal t (.slice a l c) (.slice none 0 0)).run P W = .ok a.isNone W := by
 rw [Op.equal, show Op.maxDepth = 9999 + 1 from rfl, Op.equalIn]
 cases a <;> simp [run_underlying hu]
theorem nil_fin (htt : ttB P tt = true) {F : Fix} {known : Nat → Prop} {σ : Kn} {g : Gh} {W : World} {a : Act} (hsem : Hold F known σ g W a) {o : Oper} {bo : BinOp} {t : TypeId} {y z : Operand} {ty : TypeId} (hop : o.op = .binOp bo t y z ty) {v : AV} {b : Bool} (hsk : slKind tt t = true) (hn : nilS v = some b) {x : AV}
  (he : (bo = .eql ∧ x = AV.c (.B b)) ∨ (bo = .neq ∧ x = AV.c (.B (!b)))) (h1 : RelV g v (a.eval y) ∧ ∀ id ∈ v.mids, known id) (hzv : a.eval z = .slice none 0 0) :
  (∀ id ∈ x.mids, known id) ∧ ∃ v, (execOp a.eval o).run P W = .ok (.value v) W ∧ RelV g x v := by
 obtain ⟨ad, l, c, hyv, hb⟩ := nilS_ok hn h1.1
 have hund : ∃ e, P.underlying t = some (.slice e) := by
  unfold slKind at hsk
  split at hsk
  ·rename_i ti hti
   split at hsk
   ·rename_i e hk
    have h2 := (ttB_ok htt hti).kind
    rw [hk] at h2
    exact ⟨e, h2⟩
   ·cases hsk
  ·cases hsk
 obtain ⟨e, hund⟩ := hund
 have hexec : execOp a.eval o = (do pure (.value (← (do eqGuard bo t y z (a.eval y) (a.eval z); binOp bo t (a.eval y) (a.eval z) : Go.Sem Value)))) := by rw [execOp, hop]
 have heq := run_equal_nil (P := P) (W := W) hund ad l c
 rcases he with ⟨rfl, rfl⟩ | ⟨rfl, rfl⟩
 ·refine ⟨fun id hid => by simp [AV.mids, C.mids] at hid, .bool b, ?_, rfl⟩
  rw [hexec, hyv, hzv]
  simp [eqGuard, binOp, heq, Result.andThen, hb]
 ·refine ⟨fun id hid => by simp [AV.mids, C.mids] at hid, .bool (!b), ?_, rfl⟩
  rw [hexec, hyv, hzv]
  simp [eqGuard, binOp, heq, Result.andThen, hb]
theorem evalM_sound (htt : ttB P tt = true) {ops : Array Oper} {i : Nat} {o : Oper} {d : Nat} (ho : ops[i]? = some o) (hg : o.guard = none) (hd : o.dst = some d) {n : Nat} (hdn : d < n)
  {st : St} {x : AV} {p : Pr} (he : evalM tt st o.op = some (x, p)) (hp : p) (new : Nat) : StepS P n ops i (rdV st o.op) [(.s d, some (.v x))] new := by
 refine stepS_val ho hg hd hdn _ x new ?_
 intro F known σ g W a hsem hrd
 have hrs : ∀ y ∈ o.op.operands, ∀ kx ∈ opd st y, σ kx.1 = some kx.2 := by
  intro y hy kx hkx
  exact hrd kx (List.mem_flatMap.2 ⟨y, by simpa using hy, hkx⟩)
 have hev : ∀ y ∈ o.op.operands, ∀ u, st.ev y = some u → RelV g u (a.eval y) ∧ ∀ id ∈ u.mids, known id := by
  intro y hy u hu
  exact ⟨ev_rel hsem st y u hu (hrs y hy), ev_mids hsem st y u hu (hrs y hy)⟩
 generalize hop : o.op = op at he hev hrs hrd
 unfold evalM at he
 split at he
 ·-- an array literal
  rename_i t parts
  split at he
  ·rename_i ti hti
   split at he
   ·rename_i len E hk
    split at he
    ·rename_i ei hei
     split at he
     ·rename_i cs hcs
      cases he
      have h2 := (ttB_ok htt hti).kind
      rw [hk] at h2
      have hu : P.underlying t = some (.array len E) := h2
      obtain ⟨inf, hinf, hsz, _, z, hz, hzc⟩ := (ttB_ok htt hti).info
      obtain ⟨ie, hie, hse, _⟩ := (ttB_ok htt hei).info
      have hzr : RelL g (ti.zero.map ZV.toC) (ti.zero.map ZV.toV) := zeros_rel g ti.zero
      obtain ⟨us, hfill, hrel, hlen, hmid⟩ := fill_sound hsem st (slPlaces ei.size 0 len) (fun i => some (i * ei.size, ei.size)) (fun i y hy => by
        have := slPlaces_get ei.size len 0 i y hy
        rw [this, Nat.zero_add]) parts.toList _ cs _ hcs hzr (fun q hq kx hkx => hrd kx (List.mem_flatMap.2 ⟨q.2, by simp only [Op.operands]; simp only [List.mem_map]; exact ⟨q, hq, rfl⟩, hkx⟩)) (by rw [zeros_mids]; intro _ h; cases h)
      refine ⟨hmid, .agg us.toArray, ?_, us, rfl, hrel⟩
      have hzv : (zeroValue t).run P W = .ok z W := by
       simp [zeroValue, typeInfo, hinf, hz]
      have hzc' : z.cells = (ti.zero.map ZV.toV).toArray := by rw [← Array.toList_inj]; simpa using hzc
      have hexec : execOp a.eval o = (do pure (.value (← Instr.build t (parts.map fun (i, x) => (i, a.eval x))))) := by rw [execOp, hop]
      have hpm : (parts.map fun (i, x) => (i, a.eval x)).toList = parts.toList.map fun p => (p.1, a.eval p.2) := by simp
      have hb : (Instr.build t (parts.map fun (i, x) => (i, a.eval x))).run P W = .ok (.agg us.toArray) W := by
       unfold Instr.build
       rw [Sem.run_bind, hzv]
       simp only [Result.andThen]
       rw [Sem.run_bind, run_underlying hu]
       simp only [Result.andThen]
       rw [Sem.run_bind, run_sizeOf hie]
       simp only [Result.andThen, hpm, hzc', hse, hfill]
       rfl
      rw [hexec, Sem.run_bind, hb]
      rfl
     ·cases he
    ·cases he
   ·cases he
  ·cases he
 ·-- an index
  rename_i t y j
  have hexec : execOp a.eval o = (do pure (.value (← Instr.index t (a.eval y) (a.eval j)))) := by rw [execOp, hop]
  split at he
  ·rename_i cs k jj hy hj
   split at he
   ·rename_i ti hti
    split at he
    ·rename_i len E hk
     split at he
     ·rename_i sz ag hts
      split at he
      ·rename_i u hu
       cases he
       obtain ⟨hb1, hb2⟩ : 0 ≤ jj ∧ jj < (len : Int) := hp
       have h2 := (ttB_ok htt hti).kind
       rw [hk] at h2
       have hund : P.underlying t = some (.array len E) := h2
       obtain ⟨vs, hvs, hrel⟩ := (hev y (by simp [Op.operands]) _ hy).1
       have hjv : a.eval j = .int k jj := (hev j (by simp [Op.operands]) _ hj).1
       obtain ⟨hag, ⟨inf, hinf, hsz⟩, _⟩ := tySz_ok htt hts
       obtain ⟨v, hv, hvr⟩ := partA_sound (P := P) hrel hu hag hinf hsz W
       refine ⟨fun id hid => (hev y (by simp [Op.operands]) _ hy).2 id (partA_mids hu id hid), v, ?_, hvr⟩
       have hrun : (Instr.index t (a.eval y) (a.eval j)).run P W = .ok v W := by
        rw [hvs, hjv]
        unfold Instr.index
        simp only [asIntOf, Sem.run_bind, Sem.run_pure, Result.andThen, run_underlying hund, hb1, hb2, and_self, if_true, run_sizeOf hinf, hsz]
        exact hv
       rw [hexec, Sem.run_bind, hrun]
       rfl
      ·cases he
     ·cases he
    ·cases he
   ·cases he
  ·rename_i s k jj hy hj
   split at he
   ·rename_i ti hti
    split at he
    ·rename_i b hk hb
     cases he
     have hb1 : 0 ≤ jj := hp
     have h2 := (ttB_ok htt hti).kind
     rw [hk] at h2
     have hund : P.underlying t = some .string := h2
     have hyv : a.eval y = .string s := (hev y (by simp [Op.operands]) _ hy).1
     have hjv : a.eval j = .int k jj := (hev j (by simp [Op.operands]) _ hj).1
     refine ⟨fun id hid => by simp [AV.mids, C.mids] at hid, .int .u8 b, ?_, rfl⟩
     have hrun : (Instr.index t (a.eval y) (a.eval j)).run P W = .ok (.int .u8 b) W := by
      rw [hyv, hjv]
      unfold strAt at hb
      unfold Instr.index
      simp only [asIntOf, Sem.run_bind, Sem.run_pure, Result.andThen, run_underlying hund, hb1, if_true]
      split at hb
      ·rename_i bb hbb
       cases hb
       rw [hbb]
       rfl
      ·cases hb
     rw [hexec, Sem.run_bind, hrun]
     rfl
    ·cases he
   ·cases he
  ·cases he
 ·-- nil
  rename_i bo t y z ty
  split at he
  ·rename_i v w hy hz
   split at he
   ·rename_i u0 hnt
    cases he
    unfold nilT at hnt
    split at hnt
    ·split at hnt
     ·rename_i b hsk hn
      have hnt' : (bo = .eql ∧ x = AV.c (.B b)) ∨ (bo = .neq ∧ x = AV.c (.B (!b))) := by
       split at hnt
       ·cases hnt; exact .inl ⟨rfl, rfl⟩
       ·cases hnt; exact .inr ⟨rfl, rfl⟩
       ·cases hnt
      exact nil_fin htt hsem hop hsk hn hnt' (hev y (by simp [Op.operands]) _ hy) (hev z (by simp [Op.operands]) _ hz).1
     ·cases hnt
    ·cases hnt
   ·cases he
  ·cases he
 ·cases he
end
end Go.El

/- The engine, part 41: contracts of functions that return a slice of their own. Own work; no condition. -/
namespace Go.El
open Go Go.RowKit
def RetV (W : World) (H : FH) (E : TypeId) (T : ET) (xs : List T.den) (e : Ending) (W' : World) : Prop :=
 ∃ v H', e = .returned v ∧ RepB (fun b => W.heap.size ≤ b) ⟨H', fun _ => v⟩ W' 0 (.vec E T xs) ∧ FLe H H' ∧ (∀ b o, b < W.heap.size → H' b o = H b o) ∧ Sub H' W' ∧ Below W.heap.size W W'
structure FnV (P : Program) (f : FuncId) (args : List AV) (E : TypeId) (T : ET) (xs : List T.den) : Prop where
 call : callB P f = true
 spec : ∀ H W vs, Sub H W → RelVs ⟨H, noγ⟩ args vs → Calls P f vs.toArray W (RetV W H E T xs)
def RetQV (P : Program) (fn : Func) (E : TypeId) (T : ET) (xs : List T.den) : Post := fun F e a W => (∀ b, ¬ F.own b) → bodyPost P fn (RetV F.w0 F.H0 E T xs) e a W
section
variable {P : Program} {tt : TT} {n : Nat} {st : St}
theorem at_retV (htt : ttB P tt = true) {fn : Func} {t id : Nat} {E : TypeId} {T : ET} {xs : List T.den} (hl : lookA t st.sl = some (.c (.X id))) (hm : lookA id st.mem = some (.vec E T xs)) (hrs : fn.results = #[.tmp t] := by rfl) : AtQ n .ret st (RetQV P fn E T xs) := by
 intro F hF g W a h hown
 obtain ⟨u, hu, hrel⟩ := run_results (rs := [.tmp t]) (v := .c (.X id)) htt h hrs (by simp [resAll, resOne, hl])
 have hrep := h.blks id (.vec E T xs) (by simp [St.kn, hm])
 have hux : u = g.γ id := hrel
 refine ⟨h.defers.trans hF.ds, u, hu, u, g.H, rfl, ?_, h.le, fun b o hb => h.fresh b o hb (hown b), h.sub, ⟨h.below.os, h.below.tape, h.below.output, h.below.size, fun k hk => h.below.block k hk (hown k)⟩⟩
 rcases hrep with ⟨e1, e2⟩ | ⟨b, cap, vs, e1, e2, e3, e4, e5, e6, e7, e8⟩
 ·exact .inl ⟨by rw [hux]; exact e1, e2⟩
 ·refine .inr ⟨b, cap, vs, by rw [hux]; exact e1, e2, e3, e4, e5, e6, ?_, e8⟩
  rcases e7 with e7 | e7
  ·exact e7
  ·exact (hown b e7).elim
theorem fv_intro {f : FuncId} {fn : Func} {c : Code} {args : List AV} {E : TypeId} {T : ET} {xs : List T.den} (hf : P.funcs[f]? = some fn) (hb : fn.body = some c) (hN : fn.ntmps = n) (hle : Nat.ble args.length n = true) (hma : midsVs args = []) (hname : (fn.name != "runtime.NumGoroutine") = true)
  (h : TR P n c ⟨argSl 0 args, [], 0, []⟩ (RetQV P fn E T xs)) : FnV P f args E T xs := by
 refine ⟨by simp [callB, hf, hb, hname], ?_⟩
 intro H W vs hsub hrel
 refine calls_of_wp hf hb ?_
 have hlen := relVs_length hrel
 have hle := Nat.le_of_ble_eq_true hle
 refine wp_mono (h { w0 := W, H0 := H, n := n } ⟨rfl, Nat.zero_le _, rfl, rfl⟩ ⟨H, noγ⟩ W _ ⟨?_, rfl, ?_, ?_, ?_, ?_, ?_, hsub, ⟨rfl, rfl, rfl, Nat.le_refl _, fun _ _ _ => rfl⟩, FLe.refl _, fun _ _ _ _ => rfl, fun _ h => absurd h (Nat.not_lt_zero _)⟩) (fun e a W' hq => hq (fun _ h => h))
 ·simp [hN]; omega
 ·intro t v ht
  simp only [St.kn, Option.map_eq_some_iff] at ht
  obtain ⟨x, hx, he⟩ := ht
  cases he
  obtain ⟨_, u, hu, hr, _⟩ := argSl_look args vs 0 hrel t v hx
  have hu' : vs[t]? = some u := by simpa using hu
  have hlt : t < vs.length := (List.getElem?_eq_some_iff.1 hu').1
  have : (vs.toArray ++ Array.replicate (fn.ntmps - vs.toArray.size) undef).getD t undef = u := by
   rw [Array.getD_eq_getD_getElem?, Array.getElem?_append_left (by simpa using hlt)]
   simp [hu']
  rw [this]
  exact hr
 ·intro id b e; simp [St.kn, lookA] at e
 ·intro id id' b b' k e; simp [St.kn, lookA] at e
 ·intro k x e id hid
  cases k with
  | m j => simp [St.kn, lookA] at e
  | s t =>
   simp only [St.kn, Option.map_eq_some_iff] at e
   obtain ⟨y, hy, he⟩ := e
   subst he
   obtain ⟨_, u, _, _, h6⟩ := argSl_look args vs 0 hrel t y hy
   have := h6 id hid
   rw [hma] at this
   cases this
 ·intro id x e; simp [St.kn, lookA] at e
theorem callV_ok {n new : Nat} {ops : Array Oper} {i : Nat} {o : Oper} (ho : ops[i]? = some o) (hg : o.guard = none) {d : Nat} (hd : o.dst = some d) (hdn : d < n) {f : FuncId} {args : Array Operand} {tys : Array TypeId} (hop : o.op = .call ⟨.value (.func f), args, tys⟩)
  {st : St} {vs : List AV} {E : TypeId} {T : ET} {xs : List T.den} (hv : evs st args.toList = some vs) (hm : midsVs vs = []) (hf : FnV P f vs E T xs) : StepOk P n ops i st ((st.pm new (.vec E T xs)).put d (.c (.X new))) new (okeys args.toList, [.s d, .m new]) := by
 refine ⟨args.toList.flatMap (opd st), [(.s d, some (.v (.c (.X new)))), (.m new, some (.b (.vec E T xs)))], ?_, ?_, kn_put_pm st d new _ _, okeys_opd st _, fun k hk => by simpa [keysOf] using hk⟩
 ·intro F hFn Q known σ g W a K hnew hsem hrd hK
  have hargs := (evs_rel hsem st _ _ hv hrd).noid (γ := noγ) hm
  have hc := hf.spec g.H W _ hsem.sub hargs
  unfold wpOp
  simp only [ho, Region.wanted, hg, if_true]
  refine .inl ?_
  unfold Oper.wp
  have hex : (execOp a.eval o).run P W = .ok (.enter f (args.map a.eval)) W := by
   have hcb := hf.call
   unfold callB at hcb
   rw [execOp, hop]
   cases hfn : P.funcs[f]? with
   | none => rw [hfn] at hcb; simp at hcb
   | some fn =>
    rw [hfn] at hcb
    simp only [Bool.and_eq_true, bne_iff_ne, ne_eq] at hcb
    have h2 : fn.body ≠ none := by
     intro hb
     rw [hb] at hcb
     simp at hcb
    simp [resolve, Act.eval, Deferred.ofValue, invoke, callFunc, hfn, hcb.1, h2]
  rw [hex]
  simp only [Oper.upon]
  have harr : (args.map a.eval) = (args.toList.map a.eval).toArray := by apply Array.ext'; simp
  rw [harr]
  refine hc.mono ?_
  rintro e W' ⟨v, H', rfl, hrep, hle, hfr, hsub, hbl⟩
  simp only [hd]
  have hsz : d < a.tmps.size := by rw [hsem.size, hFn]; exact hdn
  let g' : Gh := ⟨H', fun id => if id = new then v else g.γ id⟩
  have hGle : GLe known g g' := ⟨hle, fun id hid => by
   have : id ≠ new := fun e => hnew (e ▸ hid)
   simp [g', this]⟩
  refine hK g' W' _ (hsem.step (chg := fun _ => False) (g' := g') ⟨hGle, hfr, hsub, hbl.size, fun k hk _ => hbl.block k hk, hbl.os, hbl.tape, hbl.output⟩ _ new hnew (by simp [Act.put]) hsem.defers ?_ (fun _ h => h.elim) ?_ ?_ ?_ ?_)
  ·intro t ht
   have hne : d ≠ t := by intro e; subst e; simp [says] at ht
   simp [Act.put, Array.getElem?_setIfInBounds_ne hne]
  ·intro t u ht
   simp only [says] at ht
   split at ht
   ·rename_i e
    simp only [Key.s.injEq] at e
    simp only [Option.some.injEq, Info.v.injEq] at ht
    subst e; subst ht
    simp [Act.put, hsz, RelV, RelC, g']
   ·split at ht
    ·simp at ht
    ·simp at ht
  ·intro id b ht
   simp only [says, reduceCtorEq, if_false] at ht
   split at ht
   ·rename_i e
    simp only [Key.m.injEq] at e
    simp only [Option.some.injEq, Info.b.injEq] at ht
    subst e; subst ht
    have hs0 := hsem.below.size
    rcases hrep with ⟨e1, e2⟩ | ⟨b, cap, ws, e1, e2, e3, e4, e5, e6, e7, e8⟩
    ·refine ⟨.inl ⟨by simpa [g'] using e1, e2⟩, .inr ⟨rfl, fun k hk => ?_⟩⟩
     have e1 : v = .slice none 0 0 := e1
     simp [g', e1, blk] at hk
    ·have e1 : v = .slice (some ⟨b, 0, none⟩) xs.length cap := e1
     have e7 : W.heap.size ≤ b := e7
     refine ⟨.inr ⟨b, cap, ws, by simpa [g'] using e1, e2, e3, e4, e5, e6, .inl (by omega), e8⟩, .inr ⟨rfl, fun k hk => ?_⟩⟩
     simp [g', e1, blk] at hk
     exact .inl (by omega)
   ·simp at ht
  ·intro k y ht
   simp only [says] at ht
   split at ht
   ·simp only [Option.some.injEq] at ht
    subst ht
    intro id hid
    simp [Info.mids, AV.mids, C.mids] at hid
    exact .inr hid
   ·split at ht
    ·simp only [Option.some.injEq] at ht
     subst ht
     intro id hid
     simp [Info.mids, Blk.mids] at hid
    ·simp at ht
  ·intro id y ht
   simp only [says, reduceCtorEq, if_false] at ht
   split at ht
   ·rename_i e
    simp only [Key.m.injEq] at e
    exact .inr e.symm
   ·simp at ht
 ·intro kx hkx
  obtain ⟨x, _, h⟩ := List.mem_flatMap.1 hkx
  exact opd_kn st x kx h
theorem rg_callV {n : Nat} {ops : Array Oper} {draw : Bool} {nx i : Nat} {d f : Nat} {args : Array Operand} {tys : Array TypeId} {ty : TypeId} {pos : String} {aft : Array Edge} {os : List Oper} {sl : List (Nat × AV)} {mem : List (Nat × Blk)} {n0 : Nat} {gd : List (Nat × Bool)} {ks : List Ks} {Q : St → Prop} {vs : List AV} {E : TypeId} {T : ET} {xs : List T.den}
  (hv : evs ⟨sl, mem, n0, gd⟩ args.toList = some vs) (hf : FnV P f vs E T xs) (h : RG P n ops draw nx (i + 1) os ⟨(d, .c (.X (1000000 * nx + 1000 * i))) :: sl, (1000000 * nx + 1000 * i, .vec E T xs) :: mem, n0, gd⟩ (addK draw ks (okeys args.toList, [.s d, .m (1000000 * nx + 1000 * i)])) Q) (hm : midsVs vs = [] := by rfl) (hdn : Nat.blt d n = true := by rfl) :
  RG P n ops draw nx i (⟨some d, .call ⟨.value (.func f), args, tys⟩, ty, pos, aft, none⟩ :: os) ⟨sl, mem, n0, gd⟩ ks Q :=
 rg_ok (fun ho => callV_ok ho rfl rfl (Nat.le_of_ble_eq_true hdn) rfl hv hm hf) (rg_addK h)
end
end Go.El

/- Short rules: an operation that only the wider evaluation covers. Own work; no condition. -/
namespace Go.El
open Go Go.RowKit Go.Proofs
section
variable {P : Program} {tt : TT}
theorem evalM_ok (htt : ttB P tt = true) {n new : Nat} {ops : Array Oper} {i : Nat} {o : Oper} (ho : ops[i]? = some o) (hg : o.guard = none) {d : Nat} (hd : o.dst = some d) (hdn : d < n) {st : St} {x : AV} {p : Pr} (he : evalM tt st o.op = some (x, p)) (hp : p) : StepOk P n ops i st (st.put d x) new (okeys o.op.operands.toList, [.s d]) := by
 refine ⟨rdV st o.op, [(.s d, some (.v x))], evalM_sound htt ho hg hd hdn he hp new, ?_, kn_put st d x, okeys_opd st _, fun k hk => by simpa [keysOf] using hk⟩
 intro kx hkx
 obtain ⟨x, _, h⟩ := List.mem_flatMap.1 hkx
 exact opd_kn st x kx h
theorem rg_evalM {n : Nat} {ops : Array Oper} {draw : Bool} {nx i : Nat} {d : Nat} {op : Op} {ty : TypeId} {pos : String} {aft : Array Edge} {os : List Oper} {sl : List (Nat × AV)} {mem : List (Nat × Blk)} {n0 : Nat} {gd : List (Nat × Bool)} {ks : List Ks} {Q : St → Prop} (htt : ttB P tt = true) {x : AV} {p : Pr} (he : evalM tt ⟨sl, mem, n0, gd⟩ op = some (x, p)) (hp : p)
  (h : RG P n ops draw nx (i + 1) os ⟨(d, x) :: sl, mem, n0, gd⟩ (addK draw ks (okeys op.operands.toList, [.s d])) Q) (hdn : Nat.blt d n = true := by rfl) :
  RG P n ops draw nx i (⟨some d, op, ty, pos, aft, none⟩ :: os) ⟨sl, mem, n0, gd⟩ ks Q :=
 rg_ok (fun ho => evalM_ok htt ho rfl rfl (Nat.le_of_ble_eq_true hdn) he hp) (rg_addK h)
end
section
variable {n : Nat} {Q : Post} {sl sl' : List (Nat × AV)} {mem mem' : List (Nat × Blk)} {nx : Nat} {gd gd' : List (Nat × Bool)} {ops : Array Oper} {draw : Bool} {p : Pr} {ks ks' : List Ks} {i i' n0 n0' : Nat} {os os' : List Oper} {d : Nat} {ty : TypeId} {pos : String} {aft : Array Edge} {R : St → Prop}
theorem rx {op : Op} {x : AV} {pm : Pr} (h : runs TTab n nx draw ops.toList os i ⟨sl, mem, n0, gd⟩ .t ks = (⟨some d, op, ty, pos, aft, none⟩ :: os', i', ⟨sl', mem', n0', gd'⟩, p, ks')) (he : evalM TTab ⟨sl', mem', n0', gd'⟩ op = some (x, pm)) (hpm : pm)
  (hk : RG Tryz.prog n ops draw nx (i' + 1) os' ⟨(d, x) :: sl', mem', n0', gd'⟩ (addK draw ks' (okeys op.operands.toList, [.s d])) R)
  (hp : p := by first | trivial | (simp only [Pr.an, Pr.h, num, i64r, true_and, and_true]; first | done | omega) | (simp [Pr.an, Pr.h, num, i64r]; done) | (simp [Pr.an, Pr.h, num, i64r]; omega)) (hdn : Nat.blt d n = true := by rfl) : RG Tryz.prog n ops draw nx i os ⟨sl, mem, n0, gd⟩ ks R :=
 rg_run TT_ok h hp (rg_evalM TT_ok he hpm hk hdn)
theorem rcv {f : FuncId} {args : Array Operand} {tys : Array TypeId} {vs : List AV} {E : TypeId} {T : ET} {xs : List T.den} (h : runs TTab n nx draw ops.toList os i ⟨sl, mem, n0, gd⟩ .t ks = (⟨some d, .call ⟨.value (.func f), args, tys⟩, ty, pos, aft, none⟩ :: os', i', ⟨sl', mem', n0', gd'⟩, p, ks')) (hv : evs ⟨sl', mem', n0', gd'⟩ args.toList = some vs) (hf : FnV Tryz.prog f vs E T xs)
  (hk : RG Tryz.prog n ops draw nx (i' + 1) os' ⟨(d, .c (.X (1000000 * nx + 1000 * i'))) :: sl', (1000000 * nx + 1000 * i', .vec E T xs) :: mem', n0', gd'⟩ (addK draw ks' (okeys args.toList, [.s d, .m (1000000 * nx + 1000 * i')])) R)
  (hp : p := by first | trivial | (simp only [Pr.an, Pr.h, num, i64r, true_and, and_true]; first | done | omega) | (simp [Pr.an, Pr.h, num, i64r]; done) | (simp [Pr.an, Pr.h, num, i64r]; omega)) (hm : midsVs vs = [] := by rfl) (hdn : Nat.blt d n = true := by rfl) : RG Tryz.prog n ops draw nx i os ⟨sl, mem, n0, gd⟩ ks R :=
 rg_run TT_ok h hp (rg_callV hv hf hk hm hdn)
end
end Go.El

/- The engine, part 39: the id of a vector is renamed (for loops that append). Own work; no condition. -/
namespace Go.El
open Go Go.RowKit
def renA (i j : Nat) : AV → AV
 | .c (.X k) => if k = j then .c (.X i) else .c (.X k)
 | v => v
def renS (i j : Nat) : List (Nat × AV) → List (Nat × AV)
 | [] => []
 | (t, v) :: r => (t, renA i j v) :: renS i j r
def renM (i j : Nat) : List (Nat × Blk) → List (Nat × Blk)
 | [] => []
 | (k, b) :: r => (if k = j then i else k, b) :: renM i j r
def okA2 (i j : Nat) : AV → Bool
 | .c (.X k) => !(k == i)
 | v => v.mids.all fun k => !(k == i) && !(k == j)
def okS (i j : Nat) : List (Nat × AV) → Bool
 | [] => true
 | (_, v) :: r => okA2 i j v && okS i j r
def okM (i j : Nat) : List (Nat × Blk) → Bool
 | [] => true
 | (k, b) :: r => !(k == i) && (b.mids.all fun k => !(k == i) && !(k == j)) && okM i j r
theorem look_renS (i j t : Nat) : ∀ l : List (Nat × AV), lookA t (renS i j l) = (lookA t l).map (renA i j)
 | [] => rfl
 | (k, v) :: r => by
  simp only [renS, lookA, look_renS i j t r]
  split <;> rfl
theorem okS_get {i j t : Nat} {v : AV} : ∀ {l : List (Nat × AV)}, okS i j l = true → lookA t l = some v → okA2 i j v = true
 | [], _, h => by simp [lookA] at h
 | (k, x) :: r, h, hl => by
  simp only [okS, Bool.and_eq_true] at h
  simp only [lookA] at hl
  split at hl
  ·cases hl; exact h.1
  ·exact okS_get h.2 hl
theorem okM_get {i j t : Nat} {b : Blk} : ∀ {l : List (Nat × Blk)}, okM i j l = true → lookA t l = some b → t ≠ i ∧ ∀ k ∈ b.mids, k ≠ i ∧ k ≠ j
 | [], _, h => by simp [lookA] at h
 | (k, x) :: r, h, hl => by
  simp only [okM, Bool.and_eq_true, List.all_eq_true] at h
  simp only [lookA] at hl
  split at hl
  ·rename_i e
   cases hl
   subst e
   exact ⟨by simpa using h.1.1, fun k hk => by simpa using h.1.2 k hk⟩
  ·exact okM_get h.2 hl
theorem look_renM {i j : Nat} (t : Nat) {b : Blk} : ∀ {l : List (Nat × Blk)}, okM i j l = true → lookA t (renM i j l) = some b → (t = i ∧ lookA j l = some b) ∨ (t ≠ i ∧ t ≠ j ∧ lookA t l = some b)
 | [], _, h => by simp [renM, lookA] at h
 | (k, x) :: r, h, hl => by
  simp only [okM, Bool.and_eq_true] at h
  have hki : k ≠ i := by simpa using h.1.1
  simp only [renM, lookA] at hl
  by_cases hkj : k = j
  ·rw [if_pos hkj] at hl
   subst hkj
   split at hl
   ·rename_i e; cases hl; exact .inl ⟨e.symm, by simp [lookA]⟩
   ·rename_i hne
    rcases look_renM t h.2 hl with ⟨rfl, _⟩ | ⟨h1, h2, h3⟩
    ·exact absurd rfl hne
    ·exact .inr ⟨h1, h2, by simp only [lookA]; rw [if_neg (fun (e : k = t) => h2 e.symm)]; exact h3⟩
  ·rw [if_neg hkj] at hl
   split at hl
   ·rename_i e; cases hl; subst e; exact .inr ⟨hki, hkj, by simp [lookA]⟩
   ·rename_i hne
    rcases look_renM t h.2 hl with ⟨rfl, h2⟩ | ⟨h1, h2, h3⟩
    ·exact .inl ⟨rfl, by simp only [lookA, if_neg hkj]; exact h2⟩
    ·exact .inr ⟨h1, h2, by simp only [lookA, if_neg hne]; exact h3⟩
theorem wk_ren (i j : Nat) {sl : List (Nat × AV)} {mem : List (Nat × Blk)} {nx : Nat} {gd : List (Nat × Bool)} (hi : Nat.blt i (1000000 * nx) = true) (hs : okS i j sl = true) (hm : okM i j mem = true) (hi0 : Nat.ble 1 i = true := by rfl) : Wk ⟨sl, mem, nx, gd⟩ ⟨renS i j sl, renM i j mem, nx, gd⟩ := by
 intro F hk0 g W a h
 have hi : i < 1000000 * nx := by simpa [Nat.blt_eq] using hi
 let g' : Gh := ⟨g.H, fun id => if id = i then g.γ j else g.γ id⟩
 have hle : GLe (fun id => id ≠ i) g g' := ⟨FLe.refl _, fun id hid => if_neg hid⟩
 have hgi : g'.γ i = g.γ j := if_pos rfl
 have hgn : ∀ id, id ≠ i → g'.γ id = g.γ id := fun id hid => if_neg hid
 have hS : ∀ t v', St.kn ⟨renS i j sl, renM i j mem, nx, gd⟩ (.s t) = some (.v v') → ∃ v, lookA t sl = some v ∧ v' = renA i j v := by
  intro t v' e
  simp only [St.kn, look_renS, Option.map_map, Option.map_eq_some_iff] at e
  obtain ⟨v, hv, he⟩ := e
  cases he
  exact ⟨v, hv, rfl⟩
 have hM : ∀ t b, St.kn ⟨renS i j sl, renM i j mem, nx, gd⟩ (.m t) = some (.b b) → (t = i ∧ lookA j mem = some b) ∨ (t ≠ i ∧ t ≠ j ∧ lookA t mem = some b) := by
  intro t b e
  simp only [St.kn, Option.map_eq_some_iff] at e
  obtain ⟨v, hv, he⟩ := e
  cases he
  exact look_renM t hm hv
 have keepB : ∀ t u b, lookA t mem = some b → RepB F.N g W t b → g'.γ u = g.γ t → RepB F.N g' W u b := by
  intro t u b hb hr hγ
  have hmid := (okM_get hm hb).2
  cases b with
  | box E bz cs =>
   obtain ⟨k, vs, rest, e1, e2, e3, e4, e5, e6⟩ := hr
   exact ⟨k, vs, rest, by rw [hγ]; exact e1, e2, RelL.mono hle (fun id hid => (hmid id hid).1) e3, e4, e5, by rw [hγ]; exact e6⟩
  | vec E T ys =>
   rcases hr with ⟨e1, e2⟩ | ⟨k, cap, vs, e1, e2⟩
   ·exact .inl ⟨by rw [hγ]; exact e1, e2⟩
   ·exact .inr ⟨k, cap, vs, by rw [hγ]; exact e1, e2⟩
  | clo f first caps =>
   obtain ⟨us, ws, e1, e2, e3⟩ := hr
   exact ⟨us, ws, by rw [hγ]; exact e1, RelT.mono hle (fun id hid => (hmid id (List.mem_append_left _ hid)).1) e2, RelT.mono hle (fun id hid => (hmid id (List.mem_append_right _ hid)).1) e3⟩
  | fz E cs =>
   obtain ⟨k, vs, rest, e1, e2, e3, e4, e5⟩ := hr
   exact ⟨k, vs, rest, by rw [hγ]; exact e1, e2, RelL.mono hle (fun id hid => (hmid id hid).1) e3, e4, e5⟩
 have old : ∀ t b, lookA t mem = some b → St.kn ⟨sl, mem, nx, gd⟩ (.m t) = some (.b b) := fun t b hb => by simp [St.kn, hb]
 refine ⟨g', h.size, h.defers, ?_, ?_, ?_, ?_, ?_, h.sub, h.below, h.le, h.fresh, fun id hid => ⟨(h.kfix id hid).1, by have := Nat.le_of_ble_eq_true hi0; rw [hgn id (by omega)]; exact (h.kfix id hid).2⟩⟩
 ·intro t v' e
  obtain ⟨v, hv, rfl⟩ := hS t v' e
  have hr := h.slots t v (by simp [St.kn, hv])
  have hok := okS_get hs hv
  unfold renA
  split
  ·rename_i k
   have hki : k ≠ i := by simpa [okA2] using hok
   have hr' : a.tmps.getD t undef = g.γ k := hr
   split
   ·rename_i e'; subst e'; show _ = g'.γ i; rw [hgi]; exact hr'
   ·show _ = g'.γ k; rw [hgn k hki]; exact hr'
  ·rename_i hne
   refine RelV.mono hle (fun id hid => ?_) hr
   unfold okA2 at hok
   split at hok
   ·rename_i k; exact absurd rfl (hne k)
   ·have := (List.all_eq_true.1 hok) id hid
    simp at this
    exact this.1
 ·intro t b e
  rcases hM t b e with ⟨rfl, hb⟩ | ⟨h1, h2, hb⟩
  ·exact keepB j t b hb (h.blks j b (old j b hb)) hgi
  ·exact keepB t t b hb (h.blks t b (old t b hb)) (hgn t h1)
 ·intro t u b b' k e e' hk hk'
  rcases hM t b e with ⟨rfl, hb⟩ | ⟨h1, h2, hb⟩ <;> rcases hM u b' e' with ⟨rfl, hb'⟩ | ⟨h1', h2', hb'⟩
  ·rfl
  ·rw [hgi] at hk; rw [hgn u h1'] at hk'
   exact absurd (h.inj j u b b' k (old _ _ hb) (old _ _ hb') hk hk') (fun e => h2' e.symm)
  ·rw [hgi] at hk'; rw [hgn t h1] at hk
   exact absurd (h.inj t j b b' k (old _ _ hb) (old _ _ hb') hk hk') h2
  ·rw [hgn t h1] at hk; rw [hgn u h1'] at hk'
   exact h.inj t u b b' k (old _ _ hb) (old _ _ hb') hk hk'
 ·intro key x e id hid
  cases key with
  | s t =>
   cases x with
   | b b' => simp only [St.kn, Option.map_eq_some_iff] at e; obtain ⟨_, _, he⟩ := e; cases he
   | v v' =>
    obtain ⟨v, hv, rfl⟩ := hS t v' e
    have hm0 := h.mids (.s t) (.v v) (by simp [St.kn, hv])
    have hid : id ∈ (renA i j v).mids := hid
    unfold renA at hid
    split at hid
    ·split at hid
     ·simp only [AV.mids, C.mids, List.mem_singleton] at hid; subst hid; exact hi
     ·exact hm0 id hid
    ·exact hm0 id hid
  | m t =>
   cases x with
   | v v' => simp only [St.kn, Option.map_eq_some_iff] at e; obtain ⟨_, _, he⟩ := e; cases he
   | b b' =>
    rcases hM t b' e with ⟨rfl, hb⟩ | ⟨h1, h2, hb⟩
    ·exact h.mids (.m j) (.b b') (old j b' hb) id hid
    ·exact h.mids (.m t) (.b b') (old t b' hb) id hid
 ·intro t x e
  cases x with
  | v v' => simp only [St.kn, Option.map_eq_some_iff] at e; obtain ⟨_, _, he⟩ := e; cases he
  | b b' =>
   rcases hM t b' e with ⟨rfl, hb⟩ | ⟨h1, h2, hb⟩
   ·exact hi
   ·exact h.mkn t _ (old t b' hb)
theorem Wk.trans {a b c : St} (h : Wk a b) (k : Wk b c) : Wk a c := fun F hk g W ac hh => by
 obtain ⟨g', h'⟩ := h F hk g W ac hh
 exact k F hk g' W ac h'
end Go.El

/- The engine, part 42: functions that write into a slice of the caller; windows on vectors; copy into vectors. Own work; no condition. -/
namespace Go.El
open Go Go.RowKit
def RetM (g : Gh) (W : World) (E : TypeId) (T : ET) (r : AV) (xs' : List T.den) (e : Ending) (W' : World) : Prop :=
 ∃ v g', e = .returned v ∧ RelV ⟨g'.H, noγ⟩ r v ∧ RepB (fun _ => True) g' W' 0 (.vec E T xs') ∧ g'.γ 0 = g.γ 0 ∧ FLe g.H g'.H ∧ (∀ b o, b < W.heap.size → ¬ blk (g.γ 0) = some b → g'.H b o = g.H b o) ∧ Sub g'.H W' ∧ BelowX (fun b => blk (g.γ 0) = some b) W W'
structure FnM (P : Program) (f : FuncId) (args : List AV) (E : TypeId) (T : ET) (xs : List T.den) (r : AV) (xs' : List T.den) : Prop where
 call : callB P f = true
 noid : r.mids = []
 spec : ∀ g W vs, Sub g.H W → RelVs g args vs → RepB (fun _ => True) g W 0 (.vec E T xs) → Calls P f vs.toArray W (RetM g W E T r xs')
def RetQM (P : Program) (fn : Func) (E : TypeId) (T : ET) (r : AV) (xs' : List T.den) : Post := fun F e a W => F.k0 = 1 → bodyPost P fn (fun e W' => ∃ v g', e = .returned v ∧ RelV ⟨g'.H, noγ⟩ r v ∧ RepB F.N g' W' 0 (.vec E T xs') ∧ g'.γ 0 = F.γ0 0 ∧ FLe F.H0 g'.H ∧ (∀ b o, b < F.w0.heap.size → ¬ F.own b → g'.H b o = F.H0 b o) ∧ Sub g'.H W' ∧ BelowX F.own F.w0 W') e a W
section
variable {P : Program} {tt : TT} {n : Nat} {st : St}
theorem at_retM (htt : ttB P tt = true) {fn : Func} {rs : List ResultVar} {r' r : AV} {E : TypeId} {T : ET} {xs' : List T.den} (hr : resAll tt st rs = some r') (hle : AVle r' r) (hm0 : lookA 0 st.mem = some (.vec E T xs')) (hrs : fn.results = rs.toArray := by rfl) (hm : r.mids = [] := by rfl) : AtQ n .ret st (RetQM P fn E T r xs') := by
 intro F hF g W a h hk
 obtain ⟨u, hu, hrel⟩ := run_results htt h hrs hr
 exact ⟨h.defers.trans hF.ds, u, hu, u, g, rfl, (hle.1 _ _ hrel).noid hm (FLe.refl _) noγ, h.blks 0 _ (by simp [St.kn, hm0]), (h.kfix 0 (by omega)).2, h.le, h.fresh, h.sub, h.below⟩
theorem at_endM (htt : ttB P tt = true) {fn : Func} {rs : List ResultVar} {r' r : AV} {E : TypeId} {T : ET} {xs' : List T.den} (hr : resAll tt st rs = some r') (hle : AVle r' r) (hm0 : lookA 0 st.mem = some (.vec E T xs')) (hrs : fn.results = rs.toArray := by rfl) (hm : r.mids = [] := by rfl) : AtQ n .normal st (RetQM P fn E T r xs') :=
 fun F hF g W a h => at_retM htt hr hle hm0 hrs hm F hF g W a h
def all0 : List Nat → Bool
 | [] => true
 | id :: r => Nat.beq id 0 && all0 r
theorem all0_ok : ∀ {l : List Nat}, all0 l = true → ∀ id ∈ l, id = 0
 | [], _, _, h => by cases h
 | j :: r, hb, id, h => by
  simp only [all0, Bool.and_eq_true] at hb
  rcases List.mem_cons.1 h with rfl | h
  ·exact Nat.eq_of_beq_eq_true hb.1
  ·exact all0_ok hb.2 id h
theorem fm_intro {f : FuncId} {fn : Func} {c : Code} {args : List AV} {E : TypeId} {T : ET} {xs xs' : List T.den} {r : AV} (hf : P.funcs[f]? = some fn) (hb : fn.body = some c) (hN : fn.ntmps = n) (hle : Nat.ble args.length n = true) (hma : all0 (midsVs args) = true) (hmr : r.mids = []) (hname : (fn.name != "runtime.NumGoroutine") = true)
  (h : TR P n c ⟨argSl 0 args, [(0, .vec E T xs)], 1, []⟩ (RetQM P fn E T r xs')) : FnM P f args E T xs r xs' := by
 refine ⟨by simp [callB, hf, hb, hname], hmr, ?_⟩
 intro g W vs hsub hrel hrep
 refine calls_of_wp hf hb ?_
 have hlen := relVs_length hrel
 have hle := Nat.le_of_ble_eq_true hle
 have hmem : ∀ id b, St.kn ⟨argSl 0 args, [(0, .vec E T xs)], 1, []⟩ (.m id) = some (.b b) → id = 0 ∧ b = .vec E T xs := by
  intro id b e
  simp only [St.kn, lookA, Option.map_eq_some_iff] at e
  obtain ⟨x, hx, he⟩ := e
  cases he
  split at hx
  ·rename_i e0; cases hx; exact ⟨e0.symm, rfl⟩
  ·cases hx
 let F : Fix := { w0 := W, H0 := g.H, n := n, own := fun b => blk (g.γ 0) = some b, k0 := 1, γ0 := g.γ }
 refine wp_mono (h F ⟨rfl, Nat.le_refl _, rfl, rfl⟩ g W _ ⟨?_, rfl, ?_, ?_, ?_, ?_, ?_, hsub, ⟨rfl, rfl, rfl, Nat.le_refl _, fun _ _ _ => rfl⟩, FLe.refl _, fun _ _ _ _ => rfl, ?_⟩) ?_
 ·simp [hN, F]; omega
 ·intro t v ht
  simp only [St.kn, Option.map_eq_some_iff] at ht
  obtain ⟨x, hx, he⟩ := ht
  cases he
  obtain ⟨_, u, hu, hr, _⟩ := argSl_look args vs 0 hrel t v hx
  have hu' : vs[t]? = some u := by simpa using hu
  have hlt : t < vs.length := (List.getElem?_eq_some_iff.1 hu').1
  have : (vs.toArray ++ Array.replicate (fn.ntmps - vs.toArray.size) undef).getD t undef = u := by
   rw [Array.getD_eq_getD_getElem?, Array.getElem?_append_left (by simpa using hlt)]
   simp [hu']
  rw [this]
  exact hr
 ·intro id b e
  obtain ⟨rfl, rfl⟩ := hmem id b e
  exact hrep.reN (fun k hk => .inr hk) rfl rfl ⟨FLe.refl _, fun _ _ => rfl⟩
 ·intro id id' b b' k e e' _ _
  rw [(hmem id b e).1, (hmem id' b' e').1]
 ·intro k x e id hid
  cases k with
  | m j =>
   cases x with
   | v y => simp only [St.kn, Option.map_eq_some_iff] at e; obtain ⟨_, _, he⟩ := e; cases he
   | b b => obtain ⟨_, rfl⟩ := hmem j b e; simp [Info.mids, Blk.mids] at hid
  | s t =>
   simp only [St.kn, Option.map_eq_some_iff] at e
   obtain ⟨y, hy, he⟩ := e
   subst he
   obtain ⟨_, u, _, _, h6⟩ := argSl_look args vs 0 hrel t y hy
   have := all0_ok hma id (h6 id hid)
   subst this
   show 0 < 1000000 * 1
   decide
 ·intro id x e
  cases x with
  | v y => simp only [St.kn, Option.map_eq_some_iff] at e; obtain ⟨_, _, he⟩ := e; cases he
  | b b => rw [(hmem id b e).1]; show 0 < 1000000 * 1; decide
 ·intro id hid
  have : id = 0 := by have : id < 1 := hid; omega
  subst this
  exact ⟨by show 0 < 1000000 * 1; decide, rfl⟩
 ·intro e a W' hq
  have hq := hq rfl
  have key : ∀ e W', (∃ v g', e = Ending.returned v ∧ RelV ⟨g'.H, noγ⟩ r v ∧ RepB F.N g' W' 0 (.vec E T xs') ∧ g'.γ 0 = F.γ0 0 ∧ FLe F.H0 g'.H ∧ (∀ b o, b < F.w0.heap.size → ¬ F.own b → g'.H b o = F.H0 b o) ∧ Sub g'.H W' ∧ BelowX F.own F.w0 W') → RetM g W E T r xs' e W' := by
   rintro e W' ⟨v, g', h1, h2, h3, h4⟩
   exact ⟨v, g', h1, h2, h3.reN (fun _ _ => trivial) rfl rfl ⟨FLe.refl _, fun _ _ => rfl⟩, h4⟩
  cases e with
  | normal => obtain ⟨h1, v, h2, h3⟩ := hq; exact ⟨h1, v, h2, key _ _ h3⟩
  | ret => obtain ⟨h1, v, h2, h3⟩ := hq; exact ⟨h1, v, h2, key _ _ h3⟩
  | panic c => obtain ⟨h1, h3⟩ := hq; exact ⟨h1, key _ _ h3⟩
  | outgrown => exact key _ _ hq
  | exit _ => exact hq
  | goto _ => exact hq
def mvC (id : Nat) : C → C
 | .P _ o => .P id o
 | .X _ => .X id
 | .Y _ n i o => .Y id n i o
 | .L _ o l c => .L id o l c
 | .W _ o l => .W id o l
 | c => c
def mvA (id : Nat) : AV → AV
 | .c x => .c (mvC id x)
 | .a cs => .a (cs.map (mvC id))
 | .t ss => .t (ss.map fun s => (s.1, s.2.map (mvC id)))
theorem mvC_rel {g : Gh} {id : Nat} : ∀ {c : C} {v : Value}, RelC g (mvC id c) v → RelC ⟨g.H, fun _ => g.γ id⟩ c v
 | .any, _, h => h
 | .B _, _, h => h
 | .I _ _, _, h => h
 | .V _, _, h => h
 | .S _ _, _, h => h
 | .P _ _, _, h => h
 | .X _, _, h => h
 | .Y _ _ _ _, _, h => h
 | .E _ _ _, _, h => h
 | .M _, _, h => h
 | .L _ _ _ (some _), _, h => h
 | .L _ _ _ none, _, h => h
 | .W _ _ _, _, h => h
theorem mvL_rel {g : Gh} {id : Nat} : ∀ {cs : List C} {vs : List Value}, RelL g (cs.map (mvC id)) vs → RelL ⟨g.H, fun _ => g.γ id⟩ cs vs
 | [], _, h => h
 | _ :: _, _, h => by
  obtain ⟨v, r, e, h1, h2⟩ := h
  exact ⟨v, r, e, mvC_rel h1, mvL_rel h2⟩
theorem mvT_rel {g : Gh} {id : Nat} : ∀ {cs : List (Bool × List C)} {vs : List Value}, RelT g (cs.map fun s => (s.1, s.2.map (mvC id))) vs → RelT ⟨g.H, fun _ => g.γ id⟩ cs vs
 | [], _, h => h
 | (b, c) :: _, _, h => by
  obtain ⟨v, r, e, h1, h2⟩ := h
  refine ⟨v, r, e, ?_, mvT_rel h2⟩
  match b, c, h1 with
  | true, c, h1 => obtain ⟨vs, e, h⟩ := h1; exact ⟨vs, e, mvL_rel h⟩
  | false, [c], h1 => exact mvC_rel h1
  | false, [], h1 => exact h1.elim
  | false, _ :: _ :: _, h1 => exact h1.elim
theorem mvA_rel {g : Gh} {id : Nat} {x : AV} {v : Value} (h : RelV g (mvA id x) v) : RelV ⟨g.H, fun _ => g.γ id⟩ x v := by
 cases x with
 | c y => exact mvC_rel h
 | a cs => obtain ⟨vs, e, h⟩ := h; exact ⟨vs, e, mvL_rel h⟩
 | t ss => obtain ⟨vs, e, h⟩ := h; exact ⟨vs, e, mvT_rel h⟩
theorem mvVs_rel {g : Gh} {id : Nat} : ∀ {xs : List AV} {vs : List Value}, RelVs g (xs.map (mvA id)) vs → RelVs ⟨g.H, fun _ => g.γ id⟩ xs vs
 | [], _, h => h
 | _ :: _, _, h => by
  obtain ⟨v, r, e, h1, h2⟩ := h
  exact ⟨v, r, e, mvA_rel h1, mvVs_rel h2⟩
theorem callM_ok {n new : Nat} {ops : Array Oper} {i : Nat} {o : Oper} (ho : ops[i]? = some o) (hg : o.guard = none) {d : Nat} (hd : o.dst = some d) (hdn : d < n) {f : FuncId} {args : Array Operand} {tys : Array TypeId} (hop : o.op = .call ⟨.value (.func f), args, tys⟩)
  {st : St} {vs : List AV} {id : Nat} {E : TypeId} {T : ET} {xs xs' : List T.den} {r : AV} (hv : evs st args.toList = some (vs.map (mvA id))) (hl : lookA id st.mem = some (.vec E T xs)) (hf : FnM P f vs E T xs r xs') : StepOk P n ops i st ((st.pm id (.vec E T xs')).put d r) new (okeys args.toList ++ mkeys [id], [.s d, .m id]) := by
 refine ⟨args.toList.flatMap (opd st) ++ mrd st [id], [(.s d, some (.v r)), (.m id, some (.b (.vec E T xs')))], ?_, ?_, kn_put_pm st d id _ _, ?_, fun k hk => by simpa [keysOf] using hk⟩
 ·intro F hFn Q known σ g W a K hnew hsem hrd hK
  have hargs := evs_rel hsem st _ _ hv (fun kx hkx => hrd kx (List.mem_append_left _ hkx))
  have hσ : σ (.m id) = some (.b (.vec E T xs)) := hrd (.m id, .b (.vec E T xs)) (by simp [mrd, hl])
  have hrep := hsem.blks id _ hσ
  have hrep0 : RepB (fun _ => True) ⟨g.H, fun _ => g.γ id⟩ W 0 (.vec E T xs) := by
   rcases hrep with ⟨e1, e2⟩ | ⟨b, cap, ws, e1, e2, e3, e4, e5, e6, e7, e8⟩
   ·exact .inl ⟨e1, e2⟩
   ·exact .inr ⟨b, cap, ws, e1, e2, e3, e4, e5, e6, trivial, e8⟩
  have hc := hf.spec ⟨g.H, fun _ => g.γ id⟩ W _ hsem.sub (mvVs_rel hargs) hrep0
  unfold wpOp
  simp only [ho, Region.wanted, hg, if_true]
  refine .inl ?_
  unfold Oper.wp
  have hex : (execOp a.eval o).run P W = .ok (.enter f (args.map a.eval)) W := by
   have hcb := hf.call
   unfold callB at hcb
   rw [execOp, hop]
   cases hfn : P.funcs[f]? with
   | none => rw [hfn] at hcb; simp at hcb
   | some fn =>
    rw [hfn] at hcb
    simp only [Bool.and_eq_true, bne_iff_ne, ne_eq] at hcb
    have h2 : fn.body ≠ none := by
     intro hb
     rw [hb] at hcb
     simp at hcb
    simp [resolve, Act.eval, Deferred.ofValue, invoke, callFunc, hfn, hcb.1, h2]
  rw [hex]
  simp only [Oper.upon]
  have harr : (args.map a.eval) = (args.toList.map a.eval).toArray := by apply Array.ext'; simp
  rw [harr]
  refine hc.mono ?_
  rintro e W' ⟨v, g', rfl, hrv, hrep', hγ', hle, hfr, hsub, hbl⟩
  simp only [hd]
  have hsz : d < a.tmps.size := by rw [hsem.size, hFn]; exact hdn
  let g2 : Gh := ⟨g'.H, g.γ⟩
  have hGle : GLe known g g2 := ⟨hle, fun _ _ => rfl⟩
  have hγ' : g'.γ 0 = g.γ id := hγ'
  have hfr' : ∀ b o, b < W.heap.size → g2.H b o = g.H b o := by
   intro b o hb
   by_cases hbb : blk (g.γ id) = some b
   ·rcases hrep with ⟨e1, _⟩ | ⟨b1, cap, ws, e1, e2, e3, e4, e5, e6, e7, e8⟩
    ·rw [e1] at hbb; simp [blk] at hbb
    ·rcases hrep' with ⟨e1', _⟩ | ⟨b2, cap', ws', e1', e2', e3', e4', e5', e6', e7', e8'⟩
     ·rw [hγ', e1] at e1'; simp at e1'
     ·have h1 : b1 = b := by rw [e1] at hbb; simpa [blk] using hbb
      have h2 : b2 = b := by rw [← hγ', e1'] at hbb; simpa [blk] using hbb
      subst h1
      rw [e8 o]
      subst h2
      exact e8' o
   ·exact hfr b o hb hbb
  refine hK g2 W' _ (hsem.step (chg := fun j => j = id) (g' := g2) ⟨hGle, hfr', hsub, hbl.size, ?_, hbl.os, hbl.tape, hbl.output⟩ _ new hnew (by simp [Act.put]) hsem.defers ?_ ?_ ?_ ?_ ?_ ?_)
  ·intro k hk hne
   exact hbl.block k hk (hne id rfl)
  ·intro t ht
   have hne : d ≠ t := by intro e; subst e; simp [says] at ht
   simp [Act.put, Array.getElem?_setIfInBounds_ne hne]
  ·intro j hj
   subst hj
   exact ⟨by simp [says], _, hσ⟩
  ·intro t u ht
   simp only [says] at ht
   split at ht
   ·rename_i e
    simp only [Key.s.injEq] at e
    simp only [Option.some.injEq, Info.v.injEq] at ht
    subst e; subst ht
    have := hrv.noid hf.noid (FLe.refl _) g.γ
    simpa [Act.put, hsz, g2] using this
   ·split at ht
    ·simp at ht
    ·simp at ht
  ·intro j b ht
   simp only [says, reduceCtorEq, if_false] at ht
   split at ht
   ·rename_i e
    simp only [Key.m.injEq] at e
    simp only [Option.some.injEq, Info.b.injEq] at ht
    subst e; subst ht
    refine ⟨?_, .inl ⟨hsem.mkn _ _ hσ, _, hσ⟩⟩
    rcases hrep' with ⟨e1', e2'⟩ | ⟨b2, cap', ws', e1', e2', e3', e4', e5', e6', e7', e8'⟩
    ·exact .inl ⟨by show g.γ id = _; rw [← hγ', e1'], e2'⟩
    ·refine .inr ⟨b2, cap', ws', by show g.γ id = _; rw [← hγ', e1'], e2', e3', e4', e5', e6', ?_, e8'⟩
     exact (hrep.block (k := b2) (by rw [← hγ', e1']; rfl)).1
   ·simp at ht
  ·intro k y ht
   simp only [says] at ht
   split at ht
   ·simp only [Option.some.injEq] at ht
    subst ht
    intro id hid
    simp only [Info.mids] at hid
    rw [hf.noid] at hid
    cases hid
   ·split at ht
    ·simp only [Option.some.injEq] at ht
     subst ht
     intro id hid
     simp [Info.mids, Blk.mids] at hid
    ·simp at ht
  ·intro j y ht
   simp only [says, reduceCtorEq, if_false] at ht
   split at ht
   ·rename_i e
    simp only [Key.m.injEq] at e
    exact .inl (e ▸ hsem.mkn _ _ hσ)
   ·simp at ht
 ·intro kx hkx
  rcases List.mem_append.1 hkx with hkx | hkx
  ·obtain ⟨x, _, h⟩ := List.mem_flatMap.1 hkx
   exact opd_kn st x kx h
  ·exact mrd_kn st [id] kx hkx
 ·intro k hk
  simp only [rkeysOf, List.map_append, List.mem_append] at hk
  rcases hk with h | h
  ·exact List.mem_append_left _ (okeys_opd st _ k h)
  ·exact List.mem_append_right _ (mkeys_mrd st [id] k h)
theorem rg_callM {n : Nat} {ops : Array Oper} {draw : Bool} {nx i : Nat} {d f : Nat} {args : Array Operand} {tys : Array TypeId} {ty : TypeId} {pos : String} {aft : Array Edge} {os : List Oper} {sl : List (Nat × AV)} {mem : List (Nat × Blk)} {n0 : Nat} {gd : List (Nat × Bool)} {ks : List Ks} {Q : St → Prop} {vs : List AV} {id : Nat} {E : TypeId} {T : ET} {xs xs' : List T.den} {r : AV}
  (hv : evs ⟨sl, mem, n0, gd⟩ args.toList = some (vs.map (mvA id))) (hl : lookA id mem = some (.vec E T xs)) (hf : FnM P f vs E T xs r xs') (h : RG P n ops draw nx (i + 1) os ⟨(d, r) :: sl, (id, .vec E T xs') :: mem, n0, gd⟩ (addK draw ks (okeys args.toList ++ mkeys [id], [.s d, .m id])) Q) (hdn : Nat.blt d n = true := by rfl) :
  RG P n ops draw nx i (⟨some d, .call ⟨.value (.func f), args, tys⟩, ty, pos, aft, none⟩ :: os) ⟨sl, mem, n0, gd⟩ ks Q :=
 rg_ok (fun ho => callM_ok ho rfl rfl (Nat.le_of_ble_eq_true hdn) rfl hv hl hf) (rg_addK h)
theorem relL_chunks2 {g : Gh} (T : ET) : ∀ (xs : List T.den) (vs : List Value), RelL g (xs.flatMap (av T)) vs → vs.length = xs.length * T.n ∧ ∀ i (h : i < xs.length), RelD g.H T xs[i] ((vs.drop (i * T.n)).take T.n)
 | [], vs, h => by
  have h : vs = [] := h
  subst h
  exact ⟨by simp, fun i h => by simp at h⟩
 | x :: xs, vs, h => by
  rw [List.flatMap_cons] at h
  obtain ⟨a, b, rfl, h1, h2⟩ := relL_append_split h
  have hd := av_relD T x a h1
  have ha := RelD.length T _ _ hd
  obtain ⟨hl, hc⟩ := relL_chunks2 T xs b h2
  refine ⟨by simp [ha, hl, Nat.add_mul]; omega, fun i hi => ?_⟩
  cases i with
  | zero =>
   simp only [Nat.zero_mul, List.drop_zero, List.getElem_cons_zero]
   rw [← ha, List.take_left']
   ·exact hd
   ·rfl
  | succ i =>
   simp only [List.getElem_cons_succ]
   have := hc i (by simpa using hi)
   rw [show (i + 1) * T.n = a.length + i * T.n by rw [Nat.add_mul, ha]; omega, ← List.drop_drop, List.drop_left']
   ·exact this
   ·rfl
theorem copyV_ok (htt : ttB P tt = true) {n new : Nat} {ops : Array Oper} {i : Nat} {o : Oper} (ho : ops[i]? = some o) (hg : o.guard = none) {d : Nat} (hd : o.dst = some d) (hdn : d < n) {x y : Operand} {t1 t2 : TypeId} (hop : o.op = .call ⟨.builtin .copy, #[x, y], #[t1, t2]⟩)
  {st : St} {id : Nat} {E E1 : TypeId} {T : ET} {xs ys : List T.den} {ei : TI} (hx : st.ev x = some (.c (.X id))) (hl : lookA id st.mem = some (.vec E T xs)) (hy : st.ev y = some (.c (.S T ys))) (hT : appI tt t1 t2 = some (E1, ei)) (hTn : ei.size = T.n) (hle : ys.length ≤ xs.length) (hne : xs ≠ []) :
  StepOk P n ops i st ((st.pm id (.vec E T (ys ++ xs.drop ys.length))).put d (.c (.I .i64 ys.length))) new (okeys [x, y] ++ mkeys [id], [.s d, .m id]) := by
 refine ⟨(opd st x ++ opd st y) ++ mrd st [id], [(.s d, some (.v (.c (.I .i64 ys.length)))), (.m id, some (.b (.vec E T (ys ++ xs.drop ys.length))))], ?_, ?_, kn_put_pm st d id _ _, ?_, fun k hk => by simpa [keysOf] using hk⟩
 ·intro F hFn Q known σ g W a K hnew hsem hrd hK
  have hT := appI_ok htt hT
  rw [hTn] at hT
  have hrx : a.eval x = g.γ id := ev_rel hsem st x _ hx (fun kx hkx => hrd kx (by simp [hkx]))
  have hry := ev_rel hsem st y _ hy (fun kx hkx => hrd kx (by simp [hkx]))
  have hσ : σ (.m id) = some (.b (.vec E T xs)) := hrd (.m id, .b (.vec E T xs)) (by simp [mrd, hl])
  obtain ⟨e2, hu2⟩ := hT.u2
  obtain ⟨inf, z, hinf, hisz, hiby, hzz, hzs⟩ := hT.info
  obtain ⟨us, hsrc, hru, hmu, huo⟩ := srcC_sound (P := P) (st := st) (sz := T.n) (y := .c (.S T ys)) (m := ys.length) (cs := ys.flatMap (av T)) (ids := []) hsem (by simp [srcC]) hry (fun id hid => by cases hid) hu2 (List.all_eq_true.2 (flat_av_ok ys))
  obtain ⟨hul, huc⟩ := relL_chunks2 T ys us hru
  rcases hsem.blks id _ hσ with ⟨_, h0⟩ | ⟨b, cap, vs, hγ, hh, hvl, hcap, hlen, hr, hN, hz⟩
  ·exact absurd h0 hne
  have hfit : us.length ≤ vs.length := by rw [hul, hvl]; exact Nat.mul_le_mul_right _ (by omega)
  have hst := run_storeCells (P := P) b us W vs 0 0 hh (by omega) huo
  simp only [Nat.add_zero] at hst
  have hrun : (Builtin.copy_ #[t1, t2] o.type #[a.eval x, a.eval y]).run P W = .ok (.int .i64 ys.length) (setBlk W b (over vs us 0) E) := by
   rw [hrx, hγ]
   have hmin : Nat.min ys.length xs.length = ys.length := Nat.min_eq_left hle
   have hc := hsrc.cells
   simp [Builtin.copy_, run_underlying hT.u1, sizeOf, typeInfo, hinf, hsrc.len, hmin, hisz, hc, hst, goInt, Sem.run, pure]
  have hex : (execOp a.eval o).run P W = .ok (.value (.int .i64 ys.length)) (setBlk W b (over vs us 0) E) := by
   refine run_callB hop (fun cs => ?_)
   have e : (#[x, y] : Array Operand).map a.eval = #[a.eval x, a.eval y] := by simp
   rw [e]
   simp only [Go.builtin, Sem.run_bind, hrun, Result.andThen]
   rfl
  unfold wpOp
  simp only [ho, Region.wanted, hg, if_true]
  refine .inl ?_
  unfold Oper.wp
  rw [hex]
  simp only [Oper.upon, hd]
  have hsz : d < a.tmps.size := by rw [hsem.size, hFn]; exact hdn
  have hb : b < W.heap.size := (Array.getElem?_eq_some_iff.1 hh).1
  have hxl : (ys ++ xs.drop ys.length).length = xs.length := by simp; omega
  refine hK g _ _ (hsem.step (chg := fun j => j = id) (g' := g) ⟨⟨FLe.refl _, fun _ _ => rfl⟩, fun _ _ _ => rfl, Sub_setBlk hsem.sub hz, by simp [setBlk], ?_, rfl, rfl, rfl⟩ _ new hnew (by simp [Act.put]) hsem.defers ?_ ?_ ?_ ?_ ?_ ?_)
  ·intro k' hk' hne
   have : b ≠ k' := fun e => hne id rfl (by rw [hγ, e]; rfl)
   exact setBlk_ne this
  ·intro t ht
   have hne : d ≠ t := by intro e; subst e; simp [says] at ht
   simp [Act.put, Array.getElem?_setIfInBounds_ne hne]
  ·intro j hj
   subst hj
   exact ⟨by simp [says], _, hσ⟩
  ·intro t u ht
   simp only [says] at ht
   split at ht
   ·rename_i e
    simp only [Key.s.injEq] at e
    simp only [Option.some.injEq, Info.v.injEq] at ht
    subst e; subst ht
    simp [Act.put, hsz, RelV, RelC]
   ·split at ht
    ·simp at ht
    ·simp at ht
  ·intro j bk hj
   simp only [says, reduceCtorEq, if_false] at hj
   split at hj
   ·rename_i e'
    simp only [Key.m.injEq] at e'
    subst e'
    simp only [Option.some.injEq, Info.b.injEq] at hj
    subst hj
    refine ⟨.inr ⟨b, cap, over vs us 0, by rw [hxl]; exact hγ, setBlk_at hb, ?_, by rw [hxl]; exact hcap, by rw [hxl]; exact hlen, fun j hj => ?_, hN, hz⟩, .inl ⟨hsem.mkn _ _ hσ, _, hσ⟩⟩
    ·rw [over_length _ _ _ (by omega)]; exact hvl
    ·have hov : over vs us 0 = us ++ vs.drop us.length := by simp [over]
     rw [hov]
     by_cases hj2 : j < ys.length
     ·rw [List.getElem_append_left hj2]
      have h1 := huc j hj2
      have h2 : j * T.n + T.n ≤ us.length := by rw [hul, show j * T.n + T.n = (j + 1) * T.n by rw [Nat.add_mul]; omega]; exact Nat.mul_le_mul_right _ (by omega)
      rw [List.drop_append_of_le_length (by omega), List.take_append_of_le_length (by simp; omega)]
      exact h1
     ·have hj3 : j < xs.length := by omega
      rw [List.getElem_append_right (by omega), List.getElem_drop]
      have h1 := hr j hj3
      have e1 : ys.length + (j - ys.length) = j := by omega
      have h3 : us.length ≤ j * T.n := by rw [hul]; exact Nat.mul_le_mul_right _ (by omega)
      have e2 : (us ++ vs.drop us.length).drop (j * T.n) = vs.drop (j * T.n) := by
       rw [List.drop_append, List.drop_eq_nil_of_le h3, List.nil_append, List.drop_drop, show us.length + (j * T.n - us.length) = j * T.n by omega]
      rw [e2]
      simp only [e1]
      exact h1
   ·simp at hj
  ·intro k y ht
   simp only [says] at ht
   split at ht
   ·simp only [Option.some.injEq] at ht
    subst ht
    intro id hid
    simp [Info.mids, AV.mids, C.mids] at hid
   ·split at ht
    ·simp only [Option.some.injEq] at ht
     subst ht
     intro id hid
     simp [Info.mids, Blk.mids] at hid
    ·simp at ht
  ·intro j y ht
   simp only [says, reduceCtorEq, if_false] at ht
   split at ht
   ·rename_i e
    simp only [Key.m.injEq] at e
    exact .inl (e ▸ hsem.mkn _ _ hσ)
   ·simp at ht
 ·intro kx hkx
  rcases List.mem_append.1 hkx with h | h
  ·rcases List.mem_append.1 h with h | h
   ·exact opd_kn _ x kx h
   ·exact opd_kn _ y kx h
  ·exact mrd_kn _ [id] kx h
 ·intro k hk
  simp only [rkeysOf, List.map_append, List.mem_append] at hk
  rcases hk with (h | h) | h
  ·exact List.mem_append_left _ (okeys_opd st [x, y] k (by simp only [rkeysOf, List.flatMap_cons, List.map_append, List.mem_append]; exact .inl h))
  ·exact List.mem_append_left _ (okeys_opd st [x, y] k (by simp only [rkeysOf, List.flatMap_cons, List.map_append, List.mem_append]; exact .inr (.inl h)))
  ·exact List.mem_append_right _ (mkeys_mrd st [id] k h)
end
end Go.El

/- Short rules: windows, contracts in place, copy. Own work; no condition. -/
namespace Go.El
open Go Go.RowKit Go.Proofs
section
variable {n : Nat} {sl sl' : List (Nat × AV)} {mem mem' : List (Nat × Blk)} {nx : Nat} {gd gd' : List (Nat × Bool)} {ops : Array Oper} {draw : Bool} {p : Pr} {ks ks' : List Ks} {i i' n0 n0' : Nat} {os os' : List Oper} {d : Nat} {ty : TypeId} {pos : String} {aft : Array Edge} {R : St → Prop}
theorem rcm (id : Nat) {f : FuncId} {args : Array Operand} {tys : Array TypeId} {vs : List AV} {E : TypeId} {T : ET} {xs xs' : List T.den} {r : AV} (h : runs TTab n nx draw ops.toList os i ⟨sl, mem, n0, gd⟩ .t ks = (⟨some d, .call ⟨.value (.func f), args, tys⟩, ty, pos, aft, none⟩ :: os', i', ⟨sl', mem', n0', gd'⟩, p, ks')) (hf : FnM Tryz.prog f vs E T xs r xs') (hv : evs ⟨sl', mem', n0', gd'⟩ args.toList = some (vs.map (mvA id))) (hl : lookA id mem' = some (.vec E T xs))
  (hk : RG Tryz.prog n ops draw nx (i' + 1) os' ⟨(d, r) :: sl', (id, .vec E T xs') :: mem', n0', gd'⟩ (addK draw ks' (okeys args.toList ++ mkeys [id], [.s d, .m id])) R)
  (hp : p := by first | trivial | (simp only [Pr.an, Pr.h, num, i64r, true_and, and_true]; first | done | omega) | (simp [Pr.an, Pr.h, num, i64r]; done) | (simp [Pr.an, Pr.h, num, i64r]; omega)) (hdn : Nat.blt d n = true := by rfl) : RG Tryz.prog n ops draw nx i os ⟨sl, mem, n0, gd⟩ ks R :=
 rg_run TT_ok h hp (rg_callM hv hl hf hk hdn)
theorem rcp {x y : Operand} {t1 t2 : TypeId} {id : Nat} {E E1 : TypeId} {T : ET} {xs ys : List T.den} {ei : TI} (h : runs TTab n nx draw ops.toList os i ⟨sl, mem, n0, gd⟩ .t ks = (⟨some d, .call ⟨.builtin .copy, #[x, y], #[t1, t2]⟩, ty, pos, aft, none⟩ :: os', i', ⟨sl', mem', n0', gd'⟩, p, ks'))
  (hx : St.ev ⟨sl', mem', n0', gd'⟩ x = some (.c (.X id))) (hl : lookA id mem' = some (.vec E T xs)) (hy : St.ev ⟨sl', mem', n0', gd'⟩ y = some (.c (.S T ys))) (hT : appI TTab t1 t2 = some (E1, ei)) (hle : ys.length ≤ xs.length) (hne : xs ≠ [])
  (hk : RG Tryz.prog n ops draw nx (i' + 1) os' ⟨(d, .c (.I .i64 ys.length)) :: sl', (id, .vec E T (ys ++ xs.drop ys.length)) :: mem', n0', gd'⟩ (addK draw ks' (okeys [x, y] ++ mkeys [id], [.s d, .m id])) R) (hTn : ei.size = T.n := by rfl)
  (hp : p := by first | trivial | (simp only [Pr.an, Pr.h, num, i64r, true_and, and_true]; first | done | omega) | (simp [Pr.an, Pr.h, num, i64r]; done) | (simp [Pr.an, Pr.h, num, i64r]; omega)) (hdn : Nat.blt d n = true := by rfl) : RG Tryz.prog n ops draw nx i os ⟨sl, mem, n0, gd⟩ ks R :=
 rg_run TT_ok h hp (rg_ok (fun ho => copyV_ok TT_ok ho rfl rfl (Nat.le_of_ble_eq_true hdn) rfl hx hl hy hT hTn hle hne) (rg_addK hk))
end
end Go.El

/- Contracts: words without zeros at the end. Own work; no condition. -/
namespace Go.El
open Go Go.Proofs
theorem wrap_u64 (n : Int) (h0 : 0 ≤ n) (h1 : n < 18446744073709551616) : IntKind.wrap .u64 n = n := by
 simp [IntKind.wrap, IntKind.bits, IntKind.signed]; omega
end Go.El

/- Contracts: integers of the reference. Own work; no condition. -/
namespace Go.El
open Go Go.Proofs
end Go.El

/- Contracts: sums of words. Own work; no condition. -/
namespace Go.El
open Go Go.Proofs
theorem getD_set_eq (o : List Int) (i j : Nat) (w : Int) (h : i < o.length) : (o.set i w).getD j 0 = if i = j then w else o.getD j 0 := by
 simp only [List.getD_eq_getElem?_getD, List.getElem?_set]
 by_cases e : i = j
 ·subst e; simp [h]
 ·simp [e]
end Go.El

/- Contracts: differences and products of words. Own work; no condition. -/
namespace Go.El
open Go Go.Proofs
end Go.El

/- Contracts: products of words. Own work; no condition. -/
namespace Go.El
open Go Go.Proofs
end Go.El

/- Contracts: integers of the reference: Of, Sign, Neg, Cmp, Add, Mul. Own work; no condition. -/
namespace Go.El
open Go Go.Proofs
end Go.El

/- Contracts: integers of the reference: Gcd. Own work; no condition. -/
namespace Go.El
open Go Go.Proofs
end Go.El

/- Contracts: integers of the reference: division by one word. Own work; no condition. -/
namespace Go.El
open Go Go.Proofs
end Go.El

/- Contracts: integers of the reference: the guess of a digit. Own work; no condition. -/
namespace Go.El
open Go Go.Proofs
end Go.El

/- Plain: words of a given number; windows. Own work; no condition. -/
namespace Go.El
end Go.El

/- Contracts: integers of the reference: taking a multiple away in place, and adding back. Own work; no condition. -/
namespace Go.El
open Go Go.Proofs
end Go.El

/- Plain: long division. Own work; no condition. -/
namespace Go.El
end Go.El

/- Contracts: rational numbers of the reference, with small parts. Own work; no condition. -/
namespace Go.El
open Go Go.Proofs
end Go.El

/- Contracts: integers of the reference: division. Own work; no condition. -/
namespace Go.El
open Go Go.Proofs
end Go.El

/- Contracts: integers of the reference, of any size. Own work; no condition. -/
namespace Go.El
open Go Go.Proofs
end Go.El

/- Contracts: polynomials of the reference: iat, trim; the law's upoly. Own work; no condition. -/
namespace Go.El
open Go Go.Proofs
end Go.El

/- Plain law: small coefficients of a factor are not greater than the bound of the product. Own work; no condition. -/
namespace Go.El
def convS (A B : Nat → Int) (n : Nat) : Nat → Int
 | 0 => 0
 | i + 1 => convS A B n i + A i * B (n - i)
def conv (A B : Nat → Int) (n : Nat) : Int := convS A B n (n + 1)
theorem convS_zero (A B : Nat → Int) (n : Nat) : ∀ k, (∀ i, i < k → A i * B (n - i) = 0) → convS A B n k = 0
 | 0, _ => rfl
 | k + 1, h => by simp only [convS, convS_zero A B n k (fun i hi => h i (by omega)), h k (by omega)]; rfl
theorem convS_one (A B : Nat → Int) (n d : Nat) : ∀ k, d < k → (∀ i, i < k → i ≠ d → A i * B (n - i) = 0) → convS A B n k = A d * B (n - d)
 | 0, h, _ => by omega
 | k + 1, h, h2 => by
  simp only [convS]
  by_cases hk : k = d
  ·subst hk
   rw [convS_zero A B n k (fun i hi => h2 i (by omega) (by omega))]; omega
  ·rw [convS_one A B n d k (by omega) (fun i hi => h2 i (by omega)), h2 k (by omega) hk]; omega
end Go.El

/- Contracts: products of polynomials of the reference. Own work; no condition. -/
namespace Go.El
open Go Go.Proofs
end Go.El

/- Contracts: the primitive integer polynomial. Own work; no condition. -/
namespace Go.El
open Go Go.Proofs
end Go.El

/- Contracts: integers of the program: words, sums. Own work; no condition. -/
namespace Go.El
open Go Go.Proofs
end Go.El

/- The fast interpreter, part 1: frames as trees, memory as lists, comparisons: made for the kernel. Own work; no condition. -/
namespace Go.El
open Go Go.RowKit
inductive D4 where
 | a | b | c | d
inductive T4 (α : Type) where
 | e
 | lf (v : α)
 | nd (a b c d : T4 α)
section
variable {α : Type}
noncomputable def getT (p : List D4) : T4 α → Option α := List.rec (motive := fun _ => T4 α → Option α)
 (fun t => T4.rec (motive := fun _ => Option α) none (fun v => some v) (fun _ _ _ _ _ _ _ _ => none) t)
 (fun x _ ih t => T4.rec (motive := fun _ => Option α) none (fun _ => none) (fun a b c d _ _ _ _ => D4.rec (motive := fun _ => Option α) (ih a) (ih b) (ih c) (ih d) x) t) p
noncomputable def setT (p : List D4) (v : α) : T4 α → T4 α := List.rec (motive := fun _ => T4 α → T4 α)
 (fun _ => .lf v)
 (fun x _ ih t => T4.rec (motive := fun _ => T4 α)
  (D4.rec (motive := fun _ => T4 α) (.nd (ih .e) .e .e .e) (.nd .e (ih .e) .e .e) (.nd .e .e (ih .e) .e) (.nd .e .e .e (ih .e)) x)
  (fun _ => D4.rec (motive := fun _ => T4 α) (.nd (ih .e) .e .e .e) (.nd .e (ih .e) .e .e) (.nd .e .e (ih .e) .e) (.nd .e .e .e (ih .e)) x)
  (fun a b c d _ _ _ _ => D4.rec (motive := fun _ => T4 α) (.nd (ih a) b c d) (.nd a (ih b) c d) (.nd a b (ih c) d) (.nd a b c (ih d)) x) t) p
noncomputable def delT (p : List D4) : T4 α → T4 α := List.rec (motive := fun _ => T4 α → T4 α)
 (fun _ => .e)
 (fun x _ ih t => T4.rec (motive := fun _ => T4 α) .e (fun _ => .e)
  (fun a b c d _ _ _ _ => D4.rec (motive := fun _ => T4 α) (.nd (ih a) b c d) (.nd a (ih b) c d) (.nd a b (ih c) d) (.nd a b c (ih d)) x) t) p
theorem get_e : ∀ p : List D4, getT p (.e : T4 α) = none
 | [] => rfl
 | _ :: _ => rfl
theorem get_set (v : α) : ∀ (p : List D4) (t : T4 α), getT p (setT p v t) = some v
 | [], _ => rfl
 | x :: p, t => by cases t <;> cases x <;> exact get_set v p _
theorem get_set_ne (v : α) : ∀ (p q : List D4) (t : T4 α), p.length = q.length → p ≠ q → getT q (setT p v t) = getT q t
 | [], [], _, _, h => absurd rfl h
 | [], _ :: _, _, h, _ => by simp at h
 | _ :: _, [], _, h, _ => by simp at h
 | x :: p, y :: q, t, hl, h => by
  have hl' : p.length = q.length := by simpa using hl
  by_cases hxy : x = y
  ·subst hxy
   have hpq : p ≠ q := fun e => h (by rw [e])
   cases t <;> cases x <;> first | exact get_set_ne v p q _ hl' hpq | exact (get_set_ne v p q _ hl' hpq).trans (get_e q)
  ·cases t <;> cases x <;> cases y <;> first | rfl | exact get_e q | exact absurd rfl hxy
theorem get_del : ∀ (p : List D4) (t : T4 α), getT p (delT p t) = none
 | [], _ => rfl
 | x :: p, t => by cases t <;> cases x <;> first | rfl | exact get_del p _
theorem get_del_ne : ∀ (p q : List D4) (t : T4 α), p.length = q.length → p ≠ q → getT q (delT p t) = getT q t
 | [], [], _, _, h => absurd rfl h
 | [], _ :: _, _, h, _ => by simp at h
 | _ :: _, [], _, h, _ => by simp at h
 | x :: p, y :: q, t, hl, h => by
  have hl' : p.length = q.length := by simpa using hl
  by_cases hxy : x = y
  ·subst hxy
   have hpq : p ≠ q := fun e => h (by rw [e])
   cases t <;> cases x <;> first | rfl | exact get_del_ne p q _ hl' hpq
  ·cases t <;> cases x <;> cases y <;> first | rfl | exact absurd rfl hxy
end
def dgt : Nat → D4
 | 0 => .a
 | 1 => .b
 | 2 => .c
 | _ => .d
def pth : Nat → Nat → List D4
 | 0, _ => []
 | n + 1, t => dgt (t / 4 ^ n) :: pth n (t % 4 ^ n)
theorem pth_length : ∀ n t, (pth n t).length = n
 | 0, _ => rfl
 | n + 1, t => by simp [pth, pth_length n]
theorem dgt_inj {a b : Nat} (ha : a < 4) (hb : b < 4) (h : dgt a = dgt b) : a = b := by
 have h1 : a = 0 ∨ a = 1 ∨ a = 2 ∨ a = 3 := by omega
 have h2 : b = 0 ∨ b = 1 ∨ b = 2 ∨ b = 3 := by omega
 rcases h1 with rfl | rfl | rfl | rfl <;> rcases h2 with rfl | rfl | rfl | rfl <;> first | rfl | (simp [dgt] at h)
theorem pth_inj : ∀ (n : Nat) {a b : Nat}, a < 4 ^ n → b < 4 ^ n → pth n a = pth n b → a = b
 | 0, a, b, ha, hb, _ => by simp at ha hb; omega
 | n + 1, a, b, ha, hb, h => by
  simp only [pth, List.cons.injEq] at h
  have hp : 0 < 4 ^ n := Nat.pow_pos (by decide)
  have e1 : a / 4 ^ n = b / 4 ^ n := dgt_inj (Nat.div_lt_of_lt_mul (by rw [Nat.pow_succ] at ha; omega)) (Nat.div_lt_of_lt_mul (by rw [Nat.pow_succ] at hb; omega)) h.1
  have e2 : a % 4 ^ n = b % 4 ^ n := pth_inj n (Nat.mod_lt _ hp) (Nat.mod_lt _ hp) h.2
  rw [← Nat.div_add_mod a (4 ^ n), ← Nat.div_add_mod b (4 ^ n), e1, e2]
abbrev Tr := T4 AV
abbrev Mem := List (Nat × Blk)
section
variable {α : Type}
noncomputable def lookF (id : Nat) (l : List (Nat × α)) : Option α := List.rec (motive := fun _ => Option α) none
 (fun h _ ih => Prod.rec (motive := fun _ => Option α) (fun k x => Bool.rec (motive := fun _ => Option α) ih (some x) (Nat.beq k id)) h) l
noncomputable def putF (id : Nat) (v : α) (l : List (Nat × α)) : List (Nat × α) := List.rec (motive := fun _ => List (Nat × α)) [(id, v)]
 (fun h r ih => Prod.rec (motive := fun _ => List (Nat × α)) (fun k x => Bool.rec (motive := fun _ => List (Nat × α)) ((k, x) :: ih) ((id, v) :: r) (Nat.beq k id)) h) l
theorem lookF_eq (id : Nat) : ∀ l : List (Nat × α), lookF id l = lookA id l
 | [] => rfl
 | (k, x) :: r => by
  have ih := lookF_eq id r
  show Bool.rec (motive := fun _ => Option α) (lookF id r) (some x) (Nat.beq k id) = _
  simp only [lookA]
  by_cases h : k = id
  ·subst h; rw [Nat.beq_refl, if_pos rfl]
  ·have : Nat.beq k id = false := by
    cases hb : Nat.beq k id
    ·rfl
    ·exact absurd (Nat.eq_of_beq_eq_true hb) h
   rw [this, if_neg h]; exact ih
theorem putF_eq (id : Nat) (v : α) : ∀ l : List (Nat × α), putF id v l = putA id v l
 | [] => rfl
 | (k, x) :: r => by
  have ih := putF_eq id v r
  show Bool.rec (motive := fun _ => List (Nat × α)) ((k, x) :: putF id v r) ((id, v) :: r) (Nat.beq k id) = _
  simp only [putA]
  by_cases h : k = id
  ·subst h; rw [Nat.beq_refl, if_pos rfl]
  ·have : Nat.beq k id = false := by
    cases hb : Nat.beq k id
    ·rfl
    ·exact absurd (Nat.eq_of_beq_eq_true hb) h
   rw [this, if_neg h]; simp only [ih]
end
noncomputable def slots (dep n : Nat) (t : Tr) : List (Nat × AV) := (List.range n).filterMap fun j => (getT (pth dep j) t).map fun v => (j, v)
noncomputable def absS (dep n : Nat) (t : Tr) (m : Mem) : St := ⟨slots dep n t, m, 0, []⟩
theorem look_fm {α : Type} (g : Nat → Option α) (t : Nat) : ∀ l : List Nat, lookA t (l.filterMap fun j => (g j).map fun v => (j, v)) = if t ∈ l then g t else none
 | [] => rfl
 | j :: l => by
  have ih := look_fm g t l
  simp only [List.filterMap_cons]
  cases hg : g j with
  | none =>
   simp only [Option.map_none, ih, List.mem_cons]
   by_cases h : t = j
   ·subst h; simp [hg]
   ·simp [h]
  | some v =>
   simp only [Option.map_some, lookA, ih, List.mem_cons]
   by_cases h : j = t
   ·subst h; simp [hg]
   ·have : t ≠ j := fun e => h e.symm
    simp [h, this]
theorem look_slots (dep n : Nat) (t : Tr) (j : Nat) : lookA j (slots dep n t) = if j < n then getT (pth dep j) t else none := by
 unfold slots
 rw [look_fm (fun j => getT (pth dep j) t) j]
 simp only [List.mem_range]
theorem abs_kn (dep n : Nat) (t : Tr) (m : Mem) : (absS dep n t m).kn = fun | .s j => ((if j < n then getT (pth dep j) t else none)).map .v | .m id => (lookA id m).map .b := by
 funext k
 cases k with
 | s j => simp only [absS, St.kn, look_slots]
 | m id => rfl
theorem look_slots_set (dep n : Nat) (t : Tr) (d j : Nat) (v : AV) (hn : n ≤ 4 ^ dep) (hd : d < n) : lookA j (slots dep n (setT (pth dep d) v t)) = if d = j then some v else lookA j (slots dep n t) := by
 rw [look_slots, look_slots]
 by_cases h : d = j
 ·subst h; simp [hd, get_set]
 ·rw [if_neg h]
  by_cases hj : j < n
  ·rw [if_pos hj, if_pos hj, get_set_ne _ _ _ _ (by rw [pth_length, pth_length]) (fun e => h (pth_inj dep (by omega) (by omega) e))]
  ·rw [if_neg hj, if_neg hj]
theorem look_slots_del (dep n : Nat) (t : Tr) (d j : Nat) (hn : n ≤ 4 ^ dep) (hd : d < n) : lookA j (slots dep n (delT (pth dep d) t)) = if d = j then none else lookA j (slots dep n t) := by
 rw [look_slots, look_slots]
 by_cases h : d = j
 ·subst h; simp [hd, get_del]
 ·rw [if_neg h]
  by_cases hj : j < n
  ·rw [if_pos hj, if_pos hj, get_del_ne _ _ _ (by rw [pth_length, pth_length]) (fun e => h (pth_inj dep (by omega) (by omega) e))]
  ·rw [if_neg hj, if_neg hj]
theorem abs_set (dep n : Nat) (t : Tr) (m : Mem) (d : Nat) (v : AV) (hn : n ≤ 4 ^ dep) (hd : d < n) : (absS dep n (setT (pth dep d) v t) m).kn = upd (absS dep n t m).kn [(.s d, some (.v v))] := by
 funext k
 cases k with
 | s j =>
  simp only [absS, St.kn, upd, says, Key.s.injEq, look_slots_set dep n t d j v hn hd]
  split <;> simp
 | m id => simp [absS, St.kn, upd, says]
theorem abs_del (dep n : Nat) (t : Tr) (m : Mem) (d : Nat) (hn : n ≤ 4 ^ dep) (hd : d < n) : (absS dep n (delT (pth dep d) t) m).kn = upd (absS dep n t m).kn [(.s d, none)] := by
 funext k
 cases k with
 | s j =>
  simp only [absS, St.kn, upd, says, Key.s.injEq, look_slots_del dep n t d j hn hd]
  split <;> simp
 | m id => simp [absS, St.kn, upd, says]
theorem abs_mem (dep n : Nat) (t : Tr) (m m' : Mem) (wr : List (Key × Option Info)) (h : ∀ id, (lookA id m').map Info.b = upd (absS dep n t m).kn wr (.m id)) (hs : ∀ j, says wr (.s j) = none) : (absS dep n t m').kn = upd (absS dep n t m).kn wr := by
 funext k
 cases k with
 | s j => simp [absS, St.kn, upd, hs j]
 | m id => exact h id
def leZ : Int → Int → Bool
 | .ofNat m, .ofNat n => Nat.ble m n
 | .negSucc _, .ofNat _ => true
 | .negSucc m, .negSucc n => Nat.ble n m
 | .ofNat _, .negSucc _ => false
def eqZ : Int → Int → Bool
 | .ofNat m, .ofNat n => Nat.beq m n
 | .negSucc m, .negSucc n => Nat.beq m n
 | _, _ => false
theorem leZ_eq (a b : Int) : leZ a b = decide (a ≤ b) := by
 cases a <;> cases b <;> simp only [leZ] <;> rw [Bool.eq_iff_iff] <;> simp [Nat.ble_eq] <;> omega
theorem eqZ_eq (a b : Int) : eqZ a b = decide (a = b) := by
 cases a <;> cases b <;> simp only [eqZ] <;> rw [Bool.eq_iff_iff] <;> simp <;> omega
def i64F : Int → Bool
 | .ofNat m => Nat.blt m 9223372036854775808
 | .negSucc m => Nat.blt m 9223372036854775808
theorem i64F_ok {n : Int} (h : i64F n = true) : i64r n := by
 cases n with
 | ofNat m => simp only [i64F, Nat.blt_eq] at h; unfold i64r; simp only [Int.ofNat_eq_natCast]; omega
 | negSucc m => simp only [i64F, Nat.blt_eq] at h; unfold i64r; omega
def prF : Pr → Bool
 | .t => true
 | .i64 n => i64F n
 | .ne0 b => Bool.not (eqZ b 0)
 | .le a b => leZ a b
 | .lt a b => Bool.not (leZ b a)
 | .ltN a b => Nat.blt a b
 | .eqB a b => a == b
 | .and p q => match prF p with
  | true => prF q
  | false => false
theorem prF_ok : ∀ {p : Pr}, prF p = true → p.h
 | .t, _ => trivial
 | .i64 _, h => i64F_ok h
 | .ne0 b, h => by simp only [prF, eqZ_eq] at h; simpa [Pr.h] using h
 | .le a b, h => by simp only [prF, leZ_eq] at h; simpa [Pr.h] using h
 | .lt a b, h => by simp only [prF, leZ_eq] at h; simpa [Pr.h] using h
 | .ltN a b, h => by simpa [prF, Pr.h, Nat.blt_eq] using h
 | .eqB a b, h => by simpa [prF, Pr.h] using h
 | .and p q, h => by
  simp only [prF] at h
  split at h
  ·rename_i h1; exact ⟨prF_ok h1, prF_ok h⟩
  ·cases h
def lowC (k : Nat) : C → Bool
 | .P id _ => Nat.blt id k
 | .X id => Nat.blt id k
 | .Y id _ _ _ => Nat.blt id k
 | .L id _ _ _ => Nat.blt id k
 | .W id _ _ => Nat.blt id k
 | _ => true
theorem lowC_ok {k : Nat} {c : C} (h : lowC k c = true) : ∀ id ∈ c.mids, id < k := by
 cases c <;> simp only [lowC, C.mids, Nat.blt_eq] at h ⊢ <;> simp <;> exact h
noncomputable def lowL (k : Nat) (l : List C) : Bool := List.rec (motive := fun _ => Bool) true (fun c _ ih => Bool.rec (motive := fun _ => Bool) false ih (lowC k c)) l
theorem lowL_ok {k : Nat} : ∀ {l : List C}, lowL k l = true → ∀ id ∈ midsL l, id < k
 | [], _ => by simp [midsL]
 | c :: r, h => by
  have h' : Bool.rec (motive := fun _ => Bool) false (lowL k r) (lowC k c) = true := h
  cases hc : lowC k c with
  | false => rw [hc] at h'; cases h'
  | true =>
   rw [hc] at h'
   intro id hid
   simp only [midsL, List.mem_append] at hid
   rcases hid with hid | hid
   ·exact lowC_ok hc id hid
   ·exact lowL_ok h' id hid
noncomputable def lowT (k : Nat) (l : List (Bool × List C)) : Bool := List.rec (motive := fun _ => Bool) true (fun c _ ih => Bool.rec (motive := fun _ => Bool) false ih (lowL k c.2)) l
theorem lowT_ok {k : Nat} : ∀ {l : List (Bool × List C)}, lowT k l = true → ∀ id ∈ midsT l, id < k
 | [], _ => by simp [midsT]
 | c :: r, h => by
  have h' : Bool.rec (motive := fun _ => Bool) false (lowT k r) (lowL k c.2) = true := h
  cases hc : lowL k c.2 with
  | false => rw [hc] at h'; cases h'
  | true =>
   rw [hc] at h'
   intro id hid
   simp only [midsT, List.mem_append] at hid
   rcases hid with hid | hid
   ·exact lowL_ok hc id hid
   ·exact lowT_ok h' id hid
noncomputable def lowV (k : Nat) : AV → Bool
 | .c x => lowC k x
 | .a cs => lowL k cs
 | .t ss => lowT k ss
theorem lowV_ok {k : Nat} {v : AV} (h : lowV k v = true) : ∀ id ∈ v.mids, id < k := by
 cases v with
 | c x => exact lowC_ok h
 | a cs => exact lowL_ok h
 | t ss => exact lowT_ok h
end Go.El

/- The fast interpreter, part 2: operations made ready, and how they go. Own work; no condition. -/
namespace Go.El
open Go Go.RowKit
inductive Pd where
 | s (p : List D4)
 | k (v : AV)
noncomputable def evP (t : Tr) : Pd → Option AV
 | .s p => getT p t
 | .k v => some v
noncomputable def evPs (t : Tr) (l : List Pd) : Option (List AV) := List.rec (motive := fun _ => Option (List AV)) (some [])
 (fun x _ ih => match evP t x with
  | some v => (match ih with
   | some vs => some (v :: vs)
   | none => none)
  | none => none) l
def compP (dep n : Nat) : Operand → Option Pd
 | .tmp j => (match Nat.blt j n with
  | true => some (.s (pth dep j))
  | false => none)
 | .const v => some (.k (constAV v))
 | .func f => some (.k (.c (.V (.func (.func f) #[] #[]))))
 | .global _ => none
def compPs (dep n : Nat) : List Operand → Option (List Pd)
 | [] => some []
 | x :: xs => (match compP dep n x, compPs dep n xs with
  | some p, some ps => some (p :: ps)
  | _, _ => none)
abbrev Ms := List Mem
noncomputable def lookS (id : Nat) (ms : Ms) : Option Blk := List.rec (motive := fun _ => Option Blk) none
 (fun m _ ih => match lookF id m with
  | some b => some b
  | none => ih) ms
noncomputable def putS (id : Nat) (b : Blk) (ms : Ms) : Ms := List.rec (motive := fun _ => Ms) []
 (fun m r ih => match lookF id m with
  | some _ => putF id b m :: r
  | none => m :: ih) ms
def delS (id : Nat) : Ms → Ms
 | [] => []
 | m :: r => delA id m :: delS id r
def consS (k : Nat) (b : Blk) : Ms → Ms
 | m :: r => ((k, b) :: m) :: r
 | [] => [[(k, b)]]
theorem look_flat (id : Nat) : ∀ ms : Ms, lookA id ms.flatten = lookS id ms
 | [] => rfl
 | m :: r => by
  have ih := look_flat id r
  show _ = match lookF id m with | some b => some b | none => lookS id r
  rw [List.flatten_cons, look_app, lookF_eq, ih]
  cases lookA id m <;> rfl
theorem lookS_put (j id : Nat) (b : Blk) : ∀ ms : Ms, lookS j (putS id b ms) = match lookS id ms with
  | some _ => if id = j then some b else lookS j ms
  | none => lookS j ms
 | [] => rfl
 | m :: r => by
  have ih := lookS_put j id b r
  have e1 : ∀ j (m : Mem) (r : Ms), lookS j (m :: r) = match lookF j m with | some b => some b | none => lookS j r := fun _ _ _ => rfl
  have e2 : putS id b (m :: r) = match lookF id m with | some _ => putF id b m :: r | none => m :: putS id b r := rfl
  rw [e2, e1 id m r]
  cases h : lookF id m with
  | some x =>
   simp only [e1, lookF_eq, putF_eq, lookA_put]
   by_cases hj : id = j
   ·simp [hj]
   ·simp [hj]
  | none =>
   simp only [e1, ih]
   cases h2 : lookS id r with
   | none => rfl
   | some x =>
    by_cases hj : id = j
    ·subst hj; simp [h]
    ·simp [hj]
theorem lookS_del (j id : Nat) : ∀ ms : Ms, lookS j (delS id ms) = if id = j then none else lookS j ms
 | [] => by simp [delS, lookS]
 | m :: r => by
  have ih := lookS_del j id r
  have e1 : ∀ j (m : Mem) (r : Ms), lookS j (m :: r) = match lookF j m with | some b => some b | none => lookS j r := fun _ _ _ => rfl
  simp only [delS, e1, lookF_eq, lookA_del, ih]
  by_cases hj : id = j <;> simp [hj]
theorem lookS_cons (j k : Nat) (b : Blk) (ms : Ms) : lookS j (consS k b ms) = if k = j then some b else lookS j ms := by
 have e1 : ∀ j (m : Mem) (r : Ms), lookS j (m :: r) = match lookF j m with | some b => some b | none => lookS j r := fun _ _ _ => rfl
 cases ms with
 | nil => simp only [consS, e1, lookF_eq, lookA]; by_cases h : k = j <;> simp [h, lookS]
 | cons m r => simp only [consS, e1, lookF_eq, lookA]; by_cases h : k = j <;> simp [h]
inductive Ft where
 | n
 | m (rd wr : List Nat)
 | c (k k' : Nat) (wl : List Nat)
inductive Rs where
 | no
 | ok (t : Tr) (ms : Ms) (k : Nat) (wl : List Nat) (f : Ft)
inductive Cr where
 | no
 | ok (r : AV) (ms : Ms) (k : Nat) (wl : List Nat)
abbrev CallG := FuncId → List AV → Ms → Nat → Cr
inductive Ins where
 | mv (d : List D4) (x : Pd)
 | bin (d : List D4) (op : BinOp) (ty : Nat) (x y : Pd)
 | idx (d : List D4) (ty : Nat) (x i : Pd)
 | fad (d : List D4) (ty : Nat) (x : Pd) (f : Nat)
 | ext (d : List D4) (x : Pd) (k : Nat)
 | len (d : List D4) (ty : Nat) (x : Pd)
 | ld (d : List D4) (ty : Nat) (x : Pd)
 | st (ty : Nat) (x y : Pd)
 | gen (d : Option (Nat × List D4)) (sl : List (Nat × List D4)) (op : Op)
 | call (d : List D4) (f : FuncId) (args : List Pd)
 | calv (d : List D4) (x : Pd) (args : List Pd)
noncomputable def setV (d : List D4) (v : AV) (t : Tr) (ms : Ms) (k : Nat) (wl : List Nat) (f : Ft) : Rs := match lowV k v with
 | true => .ok (setT d v t) ms k wl f
 | false => .no
noncomputable def pureV (d : List D4) (r : Option (AV × Pr)) (t : Tr) (ms : Ms) (k : Nat) (wl : List Nat) : Rs := match r with
 | some (v, p) => (match prF p with
  | true => setV d v t ms (k + 1) wl .n
  | false => .no)
 | none => .no
def idxV (tt : TT) (ty : Nat) (v w : AV) : Option (AV × Pr) := match idxL tt ty v w with
 | some r => some r
 | none => idxA tt ty v w
def lenV (tt : TT) (ty : Nat) (v : AV) : Option AV := match lenL tt ty v with
 | some r => some r
 | none => lenA tt ty v
noncomputable def nthF (l : List C) : Nat → Option C := List.rec (motive := fun _ => Nat → Option C) (fun _ => none) (fun c _ ih n => Nat.rec (motive := fun _ => Option C) (some c) (fun m _ => ih m) n) l
noncomputable def dropF (n : Nat) : List C → List C := Nat.rec (motive := fun _ => List C → List C) (fun l => l) (fun _ ih l => List.rec (motive := fun _ => List C) [] (fun _ r _ => ih r) l) n
def consO (c : C) : Option (List C) → Option (List C)
 | some r => some (c :: r)
 | none => none
noncomputable def takeF (n : Nat) : List C → Option (List C) := Nat.rec (motive := fun _ => List C → Option (List C)) (fun _ => some []) (fun _ ih l => List.rec (motive := fun _ => Option (List C)) none (fun c r _ => consO c (ih r)) l) n
noncomputable def putO (us : List C) : List C → Option (List C) := List.rec (motive := fun _ => List C → Option (List C)) (fun l => some l) (fun u _ ih l => List.rec (motive := fun _ => Option (List C)) none (fun _ r _ => consO u (ih r)) l) us
noncomputable def ovF (us : List C) (off : Nat) : List C → Option (List C) := Nat.rec (motive := fun _ => List C → Option (List C)) (putO us) (fun _ ih l => List.rec (motive := fun _ => Option (List C)) none (fun c r _ => consO c (ih r)) l) off
theorem nthF_eq : ∀ (l : List C) (n : Nat), nthF l n = l[n]?
 | [], n => by simp [nthF]
 | c :: r, 0 => rfl
 | c :: r, n + 1 => by
  show nthF r n = _
  rw [nthF_eq r n, List.getElem?_cons_succ]
theorem dropF_eq : ∀ (n : Nat) (l : List C), dropF n l = l.drop n
 | 0, l => rfl
 | n + 1, [] => rfl
 | n + 1, c :: r => dropF_eq n r
theorem consO_some {c : C} {o : Option (List C)} {x : List C} (h : consO c o = some x) : ∃ r, o = some r ∧ x = c :: r := by
 cases o with
 | none => cases h
 | some r => cases h; exact ⟨r, rfl, rfl⟩
theorem takeF_eq : ∀ (n : Nat) (l x : List C), takeF n l = some x → n ≤ l.length ∧ x = l.take n
 | 0, l, x, h => by cases h; exact ⟨Nat.zero_le _, rfl⟩
 | n + 1, [], x, h => by cases h
 | n + 1, c :: r, x, h => by
  obtain ⟨y, hy, rfl⟩ := consO_some (show consO c (takeF n r) = some x from h)
  obtain ⟨h1, h2⟩ := takeF_eq n r y hy
  exact ⟨by simpa using h1, by simp [h2]⟩
theorem putO_eq : ∀ (us l x : List C), putO us l = some x → us.length ≤ l.length ∧ x = us ++ l.drop us.length
 | [], l, x, h => by cases h; exact ⟨Nat.zero_le _, rfl⟩
 | u :: us, [], x, h => by cases h
 | u :: us, c :: r, x, h => by
  obtain ⟨y, hy, rfl⟩ := consO_some (show consO u (putO us r) = some x from h)
  obtain ⟨h1, h2⟩ := putO_eq us r y hy
  exact ⟨by simpa using h1, by simp [h2]⟩
theorem ovF_eq (us : List C) : ∀ (off : Nat) (l x : List C), ovF us off l = some x → off + us.length ≤ l.length ∧ x = over l us off
 | 0, l, x, h => by
  obtain ⟨h1, h2⟩ := putO_eq us l x h
  exact ⟨by omega, by simp [over, h2]⟩
 | off + 1, [], x, h => by cases h
 | off + 1, c :: r, x, h => by
  obtain ⟨y, hy, rfl⟩ := consO_some (show consO c (ovF us off r) = some x from h)
  obtain ⟨h1, h2⟩ := ovF_eq us off r y hy
  refine ⟨by simp; omega, ?_⟩
  simp [over, h2, show off + 1 + us.length = off + us.length + 1 by omega]
noncomputable def partF (cs : List C) (off sz : Nat) (ag : Bool) : Option AV := match ag with
 | true => (match takeF sz (dropF off cs) with
  | some x => some (.a x)
  | none => none)
 | false => (match nthF cs off with
  | some c => some (.c c)
  | none => none)
theorem partF_eq {cs : List C} {off sz : Nat} {ag : Bool} {x : AV} (h : partF cs off sz ag = some x) (hz : sz = 0 → off ≤ cs.length) : partA cs off sz ag = some x := by
 unfold partF at h
 unfold partA
 split at h
 ·split at h
  ·rename_i y hy
   cases h
   obtain ⟨h1, h2⟩ := takeF_eq _ _ _ hy
   rw [dropF_eq] at h1 h2
   rw [if_pos rfl, if_pos (by simp at h1; by_cases hs : sz = 0; have := hz hs; omega; omega), h2]
  ·cases h
 ·split at h
  ·rename_i c hc
   cases h
   rw [nthF_eq] at hc
   simp [hc]
  ·cases h
noncomputable def ldF (tt : TT) (ms : Ms) (ty : Nat) (v : AV) : Option (AV × List Nat) := match tySz tt ty with
 | some (0, _) => none
 | some (sz, ag) => (match v with
  | .c (.P id off) => (match lookS id ms with
   | some (.box _ _ cs) => (match partF cs off sz ag with
    | some y => some (y, [id])
    | none => none)
   | some (.fz _ cs) => (match partF cs off sz ag with
    | some y => some (y, [id])
    | none => none)
   | _ => none)
  | .c (.E T e off) => (match partF (av T e) off sz ag with
   | some y => some (y, [])
   | none => none)
  | _ => none)
 | none => none
def okA : List C → Bool
 | [] => true
 | c :: r => match okC c with
  | true => okA r
  | false => false
theorem okA_eq : ∀ {l : List C}, okA l = true → l.all okC = true
 | [], _ => rfl
 | c :: r, h => by
  simp only [okA] at h
  split at h
  ·rename_i h1; simp [h1, okA_eq h]
  ·cases h
noncomputable def stF1 (id off sz : Nat) (us : List C) : Option Blk → Option (Nat × Blk × List C)
 | some (.box E bz cs) => (match Nat.beq us.length sz && okA us with
  | true => (match ovF us off cs with
   | some x => some (id, .box E bz x, us)
   | none => none)
  | false => none)
 | _ => none
noncomputable def stF (tt : TT) (ms : Ms) (ty : Nat) (x v : AV) : Option (Nat × Blk × List C) := match tySz tt ty, x, cellsAV v with
 | some (sz, _), .c (.P id off), some us => stF1 id off sz us (lookS id ms)
 | _, _, _ => none
def logW (ke id : Nat) (wl : List Nat) : List Nat := match Nat.blt id ke with
 | true => id :: wl
 | false => wl
def mergeW (ke : Nat) (wlc wl : List Nat) : List Nat := match wlc with
 | [] => wl
 | _ => wlc.filter (fun id => Nat.blt id ke) ++ wl
noncomputable def lowB (k : Nat) : Blk → Bool
 | .box _ _ cs => lowL k cs
 | .vec _ _ _ => true
 | .clo _ a b => match lowT k a with
  | true => lowT k b
  | false => false
 | .fz _ cs => lowL k cs
theorem lowB_ok {k : Nat} {b : Blk} (h : lowB k b = true) : ∀ id ∈ b.mids, id < k := by
 cases b with
 | box E z cs => exact lowL_ok h
 | vec E T xs => simp [Blk.mids]
 | clo f a b =>
  simp only [lowB] at h
  split at h
  ·rename_i h1
   intro id hid
   simp only [Blk.mids, List.mem_append] at hid
   exact hid.elim (lowT_ok h1 id) (lowT_ok h id)
  ·cases h
 | fz E cs => exact lowL_ok h
noncomputable def mini (sl : List (Nat × List D4)) (t : Tr) : List (Nat × AV) := List.rec (motive := fun _ => List (Nat × AV)) []
 (fun x _ ih => match getT x.2 t with
  | some v => (x.1, v) :: ih
  | none => ih) sl
def midsSl : List (Nat × AV) → List Nat
 | [] => []
 | (_, v) :: r => v.mids ++ midsSl r
noncomputable def miniM (ids : List Nat) (ms : Ms) : Mem := List.rec (motive := fun _ => Mem) []
 (fun id _ ih => match lookS id ms with
  | some b => (id, b) :: ih
  | none => ih) ids
def cal0 : CallF := fun _ _ _ _ => none
def mK : List Key → List Nat
 | [] => []
 | .m id :: r => id :: mK r
 | .s _ :: r => mK r
def wS (d : Option Nat) : List Key → Bool
 | [] => true
 | .m _ :: r => wS d r
 | .s j :: r => (match d with
  | some d => (match Nat.beq d j with
   | true => wS (some d) r
   | false => false)
  | none => false)
def memN (j : Nat) : List Nat → Bool
 | [] => false
 | x :: r => match Nat.beq x j with
  | true => true
  | false => memN j r
def rS (sl : List Nat) : List Key → Bool
 | [] => true
 | .m _ :: r => rS sl r
 | .s j :: r => (match memN j sl with
  | true => rS sl r
  | false => false)
noncomputable def applyW (k ke : Nat) (mm mem' : Mem) (ids : List Nat) : Ms → List Nat → Option (Ms × List Nat) := List.rec (motive := fun _ => Ms → List Nat → Option (Ms × List Nat))
 (fun ms wl => some (ms, wl))
 (fun id _ ih ms wl => match lookF id mem' with
  | some b => (match lowB (k + 1) b with
   | true => (match Nat.beq id k with
    | true => ih (consS k b ms) wl
    | false => (match lookS id ms with
     | some _ => ih (putS id b ms) (logW ke id wl)
     | none => none))
   | false => none)
  | none => (match lookF id mm with
   | some _ => ih (delS id ms) (logW ke id wl)
   | none => none)) ids
noncomputable def genR (tt : TT) (n ke : Nat) (d : Option (Nat × List D4)) (sl : List (Nat × List D4)) (op : Op) (t : Tr) (ms : Ms) (k : Nat) (wl : List Nat) (ms0 : List (Nat × AV)) (mm : Mem) : Rs :=
 match stepU cal0 tt n k (d.map (·.1)) op ⟨ms0, mm, 0, []⟩ with
 | some (st', k', ks) => (match Nat.beq k' (k + 1) && wS (d.map (·.1)) ks.2 && rS (sl.map (·.1)) ks.1 with
  | true => (match applyW k ke mm st'.mem (mK ks.2) ms wl with
   | some (ms', wl') => (match d with
    | none => .ok t ms' (k + 1) wl' (.m (mK ks.1) (mK ks.2))
    | some (dn, dp) => (match lookA dn st'.sl with
     | some v => setV dp v t ms' (k + 1) wl' (.m (mK ks.1) (mK ks.2))
     | none => .no))
   | none => .no)
  | false => .no)
 | none => (match d with
  | some (_, dp) => pureV dp (evalM tt ⟨ms0, mm, 0, []⟩ op) t ms k wl
  | none => .no)
noncomputable def callR (cal : CallG) (ke : Nat) (d : List D4) (f : FuncId) (vs : List AV) (t : Tr) (ms : Ms) (k : Nat) (wl : List Nat) : Rs := match cal f vs ms k with
 | .ok r ms' k' wlc => setV d r t ms' k' (mergeW ke wlc wl) (.c k k' wlc)
 | .no => .no
noncomputable def stMv (d : List D4) (x : Pd) (t : Tr) (ms : Ms) (k : Nat) (wl : List Nat) : Rs := match evP t x with
 | some v => setV d v t ms (k + 1) wl .n
 | none => .no
noncomputable def stBin3 (tt : TT) (d : List D4) (op : BinOp) (ty : Nat) (a b : C) (t : Tr) (ms : Ms) (k : Nat) (wl : List Nat) : Rs := match nilT tt op ty (.c a) (.c b) with
 | some u => setV d u t ms (k + 1) wl .n
 | none => .no
noncomputable def stBin2 (d : List D4) (c : C) (p : Pr) (t : Tr) (ms : Ms) (k : Nat) (wl : List Nat) : Rs := match prF p with
 | true => .ok (setT d (.c c) t) ms (k + 1) wl .n
 | false => .no
noncomputable def stBin1 (tt : TT) (d : List D4) (op : BinOp) (ty : Nat) (a b : C) (t : Tr) (ms : Ms) (k : Nat) (wl : List Nat) : Rs := match binT tt op ty a b with
 | some (c, p) => stBin2 d c p t ms k wl
 | none => stBin3 tt d op ty a b t ms k wl
noncomputable def stBin (tt : TT) (d : List D4) (op : BinOp) (ty : Nat) (x y : Pd) (t : Tr) (ms : Ms) (k : Nat) (wl : List Nat) : Rs := match evP t x, evP t y with
 | some (.c a), some (.c b) => stBin1 tt d op ty a b t ms k wl
 | _, _ => .no
noncomputable def stIdx (tt : TT) (d : List D4) (ty : Nat) (x i : Pd) (t : Tr) (ms : Ms) (k : Nat) (wl : List Nat) : Rs := match evP t x, evP t i with
 | some v, some w => pureV d (idxV tt ty v w) t ms k wl
 | _, _ => .no
noncomputable def stFad (tt : TT) (d : List D4) (ty : Nat) (x : Pd) (f : Nat) (t : Tr) (ms : Ms) (k : Nat) (wl : List Nat) : Rs := match evP t x with
 | some v => (match faddrA tt ty v f with
  | some u => setV d u t ms (k + 1) wl .n
  | none => .no)
 | none => .no
noncomputable def stExt (d : List D4) (x : Pd) (j : Nat) (t : Tr) (ms : Ms) (k : Nat) (wl : List Nat) : Rs := match evP t x with
 | some v => (match exA v j with
  | some u => setV d u t ms (k + 1) wl .n
  | none => .no)
 | none => .no
noncomputable def stLen (tt : TT) (d : List D4) (ty : Nat) (x : Pd) (t : Tr) (ms : Ms) (k : Nat) (wl : List Nat) : Rs := match evP t x with
 | some v => (match lenV tt ty v with
  | some u => setV d u t ms (k + 1) wl .n
  | none => .no)
 | none => .no
noncomputable def stLd (tt : TT) (d : List D4) (ty : Nat) (x : Pd) (t : Tr) (ms : Ms) (k : Nat) (wl : List Nat) : Rs := match evP t x with
 | some v => (match ldF tt ms ty v with
  | some (u, ids) => setV d u t ms (k + 1) wl (.m ids [])
  | none => .no)
 | none => .no
noncomputable def stSt1 (ke id : Nat) (b : Blk) (us : List C) (t : Tr) (ms : Ms) (k : Nat) (wl : List Nat) : Rs := match lowL k us with
 | true => .ok t (putS id b ms) (k + 1) (logW ke id wl) (.m [id] [id])
 | false => .no
noncomputable def stSt (tt : TT) (ke : Nat) (ty : Nat) (x y : Pd) (t : Tr) (ms : Ms) (k : Nat) (wl : List Nat) : Rs := match evP t x, evP t y with
 | some v, some w => (match stF tt ms ty v w with
  | some (id, b, us) => stSt1 ke id b us t ms k wl
  | none => .no)
 | _, _ => .no
noncomputable def stGen (tt : TT) (n ke : Nat) (d : Option (Nat × List D4)) (sl : List (Nat × List D4)) (op : Op) (t : Tr) (ms : Ms) (k : Nat) (wl : List Nat) : Rs := match mini sl t with
 | ms0 => genR tt n ke d sl op t ms k wl ms0 (miniM (midsSl ms0) ms)
noncomputable def stCall (cal : CallG) (ke : Nat) (d : List D4) (f : FuncId) (args : List Pd) (t : Tr) (ms : Ms) (k : Nat) (wl : List Nat) : Rs := match evPs t args with
 | some vs => callR cal ke d f vs t ms k wl
 | none => .no
noncomputable def stCalv (cal : CallG) (ke : Nat) (d : List D4) (x : Pd) (args : List Pd) (t : Tr) (ms : Ms) (k : Nat) (wl : List Nat) : Rs := match evPs t args with
 | some vs => (match evP t x with
  | some (.c (.V (.func (.func f) ⟨[]⟩ ⟨[]⟩))) => callR cal ke d f vs t ms k wl
  | some (.c (.X id)) => (match lookS id ms with
   | some (.clo f first caps) => (match unSs first, unSs caps with
    | some us, some ws => callR cal ke d f (us ++ (vs ++ ws)) t ms k wl
    | _, _ => .no)
   | _ => .no)
  | _ => .no)
 | none => .no
noncomputable def stepI (cal : CallG) (tt : TT) (n ke : Nat) (i : Ins) : Tr → Ms → Nat → List Nat → Rs := match i with
 | .mv d x => stMv d x
 | .bin d op ty x y => stBin tt d op ty x y
 | .idx d ty x i => stIdx tt d ty x i
 | .fad d ty x f => stFad tt d ty x f
 | .ext d x j => stExt d x j
 | .len d ty x => stLen tt d ty x
 | .ld d ty x => stLd tt d ty x
 | .st ty x y => stSt tt ke ty x y
 | .gen d sl op => stGen tt n ke d sl op
 | .call d f args => stCall cal ke d f args
 | .calv d x args => stCalv cal ke d x args
structure GI where
 g : Option (List D4 × Bool)
 d : Option (List D4)
 i : Ins
noncomputable def stepGI (cal : CallG) (tt : TT) (n ke : Nat) (x : GI) (t : Tr) (ms : Ms) (k : Nat) (wl : List Nat) : Rs := match x.g with
 | none => stepI cal tt n ke x.i t ms k wl
 | some (gp, want) => (match getT gp t with
  | some (.c (.B b)) => (match b == want with
   | true => stepI cal tt n ke x.i t ms k wl
   | false => (match x.d with
    | some d => .ok (delT d t) ms (k + 1) wl .n
    | none => .no))
  | _ => .no)
noncomputable def regT (cal : CallG) (tt : TT) (n ke : Nat) (l : List GI) : Tr → Ms → Nat → List Nat → Rs := List.rec (motive := fun _ => Tr → Ms → Nat → List Nat → Rs)
 (fun t ms k wl => .ok t ms k wl .n)
 (fun x _ ih t ms k wl => match stepGI cal tt n ke x t ms k wl with
  | .ok t' ms' k' wl' _ => ih t' ms' k' wl'
  | .no => .no) l
inductive Rd where
 | no
 | ok (t : Tr) (ms : Ms) (k : Nat) (wl : List Nat) (fs : List Ft)
noncomputable def regD (cal : CallG) (tt : TT) (n ke : Nat) (l : List GI) : Tr → Ms → Nat → List Nat → List Ft → Rd := List.rec (motive := fun _ => Tr → Ms → Nat → List Nat → List Ft → Rd)
 (fun t ms k wl fs => .ok t ms k wl fs)
 (fun x _ ih t ms k wl fs => match stepGI cal tt n ke x t ms k wl with
  | .ok t' ms' k' wl' f => ih t' ms' k' wl' (f :: fs)
  | .no => .no) l
def meetN : List Nat → List Nat → Bool
 | [], _ => false
 | x :: r, l => match memN x l with
  | true => true
  | false => meetN r l
def anyIn (k k' : Nat) (wl : List Nat) : List Nat → Bool
 | [] => false
 | x :: r => match memN x wl with
  | true => true
  | false => (match Nat.ble k x && Nat.blt x k' with
   | true => true
   | false => anyIn k k' wl r)
def anyLt (k : Nat) : List Nat → Bool
 | [] => false
 | x :: r => match Nat.blt x k with
  | true => true
  | false => anyLt k r
def cfl : Ft → Ft → Bool
 | .n, _ => false
 | _, .n => false
 | .m r w, .m r' w' => meetN w w' || meetN w r' || meetN r w'
 | .m r w, .c k k' wl => !w.isEmpty || anyIn k k' wl r
 | .c k k' wl, .m r w => anyLt k w || anyLt k' w || anyIn k k' wl r
 | .c _ _ _, .c _ _ _ => true
def pairOk (fs : List Ft) : List (Nat × Nat) → Bool
 | [] => true
 | (i, j) :: r => match cfl (fs.getD i .n) (fs.getD j .n) with
  | true => false
  | false => pairOk fs r
def opdsOf : Op → List Operand
 | .call ⟨.value cf, args, _⟩ => cf :: args.toList
 | op => op.operands.toList
def slotsOf : List Operand → List Nat
 | [] => []
 | .tmp j :: r => j :: slotsOf r
 | _ :: r => slotsOf r
def slP (dep n : Nat) : List Nat → Option (List (Nat × List D4))
 | [] => some []
 | j :: r => (match Nat.blt j n, slP dep n r with
  | true, some l => some ((j, pth dep j) :: l)
  | _, _ => none)
def compGen (dep n : Nat) (d : Option Nat) (op : Op) : Option Ins := match slP dep n (slotsOf op.operands.toList) with
 | some sl => (match d with
  | some d => some (.gen (some (d, pth dep d)) sl op)
  | none => some (.gen none sl op))
 | none => none
def compO (dep n : Nat) (d : Option Nat) (op : Op) : Option Ins := match d with
 | none => (match op with
  | .store t x y => (match compP dep n x, compP dep n y with
   | some p, some q => some (.st t p q)
   | _, _ => none)
  | op => compGen dep n none op)
 | some d => (match Nat.blt d n with
  | false => none
  | true => (match op with
   | .move x => (match compP dep n x with
    | some p => some (.mv (pth dep d) p)
    | none => none)
   | .assign x => (match compP dep n x with
    | some p => some (.mv (pth dep d) p)
    | none => none)
   | .binOp o t x y _ => (match compP dep n x, compP dep n y with
    | some p, some q => some (.bin (pth dep d) o t p q)
    | _, _ => none)
   | .indexAddr t x y => (match compP dep n x, compP dep n y with
    | some p, some q => some (.idx (pth dep d) t p q)
    | _, _ => none)
   | .fieldAddr t x f => (match compP dep n x with
    | some p => some (.fad (pth dep d) t p f)
    | none => none)
   | .extract x j => (match compP dep n x with
    | some p => some (.ext (pth dep d) p j)
    | none => none)
   | .load t x => (match compP dep n x with
    | some p => some (.ld (pth dep d) t p)
    | none => none)
   | .call ⟨.value (.func f), args, _⟩ => (match compPs dep n args.toList with
    | some ps => some (.call (pth dep d) f ps)
    | none => none)
   | .call ⟨.value (.tmp j), args, _⟩ => (match compP dep n (.tmp j), compPs dep n args.toList with
    | some p, some ps => some (.calv (pth dep d) p ps)
    | _, _ => none)
   | .call ⟨.builtin .len, ⟨[x]⟩, ⟨[t]⟩⟩ => (match compP dep n x with
    | some p => some (.len (pth dep d) t p)
    | none => none)
   | op => compGen dep n (some d) op))
def compG (dep n : Nat) (opsL : List Oper) (o : Oper) : Option GI := match compO dep n o.dst o.op with
 | some i => (match o.guard with
  | none => some ⟨none, none, i⟩
  | some (j, want) => (match gslot opsL j with
   | some tg => (match Nat.blt tg n with
    | true => (match o.dst with
     | some d => some ⟨some (pth dep tg, want), some (pth dep d), i⟩
     | none => some ⟨some (pth dep tg, want), none, i⟩)
    | false => none)
   | none => none))
 | none => none
def compR (dep n : Nat) (opsL : List Oper) : List Oper → Option (List GI)
 | [] => some []
 | o :: os => (match compG dep n opsL o, compR dep n opsL os with
  | some g, some gs => some (g :: gs)
  | _, _ => none)
def slotK (opsL : List Oper) (o : Oper) : Ks :=
 ((match o.guard with
  | none => okeys (opdsOf o.op)
  | some (j, _) => (match gslot opsL j with
   | some tg => .s tg :: okeys (opdsOf o.op)
   | none => okeys (opdsOf o.op))),
  match o.dst with
  | some d => [.s d]
  | none => [])
def touches (o : Oper) : Bool := match o.dst with
 | none => true
 | some _ => (match o.op with
  | .move _ => false
  | .assign _ => false
  | .binOp _ _ _ _ _ => false
  | .indexAddr _ _ _ => false
  | .fieldAddr _ _ _ => false
  | .extract _ _ => false
  | _ => true)
def pairsI (m j : Nat) : List Oper → Nat → List (Nat × Nat)
 | [], _ => []
 | o :: os, i => if i < j then (if touches o && !m.testBit i then (i, j) :: pairsI m j os (i + 1) else pairsI m j os (i + 1)) else []
def pairsA (opsL : List Oper) : List Nat → List Oper → Nat → List (Nat × Nat)
 | m :: ms, o :: os, j => if touches o then pairsI m j opsL 0 ++ pairsA opsL ms os (j + 1) else pairsA opsL ms os (j + 1)
 | _, _, _ => []
def compReg (dep n : Nat) (ops : List Oper) (draw : Bool) : Option (List GI × Option (List (Nat × Nat))) := match compR dep n ops ops with
 | some gs => (match draw with
  | false => some (gs, none)
  | true => if ordB ops (ops.map (slotK ops)) = true then some (gs, some (pairsA ops (masks ops []) ops 0)) else none)
 | none => none
end Go.El

/- The engine, part 40: data that lie in memory; they are frozen when a contract takes them, and when a call ends. Own work; no condition. -/
namespace Go.El
open Go Go.RowKit
def eqLs {α β : Type} (f : α → β → Bool) : List α → List β → Bool
 | [], [] => true
 | x :: xs, y :: ys => f x y && eqLs f xs ys
 | _, _ => false
def eqD : (T T' : ET) → T.den → T'.den → Bool
 | .int k, .int k', (n : Int), (m : Int) => decide (k = k') && decide (n = m)
 | .bool, .bool, (a : Bool), (b : Bool) => a == b
 | .z, .z, (n : Int), (m : Int) => decide (n = m)
 | .q, .q, (a : Rat), (b : Rat) => decide (a.num = b.num) && decide (a.den = b.den)
 | .sl T, .sl T', (xs : List T.den), (ys : List T'.den) => eqT T T' && eqLs (fun x y => eqD T T' x y) xs ys
 | .pr A B, .pr A' B', x, y => eqD A A' x.1 y.1 && eqD B B' x.2 y.2
 | _, _, _, _ => false
where eqT : ET → ET → Bool
 | .int k, .int k' => decide (k = k')
 | .bool, .bool => true
 | .z, .z => true
 | .q, .q => true
 | .sl T, .sl T' => eqT T T'
 | .pr A B, .pr A' B' => eqT A A' && eqT B B'
 | _, _ => false
theorem eqT_eq : ∀ {T T' : ET}, eqD.eqT T T' = true → T = T' := by
 intro T
 induction T with
 | int k => intro T' h; cases T' <;> simp [eqD.eqT] at h; rw [h]
 | bool => intro T' h; cases T' <;> simp [eqD.eqT] at h; rfl
 | z => intro T' h; cases T' <;> simp [eqD.eqT] at h; rfl
 | q => intro T' h; cases T' <;> simp [eqD.eqT] at h; rfl
 | sl T ih => intro T' h; cases T' <;> simp [eqD.eqT] at h; rw [ih h]
 | pr A B iha ihb => intro T' h; cases T' <;> simp [eqD.eqT] at h; rw [iha h.1, ihb h.2]
theorem eqLs_eq {α : Type} {f : α → α → Bool} (hf : ∀ x y, f x y = true → x = y) : ∀ {xs ys : List α}, eqLs f xs ys = true → xs = ys
 | [], [], _ => rfl
 | x :: xs, y :: ys, h => by
  simp only [eqLs, Bool.and_eq_true] at h
  rw [hf _ _ h.1, eqLs_eq hf h.2]
 | [], _ :: _, h => by simp [eqLs] at h
 | _ :: _, [], h => by simp [eqLs] at h
theorem eqD_eq : ∀ (T : ET) (x y : T.den), eqD T T x y = true → x = y := by
 intro T
 induction T with
 | int k => intro x y h; simp only [eqD, Bool.and_eq_true, decide_eq_true_eq] at h; exact h.2
 | bool => intro x y h; exact eq_of_beq h
 | z => intro x y h; exact of_decide_eq_true h
 | q => intro x y h; simp only [eqD, Bool.and_eq_true, decide_eq_true_eq] at h; exact Rat.ext h.1 h.2
 | sl T ih => intro x y h; simp only [eqD, Bool.and_eq_true] at h; exact eqLs_eq ih h.2
 | pr A B iha ihb => intro x y h; simp only [eqD, Bool.and_eq_true] at h; exact Prod.ext (iha _ _ h.1) (ihb _ _ h.2)
def matLs {α : Type} (f : α → List C → Bool) (n : Nat) : List C → List α → Bool
 | _, [] => true
 | cs, x :: xs => f x (cs.take n) && matLs f n (cs.drop n) xs
def capOk (len : Nat) : Option Nat → Bool
 | none => true
 | some c => Nat.ble len c
def matSl (lk : Nat → Option Blk) (T : ET) (f : T.den → List C → Bool) (c : C) (xs : List T.den) : Bool :=
 match c with
 | .S T' ys => eqD (.sl T') (.sl T) ys xs
 | .V (.slice none 0 0) => xs.isEmpty
 | .L id off len cap => Nat.beq len xs.length && Nat.ble (len * T.n) 140737488355328 && capOk len cap && (match lk id with
  | some (.box _ _ cs) => matLs f T.n (cs.drop off) xs
  | some (.fz _ cs) => matLs f T.n (cs.drop off) xs
  | _ => false)
 | _ => false
def matZ (lk : Nat → Option Blk) (z : Int) : List C → Bool
 | [.B s, c] => (s == zneg z) && matSl lk (.int .u32) (fun n cs => match cs with | [.I .u32 m] => decide (m = n) | _ => false) c (zmag z)
 | _ => false
def matD (lk : Nat → Option Blk) : (T : ET) → T.den → List C → Bool
 | .int k, n, cs => (match cs with | [.I k' m] => decide (k' = k) && decide (m = n) | _ => false)
 | .bool, b, cs => (match cs with | [.B b'] => b' == b | _ => false)
 | .z, z, cs => matZ lk z cs
 | .q, r, cs => matZ lk r.num (cs.take 2) && matZ lk (r.den : Int) (cs.drop 2)
 | .sl T, xs, cs => (match cs with | [c] => matSl lk T (fun x cs => matD lk T x cs) c xs | _ => false)
 | .pr A B, x, cs => matD lk A x.1 (cs.take A.n) && matD lk B x.2 (cs.drop A.n)
def matC (lk : Nat → Option Blk) : C → C → Bool
 | .B b, .B b' => b == b'
 | .I k n, .I k' n' => decide (k = k') && decide (n = n')
 | c, .S T xs => matSl lk T (matD lk T) c xs
 | _, .any => true
 | _, _ => false
def matCs (lk : Nat → Option Blk) : List C → List C → Bool
 | [], [] => true
 | c :: cs, d :: ds => matC lk c d && matCs lk cs ds
 | _, _ => false
def matT (lk : Nat → Option Blk) : List (Bool × List C) → List (Bool × List C) → Bool
 | [], [] => true
 | (b, cs) :: r, (b', ds) :: r' => (b == b') && matCs lk cs ds && matT lk r r'
 | _, _ => false
def matA (lk : Nat → Option Blk) : AV → AV → Bool
 | .c x, .c y => matC lk x y
 | .a cs, .a ds => matCs lk cs ds
 | .t ss, .t rs => matT lk ss rs
 | _, _ => false
section
variable {F : Fix} {g : Gh} {W : World} {lk : Nat → Option Blk}
structure FzOk (HF : FH) (g : Gh) (W : World) (lk : Nat → Option Blk) : Prop where
 le : FLe g.H HF
 blk : ∀ id E cs, ((∃ sz, lk id = some (.box E sz cs)) ∨ lk id = some (.fz E cs)) → ∃ b, ∃ vs rest : List Value, El.blk (g.γ id) = some b ∧ (∀ o, HF b o = W.cell? ⟨b, o, none⟩) ∧ W.heap[b]? = some (.cells (vs ++ rest).toArray E (0, 0)) ∧ RelL g cs vs
variable {HF : FH}
theorem matLs_rel {α : Type} {R : α → List Value → Prop} {f : α → List C → Bool} {n : Nat} (hf : ∀ x cs vs, f x cs = true → RelL g cs vs → R x vs) (hn : ∀ x vs, R x vs → vs.length = n) : ∀ (xs : List α) {cs : List C} {vs : List Value}, matLs f n cs xs = true → RelL g cs vs → ∀ i (h : i < xs.length), R xs[i] ((vs.drop (i * n)).take n)
 | [], _, _, _, _, i, h => by simp at h
 | x :: xs, cs, vs, hm, hr, i, h => by
  simp only [matLs, Bool.and_eq_true] at hm
  cases i with
  | zero => simp only [Nat.zero_mul, List.drop_zero, List.getElem_cons_zero]; exact hf _ _ _ hm.1 (hr.take n)
  | succ i =>
   have := matLs_rel hf hn xs hm.2 (hr.drop n) i (by simpa using h)
   rw [List.drop_drop, show n + i * n = (i + 1) * n by rw [Nat.add_mul]; omega] at this
   simpa using this
theorem matSl_rel (ok : FzOk HF g W lk) {T : ET} {f : T.den → List C → Bool} (hf : ∀ x cs vs, f x cs = true → RelL g cs vs → RelD HF T x vs) {c : C} {xs : List T.den} {v : Value} (hm : matSl lk T f c xs = true) (hr : RelC g c v) : RelSl (RelD HF T) T.n HF xs v := by
 unfold matSl at hm
 split at hm
 ·rename_i T' ys
  have hT : T' = T := by simp only [eqD, Bool.and_eq_true] at hm; exact eqT_eq hm.1
  subst hT
  have := eqD_eq (.sl T') ys xs hm
  subst this
  exact RelSl.mono hr ok.le (fun x cs => RelD.mono ok.le T' x cs)
 ·have : xs = [] := List.isEmpty_iff.1 hm
  subst this
  simp only [RelC] at hr
  exact ⟨none, 0, hr, Nat.le_refl _, by simp, .inl rfl⟩
 ·rename_i id off len cap
  simp only [Bool.and_eq_true] at hm
  obtain ⟨⟨⟨h1, h2⟩, h3⟩, h4⟩ := hm
  have h1 := Nat.eq_of_beq_eq_true h1
  have h2 := Nat.le_of_ble_eq_true h2
  subst h1
  have h4 : ∃ E cs, ((∃ sz, lk id = some (.box E sz cs)) ∨ lk id = some (.fz E cs)) ∧ matLs f T.n (cs.drop off) xs = true := by
   split at h4
   ·rename_i E sz cs hl; exact ⟨E, cs, .inl ⟨sz, hl⟩, h4⟩
   ·rename_i E cs hl; exact ⟨E, cs, .inr hl, h4⟩
   ·cases h4
  ·obtain ⟨E, cs, hl, h4⟩ := h4
   obtain ⟨b, vs, rest, hb, hs, hh, hrl⟩ := ok.blk id E cs hl
   have key := matLs_rel (R := RelD HF T) hf (fun x vs h => RelD.length T x vs h) xs h4 (hrl.drop off)
   have hv : ∃ c, v = .slice (some ⟨b, off, none⟩) xs.length c ∧ xs.length ≤ c := by
    cases cap with
    | none =>
     obtain ⟨e0, b', c, e1, e2, e3⟩ := hr
     rw [e1] at hb
     simp only [El.blk, Option.some.injEq] at hb
     subst hb
     exact ⟨c, by rw [e0]; exact e2, e3⟩
    | some c =>
     obtain ⟨b', e1, e2⟩ := hr
     rw [hb] at e1
     cases e1
     exact ⟨c, e2, Nat.le_of_ble_eq_true h3⟩
   obtain ⟨c, hv, hc⟩ := hv
   refine ⟨some ⟨b, off, none⟩, c, hv, hc, h2, ?_⟩
   by_cases hx : xs = []
   ·exact .inl hx
   ·refine .inr ⟨b, off, rfl, fun i hi => ⟨_, RelD.length T _ _ (key i hi), key i hi, fun j hj => ?_⟩⟩
    rw [hs]
    simp only [List.length_take, List.length_drop] at hj
    simp only [List.getElem_take, List.getElem_drop]
    rw [show off + i * T.n + j = off + (i * T.n + j) by omega]
    simp only [World.cell?, hh, List.getElem?_toArray]
    rw [List.getElem?_append_left (by omega)]
    exact List.getElem?_eq_getElem (by omega)
 ·cases hm
theorem matZ_rel (ok : FzOk HF g W lk) {z : Int} {cs : List C} {vs : List Value} (hm : matZ lk z cs = true) (hr : RelL g cs vs) : RelZ HF z vs := by
 unfold matZ at hm
 split at hm
 ·rename_i b c
  simp only [Bool.and_eq_true] at hm
  obtain ⟨v, r, rfl, h1, v', r', rfl, h2, h3⟩ := hr
  simp only [RelL] at h3
  simp only [RelC] at h1
  subst h3 h1
  rw [eq_of_beq hm.1]
  refine ⟨v', rfl, matSl_rel (T := .int .u32) ok ?_ hm.2 h2⟩
  intro x cs vs hf hrl
  split at hf
  ·obtain ⟨u, r, rfl, h1, h2⟩ := hrl
   simp only [RelL] at h2
   simp only [RelC] at h1
   subst h2 h1
   rw [of_decide_eq_true hf]; rfl
  ·cases hf
 ·cases hm
theorem matD_rel (ok : FzOk HF g W lk) : ∀ (T : ET) (x : T.den) (cs : List C) (vs : List Value), matD lk T x cs = true → RelL g cs vs → RelD HF T x vs := by
 intro T
 induction T with
 | int k =>
  intro x cs vs hm hr
  simp only [matD] at hm
  split at hm
  ·obtain ⟨u, r, rfl, h1, h2⟩ := hr
   simp only [RelL] at h2
   simp only [RelC] at h1
   simp only [Bool.and_eq_true, decide_eq_true_eq] at hm
   subst h2 h1
   rw [hm.1, hm.2]; rfl
  ·cases hm
 | bool =>
  intro x cs vs hm hr
  simp only [matD] at hm
  split at hm
  ·obtain ⟨u, r, rfl, h1, h2⟩ := hr
   simp only [RelL] at h2
   simp only [RelC] at h1
   subst h2 h1
   rw [eq_of_beq hm]; rfl
  ·cases hm
 | z => intro x cs vs hm hr; exact matZ_rel ok hm hr
 | q =>
  intro x cs vs hm hr
  simp only [matD, Bool.and_eq_true] at hm
  exact ⟨vs.take 2, vs.drop 2, (List.take_append_drop 2 vs).symm, matZ_rel ok hm.1 (hr.take 2), matZ_rel ok hm.2 (hr.drop 2)⟩
 | sl T ih =>
  intro x cs vs hm hr
  simp only [matD] at hm
  split at hm
  ·obtain ⟨u, r, rfl, h1, h2⟩ := hr
   simp only [RelL] at h2
   subst h2
   exact ⟨u, rfl, matSl_rel ok ih hm h1⟩
  ·cases hm
 | pr A B iha ihb =>
  intro x cs vs hm hr
  simp only [matD, Bool.and_eq_true] at hm
  exact ⟨vs.take A.n, vs.drop A.n, (List.take_append_drop _ vs).symm, iha _ _ _ hm.1 (hr.take _), ihb _ _ _ hm.2 (hr.drop _)⟩
theorem matC_rel (ok : FzOk HF g W lk) {c d : C} {v : Value} (hm : matC lk c d = true) (hr : RelC g c v) : RelC ⟨HF, noγ⟩ d v := by
 unfold matC at hm
 split at hm
 ·rw [← eq_of_beq hm]; exact hr
 ·simp only [Bool.and_eq_true, decide_eq_true_eq] at hm; rw [← hm.1, ← hm.2]; exact hr
 ·exact matSl_rel ok (matD_rel ok _) hm hr
 ·trivial
 ·cases hm
theorem matCs_rel (ok : FzOk HF g W lk) : ∀ {cs ds : List C} {vs : List Value}, matCs lk cs ds = true → RelL g cs vs → RelL ⟨HF, noγ⟩ ds vs
 | [], [], _, _, h => h
 | c :: cs, d :: ds, _, hm, h => by
  simp only [matCs, Bool.and_eq_true] at hm
  obtain ⟨v, r, rfl, h1, h2⟩ := h
  exact ⟨v, r, rfl, matC_rel ok hm.1 h1, matCs_rel ok hm.2 h2⟩
 | [], _ :: _, _, hm, _ => by simp [matCs] at hm
 | _ :: _, [], _, hm, _ => by simp [matCs] at hm
theorem matT_rel (ok : FzOk HF g W lk) : ∀ {ss rs : List (Bool × List C)} {vs : List Value}, matT lk ss rs = true → RelT g ss vs → RelT ⟨HF, noγ⟩ rs vs
 | [], [], _, _, h => h
 | (b, cs) :: ss, (b', ds) :: rs, _, hm, h => by
  simp only [matT, Bool.and_eq_true] at hm
  obtain ⟨⟨hb, hc⟩, ht⟩ := hm
  have hb := eq_of_beq hb
  subst hb
  obtain ⟨v, r, rfl, h1, h2⟩ := h
  refine ⟨v, r, rfl, ?_, matT_rel ok ht h2⟩
  cases b with
  | true => obtain ⟨us, e, h1⟩ := h1; exact ⟨us, e, matCs_rel ok hc h1⟩
  | false =>
   match cs, ds, hc, h1 with
   | [c], [d], hc, h1 => simp only [matCs, Bool.and_eq_true] at hc; exact matC_rel ok hc.1 h1
   | [c], [], hc, _ => simp [matCs] at hc
   | [c], _ :: _ :: _, hc, _ => simp [matCs] at hc
   | [], _, _, h1 => exact h1.elim
   | _ :: _ :: _, _, _, h1 => exact h1.elim
 | [], _ :: _, _, hm, _ => by simp [matT] at hm
 | _ :: _, [], _, hm, _ => by simp [matT] at hm
theorem matA_rel (ok : FzOk HF g W lk) {x y : AV} {v : Value} (hm : matA lk x y = true) (hr : RelV g x v) : RelV ⟨HF, noγ⟩ y v := by
 cases x <;> cases y <;> simp only [matA] at hm <;> try cases hm
 ·exact matC_rel ok hm hr
 ·obtain ⟨vs, e, h⟩ := hr; exact ⟨vs, e, matCs_rel ok hm h⟩
 ·obtain ⟨vs, e, h⟩ := hr; exact ⟨vs, e, matT_rel ok hm h⟩
end
def matVs (lk : Nat → Option Blk) : List AV → List AV → Bool
 | [], [] => true
 | x :: xs, y :: ys => matA lk x y && matVs lk xs ys
 | _, _ => false
theorem matVs_rel {lk : Nat → Option Blk} {HF : FH} {g : Gh} {W : World} (ok : FzOk HF g W lk) : ∀ {xs ys : List AV} {vs : List Value}, matVs lk xs ys = true → RelVs g xs vs → RelVs ⟨HF, noγ⟩ ys vs
 | [], [], _, _, h => h
 | x :: xs, y :: ys, _, hm, h => by
  simp only [matVs, Bool.and_eq_true] at hm
  obtain ⟨v, r, rfl, h1, h2⟩ := h
  exact ⟨v, r, rfl, matA_rel ok hm.1 h1, matVs_rel ok hm.2 h2⟩
 | [], _ :: _, _, hm, _ => by simp [matVs] at hm
 | _ :: _, [], _, hm, _ => by simp [matVs] at hm
theorem matVs_len {lk : Nat → Option Blk} : ∀ {xs ys : List AV}, matVs lk xs ys = true → ys.length = xs.length
 | [], [], _ => rfl
 | x :: xs, y :: ys, hm => by
  simp only [matVs, Bool.and_eq_true] at hm
  simp [matVs_len hm.2]
 | [], _ :: _, hm => by simp [matVs] at hm
 | _ :: _, [], hm => by simp [matVs] at hm
section
variable {P : Program}
theorem relVs_of {g : Gh} : ∀ (vs : List AV) (us : List Value) (i : Nat) (all : List Value), us.length = vs.length → (∀ j, j < us.length → all[i + j]? = us[j]?) → (∀ t v, lookA t (argSl i vs) = some v → RelV g v (all.toArray.getD t undef)) → RelVs g vs us := by
 intro vs
 induction vs with
 | nil => intro us i all hl _ _; exact List.eq_nil_of_length_eq_zero (by simpa using hl)
 | cons x vs ih =>
  intro us i all hl hall hr
  cases us with
  | nil => simp at hl
  | cons u us =>
   refine ⟨u, us, rfl, ?_, ih us (i + 1) all (by simpa using hl) ?_ ?_⟩
   ·have h1 := hr i x (by simp [argSl, lookA])
    have h2 := hall 0 (by simp)
    simp only [Nat.add_zero, List.getElem?_cons_zero] at h2
    simpa [h2] using h1
   ·intro j hj
    have := hall (j + 1) (by simpa using hj)
    rw [show i + 1 + j = i + (j + 1) by omega]
    simpa using this
   ·intro t v ht
    refine hr t v ?_
    have hne : ∀ (l : List AV) (i' : Nat), i < i' → ∀ v, lookA i (argSl i' l) = some v → False := by
     intro l
     induction l with
     | nil => intro i' _ v h; simp [argSl, lookA] at h
     | cons y l ihl =>
      intro i' hlt v h
      simp only [argSl, lookA] at h
      split at h
      ·omega
      ·exact ihl (i' + 1) (by omega) v h
    simp only [argSl, lookA]
    split
    ·rename_i e
     subst e
     exact (hne vs (i + 1) (by omega) v ht).elim
    ·exact ht
def fzB : Blk → Blk
 | .box E _ cs => .fz E cs
 | b => b
theorem fzB_mids (b : Blk) : (fzB b).mids = b.mids := by cases b <;> rfl
open Classical in
theorem fs_cxZ {f : FuncId} {vs vs' : List AV} {r : AV} (h : FnS P f vs' r) (hm : midsVs vs' = []) {fm fm' : List (Nat × Blk)} (D : List Nat) (hD : ∀ id, lookA id fm' = if id ∈ D then (lookA id fm).map fzB else lookA id fm) {lk : Nat → Option Blk} (hlk : ∀ id b, lk id = some b → id ∈ D ∧ lookA id fm = some b) (hmat : matVs lk vs vs' = true) (k : Nat) : CX P f vs fm k r fm' k := by
 refine ⟨h.call, Nat.le_refl _, ?_⟩
 intro F g W us hn hul hh
 have hrel : RelVs g vs us := relVs_of vs us 0 us hul (fun j hj => by simp) (fun t v ht => hh.slots t v (by simp [St.kn, ht]))
 have hkn : ∀ id, St.kn ⟨argSl 0 vs, fm, 0, []⟩ (.m id) = (lookA id fm).map .b := fun _ => rfl
 let B : Nat → Prop := fun b => ∃ id E sz cs, id ∈ D ∧ lookA id fm = some (.box E sz cs) ∧ blk (g.γ id) = some b
 let HF : FH := fun b o => if B b then W.cell? ⟨b, o, none⟩ else g.H b o
 have hBz : ∀ b, B b → (∀ o, g.H b o = none) ∧ F.N b := by
  rintro b ⟨id, E, sz, cs, _, hl, hb⟩
  obtain ⟨b', ws, rest, e1, e2, e3, e4, e5, _⟩ := hh.blks id (.box E sz cs) (by rw [hkn, hl]; rfl)
  rw [hb] at e1
  cases e1
  exact ⟨e5, e4⟩
 have hle : FLe g.H HF := by
  intro b o v hv
  by_cases e : B b
  ·rw [(hBz b e).1] at hv; cases hv
  ·simp only [HF, e, if_false]; exact hv
 have ok : FzOk HF g W lk := by
  refine ⟨hle, fun id E cs hl => ?_⟩
  rcases hl with ⟨sz, hl⟩ | hl
  ·obtain ⟨hid, hl⟩ := hlk id _ hl
   obtain ⟨b, ws, rest, e1, e2, e3, e4, e5, _⟩ := hh.blks id (.box E sz cs) (by rw [hkn, hl]; rfl)
   have hB : B b := ⟨id, E, sz, cs, hid, hl, e1⟩
   exact ⟨b, ws, rest, e1, fun o => by simp only [HF, hB, if_true], e2, e3⟩
  ·obtain ⟨hid, hl⟩ := hlk id _ hl
   obtain ⟨b, ws, rest, e1, e2, e3, e4, e5⟩ := hh.blks id (.fz E cs) (by rw [hkn, hl]; rfl)
   have hnB : ¬ B b := by
    rintro ⟨id', E', sz, cs', hid', hl', hb'⟩
    have := hh.inj id id' (.fz E cs) (.box E' sz cs') b (by rw [hkn, hl]; rfl) (by rw [hkn, hl']; rfl) e1 hb'
    subst this
    rw [hl] at hl'
    cases hl'
   exact ⟨b, ws, rest, e1, fun o => by simp only [HF, hnB, if_false, e5]; simp [World.cell?, e2], e2, e3⟩
 have hrel' := matVs_rel ok hmat hrel
 have hsub : Sub HF W := by
  intro b o v hv
  by_cases e : B b
  ·simp only [HF, e, if_true] at hv; exact hv
  ·simp only [HF, e, if_false] at hv; exact hh.sub b o v hv
 have hlen := matVs_len hmat
 have h2 : Hold F (· < k) (St.kn ⟨argSl 0 vs', fm', 0, []⟩) ⟨HF, g.γ⟩ W (actN us) := by
  have hM : ∀ id b, St.kn ⟨argSl 0 vs', fm', 0, []⟩ (.m id) = some (.b b) → ∃ b0, lookA id fm = some b0 ∧ ((id ∉ D ∧ b = b0) ∨ (id ∈ D ∧ b = fzB b0)) := by
   intro id b hb
   have e : St.kn ⟨argSl 0 vs', fm', 0, []⟩ (.m id) = (lookA id fm').map .b := rfl
   rw [e, hD] at hb
   split at hb
   ·rename_i hd
    cases hl : lookA id fm with
    | none => rw [hl] at hb; cases hb
    | some b0 => rw [hl] at hb; cases hb; exact ⟨b0, rfl, .inr ⟨hd, rfl⟩⟩
   ·rename_i hnd
    simp only [Option.map_eq_some_iff] at hb
    obtain ⟨x, hx, he⟩ := hb
    cases he
    exact ⟨_, hx, .inl ⟨hnd, rfl⟩⟩
  have hmid : ∀ id b, St.kn ⟨argSl 0 vs', fm', 0, []⟩ (.m id) = some (.b b) → ∃ b0, lookA id fm = some b0 ∧ b.mids = b0.mids := by
   intro id b hb
   obtain ⟨b0, hl, h⟩ := hM id b hb
   refine ⟨b0, hl, ?_⟩
   rcases h with ⟨_, rfl⟩ | ⟨_, rfl⟩
   ·rfl
   ·exact fzB_mids b0
  refine ⟨hh.size, hh.defers, ?_, ?_, ?_, ?_, ?_, hsub, hh.below, hh.le.trans hle, ?_, hh.kfix⟩
  ·intro t v ht
   simp only [St.kn, Option.map_eq_some_iff] at ht
   obtain ⟨x, hx, he⟩ := ht
   cases he
   obtain ⟨_, u, hu, hr, hmid⟩ := argSl_look vs' us 0 hrel' t v hx
   have hu' : us[t]? = some u := by simpa using hu
   simp only [actN, Array.getD_eq_getD_getElem?, List.getElem?_toArray, hu', Option.getD_some]
   refine hr.noid ?_ (FLe.refl _) g.γ
   refine List.eq_nil_iff_forall_not_mem.2 (fun id hid => ?_)
   have := hmid id hid
   rw [hm] at this
   cases this
  ·intro id b hb
   obtain ⟨b0, hl, hcase⟩ := hM id b hb
   have hb0 : St.kn ⟨argSl 0 vs, fm, 0, []⟩ (.m id) = some (.b b0) := by rw [hkn, hl]; rfl
   have hrep := hh.blks id b0 hb0
   have keep : (∀ E sz cs, b0 = .box E sz cs → id ∉ D) → RepB F.N ⟨HF, g.γ⟩ W id b0 := by
    intro hno
    refine hrep.keep (known := (· < k)) ⟨hle, fun _ _ => rfl⟩ (hh.mkn id _ hb0) (fun j hj => hh.mids _ _ hb0 j hj) (fun kk hkk => ⟨rfl, fun o => ?_⟩)
    have hnB : ¬ B kk := by
     rintro ⟨id', E, sz, cs, hid', hl', hb'⟩
     have := hh.inj id id' b0 (.box E sz cs) kk hb0 (by rw [hkn, hl']; rfl) hkk hb'
     subst this
     rw [hl] at hl'
     cases hl'
     exact hno E sz cs rfl hid'
    simp only [HF, hnB, if_false]
   rcases hcase with ⟨hnd, rfl⟩ | ⟨hd, rfl⟩
   ·exact keep (fun _ _ _ _ => hnd)
   ·cases b0 with
    | box E sz cs =>
     obtain ⟨b, ws, rest, e1, e2, e3, e4, e5, _⟩ := hrep
     have hB : B b := ⟨id, E, sz, cs, hd, hl, e1⟩
     exact ⟨b, ws, rest, e1, e2, RelL.mono (known := (· < k)) (g := g) (g' := ⟨HF, g.γ⟩) ⟨hle, fun _ _ => rfl⟩ (fun j hj => hh.mids _ _ hb0 j hj) e3, e4, fun o => by simp only [HF, hB, if_true]; simp [World.cell?, e2]⟩
    | vec E T xs => exact keep (fun _ _ _ e => by cases e)
    | clo f a b => exact keep (fun _ _ _ e => by cases e)
    | fz E cs => exact keep (fun _ _ _ e => by cases e)
  ·intro id id' b b' kk hb hb' h1 h2
   obtain ⟨b0, hl, _⟩ := hM id b hb
   obtain ⟨b1, hl', _⟩ := hM id' b' hb'
   exact hh.inj id id' b0 b1 kk (by rw [hkn, hl]; rfl) (by rw [hkn, hl']; rfl) h1 h2
  ·intro key x hx id hid
   cases key with
   | m j =>
    cases x with
    | b b' =>
     obtain ⟨b0, hl, hmm⟩ := hmid j b' hx
     have hid : id ∈ b'.mids := hid
     rw [hmm] at hid
     exact hh.mids (.m j) (.b b0) (by rw [hkn, hl]; rfl) id hid
    | v v' => simp only [St.kn, Option.map_eq_some_iff] at hx; obtain ⟨_, _, he⟩ := hx; cases he
   | s t =>
    simp only [St.kn, Option.map_eq_some_iff] at hx
    obtain ⟨y, hy, he⟩ := hx
    subst he
    obtain ⟨_, _, _, _, h6⟩ := argSl_look vs' us 0 hrel' t y hy
    have := h6 id hid
    rw [hm] at this
    cases this
  ·intro id x hx
   cases x with
   | b b' => obtain ⟨b0, hl, _⟩ := hmid id b' hx; exact hh.mkn id (.b b0) (by rw [hkn, hl]; rfl)
   | v v' => simp only [St.kn, Option.map_eq_some_iff] at hx; obtain ⟨_, _, he⟩ := hx; cases he
  ·intro b o hb hno
   have hnB : ¬ B b := by
    intro e
    rcases (hBz b e).2 with h1 | h1
    ·omega
    ·exact hno h1
   simp only [HF, hnB, if_false]
   exact hh.fresh b o hb hno
 exact (fs_cxM h hm fm' k).spec F ⟨HF, g.γ⟩ W us (by rw [hlen]; exact hn) (by rw [hlen]; exact hul) h2
end
end Go.El

/- The fast interpreter, part 3: code and calls. Own work; no condition. -/
namespace Go.El
open Go Go.RowKit
inductive Rc where
 | no
 | nor (t : Tr) (ms : Ms) (k : Nat) (wl : List Nat)
 | exi (id : Nat) (t : Tr) (ms : Ms) (k : Nat) (wl : List Nat)
 | ret (t : Tr) (ms : Ms) (k : Nat) (wl : List Nat)
def depOf (n : Nat) : Nat := if n ≤ 16 then 2 else if n ≤ 64 then 3 else if n ≤ 256 then 4 else if n ≤ 1024 then 5 else 6
noncomputable def argT (dep : Nat) (vs : List AV) : Nat → Tr → Tr := List.rec (motive := fun _ => Nat → Tr → Tr) (fun _ t => t)
 (fun v _ ih i t => ih (i + 1) (setT (pth dep i) v t)) vs
noncomputable def resOneF (tt : TT) (dep n : Nat) (t : Tr) (ms : Ms) : ResultVar → Option AV
 | .tmp j => (match Nat.blt j n with
  | true => getT (pth dep j) t
  | false => none)
 | .cell j ty => (match Nat.blt j n with
  | true => (match getT (pth dep j) t with
   | some (.c (.P id off)) => (match lookS id ms, tySz tt ty with
    | some (.box _ _ cs), some (sz, ag) => partA cs off sz ag
    | _, _ => none)
   | _ => none)
  | false => none)
noncomputable def resLF (tt : TT) (dep n : Nat) (t : Tr) (ms : Ms) : List ResultVar → Option (List (Bool × List C))
 | [] => some []
 | x :: xs => (match resOneF tt dep n t ms x with
  | some v => (match toS v, resLF tt dep n t ms xs with
   | some s, some r => some (s :: r)
   | _, _ => none)
  | none => none)
noncomputable def resAllF (tt : TT) (dep n : Nat) (t : Tr) (ms : Ms) : List ResultVar → Option AV
 | [x] => resOneF tt dep n t ms x
 | xs => (match resLF tt dep n t ms xs with
  | some ss => some (.t ss)
  | none => none)
noncomputable def reachF : Nat → Mem → List Nat → Mem → Mem
 | 0, _, _, acc => acc
 | _ + 1, _, [], acc => acc
 | f + 1, own, id :: todo, acc => match lookF id acc with
  | some _ => reachF f own todo acc
  | none => (match lookF id own with
   | some b => reachF f own (b.mids ++ todo) ((id, b) :: acc)
   | none => reachF f own todo acc)
noncomputable def idsOk (k : Nat) (ms : Ms) : List Nat → Bool
 | [] => true
 | id :: r => (match Nat.ble k id with
  | true => idsOk k ms r
  | false => (match lookS id ms with
   | some _ => idsOk k ms r
   | none => false))
noncomputable def svOk (k : Nat) (ms : Ms) : Mem → Bool
 | [] => true
 | (id, b) :: r => (match Nat.ble k id with
  | true => (match idsOk k ms b.mids with
   | true => svOk k ms r
   | false => false)
  | false => false)
noncomputable def wlOk (k : Nat) (ms ms' : Ms) : List Nat → Bool
 | [] => true
 | id :: r => (match lookS id ms' with
  | some b => (match idsOk k ms b.mids with
   | true => wlOk k ms ms' r
   | false => false)
  | none => wlOk k ms ms' r)
noncomputable def ownOk (k : Nat) (l : Mem) : Bool := List.rec (motive := fun _ => Bool) true (fun h _ ih => Bool.rec (motive := fun _ => Bool) false ih (Nat.ble k h.1)) l
def pushS (sv : Mem) : Ms → Ms
 | m :: r => (sv ++ m) :: r
 | [] => [sv]
noncomputable def wlIds (ms : Ms) : List Nat → List Nat
 | [] => []
 | id :: r => (match lookS id ms with
  | some b => b.mids ++ wlIds ms r
  | none => wlIds ms r)
noncomputable def leave (tt : TT) (fn : Func) (dep : Nat) (ms : Ms) (k : Nat) (t : Tr) (ms' : Ms) (k' : Nat) (wl : List Nat) : Cr := match resAllF tt dep fn.ntmps t ms' fn.results.toList with
 | some r => (match ms' with
  | own :: rest => (match reachF 1000 own (r.mids ++ wlIds rest wl) [] with
   | sv => (match idsOk k ms r.mids && svOk k ms sv && wlOk k ms rest wl && ownOk k own with
    | true => .ok r (pushS sv rest) k' wl
    | false => .no))
  | [] => .no)
 | none => .no
noncomputable def idsZ (ms : Ms) : Nat → List Nat → List Nat → List Nat
 | 0, _, acc => acc
 | _ + 1, [], acc => acc
 | f + 1, id :: todo, acc => match acc.any (Nat.beq id) with
  | true => idsZ ms f todo acc
  | false => (match lookS id ms with
   | some b => idsZ ms f (b.mids ++ todo) (id :: acc)
   | none => idsZ ms f todo acc)
noncomputable def lkS (D : List Nat) (ms : Ms) (id : Nat) : Option Blk := match D.any (Nat.beq id) with
 | true => lookS id ms
 | false => none
noncomputable def fzS : List Nat → Ms → Ms
 | [], ms => ms
 | id :: r, ms => (match lookS id ms with
  | some (.box E _ cs) => fzS r (putS id (.fz E cs) ms)
  | _ => fzS r ms)
abbrev BodyF := Nat → Nat → Nat → Code → Tr → Ms → Nat → List Nat → Rc
noncomputable def callF (P : Program) (tt : TT) (con : FuncId → List AV → Ms → Option (List AV × AV)) (body : BodyF) : CallG := fun f vs ms k =>
 match con f vs ms with
 | some (vs', r) => (match idsZ ms 200 (midsVs vs) [] with
  | D => (match matVs (lkS D ms) vs vs' && (midsVs vs').isEmpty && wlOk k ms (fzS D ms) D with
   | true => .ok r (fzS D ms) k D
   | false => .no))
 | none => (match P.funcs[f]? with
  | some fn => (match fn.body with
   | some c => (match fn.name != "runtime.NumGoroutine" && Nat.ble vs.length fn.ntmps && Nat.ble fn.ntmps 4096 with
    | true => (match body (depOf fn.ntmps) fn.ntmps k c (argT (depOf fn.ntmps) vs 0 .e) ([] :: ms) k [] with
     | .nor t ms' k' wl => leave tt fn (depOf fn.ntmps) ms k t ms' k' wl
     | .ret t ms' k' wl => leave tt fn (depOf fn.ntmps) ms k t ms' k' wl
     | _ => .no)
    | false => .no)
   | none => .no)
  | none => .no)
noncomputable def rSeq (ih : BodyF) (dep n ke : Nat) (x y : Code) (t : Tr) (ms : Ms) (k : Nat) (wl : List Nat) : Rc := match ih dep n ke x t ms k wl with
 | .nor t1 ms1 k1 wl1 => ih dep n ke y t1 ms1 k1 wl1
 | r => r
noncomputable def rCond (ih : BodyF) (dep n ke : Nat) (c : Operand) (x y : Code) (t : Tr) (ms : Ms) (k : Nat) (wl : List Nat) : Rc := match compP dep n c with
 | some p => (match evP t p with
  | some (.c (.B b)) => (match b with
   | true => ih dep n ke x t ms k wl
   | false => ih dep n ke y t ms k wl)
  | _ => .no)
 | none => .no
noncomputable def rBlock (ih : BodyF) (dep n ke : Nat) (id : Nat) (x : Code) (t : Tr) (ms : Ms) (k : Nat) (wl : List Nat) : Rc := match ih dep n ke x t ms k wl with
 | .exi id' t1 ms1 k1 wl1 => (match Nat.beq id' id with
  | true => .nor t1 ms1 k1 wl1
  | false => .exi id' t1 ms1 k1 wl1)
 | r => r
noncomputable def rLoop (ih : BodyF) (dep n ke : Nat) (x : Code) (t : Tr) (ms : Ms) (k : Nat) (wl : List Nat) : Rc := match ih dep n ke x t ms k wl with
 | .nor t1 ms1 k1 wl1 => ih dep n ke (.loop x) t1 ms1 k1 wl1
 | r => r
def rT : Rs → Rc
 | .ok t1 ms1 k1 wl1 _ => .nor t1 ms1 k1 wl1
 | .no => .no
def rD (ps : List (Nat × Nat)) : Rd → Rc
 | .ok t1 ms1 k1 wl1 fs => (match pairOk fs.reverse ps with
  | true => .nor t1 ms1 k1 wl1
  | false => .no)
 | .no => .no
noncomputable def rReg (cal : CallG) (tt : TT) (dep n ke : Nat) (ops : List Oper) (draw : Bool) (t : Tr) (ms : Ms) (k : Nat) (wl : List Nat) : Rc := match compReg dep n ops draw with
 | some (gs, none) => rT (regT cal tt n ke gs t ms k wl)
 | some (gs, some ps) => rD ps (regD cal tt n ke gs t ms k wl [])
 | none => .no
noncomputable def rStep (P : Program) (tt : TT) (con : FuncId → List AV → Ms → Option (List AV × AV)) (ih : BodyF) (dep n ke : Nat) : Code → Tr → Ms → Nat → List Nat → Rc
 | .skip => .nor
 | .exit id => .exi id
 | .ret => .ret
 | .seq x y => rSeq ih dep n ke x y
 | .cond c x y => rCond ih dep n ke c x y
 | .block id x => rBlock ih dep n ke id x
 | .loop x => rLoop ih dep n ke x
 | .region _ ops draw => rReg (callF P tt con ih) tt dep n ke ops.toList draw
 | _ => fun _ _ _ _ => .no
noncomputable def runF (P : Program) (tt : TT) (con : FuncId → List AV → Ms → Option (List AV × AV)) (fuel : Nat) : BodyF := Nat.rec (motive := fun _ => BodyF)
 (fun _ _ _ _ _ _ _ _ => .no) (fun _ ih => rStep P tt con ih) fuel
end Go.El
