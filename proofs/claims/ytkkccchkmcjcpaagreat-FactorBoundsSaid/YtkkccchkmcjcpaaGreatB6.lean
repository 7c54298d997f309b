/- The engine over this seat's program: short rules. Own work; no condition. -/
import Derived.Test.YtkkccchkmcjcpaaGreatB5
import Derived.Test.YtkkccchkmcjcpaaGreatB1
namespace Go.El
open Go Go.Proofs
abbrev U32 : ET := .int .u32
abbrev U64 : ET := .int .u64
abbrev I64 : ET := .int .i64
abbrev I8 : ET := .int .i8
abbrev cI (n : Int) : AV := .c (.I .i64 n)
abbrev cU (n : Int) : AV := .c (.I .u64 n)
abbrev cW (n : Int) : AV := .c (.I .u32 n)
abbrev cB (b : Bool) : AV := .c (.B b)
abbrev cS (T : ET) (xs : List T.den) : AV := .c (.S T xs)
abbrev aZ (z : Int) : AV := .a (av .z z)
abbrev aQ (q : Rat) : AV := .a (av .q q)

section
variable {n : Nat} {Q : Post} {sl sl' : List (Nat × AV)} {mem mem' : List (Nat × Blk)} {nx : Nat} {gd gd' : List (Nat × Bool)} {id : Nat} {ops : Array Oper} {draw : Bool} {y : Code} {p : Pr} {ks ks' : List Ks} {i i' n0 n0' : Nat}

/-- A region that goes by itself, and what follows. -/
theorem rr (h : runs TTab n nx draw ops.toList ops.toList 0 ⟨sl, mem, nx, gd⟩ .t [] = ([], i', ⟨sl', mem', n0, gd'⟩, p, ks)) (hk : TR Tryz.prog n y ⟨sl', mem', nx + 1, []⟩ Q)
    (hp : p := by first | trivial | (simp only [Pr.an, Pr.h, num, i64r, true_and, and_true]; first | done | omega) | (simp [Pr.an, Pr.h, num, i64r]; done) | (simp [Pr.an, Pr.h, num, i64r]; omega)) (ho : (!draw || ordB ops.toList ks) = true := by kernel_rfl) (hsz : Nat.ble ops.size 1000 = true := by rfl) : TR Tryz.prog n (.seq (.region id ops draw) y) ⟨sl, mem, nx, gd⟩ Q :=
  tr_seq (tr_region MX (rg_run TT_ok h hp (rg_nil hk ho hsz)))
/-- The same, at the end of a sequence. -/
theorem rt (h : runs TTab n nx draw ops.toList ops.toList 0 ⟨sl, mem, nx, gd⟩ .t [] = ([], i', ⟨sl', mem', n0, gd'⟩, p, ks)) (hk : AtQ n .normal ⟨sl', mem', nx + 1, []⟩ Q)
    (hp : p := by first | trivial | (simp only [Pr.an, Pr.h, num, i64r, true_and, and_true]; first | done | omega) | (simp [Pr.an, Pr.h, num, i64r]; done) | (simp [Pr.an, Pr.h, num, i64r]; omega)) (ho : (!draw || ordB ops.toList ks) = true := by kernel_rfl) (hsz : Nat.ble ops.size 1000 = true := by rfl) : TR Tryz.prog n (.region id ops draw) ⟨sl, mem, nx, gd⟩ Q :=
  tr_region MX (rg_run TT_ok h hp (rg_nil hk ho hsz))
/-- A region is begun. -/
theorem rb (h : RG Tryz.prog n ops draw nx 0 ops.toList ⟨sl, mem, nx, gd⟩ [] (fun st' => TR Tryz.prog n y st' Q)) : TR Tryz.prog n (.seq (.region id ops draw) y) ⟨sl, mem, nx, gd⟩ Q := tr_seq (tr_region MX h)
theorem rbt (h : RG Tryz.prog n ops draw nx 0 ops.toList ⟨sl, mem, nx, gd⟩ [] (fun st' => AtQ n .normal st' Q)) : TR Tryz.prog n (.region id ops draw) ⟨sl, mem, nx, gd⟩ Q := tr_region MX h

variable {R : St → Prop} {os : List Oper} {d f : Nat} {args : Array Operand} {tys : Array TypeId} {ty : TypeId} {pos : String} {aft : Array Edge} {os' : List Oper} {vs : List AV} {r : AV}
/-- Up to a call, and the call. -/
theorem rc (h : runs TTab n nx draw ops.toList os i ⟨sl, mem, n0, gd⟩ .t ks = (⟨some d, .call ⟨.value (.func f), args, tys⟩, ty, pos, aft, none⟩ :: os', i', ⟨sl', mem', n0', gd'⟩, p, ks')) (hv : evs ⟨sl', mem', n0', gd'⟩ args.toList = some vs) (hf : FnS Tryz.prog f vs r)
    (hk : RG Tryz.prog n ops draw nx (i' + 1) os' ⟨(d, r) :: sl', mem', n0', gd'⟩ (addK draw ks' (okeys args.toList, [.s d])) R)
    (hp : p := by first | trivial | (simp only [Pr.an, Pr.h, num, i64r, true_and, and_true]; first | done | omega) | (simp [Pr.an, Pr.h, num, i64r]; done) | (simp [Pr.an, Pr.h, num, i64r]; omega)) (hm : midsVs vs = [] := by rfl) (hdn : Nat.blt d n = true := by rfl) : RG Tryz.prog n ops draw nx i os ⟨sl, mem, n0, gd⟩ ks R :=
  rg_run TT_ok h hp (rg_call hv hf hk hm hdn)
/-- Up to a guarded call whose guard holds. -/
theorem rcg {j tg : Nat} {want b : Bool} (h : runs TTab n nx draw ops.toList os i ⟨sl, mem, n0, gd⟩ .t ks = (⟨some d, .call ⟨.value (.func f), args, tys⟩, ty, pos, aft, some (j, want)⟩ :: os', i', ⟨sl', mem', n0', gd'⟩, p, ks')) (hj : gslot ops.toList j = some tg) (hb : lookA tg sl' = some (.c (.B b))) (hbw : b = want) (hv : evs ⟨sl', mem', n0', gd'⟩ args.toList = some vs) (hf : FnS Tryz.prog f vs r)
    (hk : RG Tryz.prog n ops draw nx (i' + 1) os' ⟨(d, r) :: sl', mem', n0', gd'⟩ (addK draw ks' (.s tg :: okeys args.toList, [.s d])) R)
    (hp : p := by first | trivial | (simp only [Pr.an, Pr.h, num, i64r, true_and, and_true]; first | done | omega) | (simp [Pr.an, Pr.h, num, i64r]; done) | (simp [Pr.an, Pr.h, num, i64r]; omega)) (hm : midsVs vs = [] := by rfl) (hdn : Nat.blt d n = true := by rfl) : RG Tryz.prog n ops draw nx i os ⟨sl, mem, n0, gd⟩ ks R :=
  rg_run TT_ok h hp (rg_callG hj hb hbw hv hf hk hm hdn)
/-- Up to the region's end. -/
theorem re (h : runs TTab n nx draw ops.toList os i ⟨sl, mem, n0, gd⟩ .t ks = ([], i', ⟨sl', mem', n0', gd'⟩, p, ks')) (hk : R ⟨sl', mem', nx + 1, []⟩)
    (hp : p := by first | trivial | (simp only [Pr.an, Pr.h, num, i64r, true_and, and_true]; first | done | omega) | (simp [Pr.an, Pr.h, num, i64r]; done) | (simp [Pr.an, Pr.h, num, i64r]; omega)) (ho : (!draw || ordB ops.toList ks') = true := by kernel_rfl) (hsz : Nat.ble ops.size 1000 = true := by rfl) : RG Tryz.prog n ops draw nx i os ⟨sl, mem, n0, gd⟩ ks R :=
  rg_run TT_ok h hp (rg_nil hk ho hsz)
/-- Up to a guard that is decided. -/
theorem rg (t : Nat) {b : Bool} {o : Oper} (h : runs TTab n nx draw ops.toList os i ⟨sl, mem, n0, gd⟩ .t ks = (o :: os', i', ⟨sl', mem', n0', gd'⟩, p, ks')) (hb : lookA t sl' = some (.c (.B b)))
    (ht : b = true → RG Tryz.prog n ops draw nx i' (o :: os') ⟨(t, .c (.B true)) :: sl', mem', n0', (t, true) :: gd'⟩ ks' R) (hf : b = false → RG Tryz.prog n ops draw nx i' (o :: os') ⟨(t, .c (.B false)) :: sl', mem', n0', (t, false) :: gd'⟩ ks' R)
    (hp : p := by first | trivial | (simp only [Pr.an, Pr.h, num, i64r, true_and, and_true]; first | done | omega) | (simp [Pr.an, Pr.h, num, i64r]; done) | (simp [Pr.an, Pr.h, num, i64r]; omega)) : RG Tryz.prog n ops draw nx i os ⟨sl, mem, n0, gd⟩ ks R :=
  rg_run TT_ok h hp (rg_split t hb ht hf)
/-- Up to a make. -/
theorem rm {t : Nat} {x : Operand} (T : ET) (m : Nat) (h : runs TTab n nx draw ops.toList os i ⟨sl, mem, n0, gd⟩ .t ks = (⟨some d, .makeSlice t x x, ty, pos, aft, none⟩ :: os', i', ⟨sl', mem', n0', gd'⟩, p, ks')) {k : IntKind} {v : Int} (hx : St.ev ⟨sl', mem', n0', gd'⟩ x = some (.c (.I k v))) {E : Nat} {ti ei : TI} (hti : lookA t TTab = some ti) (hkd : ti.kind = .sl E) (hei : lookA E TTab = some ei) (hTn : ei.size = T.n)
    (hz : ∀ g : Gh, RelL g (av T T.dflt) (ei.zero.map ZV.toV)) (hv : v = (m : Int)) (hb : m * ei.bytes ≤ 281474976710656) (hb2 : m * T.n ≤ 140737488355328)
    (hk : RG Tryz.prog n ops draw nx (i' + 1) os' ⟨(d, .c (.X (1000000 * nx + 1000 * i'))) :: sl', (1000000 * nx + 1000 * i', .vec E T (List.replicate m T.dflt)) :: mem', n0', gd'⟩ (addK draw ks' (okeys [x, x], [.s d, .m (1000000 * nx + 1000 * i')])) R)
    (hp : p := by first | trivial | (simp only [Pr.an, Pr.h, num, i64r, true_and, and_true]; first | done | omega) | (simp [Pr.an, Pr.h, num, i64r]; done) | (simp [Pr.an, Pr.h, num, i64r]; omega)) (hdn : Nat.blt d n = true := by rfl) : RG Tryz.prog n ops draw nx i os ⟨sl, mem, n0, gd⟩ ks R :=
  rg_run TT_ok h hp (rg_make TT_ok T m hx hv hti hkd hei hTn hz hb hb2 hk hdn)
end

theorem zr_int (k : IntKind) (g : Gh) : RelL g (av (.int k) (ET.dflt (.int k))) ([ZV.i k].map ZV.toV) := ⟨_, _, rfl, rfl, rfl⟩
theorem nilW (H : FH) : RelW H [] (.slice none 0 0) := ⟨none, 0, rfl, Nat.le_refl _, by simp, .inl rfl⟩
theorem zr_z (g : Gh) : RelL g (av .z (0 : Int)) ([ZV.b, ZV.s].map ZV.toV) := relZ_av ⟨_, rfl, nilW _⟩
theorem zr_zz (g : Gh) : RelL g (av (.pr .z .z) ((0, 0) : Int × Int)) ([ZV.b, ZV.s, ZV.b, ZV.s].map ZV.toV) := RelL.append (zr_z g) (zr_z g)
theorem zr_sl (T : ET) (g : Gh) : RelL g (av (.sl T) []) ([ZV.s].map ZV.toV) := ⟨_, _, rfl, ⟨none, 0, rfl, Nat.le_refl _, by simp, .inl rfl⟩, rfl⟩
end Go.El

/- The engine over this seat's program: short rules for literals, stores, appends. Own work; no condition. -/
namespace Go.El
open Go Go.Proofs
section
variable {n : Nat} {sl sl' : List (Nat × AV)} {mem mem' : List (Nat × Blk)} {nx : Nat} {gd gd' : List (Nat × Bool)} {ops : Array Oper} {draw : Bool} {p : Pr} {ks ks' : List Ks} {i i' n0 n0' : Nat}
variable {R : St → Prop} {os : List Oper} {d : Nat} {ty : TypeId} {pos : String} {aft : Array Edge} {os' : List Oper}
/-- Up to a slice literal that is frozen. -/
theorem rl (T : ET) (xs : List T.den) {t len : Nat} {parts : Array (Nat × Operand)} (h : runs TTab n nx draw ops.toList os i ⟨sl, mem, n0, gd⟩ .t ks = (⟨some d, .buildSlice t len parts, ty, pos, aft, none⟩ :: os', i', ⟨sl', mem', n0', gd'⟩, p, ks')) {E : Nat} {ei : TI} (hv : bslC TTab ⟨sl', mem', n0', gd'⟩ t len parts.toList = some (E, ei, xs.flatMap (av T)))
    (hk : RG Tryz.prog n ops draw nx (i' + 1) os' ⟨(d, .c (.S T xs)) :: sl', mem', n0', gd'⟩ (addK draw ks' (okeys (Op.buildSlice t len parts).operands.toList, [.s d])) R) (hT : ei.size = T.n := by rfl) (hlx : xs.length = len := by rfl) (hsmall : Nat.ble (len * T.n) 16777216 = true := by rfl)
    (hp : p := by first | trivial | (simp only [Pr.an, Pr.h, num, i64r, true_and, and_true]; first | done | omega) | (simp [Pr.an, Pr.h, num, i64r]; done) | (simp [Pr.an, Pr.h, num, i64r]; omega)) (hdn : Nat.blt d n = true := by rfl) : RG Tryz.prog n ops draw nx i os ⟨sl, mem, n0, gd⟩ ks R :=
  rg_run TT_ok h hp (rg_bsl TT_ok T xs hv hT hlx hsmall hk hdn)
/-- Up to a slice literal that is a vector. -/
theorem rlv (T : ET) (xs : List T.den) {t len : Nat} {parts : Array (Nat × Operand)} (h : runs TTab n nx draw ops.toList os i ⟨sl, mem, n0, gd⟩ .t ks = (⟨some d, .buildSlice t len parts, ty, pos, aft, none⟩ :: os', i', ⟨sl', mem', n0', gd'⟩, p, ks')) {E : Nat} {ei : TI} (hv : bslC TTab ⟨sl', mem', n0', gd'⟩ t len parts.toList = some (E, ei, xs.flatMap (av T)))
    (hk : RG Tryz.prog n ops draw nx (i' + 1) os' ⟨(d, .c (.X (1000000 * nx + 1000 * i'))) :: sl', (1000000 * nx + 1000 * i', .vec E T xs) :: mem', n0', gd'⟩ (addK draw ks' (okeys (Op.buildSlice t len parts).operands.toList, [.s d, .m (1000000 * nx + 1000 * i')])) R) (hT : ei.size = T.n := by rfl) (hlx : xs.length = len := by rfl) (hsmall : Nat.ble (len * T.n) 16777216 = true := by rfl)
    (hp : p := by first | trivial | (simp only [Pr.an, Pr.h, num, i64r, true_and, and_true]; first | done | omega) | (simp [Pr.an, Pr.h, num, i64r]; done) | (simp [Pr.an, Pr.h, num, i64r]; omega)) (hdn : Nat.blt d n = true := by rfl) : RG Tryz.prog n ops draw nx i os ⟨sl, mem, n0, gd⟩ ks R :=
  rg_run TT_ok h hp (rg_bslV TT_ok T xs hv hT hlx hsmall hk hdn)
/-- Up to a store of a whole element into a vector. -/
theorem rsv {t : Nat} {x y : Operand} {id m k : Nat} {E : TypeId} {T : ET} {xs : List T.den} {vy : AV} {ag : Bool} (e : T.den) (h : runs TTab n nx draw ops.toList os i ⟨sl, mem, n0, gd⟩ .t ks = (⟨none, .store t x y, ty, pos, aft, none⟩ :: os', i', ⟨sl', mem', n0', gd'⟩, p, ks'))
    (hx : St.ev ⟨sl', mem', n0', gd'⟩ x = some (.c (.Y id m k 0))) (hl : lookA id mem' = some (.vec E T xs)) (hy : St.ev ⟨sl', mem', n0', gd'⟩ y = some vy) (hcs : cellsAV vy = some (av T e)) (hk : k < xs.length)
    (hr : RG Tryz.prog n ops draw nx (i' + 1) os' ⟨sl', (id, .vec E T (xs.set k e)) :: mem', n0', gd'⟩ (addK draw ks' (okeys [x, y] ++ mkeys [id], [.m id])) R) (hm : T.n = m := by rfl) (hts : tySz TTab t = some (m, ag) := by rfl)
    (hp : p := by first | trivial | (simp only [Pr.an, Pr.h, num, i64r, true_and, and_true]; first | done | omega) | (simp [Pr.an, Pr.h, num, i64r]; done) | (simp [Pr.an, Pr.h, num, i64r]; omega)) : RG Tryz.prog n ops draw nx i os ⟨sl, mem, n0, gd⟩ ks R :=
  rg_run TT_ok h hp (rg_storeV TT_ok hx hl hy hm hts e hcs hk hr)
/-- Up to an append to a vector. -/
theorem ra {x y : Operand} {t1 t2 : TypeId} {id : Nat} {E E2 : TypeId} {T : ET} {xs ys : List T.den} {ti ti2 ei : TI} (h : runs TTab n nx draw ops.toList os i ⟨sl, mem, n0, gd⟩ .t ks = (⟨some d, .call ⟨.builtin .append, #[x, y], #[t1, t2]⟩, ty, pos, aft, none⟩ :: os', i', ⟨sl', mem', n0', gd'⟩, p, ks'))
    (hx : St.ev ⟨sl', mem', n0', gd'⟩ x = some (.c (.X id))) (hl : lookA id mem' = some (.vec E T xs)) (hy : St.ev ⟨sl', mem', n0', gd'⟩ y = some (.c (.S T ys))) (hti : lookA t1 TTab = some ti) (hk : ti.kind = .sl E) (hti2 : lookA t2 TTab = some ti2) (hk2 : ti2.kind = .sl E2) (hei : lookA E TTab = some ei)
    (hb : ((xs.length + ys.length) + (xs.length + ys.length) / 4 + 192) * ei.bytes ≤ 281474976710656) (hb2 : (xs.length + ys.length) * T.n ≤ 140737488355328)
    (hr : RG Tryz.prog n ops draw nx (i' + 1) os' ⟨(d, .c (.X (1000000 * nx + 1000 * i'))) :: sl', (1000000 * nx + 1000 * i', .vec E T (xs ++ ys)) :: delA id mem', n0', gd'⟩ (addK draw ks' (okeys [x, y] ++ mkeys [id], [.s d, .m (1000000 * nx + 1000 * i'), .m id])) R) (hTn : ei.size = T.n := by rfl) (hzl : ei.zero.length = T.n := by rfl)
    (hp : p := by first | trivial | (simp only [Pr.an, Pr.h, num, i64r, true_and, and_true]; first | done | omega) | (simp [Pr.an, Pr.h, num, i64r]; done) | (simp [Pr.an, Pr.h, num, i64r]; omega)) (hdn : Nat.blt d n = true := by rfl) : RG Tryz.prog n ops draw nx i os ⟨sl, mem, n0, gd⟩ ks R :=
  rg_run TT_ok h hp (rg_app TT_ok hx hl hy hti hk hti2 hk2 hei hTn hzl hb hb2 hr hdn)
/-- Up to an append to nil. -/
theorem ran {x y : Operand} {t1 t2 : TypeId} {E E2 : TypeId} {T : ET} {ys : List T.den} {ti ti2 ei : TI} (h : runs TTab n nx draw ops.toList os i ⟨sl, mem, n0, gd⟩ .t ks = (⟨some d, .call ⟨.builtin .append, #[x, y], #[t1, t2]⟩, ty, pos, aft, none⟩ :: os', i', ⟨sl', mem', n0', gd'⟩, p, ks'))
    (hx : St.ev ⟨sl', mem', n0', gd'⟩ x = some (.c (.V (.slice none 0 0)))) (hy : St.ev ⟨sl', mem', n0', gd'⟩ y = some (.c (.S T ys))) (hti : lookA t1 TTab = some ti) (hk : ti.kind = .sl E) (hti2 : lookA t2 TTab = some ti2) (hk2 : ti2.kind = .sl E2) (hei : lookA E TTab = some ei)
    (hb : (ys.length + ys.length / 4 + 192) * ei.bytes ≤ 281474976710656) (hb2 : ys.length * T.n ≤ 140737488355328)
    (hr : RG Tryz.prog n ops draw nx (i' + 1) os' ⟨(d, .c (.X (1000000 * nx + 1000 * i'))) :: sl', (1000000 * nx + 1000 * i', .vec E T ys) :: mem', n0', gd'⟩ (addK draw ks' (okeys [x, y], [.s d, .m (1000000 * nx + 1000 * i')])) R) (hTn : ei.size = T.n := by rfl) (hzl : ei.zero.length = T.n := by rfl)
    (hp : p := by first | trivial | (simp only [Pr.an, Pr.h, num, i64r, true_and, and_true]; first | done | omega) | (simp [Pr.an, Pr.h, num, i64r]; done) | (simp [Pr.an, Pr.h, num, i64r]; omega)) (hdn : Nat.blt d n = true := by rfl) : RG Tryz.prog n ops draw nx i os ⟨sl, mem, n0, gd⟩ ks R :=
  rg_run TT_ok h hp (rg_appN TT_ok hx hy hti hk hti2 hk2 hei hTn hzl hb hb2 hr hdn)
end
end Go.El

/- Plain facts about words: values of lists of words, canonical lists. Own work; no condition. -/
namespace Go.El

/-- The value of words. -/
def val : List Int → Int
  | [] => 0
  | w :: r => w + 4294967296 * val r
/-- Words in their range. -/
def rng (ws : List Int) : Prop := ∀ w ∈ ws, 0 ≤ w ∧ w < 4294967296

theorem rng_nil : rng [] := fun _ h => by cases h
theorem rng_cons {w : Int} {ws : List Int} : rng (w :: ws) ↔ (0 ≤ w ∧ w < 4294967296) ∧ rng ws := by simp [rng]
theorem rng_take {ws : List Int} (h : rng ws) (n : Nat) : rng (ws.take n) := fun w hw => h w (List.mem_of_mem_take hw)
theorem rng_drop {ws : List Int} (h : rng ws) (n : Nat) : rng (ws.drop n) := fun w hw => h w (List.mem_of_mem_drop hw)
theorem rng_append {a b : List Int} (h : rng a) (k : rng b) : rng (a ++ b) := fun w hw => (List.mem_append.mp hw).elim (h w) (k w)
theorem rng_set {ws : List Int} (h : rng ws) (i : Nat) {w : Int} (hw : 0 ≤ w ∧ w < 4294967296) : rng (ws.set i w) := fun x hx => (List.mem_or_eq_of_mem_set hx).elim (h x) (fun e => e ▸ hw)
theorem rng_rep (n : Nat) : rng (List.replicate n 0) := fun w hw => by have := List.eq_of_mem_replicate hw; subst this; decide
theorem rng_get {ws : List Int} (h : rng ws) (i : Nat) : 0 ≤ ws.getD i 0 ∧ ws.getD i 0 < 4294967296 := by
  by_cases hi : i < ws.length
  · simp only [List.getD_eq_getElem?_getD, List.getElem?_eq_getElem hi, Option.getD_some]
    exact h _ (List.getElem_mem hi)
  · simp [List.getD_eq_getElem?_getD, List.getElem?_eq_none (Nat.le_of_not_lt hi)]

theorem val_append (a b : List Int) : val (a ++ b) = val a + 4294967296 ^ a.length * val b := by
  induction a with
  | nil => simp [val]
  | cons w r ih => simp only [List.cons_append, val, ih, List.length_cons, Int.pow_succ]; grind
theorem val_take_succ (ws : List Int) (i : Nat) (h : i < ws.length) : val (ws.take (i + 1)) = val (ws.take i) + ws.getD i 0 * 4294967296 ^ i := by
  rw [List.take_add_one, val_append, List.length_take, Nat.min_eq_left (Nat.le_of_lt h)]
  simp [List.getElem?_eq_getElem h, val, List.getD_eq_getElem?_getD]
  grind
theorem val_take_ge (ws : List Int) (i : Nat) (h : ws.length ≤ i) : val (ws.take i) = val ws := by rw [List.take_of_length_le h]
theorem val_take_succ' (ws : List Int) (i : Nat) : val (ws.take (i + 1)) = val (ws.take i) + ws.getD i 0 * 4294967296 ^ i := by
  by_cases h : i < ws.length
  · exact val_take_succ ws i h
  · rw [val_take_ge ws _ (by omega), val_take_ge ws i (by omega)]
    simp [List.getD_eq_getElem?_getD, List.getElem?_eq_none (Nat.le_of_not_lt h)]
theorem val_set (ws : List Int) (i : Nat) (w : Int) (h : i < ws.length) : val (ws.set i w) = val ws + (w - ws.getD i 0) * 4294967296 ^ i := by
  induction ws generalizing i with
  | nil => simp at h
  | cons x r ih =>
    cases i with
    | zero => simp [val]; omega
    | succ i =>
      have := ih i (by simpa using h)
      simp only [List.set_cons_succ, val, this, List.getD_cons_succ, Int.pow_succ]; grind
theorem val_rep (n : Nat) : val (List.replicate n 0) = 0 := by
  induction n with
  | zero => rfl
  | succ n ih => simp [List.replicate_succ, val, ih]
theorem val_nonneg {ws : List Int} (h : rng ws) : 0 ≤ val ws := by
  induction ws with
  | nil => exact Int.le_refl _
  | cons w r ih =>
    obtain ⟨h1, h2⟩ := rng_cons.mp h
    have := ih h2
    simp only [val]; omega
theorem val_lt {ws : List Int} (h : rng ws) : val ws < 4294967296 ^ ws.length := by
  induction ws with
  | nil => decide
  | cons w r ih =>
    obtain ⟨h1, h2⟩ := rng_cons.mp h
    have := ih h2
    simp only [val, List.length_cons, Int.pow_succ]; omega

theorem wordsF_fuel : ∀ (f g n : Nat), n ≤ f → n ≤ g → wordsF f n = wordsF g n := by
  intro f
  induction f with
  | zero => intro g n h _; have : n = 0 := by omega
            subst this; cases g <;> simp [wordsF]
  | succ f ih =>
    intro g n h1 h2
    cases g with
    | zero => have : n = 0 := by omega
              subst this; simp [wordsF]
    | succ g =>
      simp only [wordsF]
      split
      · rfl
      · rw [ih g (n / 4294967296) (by omega) (by omega)]
theorem wordsN_zero : wordsN 0 = [] := rfl
theorem wordsN_pos {n : Nat} (h : n ≠ 0) : wordsN n = ((n % 4294967296 : Nat) : Int) :: wordsN (n / 4294967296) := by
  unfold wordsN
  obtain ⟨m, rfl⟩ : ∃ m, n = m + 1 := ⟨n - 1, by omega⟩
  conv => lhs; unfold wordsF
  rw [if_neg h, wordsF_fuel m _ _ (by omega) (Nat.le_refl _)]
theorem val_words (n : Nat) : val (wordsN n) = n := by
  induction n using Nat.strongRecOn with
  | ind n ih =>
    by_cases h : n = 0
    · subst h; rfl
    · rw [wordsN_pos h]; simp only [val, ih (n / 4294967296) (by omega)]; omega
theorem rng_words (n : Nat) : rng (wordsN n) := by
  induction n using Nat.strongRecOn with
  | ind n ih =>
    by_cases h : n = 0
    · subst h; exact rng_nil
    · rw [wordsN_pos h]; exact rng_cons.mpr ⟨by omega, ih _ (by omega)⟩
/-- Canonical words. -/
def can (ws : List Int) : Prop := ws = [] ∨ ws.getD (ws.length - 1) 0 ≠ 0
theorem can_words {ws : List Int} (h : rng ws) (hc : can ws) : ws = wordsN (val ws).toNat := by
  induction ws with
  | nil => rfl
  | cons w r ih =>
    obtain ⟨h1, h2⟩ := rng_cons.mp h
    have hr : can r := by
      cases r with
      | nil => exact .inl rfl
      | cons x s => exact .inr (by rcases hc with hc | hc; cases hc; simpa using hc)
    have hv := val_nonneg h2
    have hne : (val (w :: r)).toNat ≠ 0 := by
      simp only [val]
      intro h0
      have h3 : w = 0 ∧ val r = 0 := by omega
      cases r with
      | nil => rcases hc with hc | hc; cases hc; simp at hc; exact hc h3.1
      | cons x s =>
        have := ih h2 hr
        rw [h3.2] at this
        exact absurd this (by simp [wordsN_zero])
    rw [wordsN_pos hne]
    have e1 : (val (w :: r)).toNat / 4294967296 = (val r).toNat := by simp only [val]; omega
    have e2 : (((val (w :: r)).toNat % 4294967296 : Nat) : Int) = w := by simp only [val]; omega
    rw [e1, e2, ← ih h2 hr]
theorem words_can (n : Nat) : can (wordsN n) := by
  induction n using Nat.strongRecOn with
  | ind n ih =>
    by_cases h : n = 0
    · subst h; exact .inl rfl
    · rw [wordsN_pos h]
      refine .inr ?_
      by_cases h2 : n / 4294967296 = 0
      · rw [h2, wordsN_zero]; simp; omega
      · have := ih (n / 4294967296) (by omega)
        rcases this with h3 | h3
        · exfalso; have := val_words (n / 4294967296); rw [h3] at this; simp [val] at this; omega
        · cases hw : wordsN (n / 4294967296) with
          | nil => rw [hw] at h3; simp at h3
          | cons x s => rw [hw] at h3; simpa using h3

/-- How many words are left without zeros at the end. -/
def trimN (ws : List Int) : Nat → Nat
  | 0 => 0
  | n + 1 => if ws.getD n 0 = 0 then trimN ws n else n + 1
def trimW (ws : List Int) : List Int := ws.take (trimN ws ws.length)
theorem trimN_le (ws : List Int) : ∀ n, trimN ws n ≤ n
  | 0 => Nat.le_refl _
  | n + 1 => by simp only [trimN]; split; exact Nat.le_succ_of_le (trimN_le ws n); exact Nat.le_refl _
theorem trimN_val (ws : List Int) : ∀ n, val (ws.take (trimN ws n)) = val (ws.take n)
  | 0 => rfl
  | n + 1 => by
    simp only [trimN]
    split
    · rename_i h
      rw [trimN_val ws n, val_take_succ', h]; omega
    · rfl
theorem trimN_last (ws : List Int) : ∀ n, trimN ws n = 0 ∨ ws.getD (trimN ws n - 1) 0 ≠ 0
  | 0 => .inl rfl
  | n + 1 => by
    simp only [trimN]
    split
    · exact trimN_last ws n
    · rename_i h; exact .inr (by simpa using h)
theorem trimW_val (ws : List Int) : val (trimW ws) = val ws := by
  unfold trimW
  rw [trimN_val, List.take_length]
theorem trimW_rng {ws : List Int} (h : rng ws) : rng (trimW ws) := rng_take h _
theorem trimW_can (ws : List Int) : can (trimW ws) := by
  unfold trimW can
  have h1 := trimN_le ws ws.length
  rcases trimN_last ws ws.length with h | h
  · left; rw [h]; rfl
  · by_cases h0 : trimN ws ws.length = 0
    · left; rw [h0]; rfl
    · right
      rw [List.length_take, Nat.min_eq_left h1, List.getD_eq_getElem?_getD, List.getElem?_take_of_lt (by omega), ← List.getD_eq_getElem?_getD]
      exact h
theorem trimW_eq {ws : List Int} (h : rng ws) : trimW ws = wordsN (val ws).toNat := by
  have := can_words (trimW_rng h) (trimW_can ws)
  rwa [trimW_val] at this
theorem trimW_words (n : Nat) : trimW (wordsN n) = wordsN n := by rw [trimW_eq (rng_words n), val_words]; simp

theorem words_len_lt {n : Nat} : (n : Int) < 4294967296 ^ (wordsN n).length := by have := val_lt (rng_words n); rwa [val_words] at this
theorem powB_pos (n : Nat) : (0 : Int) < 4294967296 ^ n := Int.pow_pos (by decide)
theorem powB_le {m n : Nat} (h : m ≤ n) : (4294967296 : Int) ^ m ≤ 4294967296 ^ n := by
  obtain ⟨k, rfl⟩ := Nat.exists_eq_add_of_le h
  rw [Int.pow_add]
  have h1 := powB_pos m
  have h2 := powB_pos k
  have : (4294967296 : Int) ^ m * 1 ≤ 4294967296 ^ m * 4294967296 ^ k := Int.mul_le_mul_of_nonneg_left (by omega) (by omega)
  omega
theorem can_ge {ws : List Int} (h : rng ws) (hc : can ws) (hne : ws ≠ []) : (4294967296 : Int) ^ (ws.length - 1) ≤ val ws := by
  have h0 : 0 < ws.length := List.length_pos_iff.mpr hne
  have h1 := val_take_succ' ws (ws.length - 1)
  rw [Nat.sub_add_cancel h0, List.take_length] at h1
  have h2 : ws.getD (ws.length - 1) 0 ≠ 0 := hc.resolve_left hne
  have h3 := rng_get h (ws.length - 1)
  have h4 := val_nonneg (rng_take h (ws.length - 1))
  have h5 := powB_pos (ws.length - 1)
  have h6 : 1 * (4294967296 : Int) ^ (ws.length - 1) ≤ ws.getD (ws.length - 1) 0 * 4294967296 ^ (ws.length - 1) := Int.mul_le_mul_of_nonneg_right (by omega) (by omega)
  omega
theorem words_len_le {n k : Nat} (h : (n : Int) < 4294967296 ^ k) : (wordsN n).length ≤ k := by
  apply Decidable.byContradiction
  intro hk
  have hne : wordsN n ≠ [] := by intro h0; rw [h0] at hk; simp at hk
  have h1 := can_ge (rng_words n) (words_can n) hne
  rw [val_words] at h1
  have h2 : (4294967296 : Int) ^ k ≤ 4294967296 ^ ((wordsN n).length - 1) := powB_le (by omega)
  omega
/-- A shorter canonical list has a smaller value. -/
theorem can_len_lt {a b : List Int} (ha : rng a) (hb : rng b) (hc : can b) (h : a.length < b.length) : val a < val b := by
  have h1 := val_lt ha
  have h2 := can_ge hb hc (by intro h0; rw [h0] at h; simp at h)
  have h3 : (4294967296 : Int) ^ a.length ≤ 4294967296 ^ (b.length - 1) := powB_le (by omega)
  omega
/-- Equal above, smaller at i. -/
theorem val_lt_at {a b : List Int} (ha : rng a) (hb : rng b) (i : Nat) (hd : a.drop (i + 1) = b.drop (i + 1)) (hl : a.length = b.length) (hi : i < a.length) (h : a.getD i 0 < b.getD i 0) : val a < val b := by
  have e1 : val a = val (a.take (i + 1)) + 4294967296 ^ (i + 1) * val (a.drop (i + 1)) := by
    have := val_append (a.take (i + 1)) (a.drop (i + 1))
    rwa [List.take_append_drop, List.length_take, Nat.min_eq_left (by omega)] at this
  have e2 : val b = val (b.take (i + 1)) + 4294967296 ^ (i + 1) * val (b.drop (i + 1)) := by
    have := val_append (b.take (i + 1)) (b.drop (i + 1))
    rwa [List.take_append_drop, List.length_take, Nat.min_eq_left (by omega)] at this
  rw [hd] at e1
  rw [val_take_succ'] at e1 e2
  have h1 := val_lt (rng_take ha i)
  rw [List.length_take, Nat.min_eq_left (by omega)] at h1
  have h2 := val_nonneg (rng_take hb i)
  have h3 := powB_pos i
  have h4 : (a.getD i 0 + 1) * (4294967296 : Int) ^ i ≤ b.getD i 0 * 4294967296 ^ i := Int.mul_le_mul_of_nonneg_right (by omega) (by omega)
  rw [Int.add_mul] at h4
  omega
end Go.El

/- Contracts: words without zeros at the end. Own work; no condition. -/
namespace Go.El
open Go Go.Proofs

theorem trim_s (ws : List Int) : FnS Tryz.prog 234 [cS U32 ws] (cS U32 (trimW ws)) := by
  refine fs_intro Tryz.func234 rfl rfl rfl rfl rfl (by decide) (tr_len 0 rfl fun hb => ?_)
  simp only [ET.n, Nat.mul_one] at hb
  refine rr rfl (rr rfl ?_)
  refine tr_seq (tr_block (tr_loop (α := Nat) (fun k => ⟨[(0, cS U32 ws), (3, cI k)], [], 2, []⟩) (fun k => k ≤ ws.length ∧ trimN ws k = trimN ws ws.length) (fun k => k) ws.length ⟨Nat.le_refl _, rfl⟩ (wk ⟨⟨_, rfl, AVle.refl _⟩, ⟨_, rfl, AVle.refl _⟩, trivial⟩ trivial) ?_))
  rintro k ⟨hk, hrec⟩
  have fin : ∀ v, k = 0 ∨ ws.getD (k - 1) 0 ≠ 0 → v = List.take k ws → AVle (cS U32 v) (cS U32 (trimW ws)) := by
    intro v h1 h2
    refine AVle.of_eq ?_
    subst h2
    unfold trimW
    rw [← hrec]
    cases k with
    | zero => rfl
    | succ k =>
      rcases h1 with h1 | h1
      · omega
      · simp only [Nat.add_sub_cancel] at h1
        simp only [trimN, h1, if_false]
  refine tr_seq (rb ?_)
  refine rg 8 rfl rfl (fun h => ?_) (fun h => ?_)
  · simp at h
    refine re rfl (tr_cond rfl (fun h2 => ?_) (fun h2 => ?_))
    · refine tr_skip (at_then (tr_block (rt rfl (at_block (at_loop (k - 1) ⟨by omega, ?_⟩ (by show k - 1 < k; omega) (wk ⟨⟨_, rfl, AVle.refl _⟩, ⟨_, rfl, AVle.of_eq ?_⟩, trivial⟩ trivial))))))
      · rw [← hrec]
        obtain ⟨j, rfl⟩ : ∃ j, k = j + 1 := ⟨k - 1, by omega⟩
        have h3 : ws.getD j 0 = 0 := by
          have : (((j + 1 : Nat) : Int) - 1).toNat = j := by omega
          simpa [this] using h2
        simp only [Nat.add_sub_cancel, trimN, h3, if_true]
      · congr 2; omega
    · refine tr_exit (at_then_exit (at_loop_exit (at_block_exit (at_then (rr rfl (tr_ret (at_ret TT_ok rfl (fin _ (.inr ?_) ?_))))))))
      · have : ((k : Int) - 1).toNat = k - 1 := by omega
        simpa [this] using h2
      · simp
  · simp at h
    subst h
    refine re rfl (tr_cond rfl (fun h2 => by simp at h2) (fun _ => ?_))
    exact tr_exit (at_then_exit (at_loop_exit (at_block_exit (at_then (rr rfl (tr_ret (at_ret TT_ok rfl (fin _ (.inl rfl) rfl))))))))
theorem rtrim_s (ws : List Int) : FnS Tryz.prog 176 [cS U32 ws] (cS U32 (trimW ws)) := by
  refine fs_intro Tryz.func176 rfl rfl rfl rfl rfl (by decide) (tr_len 0 rfl fun hb => ?_)
  simp only [ET.n, Nat.mul_one] at hb
  refine rr rfl (rr rfl ?_)
  refine tr_seq (tr_block (tr_loop (α := Nat) (fun k => ⟨[(0, cS U32 ws), (3, cI k)], [], 2, []⟩) (fun k => k ≤ ws.length ∧ trimN ws k = trimN ws ws.length) (fun k => k) ws.length ⟨Nat.le_refl _, rfl⟩ (wk ⟨⟨_, rfl, AVle.refl _⟩, ⟨_, rfl, AVle.refl _⟩, trivial⟩ trivial) ?_))
  rintro k ⟨hk, hrec⟩
  have fin : ∀ v, k = 0 ∨ ws.getD (k - 1) 0 ≠ 0 → v = List.take k ws → AVle (cS U32 v) (cS U32 (trimW ws)) := by
    intro v h1 h2
    refine AVle.of_eq ?_
    subst h2
    unfold trimW
    rw [← hrec]
    cases k with
    | zero => rfl
    | succ k =>
      rcases h1 with h1 | h1
      · omega
      · simp only [Nat.add_sub_cancel] at h1
        simp only [trimN, h1, if_false]
  refine tr_seq (rb ?_)
  refine rg 8 rfl rfl (fun h => ?_) (fun h => ?_)
  · simp at h
    refine re rfl (tr_cond rfl (fun h2 => ?_) (fun h2 => ?_))
    · refine tr_skip (at_then (tr_block (rt rfl (at_block (at_loop (k - 1) ⟨by omega, ?_⟩ (by show k - 1 < k; omega) (wk ⟨⟨_, rfl, AVle.refl _⟩, ⟨_, rfl, AVle.of_eq ?_⟩, trivial⟩ trivial))))))
      · rw [← hrec]
        obtain ⟨j, rfl⟩ : ∃ j, k = j + 1 := ⟨k - 1, by omega⟩
        have h3 : ws.getD j 0 = 0 := by
          have : (((j + 1 : Nat) : Int) - 1).toNat = j := by omega
          simpa [this] using h2
        simp only [Nat.add_sub_cancel, trimN, h3, if_true]
      · congr 2; omega
    · refine tr_exit (at_then_exit (at_loop_exit (at_block_exit (at_then (rr rfl (tr_ret (at_ret TT_ok rfl (fin _ (.inr ?_) ?_))))))))
      · have : ((k : Int) - 1).toNat = k - 1 := by omega
        simpa [this] using h2
      · simp
  · simp at h
    subst h
    refine re rfl (tr_cond rfl (fun h2 => by simp at h2) (fun _ => ?_))
    exact tr_exit (at_then_exit (at_loop_exit (at_block_exit (at_then (rr rfl (tr_ret (at_ret TT_ok rfl (fin _ (.inl rfl) rfl))))))))

theorem wrap_u32 (n : Int) (h0 : 0 ≤ n) (h1 : n < 4294967296) : IntKind.wrap .u32 n = n := by
  simp [IntKind.wrap, IntKind.bits, IntKind.signed]; omega
theorem wrap_u64 (n : Int) (h0 : 0 ≤ n) (h1 : n < 18446744073709551616) : IntKind.wrap .u64 n = n := by
  simp [IntKind.wrap, IntKind.bits, IntKind.signed]; omega
/-- Two words. -/
theorem two_words (m : Nat) (hm : m < 18446744073709551616) : trimW [((m % 4294967296 : Nat) : Int), ((m / 4294967296 : Nat) : Int)] = wordsN m := by
  have hr : rng [((m % 4294967296 : Nat) : Int), ((m / 4294967296 : Nat) : Int)] := rng_cons.mpr ⟨by omega, rng_cons.mpr ⟨by omega, rng_nil⟩⟩
  rw [trimW_eq hr]
  congr 1
  simp only [val]; omega
/-- The words of a number. -/
theorem rwords_s (m : Nat) (hm : m < 18446744073709551616) : FnS Tryz.prog 112 [cU m] (cS U32 (wordsN m)) := by
  refine fs_intro Tryz.func112 rfl rfl rfl rfl rfl (by decide) ?_
  refine rr rfl (rb ?_)
  have e1 : IntKind.wrap .u32 ((m : Int).tmod 4294967296) = ((m % 4294967296 : Nat) : Int) := by rw [wrap_u32] <;> (rw [Int.tmod_eq_emod_of_nonneg (by omega)]; omega)
  have e2 : IntKind.wrap .u32 (IntKind.wrap .u64 ((m : Int).tdiv 4294967296)) = ((m / 4294967296 : Nat) : Int) := by
    have : (m : Int).tdiv 4294967296 = ((m / 4294967296 : Nat) : Int) := by rw [Int.tdiv_eq_ediv_of_nonneg (by omega)]; omega
    rw [this, wrap_u64 _ (by omega) (by omega), wrap_u32 _ (by omega) (by omega)]
  refine rl U32 [_, _] rfl rfl ?_
  refine rc rfl rfl (rtrim_s _) ?_
  refine re rfl (tr_ret (at_ret TT_ok rfl (AVle.of_eq ?_)))
  rw [e1, e2, two_words m hm]
end Go.El

/- Contracts: integers of the reference. Own work; no condition. -/
namespace Go.El
open Go Go.Proofs

theorem rmade_s (neg : Bool) (ws : List Int) : FnS Tryz.prog 107 [cB neg, cS U32 ws] (.a [.B (neg && decide (0 < (trimW ws).length)), .S U32 (trimW ws)]) := by
  refine fs_intro Tryz.func107 rfl rfl rfl rfl rfl (by decide) ?_
  refine rr rfl (rb ?_)
  refine rc rfl rfl (rtrim_s _) ?_
  refine re rfl (rb ?_)
  refine rg 9 rfl rfl (fun h => ?_) (fun h => ?_)
  · refine re rfl (tr_ret (at_ret TT_ok rfl (AVle.of_eq ?_)))
    subst h
    have e : decide (((trimW ws).length : Int) > 0) = (true && decide (0 < (trimW ws).length)) := by simp
    exact congrArg (fun b => AV.a [C.B b, C.S U32 (trimW ws)]) e
  · refine re rfl (tr_ret (at_ret TT_ok rfl (AVle.of_eq ?_)))
    subst h
    rfl
theorem rword_s (ws : List Int) (i : Nat) (hr : rng ws) : FnS Tryz.prog 177 [cS U32 ws, cI i] (cU (ws.getD i 0)) := by
  refine fs_intro Tryz.func177 rfl rfl rfl rfl rfl (by decide) ?_
  refine rr rfl (tr_seq (rr rfl ?_))
  have := rng_get hr i
  refine tr_cond rfl (fun h => ?_) (fun h => ?_)
  · simp at h
    refine rr rfl (tr_ret (at_then_ret (at_ret TT_ok rfl (AVle.of_eq ?_))))
    have e : IntKind.wrap .u64 (ws.getD (i : Int).toNat 0) = ws.getD i 0 := by
      rw [Int.toNat_natCast, wrap_u64 _ this.1 (by omega)]
    exact congrArg (fun x => AV.c (C.I .u64 x)) e
  · simp at h
    refine tr_skip (at_then (rr rfl (tr_ret (at_ret TT_ok rfl (AVle.of_eq ?_)))))
    have e : ws.getD i 0 = 0 := by simp [List.getD_eq_getElem?_getD, List.getElem?_eq_none h]
    rw [e]; rfl
def cmpN (a b : Int) : Int := if a < b then -1 else if b < a then 1 else 0
theorem rcompared_s (a b : List Int) (ha : rng a) (hb : rng b) (ca : can a) (cb : can b) : FnS Tryz.prog 109 [cS U32 a, cS U32 b] (cI (cmpN (val a) (val b))) := by
  refine fs_intro Tryz.func109 rfl rfl rfl rfl rfl (by decide) (tr_len 0 rfl fun hba => tr_len 1 rfl fun hbb => ?_)
  simp only [ET.n, Nat.mul_one] at hba hbb
  refine rr rfl (tr_seq (rr rfl ?_))
  refine tr_cond rfl (fun h => ?_) (fun h => ?_)
  · simp at h
    refine rr rfl (tr_ret (at_then_ret (at_ret TT_ok rfl (AVle.of_eq ?_))))
    rw [cmpN, if_pos (can_len_lt ha hb cb h)]; rfl
  · simp at h
    refine tr_skip (at_then (tr_seq (rr rfl ?_)))
    refine tr_cond rfl (fun h2 => ?_) (fun h2 => ?_)
    · simp at h2
      refine rr rfl (tr_ret (at_then_ret (at_ret TT_ok rfl (AVle.of_eq ?_))))
      have := can_len_lt hb ha ca h2
      rw [cmpN, if_neg (by omega), if_pos this]; rfl
    · simp at h2
      have hl : a.length = b.length := by omega
      refine tr_skip (at_then (tr_seq (rr rfl ?_)))
      refine tr_block (tr_loop (α := Nat) (fun k => ⟨[(0, cS U32 a), (1, cS U32 b), (5, cI ((k : Int) - 1))], [], 4, []⟩) (fun k => k ≤ a.length ∧ a.drop k = b.drop k) (fun k => k) a.length ⟨Nat.le_refl _, by simp [hl]⟩ (wk ⟨⟨_, rfl, AVle.refl _⟩, ⟨_, rfl, AVle.refl _⟩, ⟨_, rfl, AVle.refl _⟩, trivial⟩ trivial) ?_)
      rintro k ⟨hk, hd⟩
      refine tr_seq (rr rfl ?_)
      refine tr_cond rfl (fun h3 => ?_) (fun h3 => ?_)
      · simp at h3
        obtain ⟨j, rfl⟩ : ∃ j, k = j + 1 := ⟨k - 1, by omega⟩
        have hj : (((j + 1 : Nat) : Int) - 1) = j := by omega
        have hlt : j < a.length := by omega
        rw [hj]
        refine tr_skip (at_then (tr_seq (tr_block (tr_seq (rr rfl ?_)))))
        have ga := rng_get ha j
        have gb := rng_get hb j
        refine tr_cond rfl (fun h4 => ?_) (fun h4 => ?_)
        · simp at h4
          refine rr rfl (tr_ret ?_)
          repeat (first | refine at_then_ret ?_ | refine at_block_ret ?_ | refine at_loop_ret ?_)
          refine at_ret TT_ok rfl (AVle.of_eq ?_)
          rw [cmpN, if_pos (val_lt_at ha hb j hd hl hlt h4)]; rfl
        · have h4 : ¬ (a.getD j 0 < b.getD j 0) := by simpa using h4
          refine tr_skip (at_then (rr rfl ?_))
          refine tr_cond rfl (fun h5 => ?_) (fun h5 => ?_)
          · simp at h5
            refine rr rfl (tr_ret ?_)
            repeat (first | refine at_then_ret ?_ | refine at_block_ret ?_ | refine at_loop_ret ?_)
            refine at_ret TT_ok rfl (AVle.of_eq ?_)
            have := val_lt_at hb ha j hd.symm hl.symm (by omega) h5
            rw [cmpN, if_neg (by omega), if_pos this]; rfl
          · have h5 : ¬ (a.getD j 0 > b.getD j 0) := by simpa using h5
            refine tr_skip (at_block (at_then (rt rfl (at_loop j ⟨by omega, ?_⟩ (by show j < j + 1; omega) (wk ⟨⟨_, rfl, AVle.refl _⟩, ⟨_, rfl, AVle.refl _⟩, ⟨_, rfl, AVle.refl _⟩, trivial⟩ trivial)))))
            have e : a.getD j 0 = b.getD j 0 := by omega
            have hltb : j < b.length := by omega
            rw [List.drop_eq_getElem_cons hlt, List.drop_eq_getElem_cons hltb, hd]
            simp only [List.getD_eq_getElem?_getD, List.getElem?_eq_getElem hlt, List.getElem?_eq_getElem hltb, Option.getD_some] at e
            rw [e]
      · simp at h3
        have : k = 0 := by omega
        subst this
        refine tr_exit (at_then_exit (at_loop_exit (at_block_exit (at_then (rr rfl (tr_ret ?_))))))
        repeat (first | refine at_then_ret ?_ | refine at_block_ret ?_ | refine at_loop_ret ?_)
        refine at_ret TT_ok rfl (AVle.of_eq ?_)
        simp only [List.drop_zero] at hd
        rw [hd, cmpN, if_neg (by omega), if_neg (by omega)]; rfl
end Go.El

/- Contracts: sums of words. Own work; no condition. -/
namespace Go.El
open Go Go.Proofs

theorem getD_set_eq (o : List Int) (i j : Nat) (w : Int) (h : i < o.length) : (o.set i w).getD j 0 = if i = j then w else o.getD j 0 := by
  simp only [List.getD_eq_getElem?_getD, List.getElem?_set]
  by_cases e : i = j
  · subst e; simp [h]
  · simp [e]
theorem val_put (o : List Int) (i : Nat) (w : Int) (h : i < o.length) (hz : o.getD i 0 = 0) : val (o.set i w) = val o + w * 4294967296 ^ i := by
  rw [val_set o i w h, hz]; simp
/-- How the loop stands: i words are made. -/
structure AddI (a b : List Int) (m : Nat) (x : Nat × List Int × Int) : Prop where
  i : x.1 ≤ m
  len : x.2.1.length = m
  r : rng x.2.1
  z : ∀ j, x.1 ≤ j → x.2.1.getD j 0 = 0
  c0 : 0 ≤ x.2.2
  c1 : x.2.2 ≤ 1
  v : val x.2.1 + x.2.2 * 4294967296 ^ x.1 = val (a.take x.1) + val (b.take x.1)
theorem AddI.next {a b : List Int} {m : Nat} {x : Nat × List Int × Int} (h : AddI a b m x) (hi : x.1 < m) (ha : rng a) (hb : rng b) : AddI a b m (x.1 + 1, x.2.1.set x.1 ((a.getD x.1 0 + b.getD x.1 0 + x.2.2) % 4294967296), (a.getD x.1 0 + b.getD x.1 0 + x.2.2) / 4294967296) := by
  have h1 := rng_get ha x.1
  have h2 := rng_get hb x.1
  have h3 := h.c0
  have h4 := h.c1
  refine ⟨hi, by simp [h.len], rng_set h.r _ ⟨by omega, by omega⟩, ?_, (by show 0 ≤ _ / _; omega), (by show _ / _ ≤ 1; omega), ?_⟩
  · intro j hj
    simp only at hj
    rw [getD_set_eq _ _ _ _ (by rw [h.len]; exact hi), if_neg (by omega)]
    exact h.z j (by omega)
  · simp only
    rw [val_put _ _ _ (by rw [h.len]; exact hi) (h.z _ (Nat.le_refl _)), val_take_succ', val_take_succ', Int.pow_succ]
    have hv := h.v
    generalize (4294967296 : Int) ^ x.1 = q at hv ⊢
    generalize ht : a.getD x.1 0 + b.getD x.1 0 + x.2.2 = s
    have hs : s % 4294967296 + s / 4294967296 * 4294967296 = s := by omega
    have : val x.2.1 = val (a.take x.1) + val (b.take x.1) - x.2.2 * q := by omega
    rw [this]
    have e : s % 4294967296 * q + s / 4294967296 * (q * 4294967296) = s * q := by
      rw [show s / 4294967296 * (q * 4294967296) = s / 4294967296 * 4294967296 * q by grind, ← Int.add_mul, hs]
    have e2 : s * q = a.getD x.1 0 * q + b.getD x.1 0 * q + x.2.2 * q := by rw [← ht]; grind
    omega

theorem max_if (x y : Nat) : (if (y : Int) > x then (y : Int) else x) = ((max x y : Nat) : Int) := by
  by_cases h : (y : Int) > x
  · rw [if_pos h]; omega
  · rw [if_neg h]; omega
theorem radded_s (a b : List Int) (ha : rng a) (hb : rng b) (la : a.length ≤ 1099511627776) (lb : b.length ≤ 1099511627776) : FnS Tryz.prog 108 [cS U32 a, cS U32 b] (cS U32 (wordsN (val a + val b).toNat)) := by
  refine fs_intro Tryz.func108 rfl rfl rfl rfl rfl (by decide) ?_
  refine rr rfl (rr rfl (rb ?_))
  refine rm U32 (max a.length b.length + 1) rfl rfl rfl rfl rfl rfl (zr_int .u32) ?_ ?_ ?_ ?_
  · rw [max_if]; rfl
  · show _ * 4 ≤ _; omega
  · show _ * 1 ≤ _; omega
  refine re rfl (rr rfl (tr_seq (rr rfl ?_)))
  generalize hM : max a.length b.length + 1 = M
  refine tr_block (tr_loop (α := Nat × List Int × Int) (fun x => ⟨[(0, cS U32 a), (1, cS U32 b), (5, cI M), (6, .c (.X 2001000)), (7, cU x.2.2), (8, cI x.1)], [(2001000, .vec 23 U32 x.2.1)], 5, []⟩) (AddI a b M) (fun x => M - x.1) (0, List.replicate M 0, 0) ?_ ?_ ?_)
  · refine ⟨Nat.zero_le _, by simp, rng_rep M, ?_, Int.le_refl _, (by show (0 : Int) ≤ 1; decide), by simp [val_rep, val]⟩
    intro j _
    simp only [List.getD_eq_getElem?_getD, List.getElem?_replicate]
    split <;> rfl
  · refine wk ⟨⟨_, rfl, AVle.refl _⟩, ⟨_, rfl, AVle.refl _⟩, ⟨_, rfl, AVle.of_eq ?_⟩, ⟨_, rfl, AVle.refl _⟩, ⟨_, rfl, AVle.refl _⟩, ⟨_, rfl, AVle.refl _⟩, trivial⟩ ⟨⟨_, rfl, BLe.refl _⟩, trivial⟩
    rw [max_if, ← hM]; congr 2
  · rintro ⟨i, o, c⟩ hI
    have hlen : o.length = M := hI.len
    have hc0 : 0 ≤ c := hI.c0
    have hc1 : c ≤ 1 := hI.c1
    have ga := rng_get ha i
    have gb := rng_get hb i
    refine tr_seq (rr rfl ?_)
    refine tr_cond rfl (fun h => ?_) (fun h => ?_)
    · have h : i < M := by simpa using h
      refine tr_skip (at_then (tr_seq (tr_block (rb ?_))))
      refine rc rfl rfl (rword_s a i ha) (rc rfl rfl (rword_s b i hb) (re rfl ?_))
      have e0 : IntKind.wrap .u64 (IntKind.wrap .u64 (a.getD i 0 + b.getD i 0) + c) = a.getD i 0 + b.getD i 0 + c := by
        rw [wrap_u64 (a.getD i 0 + b.getD i 0) (by omega) (by omega), wrap_u64 _ (by omega) (by omega)]
      rw [e0]
      generalize ht : a.getD i 0 + b.getD i 0 + c = s
      have e1 : IntKind.wrap .u32 (s.tmod 4294967296) = s % 4294967296 := by
        rw [Int.tmod_eq_emod_of_nonneg (by omega), wrap_u32 _ (by omega) (by omega)]
      have e2 : IntKind.wrap .u64 (s.tdiv 4294967296) = s / 4294967296 := by
        rw [Int.tdiv_eq_ediv_of_nonneg (by omega), wrap_u64 _ (by omega) (by omega)]
      have hn := hI.next h ha hb
      simp only [ht] at hn
      refine rr rfl (rt rfl (at_block (at_then (rt rfl (at_loop (i + 1, o.set i (s % 4294967296), s / 4294967296) hn (by show M - (i + 1) < M - i; omega) (wk ⟨⟨_, rfl, AVle.refl _⟩, ⟨_, rfl, AVle.refl _⟩, ⟨_, rfl, AVle.refl _⟩, ⟨_, rfl, AVle.refl _⟩, ⟨_, rfl, AVle.of_eq ?_⟩, ⟨_, rfl, AVle.of_eq ?_⟩, trivial⟩ ⟨⟨_, rfl, BLe.of_eq ?_⟩, trivial⟩))))))
      · exact congrArg (fun x => AV.c (C.I .u64 x)) e2
      · rfl
      · rw [e1, Int.toNat_natCast]
    · have h : ¬ i < M := by simpa using h
      have hi : i = M := by have := hI.i; simp only at this; omega
      refine tr_exit (at_then_exit (at_loop_exit (at_block_exit (at_then (tr_frz 2001000 rfl rfl rfl (rb ?_))))))
      refine rc rfl rfl (rtrim_s _) (re rfl (tr_ret (at_ret TT_ok rfl (AVle.of_eq ?_))))
      have hv := hI.v
      simp only at hv
      have hr : rng o := hI.r
      have hb1 := val_lt hr
      have hnn := val_nonneg hr
      have hva : val (a.take i) = val a := val_take_ge a i (by omega)
      have hvb : val (b.take i) = val b := val_take_ge b i (by omega)
      have hla := val_lt ha
      have hlb := val_lt hb
      have pa : (4294967296 : Int) ^ a.length ≤ 4294967296 ^ (M - 1) := powB_le (by omega)
      have pb : (4294967296 : Int) ^ b.length ≤ 4294967296 ^ (M - 1) := powB_le (by omega)
      have pm : (4294967296 : Int) ^ M = 4294967296 ^ (M - 1) * 4294967296 := by rw [← Int.pow_succ]; congr 1; omega
      have hpos := powB_pos (M - 1)
      have hc : c = 0 := by
        rw [hva, hvb, hi, pm] at hv
        rcases Int.lt_or_le c 1 with hlt | hge
        · omega
        · have : c = 1 := by omega
          subst this
          omega
      rw [trimW_eq hr]
      subst hc
      rw [hva, hvb] at hv
      simp only [Int.zero_mul, Int.add_zero] at hv
      rw [hv]
end Go.El

/- Contracts: differences and products of words. Own work; no condition. -/
namespace Go.El
open Go Go.Proofs

structure SubI (a b : List Int) (m : Nat) (x : Nat × List Int × Int) : Prop where
  i : x.1 ≤ m
  len : x.2.1.length = m
  r : rng x.2.1
  z : ∀ j, x.1 ≤ j → x.2.1.getD j 0 = 0
  c0 : 0 ≤ x.2.2
  c1 : x.2.2 ≤ 1
  v : val x.2.1 - x.2.2 * 4294967296 ^ x.1 = val (a.take x.1) - val (b.take x.1)
theorem SubI.next {a b : List Int} {m : Nat} {x : Nat × List Int × Int} (h : SubI a b m x) (hi : x.1 < m) (ha : rng a) (hb : rng b) : SubI a b m (x.1 + 1, x.2.1.set x.1 ((4294967296 + a.getD x.1 0 - b.getD x.1 0 - x.2.2) % 4294967296), 1 - (4294967296 + a.getD x.1 0 - b.getD x.1 0 - x.2.2) / 4294967296) := by
  have h1 := rng_get ha x.1
  have h2 := rng_get hb x.1
  have h3 := h.c0
  have h4 := h.c1
  refine ⟨hi, by simp [h.len], rng_set h.r _ ⟨by omega, by omega⟩, ?_, (by show 0 ≤ 1 - _ / _; omega), (by show 1 - _ / _ ≤ 1; omega), ?_⟩
  · intro j hj
    simp only at hj
    rw [getD_set_eq _ _ _ _ (by rw [h.len]; exact hi), if_neg (by omega)]
    exact h.z j (by omega)
  · simp only
    rw [val_put _ _ _ (by rw [h.len]; exact hi) (h.z _ (Nat.le_refl _)), val_take_succ', val_take_succ', Int.pow_succ]
    have hv := h.v
    generalize (4294967296 : Int) ^ x.1 = q at hv ⊢
    generalize ht : 4294967296 + a.getD x.1 0 - b.getD x.1 0 - x.2.2 = s
    have hs : s % 4294967296 + s / 4294967296 * 4294967296 = s := by omega
    have : val x.2.1 = val (a.take x.1) - val (b.take x.1) + x.2.2 * q := by omega
    rw [this]
    have e : s % 4294967296 * q + s / 4294967296 * (q * 4294967296) = s * q := by
      rw [show s / 4294967296 * (q * 4294967296) = s / 4294967296 * 4294967296 * q by grind, ← Int.add_mul, hs]
    have e2 : s * q = 4294967296 * q + a.getD x.1 0 * q - b.getD x.1 0 * q - x.2.2 * q := by rw [← ht]; grind
    have e3 : (1 - s / 4294967296) * (q * 4294967296) = 4294967296 * q - s / 4294967296 * (q * 4294967296) := by grind
    omega

theorem rtaken_s (a b : List Int) (ha : rng a) (hb : rng b) (hl : b.length ≤ a.length) (hle : val b ≤ val a) (la : a.length ≤ 1099511627776) : FnS Tryz.prog 110 [cS U32 a, cS U32 b] (cS U32 (wordsN (val a - val b).toNat)) := by
  refine fs_intro Tryz.func110 rfl rfl rfl rfl rfl (by decide) ?_
  refine rr rfl (rb ?_)
  refine rm U32 a.length rfl rfl rfl rfl rfl rfl (zr_int .u32) rfl ?_ ?_ ?_
  · show _ * 4 ≤ _; omega
  · show _ * 1 ≤ _; omega
  refine re rfl (rr rfl (tr_seq (rr rfl ?_)))
  generalize hM : a.length = M
  refine tr_block (tr_loop (α := Nat × List Int × Int) (fun x => ⟨[(0, cS U32 a), (1, cS U32 b), (5, .c (.X 1002000)), (6, cU x.2.2), (7, cI x.1)], [(1002000, .vec 23 U32 x.2.1)], 4, []⟩) (SubI a b M) (fun x => M - x.1) (0, List.replicate M 0, 0) ?_ ?_ ?_)
  · refine ⟨Nat.zero_le _, by simp, rng_rep M, ?_, Int.le_refl _, (by show (0 : Int) ≤ 1; decide), by simp [val_rep, val]⟩
    intro j _
    simp only [List.getD_eq_getElem?_getD, List.getElem?_replicate]
    split <;> rfl
  · exact wk ⟨⟨_, rfl, AVle.refl _⟩, ⟨_, rfl, AVle.refl _⟩, ⟨_, rfl, AVle.refl _⟩, ⟨_, rfl, AVle.refl _⟩, ⟨_, rfl, AVle.refl _⟩, trivial⟩ ⟨⟨_, rfl, BLe.refl _⟩, trivial⟩
  · rintro ⟨i, o, c⟩ hI
    have hlen : o.length = M := hI.len
    have hc0 : 0 ≤ c := hI.c0
    have hc1 : c ≤ 1 := hI.c1
    have ga := rng_get ha i
    have gb := rng_get hb i
    refine tr_seq (rr rfl ?_)
    refine tr_cond rfl (fun h => ?_) (fun h => ?_)
    · have h : i < M := by simpa [hM] using h
      refine tr_skip (at_then (tr_seq (tr_block (rb ?_))))
      refine rc rfl rfl (rword_s b i hb) (re rfl ?_)
      have e0 : IntKind.wrap .u64 (IntKind.wrap .u64 (IntKind.wrap .u64 (4294967296 + IntKind.wrap .u64 (a.getD (i : Int).toNat 0)) - b.getD i 0) - c) = 4294967296 + a.getD i 0 - b.getD i 0 - c := by
        rw [Int.toNat_natCast, wrap_u64 (a.getD i 0) (by omega) (by omega), wrap_u64 (4294967296 + a.getD i 0) (by omega) (by omega), wrap_u64 (4294967296 + a.getD i 0 - b.getD i 0) (by omega) (by omega), wrap_u64 _ (by omega) (by omega)]
      simp only [e0]
      generalize ht : 4294967296 + a.getD i 0 - b.getD i 0 - c = s
      have e1 : IntKind.wrap .u32 (s.tmod 4294967296) = s % 4294967296 := by
        rw [Int.tmod_eq_emod_of_nonneg (by omega), wrap_u32 _ (by omega) (by omega)]
      have e2 : IntKind.wrap .u64 (1 - IntKind.wrap .u64 (s.tdiv 4294967296)) = 1 - s / 4294967296 := by
        rw [Int.tdiv_eq_ediv_of_nonneg (by omega), wrap_u64 (s / 4294967296) (by omega) (by omega), wrap_u64 _ (by omega) (by omega)]
      have hn := hI.next h ha hb
      simp only [ht] at hn
      refine rr rfl (rt rfl (at_block (at_then (rt rfl (at_loop (i + 1, o.set i (s % 4294967296), 1 - s / 4294967296) hn (by show M - (i + 1) < M - i; omega) (wk ⟨⟨_, rfl, AVle.refl _⟩, ⟨_, rfl, AVle.refl _⟩, ⟨_, rfl, AVle.refl _⟩, ⟨_, rfl, AVle.of_eq ?_⟩, ⟨_, rfl, AVle.of_eq ?_⟩, trivial⟩ ⟨⟨_, rfl, BLe.of_eq ?_⟩, trivial⟩))))))
      · exact congrArg (fun x => AV.c (C.I .u64 x)) e2
      · rfl
      · rw [e1, Int.toNat_natCast]
    · have h : ¬ i < M := by simpa [hM] using h
      have hi : i = M := by have := hI.i; simp only at this; omega
      refine tr_exit (at_then_exit (at_loop_exit (at_block_exit (at_then (tr_frz 1002000 rfl rfl rfl (rb ?_))))))
      refine rc rfl rfl (rtrim_s _) (re rfl (tr_ret (at_ret TT_ok rfl (AVle.of_eq ?_))))
      have hv := hI.v
      simp only at hv
      have hr : rng o := hI.r
      have hb1 := val_lt hr
      have hnn := val_nonneg hr
      have hva : val (a.take i) = val a := val_take_ge a i (by omega)
      have hvb : val (b.take i) = val b := val_take_ge b i (by omega)
      have hpos := powB_pos M
      rw [hlen] at hb1
      have hc : c = 0 := by
        rw [hva, hvb, hi] at hv
        rcases Int.lt_or_le c 1 with hlt | hge
        · omega
        · have : c = 1 := by omega
          subst this
          omega
      rw [trimW_eq hr]
      subst hc
      rw [hva, hvb] at hv
      simp only [Int.zero_mul, Int.sub_zero] at hv
      rw [hv]
end Go.El

/- Contracts: products of words. Own work; no condition. -/
namespace Go.El
open Go Go.Proofs

structure MulO (a b : List Int) (x : Nat × List Int) : Prop where
  i : x.1 ≤ a.length
  len : x.2.length = a.length + b.length
  r : rng x.2
  z : ∀ j, x.1 + b.length ≤ j → x.2.getD j 0 = 0
  v : val x.2 = val (a.take x.1) * val b
structure MulI (a b : List Int) (i : Nat) (x : Nat × List Int × Int) : Prop where
  k : x.1 ≤ b.length
  len : x.2.1.length = a.length + b.length
  r : rng x.2.1
  z : ∀ j, i + b.length ≤ j → x.2.1.getD j 0 = 0
  c0 : 0 ≤ x.2.2
  c1 : x.2.2 < 4294967296
  v : val x.2.1 + x.2.2 * 4294967296 ^ (i + x.1) = val (a.take i) * val b + a.getD i 0 * val (b.take x.1) * 4294967296 ^ i
theorem mul_lt_sq {x y : Int} (hx : 0 ≤ x) (hx' : x ≤ 4294967295) (hy : 0 ≤ y) (hy' : y ≤ 4294967295) : 0 ≤ x * y ∧ x * y ≤ 18446744065119617025 := by
  refine ⟨Int.mul_nonneg hx hy, ?_⟩
  have h1 : x * y ≤ 4294967295 * y := Int.mul_le_mul_of_nonneg_right hx' hy
  omega
theorem MulI.next {a b : List Int} {i : Nat} {x : Nat × List Int × Int} (h : MulI a b i x) (hi : i < a.length) (hk : x.1 < b.length) (ha : rng a) (hb : rng b) : MulI a b i (x.1 + 1, x.2.1.set (i + x.1) ((a.getD i 0 * b.getD x.1 0 + x.2.1.getD (i + x.1) 0 + x.2.2) % 4294967296), (a.getD i 0 * b.getD x.1 0 + x.2.1.getD (i + x.1) 0 + x.2.2) / 4294967296) := by
  have h1 := rng_get ha i
  have h2 := rng_get hb x.1
  have h3 := h.c0
  have h4 := h.c1
  have h5 := rng_get h.r (i + x.1)
  have h6 := mul_lt_sq h1.1 (by omega) h2.1 (by omega)
  have hlt : i + x.1 < x.2.1.length := by rw [h.len]; omega
  refine ⟨hk, by simp [h.len], rng_set h.r _ ⟨by omega, by omega⟩, ?_, (by show 0 ≤ _ / _; omega), (by show _ / _ < (4294967296 : Int); omega), ?_⟩
  · intro j hj
    simp only
    rw [getD_set_eq _ _ _ _ hlt, if_neg (by omega)]
    exact h.z j hj
  · simp only
    rw [val_set _ _ _ hlt, val_take_succ', ← Nat.add_assoc, Int.pow_succ]
    have hv := h.v
    have hp : (4294967296 : Int) ^ (i + x.1) = 4294967296 ^ i * 4294967296 ^ x.1 := Int.pow_add ..
    generalize hq : (4294967296 : Int) ^ (i + x.1) = q at hv hp ⊢
    generalize ht : a.getD i 0 * b.getD x.1 0 + x.2.1.getD (i + x.1) 0 + x.2.2 = s
    have hs : s % 4294967296 + s / 4294967296 * 4294967296 = s := by omega
    have e : s % 4294967296 * q + s / 4294967296 * (q * 4294967296) = s * q := by
      rw [show s / 4294967296 * (q * 4294967296) = s / 4294967296 * 4294967296 * q by grind, ← Int.add_mul, hs]
    have e2 : s * q = a.getD i 0 * b.getD x.1 0 * q + x.2.1.getD (i + x.1) 0 * q + x.2.2 * q := by rw [← ht]; grind
    have e3 : (s % 4294967296 - x.2.1.getD (i + x.1) 0) * q = s % 4294967296 * q - x.2.1.getD (i + x.1) 0 * q := by grind
    have e4 : a.getD i 0 * (val (b.take x.1) + b.getD x.1 0 * 4294967296 ^ x.1) * 4294967296 ^ i = a.getD i 0 * val (b.take x.1) * 4294967296 ^ i + a.getD i 0 * b.getD x.1 0 * q := by rw [hp]; grind
    rw [e3, e4]
    omega
theorem MulI.done {a b : List Int} {i : Nat} {o : List Int} {c : Int} (h : MulI a b i (b.length, o, c)) (hi : i < a.length) : MulO a b (i + 1, o.set (i + b.length) c) := by
  have hlen : o.length = a.length + b.length := h.len
  have h3 := h.c0
  have h4 := h.c1
  have hz : o.getD (i + b.length) 0 = 0 := h.z _ (Nat.le_refl _)
  refine ⟨hi, by simp [hlen], rng_set h.r _ ⟨h3, h4⟩, ?_, ?_⟩
  · intro j hj
    simp only at hj ⊢
    rw [getD_set_eq _ _ _ _ (by omega), if_neg (by omega)]
    exact h.z j (by omega)
  · simp only
    rw [val_put _ _ _ (by omega) hz, val_take_succ']
    have hv := h.v
    simp only [List.take_length] at hv
    rw [hv]
    grind

set_option maxHeartbeats 1000000 in
theorem rtimes_s (a b : List Int) (ha : rng a) (hb : rng b) (la : a.length ≤ 1099511627776) (lb : b.length ≤ 1099511627776) : FnS Tryz.prog 111 [cS U32 a, cS U32 b] (cS U32 (wordsN (val a * val b).toNat)) := by
  refine fs_intro Tryz.func111 rfl rfl rfl rfl rfl (by decide) ?_
  refine rr rfl (rb ?_)
  refine rm U32 (a.length + b.length) rfl rfl rfl rfl rfl rfl (zr_int .u32) rfl ?_ ?_ ?_
  · show _ * 4 ≤ _; omega
  · show _ * 1 ≤ _; omega
  refine re rfl (tr_seq (rr rfl ?_))
  refine tr_block (tr_loop (α := Nat × List Int) (fun x => ⟨[(0, cS U32 a), (1, cS U32 b), (5, .c (.X 1005000)), (6, cI x.1)], [(1005000, .vec 23 U32 x.2)], 3, []⟩) (MulO a b) (fun x => a.length - x.1) (0, List.replicate (a.length + b.length) 0) ?_ ?_ ?_)
  · refine ⟨Nat.zero_le _, by simp, rng_rep _, ?_, by simp [val_rep, val]⟩
    intro j _
    simp only [List.getD_eq_getElem?_getD, List.getElem?_replicate]
    split <;> rfl
  · exact wk ⟨⟨_, rfl, AVle.refl _⟩, ⟨_, rfl, AVle.refl _⟩, ⟨_, rfl, AVle.refl _⟩, ⟨_, rfl, AVle.refl _⟩, trivial⟩ ⟨⟨_, rfl, BLe.refl _⟩, trivial⟩
  · rintro ⟨i, o⟩ hO
    have hlen : o.length = a.length + b.length := hO.len
    refine tr_seq (rr rfl ?_)
    refine tr_cond rfl (fun h => ?_) (fun h => ?_)
    · have h : i < a.length := by simpa using h
      refine tr_skip (at_then (tr_seq (tr_block (rr rfl (tr_seq (rr rfl ?_))))))
      refine tr_block (tr_loop (α := Nat × List Int × Int) (fun x => ⟨[(0, cS U32 a), (1, cS U32 b), (5, .c (.X 1005000)), (6, cI i), (7, cU x.2.2), (8, cI x.1)], [(1005000, .vec 23 U32 x.2.1)], 6, []⟩) (MulI a b i) (fun x => b.length - x.1) (0, o, 0) ?_ ?_ ?_)
      · refine ⟨Nat.zero_le _, hlen, hO.r, hO.z, Int.le_refl _, (by show (0 : Int) < _; decide), ?_⟩
        have := hO.v
        simp only at this
        simp [this, val]
      · exact wk ⟨⟨_, rfl, AVle.refl _⟩, ⟨_, rfl, AVle.refl _⟩, ⟨_, rfl, AVle.refl _⟩, ⟨_, rfl, AVle.refl _⟩, ⟨_, rfl, AVle.refl _⟩, ⟨_, rfl, AVle.refl _⟩, trivial⟩ ⟨⟨_, rfl, BLe.refl _⟩, trivial⟩
      · rintro ⟨k, o, c⟩ hI
        have hlen : o.length = a.length + b.length := hI.len
        have hc0 : 0 ≤ c := hI.c0
        have hc1 : c < 4294967296 := hI.c1
        refine tr_seq (rr rfl ?_)
        refine tr_cond rfl (fun h2 => ?_) (fun h2 => ?_)
        · have h2 : k < b.length := by simpa using h2
          have ga := rng_get ha i
          have gb := rng_get hb k
          have go := rng_get hI.r (i + k)
          simp only at go
          have gm := mul_lt_sq ga.1 (by omega) gb.1 (by omega)
          refine tr_skip (at_then (tr_seq (tr_block (rr rfl ?_ (hp := by simp only [Pr.an, Pr.h, num, i64r, true_and, and_true]; omega)))))
          have eik : ((i : Int) + (k : Int)).toNat = i + k := by omega
          have e0 : IntKind.wrap .u64 (IntKind.wrap .u64 (IntKind.wrap .u64 (IntKind.wrap .u64 (a.getD (i : Int).toNat 0) * IntKind.wrap .u64 (b.getD (k : Int).toNat 0)) + IntKind.wrap .u64 (o.getD ((i : Int) + (k : Int)).toNat 0)) + c) = a.getD i 0 * b.getD k 0 + o.getD (i + k) 0 + c := by
            rw [eik, Int.toNat_natCast, Int.toNat_natCast, wrap_u64 (a.getD i 0) (by omega) (by omega), wrap_u64 (b.getD k 0) (by omega) (by omega), wrap_u64 (o.getD (i + k) 0) (by omega) (by omega), wrap_u64 (a.getD i 0 * b.getD k 0) (by omega) (by omega), wrap_u64 (a.getD i 0 * b.getD k 0 + o.getD (i + k) 0) (by omega) (by omega), wrap_u64 _ (by omega) (by omega)]
          have hn := hI.next h h2 ha hb
          simp only at hn
          generalize ht : a.getD i 0 * b.getD k 0 + o.getD (i + k) 0 + c = s at hn e0
          have e1 : IntKind.wrap .u32 (s.tmod 4294967296) = s % 4294967296 := by
            rw [Int.tmod_eq_emod_of_nonneg (by omega), wrap_u32 _ (by omega) (by omega)]
          have e2 : IntKind.wrap .u64 (s.tdiv 4294967296) = s / 4294967296 := by
            rw [Int.tdiv_eq_ediv_of_nonneg (by omega), wrap_u64 _ (by omega) (by omega)]
          refine tr_wk (st' := ⟨[(0, cS U32 a), (1, cS U32 b), (5, .c (.X 1005000)), (6, cI i), (8, cI k), (9, cU s)], [(1005000, .vec 23 U32 o)], 8, []⟩) (wk ⟨⟨_, rfl, AVle.refl _⟩, ⟨_, rfl, AVle.refl _⟩, ⟨_, rfl, AVle.refl _⟩, ⟨_, rfl, AVle.refl _⟩, ⟨_, rfl, AVle.refl _⟩, ⟨_, rfl, AVle.of_eq ?_⟩, trivial⟩ ⟨⟨_, rfl, BLe.refl _⟩, trivial⟩) ?_
          · exact congrArg (fun x => AV.c (C.I .u64 x)) e0
          refine rr rfl (rt rfl (at_block (at_then (rt rfl (at_loop (k + 1, o.set (i + k) (s % 4294967296), s / 4294967296) hn (by show b.length - (k + 1) < b.length - k; omega) (wk ⟨⟨_, rfl, AVle.refl _⟩, ⟨_, rfl, AVle.refl _⟩, ⟨_, rfl, AVle.refl _⟩, ⟨_, rfl, AVle.refl _⟩, ⟨_, rfl, AVle.of_eq ?_⟩, ⟨_, rfl, AVle.of_eq ?_⟩, trivial⟩ ⟨⟨_, rfl, BLe.of_eq ?_⟩, trivial⟩))))))
          · exact congrArg (fun x => AV.c (C.I .u64 x)) e2
          · rfl
          · rw [e1, eik]
        · have h2 : ¬ k < b.length := by simpa using h2
          have hk : k = b.length := by have := hI.k; simp only at this; omega
          subst hk
          have hd := hI.done h
          have eik : ((i : Int) + (b.length : Int)).toNat = i + b.length := by omega
          have e1 : IntKind.wrap .u32 c = c := wrap_u32 c hc0 hc1
          refine tr_exit (at_then_exit (at_loop_exit (at_block_exit (at_then (rt rfl (at_block (at_then (rt rfl (at_loop (i + 1, o.set (i + b.length) c) hd (by show a.length - (i + 1) < a.length - i; omega) (wk ⟨⟨_, rfl, AVle.refl _⟩, ⟨_, rfl, AVle.refl _⟩, ⟨_, rfl, AVle.refl _⟩, ⟨_, rfl, AVle.of_eq ?_⟩, trivial⟩ ⟨⟨_, rfl, BLe.of_eq ?_⟩, trivial⟩))))))))))
          · rfl
          · rw [e1, eik]
    · have h : ¬ i < a.length := by simpa using h
      have hi : i = a.length := by have := hO.i; simp only at this; omega
      subst hi
      refine tr_exit (at_then_exit (at_loop_exit (at_block_exit (at_then (tr_frz 1005000 rfl rfl rfl (rb ?_))))))
      refine rc rfl rfl (rtrim_s _) (re rfl (tr_ret (at_ret TT_ok rfl (AVle.of_eq ?_))))
      have hv := hO.v
      simp only [List.take_length] at hv
      rw [trimW_eq hO.r]
      simp only [hv]
end Go.El

/- Contracts: integers of the reference: Of, Sign, Neg, Cmp, Add, Mul. Own work; no condition. -/
namespace Go.El
open Go Go.Proofs

/-- A length that no slice comes near. -/
def Sm (z : Int) : Prop := (zmag z).length ≤ 1099511627776
def sg (neg : Bool) (m : Nat) : Int := if neg then -(m : Int) else m
theorem sg_self (z : Int) : sg (zneg z) z.natAbs = z := by
  unfold sg zneg
  by_cases h : z < 0
  · simp [h]; omega
  · simp [h]; omega
theorem val_zmag (z : Int) : val (zmag z) = z.natAbs := val_words _
theorem rng_zmag (z : Int) : rng (zmag z) := rng_words _
theorem can_zmag (z : Int) : can (zmag z) := words_can _
theorem words_nil {m : Nat} : 0 < (wordsN m).length ↔ m ≠ 0 := by
  constructor
  · intro h e; subst e; simp [wordsN_zero] at h
  · intro h; rw [wordsN_pos h]; simp
theorem mkZ (neg : Bool) (m : Nat) : (AV.a [.B (neg && decide (0 < (wordsN m).length)), .S U32 (wordsN m)]) = aZ (sg neg m) := by
  have e1 : zneg (sg neg m) = (neg && decide (0 < (wordsN m).length)) := by
    unfold zneg sg
    cases neg with
    | false => simp
    | true =>
      simp only [if_true, Bool.true_and]
      rw [Bool.eq_iff_iff]
      simp only [decide_eq_true_eq]
      rw [words_nil]; omega
  have e2 : (sg neg m).natAbs = m := by unfold sg; cases neg <;> simp
  unfold aZ
  simp only [av, zmag, e1, e2]
theorem rmade_z (neg : Bool) (m : Nat) : FnS Tryz.prog 107 [cB neg, cS U32 (wordsN m)] (aZ (sg neg m)) := by
  have := rmade_s neg (wordsN m)
  rw [trimW_words, mkZ] at this
  exact this

theorem rOf_s (n : Int) (h0 : -9223372036854775808 ≤ n) (h1 : n ≤ 9223372036854775807) : FnS Tryz.prog 38 [cI n] (aZ n) := by
  refine fs_intro Tryz.func38 rfl rfl rfl rfl rfl (by decide) ?_
  refine rr rfl (tr_seq (rr rfl ?_))
  refine tr_cond rfl (fun h => ?_) (fun h => ?_)
  · have h : n < 0 := by simpa using h
    have e : IntKind.wrap .u64 (IntKind.wrap .u64 (0 - (n + 1)) + 1) = ((-n).toNat : Nat) := by
      rw [wrap_u64 (0 - (n + 1)) (by omega) (by omega), wrap_u64 _ (by omega) (by omega)]; omega
    refine rb ?_
    refine rc rfl rfl (f := 112) (r := cS U32 (wordsN (-n).toNat)) (by rw [e]; exact rwords_s _ (by omega)) ?_
    refine rc rfl rfl (rmade_z true _) (re rfl (tr_ret (at_then_ret (at_ret TT_ok rfl (AVle.of_eq ?_)))))
    have e2 : sg true (-n).toNat = n := by unfold sg; simp; omega
    rw [e2]; rfl
  · have h : ¬ n < 0 := by simpa using h
    have e : IntKind.wrap .u64 n = (n.toNat : Nat) := by
      rw [wrap_u64 _ (by omega) (by omega)]; omega
    refine tr_skip (at_then (rb ?_))
    refine rc rfl rfl (f := 112) (r := cS U32 (wordsN n.toNat)) (by rw [show (AV.c (num .u64 n).1) = cU ((n.toNat : Nat) : Int) from congrArg (fun x => AV.c (C.I .u64 x)) e]; exact rwords_s _ (by omega)) ?_
    refine rc rfl rfl (rmade_z false _) (re rfl (tr_ret (at_ret TT_ok rfl (AVle.of_eq ?_))))
    have e2 : sg false n.toNat = n := by unfold sg; simp; omega
    rw [e2]; rfl
def sgn (a : Int) : Int := if a < 0 then -1 else if a = 0 then 0 else 1
theorem rSign_s (a : Int) : FnS Tryz.prog 57 [aZ a] (cI (sgn a)) := by
  refine fs_intro Tryz.func57 rfl rfl rfl rfl rfl (by decide) ?_
  refine rr rfl (tr_seq (rr rfl ?_))
  refine tr_cond rfl (fun h => ?_) (fun h => ?_)
  · have h : a < 0 := by simpa [zneg] using h
    refine rr rfl (tr_ret (at_then_ret (at_ret TT_ok rfl (AVle.of_eq ?_))))
    rw [sgn, if_pos h]; rfl
  · have h : ¬ a < 0 := by simpa [zneg] using h
    refine tr_skip (at_then (rr rfl (tr_ret (at_ret TT_ok rfl (AVle.of_eq ?_)))))
    have e : (if true = false then (0 : Int) else if (1 : Int) < (zmag a).length then 1 else (zmag a).length) = sgn a := by
      rw [if_neg (by decide), sgn, if_neg h]
      by_cases hz : a = 0
      · subst hz; rfl
      · have : 0 < (zmag a).length := words_nil.2 (by omega)
        rw [if_neg hz]
        split <;> omega
    exact congrArg (fun x => AV.c (C.I .i64 x)) e
theorem rNeg_s (a : Int) : FnS Tryz.prog 58 [aZ a] (aZ (-a)) := by
  refine fs_intro Tryz.func58 rfl rfl rfl rfl rfl (by decide) ?_
  refine rr rfl (rb ?_)
  refine rc rfl rfl (rmade_z (!zneg a) a.natAbs) (re rfl (tr_ret (at_ret TT_ok rfl (AVle.of_eq ?_))))
  have e2 : sg (!zneg a) a.natAbs = -a := by
    unfold sg zneg
    by_cases h : a < 0
    · simp [h]; omega
    · simp [h]; omega
  rw [e2]; rfl
theorem rcompared_z (m k : Nat) : FnS Tryz.prog 109 [cS U32 (wordsN m), cS U32 (wordsN k)] (cI (cmpN m k)) := by
  have := rcompared_s (wordsN m) (wordsN k) (rng_words m) (rng_words k) (words_can m) (words_can k)
  rw [val_words, val_words] at this
  exact this
theorem rCmp_s (a b : Int) : FnS Tryz.prog 42 [aZ a, aZ b] (cI (cmpN a b)) := by
  refine fs_intro Tryz.func42 rfl rfl rfl rfl rfl (by decide) ?_
  refine rr rfl (tr_seq (rb ?_))
  refine rg 7 rfl rfl (fun h => ?_) (fun h => ?_)
  · have ha : a < 0 := by simpa [zneg] using h
    refine re rfl (tr_cond rfl (fun h2 => ?_) (fun h2 => ?_))
    · have hb : ¬ b < 0 := by simpa [zneg] using h2
      refine rr rfl (tr_ret (at_then_ret (at_ret TT_ok rfl (AVle.of_eq ?_))))
      rw [cmpN, if_pos (by omega)]; rfl
    · have hb : b < 0 := by simpa [zneg] using h2
      refine tr_skip (at_then (tr_seq (rb ?_)))
      refine rg 15 rfl rfl (fun h3 => ?_) (fun h3 => ?_)
      · simp [zneg, ha] at h3
      · refine re rfl (tr_cond rfl (fun h4 => by simp at h4) (fun _ => ?_))
        refine tr_skip (at_then (tr_seq (rr rfl ?_)))
        refine tr_cond rfl (fun h4 => ?_) (fun h4 => ?_)
        · refine rb (rc rfl rfl (rcompared_z _ _) (re rfl (tr_ret (at_then_ret (at_ret TT_ok rfl (AVle.of_eq ?_))))))
          have e : cmpN b.natAbs a.natAbs = cmpN a b := by
            unfold cmpN
            split <;> split <;> (try split) <;> omega
          exact congrArg (fun x => AV.c (C.I .i64 x)) e
        · simp [zneg, ha] at h4
  · have ha : ¬ a < 0 := by simpa [zneg] using h
    refine re rfl (tr_cond rfl (fun h2 => by simp at h2) (fun h2 => ?_))
    refine tr_skip (at_then (tr_seq (rb ?_)))
    refine rg 15 rfl rfl (fun h3 => ?_) (fun h3 => ?_)
    · refine re rfl (tr_cond rfl (fun h4 => ?_) (fun h4 => ?_))
      · have hb : b < 0 := by simpa [zneg] using h4
        refine rr rfl (tr_ret (at_then_ret (at_ret TT_ok rfl (AVle.of_eq ?_))))
        rw [cmpN, if_neg (by omega), if_pos (by omega)]; rfl
      · have hb : ¬ b < 0 := by simpa [zneg] using h4
        refine tr_skip (at_then (tr_seq (rr rfl ?_)))
        refine tr_cond rfl (fun h4 => ?_) (fun h4 => ?_)
        · simp [zneg, ha] at h4
        · refine tr_skip (at_then (rb (rc rfl rfl (rcompared_z _ _) (re rfl (tr_ret (at_ret TT_ok rfl (AVle.of_eq ?_)))))))
          have e : cmpN a.natAbs b.natAbs = cmpN a b := by
            unfold cmpN
            split <;> split <;> (try split) <;> omega
          exact congrArg (fun x => AV.c (C.I .i64 x)) e
    · simp [zneg, ha] at h3
theorem Sm.len {z : Int} (h : Sm z) : (zmag z).length ≤ 1099511627776 := h
theorem radded_z (m k : Nat) (hm : (wordsN m).length ≤ 1099511627776) (hk : (wordsN k).length ≤ 1099511627776) : FnS Tryz.prog 108 [cS U32 (wordsN m), cS U32 (wordsN k)] (cS U32 (wordsN (m + k))) := by
  have := radded_s (wordsN m) (wordsN k) (rng_words m) (rng_words k) hm hk
  rw [val_words, val_words, show ((m : Int) + (k : Int)).toNat = m + k by omega] at this
  exact this
theorem words_len_mono {m k : Nat} (h : m ≤ k) : (wordsN m).length ≤ (wordsN k).length := words_len_le (by have := words_len_lt (n := k); omega)
theorem rtaken_z (m k : Nat) (h : k ≤ m) (hm : (wordsN m).length ≤ 1099511627776) : FnS Tryz.prog 110 [cS U32 (wordsN m), cS U32 (wordsN k)] (cS U32 (wordsN (m - k))) := by
  have := rtaken_s (wordsN m) (wordsN k) (rng_words m) (rng_words k) (words_len_mono h) (by rw [val_words, val_words]; omega) hm
  rw [val_words, val_words, show ((m : Int) - (k : Int)).toNat = m - k by omega] at this
  exact this
theorem rtimes_z (m k : Nat) (hm : (wordsN m).length ≤ 1099511627776) (hk : (wordsN k).length ≤ 1099511627776) : FnS Tryz.prog 111 [cS U32 (wordsN m), cS U32 (wordsN k)] (cS U32 (wordsN (m * k))) := by
  have := rtimes_s (wordsN m) (wordsN k) (rng_words m) (rng_words k) hm hk
  rw [val_words, val_words, show ((m : Int) * (k : Int)).toNat = m * k by rw [← Int.natCast_mul]; rfl] at this
  exact this
theorem rMul_s (a b : Int) (ha : Sm a) (hb : Sm b) : FnS Tryz.prog 37 [aZ a, aZ b] (aZ (a * b)) := by
  refine fs_intro Tryz.func37 rfl rfl rfl rfl rfl (by decide) ?_
  refine rr rfl (rb ?_)
  refine rc rfl rfl (rtimes_z _ _ ha hb) (rc rfl rfl (rmade_z _ _) (re rfl (tr_ret (at_ret TT_ok rfl (AVle.of_eq ?_)))))
  have e2 : sg (zneg a != zneg b) (a.natAbs * b.natAbs) = a * b := by
    have ea := sg_self a
    have eb := sg_self b
    generalize a.natAbs = x at ea ⊢
    generalize b.natAbs = y at eb ⊢
    cases hza : zneg a <;> cases hzb : zneg b <;> rw [hza] at ea <;> rw [hzb] at eb <;> simp only [sg, if_true, if_false, Bool.false_eq_true] at ea eb <;> rw [← ea, ← eb] <;> simp [sg] <;> grind
  exact congrArg aZ e2
theorem rAdd_s (a b : Int) (ha : Sm a) (hb : Sm b) : FnS Tryz.prog 36 [aZ a, aZ b] (aZ (a + b)) := by
  refine fs_intro Tryz.func36 rfl rfl rfl rfl rfl (by decide) ?_
  refine rr rfl (tr_seq (rr rfl ?_))
  have ea := sg_self a
  have eb := sg_self b
  refine tr_cond rfl (fun h => ?_) (fun h => ?_)
  · have h : zneg a = zneg b := by simpa using h
    refine rb (rc rfl rfl (radded_z _ _ ha hb) (rc rfl rfl (rmade_z _ _) (re rfl (tr_ret (at_then_ret (at_ret TT_ok rfl (AVle.of_eq ?_)))))))
    have e2 : sg (zneg a) (a.natAbs + b.natAbs) = a + b := by
      unfold zneg sg at *
      by_cases h1 : a < 0 <;> by_cases h2 : b < 0 <;> simp [h1, h2] at h ⊢ <;> omega
    exact congrArg aZ e2
  · have h : zneg a ≠ zneg b := by simpa using h
    refine tr_skip (at_then (tr_seq (rb (rc rfl rfl (rcompared_z _ _) (re rfl ?_)))))
    refine tr_cond rfl (fun h2 => ?_) (fun h2 => ?_)
    · have h2 : a.natAbs < b.natAbs := by
        have h2 : cmpN a.natAbs b.natAbs < 0 := by simpa using h2
        unfold cmpN at h2
        split at h2
        · omega
        · split at h2 <;> omega
      refine rb (rc rfl rfl (rtaken_z _ _ (by omega) hb) (rc rfl rfl (rmade_z _ _) (re rfl (tr_ret (at_then_ret (at_ret TT_ok rfl (AVle.of_eq ?_)))))))
      have e2 : sg (zneg b) (b.natAbs - a.natAbs) = a + b := by
        unfold zneg sg at *
        by_cases h1 : a < 0 <;> by_cases h3 : b < 0 <;> simp [h1, h3] at h ⊢ <;> omega
      exact congrArg aZ e2
    · have h2 : b.natAbs ≤ a.natAbs := by
        have h2 : ¬ cmpN a.natAbs b.natAbs < 0 := by simpa using h2
        unfold cmpN at h2
        split at h2
        · omega
        · omega
      refine tr_skip (at_then (rb (rc rfl rfl (rtaken_z _ _ (by omega) ha) (rc rfl rfl (rmade_z _ _) (re rfl (tr_ret (at_ret TT_ok rfl (AVle.of_eq ?_))))))))
      have e2 : sg (zneg a) (a.natAbs - b.natAbs) = a + b := by
        unfold zneg sg at *
        by_cases h1 : a < 0 <;> by_cases h3 : b < 0 <;> simp [h1, h3] at h ⊢ <;> omega
      exact congrArg aZ e2
end Go.El

/- Contracts: integers of the reference: Gcd. Own work; no condition. -/
namespace Go.El
open Go Go.Proofs

theorem reuclid_s (m k : Nat) (hm : m < 18446744073709551616) (hk : k < 18446744073709551616) : FnS Tryz.prog 222 [cU m, cU k] (cU (Nat.gcd m k)) := by
  refine fs_intro Tryz.func222 rfl rfl rfl rfl rfl (by decide) ?_
  refine rr rfl (tr_seq (tr_block (tr_loop (α := Nat × Nat) (fun x => ⟨[(0, cU x.1), (1, cU x.2)], [], 1, []⟩) (fun x => Nat.gcd x.1 x.2 = Nat.gcd m k ∧ x.1 < 18446744073709551616 ∧ x.2 < 18446744073709551616) (fun x => x.2) (m, k) ⟨rfl, hm, hk⟩ (wk ⟨⟨_, rfl, AVle.refl _⟩, ⟨_, rfl, AVle.refl _⟩, trivial⟩ trivial) ?_)))
  rintro ⟨x, y⟩ ⟨hg, hx, hy⟩
  simp only at hg hx hy
  refine tr_seq (rr rfl ?_)
  refine tr_cond rfl (fun h => ?_) (fun h => ?_)
  · have h : 0 < y := by
      have : (y : Int) > 0 := by simpa using h
      omega
    refine tr_skip (at_then (tr_block (rr rfl (rr rfl (rt rfl (at_block (at_loop (y, x % y) ⟨?_, hy, ?_⟩ ?_ (wk ⟨⟨_, rfl, AVle.refl _⟩, ⟨_, rfl, AVle.of_eq ?_⟩, trivial⟩ trivial))))))))
    · rw [← hg, Nat.gcd_comm x y, Nat.gcd_rec y x, Nat.gcd_comm]
    · exact Nat.lt_of_lt_of_le (Nat.mod_lt _ h) (Nat.le_of_lt hy)
    · exact Nat.mod_lt _ h
    · have e : (x : Int).tmod (y : Int) = ((x % y : Nat) : Int) := by rw [Int.tmod_eq_emod_of_nonneg (by omega)]; omega
      exact congrArg (fun z => AV.c (C.I .u64 z)) e
  · have h : y = 0 := by
      have : ¬ (y : Int) > 0 := by simpa using h
      omega
    subst h
    refine tr_exit (at_then_exit (at_loop_exit (at_block_exit (at_then (rr rfl (tr_ret (at_ret TT_ok rfl (AVle.of_eq ?_))))))))
    rw [← hg, Nat.gcd_zero_right]
theorem words_get0 (m : Nat) : (wordsN m).getD 0 0 = ((m % 4294967296 : Nat) : Int) := by
  by_cases h : m = 0
  · subst h; rfl
  · rw [wordsN_pos h]; rfl
theorem words_get1 (m : Nat) (hm : m < 18446744073709551616) : (wordsN m).getD 1 0 = ((m / 4294967296 : Nat) : Int) := by
  by_cases h : m = 0
  · subst h; rfl
  · rw [wordsN_pos h, List.getD_cons_succ, words_get0]; congr 1; omega
theorem rnumber_s (m : Nat) (hm : m < 18446744073709551616) : FnS Tryz.prog 223 [cS U32 (wordsN m)] (cU m) := by
  refine fs_intro Tryz.func223 rfl rfl rfl rfl rfl (by decide) ?_
  refine rr rfl (rb ?_)
  refine rc rfl rfl (rword_s _ 1 (rng_words m)) (rc rfl rfl (rword_s _ 0 (rng_words m)) (re rfl (tr_ret (at_ret TT_ok rfl (AVle.of_eq ?_)))))
  have e : IntKind.wrap .u64 (IntKind.wrap .u64 ((wordsN m).getD 1 0 * 4294967296) + (wordsN m).getD 0 0) = m := by
    rw [words_get0, words_get1 m hm, wrap_u64 (((m / 4294967296 : Nat) : Int) * 4294967296) (by omega) (by omega), wrap_u64 _ (by omega) (by omega)]; omega
  exact congrArg (fun z => AV.c (C.I .u64 z)) e
theorem words_len2 {m : Nat} (hm : m < 18446744073709551616) : (wordsN m).length ≤ 2 := words_len_le (by show (m : Int) < 4294967296 ^ 2; omega)
theorem rcommon_s (m k : Nat) (hm : m < 18446744073709551616) (hk : k < 18446744073709551616) : FnS Tryz.prog 151 [cS U32 (wordsN m), cS U32 (wordsN k)] (cS U32 (wordsN (Nat.gcd m k))) := by
  refine fs_intro Tryz.func151 rfl rfl rfl rfl rfl (by decide) ?_
  have l1 := words_len2 hm
  have l2 := words_len2 hk
  refine rr rfl (tr_seq (tr_block (tr_loop (α := Unit) (fun _ => ⟨[(0, cS U32 (wordsN m)), (1, cS U32 (wordsN k))], [], 1, []⟩) (fun _ => True) (fun _ => 0) () trivial (wk ⟨⟨_, rfl, AVle.refl _⟩, ⟨_, rfl, AVle.refl _⟩, trivial⟩ trivial) ?_)))
  rintro ⟨⟩ _
  refine tr_seq (rr rfl ?_)
  refine tr_cond rfl (fun h => ?_) (fun h => ?_)
  · refine tr_skip (at_then (tr_block (tr_seq (rb ?_))))
    refine rg 13 rfl rfl (fun h2 => ?_) (fun h2 => ?_)
    · refine re rfl (tr_cond rfl (fun h3 => ?_) (fun h3 => ?_))
      · refine rb (rc rfl rfl (rnumber_s m hm) (rc rfl rfl (rnumber_s k hk) (rc rfl rfl (reuclid_s m k hm hk) (rc rfl rfl (rwords_s _ ?_) (re rfl (tr_ret ?_))))))
        · by_cases h0 : m = 0
          · rw [h0, Nat.gcd_zero_left]; exact hk
          · exact Nat.lt_of_le_of_lt (Nat.gcd_le_left k (by omega)) hm
        · repeat (first | refine at_then_ret ?_ | refine at_block_ret ?_ | refine at_loop_ret ?_)
          exact at_ret TT_ok rfl (AVle.refl _)
      · simp at h3; omega
    · simp at h2; omega
  · have h : (wordsN k).length = 0 := by
      have : ¬ ((wordsN k).length : Int) > 0 := by simpa using h
      omega
    have h0 : k = 0 := Decidable.byContradiction fun hne => by have := words_nil.2 hne; omega
    subst h0
    refine tr_exit (at_then_exit (at_loop_exit (at_block_exit (at_then (rr rfl (tr_ret (at_ret TT_ok rfl (AVle.of_eq ?_))))))))
    rw [Nat.gcd_zero_right]
theorem rGcd_s (a b : Int) (ha : a.natAbs < 18446744073709551616) (hb : b.natAbs < 18446744073709551616) : FnS Tryz.prog 80 [aZ a, aZ b] (aZ (Int.gcd a b)) := by
  refine fs_intro Tryz.func80 rfl rfl rfl rfl rfl (by decide) ?_
  refine rr rfl (rb ?_)
  refine rc rfl rfl (rcommon_s _ _ ha hb) (rc rfl rfl (rmade_z false _) (re rfl (tr_ret (at_ret TT_ok rfl (AVle.of_eq ?_)))))
  rfl
end Go.El

/- Contracts: integers of the reference: division by one word. Own work; no condition. -/
namespace Go.El
open Go Go.Proofs

structure DivI (a : List Int) (d : Int) (x : Nat × List Int × Int) : Prop where
  k : x.1 ≤ a.length
  len : x.2.1.length = a.length
  r : rng x.2.1
  r0 : 0 ≤ x.2.2
  r1 : x.2.2 < d
  v : val (a.drop x.1) = val (x.2.1.drop x.1) * d + x.2.2
theorem drop_cons (l : List Int) (j : Nat) (h : j < l.length) : l.drop j = l.getD j 0 :: l.drop (j + 1) := by
  rw [List.drop_eq_getElem_cons h]
  simp [List.getD_eq_getElem?_getD, List.getElem?_eq_getElem h]
theorem div_bound {r a d : Int} (h0 : 0 ≤ r) (h1 : r < d) (h2 : 0 ≤ a) (h3 : a < 4294967296) (h4 : d < 4294967296) : 0 ≤ r * 4294967296 + a ∧ r * 4294967296 + a < 18446744073709551616 ∧ 0 ≤ (r * 4294967296 + a) / d ∧ (r * 4294967296 + a) / d < 4294967296 ∧ 0 ≤ (r * 4294967296 + a) % d ∧ (r * 4294967296 + a) % d < d := by
  have hd : 0 < d := by omega
  refine ⟨by omega, by omega, Int.ediv_nonneg (by omega) (by omega), ?_, Int.emod_nonneg _ (by omega), Int.emod_lt_of_pos _ hd⟩
  apply Int.ediv_lt_of_lt_mul hd
  have : (r + 1) * 4294967296 ≤ d * 4294967296 := Int.mul_le_mul_of_nonneg_right (by omega) (by decide)
  omega
theorem DivI.next {a : List Int} {d : Int} {j : Nat} {q : List Int} {r : Int} (h : DivI a d (j + 1, q, r)) (ha : rng a) (hd : d < 4294967296) : DivI a d (j, q.set j ((r * 4294967296 + a.getD j 0) / d), (r * 4294967296 + a.getD j 0) % d) := by
  have g := rng_get ha j
  have h0 : 0 ≤ r := h.r0
  have h1 : r < d := h.r1
  have hb := div_bound h0 h1 g.1 g.2 hd
  have hk : j + 1 ≤ a.length := h.k
  have hl : q.length = a.length := h.len
  refine ⟨by show j ≤ _; omega, by simp [hl], rng_set h.r _ ⟨hb.2.2.1, hb.2.2.2.1⟩, hb.2.2.2.2.1, hb.2.2.2.2.2, ?_⟩
  have hv : val (a.drop (j + 1)) = val (q.drop (j + 1)) * d + r := h.v
  simp only
  rw [drop_cons a j (by omega), drop_cons (q.set j _) j (by simp; omega), getD_set_eq _ _ _ _ (by omega), if_pos rfl, List.drop_set_of_lt (by omega)]
  simp only [val]
  rw [hv]
  have := Int.emod_add_mul_ediv (r * 4294967296 + a.getD j 0) d
  generalize (r * 4294967296 + a.getD j 0) / d = x at *
  generalize (r * 4294967296 + a.getD j 0) % d = y at *
  grind

theorem rshortly_s (a : List Int) (d : Int) (ha : rng a) (hd0 : 0 < d) (hd : d < 4294967296) (la : a.length ≤ 1099511627776) : FnS Tryz.prog 224 [cS U32 a, cU d] (.t [(false, [.S U32 (wordsN (val a / d).toNat)]), (false, [.I .u64 (val a % d)])]) := by
  refine fs_intro Tryz.func224 rfl rfl rfl rfl rfl (by decide) ?_
  refine rr rfl (rb ?_)
  refine rm U32 a.length rfl rfl rfl rfl rfl rfl (zr_int .u32) rfl ?_ ?_ ?_
  · show _ * 4 ≤ _; omega
  · show _ * 1 ≤ _; omega
  refine re rfl (rr rfl (tr_seq (rr rfl ?_)))
  refine tr_block (tr_loop (α := Nat × List Int × Int) (fun x => ⟨[(0, cS U32 a), (1, cU d), (6, .c (.X 1002000)), (7, cU x.2.2), (8, cI ((x.1 : Int) - 1))], [(1002000, .vec 23 U32 x.2.1)], 4, []⟩) (DivI a d) (fun x => x.1) (a.length, List.replicate a.length 0, 0) ?_ ?_ ?_)
  · exact ⟨Nat.le_refl _, by simp, rng_rep _, Int.le_refl _, hd0, by simp [val]⟩
  · exact wk ⟨⟨_, rfl, AVle.refl _⟩, ⟨_, rfl, AVle.refl _⟩, ⟨_, rfl, AVle.refl _⟩, ⟨_, rfl, AVle.refl _⟩, ⟨_, rfl, AVle.refl _⟩, trivial⟩ ⟨⟨_, rfl, BLe.refl _⟩, trivial⟩
  · rintro ⟨k, q, r⟩ hI
    have hlen : q.length = a.length := hI.len
    have h0 : 0 ≤ r := hI.r0
    have h1 : r < d := hI.r1
    have hk : k ≤ a.length := hI.k
    refine tr_seq (rr rfl ?_)
    refine tr_cond rfl (fun h => ?_) (fun h => ?_)
    · have h : (k : Int) - 1 ≥ 0 := by simpa using h
      obtain ⟨j, rfl⟩ : ∃ j, k = j + 1 := ⟨k - 1, by omega⟩
      have ej : (((j + 1 : Nat) : Int) - 1).toNat = j := by omega
      have g := rng_get ha j
      have hb := div_bound h0 h1 g.1 g.2 hd
      have hn := hI.next ha hd
      refine tr_skip (at_then (tr_seq (tr_block (rr rfl ?_))))
      have e0 : IntKind.wrap .u64 (IntKind.wrap .u64 (r * 4294967296) + IntKind.wrap .u64 (a.getD (((j + 1 : Nat) : Int) - 1).toNat 0)) = r * 4294967296 + a.getD j 0 := by
        rw [ej, wrap_u64 (r * 4294967296) (by omega) (by omega), wrap_u64 (a.getD j 0) (by omega) (by omega), wrap_u64 _ (by omega) (by omega)]
      generalize ht : r * 4294967296 + a.getD j 0 = s at hn hb e0
      have e1 : IntKind.wrap .u32 (IntKind.wrap .u64 (s.tdiv d)) = s / d := by
        rw [Int.tdiv_eq_ediv_of_nonneg (by omega), wrap_u64 _ (by omega) (by omega), wrap_u32 _ (by omega) (by omega)]
      have e2 : s.tmod d = s % d := Int.tmod_eq_emod_of_nonneg (by omega)
      refine tr_wk (st' := ⟨[(0, cS U32 a), (1, cU d), (6, .c (.X 1002000)), (8, cI (((j + 1 : Nat) : Int) - 1)), (9, cU s)], [(1002000, .vec 23 U32 q)], 6, []⟩) (wk ⟨⟨_, rfl, AVle.refl _⟩, ⟨_, rfl, AVle.refl _⟩, ⟨_, rfl, AVle.refl _⟩, ⟨_, rfl, AVle.refl _⟩, ⟨_, rfl, AVle.of_eq ?_⟩, trivial⟩ ⟨⟨_, rfl, BLe.refl _⟩, trivial⟩) ?_
      · exact congrArg (fun x => AV.c (C.I .u64 x)) e0
      refine rr rfl (rt rfl (at_block (at_then (rt rfl (at_loop (j, q.set j (s / d), s % d) hn (by show j < j + 1; omega) (wk ⟨⟨_, rfl, AVle.refl _⟩, ⟨_, rfl, AVle.refl _⟩, ⟨_, rfl, AVle.refl _⟩, ⟨_, rfl, AVle.of_eq ?_⟩, ⟨_, rfl, AVle.of_eq ?_⟩, trivial⟩ ⟨⟨_, rfl, BLe.of_eq ?_⟩, trivial⟩))))))
      · exact congrArg (fun x => AV.c (C.I .u64 x)) e2
      · refine congrArg (fun x => AV.c (C.I .i64 x)) ?_
        show ((j + 1 : Nat) : Int) - 1 - 1 = (j : Int) - 1
        omega
      · rw [e1, ej]
    · have h : ¬ ((k : Int) - 1 ≥ 0) := by simpa using h
      have : k = 0 := by omega
      subst this
      refine tr_exit (at_then_exit (at_loop_exit (at_block_exit (at_then (tr_frz 1002000 rfl rfl rfl (rb ?_))))))
      refine rc rfl rfl (rtrim_s _) (re rfl (tr_ret (at_ret TT_ok rfl (AVle.of_eq ?_))))
      have hv : val a = val q * d + r := hI.v
      have hr : rng q := hI.r
      have eq : val a / d = val q := by
        rw [hv, Int.add_comm, Int.add_mul_ediv_right _ _ (by omega), Int.ediv_eq_zero_of_lt h0 h1]; omega
      have er : val a % d = r := by
        rw [hv, Int.add_comm, Int.add_mul_emod_self_right, Int.emod_eq_of_lt h0 h1]
      rw [trimW_eq hr, eq, er]; rfl
/-- Tuples of which a first part says more. -/
theorem AVle.t2 {x x' y : C} (h : AVle (.c x) (.c x')) : AVle (.t [(false, [x]), (false, [y])]) (.t [(false, [x']), (false, [y])]) := by
  refine ⟨?_, ?_⟩
  · rintro g v ⟨vs, rfl, v1, r, rfl, h1, h2⟩
    exact ⟨_, rfl, v1, r, rfl, h.1 g v1 h1, h2⟩
  · intro id hid
    have h2 := h.2 id
    simp only [AV.mids, midsT, midsL, List.append_nil, List.mem_append] at hid h2 ⊢
    exact hid.elim (fun h => .inl (h2 h)) .inr
theorem rdivided_s (m k : Nat) (hk : k ≠ 0) (h : m < k ∨ k < 4294967296) (lm : (wordsN m).length ≤ 1099511627776) : FnS Tryz.prog 152 [cS U32 (wordsN m), cS U32 (wordsN k)] (.t [(false, [.S U32 (wordsN (m / k))]), (false, [.S U32 (wordsN (m % k))])]) := by
  refine fs_intro Tryz.func152 rfl rfl rfl rfl rfl (by decide) ?_
  refine rr rfl (tr_seq (rb (rc rfl rfl (rcompared_z m k) (re rfl ?_))))
  refine tr_cond rfl (fun h2 => ?_) (fun h2 => ?_)
  · have h2 : m < k := by
      have h2 : cmpN m k < 0 := by simpa using h2
      unfold cmpN at h2
      split at h2
      · omega
      · split at h2 <;> omega
    refine rr rfl (tr_ret (at_then_ret (at_ret TT_ok rfl ?_)))
    rw [Nat.div_eq_of_lt h2, Nat.mod_eq_of_lt h2]
    exact AVle.t2 (AVle.nil U32)
  · have h2 : ¬ m < k := by
      have h2 : ¬ cmpN m k < 0 := by simpa using h2
      unfold cmpN at h2
      split at h2 <;> omega
    have hk2 : k < 4294967296 := h.resolve_left h2
    have ek : wordsN k = [(k : Int)] := by
      rw [wordsN_pos hk, show k % 4294967296 = k by omega, show k / 4294967296 = 0 by omega]; rfl
    refine tr_skip (at_then (tr_seq (rr rfl ?_)))
    rw [ek]
    refine tr_cond rfl (fun h3 => ?_) (fun h3 => by simp at h3)
    refine rb ?_
    have e1 : IntKind.wrap .u64 (k : Int) = k := wrap_u64 _ (by omega) (by omega)
    refine rc rfl rfl (f := 224) (r := .t [(false, [.S U32 (wordsN (m / k))]), (false, [.I .u64 ((m % k : Nat) : Int)])]) ?_ ?_
    · have := rshortly_s (wordsN m) k (rng_words m) (by omega) (by omega) lm
      rw [val_words, show ((m : Int) / (k : Int)).toNat = m / k from rfl, show (m : Int) % (k : Int) = ((m % k : Nat) : Int) from rfl] at this
      rw [show (AV.c (num .u64 ([(k : Int)].getD (0 : Int).toNat 0)).1) = cU (k : Int) from congrArg (fun x => AV.c (C.I .u64 x)) e1]
      exact this
    refine re rfl (rb (rc rfl rfl (rwords_s _ ?_) (re rfl (tr_ret (at_then_ret (at_ret TT_ok rfl (AVle.refl _)))))))
    have := Nat.mod_lt m (Nat.pos_of_ne_zero hk)
    omega
theorem dm_key (a : Int) (B : Nat) (hB : 0 < B) : (a.natAbs : Int) = ((a.natAbs % B : Nat) : Int) + (B : Int) * ((a.natAbs / B : Nat) : Int) ∧ a.natAbs % B < B := by
  refine ⟨?_, Nat.mod_lt _ hB⟩
  have := Nat.mod_add_div a.natAbs B
  rw [← Int.natCast_mul, ← Int.natCast_add, this]
theorem dm_pos {a : Int} {B : Nat} (hB : 0 < B) (ha : ¬ a < 0) : a / (B : Int) = ((a.natAbs / B : Nat) : Int) ∧ a % (B : Int) = ((a.natAbs % B : Nat) : Int) := by
  obtain ⟨h1, h2⟩ := dm_key a B hB
  exact (Int.ediv_emod_unique (by omega)).2 ⟨by omega, by omega, by omega⟩
theorem dm_neg0 {a : Int} {B : Nat} (hB : 0 < B) (ha : a < 0) (hr : a.natAbs % B = 0) : a / (B : Int) = -((a.natAbs / B : Nat) : Int) ∧ a % (B : Int) = 0 := by
  obtain ⟨h1, h2⟩ := dm_key a B hB
  refine (Int.ediv_emod_unique (by omega)).2 ⟨?_, by omega, by omega⟩
  rw [hr] at h1
  rw [Int.mul_neg]; omega
theorem dm_neg1 {a : Int} {B : Nat} (hB : 0 < B) (ha : a < 0) (hr : a.natAbs % B ≠ 0) : a / (B : Int) = -((a.natAbs / B + 1 : Nat) : Int) ∧ a % (B : Int) = ((B - a.natAbs % B : Nat) : Int) := by
  obtain ⟨h1, h2⟩ := dm_key a B hB
  refine (Int.ediv_emod_unique (by omega)).2 ⟨?_, by omega, by omega⟩
  rw [Int.mul_neg, Int.natCast_add, Int.mul_add]; omega
/-- Division by a number of either sign. -/
theorem dm_sgn (a b : Int) (q r : Nat) (h1 : a / (b.natAbs : Int) = sg (zneg a) q) (h2 : a % (b.natAbs : Int) = r) : a / b = sg (zneg a != zneg b) q ∧ a % b = sg false r := by
  by_cases hb : b < 0
  · have e : b = -(b.natAbs : Int) := by omega
    have hz : zneg b = true := by simp [zneg, hb]
    rw [e, Int.ediv_neg, Int.emod_neg, ← e, h1, h2, hz]
    refine ⟨?_, rfl⟩
    unfold sg
    cases zneg a <;> simp
  · have e : b = (b.natAbs : Int) := by omega
    have hz : zneg b = false := by simp [zneg, hb]
    rw [← e] at h1 h2
    rw [h1, h2, hz]
    refine ⟨?_, rfl⟩
    cases zneg a <;> rfl
theorem rDivMod_s (a b : Int) (hb : b ≠ 0) (h : a.natAbs < b.natAbs ∨ b.natAbs < 4294967296) (ha : Sm a) (hsb : Sm b) : FnS Tryz.prog 81 [aZ a, aZ b] (.t [(true, av .z (a / b)), (true, av .z (a % b)), (false, [.I .i64 0])]) := by
  refine fs_intro Tryz.func81 rfl rfl rfl rfl rfl (by decide) ?_
  refine rr rfl (tr_seq (rr rfl ?_))
  have hb' : b.natAbs ≠ 0 := by omega
  refine tr_cond rfl (fun h2 => ?_) (fun h2 => ?_)
  · exfalso
    have h2 : ((zmag b).length : Int) = 0 := by simpa using h2
    have := words_nil.2 hb'
    unfold zmag at h2
    omega
  · refine tr_skip (at_then (rb (rc rfl rfl (rdivided_s _ _ hb' h ha) (re rfl (tr_seq (rb ?_))))))
    refine rg 25 rfl rfl (fun h3 => ?_) (fun h3 => ?_)
    · have h3 : a < 0 := by simpa [zneg] using h3
      refine re rfl (tr_cond rfl (fun h4 => ?_) (fun h4 => ?_))
      · have h4 : a.natAbs % b.natAbs ≠ 0 := by
          have h4 : ((wordsN (a.natAbs % b.natAbs)).length : Int) > 0 := by simpa using h4
          exact words_nil.1 (by omega)
        obtain ⟨e1, e2⟩ := dm_neg1 (Nat.pos_of_ne_zero hb') h3 h4
        have hz : zneg a = true := by simp [zneg, h3]
        obtain ⟨e3, e4⟩ := dm_sgn a b (a.natAbs / b.natAbs + 1) (b.natAbs - a.natAbs % b.natAbs) (by rw [hz, e1]; rfl) e2
        have hr : a.natAbs % b.natAbs < b.natAbs := Nat.mod_lt _ (Nat.pos_of_ne_zero hb')
        refine rb (rl U32 [_] rfl rfl (rc rfl rfl (radded_z (a.natAbs / b.natAbs) 1 ?_ (by decide)) (re rfl (rbt (rc rfl rfl (rtaken_z b.natAbs _ (by omega) hsb) (re rfl (at_then (rb ?_))))))))
        · exact Nat.le_trans (words_len_mono (Nat.div_le_self _ _)) ha
        refine rc rfl rfl (rmade_z _ _) (rc rfl rfl (rmade_z _ _) (re rfl (tr_ret (at_ret TT_ok rfl (AVle.of_eq ?_)))))
        rw [e3, e4]; rfl
      · have h4 : a.natAbs % b.natAbs = 0 := by
          have h4 : ¬ ((wordsN (a.natAbs % b.natAbs)).length : Int) > 0 := by simpa using h4
          exact Decidable.byContradiction fun hne => by have := words_nil.2 hne; omega
        obtain ⟨e1, e2⟩ := dm_neg0 (Nat.pos_of_ne_zero hb') h3 h4
        have hz : zneg a = true := by simp [zneg, h3]
        obtain ⟨e3, e4⟩ := dm_sgn a b (a.natAbs / b.natAbs) (a.natAbs % b.natAbs) (by rw [hz, e1]; rfl) (by rw [e2, h4]; rfl)
        refine tr_skip (at_then (rb (rc rfl rfl (rmade_z _ _) (rc rfl rfl (rmade_z _ _) (re rfl (tr_ret (at_ret TT_ok rfl (AVle.of_eq ?_))))))))
        rw [e3, e4]; rfl
    · have h3 : ¬ a < 0 := by simpa [zneg] using h3
      refine re rfl (tr_cond rfl (fun h4 => by simp at h4) (fun h4 => ?_))
      obtain ⟨e1, e2⟩ := dm_pos (Nat.pos_of_ne_zero hb') h3
      have hz : zneg a = false := by simp [zneg, h3]
      obtain ⟨e3, e4⟩ := dm_sgn a b (a.natAbs / b.natAbs) (a.natAbs % b.natAbs) (by rw [hz, e1]; rfl) e2
      refine tr_skip (at_then (rb (rc rfl rfl (rmade_z _ _) (rc rfl rfl (rmade_z _ _) (re rfl (tr_ret (at_ret TT_ok rfl (AVle.of_eq ?_))))))))
      rw [e3, e4]; rfl
end Go.El

/- Contracts: rational numbers of the reference, with small parts. Own work; no condition. -/
namespace Go.El
open Go Go.Proofs

theorem Sm.of {z : Int} (h : z.natAbs < 18446744073709551616) : Sm z := Nat.le_trans (words_len2 h) (by decide)
theorem rWhole_s (n : Int) (h0 : -9223372036854775808 ≤ n) (h1 : n ≤ 9223372036854775807) : FnS Tryz.prog 46 [cI n] (aQ (n : Rat)) := by
  refine fs_intro Tryz.func46 rfl rfl rfl rfl rfl (by decide) ?_
  refine rr rfl (rb (rc rfl rfl (rOf_s n h0 h1) (rc rfl rfl (rOf_s 1 (by decide) (by decide)) (re rfl (tr_ret (at_ret TT_ok rfl (AVle.of_eq ?_)))))))
  rfl
theorem rQSign_s (q : Rat) : FnS Tryz.prog 53 [aQ q] (cI (sgn q.num)) := by
  refine fs_intro Tryz.func53 rfl rfl rfl rfl rfl (by decide) ?_
  refine rr rfl (rb (rc rfl rfl (rSign_s q.num) (re rfl (tr_ret (at_ret TT_ok rfl (AVle.refl _))))))
theorem rexact_s (n g : Int) (hg : g ≠ 0) (h : g.natAbs < 4294967296) (hn : Sm n) : FnS Tryz.prog 228 [aZ n, aZ g] (aZ (n / g)) := by
  refine fs_intro Tryz.func228 rfl rfl rfl rfl rfl (by decide) ?_
  refine rr rfl (rb (rc rfl rfl (rDivMod_s n g hg (.inr h) hn (Sm.of (by omega))) (re rfl (rr rfl (tr_ret (at_ret TT_ok rfl (AVle.of_eq ?_)))))))
  rfl
theorem divInt_parts (n d : Int) (hd : d ≠ 0) : (Rat.divInt n d).num = n / (if d < 0 then -((Int.gcd n d : Nat) : Int) else ((Int.gcd n d : Nat) : Int)) ∧ ((Rat.divInt n d).den : Int) = d / (if d < 0 then -((Int.gcd n d : Nat) : Int) else ((Int.gcd n d : Nat) : Int)) := by
  have hgd : ((Int.gcd n d : Nat) : Int) ∣ n := Int.gcd_dvd_left ..
  have hgd2 : ((Int.gcd n d : Nat) : Int) ∣ d := Int.gcd_dvd_right ..
  have hg0 : Int.gcd n d ≠ 0 := by
    intro h0
    have := (Int.gcd_eq_zero_iff.1 h0).2
    exact hd this
  rw [Rat.num_divInt, Rat.den_divInt, if_neg hd, Int.gcd_comm d n]
  by_cases h : d < 0
  · rw [if_pos h, Int.sign_eq_neg_one_of_neg h, Int.ediv_neg, Int.ediv_neg]
    refine ⟨?_, ?_⟩
    · rw [Int.neg_mul, Int.one_mul, Int.neg_ediv_of_dvd hgd]
    · rw [Int.natCast_ediv, show ((d.natAbs : Nat) : Int) = -d by omega, Int.neg_ediv_of_dvd hgd2]
  · rw [if_neg h, Int.sign_eq_one_of_pos (by omega), Int.one_mul]
    refine ⟨rfl, ?_⟩
    rw [Int.natCast_ediv, show ((d.natAbs : Nat) : Int) = d by omega]
theorem rlowest_s (n d : Int) (hd : d ≠ 0) (hn : n.natAbs < 18446744073709551616) (hd2 : d.natAbs < 4294967296) : FnS Tryz.prog 153 [aZ n, aZ d] (aQ (Rat.divInt n d)) := by
  refine fs_intro Tryz.func153 rfl rfl rfl rfl rfl (by decide) ?_
  have hg0 : Int.gcd n d ≠ 0 := fun h0 => hd (Int.gcd_eq_zero_iff.1 h0).2
  have hgl : Int.gcd n d < 4294967296 := Nat.lt_of_le_of_lt (Nat.gcd_le_right _ (by omega)) hd2
  obtain ⟨p1, p2⟩ := divInt_parts n d hd
  refine rr rfl (rb (rc rfl rfl (rGcd_s n d hn (by omega)) (re rfl (tr_seq (rb (rc rfl rfl (rSign_s d) (re rfl ?_)))))))
  refine tr_cond rfl (fun h => ?_) (fun h => ?_)
  · have h : d < 0 := by
      have h : sgn d < 0 := by simpa using h
      unfold sgn at h
      split at h
      · assumption
      · (try split at h) <;> omega
    rw [if_pos h] at p1 p2
    refine rbt (rc rfl rfl (rNeg_s _) (re rfl (at_then (rb ?_))))
    refine rc rfl rfl (rexact_s n _ (by omega) (by omega) (Sm.of hn)) (rc rfl rfl (rexact_s d _ (by omega) (by omega) (Sm.of (by omega))) (re rfl (tr_ret (at_ret TT_ok rfl (AVle.of_eq ?_)))))
    unfold aQ
    simp only [av, p1, p2]
    rfl
  · have h : ¬ d < 0 := by
      have h : ¬ sgn d < 0 := by simpa using h
      unfold sgn at h
      split at h
      · omega
      · assumption
    rw [if_neg h] at p1 p2
    refine tr_skip (at_then (rb ?_))
    refine rc rfl rfl (rexact_s n _ (by omega) (by omega) (Sm.of hn)) (rc rfl rfl (rexact_s d _ (by omega) (by omega) (Sm.of (by omega))) (re rfl (tr_ret (at_ret TT_ok rfl (AVle.of_eq ?_)))))
    unfold aQ
    simp only [av, p1, p2]
    rfl
theorem rNew_s (n d : Int) (hd : d ≠ 0) (hn : n.natAbs < 18446744073709551616) (hd2 : d.natAbs < 4294967296) : FnS Tryz.prog 119 [aZ n, aZ d] (.t [(true, av .q (Rat.divInt n d)), (false, [.I .i64 0])]) := by
  refine fs_intro Tryz.func119 rfl rfl rfl rfl rfl (by decide) ?_
  refine rr rfl (tr_seq (rb (rc rfl rfl (rSign_s d) (re rfl ?_))))
  refine tr_cond rfl (fun h => ?_) (fun h => ?_)
  · exfalso
    have h : sgn d = 0 := by simpa using h
    unfold sgn at h
    split at h
    · omega
    · (try split at h) <;> omega
  · refine tr_skip (at_then (rb (rc rfl rfl (rlowest_s n d hd hn hd2) (re rfl (tr_ret (at_ret TT_ok rfl (AVle.of_eq ?_)))))))
    rfl
theorem small_mul {a b : Int} {x y : Nat} (ha : a.natAbs ≤ x) (hb : b.natAbs ≤ y) : (a * b).natAbs ≤ x * y := by
  rw [Int.natAbs_mul]; exact Nat.mul_le_mul ha hb
theorem rDiv_s (a b : Rat) (hb : b.num ≠ 0) (ha1 : a.num.natAbs ≤ 65535) (ha2 : a.den ≤ 65535) (hb1 : b.num.natAbs ≤ 65535) (hb2 : b.den ≤ 65535) : FnS Tryz.prog 51 [aQ a, aQ b] (.t [(true, av .q (Rat.divInt (a.num * (b.den : Int)) ((a.den : Int) * b.num))), (false, [.I .i64 0])]) := by
  refine fs_intro Tryz.func51 rfl rfl rfl rfl rfl (by decide) ?_
  have m1 := small_mul (a := a.num) (b := (b.den : Int)) ha1 (show ((b.den : Int)).natAbs ≤ 65535 by simpa using hb2)
  have m2 := small_mul (a := (a.den : Int)) (b := b.num) (show ((a.den : Int)).natAbs ≤ 65535 by simpa using ha2) hb1
  have hne : (a.den : Int) * b.num ≠ 0 := Int.mul_ne_zero (by have := a.den_nz; omega) hb
  refine rr rfl (rb (rc rfl rfl (rMul_s _ _ (Sm.of (by omega)) (Sm.of (by omega))) (rc rfl rfl (rMul_s _ _ (Sm.of (by omega)) (Sm.of (by omega))) (rc rfl rfl (rNew_s _ _ hne (by omega) (by omega)) (re rfl (tr_ret (at_ret TT_ok rfl (AVle.of_eq ?_))))))))
  rfl
theorem rQMul_s (a b : Rat) (ha1 : a.num.natAbs ≤ 65535) (ha2 : a.den ≤ 65535) (hb1 : b.num.natAbs ≤ 65535) (hb2 : b.den ≤ 65535) : FnS Tryz.prog 82 [aQ a, aQ b] (aQ (Rat.divInt (a.num * b.num) ((a.den : Int) * (b.den : Int)))) := by
  refine fs_intro Tryz.func82 rfl rfl rfl rfl rfl (by decide) ?_
  have m1 := small_mul (a := a.num) (b := b.num) ha1 hb1
  have m2 := small_mul (a := (a.den : Int)) (b := (b.den : Int)) (show ((a.den : Int)).natAbs ≤ 65535 by simpa using ha2) (show ((b.den : Int)).natAbs ≤ 65535 by simpa using hb2)
  have hne : (a.den : Int) * (b.den : Int) ≠ 0 := Int.mul_ne_zero (by have := a.den_nz; omega) (by have := b.den_nz; omega)
  refine rr rfl (rb (rc rfl rfl (rMul_s _ _ (Sm.of (by omega)) (Sm.of (by omega))) (rc rfl rfl (rMul_s _ _ (Sm.of (by omega)) (Sm.of (by omega))) (rc rfl rfl (rlowest_s _ _ hne (by omega) (by omega)) (re rfl (tr_ret (at_ret TT_ok rfl (AVle.of_eq ?_))))))))
  rfl
end Go.El
