/- Short names of theorems of the core, and of proofs that recur. Own work; no condition. -/
import Derived.WalkKit
import Derived.OrdersIn
set_option linter.defProp false
namespace Go.El
open Go
def ae{α:Sort _}{a:α}:a=a:=rfl
def ah:=@trivial
def aq:=@if_neg
def aw:=@if_pos
def ay:=@congrArg
def aO:=@Option.some.injEq
def aU:=@List.getD_eq_getElem?_getD
def a9:=@of_decide_eq_true
def bu:=@Int.toNat_natCast
def bC:=@of_decide_eq_false
def bD:=@Nat.le_refl
def bK:=@Nat.zero_le
def b6:=@List.mem_append
def cr:=@List.getElem?_eq_getElem
def ct:=@Option.map_eq_some_iff
def cE:=@Prod.mk.injEq
def cP:=@if_true
def cV:=@if_false
def cY:=@Nat.le_of_ble_eq_true
def cZ:=@List.length_pos_iff
def dk:=@Int.zero_emod
def dC:=@List.mem_cons
def dF:=@Nat.le_trans
def dM:=@List.length_map
def eh:=@List.map_append
def et:=@Int.mul_zero
def eJ:=@Nat.mul_le_mul_right
def eX:=@Bool.and_eq_true
def eZ:=@Nat.zero_add
def fh:=@Int.mul_comm
def fv:=@List.length_cons
def fI:=@List.length_take
def fS:=@List.mem_append_left
def fT:=@Nat.lt_succ_self
def fU:=@Int.pow_succ
def fV:=@Nat.add_mul
def gi:=@Int.natCast_mul
def gE:=@Classical.byContradiction
def gN:=@List.flatMap_cons
def gO:=@List.length_set
def gZ:=@Int.emod_nonneg
def iu:=@List.eq_nil_of_length_eq_zero
def iv:=@Int.emod_lt_of_pos
def iw:=@Nat.sub_self
def ix:=@Nat.mul_comm
def iy:=@Nat.mod_lt
def iK:=@List.take_length
def iY:=@Nat.add_sub_cancel
def iZ:=@Int.emod_eq_of_lt
def ja:=@Int.one_mul
def jb:=@Nat.one_mul
def jl:=@Nat.pow_succ
def jx:=@Int.mul_le_mul_of_nonneg_left
def jy:=@List.length_replicate
def jz:=@Rat.intCast_mul
def jA:=@Rat.mul_zero
def jB:=@Int.le_refl
def jI:=@Int.mul_le_mul_of_nonneg_right
def jJ:=@List.mem_singleton
def jK:=@List.mem_flatMap
def jL:=@List.map_cons
def jU:=@Array.getElem?_eq_some_iff
def jV:=@Nat.pow_le_pow_right
def jW:=@List.pairwise_cons
def jX:=@Int.mul_nonneg
def j9:=@List.mem_append_right
def kc:=@List.getElem?_map
def ke:=@Int.mul_assoc
def kg:=@Nat.add_zero
def kv:=@Nat.lt_of_lt_of_le
def kA:=@List.length_append
def kB:=@List.append_nil
def kC:=@decide_eq_false
def kO:=@Int.zero_mul
def k6:=@List.getElem_mem
def k7:=@List.mem_range
def k8:=@Int.emod_emod
def k9:=@Nat.mul_one
def lI:=@List.take_of_length_le
def lJ:=@Nat.mul_le_mul_left
def lK:=@Int.add_mul
def mr:=@List.length_nil
def my:=@Nat.mul_le_mul
def mU:=@List.getElem?_replicate
def mV:=@Bool.false_eq_true
def mX:=@List.cons_append
def mY:=@Int.mul_emod
def nn:=@List.getElem?_eq_none
def np:=@List.append_assoc
def nq:=@Int.add_zero
def nr:=@Nat.pow_pos
def ns:=@Int.mul_one
def nT:=@Array.getElem?_setIfInBounds_ne
def nU:=@Int.natCast_nonneg
def nV:=@List.ext_getElem
def nW:=@List.mem_map
def oH:=@List.drop_eq_getElem_cons
def oI:=@List.getElem?_range
def oJ:=@Rat.inv_mul_cancel
def oK:=@decide_eq_true
def pq:=@Int.emod_add_mul_ediv
def pt:=@Int.natAbs_natCast
def px:=@Int.mul_add
def py:=@Nat.pow_add
def qi:=@List.set_append_right
def qj:=@Nat.pos_of_ne_zero
def qk:=@List.range_succ
def rB:=@Int.tmod_eq_emod_of_nonneg
def rC:=@Rat.num_divInt_den
def rD:=@Nat.mod_eq_of_lt
def rE:=@Nat.le_of_dvd
def rF:=@Rat.add_zero
def sD:=@Array.toList_inj
def sH:=@List.getElem_map
def sI:=@Int.pow_pos
def tM:=@List.getElem?_drop
def tN:=@Nat.min_eq_left
def tO:=@Nat.add_assoc
def tP:=@Array.ext'
def uT:=@Nat.dvd_of_mod_eq_zero
def uU:=@Rat.intCast_natCast
def uV:=@List.take_add_one
def uW:=@List.getElem_take
def uX:=@Int.natCast_pow
def uY:=@List.drop_zero
def uZ:=@Int.natAbs_mul
def u4:=@Rat.mul_assoc
def u5:=@Int.add_emod
def u6:=@Rat.zero_mul
def u7:=@Int.le_trans
def wy:=@Array.getD_eq_getD_getElem?
def wA:=@List.getElem?_eq_some_iff
def wB:=@List.mem_cons_of_mem
def wC:=@List.replicate_succ
def wD:=@List.replicate_zero
def wE:=@Nat.eq_zero_or_pos
def wF:=@List.getElem_drop
def wG:=@List.all_eq_true
def wH:=@List.nil_append
def wI:=@Nat.lt_or_ge
def wJ:=@Int.pow_zero
def xO:=@List.getElem_cons_zero
def xP:=@List.take_append_drop
def xQ:=@Classical.choose_spec
def xR:=@Int.emod_emod_of_dvd
def xS:=@Int.ediv_nonneg
def xT:=@List.mem_filter
def xU:=@Nat.div_add_mod
def xV:=@Int.natCast_add
def xW:=@List.drop_drop
def xX:=@Int.add_comm
def xY:=@Nat.pow_zero
def xZ:=@Int.sub_emod
def x5:=@Int.sub_mul
def zu:=@List.getElem?_append_right
def zv:=@List.getElem_append_left
def zw:=@List.flatMap_append
def zy:=@Nat.lt_of_le_of_lt
def zz:=@Bool.or_eq_true
def zA:=@Nat.not_lt_zero
def zB:=@List.Perm.refl
def zC:=@Nat.mul_assoc
def zD:=@Int.ediv_one
def zE:=@Rat.pow_zero
def zF:=@Rat.pow_succ
def zG:=@Nat.mul_pos
def zH:=@Nat.pow_mul
def zI:=@Rat.one_mul
def Bb:=@Int.emod_eq_emod_iff_emod_sub_eq_zero
def Bc:=@List.take_append_of_le_length
def Bd:=@Array.getElem?_append_left
def Be:=@Int.tdiv_eq_ediv_of_nonneg
def Bf:=@List.getElem?_cons_zero
def Bg:=@Nat.mod_eq_zero_of_dvd
def Bh:=@List.pairwise_append
def Bi:=@List.append_of_mem
def Bj:=@List.getElem_range
def Bk:=@List.length_range
def Bl:=@Int.natCast_ediv
def Bm:=@List.nodup_cons
def Bn:=@Rat.natCast_mul
def Bo:=@Int.mul_le_mul
def Bp:=@Nat.zero_mul
def Bq:=@Nat.gcd_comm
def Br:=@Int.zero_add
def Bs:=@Int.le_of_lt
def Bt:=@Nat.sub_zero
def Bu:=@Int.mul_pos
def Bv:=@Rat.mul_one
def Dt:=@Int.fdiv_eq_ediv_of_nonneg
def Du:=@List.getElem?_take_of_lt
def Dv:=@List.getElem?_cons_succ
def Dw:=@Int.eq_ofNat_of_zero_le
def Dx:=@Int.emod_eq_zero_of_dvd
def Dy:=@Int.dvd_of_emod_eq_zero
def Dz:=@Int.natCast_dvd_natCast
def DA:=@Int.add_mul_ediv_right
def DB:=@Int.ediv_lt_of_lt_mul
def DC:=@Nat.eq_of_beq_eq_true
def DD:=@Int.toNat_of_nonneg
def DE:=@List.mem_cons_self
def DF:=@List.set_cons_zero
def DG:=@Option.getD_some
def DH:=@List.length_drop
def DI:=@Nat.div_le_self
def DJ:=@Rat.mul_eq_zero
def DK:=@Rat.intCast_inj
def DL:=@Int.sub_zero
def DM:=@Int.ediv_neg
def DN:=@Nat.mul_add
def DO:=@Nat.pow_mod
def Gt:=@List.getElem?_append_left
def Gu:=@Nat.le_mul_of_pos_right
def Gv:=@Nat.add_sub_cancel_left
def Gw:=@List.getElem_cons_succ
def Gx:=@List.append_eq_nil_iff
def Gy:=@Int.ediv_eq_zero_of_lt
def Gz:=@Array.getElem?_toList
def GA:=@Nat.pow_le_pow_left
def GB:=@Nat.lt_trichotomy
def GC:=@List.getElem?_set
def GD:=@Int.mul_emod_left
def GF:=@Nat.le_of_not_lt
def GG:=@Nat.div_eq_of_lt
def GH:=@Int.natCast_emod
def GI:=@List.drop_length
def GJ:=@Option.some.inj
def GK:=@Nat.mul_succ
def GL:=@List.map_nil
def GM:=@Int.pow_one
def GN:=@Nat.mul_mod
def GO:=@Rat.neg_neg
def Kk:=@List.take_succ_eq_append_getElem
def Kl:=@List.drop_append_of_le_length
def Ko:=@Int.mul_lt_mul_of_pos_right
def Kp:=@Int.add_mul_emod_self_left
def Kq:=@List.pairwise_iff_getElem
def Kr:=@List.eq_of_mem_replicate
def Kt:=@List.drop_eq_nil_of_le
def Ku:=@List.getElem?_toArray
def Kv:=@Int.natAbs_dvd_natAbs
def Kw:=@Rat.divInt_mul_divInt
def Kx:=@List.mem_of_mem_take
def Ky:=@List.set_cons_succ
def Kz:=@Nat.gcd_zero_right
def KA:=@List.find?_eq_none
def KB:=@Bool.not_eq_true'
def KC:=@List.pairwise_map
def KD:=@Rat.intCast_zero
def KE:=@List.foldl_cons
def KF:=@Int.dvd_trans
def KG:=@Nat.le_of_lt
def KH:=@Nat.add_comm
def KJ:=@Int.sub_self
def KK:=@Nat.mul_zero
def KM:=@Int.dvd_refl
def KN:=@Int.mul_sub
def KO:=@Rat.lt_iff
def Pl:=@List.pairwise_singleton
def Pm:=@Nat.div_lt_of_lt_mul
def Pn:=@BitVec.ofInt_natCast
def Po:=@Int.gcd_eq_zero_iff
def Pp:=@List.getElem?_take
def Pq:=@BitVec.toNat_ofNat
def Ps:=@Int.sub_eq_add_neg
def Pt:=@Int.dvd_mul_left
def Pu:=@List.flatMap_nil
def Pv:=@List.not_mem_nil
def Pw:=@List.cons.injEq
def Px:=@Option.map_some
def Py:=@Int.mul_ne_zero
def Pz:=@Rat.natCast_add
def PA:=@Rat.intCast_sub
def PC:=@Rat.intCast_neg
def PD:=@List.take_take
def PE:=@List.take_zero
def PF:=@List.cons.inj
def PG:=@Nat.dvd_trans
def PH:=@Bool.true_or
def PI:=@Bool.or_true
def PJ:=@Nat.beq_refl
def PK:=@Nat.le_of_eq
def PL:=@Rat.mul_comm
def PM:=@Rat.zero_add
def PN:=@Int.ofNat_le
def Wy:=@Int.add_mul_emod_self_right
def Wz:=@Nat.mul_lt_mul_of_pos_right
def WA:=@Array.getElem?_eq_getElem
def WB:=@List.Pairwise.imp_of_mem
def WC:=@Rat.intCast_eq_zero_iff
def WD:=@List.pairwise_lt_range
def WE:=@Nat.div_div_eq_div_mul
def WG:=@Nat.ble_eq_true_of_le
def WH:=@Rat.divInt_add_divInt
def WI:=@List.contains_iff_mem
def WJ:=@Int.ediv_emod_unique
def WK:=@List.getElem_of_mem
def WL:=@Array.length_toList
def WM:=@Nat.pos_iff_ne_zero
def WN:=@List.drop_replicate
def WO:=@Nat.mul_div_cancel
def WQ:=@Nat.lt_or_gt_of_ne
def WR:=@List.nodup_append
def WS:=@Int.gcd_dvd_right
def WT:=@Nat.gcd_dvd_right
def WU:=@Int.mul_left_comm
def WV:=@Rat.divInt_eq_div
def WW:=@Int.dvd_mul_right
def af{p:Prop}(h:p:=by omega):p:=h
def ak{p:Prop}(h:p:=by decide):p:=h
def aN{p:Prop}(h:p:=by simp only[Pr.an,Pr.h,num,aA,true_and,and_true];first|done|omega):p:=h
def be{p:Prop}(h:p:=by simp):p:=h
def cq{p:Prop}(h:p:=by simpa using h):p:=h
def cC{p:Prop}(h:p:=by(repeat(refine(bH (by omega)).trans ?_));exact cw (by omega)):p:=h
def cT{p:Prop}(h:p:=by simp;omega):p:=h
def fR{p:Prop}(h:p:=by kernel_rfl):p:=h
def gY{p:Prop}(h:p:=by simpa using h2):p:=h
def iJ{p:Prop}(h:p:=by simp[Op.operands]):p:=h
def jw{p:Prop}(h:p:=by simp[aS]):p:=h
def jT{p:Prop}(h:p:=by simp only[Pr.an,Pr.h,num,aA,true_and,and_true];omega):p:=h
def kN{p:Prop}(h:p:=by ac_rfl):p:=h
def kZ{p:Prop}(h:p:=by simp[hx]):p:=h
def oF{p:Prop}(h:p:=by show a.length-(i+1)<a.length-i;omega):p:=h
def oG{p:Prop}(h:p:=by simp[hy]):p:=h
def po{p:Prop}(h:p:=by show j<j+1;omega):p:=h
def qh{p:Prop}(h:p:=by rw[e]):p:=h
def rA{p:Prop}(h:p:=by rw[aJ.size,gk];exact aV):p:=h
def sC{p:Prop}(h:p:=by simp[Act.put]):p:=h
def tL{p:Prop}(h:p:=by intro e;subst e;simp[bc]at ht):p:=h
def uR{p:Prop}(h:p:=by simp[g7,hl]):p:=h
def uS{p:Prop}(h:p:=by simpa using h4):p:=h
def wo{p:Prop}(h:p:=by apply tP;simp):p:=h
def wq{p:Prop}(h:p:=by rw[pO];omega):p:=h
def wu{p:Prop}(h:p:=by decide+kernel):p:=h
def xL{p:Prop}(h:p:=by have:=h.hM;omega):p:=h
def xM{p:Prop}(h:p:=by simpa using h3):p:=h
def xN{p:Prop}(h:p:=by have:=H.hp.1;omega):p:=h
def zj{p:Prop}(h:p:=by rw[execOp,ck]):p:=h
def zk{p:Prop}(h:p:=by simp only[dT,gN,eh,b6];exact .inl h):p:=h
def zm{p:Prop}(h:p:=by simp only[dT,gN,eh,b6];exact .inr (.inl h)):p:=h
def zo{p:Prop}(h:p:=by simpa using hj):p:=h
def zp{p:Prop}(h:p:=by simp[bN,h3]):p:=h
def zr{p:Prop}(h:p:=by rw[hz,e1];rfl):p:=h
def zt{p:Prop}(h:p:=by rw[fI];omega):p:=h
def Ba{p:Prop}(h:p:=by rw[←dh]):p:=h
def Ds{p:Prop}(h:p:=by simpa using hu):p:=h
def Gi{p:Prop}(h:p:=by simp[C.aD]):p:=h
def Gj{p:Prop}(h:p:=by rw[hm]at al;cases al):p:=h
def Gk{p:Prop}(h:p:=by simp[Op.operands,Call.operands]):p:=h
def Gl{p:Prop}(h:p:=by simpa using hl):p:=h
def Gm{p:Prop}(h:p:=by rw[←sD];simpa using qw):p:=h
def Gn{p:Prop}(h:p:=by simpa using br):p:=h
def Gp{p:Prop}(h:p:=by show M-(i+1)<M-i;omega):p:=h
def Gq{p:Prop}(h:p:=by simpa[bN]using h3):p:=h
def Gr{p:Prop}(h:p:=by rw[e];exact dk _):p:=h
def Gs{p:Prop}(h:p:=by show xs.length-(i+1)<xs.length-i;omega):p:=h
def Kc{p:Prop}(h:p:=by rw[lK,ja]):p:=h
def Kd{p:Prop}(h:p:=by subst hq;simp[Op.operands]):p:=h
def Ke{p:Prop}(h:p:=by rw[←sD];exact ha):p:=h
def Kf{p:Prop}(h:p:=by simp[St.kn,hv]):p:=h
def Kg{p:Prop}(h:p:=by simp[St.kn,h2]):p:=h
def Kh{p:Prop}(h:p:=by show(0:Int)≤1;decide):p:=h
def Ki{p:Prop}(h:p:=by rw[e,zero_mul]):p:=h
def Kj{p:Prop}(h:p:=by rw[fv];omega):p:=h
def O3{p:Prop}(h:p:=by simpa[bN]using h2):p:=h
def O4{p:Prop}(h:p:=by rw[x1,wrap_u64 _ (by omega) (by omega)]):p:=h
def O5{p:Prop}(h:p:=by rw[jy];omega):p:=h
def O6{p:Prop}(h:p:=by simp[IntKind.wrap,IntKind.bits,IntKind.signed]):p:=h
def O7{p:Prop}(h:p:=by show X.length-(i+1)<X.length-i;omega):p:=h
def O8{p:Prop}(h:p:=by rw[vD y hy];exact el):p:=h
def O9{p:Prop}(h:p:=by rw[vD y hy];exact nU y):p:=h
def Pa{p:Prop}(h:p:=by show b.length-(j+1)<b.length-j;omega):p:=h
def Pb{p:Prop}(h:p:=by rw[←h1];exact Gu _ (nr (by decide))):p:=h
def Pc{p:Prop}(h:p:=by show n-(i+1)<n-i;omega):p:=h
def Pd{p:Prop}(h:p:=by show((i:Int)).toNat<_;omega):p:=h
def Pe{p:Prop}(h:p:=by have:=h.hp.1;omega):p:=h
def Pf{p:Prop}(h:p:=by show((t:Int)).toNat<_;rw[jP];omega):p:=h
def Pg{p:Prop}(h:p:=by rw[aU,cr h1];exact k6 h1):p:=h
def Ph{p:Prop}(h:p:=by rw[FD (by omega)];exact k6 _):p:=h
def Pj{p:Prop}(h:p:=by show fs.length-(i+1)<fs.length-i;omega):p:=h
def Pk{p:Prop}(h:p:=by show(1:Rat)≠0;decide):p:=h
def Wh{p:Prop}(h:p:=by rw[←sD];exact ht):p:=h
def Wi{p:Prop}(h:p:=by rw[ck];simp[pE,Op.operands,aS]):p:=h
def Wj{p:Prop}(h:p:=by have:=cY tc;rw[n7];omega):p:=h
def Wl{p:Prop}(h:p:=by rw[wrap_u64 _ (by omega) (by omega)];omega):p:=h
def Wm{p:Prop}(h:p:=by simp[aU,nn (GF h2)]):p:=h
def Wn{p:Prop}(h:p:=by rw[PS.sub_def,PS.add_assoc,PS.Sa,PS.add_zero]):p:=h
def Wo{p:Prop}(h:p:=by(repeat(refine(bH (by omega)).trans ?_));refine(Tl (by omega)).trans ?_;(repeat(refine(bH (by omega)).trans ?_));exact cw (by omega)):p:=h
def Wp{p:Prop}(h:p:=by show l.length-(j+1)<l.length-j;omega):p:=h
def Wq{p:Prop}(h:p:=by show 1+i≤1000000*8;omega):p:=h
def Wr{p:Prop}(h:p:=by show 3000000≤1000000*8;decide):p:=h
def Ws{p:Prop}(h:p:=by show 1+i≤1000000*12;omega):p:=h
def Wt{p:Prop}(h:p:=by show 3000000≤1000000*12;decide):p:=h
def Wu{p:Prop}(h:p:=by simp only[Pr.an,Pr.h,num,aA,true_and,and_true];exact NK):p:=h
def Wv{p:Prop}(h:p:=by(repeat(refine(bH (by omega)).trans ?_));exact Us (by omega)):p:=h
def Ww{p:Prop}(h:p:=by unfold eo;rw[fI];omega):p:=h
def Wx{p:Prop}(h:p:=by rw[aU,cr h2];exact k6 h2):p:=h
end Go.El
