/- Short names of theorems of the core, and of proofs that recur. Own work; no condition. -/
import Derived.WalkKit
import Derived.OrdersIn
set_option linter.all false
namespace Go.El
open Go
def J{α:Sort _}{a:α}:a=a:=rfl
def aK:=@List.getD_eq_getElem?_getD
def ar:=@Option.some.injEq
def h:=@trivial
def aU:=@of_decide_eq_true
def a6:=@of_decide_eq_false
def bg:=@List.mem_append
def cO:=@List.getElem?_eq_getElem
def bQ:=@List.length_pos_iff
def cG:=@Option.map_eq_some_iff
def bY:=@Int.toNat_natCast
def w:=@if_neg
def aO:=@Nat.le_refl
def b:=@if_pos
def c8:=@Nat.le_of_ble_eq_true
def aY:=@Nat.zero_le
def eT:=@List.eq_nil_of_length_eq_zero
def cy:=@List.length_map
def bm:=@Nat.le_trans
def bM:=@Prod.mk.injEq
def cz:=@Bool.and_eq_true
def b9:=@List.mem_cons
def eZ:=@Classical.byContradiction
def hP:=@Int.mul_le_mul_of_nonneg_right
def fo:=@List.length_replicate
def eC:=@Nat.mul_le_mul_right
def eL:=@List.length_take
def eH:=@List.mem_append_left
def eQ:=@Nat.pow_le_pow_right
def gL:=@Array.getElem?_eq_some_iff
def be:=@congrArg
def dK:=@Nat.lt_succ_self
def fM:=@List.map_append
def eK:=@Nat.add_sub_cancel
def gD:=@List.mem_append_right
def fN:=@Nat.mul_le_mul_left
def bN:=@if_false
def lE:=@Array.getElem?_setIfInBounds_ne
def lG:=@List.flatMap_cons
def kK:=@Int.mul_le_mul_of_nonneg_left
def iX:=@List.getElem?_eq_none
def iY:=@List.take_of_length_le
def fR:=@List.take_length
def iq:=@List.length_append
def fD:=@Int.natCast_mul
def gX:=@Int.emod_eq_of_lt
def fZ:=@Rat.intCast_mul
def iB:=@Bool.false_eq_true
def me:=@Int.tmod_eq_emod_of_nonneg
def ik:=@List.length_cons
def iI:=@Nat.lt_of_lt_of_le
def iK:=@List.mem_singleton
def iO:=@Int.emod_lt_of_pos
def cj:=@if_true
def lM:=@List.getElem?_replicate
def eX:=@Int.mul_comm
def gZ:=@Int.zero_emod
def ff:=@Nat.zero_add
def nM:=@Array.getD_eq_getD_getElem?
def jh:=@List.getElem?_map
def ko:=@List.mem_cons_of_mem
def iD:=@List.append_nil
def fH:=@Rat.mul_zero
def lL:=@Nat.eq_of_beq_eq_true
def jb:=@List.mem_flatMap
def fK:=@Int.pow_succ
def fO:=@Nat.pow_succ
def jR:=@List.pairwise_cons
def m9:=@List.getElem?_cons_zero
def gO:=@Nat.add_mul
def iN:=@Int.emod_nonneg
def k6:=@List.getElem?_range
def jS:=@List.all_eq_true
def gG:=@Nat.mul_comm
def il:=@List.map_cons
def oy:=@Nat.le_mul_of_pos_right
def lU:=@Rat.inv_mul_cancel
def gY:=@Int.mul_zero
def nU:=@Int.emod_add_mul_ediv
def jx:=@Int.mul_nonneg
def gQ:=@Nat.pow_pos
def fS:=@Nat.mod_lt
def l7:=@List.append_assoc
def rK:=@List.drop_eq_getElem_cons
def jl:=@Int.mul_assoc
def iJ:=@List.mem_map
def hO:=@Int.le_refl
def mQ:=@List.length_range
def jn:=@Nat.one_mul
def sQ:=@List.getElem?_eq_some_iff
def qR:=@Int.natCast_nonneg
def s3:=@List.length_singleton
def uj:=@Int.tdiv_eq_ediv_of_nonneg
def kL:=@Int.one_mul
def jy:=@Nat.add_zero
def m7:=@List.cons_append
def wY:=@List.take_append_of_le_length
def l3:=@List.mem_range
def px:=@Int.natAbs_natCast
def pD:=@Rat.num_divInt_den
def sF:=@List.getElem_mem
def nb:=@List.length_nil
def nr:=@decide_eq_false
def sI:=@List.take_append_drop
def mL:=@Nat.mul_le_mul
def qD:=@Nat.eq_zero_or_pos
def r9:=@Rat.intCast_natCast
def tU:=@List.drop_eq_nil_of_le
def tu:=@Int.emod_emod_of_dvd
def KG:=@Array.toList_inj
def qk:=@List.getElem_take
def lH:=@Nat.sub_self
def o6:=@Nat.mod_eq_of_lt
def mP:=@Int.emod_emod
def oh:=@Nat.min_eq_left
def rM:=@Nat.pos_of_ne_zero
def vu:=@List.getElem_cons_zero
def wX:=@List.getElem_append_left
def k4:=@Nat.pow_add
def ny:=@Rat.mul_assoc
def oP:=@List.mem_filter
def yK:=@Array.getElem?_append_left
def vr:=@List.getElem?_toArray
def wb:=@Classical.choose_spec
def nI:=@Int.add_mul
def wW:=@List.getElem?_cons_succ
def AY:=@List.drop_append_of_le_length
def xC:=@Int.natCast_dvd_natCast
def rh:=@Option.getD_some
def rF:=@List.ext_getElem
def vi:=@List.mem_of_mem_take
def sH:=@List.take_add_one
def nq:=@Int.zero_mul
def o9:=@decide_eq_true
def tT:=@List.getElem?_drop
def vN:=@Int.toNat_of_nonneg
def ru:=@List.length_set
def rC:=@Nat.div_add_mod
def vj:=@Nat.le_of_not_lt
def qp:=@List.drop_drop
def qu:=@List.drop_zero
def BD:=@Int.fdiv_eq_ediv_of_nonneg
def zh:=@Nat.add_sub_cancel_left
def tQ:=@List.getElem_drop
def pj:=@Nat.mul_assoc
def ns:=@Int.mul_one
def xZ:=@List.pairwise_append
def vW:=@Nat.lt_of_le_of_lt
def oz:=@Rat.add_zero
def rQ:=@Int.natAbs_mul
def AH:=@List.getElem?_take_of_lt
def wP:=@List.replicate_succ
def nH:=@Int.pow_pos
def o8:=@Int.pow_zero
def po:=@Nat.pow_zero
def BF:=@Int.eq_ofNat_of_zero_le
def BL:=@Int.emod_eq_zero_of_dvd
def om:=@Int.mul_add
def DG:=@List.getElem?_append_right
def yL:=@Nat.div_lt_of_lt_mul
def rq:=@Nat.add_assoc
def tS:=@List.nil_append
def uv:=@Int.natCast_pow
def qf:=@Nat.lt_or_ge
def AU:=@List.getElem_cons_succ
def Bz:=@Int.add_mul_ediv_right
def qG:=@Int.mul_emod
def DF:=@List.getElem?_append_left
def zR:=@Nat.pow_le_pow_left
def vE:=@Bool.or_eq_true
def vG:=@Option.map_some
def vH:=@Nat.not_lt_zero
def rL:=@Int.add_zero
def rX:=@Rat.zero_mul
def qB:=@Nat.mul_one
def xv:=@Int.natCast_ediv
def EK:=@Int.dvd_of_emod_eq_zero
def HV:=@Int.mul_lt_mul_of_pos_right
def sU:=@Nat.zero_mul
def Et:=@Int.ediv_eq_zero_of_lt
def tq:=@Int.le_trans
def xt:=@Int.natCast_add
def rZ:=@Rat.one_mul
def xU:=@Rat.intCast_inj
def Dg:=@Int.ediv_lt_of_lt_mul
def DL:=@Array.getElem?_toList
def EZ:=@Rat.divInt_mul_divInt
def Hl:=@Option.isSome_iff_exists
def uo:=@Int.ediv_one
def vZ:=@Nat.le_of_dvd
def wT:=@Int.mul_le_mul
def tj:=@Rat.mul_one
def Sn:=@Int.emod_eq_emod_iff_emod_sub_eq_zero
def yw:=@Int.ediv_nonneg
def yx:=@List.range_succ
def zp:=@Int.mul_ne_zero
def zv:=@Rat.mul_eq_zero
def zO:=@Rat.natCast_mul
def DV:=@List.replicate_zero
def D5:=@List.flatMap_append
def vS:=@Int.add_comm
def I2:=@Nat.dvd_of_mod_eq_zero
def Bd:=@List.length_drop
def Bg:=@List.getElem_map
def BA:=@Nat.div_eq_of_lt
def Cq:=@Int.dvd_mul_left
def Dh:=@List.mem_cons_self
def Dy:=@Array.ext'
def DE:=@List.getElem?_take
def s7:=@Nat.blt_eq
def L9:=@Int.add_mul_emod_self_left
def Ib:=@Int.natAbs_dvd_natAbs
def AK:=@List.nodup_cons
def Qo:=@List.take_succ_eq_append_getElem
def EF:=@Int.mul_emod_left
def vY:=@Nat.mul_add
def xF:=@Int.sub_emod
def Fg:=@List.pairwise_map
def yd:=@Rat.pow_zero
def ye:=@Rat.pow_succ
def NQ:=@List.Pairwise.imp_of_mem
def Hc:=@Array.length_toList
def QK:=@List.eq_nil_iff_forall_not_mem
def yv:=@Nat.le_of_lt
def Ke:=@List.pairwise_lt_range
def y':=@Nat.gcd_comm
def MN:=@Nat.le_mul_of_pos_left
def Vz:=@List.dropLast_concat_getLast
def L7:=@List.set_append_right
def GY:=@Bool.not_eq_true'
def RE:=@Int.add_mul_emod_self_right
def R9:=@Nat.mul_lt_mul_of_pos_right
def Gv:=@Int.sub_mul
def DW:=@Bool.not_false
def LH:=@List.mem_of_getElem?
def zc:=@Nat.mul_pos
def Mm:=@BitVec.ofInt_natCast
def zq:=@Rat.div_def
def Bv:=@Int.sub_zero
def BB:=@Int.ediv_neg
def HW:=@Int.natCast_emod
def BG:=@Int.zero_add
def BO:=@Nat.sub_zero
def BX:=@Rat.mul_comm
def Qz:=@Array.getElem?_eq_getElem
def VM:=@Int.natAbs_ediv_le_natAbs
def La:=@List.getElem_of_mem
def Ns:=@Nat.add_le_add_left
def Fb:=@Nat.dvd_trans
def VL:=@Int.mul_ediv_cancel_left
def IS:=@Rat.intCast_neg
def K':=@List.getElem_range
def LU:=@Nat.gcd_zero_right
def L8:=@List.set_cons_zero
def Mn:=@BitVec.toNat_ofNat
def TM:=@List.pairwise_singleton
def Qb:=@Array.getElem?_eq_none
def Qn:=@List.append_eq_nil_iff
def GV:=@List.mapM_cons
def KZ:=@List.flatten_cons
def H4:=@List.take_zero
def Np:=@Rat.divInt_eq_div
def Oy:=@Nat.lt_succ_of_lt
def Ki:=@List.range'_succ
def My:=@Nat.mul_lt_mul''
def Nr:=@Nat.le_add_right
def N7:=@List.flatMap_nil
def O8:=@Nat.succ_le_succ
def Pv:=@List.not_mem_nil
def Is:=@Int.dvd_trans
def De:=@Int.mul_pos
def P6:=@List.range_eq_range'
def RH:=@Int.ediv_emod_unique
def RQ:=@List.getElem?_set_ne
def Ey:=@Int.mul_sub
def EN:=@Nat.mul_mod
def EO:=@Nat.pow_mul
def SB:=@List.getElem?_append
def Tn:=@Nat.pow_lt_pow_right
def UL:=@Bool.or_eq_false_iff
def KB:=@List.cons.injEq
def KJ:=@List.foldl_cons
def Nq:=@Rat.intCast_sub
def PW:=@List.getD_cons_succ
def RT:=@Int.gcd_eq_zero_iff
def SE:=@List.map_congr_left
def SV:=@List.drop_replicate
def TH:=@Nat.pos_iff_ne_zero
def Vt:=@List.mem_map_of_mem
def Ia:=@Int.add_emod
def Iw:=@Rat.zero_add
def Jd:=@Int.dvd_refl
def Jh:=@Nat.beq_refl
def JU:=@List.map_nil
def PY:=@Nat.sub_add_cancel
def P4:=@List.append_of_mem
def Lb:=@List.take_take
def R1:=@Nat.mul_div_cancel
def R3:=@Int.sub_eq_add_neg
def TN:=@Int.ofNat_dvd_left
def VR:=@Nat.one_le_two_pow
def P1:=@List.nodup_append
def P3:=@Nat.lt_trichotomy
def Rz:=@List.getElem?_set
def RS:=@Int.gcd_dvd_right
def Sq:=@Nat.gcd_dvd_right
def SD:=@Int.natAbs_add_le
def KY:=@List.cons.inj
def N2:=@Bool.not_true
def KR:=@Bool.true_or
def KS:=@Bool.or_true
def K9:=@Nat.add_comm
def MR:=@List.map_map
def NH:=@Nat.mul_zero
def NJ:=@Int.ofNat_le
def O':=@Nat.succ_mul
variable{p:Prop}
def HB:=@J
def aX:=@h
def Aw:=@w
def gw:=@b
def Da(h:p:=by simp[C.ak]):p:=h
def O(h:p:=by omega):p:=h
def et(h:p:=by simpa using h):p:=h
def D(h:p:=by decide):p:=h
def vn(h:p:=by have:=h.hM;omega):p:=h
def Gu(h:p:=by rw[nI,kL]):p:=h
def az(h:p:=by simp):p:=h
def mB(h:p:=by simp[hx]):p:=h
def sJ(h:p:=by rw[e];rfl):p:=h
def b8(h:p:=by simp;omega):p:=h
def mD(h:p:=by rw[aR.size,kO];exact dz):p:=h
def mE(h:p:=by simp[Act.put]):p:=h
def gU(h:p:=by simp[Op.operands]):p:=h
def Dw(h:p:=by rw[hm]at fe;cases fe):p:=h
def GJ(h:p:=by subst hq;simp[Op.operands]):p:=h
def GK(h:p:=by rw[<-KG];exact ha):p:=h
def Ql(h:p:=by rw[<-KG];exact ht):p:=h
def Dx(h:p:=by simp[Op.operands,Call.operands]):p:=h
def vw(h:p:=by simpa using hl):p:=h
def vA(h:p:=by rw[execOp,b6]):p:=h
def ef(h:p:=by simp[b7]):p:=h
def qm(h:p:=by simp[fL,hl]):p:=h
def qn(h:p:=by intro e;subst e;simp[aE]at ht):p:=h
def DH(h:p:=by rw[<-KG];simpa using wZ):p:=h
def Qs(h:p:=by simpa[AV.ak,C.ak]using hj):p:=h
def GS(h:p:=by rw[gO,jn]):p:=h
def Qx(h:p:=by simp[zeroValue,typeInfo,vC,hz]):p:=h
def KN(h:p:=by simpa[dI]using h):p:=h
def tV(h:p:=by simp only[dI,lG,fM,bg];exact .inl h):p:=h
def vD(h:p:=by simp only[dI,lG,fM,bg];exact .inr<|.inl h):p:=h
def KO(h:p:=by simpa[dI]using hk):p:=h
def yI(h:p:=by simpa using ha):p:=h
def ot(h:p:=by simpa using hj):p:=h
def tW(h:p:=by simpa using hb):p:=h
def A6(h:p:=by apply Dy;simp):p:=h
def A7(h:p:=by simp[St.kn,hv]):p:=h
def A'(h:p:=by simp[St.kn,hl]):p:=h
def w8(h:p:=by simpa using hu):p:=h
def Bc(h:p:=by simpa using hZ):p:=h
def qq(h:p:=by simpa using h2):p:=h
def QF(h:p:=by rw[b6];simp[oo,Op.operands,b7]):p:=h
def QL(h:p:=by rw[XG (KL _)];simp):p:=h
def QM(h:p:=by simpa using(eS di ni).W4):p:=h
def Ln(h:p:=by rw[sX];exact yP):p:=h
def Lo(h:p:=by simp only[bg];exact .inr b7):p:=h
def Hq(h:p:=by simp[St.kn,h2]):p:=h
def D8(h:p:=by simpa using hx):p:=h
def mH(h:p:=by simp[fW]):p:=h
def dZ(h:p:=by kernel_rfl):p:=h
def Mb(h:p:=by simpa using h4):p:=h
def s8(h:p:=by show j<j+1;omega):p:=h
def HL(h:p:=by show(0:Int)<=1;decide):p:=h
def xp(h:p:=by show M-(i+1)<M-i;omega):p:=h
def kv(h:p:=by simp only[Pr.an,Pr.h,num,gT,true_and,and_true];omega):p:=h
def nS(h:p:=by show List.length a-(i+1)<List.length a-i;omega):p:=h
def awt(h:p:=by simpa[cd]using h2):p:=h
def Zd(h:p:=by simp only[Pr.an,Pr.h,num,gT,true_and,and_true];exact hp1):p:=h
def awu(h:p:=by rw[x1,wrap_u64 _ (by omega)<|by omega]):p:=h
def RX(h:p:=by rw[fo];omega):p:=h
def uu(h:p:=by rw[EB];omega):p:=h
def awv(h:p:=by simpa[cd]using h3):p:=h
def ED(h:p:=by simp[cd,h3]):p:=h
def EE(h:p:=by rw[hz,e1];rfl):p:=h
def AQ(h:p:=by simpa using h3):p:=h
def Mg(h:p:=by simp[IntKind.wrap,IntKind.bits,IntKind.signed]):p:=h
def Mj(h:p:=by show X.length-(i+1)<X.length-i;omega):p:=h
def R7(h:p:=by simp[aK,iX<|vj h2]):p:=h
def aF(h:p:=by simp only[Pr.an,Pr.h,num,gT,true_and,and_true];first|done|omega):p:=h
def Mp(h:p:=by rw[Zx y hy];exact el):p:=h
def Mq(h:p:=by rw[Zx y hy];exact qR y):p:=h
def RI(h:p:=by show(4294967296:Int)<=t%v1+(2:Nat)*2147483648;omega):p:=h
def BI(h:p:=by rw[eL];omega):p:=h
def MA(h:p:=by show m/2<m;omega):p:=h
def Sh(h:p:=by show List.length b-(j+1)<List.length b-j;omega):p:=h
def BN(h:p:=by have:=h.1;omega):p:=h
def fG(h:p:=by ac_rfl):p:=h
def EU(h:p:=by rw[e];exact gZ _):p:=h
def SC(h:p:=by rw[iq,fo];omega):p:=h
def aar(h:p:=by simp[Pr.an,Pr.h,num,gT]):p:=h
def M6(h:p:=by show k-(i+1)<k-i;omega):p:=h
def rW(h:p:=by rw[e]):p:=h
def SX(h:p:=by unfold fC;rw[eL];omega):p:=h
def IC(h:p:=by rw[e,zero_mul]):p:=h
def uH(h:p:=by simp[hy]):p:=h
def zC(h:p:=by simp[h1]):p:=h
def Nm(h:p:=by rw[ik];omega):p:=h
def Tt(h:p:=by rw[s3];omega):p:=h
def TD(h:p:=by rw[aK,cO h];exact sF h):p:=h
def wm(h:p:=by show List.length l-(i+1)<List.length l-i;omega):p:=h
def zN(h:p:=by rw[cy,eL];omega):p:=h
def Cj(h:p:=by have:=H.hp.1;omega):p:=h
def Fp(h:p:=by rw[Uf,Uf]):p:=h
def Af(h:p:=by rw[qh,hl];rfl):p:=h
def fE(h:p:=by cases h):p:=h
def Ox(h:p:=by rw[<-jB];exact hb):p:=h
def UG(h:p:=by simp only[b6,tO,ls hp hv,hu]):p:=h
def OX(h:p:=by rw[q2];exact dvd_mul_right _ _):p:=h
def O9(h:p:=by rw[aK,cO h1];exact sF h1):p:=h
def VK(h:p:=by rw[Int.zero_ediv,gZ]):p:=h
def VV(h:p:=by rw[O.len,cy];exact hL8):p:=h
def aut(h:p:=by rw[lY (by omega)];exact dvd_zero _):p:=h
def aww(h:p:=by rw[hl.γ id (hk id<|by simp[C.ak])];exact e):p:=h
def AL(h:p:=by rw[hx.le.γ id fe];exact e):p:=h
def Kg(h:p:=by simp[gn,Fence.wide]at hh):p:=h
def Dr(h:p:=by simp[binOp,Op.intCmp,pure]):p:=h
def rk(h:p:=by simp[AV.ak,C.ak]):p:=h
def KA(h:p:=by simp[Builtin.len_,run_underlying h2,goInt,Sem.run,pure]):p:=h
def GG(h:p:=by rw[gO];omega):p:=h
def KD(h:p:=by simp[execOp,Dv,asBool,Sem.run,pure]):p:=h
def AT(h:p:=by simp[execOp,jc,Sem.run,pure]):p:=h
def Qm(h:p:=by simp[execOp,resolve,invoke,builtin,jc,Sem.run,pure]):p:=h
def AZ(h:p:=by simp[jo]):p:=h
def yF(h:p:=by simp[aE]):p:=h
def jG(h:p:=by simpa[fW]using hk):p:=h
def Bb(h:p:=by simp[oW,hf,hb,tY]):p:=h
def qt(h:p:=by rw[hγ];exact e1):p:=h
def qv(h:p:=by rw[hγ];exact e):p:=h
def Hm(h:p:=by rw[hH];exact hz):p:=h
def Bu(h:p:=by simp[Ka,val]):p:=h
def xr(h:p:=by simp[val]):p:=h
def LX(h:p:=by show t=(q-1)*v1+(r+v1);rw[Gv,kL];omega):p:=h
def LY(h:p:=by show 0<=r+v1;omega):p:=h
def LZ(h:p:=by show r+v1<4294967296;omega):p:=h
def L0(h:p:=by show(4294967296:Int)<=r+v1+(f:Nat)*2147483648;omega):p:=h
def L1(h:p:=by show u/val v<=q-1;omega):p:=h
def Mi(h:p:=by show i+1<=X.length;omega):p:=h
def Mz(h:p:=by show m/2<18446744073709551616;omega):p:=h
def mM(h:p:=by cases h2):p:=h
def wE(h:p:=by cases e):p:=h
def Oz(h:p:=by simp[n9,hd,b6]at tB):p:=h
def JP(h:p:=by rw[bY]):p:=h
def eR:=@O
def ae6:=@D
end Go.El
