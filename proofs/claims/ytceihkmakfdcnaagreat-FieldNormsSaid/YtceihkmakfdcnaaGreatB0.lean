/- Short names of theorems of the core, and of proofs that recur. Own work; no condition. -/
import Derived.WalkKit
import Derived.OrdersIn
set_option linter.all false
namespace Go.El
open Go
def J{α:Sort _}{a:α}:a=a:=rfl
def aq:=@Option.some.injEq
def aN:=@List.getD_eq_getElem?_getD
def A:=@trivial
def aW:=@of_decide_eq_true
def bc:=@of_decide_eq_false
def bS:=@Option.map_eq_some_iff
def be:=@List.mem_append
def cO:=@List.getElem?_eq_getElem
def y:=@if_neg
def cr:=@Int.toNat_natCast
def q:=@if_pos
def aT:=@Nat.le_refl
def cP:=@Nat.le_of_ble_eq_true
def bK:=@Prod.mk.injEq
def cR:=@List.length_pos_iff
def bf:=@Nat.zero_le
def cD:=@Bool.and_eq_true
def bZ:=@List.mem_cons
def fb:=@Array.getElem?_eq_some_iff
def cT:=@List.length_map
def fc:=@Classical.byContradiction
def b6:=@Nat.le_trans
def gK:=@List.eq_nil_of_length_eq_zero
def hZ:=@Int.mul_le_mul_of_nonneg_right
def et:=@Nat.mul_le_mul_right
def eH:=@List.mem_append_left
def eZ:=@Nat.pow_le_pow_right
def fF:=@List.map_append
def eE:=@Nat.add_sub_cancel
def bh:=@congrArg
def dJ:=@Nat.lt_succ_self
def fY:=@List.length_replicate
def gI:=@List.mem_append_right
def kH:=@Array.getElem?_setIfInBounds_ne
def gL:=@List.length_take
def bQ:=@if_false
def lq:=@List.flatMap_cons
def kU:=@Int.mul_le_mul_of_nonneg_left
def fO:=@Nat.lt_of_lt_of_le
def iY:=@List.take_of_length_le
def ls:=@Array.getD_eq_getD_getElem?
def fC:=@Int.natCast_mul
def gX:=@Int.emod_eq_of_lt
def jS:=@List.getElem?_eq_none
def dY:=@Rat.mul_zero
def fT:=@Rat.intCast_mul
def iw:=@List.mem_singleton
def lX:=@Int.tmod_eq_emod_of_nonneg
def gQ:=@List.take_length
def iF:=@Bool.false_eq_true
def iR:=@Int.emod_lt_of_pos
def cd:=@if_true
def jk:=@Nat.mul_le_mul_left
def iI:=@List.length_cons
def iX:=@List.length_append
def eP:=@Nat.zero_add
def eW:=@Int.mul_comm
def gZ:=@Int.zero_emod
def iN:=@List.getElem?_map
def lY:=@List.getElem?_replicate
def kO:=@Nat.eq_of_beq_eq_true
def ik:=@List.append_nil
def jV:=@List.getElem?_range
def iV:=@List.mem_flatMap
def fH:=@Int.pow_succ
def gy:=@Nat.add_mul
def jP:=@List.pairwise_cons
def mX:=@List.getElem?_cons_zero
def iP:=@Int.emod_nonneg
def gJ:=@List.map_cons
def fQ:=@Nat.pow_succ
def lL:=@List.mem_cons_of_mem
def gY:=@Int.mul_zero
def nW:=@Int.emod_add_mul_ediv
def pS:=@List.getElem?_eq_some_iff
def hJ:=@Nat.mul_comm
def jB:=@Int.mul_nonneg
def fN:=@Nat.mod_lt
def lP:=@List.append_assoc
def rJ:=@List.drop_eq_getElem_cons
def iG:=@Nat.one_mul
def jo:=@Int.mul_assoc
def ln:=@List.cons_append
def hY:=@Int.le_refl
def nq:=@Rat.inv_mul_cancel
def mn:=@List.all_eq_true
def qP:=@Int.natCast_nonneg
def n8:=@Rat.num_divInt_den
def tO:=@Array.getElem?_append_left
def uG:=@Int.tdiv_eq_ediv_of_nonneg
def kX:=@Int.one_mul
def jv:=@Nat.add_zero
def rA:=@List.length_singleton
def xa:=@List.take_append_of_le_length
def l0:=@Nat.mul_le_mul
def o9:=@Int.natAbs_natCast
def kg:=@Nat.sub_self
def sI:=@List.take_append_drop
def tR:=@List.getElem_mem
def qD:=@Nat.eq_zero_or_pos
def nG:=@List.length_set
def r6:=@Rat.intCast_natCast
def kF:=@List.mem_map
def tK:=@List.drop_eq_nil_of_le
def l7:=@Rat.mul_assoc
def th:=@Int.emod_emod_of_dvd
def vu:=@List.getElem?_cons_succ
def KQ:=@Array.toList_inj
def oY:=@Nat.mod_eq_of_lt
def tE:=@List.getElem?_toArray
def mM:=@Int.emod_emod
def rL:=@Nat.pos_of_ne_zero
def km:=@Nat.pow_pos
def ku:=@Nat.pow_add
def vw:=@List.getElem_cons_zero
def w6:=@List.getElem_append_left
def oM:=@List.mem_filter
def rf:=@List.getElem_take
def rV:=@List.length_range
def mO:=@Rat.zero_mul
def wu:=@Classical.choose_spec
def AX:=@List.drop_append_of_le_length
def nU:=@Int.add_mul
def xU:=@Int.natCast_dvd_natCast
def rv:=@Option.getD_some
def sW:=@List.take_add_one
def nh:=@Int.zero_mul
def nl:=@Rat.add_zero
def tJ:=@List.getElem?_drop
def vP:=@Int.toNat_of_nonneg
def ru:=@Nat.div_add_mod
def pO:=@List.mem_range
def pY:=@List.drop_drop
def qh:=@List.drop_zero
def B9:=@Int.fdiv_eq_ediv_of_nonneg
def qB:=@decide_eq_true
def tH:=@List.getElem_drop
def ni:=@Int.mul_one
def nr:=@Rat.mul_one
def yg:=@List.pairwise_append
def wg:=@Nat.lt_of_le_of_lt
def oC:=@Nat.pow_zero
def sH:=@List.length_nil
def sK:=@Nat.min_eq_left
def s5:=@decide_eq_false
def rP:=@Int.natAbs_mul
def tQ:=@List.ext_getElem
def nT:=@Int.pow_pos
def o8:=@Int.pow_zero
def Cc:=@Int.eq_ofNat_of_zero_le
def Cf:=@Int.emod_eq_zero_of_dvd
def DB:=@List.getElem?_append_right
def yT:=@Nat.div_lt_of_lt_mul
def oA:=@Int.mul_add
def q':=@Nat.add_assoc
def tI:=@List.nil_append
def tN:=@Nat.not_lt_zero
def uL:=@Int.natCast_pow
def pN:=@Nat.lt_or_ge
def AW:=@List.getElem_cons_succ
def qf:=@Nat.zero_mul
def B6:=@Int.add_mul_ediv_right
def qG:=@Int.mul_emod
def DA:=@List.getElem?_append_left
def yS:=@List.replicate_succ
def z7:=@Nat.pow_le_pow_left
def oW:=@Nat.mul_one
def vH:=@Option.map_some
def rK:=@Int.add_zero
def BY:=@Nat.le_of_not_lt
def xN:=@Int.natCast_ediv
def Fu:=@Int.dvd_of_emod_eq_zero
def qL:=@Rat.one_mul
def ID:=@Int.mul_lt_mul_of_pos_right
def E6:=@Int.ediv_eq_zero_of_lt
def te:=@Int.le_trans
def xM:=@Int.natCast_add
def x9:=@Rat.intCast_inj
def DH:=@Array.getElem?_toList
def E5:=@Int.ediv_lt_of_lt_mul
def FW:=@Rat.divInt_mul_divInt
def GV:=@List.getElem?_take_of_lt
def Hk:=@Option.isSome_iff_exists
def uI:=@Int.ediv_one
def wh:=@Nat.mul_assoc
def wi:=@Nat.le_of_dvd
def EX:=@List.mem_of_mem_take
def xO:=@Int.mul_le_mul
def IK:=@Nat.add_sub_cancel_left
def Uh:=@Int.emod_eq_emod_iff_emod_sub_eq_zero
def yB:=@List.range_succ
def Du:=@Array.ext'
def yL:=@Bool.or_eq_true
def zB:=@Int.ediv_nonneg
def zX:=@Rat.mul_eq_zero
def z5:=@Rat.natCast_mul
def z6:=@Int.mul_ne_zero
def DV:=@List.replicate_zero
def D5:=@List.flatMap_append
def wc:=@Int.add_comm
def Jm:=@Nat.dvd_of_mod_eq_zero
def uW:=@Rat.div_def
def Bd:=@List.getElem_map
def B7:=@Nat.div_eq_of_lt
def CK:=@Int.dvd_mul_left
def Dc:=@List.mem_cons_self
def sO:=@Nat.blt_eq
def Nu:=@Int.add_mul_emod_self_left
def IQ:=@Int.natAbs_dvd_natAbs
def AL:=@List.nodup_cons
def QF:=@List.take_succ_eq_append_getElem
def Fk:=@Int.mul_emod_left
def xX:=@Int.sub_emod
def FQ:=@List.pairwise_map
def yp:=@Rat.pow_zero
def yq:=@Rat.pow_succ
def Ot:=@List.Pairwise.imp_of_mem
def Ha:=@Array.length_toList
def Df:=@List.range'_succ
def DS:=@List.length_drop
def QZ:=@List.eq_nil_iff_forall_not_mem
def Ku:=@List.pairwise_lt_range
def GU:=@List.getElem?_take
def zA:=@Nat.gcd_comm
def NT:=@Nat.le_mul_of_pos_left
def zS:=@Rat.mul_comm
def Wa:=@List.dropLast_concat_getLast
def Nt:=@List.set_append_right
def G3:=@Bool.not_eq_true'
def Tw:=@Int.add_mul_emod_self_right
def T6:=@Nat.mul_lt_mul_of_pos_right
def Kx:=@List.range_eq_range'
def DW:=@Bool.not_false
def LK:=@List.mem_of_getElem?
def Mj:=@Bool.or_eq_false_iff
def Iy:=@Int.sub_mul
def zH:=@Nat.mul_pos
def Nz:=@BitVec.ofInt_natCast
def Fl:=@List.take_zero
def zO:=@Nat.mul_add
def Bt:=@Nat.beq_refl
def BW:=@Nat.sub_zero
def BZ:=@Nat.le_of_lt
def B3:=@Int.sub_zero
def B8:=@Int.ediv_neg
def IE:=@Int.natCast_emod
def Cd:=@Int.zero_add
def C5:=@List.map_nil
def Ka:=@List.not_mem_nil
def QO:=@Array.getElem?_eq_getElem
def Wp:=@Int.natAbs_ediv_le_natAbs
def Lh:=@List.getElem_of_mem
def PB:=@List.mem_map_of_mem
def FO:=@Nat.dvd_trans
def Wn:=@Int.mul_ediv_cancel_left
def He:=@Option.some.inj
def JP:=@Rat.intCast_neg
def Lg:=@List.getElem_range
def M5:=@Nat.gcd_zero_right
def NA:=@BitVec.toNat_ofNat
def Ca:=@Int.mul_pos
def TV:=@Nat.le_mul_of_pos_right
def Cj:=@Nat.pow_mul
def UM:=@List.pairwise_singleton
def QE:=@List.append_eq_nil_iff
def GY:=@List.mapM_cons
def DK:=@Bool.true_or
def DL:=@Bool.or_true
def K5:=@List.flatten_cons
def Mg:=@Nat.lt_succ_of_lt
def FF:=@Rat.zero_add
def Oi:=@Rat.divInt_eq_div
def Vk:=@Rat.divInt_add_divInt
def WT:=@List.contains_iff_mem
def NF:=@Nat.mul_lt_mul''
def OQ:=@List.flatMap_nil
def OZ:=@Rat.intCast_zero
def PG:=@Nat.succ_le_succ
def H3:=@Nat.lt_irrefl
def Jo:=@Int.dvd_trans
def Ty:=@Int.ediv_emod_unique
def Ff:=@Int.mul_sub
def Fy:=@Nat.mul_mod
def US:=@Nat.pow_lt_pow_right
def KK:=@List.cons.injEq
def KR:=@List.foldl_cons
def Oe:=@Rat.intCast_add
def Og:=@Rat.intCast_sub
def To:=@List.getD_cons_succ
def TA:=@Int.gcd_eq_zero_iff
def UJ:=@Nat.pos_iff_ne_zero
def Vo:=@List.drop_replicate
def VA:=@Nat.add_le_add_left
def IP:=@Int.add_emod
def JC:=@Int.dvd_refl
def Ql:=@List.append_of_mem
def TN:=@List.set_cons_zero
def T1:=@Nat.mul_div_cancel
def T3:=@Int.sub_eq_add_neg
def UN:=@Int.ofNat_dvd_left
def Ws:=@Nat.one_le_two_pow
def Qj:=@List.nodup_append
def Qk:=@Nat.lt_trichotomy
def Tq:=@List.getElem?_set
def Tz:=@Int.gcd_dvd_right
def Uj:=@Nat.gcd_dvd_right
def Uu:=@Int.natAbs_add_le
def I5:=@Rat.mul_add
def K4:=@List.cons.inj
def OK:=@Bool.not_true
def Lf:=@Nat.add_comm
def Mf:=@List.map_map
def Oj:=@Int.ofNat_le
def PI:=@Nat.succ_mul
variable{p:Prop}
def Ia:=@J
def Wo:=@A
def awj:=@y
def gf:=@q
def Db(h:p:=by simp[C.ak]):p:=h
def eh(h:p:=by simpa using h):p:=h
def ax(h:p:=by simp):p:=h
def lj(h:p:=by simp[hx]):p:=h
def G(h:p:=by omega):p:=h
def tu(h:p:=by rw[e];rfl):p:=h
def bX(h:p:=by simp;omega):p:=h
def mm(h:p:=by rw[aS.size,jZ];exact df):p:=h
def nz(h:p:=by simp[Act.put]):p:=h
def gU(h:p:=by simp[Op.operands]):p:=h
def yF(h:p:=by rw[hm]at a6;cases a6):p:=h
def GJ(h:p:=by subst hq;simp[Op.operands]):p:=h
def GK(h:p:=by rw[<-KQ];exact ha):p:=h
def QC(h:p:=by rw[<-KQ];exact ht):p:=h
def Dt(h:p:=by simp[Op.operands,Call.operands]):p:=h
def tG(h:p:=by simpa using hl):p:=h
def vC(h:p:=by rw[execOp,bO]):p:=h
def dT(h:p:=by simp[cc]):p:=h
def pU(h:p:=by simp[fM,hl]):p:=h
def sD(h:p:=by intro e;subst e;simp[aC]at ht):p:=h
def DD(h:p:=by rw[<-KQ];simpa using xc):p:=h
def QI(h:p:=by simpa[AV.ak,C.ak]using hj):p:=h
def GS(h:p:=by rw[gy,iG]):p:=h
def QN(h:p:=by simp[zeroValue,typeInfo,vD,hz]):p:=h
def KW(h:p:=by simpa[dw]using h):p:=h
def tL(h:p:=by simp only[dw,lq,fF,be];exact .inl h):p:=h
def vE(h:p:=by simp only[dw,lq,fF,be];exact .inr<|.inl h):p:=h
def A4(h:p:=by simpa using ha):p:=h
def pZ(h:p:=by simpa using hj):p:=h
def vG(h:p:=by simpa using hb):p:=h
def yM(h:p:=by apply Du;simp):p:=h
def p7(h:p:=by simp[St.kn,hv]):p:=h
def A'(h:p:=by simp[St.kn,hl]):p:=h
def vJ(h:p:=by simpa using hu):p:=h
def yR(h:p:=by simpa using jh):p:=h
def p'(h:p:=by simpa using h2):p:=h
def QV(h:p:=by rw[bO];simp[ot,Op.operands,cc]):p:=h
def Q1(h:p:=by rw[XW (KT _)];simp):p:=h
def Q2(h:p:=by simpa using(eK b7 m0).Xi):p:=h
def Lp(h:p:=by rw[vO];exact yX):p:=h
def Lq(h:p:=by simp only[be];exact .inr cc):p:=h
def Hp(h:p:=by simp[St.kn,h2]):p:=h
def D9(h:p:=by simpa using hx):p:=h
def mz(h:p:=by simp[fP]):p:=h
def D(h:p:=by decide):p:=h
def Ek(h:p:=by rw[RJ,RJ]):p:=h
def zb(h:p:=by rw[sy,hl];rfl):p:=h
def uv(h:p:=by simp[hy]):p:=h
def fR(h:p:=by cases h):p:=h
def Me(h:p:=by rw[<-jy];exact hb):p:=h
def Sd(h:p:=by simp only[bO,tF,kS hp hv,hu]):p:=h
def eL(h:p:=by kernel_rfl):p:=h
def Nx(h:p:=by simpa using h4):p:=h
def sY(h:p:=by show j<j+1;omega):p:=h
def Ir(h:p:=by show(0:Int)<=1;decide):p:=h
def xJ(h:p:=by show M-(i+1)<M-i;omega):p:=h
def kp(h:p:=by simp only[Pr.an,Pr.h,num,fX,true_and,and_true];omega):p:=h
def qy(h:p:=by show List.length a-(i+1)<List.length a-i;omega):p:=h
def awk(h:p:=by simpa[cj]using h2):p:=h
def Nc(h:p:=by simp[IntKind.wrap,IntKind.bits,IntKind.signed]):p:=h
def Ng(h:p:=by show X.length-(i+1)<X.length-i;omega):p:=h
def TG(h:p:=by simp[aN,jS<|BY h2]):p:=h
def we(h:p:=by have:=h.hM;omega):p:=h
def Ix(h:p:=by rw[nU,kX]):p:=h
def aby(h:p:=by simp only[Pr.an,Pr.h,num,fX,true_and,and_true];exact hp1):p:=h
def awl(h:p:=by rw[x1,wrap_u64 _ (by omega)<|by omega]):p:=h
def TX(h:p:=by rw[fY];omega):p:=h
def uK(h:p:=by rw[Fg];omega):p:=h
def awm(h:p:=by simpa[cj]using h3):p:=h
def Fi(h:p:=by simp[cj,h3]):p:=h
def Fj(h:p:=by rw[hz,e1];rfl):p:=h
def AR(h:p:=by simpa using h3):p:=h
def aF(h:p:=by simp only[Pr.an,Pr.h,num,fX,true_and,and_true];first|done|omega):p:=h
def NB(h:p:=by rw[wu8 y hy];exact el):p:=h
def NC(h:p:=by rw[wu8 y hy];exact qP y):p:=h
def TH(h:p:=by show(4294967296:Int)<=t%v1+(2:Nat)*2147483648;omega):p:=h
def IF(h:p:=by rw[gL];omega):p:=h
def NH(h:p:=by show m/2<m;omega):p:=h
def Uc(h:p:=by show List.length b-(j+1)<List.length b-j;omega):p:=h
def Ci(h:p:=by have:=h.1;omega):p:=h
def fq(h:p:=by ac_rfl):p:=h
def FC(h:p:=by rw[e];exact gZ _):p:=h
def I'(h:p:=by rw[e,zero_mul]):p:=h
def z4(h:p:=by simp[h1]):p:=h
def CC(h:p:=by have:=H.hp.1;omega):p:=h
def Ox(h:p:=by show k-(i+1)<k-i;omega):p:=h
def ad2(h:p:=by simp[Pr.an,Pr.h,num,fX]):p:=h
def OW(h:p:=by show n-(i+1)<n-i;omega):p:=h
def Vt(h:p:=by unfold fI;rw[gL];omega):p:=h
def O8(h:p:=by rw[iI];omega):p:=h
def VM(h:p:=by rw[aN,cO h];exact tR h):p:=h
def yn(h:p:=by show List.length l-(i+1)<List.length l-i;omega):p:=h
def F6(h:p:=by rw[cT,gL];omega):p:=h
def Ps(h:p:=by rw[q2];exact dvd_mul_right _ _):p:=h
def PH(h:p:=by rw[aN,cO h1];exact tR h1):p:=h
def Wm(h:p:=by rw[Int.zero_ediv,gZ]):p:=h
def Ww(h:p:=by rw[O.len,cT];exact hL8):p:=h
def P5(h:p:=by simpa[AV.ak,C.ak]using a6):p:=h
def awn(h:p:=by rw[hl.γ id (hk id<|by simp[C.ak])];exact e):p:=h
def AM(h:p:=by rw[hx.le.γ id a6];exact e):p:=h
def De(h:p:=by simp[di,Fence.wide]at hh):p:=h
def Dp(h:p:=by simp[binOp,Op.intCmp,pure]):p:=h
def q9(h:p:=by simp[AV.ak,C.ak]):p:=h
def wY(h:p:=by cases a6):p:=h
def KJ(h:p:=by simp[Builtin.len_,run_underlying h2,goInt,Sem.run,pure]):p:=h
def GG(h:p:=by rw[gy];omega):p:=h
def KM(h:p:=by simp[execOp,w5,asBool,Sem.run,pure]):p:=h
def AU(h:p:=by simp[execOp,iW,Sem.run,pure]):p:=h
def QD(h:p:=by simp[execOp,resolve,invoke,builtin,iW,Sem.run,pure]):p:=h
def yJ(h:p:=by simp[iH]):p:=h
def xb(h:p:=by simp[aC]):p:=h
def KP(h:p:=by rw[Dv hb,rh]):p:=h
def jG(h:p:=by simpa[fP]using hk):p:=h
def KY(h:p:=by show 1000000*st.nx+1000*i<=1000000*st.nx+1000*(i+1);omega):p:=h
def yQ(h:p:=by simp[mZ,hf,hb,p8]):p:=h
def qe(h:p:=by rw[hγ];exact e1):p:=h
def qk(h:p:=by rw[hγ];exact e):p:=h
def Hl(h:p:=by rw[hH];exact hz):p:=h
def vY(h:p:=by cases e):p:=h
def Mh(h:p:=by simp[nR,hd,bO]at sU):p:=h
def B2(h:p:=by simp[M0,val]):p:=h
def xL(h:p:=by simp[val]):p:=h
def Nf(h:p:=by show i+1<=X.length;omega):p:=h
def Nj(h:p:=by show t=(q-1)*v1+(r+v1);rw[Iy,kX];omega):p:=h
def Nk(h:p:=by show 0<=r+v1;omega):p:=h
def Nl(h:p:=by show r+v1<4294967296;omega):p:=h
def Nm(h:p:=by show(4294967296:Int)<=r+v1+(f:Nat)*2147483648;omega):p:=h
def Nn(h:p:=by show u/val v<=q-1;omega):p:=h
def NG(h:p:=by show m/2<18446744073709551616;omega):p:=h
def qJ(h:p:=by cases h2):p:=h
def awo:=@G
def afG:=@D
end Go.El
