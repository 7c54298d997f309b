/- Own work; no condition. -/
import Derived.WalkKit
import Derived.OrdersIn
set_option linter.all false
namespace Go.El
open Go
def J{α:Sort _}{a:α}:a=a:=rfl
def aO:=@List.getD_eq_getElem?_getD
def aq:=@Option.some.injEq
def j:=@trivial
def aV:=@of_decide_eq_true
def bc:=@of_decide_eq_false
def bY:=@Option.map_eq_some_iff
def bl:=@List.mem_append
def y:=@if_neg
def df:=@List.getElem?_eq_getElem
def aL:=@Nat.le_refl
def q:=@if_pos
def cF:=@List.length_pos_iff
def c7:=@Nat.le_of_ble_eq_true
def cC:=@Int.toNat_natCast
def br:=@Nat.le_trans
def bM:=@Prod.mk.injEq
def bg:=@Nat.zero_le
def dD:=@Nat.pow_le_pow_right
def cP:=@Bool.and_eq_true
def b7:=@List.mem_cons
def fe:=@Classical.byContradiction
def gx:=@List.eq_nil_of_length_eq_zero
def dS:=@Nat.mul_le_mul_right
def fY:=@Array.getElem?_eq_some_iff
def dj:=@List.length_map
def eT:=@List.mem_append_left
def ja:=@Int.mul_le_mul_of_nonneg_right
def aF:=@absurd
def eL:=@Nat.add_sub_cancel
def dV:=@Nat.lt_succ_self
def gf:=@List.map_append
def bm:=@congrArg
def gO:=@List.mem_append_right
def ig:=@List.length_replicate
def iw:=@List.getElem?_eq_none
def gD:=@Nat.mul_le_mul_left
def gK:=@Nat.lt_of_lt_of_le
def l0:=@Array.getElem?_setIfInBounds_ne
def iC:=@List.length_take
def l6:=@List.flatMap_cons
def b8:=@if_false
def k5:=@Int.tmod_eq_emod_of_nonneg
def mq:=@Int.mul_le_mul_of_nonneg_left
def eh:=@Rat.mul_zero
def jM:=@List.take_of_length_le
def l7:=@Array.getD_eq_getD_getElem?
def gM:=@Int.natCast_mul
def iV:=@List.length_append
def iW:=@List.mem_singleton
def iN:=@Int.emod_eq_of_lt
def g7:=@Rat.intCast_mul
def jg:=@List.length_cons
def iG:=@List.take_length
def jx:=@Bool.false_eq_true
def jH:=@Int.emod_lt_of_pos
def dw:=@eq_of_beq
def cz:=@if_true
def ju:=@List.getElem?_map
def fD:=@Nat.zero_add
def fG:=@Nat.pow_succ
def fL:=@Int.mul_comm
def iP:=@Int.zero_emod
def ls:=@List.mem_cons_of_mem
def k7:=@List.getElem?_range
def js:=@List.mem_flatMap
def nG:=@List.getElem?_replicate
def mi:=@Nat.eq_of_beq_eq_true
def ji:=@List.append_nil
def gA:=@Nat.mul_comm
def gX:=@List.map_cons
def gY:=@Nat.add_mul
def k8:=@Rat.inv_mul_cancel
def gP:=@Int.pow_succ
def lq:=@List.pairwise_cons
def oG:=@List.getElem?_cons_zero
def jG:=@Int.emod_nonneg
def gG:=@Nat.pow_pos
def qQ:=@List.getElem?_eq_some_iff
def qn:=@List.length_singleton
def qv:=@Nat.le_mul_of_pos_right
def iO:=@Int.mul_zero
def pM:=@Int.emod_add_mul_ediv
def je:=@Nat.one_mul
def kL:=@Int.mul_nonneg
def sa:=@List.getElem_append_left
def gU:=@Nat.mod_lt
def nr:=@decide_eq_true_eq
def nt:=@List.append_assoc
def tU:=@List.drop_eq_getElem_cons
def ko:=@Int.mul_assoc
def mY:=@List.cons_append
def uW:=@Array.getElem?_append_left
def iZ:=@Int.le_refl
def nY:=@List.all_eq_true
def jm:=@Nat.pow_add
def s8:=@Int.natCast_nonneg
def pQ:=@Rat.num_divInt_den
def jZ:=@Nat.add_zero
def kd:=@List.mem_map
def kg:=@Nat.sub_self
def sx:=@List.getElem_mem
def wP:=@Int.tdiv_eq_ediv_of_nonneg
def mA:=@Nat.mul_le_mul
def mu:=@Int.one_mul
def lT:=@Rat.mul_assoc
def nZ:=@Nat.not_lt_zero
def y6:=@List.take_append_of_le_length
def mz:=@Nat.mul_assoc
def rq:=@Nat.pos_of_ne_zero
def rC:=@Int.natAbs_natCast
def uX:=@List.take_append_drop
def sS:=@Nat.eq_zero_or_pos
def px:=@List.length_set
def uj:=@Rat.intCast_natCast
def vX:=@List.drop_eq_nil_of_le
def mF:=@Rat.zero_mul
def lF:=@Rat.mul_one
def vB:=@Int.emod_emod_of_dvd
def xB:=@List.getElem?_cons_succ
def Nr:=@Array.toList_inj
def rk:=@Nat.mod_eq_of_lt
def sY:=@List.length_range
def vR:=@List.getElem?_toArray
def ou:=@Int.emod_emod
def xC:=@List.getElem_cons_zero
def nM:=@Rat.add_zero
def qN:=@List.mem_filter
def tD:=@List.getElem_take
def qT:=@List.length_nil
def rz:=@decide_eq_false
def uS:=@List.getElem?_drop
def yq:=@Classical.choose_spec
def C3:=@List.drop_append_of_le_length
def pJ:=@Int.add_mul
def z4:=@Int.natCast_dvd_natCast
def tK:=@Option.getD_some
def qO:=@List.mem_range
def vj:=@List.take_add_one
def oU:=@Int.zero_mul
def rA:=@decide_eq_true
def wV:=@Nat.lt_of_le_of_lt
def xS:=@Int.toNat_of_nonneg
def tJ:=@Nat.div_add_mod
def C7:=@List.getElem?_append_right
def se:=@List.drop_drop
def sr:=@List.drop_zero
def D9:=@Int.fdiv_eq_ediv_of_nonneg
def vV:=@List.getElem_drop
def oV:=@Int.mul_one
def Aq:=@List.pairwise_append
def C6:=@List.getElem?_append_left
def qx:=@Nat.pow_zero
def uY:=@Nat.min_eq_left
def tZ:=@Int.natAbs_mul
def v7:=@List.ext_getElem
def zK:=@Nat.le_of_not_lt
def xt:=@List.not_mem_nil
def pI:=@Int.pow_pos
def ry:=@Int.pow_zero
def Ed:=@Int.eq_ofNat_of_zero_le
def Eh:=@Int.emod_eq_zero_of_dvd
def Bc:=@Nat.div_lt_of_lt_mul
def qt:=@Int.mul_add
def tC:=@Nat.add_assoc
def vW:=@List.nil_append
def wW:=@Int.natCast_pow
def xl:=@ne_of_beq_false
def r7:=@Nat.lt_or_ge
def C2:=@List.getElem_cons_succ
def so:=@Nat.zero_mul
def D6:=@Int.add_mul_ediv_right
def sV:=@Int.mul_emod
def Bb:=@List.replicate_succ
def B6:=@Nat.pow_le_pow_left
def rh:=@Nat.mul_one
def rG:=@Rat.one_mul
def xK:=@Option.map_some
def tV:=@Int.add_zero
def zS:=@Int.natCast_ediv
def HM:=@Int.dvd_of_emod_eq_zero
def s':=@Rat.div_def
def Ia:=@Rat.intCast_eq_zero_iff
def K5:=@Int.mul_lt_mul_of_pos_right
def wZ:=@Nat.le_of_dvd
def Hw:=@Int.ediv_eq_zero_of_lt
def vw:=@Int.le_trans
def zQ:=@Int.natCast_add
def Ab:=@Rat.mul_eq_zero
def Ai:=@Rat.intCast_inj
def Js:=@List.getElem_append_right
def F3:=@Array.getElem?_toList
def Hv:=@Int.ediv_lt_of_lt_mul
def Ig:=@Rat.divInt_mul_divInt
def CS:=@List.mem_cons_self
def Jn:=@List.getElem?_take_of_lt
def JP:=@Option.isSome_iff_exists
def wR:=@Int.ediv_one
def Ho:=@List.mem_of_mem_take
def zT:=@Int.mul_le_mul
def Lb:=@Nat.add_sub_cancel_left
def Xc:=@Int.emod_eq_emod_iff_emod_sub_eq_zero
def AT:=@List.nodup_cons
def AU:=@List.range_succ
def FP:=@Array.ext'
def A5:=@Bool.or_eq_true
def BM:=@Int.ediv_nonneg
def B4:=@Rat.natCast_mul
def B5:=@Int.mul_ne_zero
def Gf:=@List.replicate_zero
def Gg:=@List.getElem_of_mem
def Gu:=@List.flatMap_append
def ye:=@Nat.le_of_lt
def yh:=@Int.add_comm
def yn:=@Rat.mul_comm
def LI:=@Nat.dvd_of_mod_eq_zero
def Dg:=@List.length_drop
def Di:=@List.getElem_map
def D7:=@Nat.div_eq_of_lt
def EK:=@Int.dvd_mul_left
def vd:=@Nat.blt_eq
def P7:=@Int.add_mul_emod_self_left
def Lg:=@Int.natAbs_dvd_natAbs
def EX:=@Rat.intCast_neg
def TN:=@List.take_succ_eq_append_getElem
def HI:=@Int.mul_emod_left
def yk:=@Nat.mul_add
def z7:=@Int.sub_emod
def H9:=@List.pairwise_map
def AB:=@Rat.pow_zero
def AD:=@Rat.pow_succ
def QX:=@List.Pairwise.imp_of_mem
def JE:=@Array.length_toList
def FB:=@List.range'_succ
def T8:=@List.eq_nil_iff_forall_not_mem
def M5:=@List.pairwise_lt_range
def Jm:=@List.getElem?_take
def BL:=@Nat.gcd_comm
def Qu:=@Nat.le_mul_of_pos_left
def Zc:=@List.dropLast_concat_getLast
def P6:=@List.set_append_right
def Jt:=@Bool.not_eq_true'
def Wq:=@Int.add_mul_emod_self_right
def WY:=@Nat.mul_lt_mul_of_pos_right
def M8:=@List.range_eq_range'
def Gi:=@Bool.not_false
def Ol:=@List.mem_of_getElem?
def OX:=@Bool.or_eq_false_iff
def K0:=@Int.sub_mul
def BP:=@Nat.mul_pos
def Qb:=@BitVec.ofInt_natCast
def HJ:=@List.take_zero
def Dy:=@Nat.beq_refl
def DY:=@Nat.sub_zero
def D2:=@Int.sub_zero
def D8:=@Int.ediv_neg
def K6:=@Int.natCast_emod
def Ee:=@Int.zero_add
def Ep:=@Rat.zero_add
def Fa:=@List.map_nil
def TY:=@Array.getElem?_eq_getElem
def Zr:=@Int.natAbs_ediv_le_natAbs
def RN:=@Nat.add_le_add_left
def Sf:=@List.mem_map_of_mem
def Hb:=@Nat.lt_irrefl
def H7:=@Nat.dvd_trans
def Zo:=@Int.mul_ediv_cancel_left
def I':=@List.cons.injEq
def JI:=@Option.some.inj
def LJ:=@Rat.intCast_sub
def NP:=@List.getElem_range
def PG:=@Nat.gcd_zero_right
def Qc:=@BitVec.toNat_ofNat
def Ea:=@Int.mul_pos
def Ek:=@Nat.pow_mul
def XJ:=@List.pairwise_singleton
def TM:=@List.append_eq_nil_iff
def Jp:=@List.mapM_cons
def F6:=@Bool.true_or
def F7:=@Bool.or_true
def NG:=@List.flatten_cons
def OU:=@Nat.lt_succ_of_lt
def QQ:=@Rat.divInt_eq_div
def aaq:=@List.getElem_singleton
def Yi:=@Rat.divInt_add_divInt
def Z8:=@List.contains_iff_mem
def Qg:=@Nat.mul_lt_mul''
def QE:=@Nat.lt_of_not_le
def Rl:=@List.flatMap_nil
def RM:=@Nat.le_add_right
def Sk:=@Nat.succ_le_succ
def LL:=@Int.dvd_trans
def Ws:=@Int.ediv_emod_unique
def HC:=@Int.mul_sub
def HQ:=@Nat.mul_mod
def XP:=@Nat.pow_lt_pow_right
def Ns:=@List.foldl_cons
def Sw:=@Nat.le_antisymm
def Wg:=@List.getD_cons_succ
def Wv:=@Int.gcd_eq_zero_iff
def Xr:=@List.map_congr_left
def XG:=@Nat.pos_iff_ne_zero
def Ym:=@List.drop_replicate
def JB:=@Nat.add_comm
def Lf:=@Int.add_emod
def L0:=@Int.dvd_refl
def Tp:=@List.append_of_mem
def Wi:=@Nat.sub_add_cancel
def WG:=@List.set_cons_zero
def WT:=@Nat.mul_div_cancel
def Qa:=@Int.natAbs_neg
def WV:=@Int.sub_eq_add_neg
def Xt:=@Rat.sub_eq_add_neg
def XK:=@Int.ofNat_dvd_left
def Tn:=@List.nodup_append
def To:=@Nat.lt_trichotomy
def Wj:=@List.getElem?_set
def Wu:=@Int.gcd_dvd_right
def Xe:=@Nat.gcd_dvd_right
def Xq:=@Int.natAbs_add_le
def NF:=@List.cons.inj
def Rg:=@Bool.not_true
def OT:=@List.map_map
def QO:=@Nat.mul_zero
def QR:=@Int.ofNat_le
def Sn:=@Nat.succ_mul
variable{p:Prop}
def KF:=@J
def fp:=@j
def aBf:=@y
def g5:=@q
def Fy(h:p:=by simp[C.ak]):p:=h
def fg(h:p:=by simpa using h):p:=h
def au(h:p:=by simp):p:=h
def mW(h:p:=by simp[hx]):p:=h
def Y(h:p:=by omega):p:=h
def kw{q:Prop}(a:q)(h:q->p:=by omega):p:=h a
def vO(h:p:=by rw[e];rfl):p:=h
def cd(h:p:=by simp;omega):p:=h
def nX(h:p:=by rw[aX.size,lM];exact dG):p:=h
def pj(h:p:=by simp[Act.put]):p:=h
def iL(h:p:=by simp[Op.operands]):p:=h
def AZ(h:p:=by rw[hm]at aY;cases aY):p:=h
def Jc(h:p:=by subst hq;simp[Op.operands]):p:=h
def Jd(h:p:=by rw[<-Nr];exact ha):p:=h
def TH(h:p:=by rw[<-Nr];exact ht):p:=h
def FO(h:p:=by simp[Op.operands,Call.operands]):p:=h
def vU(h:p:=by simpa using hl):p:=h
def xE(h:p:=by rw[execOp,b9]):p:=h
def e9(h:p:=by simp[cy]):p:=h
def sb(h:p:=by simp[fZ,hl]):p:=h
def uR(h:p:=by intro e;subst e;simp[aD]at ht):p:=h
def FX(h:p:=by rw[<-Nr];simpa using y8):p:=h
def TQ(h:p:=by simpa[AV.ak,C.ak]using hj):p:=h
def Jl(h:p:=by rw[gY,je]):p:=h
def TX(h:p:=by simp[zeroValue,typeInfo,xG,hz]):p:=h
def Nx(h:p:=by simpa[dL]using h):p:=h
def uV(h:p:=by simp only[dL,l6,gf,bl];exact .inl h):p:=h
def xH(h:p:=by simp only[dL,l6,gf,bl];exact .inr<|.inl h):p:=h
def xI(h:p:=by simpa using ha):p:=h
def qh(h:p:=by simpa using hj):p:=h
def tH(h:p:=by simpa using hb):p:=h
def A6(h:p:=by apply FP;simp):p:=h
def si(h:p:=by simp[St.kn,hv]):p:=h
def Df(h:p:=by simp[St.kn,hl]):p:=h
def v3(h:p:=by simpa using hu):p:=h
def zd(h:p:=by simpa using jK):p:=h
def sk(h:p:=by simpa using h2):p:=h
def T3(h:p:=by rw[b9];simp[qe,Op.operands,cy]):p:=h
def T9(h:p:=by rw[abr (Nu _)];simp):p:=h
def Ua(h:p:=by simpa using(fw cK ny).aaM):p:=h
def NZ(h:p:=by rw[xQ];exact Bg):p:=h
def N0(h:p:=by simp only[bl];exact .inr cy):p:=h
def JT(h:p:=by simp[St.kn,h2]):p:=h
def Gx(h:p:=by simpa using hx):p:=h
def n9(h:p:=by simp[gw]):p:=h
def xU(h:p:=by rw[e]):p:=h
def S(h:p:=by decide):p:=h
def GK(h:p:=by rw[UN,UN]):p:=h
def Bq(h:p:=by rw[uM,hl];rfl):p:=h
def wD(h:p:=by simp[hy]):p:=h
def gL(h:p:=by cases h):p:=h
def OS(h:p:=by rw[<-kJ];exact hb):p:=h
def Vf(h:p:=by simp only[b9,vT,mm hp hv,hu]):p:=h
def fh(h:p:=by kernel_rfl):p:=h
def P9(h:p:=by simpa using h4):p:=h
def vk(h:p:=by show j<j+1;omega):p:=h
def KT(h:p:=by show(0:Int)<=1;decide):p:=h
def zM(h:p:=by show M-(i+1)<M-i;omega):p:=h
def lQ(h:p:=by simp only[Pr.an,Pr.h,num,ia,true_and,and_true];omega):p:=h
def ri(h:p:=by show List.length a-(i+1)<List.length a-i;omega):p:=h
def aBg(h:p:=by simpa[cD]using h2):p:=h
def PM(h:p:=by simp[IntKind.wrap,IntKind.bits,IntKind.signed]):p:=h
def PR(h:p:=by show X.length-(i+1)<X.length-i;omega):p:=h
def WA(h:p:=by simp[aO,iw<|zK h2]):p:=h
def yi(h:p:=by have:=h.hM;omega):p:=h
def KZ(h:p:=by rw[pJ,mu]):p:=h
def ae8(h:p:=by simp only[Pr.an,Pr.h,num,ia,true_and,and_true];exact WB):p:=h
def aBh(h:p:=by rw[x1,bf _ (by omega)<|by omega]):p:=h
def WO(h:p:=by rw[ig];omega):p:=h
def wU(h:p:=by rw[HD];omega):p:=h
def aBi(h:p:=by simpa[cD]using h3):p:=h
def HG(h:p:=by simp[cD,h3]):p:=h
def HH(h:p:=by rw[hz,e1];rfl):p:=h
def CY(h:p:=by simpa using h3):p:=h
def aH(h:p:=by simp only[Pr.an,Pr.h,num,ia,true_and,and_true];first|done|omega):p:=h
def Qd(h:p:=by rw[wu8 y hy];exact el):p:=h
def Qe(h:p:=by rw[wu8 y hy];exact s8 y):p:=h
def WC(h:p:=by show(4294967296:Int)<=t%v1+(2:Nat)*2147483648;omega):p:=h
def K7(h:p:=by rw[iC];omega):p:=h
def Qi(h:p:=by show m/2<m;omega):p:=h
def W7(h:p:=by show List.length b-(j+1)<List.length b-j;omega):p:=h
def Ej(h:p:=by have:=h.1;omega):p:=h
def fC(h:p:=by ac_rfl):p:=h
def HU(h:p:=by rw[e];exact iP _):p:=h
def Lw(h:p:=by rw[e,dy]):p:=h
def B3(h:p:=by simp[h1]):p:=h
def EE(h:p:=by have:=H.hp.1;omega):p:=h
def Q2(h:p:=by show k-(i+1)<k-i;omega):p:=h
def ahv(h:p:=by simp[Pr.an,Pr.h,num,ia]):p:=h
def L6(h:p:=by show n-(i+1)<n-i;omega):p:=h
def Yv(h:p:=by unfold gI;rw[iC];omega):p:=h
def RJ(h:p:=by rw[jg];omega):p:=h
def YI(h:p:=by rw[qn];omega):p:=h
def YO(h:p:=by rw[aO,df h];exact sx h):p:=h
def Az(h:p:=by show List.length l-(i+1)<List.length l-i;omega):p:=h
def Iq(h:p:=by rw[dj,iC];omega):p:=h
def R6(h:p:=by rw[q2];exact mH _ _):p:=h
def Sl(h:p:=by rw[aO,df h1];exact sx h1):p:=h
def Zn(h:p:=by rw[Int.zero_ediv,iP]):p:=h
def Zz(h:p:=by rw[O.len,dj];exact hL8):p:=h
def ZQ(h:p:=by simpa[cX,AV.ak,b6,C.ak,av]using aY):p:=h
def ZS(h:p:=by rw[Rx.jS];exact e2.symm):p:=h
def SW(h:p:=by simpa[AV.ak,C.ak]using aY):p:=h
def MG(h:p:=by have:=hm.l2;omega):p:=h
def aas(h:p:=by have:=dS (1000+2) hp;omega):p:=h
def SA(h:p:=by decide+kernel):p:=h
def aBj(h:p:=by rw[hl.γ id (hk id<|by simp[C.ak])];exact e):p:=h
def CT(h:p:=by rw[hx.le.γ id aY];exact e):p:=h
def FA(h:p:=by simp[dP,Fence.wide]at hh):p:=h
def FJ(h:p:=by simp[binOp,Op.intCmp,pure]):p:=h
def tz(h:p:=by simp[AV.ak,C.ak]):p:=h
def yX(h:p:=by cases aY):p:=h
def Nl(h:p:=by simp[Builtin.len_,run_underlying h2,goInt,Sem.run,pure]):p:=h
def Ja(h:p:=by rw[gY];omega):p:=h
def Nn(h:p:=by simp[execOp,yZ,asBool,Sem.run,pure]):p:=h
def C1(h:p:=by simp[execOp,jL,Sem.run,pure]):p:=h
def TL(h:p:=by simp[execOp,resolve,invoke,builtin,jL,Sem.run,pure]):p:=h
def A3(h:p:=by simp[jy]):p:=h
def y7(h:p:=by simp[aD]):p:=h
def Nq(h:p:=by rw[FQ hb,tE]):p:=h
def kV(h:p:=by simpa[gw]using hk):p:=h
def Nz(h:p:=by show 1000000*st.nx+1000*i<=1000000*st.nx+1000*(i+1);omega):p:=h
def zc(h:p:=by simp[oI,hf,hb,qY]):p:=h
def sn(h:p:=by rw[hγ];exact e1):p:=h
def sA(h:p:=by rw[hγ];exact e):p:=h
def JQ(h:p:=by rw[hH];exact hz):p:=h
def x6(h:p:=by cases e):p:=h
def OV(h:p:=by simp[pG,hd,b9]at vg):p:=h
def D1(h:p:=by simp[PB,val]):p:=h
def zO(h:p:=by simp[val]):p:=h
def PO(h:p:=by show i+1<=X.length;omega):p:=h
def PV(h:p:=by show t=(q-1)*v1+(r+v1);rw[K0,mu];omega):p:=h
def PW(h:p:=by show 0<=r+v1;omega):p:=h
def PX(h:p:=by show r+v1<4294967296;omega):p:=h
def PY(h:p:=by show(4294967296:Int)<=r+v1+(f:Nat)*2147483648;omega):p:=h
def PZ(h:p:=by show u/val v<=q-1;omega):p:=h
def Qh(h:p:=by show m/2<18446744073709551616;omega):p:=h
def pO(h:p:=by cases h2):p:=h
def aBk:=@Y
def aBl:=@S
end Go.El
