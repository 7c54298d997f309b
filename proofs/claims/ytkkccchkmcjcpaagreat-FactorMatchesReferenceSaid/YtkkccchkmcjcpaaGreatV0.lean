/- Short names of theorems of the core, and of proofs that recur. Own work; no condition. -/
import Derived.WalkKit
import Derived.OrdersIn
set_option linter.all false
namespace Go.El
open Go
def J{α:Sort _}{a:α}:a=a:=rfl
def aF:=@List.getD_eq_getElem?_getD
def az:=@of_decide_eq_true
def aL:=@of_decide_eq_false
def T:=@trivial
def aR:=@Option.some.injEq
def aV:=@Int.toNat_natCast
def bD:=@List.getElem?_eq_getElem
def M:=@if_neg
def s:=@if_pos
def cd:=@Option.map_eq_some_iff
def bX:=@List.length_pos_iff
def aW:=@Nat.zero_le
def a8:=@Nat.le_refl
def aC:=@congrArg
def b8:=@List.mem_append
def et:=@List.eq_nil_of_length_eq_zero
def cY:=@Nat.le_of_ble_eq_true
def dQ:=@Classical.byContradiction
def cL:=@List.length_map
def iU:=@Int.mul_le_mul_of_nonneg_right
def di:=@Nat.lt_succ_self
def fo:=@List.length_replicate
def eB:=@Nat.mul_le_mul_right
def cG:=@Prod.mk.injEq
def ja:=@Int.mul_le_mul_of_nonneg_left
def dj:=@Int.zero_emod
def fe:=@List.map_append
def eJ:=@Nat.add_sub_cancel
def fC:=@List.mem_append_left
def fG:=@Nat.pow_le_pow_right
def cQ:=@Nat.le_trans
def df:=@List.mem_cons
def fu:=@List.length_cons
def il:=@List.length_take
def eE:=@List.take_length
def jP:=@Array.getElem?_eq_some_iff
def eG:=@Bool.and_eq_true
def iI:=@List.take_of_length_le
def fO:=@List.length_append
def gA:=@Int.emod_lt_of_pos
def gj:=@List.getElem?_map
def jo:=@List.mem_append_right
def j9:=@List.getElem?_replicate
def im:=@List.pairwise_cons
def iu:=@List.mem_singleton
def dI:=@Int.mul_zero
def mm:=@List.flatMap_cons
def gT:=@Int.emod_eq_of_lt
def nf:=@Array.getElem?_setIfInBounds_ne
def dK:=@Int.pow_succ
def fF:=@Int.natCast_mul
def jw:=@Nat.mul_le_mul_left
def dU:=@Nat.zero_add
def fP:=@List.length_set
def fS:=@Int.emod_nonneg
def lY:=@List.drop_eq_getElem_cons
def ew:=@Int.mul_comm
def jW:=@List.getElem?_range
def lG:=@List.getElem?_eq_none
def cC:=@if_false
def jD:=@Nat.lt_of_lt_of_le
def j6:=@List.getElem_mem
def jQ:=@Bool.false_eq_true
def iF:=@Rat.intCast_mul
def fy:=@Nat.pow_succ
def jR:=@List.append_assoc
def fR:=@Nat.mul_comm
def iW:=@List.append_nil
def iX:=@decide_eq_false
def oh:=@Int.tmod_eq_emod_of_nonneg
def jF:=@List.mem_flatMap
def gZ:=@List.map_cons
def cA:=@if_true
def g7:=@Nat.add_mul
def gx:=@Nat.sub_self
def lO:=@Int.natAbs_natCast
def jm:=@Int.mul_nonneg
def fg:=@Nat.mod_lt
def gk:=@Int.le_refl
def jb:=@Int.mul_assoc
def kU:=@List.cons_append
def jO:=@List.mem_range
def lq:=@List.ext_getElem
def jU:=@decide_eq_true
def nM:=@Int.natCast_nonneg
def iL:=@Nat.one_mul
def oi:=@Int.emod_add_mul_ediv
def jJ:=@Int.emod_emod
def k6:=@List.length_nil
def j7:=@Int.one_mul
def oR:=@List.set_append_right
def mM:=@List.take_add_one
def jE:=@Nat.add_zero
def jA:=@Rat.mul_zero
def ly:=@Nat.mul_le_mul
def zp:=@Int.emod_eq_emod_iff_emod_sub_eq_zero
def qH:=@Nat.dvd_of_mod_eq_zero
def ux:=@Array.getD_eq_getD_getElem?
def oj:=@Nat.pos_of_ne_zero
def qL:=@Classical.choose_spec
def ko:=@Int.zero_mul
def uv:=@List.getElem?_eq_some_iff
def vi:=@List.pairwise_iff_getElem
def nK:=@Nat.mod_eq_of_lt
def qZ:=@Int.emod_emod_of_dvd
def kJ:=@Int.mul_emod
def ri:=@List.take_append_drop
def kY:=@List.mem_map
def vF:=@List.getElem?_append_right
def pU:=@Rat.num_divInt_den
def pW:=@Rat.inv_mul_cancel
def og:=@List.getElem_map
def nE:=@List.range_succ
def kI:=@Nat.mul_one
def qF:=@Nat.eq_zero_or_pos
def ot:=@Int.natCast_pow
def sc:=@Rat.intCast_natCast
def kV:=@Int.pow_pos
def yM:=@List.take_append_of_le_length
def lA:=@Int.mul_one
def tD:=@List.pairwise_append
def rA:=@List.getElem?_drop
def nb:=@Int.add_mul
def vE:=@List.getElem_cons_zero
def mT:=@Int.add_zero
def uj:=@List.mem_cons_of_mem
def wW:=@List.getElem_append_left
def lN:=@Nat.pow_pos
def J2:=@Array.toList_inj
def pj:=@Nat.min_eq_left
def sT:=@List.getElem_take
def yW:=@Array.getElem?_append_left
def zb:=@Int.tdiv_eq_ediv_of_nonneg
def s8:=@Nat.lt_of_le_of_lt
def zh:=@Int.fdiv_eq_ediv_of_nonneg
def wK:=@List.length_singleton
def Av:=@List.drop_append_of_le_length
def xK:=@Int.eq_ofNat_of_zero_le
def xR:=@Int.natCast_dvd_natCast
def uc:=@List.replicate_succ
def uz:=@List.replicate_zero
def uC:=@List.flatMap_append
def yN:=@List.getElem?_append_left
def rv:=@List.all_eq_true
def wX:=@List.drop_eq_nil_of_le
def yC:=@List.getElem?_take_of_lt
def uA:=@List.getElem_range
def nc:=@Int.mul_add
def om:=@Nat.pow_add
def v5:=@Nat.pow_le_pow_left
def oo:=@Nat.pow_zero
def yI:=@List.getElem?_cons_zero
def qE:=@Int.natAbs_mul
def uw:=@List.getElem_drop
def uL:=@List.length_range
def pG:=@Nat.le_of_dvd
def oG:=@Nat.lt_or_ge
def oQ:=@Int.pow_zero
def sJ:=@List.mem_filter
def sV:=@List.nil_append
def sZ:=@Nat.div_add_mod
def rI:=@List.drop_zero
def qv:=@Nat.add_assoc
def qV:=@Rat.mul_assoc
def y8:=@Nat.eq_of_beq_eq_true
def FV:=@List.take_succ_eq_append_getElem
def wh:=@List.pairwise_map
def pV:=@Rat.add_zero
def At:=@List.getElem?_cons_succ
def Bj:=@Int.emod_eq_zero_of_dvd
def Bk:=@Int.dvd_of_emod_eq_zero
def Ai:=@List.mem_of_mem_take
def DC:=@Int.add_mul_emod_self_left
def uh:=@Int.ediv_nonneg
def uG:=@Int.natCast_add
def yB:=@Nat.le_of_not_lt
def A5:=@Int.add_mul_ediv_right
def vX:=@Int.natCast_ediv
def DM:=@Int.mul_ediv_cancel_left
def Ea:=@List.Pairwise.imp_of_mem
def uY:=@List.Perm.refl
def vI:=@Bool.or_eq_true
def yE:=@List.append_of_mem
def yX:=@List.length_drop
def Bb:=@Nat.le_mul_of_pos_right
def DT:=@Nat.add_sub_cancel_left
def GV:=@Int.mul_lt_mul_of_pos_right
def CR:=@List.getElem_cons_succ
def CS:=@List.append_eq_nil_iff
def vK:=@List.drop_drop
def Dz:=@Int.ediv_eq_zero_of_lt
def tk:=@Int.add_emod
def tq:=@Int.sub_emod
def tG:=@Rat.zero_mul
def tJ:=@Int.le_trans
def AM:=@List.getElem_of_mem
def Ba:=@Int.gcd_eq_zero_iff
def Bc:=@Int.toNat_of_nonneg
def yb:=@Rat.intCast_inj
def CC:=@Int.ediv_lt_of_lt_mul
def C3:=@Array.getElem?_toList
def Ez:=@Rat.divInt_mul_divInt
def Ao:=@List.mem_cons_self
def A9:=@List.set_cons_zero
def Fu:=@List.eq_of_mem_replicate
def uI:=@Int.ediv_one
def wQ:=@Int.mul_le_mul
def Db:=@Nat.div_lt_of_lt_mul
def Ib:=@List.pairwise_singleton
def yD:=@List.nodup_cons
def PQ:=@Array.ext'
def yV:=@Nat.not_lt_zero
def zM:=@Rat.mul_eq_zero
def zS:=@Rat.natCast_mul
def DO:=@List.map_congr_left
def FA:=@List.pairwise_lt_range
def vQ:=@Nat.zero_mul
def vW:=@Int.add_comm
def Lr:=@Nat.mul_lt_mul_of_pos_right
def wb:=@Nat.sub_zero
def Hk:=@Nat.mod_eq_zero_of_dvd
def wj:=@List.map_nil
def xL:=@Nat.mul_assoc
def Aj:=@Option.getD_some
def Ax:=@List.getElem_set
def A6:=@Nat.div_eq_of_lt
def BO:=@List.drop_length
def B1:=@Int.dvd_mul_left
def EN:=@List.find?_eq_none
def FI:=@List.getElem?_toArray
def Hf:=@Int.natAbs_dvd_natAbs
def O7:=@Int.natAbs_ediv_le_natAbs
def A8:=@Nat.div_le_self
def An:=@Int.sub_mul
def CE:=@Nat.lt_trichotomy
def C5:=@Bool.not_eq_true'
def Dw:=@List.getElem?_set
def xv:=@Int.sub_zero
def DP:=@Int.mul_emod_left
def wc:=@Nat.pow_mul
def wz:=@Rat.one_mul
def yp:=@Rat.pow_zero
def yq:=@Rat.pow_succ
def DF:=@Nat.gcd_le_right
def DJ:=@Int.natCast_emod
def Bh:=@List.take_zero
def xF:=@Nat.mul_pos
def xQ:=@Nat.mul_add
def Ud:=@List.find?_eq_some_iff_append
def Fv:=@List.set_cons_succ
def F3:=@List.getElem?_take
def zd:=@Nat.gcd_comm
def GL:=@Nat.gcd_zero_right
def GZ:=@Int.sub_eq_add_neg
def Le:=@Nat.le_mul_of_pos_left
def zj:=@Int.zero_add
def zL:=@Int.le_of_lt
def Di:=@Option.some.inj
def DG:=@Int.mul_ne_zero
def Vy:=@List.dropLast_concat_getLast
def A4:=@Bool.true_and
def QI:=@Int.add_mul_emod_self_right
def Ln:=@BitVec.ofInt_natCast
def LY:=@List.getElem?_append
def zN:=@Rat.mul_one
def AL:=@Nat.add_comm
def A7:=@Int.ediv_neg
def GS:=@Int.gcd_dvd_left
def Bs:=@Int.sub_self
def Iu:=@Nat.lt_of_not_le
def I1:=@Rat.intCast_zero
def P0:=@Array.getElem?_eq_getElem
def Od:=@List.mem_map_of_mem
def Ey:=@Int.dvd_trans
def ED:=@Nat.dvd_trans
def IA:=@Rat.intCast_sub
def Lo:=@BitVec.toNat_ofNat
def Nj:=@Nat.lt_or_gt_of_ne
def Am:=@Int.mul_pos
def Be:=@Int.pow_one
def Bm:=@Nat.pow_mod
def BW:=@Rat.div_def
def TS:=@Rat.intCast_eq_zero_iff
def Cy:=@Nat.le_of_lt
def Gg:=@Bool.not_false
def Gj:=@List.take_take
def K7:=@Int.gcd_dvd_right
def Ra:=@Nat.div_div_eq_div_mul
def LL:=@Nat.gcd_dvd_right
def D3:=@Nat.mul_succ
def Et:=@Nat.mul_zero
def MU:=@Int.natAbs_add_le
def EM:=@Int.dvd_refl
def adB:=@Nat.testBit_eq_decide_div_mod_eq
def Sa:=@Nat.ble_eq_true_of_le
def UC:=@List.contains_iff_mem
def KT:=@Int.ediv_le_self
def Lu:=@Nat.mul_lt_mul''
def NO:=@List.flatMap_nil
def Oc:=@List.not_mem_nil
def O3:=@Nat.succ_le_succ
def QL:=@Int.ediv_emod_unique
def DD:=@Int.mul_sub
def DY:=@Nat.mul_mod
def RZ:=@Nat.pow_lt_pow_right
def Fi:=@Rat.neg_neg
def JW:=@List.cons.injEq
def Kj:=@Option.map_some
def K4:=@Int.mul_eq_zero
def M8:=@Rat.natCast_add
def Oj:=@Nat.zero_lt_one
def Ot:=@Rat.intCast_neg
def O':=@Rat.le_antisymm
def Po:=@List.getD_cons_succ
def Qe:=@Array.length_toList
def Ti:=@Nat.pos_iff_ne_zero
def Uh:=@List.drop_replicate
def Ip:=@Rat.mul_comm
def Iq:=@Rat.zero_add
def ID:=@Int.ofNat_le
def Q3:=@Nat.mul_div_cancel
def RB:=@Int.add_emod_right
def Tm:=@Int.ofNat_dvd_left
def Fb:=@Rat.not_lt
def O4:=@Bool.false_and
def Pt:=@List.nodup_append
def QG:=@Nat.gcd_zero_left
def R5:=@Int.mul_left_comm
def Il:=@Nat.dvd_one
def Th:=@Rat.divInt_eq_div
def Tj:=@Int.dvd_mul_right
def Kk:=@List.cons.inj
def acF:=@Int.zero_ediv
def NK:=@Bool.not_true
def Kc:=@Bool.true_or
def Kd:=@Bool.or_true
def LS:=@List.map_map
def Mk:=@Nat.beq_refl
def ME:=@Nat.le_of_eq
def Im:=@Rat.lt_iff
def ON:=@Rat.le_of_lt
variable{p:Prop}
def GA:=@J
def ala:=@T
def ado:=@M
def aqi:=@s
def Cw(h:p:=by simp[C.ar]):p:=h
def S(h:p:=by omega):p:=h
def du(h:p:=by simpa using h):p:=h
def A(h:p:=by decide):p:=h
def vw(h:p:=by have:=h.hM;omega):p:=h
def Fz(h:p:=by rw[nb,j7]):p:=h
def ax(h:p:=by simp):p:=h
def iB(h:p:=by simp[hx]):p:=h
def sK(h:p:=by rw[e];rfl):p:=h
def bP(h:p:=by simp;omega):p:=h
def pq(h:p:=by rw[bC.size,nF];exact dC):p:=h
def qt(h:p:=by simp[Act.put]):p:=h
def iK(h:p:=by simp[Op.operands]):p:=h
def yL(h:p:=by rw[hm]at eo;cases eo):p:=h
def FN(h:p:=by subst hq;simp[Op.operands]):p:=h
def FO(h:p:=by rw[<-J2];exact ha):p:=h
def PN(h:p:=by rw[<-J2];exact ht):p:=h
def CQ(h:p:=by simp[Op.operands,Call.operands]):p:=h
def wU(h:p:=by simpa using hl):p:=h
def wV(h:p:=by rw[execOp,dZ]):p:=h
def jt(h:p:=by simp[dL]):p:=h
def sW(h:p:=by simp[k5,hl]):p:=h
def rz(h:p:=by intro e;subst e;simp[bf]at ht):p:=h
def F6(h:p:=by rw[<-J2];simpa using Az):p:=h
def F1(h:p:=by rw[g7,iL]):p:=h
def wY(h:p:=by simp only[gn,mm,fe,b8];exact .inl h):p:=h
def wZ(h:p:=by simp only[gn,mm,fe,b8];exact .inr<|.inl h):p:=h
def xc(h:p:=by simpa using hj):p:=h
def uy(h:p:=by apply PQ;simp):p:=h
def mq(h:p:=by simp[St.kn,hv]):p:=h
def AH(h:p:=by simpa using hu):p:=h
def C'(h:p:=by simpa using iD):p:=h
def lj(h:p:=by simpa using h2):p:=h
def Dc(h:p:=by simpa using oM):p:=h
def P4(h:p:=by rw[dZ];simp[qu,Op.operands,dL]):p:=h
def Qc(h:p:=by have:=cY AK;rw[xm];omega):p:=h
def yZ(h:p:=by simpa using hi):p:=h
def Gx(h:p:=by simp[St.kn,h2]):p:=h
def j8(h:p:=by kernel_rfl):p:=h
def xB(h:p:=by simpa using h4):p:=h
def ni(h:p:=by show j<j+1;omega):p:=h
def A1(h:p:=by show(0:Int)<=1;decide):p:=h
def xu(h:p:=by show M-(i+1)<M-i;omega):p:=h
def iM(h:p:=by simp only[Pr.an,Pr.h,num,eO,true_and,and_true];omega):p:=h
def ka(h:p:=by show List.length a-(i+1)<List.length a-i;omega):p:=h
def av4(h:p:=by simpa[bK]using h2):p:=h
def av5(h:p:=by simpa[bK]using h3):p:=h
def xC(h:p:=by simp[bK,h3]):p:=h
def xD(h:p:=by rw[hz,e1];rfl):p:=h
def Yh(h:p:=by simp only[Pr.an,Pr.h,num,eO,true_and,and_true];exact hp1):p:=h
def av6(h:p:=by rw[x1,wrap_u64 _ (by omega)<|by omega]):p:=h
def K8(h:p:=by rw[fo];omega):p:=h
def uK(h:p:=by rw[DI];omega):p:=h
def av7(h:p:=by rw[wrap_u64 _ (by omega) (by omega)];omega):p:=h
def wS(h:p:=by simpa using h3):p:=h
def xH(h:p:=by rw[aV];omega):p:=h
def xI(h:p:=by show List.length l-(i+1)<List.length l-i;omega):p:=h
def G4(h:p:=by show List.length cs-(i+1)<List.length cs-i;omega):p:=h
def Lh(h:p:=by simp[IntKind.wrap,IntKind.bits,IntKind.signed]):p:=h
def G5(h:p:=by show X.length-(i+1)<X.length-i;omega):p:=h
def Q9(h:p:=by simp[aF,lG<|yB h2]):p:=h
def xJ(h:p:=by decide+kernel):p:=h
def ak(h:p:=by simp only[Pr.an,Pr.h,num,eO,true_and,and_true];first|done|omega):p:=h
def Lp(h:p:=by rw[YB y hy];exact el):p:=h
def Lq(h:p:=by rw[YB y hy];exact nM y):p:=h
def QO(h:p:=by show(4294967296:Int)<=t%v1+(2:Nat)*2147483648;omega):p:=h
def v7(h:p:=by rw[il];omega):p:=h
def Lw(h:p:=by show m/2<m;omega):p:=h
def Hd(h:p:=by show List.length b-(j+1)<List.length b-j;omega):p:=h
def DX(h:p:=by have:=h.1;omega):p:=h
def av8(h:p:=by rw[<-h1];exact Bb _<|lN<|by decide):p:=h
def eT(h:p:=by ac_rfl):p:=h
def RD(h:p:=by rw[PS.sub_def,PS.add_assoc,PS.akk,PS.add_zero]):p:=h
def xT(h:p:=by rw[e];exact dj _):p:=h
def oV(h:p:=by rw[e]):p:=h
def qM(h:p:=by have:=H.hp.1;omega):p:=h
def Hz(h:p:=by rw[e,zero_mul]):p:=h
def mV(h:p:=by simp[hy]):p:=h
def zC(h:p:=by rw[<-uF]):p:=h
def Mp(h:p:=by rw[show(2:Int)=((2:Nat):Int)from rfl,gU]at h2;omega):p:=h
def HT(h:p:=by rw[q2];exact dvd_mul_right _ _):p:=h
def Mr(h:p:=by show List.length L-(i+1)<List.length L-i;omega):p:=h
def cw(h:p:=by(repeat(refine(eV<|by omega).trans ?_));exact HL<|by omega):p:=h
def MA(h:p:=by show n-(j+1)<n-j;omega):p:=h
def SH(h:p:=by(repeat(refine(eV<|by omega).trans ?_));refine(alz<|by omega).trans ?_;(repeat(refine(eV<|by omega).trans ?_));exact HL<|by omega):p:=h
def H4(h:p:=by show(1:Int)≠0;decide):p:=h
def MK(h:p:=by show n-(i+1)<n-i;omega):p:=h
def ML(h:p:=by show Int.toNat ((i:Int))<_;omega):p:=h
def SQ(h:p:=by show List.length l-(j+1)<List.length l-j;omega):p:=h
def Ew(h:p:=by show xs.length-(i+1)<xs.length-i;omega):p:=h
def aa9(h:p:=by simp[Pr.an,Pr.h,num,eO]):p:=h
def zA(h:p:=by simp[h1]):p:=h
def Nk(h:p:=by show k-(i+1)<k-i;omega):p:=h
def Nq(h:p:=by have:=h.hp.1;omega):p:=h
def TA(h:p:=by show 1+i<=1000000*8;omega):p:=h
def TB(h:p:=by show 3000000<=1000000*8;decide):p:=h
def TC(h:p:=by show 1+i<=1000000*12;omega):p:=h
def TD(h:p:=by show 3000000<=1000000*12;decide):p:=h
def TE(h:p:=by simp only[Pr.an,Pr.h,num,eO,true_and,and_true];exact ab8):p:=h
def TF(h:p:=by(repeat(refine(eV<|by omega).trans ?_));exact anz<|by omega):p:=h
def Ny(h:p:=by show Int.toNat ((t:Int))<_;rw[mX];omega):p:=h
def NI(h:p:=by have:=h.H.hp.1;omega):p:=h
def z8(h:p:=by rw[aF,bD h1];exact j6 h1):p:=h
def EV(h:p:=by have:=h.l9;omega):p:=h
def UK(h:p:=by unfold dV;rw[il];omega):p:=h
def US(h:p:=by rw[om,fR];exact jw _<|by decide):p:=h
def Vc(h:p:=by show List.length g-(j+1)<List.length g-j;omega):p:=h
def av9(h:p:=by rw[BP (by omega)];exact j6 _):p:=h
def Ab(h:p:=by rw[fu];omega):p:=h
def Vi(h:p:=by show List.length fs-(i+1)<List.length fs-i;omega):p:=h
def OT(h:p:=by show(1:Rat)≠0;decide):p:=h
def VR(h:p:=by rw[acF,dj]):p:=h
def V5(h:p:=by rw[O.len,cL];exact hL8):p:=h
def V6(h:p:=by rw[i2,cL,il];omega):p:=h
def av'(h:p:=by rw[hl.γ id (hk id<|by simp[C.ar])];exact e):p:=h
def FC(h:p:=by rw[hx.le.γ id eo];exact e):p:=h
def JL(h:p:=by simp[iC,Fence.wide]at hh):p:=h
def CN(h:p:=by simp[binOp,Op.intCmp,pure]):p:=h
def sQ(h:p:=by simp[AV.ar,C.ar]):p:=h
def JV(h:p:=by simp[Builtin.len_,run_underlying h2,goInt,Sem.run,pure]):p:=h
def JX(h:p:=by rw[g7];omega):p:=h
def JY(h:p:=by simp[execOp,vD,asBool,Sem.run,pure]):p:=h
def Au(h:p:=by simp[execOp,k4,Sem.run,pure]):p:=h
def PO(h:p:=by simp[execOp,resolve,invoke,builtin,k4,Sem.run,pure]):p:=h
def jG(h:p:=by simpa[oc]using hk):p:=h
def Kb(h:p:=by show 1000000*st.nx+1000*i<=1000000*st.nx+1000*(i+1);omega):p:=h
def C9(h:p:=by simp[oJ,hf,hb,yU]):p:=h
def vP(h:p:=by rw[hγ];exact e1):p:=h
def vR(h:p:=by rw[hγ];exact e):p:=h
def xt(h:p:=by simp at h2):p:=h
def A2(h:p:=by simp[JG,val]):p:=h
def xy(h:p:=by simp[val]):p:=h
def KU(h:p:=by show t=(q-1)*v1+(r+v1);rw[An,j7];omega):p:=h
def KV(h:p:=by show 0<=r+v1;omega):p:=h
def KW(h:p:=by show r+v1<4294967296;omega):p:=h
def KX(h:p:=by show(4294967296:Int)<=r+v1+(f:Nat)*2147483648;omega):p:=h
def KY(h:p:=by show u/val v<=q-1;omega):p:=h
def Lk(h:p:=by show i+1<=X.length;omega):p:=h
def bS(h:p:=by cases h):p:=h
def Lv(h:p:=by show m/2<18446744073709551616;omega):p:=h
def Hi(h:p:=by show(0:Int)<=_;decide):p:=h
def Hj(h:p:=by show(_:Int)<_;decide):p:=h
def nl(h:p:=by cases h2):p:=h
def awa(h:p:=by rw[jK a i h2,jK b i (by omega),ht,h3]):p:=h
def H9(h:p:=by show(0:Int)<=(i:Int);omega):p:=h
def Nu(h:p:=by show(i:Int)<(r:Int);omega):p:=h
def al2:=@S
def abJ:=@A
end Go.El
