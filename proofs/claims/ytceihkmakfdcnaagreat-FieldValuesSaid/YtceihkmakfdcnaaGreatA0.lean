/- Short names of theorems of the core, and of proofs that recur. Own work; no condition. -/
import Derived.WalkKit
import Derived.OrdersIn
set_option linter.all false
namespace Go.El
open Go
def J{α:Sort _}{a:α}:a=a:=rfl
def ar:=@Option.some.injEq
def aV:=@List.getD_eq_getElem?_getD
def aK:=@of_decide_eq_true
def e:=@trivial
def aT:=@of_decide_eq_false
def bg:=@List.mem_append
def cH:=@List.getElem?_eq_getElem
def bW:=@Int.toNat_natCast
def cL:=@Option.map_eq_some_iff
def b:=@if_neg
def a7:=@Nat.le_refl
def be:=@Nat.zero_le
def aq:=@if_pos
def dc:=@Nat.le_of_ble_eq_true
def cQ:=@List.length_pos_iff
def bK:=@Prod.mk.injEq
def cr:=@Bool.and_eq_true
def bY:=@List.mem_cons
def cR:=@List.length_map
def fB:=@List.eq_nil_of_length_eq_zero
def eQ:=@Classical.byContradiction
def gG:=@Int.mul_le_mul_of_nonneg_right
def a8:=@congrArg
def dT:=@Nat.mul_le_mul_right
def cj:=@Nat.le_trans
def fQ:=@Array.getElem?_eq_some_iff
def eh:=@List.mem_append_left
def dE:=@Nat.add_sub_cancel
def fE:=@List.length_replicate
def fe:=@List.map_append
def dL:=@Nat.lt_succ_self
def eB:=@List.length_cons
def fp:=@List.length_take
def fZ:=@List.mem_append_right
def fT:=@Nat.pow_le_pow_right
def bN:=@if_false
def jR:=@Int.mul_le_mul_of_nonneg_left
def k7:=@Array.getElem?_setIfInBounds_ne
def kH:=@List.flatMap_cons
def hP:=@List.length_append
def kf:=@Int.tmod_eq_emod_of_nonneg
def iK:=@List.take_of_length_le
def eU:=@Int.natCast_mul
def gI:=@List.mem_singleton
def fv:=@List.take_length
def gk:=@Int.emod_eq_of_lt
def fh:=@Rat.intCast_mul
def gY:=@Bool.false_eq_true
def g7:=@Int.emod_lt_of_pos
def jQ:=@List.getElem?_eq_none
def ef:=@Int.mul_comm
def b9:=@if_true
def gw:=@Int.zero_emod
def iz:=@Nat.lt_of_lt_of_le
def eF:=@Nat.zero_add
def jh:=@Nat.mul_le_mul_left
def ln:=@List.getElem?_replicate
def gO:=@List.append_nil
def fD:=@Nat.add_mul
def nI:=@Array.getD_eq_getD_getElem?
def kO:=@Nat.eq_of_beq_eq_true
def jT:=@List.mem_cons_of_mem
def eZ:=@Int.pow_succ
def g6:=@Int.emod_nonneg
def iT:=@List.getElem?_map
def ju:=@List.pairwise_cons
def mn:=@List.getElem?_cons_zero
def eO:=@Int.le_refl
def iP:=@List.mem_flatMap
def fF:=@Nat.pow_succ
def kS:=@List.getElem?_range
def fN:=@Rat.mul_zero
def gn:=@Int.mul_zero
def qB:=@List.length_singleton
def nc:=@Int.emod_add_mul_ediv
def pn:=@List.drop_eq_getElem_cons
def hJ:=@List.map_cons
def hO:=@Nat.one_mul
def kF:=@List.append_assoc
def iL:=@Int.mul_nonneg
def gN:=@Nat.mul_comm
def fb:=@Nat.mod_lt
def iy:=@Int.mul_assoc
def pO:=@Int.natCast_nonneg
def nh:=@Rat.num_divInt_den
def mq:=@List.all_eq_true
def sX:=@Int.tdiv_eq_ediv_of_nonneg
def jS:=@Int.one_mul
def qp:=@List.drop_eq_nil_of_le
def nT:=@Rat.inv_mul_cancel
def sB:=@List.getElem?_eq_some_iff
def mc:=@List.cons_append
def jd:=@Nat.add_zero
def vw:=@List.take_append_of_le_length
def ls:=@Nat.mul_le_mul
def oA:=@Int.natAbs_natCast
def ru:=@List.getElem_mem
def ry:=@List.take_append_drop
def pq:=@Nat.eq_zero_or_pos
def m7:=@List.length_nil
def qV:=@Rat.intCast_natCast
def jW:=@List.mem_map
def r9:=@Int.emod_emod_of_dvd
def Jy:=@Array.toList_inj
def ou:=@Nat.mod_eq_of_lt
def lR:=@Int.emod_emod
def qF:=@Nat.pos_of_ne_zero
def vu:=@List.getElem_append_left
def kh:=@Nat.pow_pos
def n8:=@List.mem_filter
def qm:=@List.getElem_take
def ox:=@decide_eq_false
def tW:=@List.getElem?_toArray
def uC:=@Classical.choose_spec
def mX:=@Int.add_mul
def vo:=@List.getElem?_cons_succ
def zI:=@List.drop_append_of_le_length
def wB:=@Int.natCast_dvd_natCast
def qe:=@Option.getD_some
def rv:=@List.take_add_one
def vr:=@List.getElem_cons_zero
def mr:=@Nat.sub_self
def mD:=@Int.zero_mul
def ui:=@Int.toNat_of_nonneg
def qf:=@Nat.min_eq_left
def qx:=@Nat.div_add_mod
def oW:=@List.mem_range
def zZ:=@Array.getElem?_append_left
def o5:=@List.drop_zero
def At:=@Int.fdiv_eq_ediv_of_nonneg
def pD:=@Int.natAbs_mul
def sC:=@List.getElem_drop
def oD:=@Rat.mul_assoc
def mE:=@Nat.pow_add
def mF:=@Int.mul_one
def wZ:=@List.pairwise_append
def uv:=@Nat.lt_of_le_of_lt
def nQ:=@Rat.add_zero
def rH:=@List.length_set
def qu:=@List.drop_drop
def sL:=@List.ext_getElem
def mW:=@Int.pow_pos
def ow:=@Int.pow_zero
def Av:=@Int.eq_ofNat_of_zero_le
def AA:=@Int.emod_eq_zero_of_dvd
def nD:=@Int.mul_add
def vz:=@List.getElem?_drop
def Ck:=@List.getElem?_append_right
def xN:=@Nat.div_lt_of_lt_mul
def rV:=@decide_eq_true
def qk:=@Nat.add_assoc
def sF:=@List.nil_append
def s7:=@Int.natCast_pow
def oV:=@Nat.lt_or_ge
def Ap:=@Int.add_mul_ediv_right
def py:=@Nat.pow_zero
def pC:=@Int.mul_emod
def Cj:=@List.getElem?_append_left
def xx:=@List.replicate_succ
def wG:=@List.length_range
def ud:=@Option.map_some
def qE:=@Int.add_zero
def qO:=@Rat.zero_mul
def zp:=@Nat.le_of_not_lt
def wm:=@Int.natCast_ediv
def Dw:=@Int.dvd_of_emod_eq_zero
def GA:=@Int.mul_lt_mul_of_pos_right
def Cb:=@List.getElem_cons_succ
def Jw:=@List.take_succ_eq_append_getElem
def rM:=@Nat.zero_mul
def Dg:=@Int.ediv_eq_zero_of_lt
def r7:=@Int.le_trans
def AY:=@Nat.pow_le_pow_left
def qD:=@Nat.mul_one
def wh:=@Int.natCast_add
def qP:=@Rat.one_mul
def wT:=@Rat.intCast_inj
def BT:=@Int.ediv_lt_of_lt_mul
def Cs:=@Array.getElem?_toList
def DI:=@Rat.divInt_mul_divInt
def EU:=@List.getElem?_take_of_lt
def FT:=@Option.isSome_iff_exists
def sZ:=@Int.ediv_one
def uw:=@Nat.le_of_dvd
def BM:=@List.mem_of_mem_take
def vj:=@Int.mul_le_mul
def GO:=@Nat.add_sub_cancel_left
def QV:=@Int.emod_eq_emod_iff_emod_sub_eq_zero
def xy:=@Int.ediv_nonneg
def xJ:=@Bool.or_eq_true
def yl:=@Int.mul_ne_zero
def yD:=@Rat.natCast_mul
def CK:=@List.replicate_zero
def CV:=@List.flatMap_append
def uo:=@Int.add_comm
def HR:=@Nat.dvd_of_mod_eq_zero
def tq:=@Rat.mul_one
def z2:=@List.getElem_map
def Aq:=@Nat.div_eq_of_lt
def AW:=@List.drop_length
def A8:=@Int.dvd_mul_left
def BU:=@List.mem_cons_self
def Cc:=@Array.ext'
def rP:=@Nat.blt_eq
def K0:=@Int.add_mul_emod_self_left
def GU:=@Int.natAbs_dvd_natAbs
def zz:=@List.range_succ
def AN:=@Rat.mul_eq_zero
def Dt:=@Int.mul_emod_left
def wE:=@Int.sub_emod
def DZ:=@List.pairwise_map
def xe:=@Rat.pow_zero
def xf:=@Rat.pow_succ
def yd:=@Nat.mul_assoc
def Mz:=@List.Pairwise.imp_of_mem
def FI:=@Array.length_toList
def CI:=@List.length_drop
def Pk:=@List.eq_nil_iff_forall_not_mem
def Jd:=@List.pairwise_lt_range
def Fl:=@List.getElem?_take
def x6:=@Nat.gcd_comm
def Ly:=@Nat.le_mul_of_pos_left
def BV:=@List.nodup_cons
def CF:=@Nat.not_lt_zero
def DK:=@Rat.num_eq_zero
def T2:=@List.dropLast_concat_getLast
def KZ:=@List.set_append_right
def Fu:=@Bool.not_eq_true'
def Qd:=@Int.add_mul_emod_self_right
def QG:=@Nat.mul_lt_mul_of_pos_right
def EW:=@Int.sub_mul
def CN:=@Bool.not_false
def KD:=@List.mem_of_getElem?
def ya:=@Nat.mul_pos
def Lc:=@BitVec.ofInt_natCast
def yj:=@Nat.mul_add
def ym:=@Rat.div_def
def Am:=@Int.sub_zero
def Ar:=@Int.ediv_neg
def GC:=@Int.natCast_emod
def Aw:=@Int.zero_add
def IQ:=@Int.tmod_eq_emod
def O8:=@Array.getElem?_eq_getElem
def Ug:=@Int.natAbs_ediv_le_natAbs
def J4:=@List.getElem_of_mem
def DX:=@Nat.dvd_trans
def Ue:=@Int.mul_ediv_cancel_left
def HG:=@Rat.intCast_neg
def J3:=@List.getElem_range
def KM:=@Nat.gcd_zero_right
def Ld:=@BitVec.toNat_ofNat
def zu:=@Int.mul_pos
def Qr:=@Nat.le_mul_of_pos_right
def R8:=@List.pairwise_singleton
def BO:=@Nat.le_of_lt
def OK:=@Array.getElem?_eq_none
def OX:=@List.append_eq_nil_iff
def Fp:=@List.mapM_cons
def JS:=@List.flatten_cons
def GK:=@List.take_zero
def Dy:=@Nat.sub_zero
def DM:=@Rat.mul_comm
def L':=@Rat.divInt_eq_div
def Nk:=@Nat.lt_succ_of_lt
def Re:=@Rat.divInt_add_divInt
def Jg:=@List.range'_succ
def Lk:=@Nat.mul_lt_mul''
def Mj:=@Nat.min_le_right
def MV:=@List.flatMap_nil
def NX:=@Nat.succ_le_succ
def Ha:=@Int.dvd_trans
def OE:=@List.range_eq_range'
def Qf:=@Int.ediv_emod_unique
def Dk:=@Int.mul_sub
def DA:=@Nat.mul_mod
def RM:=@Nat.pow_lt_pow_right
def S':=@Bool.or_eq_false_iff
def JB:=@List.foldl_cons
def Ma:=@Rat.intCast_sub
def Mi:=@Rat.intCast_add
def Ov:=@List.getD_cons_succ
def Qq:=@Int.gcd_eq_zero_iff
def Rm:=@List.drop_replicate
def RL:=@Nat.add_le_add_left
def R4:=@Nat.pos_iff_ne_zero
def TW:=@List.mem_map_of_mem
def GS:=@Int.add_emod
def Hf:=@Rat.zero_add
def H5:=@Int.dvd_refl
def H8:=@Nat.beq_refl
def IL:=@List.map_nil
def OB:=@List.append_of_mem
def Qj:=@List.set_cons_zero
def Qy:=@Nat.mul_div_cancel
def QA:=@Int.sub_eq_add_neg
def R9:=@Int.ofNat_dvd_left
def Oz:=@List.nodup_append
def OA:=@Nat.lt_trichotomy
def P9:=@List.getElem?_set
def Qp:=@Int.gcd_dvd_right
def QX:=@Nat.gcd_dvd_right
def GX:=@Nat.pow_mul
def Q9:=@Int.natAbs_add_le
def JR:=@List.cons.inj
def MN:=@Bool.not_true
def JK:=@Bool.true_or
def JL:=@Bool.or_true
def J2:=@Nat.add_comm
def LA:=@List.map_map
def Mr:=@Int.ofNat_le
def NZ:=@Nat.succ_mul
variable{p:Prop}
def F':=@J
def oo:=@e
def hY:=@b
def BL(h:p:=by simp[C.ak]):p:=h
def G(h:p:=by omega):p:=h
def dH(h:p:=by simpa using h):p:=h
def T(h:p:=by decide):p:=h
def tT(h:p:=by have:=h.hM;omega):p:=h
def EV(h:p:=by rw[mX,jS]):p:=h
def ay(h:p:=by simp):p:=h
def lF(h:p:=by simp[hx]):p:=h
def tU(h:p:=by rw[e];rfl):p:=h
def bX(h:p:=by simp;omega):p:=h
def mj(h:p:=by rw[aW.size,kE];exact di):p:=h
def mm(h:p:=by simp[Act.put]):p:=h
def gf(h:p:=by simp[Op.operands]):p:=h
def B9(h:p:=by rw[hm]at eD;cases eD):p:=h
def E9(h:p:=by subst hq;simp[Op.operands]):p:=h
def Fa(h:p:=by rw[<-Jy];exact ha):p:=h
def OV(h:p:=by rw[<-Jy];exact ht):p:=h
def Ca(h:p:=by simp[Op.operands,Call.operands]):p:=h
def tX(h:p:=by simpa using hl):p:=h
def tZ(h:p:=by rw[execOp,bV]):p:=h
def dP(h:p:=by simp[b8]):p:=h
def qn(h:p:=by simp[fC,hl]):p:=h
def qo(h:p:=by intro e;subst e;simp[aE]at ht):p:=h
def Cm(h:p:=by rw[<-Jy];simpa using vA):p:=h
def O1(h:p:=by simpa[AV.ak,C.ak]using hj):p:=h
def zL(h:p:=by rw[fD,hO]):p:=h
def O6(h:p:=by simp[zeroValue,typeInfo,ua,hz]):p:=h
def JG(h:p:=by simpa[dx]using h):p:=h
def uc(h:p:=by simp only[dx,kH,fe,bg];exact .inl h):p:=h
def vB(h:p:=by simp only[dx,kH,fe,bg];exact .inr<|.inl h):p:=h
def JH(h:p:=by simpa[dx]using hk):p:=h
def Cu(h:p:=by simpa using ha):p:=h
def sH(h:p:=by simpa using hj):p:=h
def vD(h:p:=by simpa using hb):p:=h
def zS(h:p:=by apply Cc;simp):p:=h
def zT(h:p:=by simp[St.kn,hv]):p:=h
def zY(h:p:=by simp[St.kn,hl]):p:=h
def xM(h:p:=by simpa using hu):p:=h
def CG(h:p:=by simpa using iN):p:=h
def o0(h:p:=by simpa using h2):p:=h
def Pf(h:p:=by rw[bV];simp[nF,Op.operands,b8]):p:=h
def Pm(h:p:=by rw[VT (JE _)];simp):p:=h
def Pn(h:p:=by simpa using(dW cp mA).Vg):p:=h
def Po(h:p:=by have:=dc xQ;rw[CM];omega):p:=h
def Kd(h:p:=by rw[o6];exact xS):p:=h
def Ke(h:p:=by simp only[bg];exact .inr b8):p:=h
def FY(h:p:=by simp[St.kn,h2]):p:=h
def CZ(h:p:=by simpa using hx):p:=h
def lL(h:p:=by simp[fJ]):p:=h
def dD(h:p:=by kernel_rfl):p:=h
def K3(h:p:=by simpa using h4):p:=h
def rQ(h:p:=by show j<j+1;omega):p:=h
def Gq(h:p:=by show(0:Int)<=1;decide):p:=h
def wc(h:p:=by show M-(i+1)<M-i;omega):p:=h
def jK(h:p:=by simp only[Pr.an,Pr.h,num,fR,true_and,and_true];omega):p:=h
def oq(h:p:=by show List.length a-(i+1)<List.length a-i;omega):p:=h
def atF(h:p:=by simpa[b6]using h2):p:=h
def Xo(h:p:=by simp only[Pr.an,Pr.h,num,fR,true_and,and_true];exact hp1):p:=h
def atG(h:p:=by rw[x1,wrap_u64 _ (by omega)<|by omega]):p:=h
def Qs(h:p:=by rw[fE];omega):p:=h
def s6(h:p:=by rw[Dp];omega):p:=h
def atH(h:p:=by simpa[b6]using h3):p:=h
def Dr(h:p:=by simp[b6,h3]):p:=h
def Ds(h:p:=by rw[hz,e1];rfl):p:=h
def zD(h:p:=by simpa using h3):p:=h
def K8(h:p:=by simp[IntKind.wrap,IntKind.bits,IntKind.signed]):p:=h
def La(h:p:=by show X.length-(i+1)<X.length-i;omega):p:=h
def QE(h:p:=by simp[aV,jQ<|zp h2]):p:=h
def aF(h:p:=by simp only[Pr.an,Pr.h,num,fR,true_and,and_true];first|done|omega):p:=h
def Le(h:p:=by rw[XH y hy];exact el):p:=h
def Lf(h:p:=by rw[XH y hy];exact pO y):p:=h
def Qg(h:p:=by show(4294967296:Int)<=t%v1+(2:Nat)*2147483648;omega):p:=h
def GJ(h:p:=by rw[fp];omega):p:=h
def Lm(h:p:=by show m/2<m;omega):p:=h
def QP(h:p:=by show List.length b-(j+1)<List.length b-j;omega):p:=h
def AD(h:p:=by have:=h.1;omega):p:=h
def fc(h:p:=by ac_rfl):p:=h
def DE(h:p:=by rw[e];exact gw _):p:=h
def YA(h:p:=by simp[Pr.an,Pr.h,num,fR]):p:=h
def LN(h:p:=by show k-(i+1)<k-i;omega):p:=h
def uA(h:p:=by rw[e]):p:=h
def Ro(h:p:=by unfold eV;rw[fp];omega):p:=h
def Hn(h:p:=by rw[e,zero_mul]):p:=h
def nV(h:p:=by simp[hy]):p:=h
def yw(h:p:=by simp[h1]):p:=h
def HA(h:p:=by rw[eB];omega):p:=h
def R1(h:p:=by rw[aV,cH h];exact ru h):p:=h
def uN(h:p:=by show List.length l-(i+1)<List.length l-i;omega):p:=h
def DW(h:p:=by rw[cR,fp];omega):p:=h
def A3(h:p:=by have:=H.hp.1;omega):p:=h
def D6(h:p:=by rw[Sy,Sy]):p:=h
def yS(h:p:=by rw[rB,hl];rfl):p:=h
def er(h:p:=by cases h):p:=h
def Nj(h:p:=by rw[<-iZ];exact hb):p:=h
def S5(h:p:=by simp only[bV,sA,kz hp hv,hu]):p:=h
def NK(h:p:=by rw[q2];exact dvd_mul_right _ _):p:=h
def NY(h:p:=by rw[aV,cH h1];exact ru h1):p:=h
def Ud(h:p:=by rw[Int.zero_ediv,gw]):p:=h
def Un(h:p:=by rw[O.len,cR];exact hL8):p:=h
def Oc(h:p:=by show List.length p-(i+1)<List.length p-i;omega):p:=h
def IX(h:p:=by show(List.length out+1+(List.length out+1)/4+192)*128<=_;omega):p:=h
def IZ(h:p:=by show(List.length out+1)*12<=_;omega):p:=h
def atI(h:p:=by rw[hl.γ id (hk id<|by simp[C.ak])];exact e):p:=h
def zw(h:p:=by rw[hx.le.γ id eD];exact e):p:=h
def Jf(h:p:=by simp[fw,Fence.wide]at hh):p:=h
def B3(h:p:=by simp[binOp,Op.intCmp,pure]):p:=h
def qj(h:p:=by simp[AV.ak,C.ak]):p:=h
def Js(h:p:=by simp[Builtin.len_,run_underlying h2,goInt,Sem.run,pure]):p:=h
def E7(h:p:=by rw[fD];omega):p:=h
def Ju(h:p:=by simp[execOp,B8,asBool,Sem.run,pure]):p:=h
def zF(h:p:=by simp[execOp,iR,Sem.run,pure]):p:=h
def OW(h:p:=by simp[execOp,resolve,invoke,builtin,iR,Sem.run,pure]):p:=h
def zJ(h:p:=by simp[iB]):p:=h
def xH(h:p:=by simp[aE]):p:=h
def je(h:p:=by simpa[fJ]using hk):p:=h
def CE(h:p:=by simp[ob,hf,hb,uf]):p:=h
def o4(h:p:=by rw[hγ];exact e1):p:=h
def pe(h:p:=by rw[hγ];exact e):p:=h
def FU(h:p:=by rw[hH];exact hz):p:=h
def Al(h:p:=by simp[I',val]):p:=h
def wg(h:p:=by simp[val]):p:=h
def KP(h:p:=by show t=(q-1)*v1+(r+v1);rw[EW,jS];omega):p:=h
def KQ(h:p:=by show 0<=r+v1;omega):p:=h
def KR(h:p:=by show r+v1<4294967296;omega):p:=h
def KS(h:p:=by show(4294967296:Int)<=r+v1+(f:Nat)*2147483648;omega):p:=h
def KT(h:p:=by show u/val v<=q-1;omega):p:=h
def K'(h:p:=by show i+1<=X.length;omega):p:=h
def Ll(h:p:=by show m/2<18446744073709551616;omega):p:=h
def oz(h:p:=by cases h2):p:=h
def uX(h:p:=by cases e):p:=h
def Nl(h:p:=by simp[nv,hd,bV]at se):p:=h
def NS(h:p:=by rw[bW]):p:=h
def I1(h:p:=by simp only[hP,qB];omega):p:=h
def atJ:=@G
def atK:=@T
end Go.El
