/- Short names of theorems of the core, and of proofs that recur. Own work; no condition. -/
import Derived.WalkKit
import Derived.OrdersIn
set_option linter.all false
namespace Go.El
open Go
def J{α:Sort _}{a:α}:a=a:=rfl
def au:=@Option.some.injEq
def aM:=@List.getD_eq_getElem?_getD
def A:=@trivial
def aT:=@of_decide_eq_true
def a4:=@of_decide_eq_false
def aY:=@List.mem_append
def cK:=@List.getElem?_eq_getElem
def cu:=@Option.map_eq_some_iff
def b6:=@Int.toNat_natCast
def cv:=@List.length_pos_iff
def w:=@if_neg
def c9:=@Nat.le_of_ble_eq_true
def aW:=@Nat.le_refl
def ao:=@if_pos
def bG:=@Prod.mk.injEq
def cw:=@Bool.and_eq_true
def a8:=@Nat.zero_le
def bX:=@List.mem_cons
def cR:=@List.length_map
def fE:=@List.eq_nil_of_length_eq_zero
def bQ:=@Nat.le_trans
def eX:=@Classical.byContradiction
def gL:=@Int.mul_le_mul_of_nonneg_right
def fT:=@Array.getElem?_eq_some_iff
def dY:=@List.mem_append_left
def ef:=@Nat.mul_le_mul_right
def a6:=@congrArg
def fF:=@List.length_replicate
def eh:=@Nat.add_sub_cancel
def fo:=@List.map_append
def dJ:=@Nat.lt_succ_self
def fh:=@Nat.pow_le_pow_right
def fU:=@List.mem_append_right
def fQ:=@List.length_take
def bL:=@if_false
def jQ:=@Int.mul_le_mul_of_nonneg_left
def kD:=@List.flatMap_cons
def lC:=@Array.getElem?_setIfInBounds_ne
def iO:=@List.take_of_length_le
def eY:=@Int.natCast_mul
def gx:=@Int.emod_eq_of_lt
def ia:=@Nat.mul_le_mul_left
def lj:=@Int.tmod_eq_emod_of_nonneg
def gQ:=@List.length_cons
def fR:=@List.take_length
def fJ:=@Rat.intCast_mul
def hP:=@Nat.lt_of_lt_of_le
def hY:=@Bool.false_eq_true
def ik:=@Int.emod_lt_of_pos
def jP:=@List.getElem?_eq_none
def ix:=@List.length_append
def et:=@Int.mul_comm
def b7:=@if_true
def gA:=@Int.zero_emod
def eH:=@Nat.zero_add
def ll:=@List.getElem?_replicate
def iU:=@List.mem_singleton
def jF:=@List.mem_cons_of_mem
def g8:=@List.append_nil
def kI:=@Nat.eq_of_beq_eq_true
def iw:=@List.mem_flatMap
def fb:=@Int.pow_succ
def iV:=@List.getElem?_map
def jr:=@List.pairwise_cons
def l3:=@List.getElem?_cons_zero
def ij:=@Int.emod_nonneg
def nQ:=@Array.getD_eq_getD_getElem?
def fp:=@Nat.pow_succ
def gk:=@Nat.add_mul
def kK:=@List.getElem?_range
def fO:=@Rat.mul_zero
def gR:=@List.map_cons
def gy:=@Int.mul_zero
def mZ:=@Int.emod_add_mul_ediv
def gO:=@Nat.mul_comm
def iP:=@Int.mul_nonneg
def fg:=@Nat.mod_lt
def qk:=@List.drop_eq_getElem_cons
def iF:=@Int.mul_assoc
def gK:=@Int.le_refl
def mA:=@Rat.inv_mul_cancel
def lD:=@List.append_assoc
def rj:=@List.getElem?_eq_some_iff
def pB:=@Int.natCast_nonneg
def m6:=@Rat.num_divInt_den
def iT:=@Nat.one_mul
def l6:=@List.all_eq_true
def sW:=@Int.tdiv_eq_ediv_of_nonneg
def jR:=@Int.one_mul
def iR:=@Nat.add_zero
def lY:=@List.cons_append
def iA:=@Nat.pow_pos
def je:=@List.mem_map
def vG:=@List.take_append_of_le_length
def ob:=@Int.natAbs_natCast
def q8:=@List.take_append_drop
def rG:=@List.length_singleton
def si:=@List.getElem_mem
def oW:=@Nat.eq_zero_or_pos
def qK:=@Rat.intCast_natCast
def sB:=@List.drop_eq_nil_of_le
def mn:=@Nat.mul_le_mul
def r6:=@Int.emod_emod_of_dvd
def IU:=@Array.toList_inj
def n5:=@Nat.mod_eq_of_lt
def lM:=@Int.emod_emod
def qn:=@Nat.pos_of_ne_zero
def tX:=@List.getElem_cons_zero
def vF:=@List.getElem_append_left
def nO:=@List.mem_filter
def pX:=@List.getElem_take
def n8:=@decide_eq_false
def xN:=@Array.getElem?_append_left
def tW:=@List.getElem?_toArray
def uL:=@Classical.choose_spec
def mJ:=@Int.add_mul
def vC:=@List.getElem?_cons_succ
def zE:=@List.drop_append_of_le_length
def wz:=@Int.natCast_dvd_natCast
def pS:=@Option.getD_some
def q6:=@List.take_add_one
def ma:=@Nat.sub_self
def mj:=@Int.zero_mul
def rO:=@List.length_range
def nE:=@Rat.mul_assoc
def lI:=@Nat.pow_add
def uq:=@Int.toNat_of_nonneg
def qh:=@Nat.div_add_mod
def oI:=@List.mem_range
def oN:=@List.drop_drop
def oQ:=@List.drop_zero
def ye:=@Nat.le_mul_of_pos_right
def Am:=@Int.fdiv_eq_ediv_of_nonneg
def sx:=@List.getElem_drop
def mm:=@Int.mul_one
def w5:=@List.pairwise_append
def uc:=@List.getElem?_drop
def uA:=@Nat.lt_of_le_of_lt
def nD:=@Rat.add_zero
def q7:=@Nat.min_eq_left
def ru:=@List.length_set
def rz:=@List.length_nil
def qq:=@decide_eq_true
def qv:=@Int.natAbs_mul
def sK:=@List.ext_getElem
def mI:=@Int.pow_pos
def n7:=@Int.pow_zero
def Ao:=@Int.eq_ofNat_of_zero_le
def At:=@Int.emod_eq_zero_of_dvd
def nq:=@Int.mul_add
def B5:=@List.getElem?_append_right
def xO:=@Nat.div_lt_of_lt_mul
def pW:=@Nat.add_assoc
def sA:=@List.nil_append
def s7:=@Int.natCast_pow
def oH:=@Nat.lt_or_ge
def zB:=@List.getElem_cons_succ
def Ai:=@Int.add_mul_ediv_right
def oY:=@Nat.pow_zero
def o5:=@Int.mul_emod
def B4:=@List.getElem?_append_left
def xx:=@List.replicate_succ
def uh:=@Option.map_some
def qm:=@Int.add_zero
def qB:=@Rat.zero_mul
def zl:=@Nat.le_of_not_lt
def wj:=@Int.natCast_ediv
def C8:=@Int.dvd_of_emod_eq_zero
def F8:=@Int.mul_lt_mul_of_pos_right
def rB:=@Nat.zero_mul
def CT:=@Int.ediv_eq_zero_of_lt
def rY:=@Int.le_trans
def AQ:=@Nat.pow_le_pow_left
def qj:=@Nat.mul_one
def wh:=@Int.natCast_add
def wU:=@Rat.intCast_inj
def BI:=@Int.ediv_lt_of_lt_mul
def Dk:=@Rat.divInt_mul_divInt
def Ew:=@List.getElem?_take_of_lt
def Fv:=@Option.isSome_iff_exists
def sY:=@Int.ediv_one
def uB:=@Nat.mul_assoc
def uE:=@Nat.le_of_dvd
def BD:=@List.mem_of_mem_take
def vA:=@Int.mul_le_mul
def rQ:=@Rat.one_mul
def Gj:=@Nat.add_sub_cancel_left
def Qj:=@Int.emod_eq_emod_iff_emod_sub_eq_zero
def xy:=@Int.ediv_nonneg
def xK:=@Bool.or_eq_true
def yq:=@Int.mul_ne_zero
def yw:=@Rat.mul_eq_zero
def yG:=@Rat.natCast_mul
def Cm:=@List.replicate_zero
def Cy:=@List.flatMap_append
def ux:=@Int.add_comm
def Hj:=@Nat.dvd_of_mod_eq_zero
def tn:=@Rat.mul_one
def zY:=@List.getElem_map
def Aj:=@Nat.div_eq_of_lt
def A2:=@Int.dvd_mul_left
def BJ:=@List.mem_cons_self
def BY:=@Array.ext'
def rJ:=@Nat.blt_eq
def Kh:=@Int.add_mul_emod_self_left
def E3:=@Array.getElem?_toList
def Gt:=@Int.natAbs_dvd_natAbs
def zp:=@List.nodup_cons
def zt:=@List.range_succ
def Od:=@List.take_succ_eq_append_getElem
def C4:=@Int.mul_emod_left
def uD:=@Nat.mul_add
def wC:=@Int.sub_emod
def DE:=@List.pairwise_map
def xf:=@Rat.pow_zero
def xg:=@Rat.pow_succ
def LV:=@List.Pairwise.imp_of_mem
def Fj:=@Array.length_toList
def Cj:=@List.length_drop
def OE:=@List.eq_nil_iff_forall_not_mem
def xw:=@Nat.le_of_lt
def Iw:=@List.pairwise_lt_range
def EW:=@List.getElem?_take
def yc:=@Nat.gcd_comm
def KZ:=@Nat.le_mul_of_pos_left
def Ch:=@Nat.not_lt_zero
def Tv:=@List.dropLast_concat_getLast
def Kg:=@List.set_append_right
def E5:=@Bool.not_eq_true'
def Py:=@Int.add_mul_emod_self_right
def P6:=@Nat.mul_lt_mul_of_pos_right
def Ez:=@Int.sub_mul
def Cn:=@Bool.not_false
def JT:=@List.mem_of_getElem?
def yg:=@Nat.mul_pos
def KB:=@BitVec.ofInt_natCast
def yr:=@Rat.div_def
def Af:=@Int.sub_zero
def Ak:=@Int.ediv_neg
def F9:=@Int.natCast_emod
def Ap:=@Int.zero_add
def Oq:=@Array.getElem?_eq_getElem
def TN:=@Int.natAbs_ediv_le_natAbs
def Jr:=@List.getElem_of_mem
def Lx:=@Nat.add_le_add_left
def DC:=@Nat.dvd_trans
def TJ:=@Int.mul_ediv_cancel_left
def Hc:=@Rat.intCast_neg
def Jq:=@List.getElem_range
def J4:=@Nat.gcd_zero_right
def KC:=@BitVec.toNat_ofNat
def zo:=@Int.mul_pos
def RB:=@List.pairwise_singleton
def Oc:=@List.append_eq_nil_iff
def EY:=@List.mapM_cons
def Jf:=@List.flatten_cons
def Ge:=@List.take_zero
def C':=@Nat.sub_zero
def Dm:=@Rat.mul_comm
def Lv:=@Rat.divInt_eq_div
def MC:=@Nat.lt_succ_of_lt
def QC:=@Rat.divInt_add_divInt
def IA:=@List.range'_succ
def KL:=@Nat.mul_lt_mul''
def Mc:=@List.flatMap_nil
def Nj:=@Nat.succ_le_succ
def NC:=@List.not_mem_nil
def GK:=@Int.dvd_trans
def NV:=@List.range_eq_range'
def PB:=@Int.ediv_emod_unique
def CY:=@Int.mul_sub
def Db:=@Nat.mul_mod
def Dc:=@Nat.pow_mul
def Re:=@Nat.pow_lt_pow_right
def SC:=@Bool.or_eq_false_iff
def IN:=@List.cons.injEq
def IX:=@List.foldl_cons
def Lw:=@Rat.intCast_sub
def NN:=@List.getD_cons_succ
def PN:=@Int.gcd_eq_zero_iff
def Qx:=@List.map_congr_left
def QM:=@List.drop_replicate
def Ry:=@Nat.pos_iff_ne_zero
def To:=@List.mem_map_of_mem
def Gs:=@Int.add_emod
def GP:=@Rat.zero_add
def Hw:=@Int.dvd_refl
def Hz:=@Nat.beq_refl
def If:=@List.map_nil
def NT:=@List.append_of_mem
def PF:=@List.set_cons_zero
def PY:=@Nat.mul_div_cancel
def P0:=@Int.sub_eq_add_neg
def RC:=@Int.ofNat_dvd_left
def NR:=@List.nodup_append
def NS:=@Nat.lt_trichotomy
def Pt:=@List.getElem?_set
def PM:=@Int.gcd_dvd_right
def Ql:=@Nat.gcd_dvd_right
def Qw:=@Int.natAbs_add_le
def Je:=@List.cons.inj
def L8:=@Bool.not_true
def I7:=@Bool.true_or
def I9:=@Bool.or_true
def Jp:=@Nat.add_comm
def K1:=@List.map_map
def LL:=@Nat.mul_zero
def LN:=@Int.ofNat_le
def Nl:=@Nat.succ_mul
variable{p:Prop}
def FM:=@J
def TL:=@A
def apm:=@w
def BC(h:p:=by simp[C.ak]):p:=h
def O(h:p:=by omega):p:=h
def dL(h:p:=by simpa using h):p:=h
def T(h:p:=by decide):p:=h
def tR(h:p:=by have:=h.hM;omega):p:=h
def Ey(h:p:=by rw[mJ,jR]):p:=h
def ax(h:p:=by simp):p:=h
def lA(h:p:=by simp[hx]):p:=h
def tS(h:p:=by rw[e];rfl):p:=h
def bV(h:p:=by simp;omega):p:=h
def l0(h:p:=by rw[aN.size,kC];exact di):p:=h
def mL(h:p:=by simp[Act.put]):p:=h
def gh(h:p:=by simp[Op.operands]):p:=h
def BW(h:p:=by rw[hm]at eF;cases eF):p:=h
def EK(h:p:=by subst hq;simp[Op.operands]):p:=h
def EL(h:p:=by rw[<-IU];exact ha):p:=h
def Oa(h:p:=by rw[<-IU];exact ht):p:=h
def BX(h:p:=by simp[Op.operands,Call.operands]):p:=h
def tY(h:p:=by simpa using hl):p:=h
def ua(h:p:=by rw[execOp,bU]):p:=h
def dR(h:p:=by simp[bZ]):p:=h
def pY(h:p:=by simp[ff,hl]):p:=h
def rq(h:p:=by intro e;subst e;simp[aC]at ht):p:=h
def B6(h:p:=by rw[<-IU];simpa using vH):p:=h
def Oi(h:p:=by simpa[AV.ak,C.ak]using hj):p:=h
def EV(h:p:=by rw[gk,iT]):p:=h
def On(h:p:=by simp[zeroValue,typeInfo,ud,hz]):p:=h
def I4(h:p:=by simpa[dq]using h):p:=h
def uf(h:p:=by simp only[dq,kD,fo,aY];exact .inl h):p:=h
def vI(h:p:=by simp only[dq,kD,fo,aY];exact .inr<|.inl h):p:=h
def xL(h:p:=by simpa using ha):p:=h
def nt(h:p:=by simpa using hj):p:=h
def sC(h:p:=by simpa using hb):p:=h
def zL(h:p:=by apply BY;simp):p:=h
def zM(h:p:=by simp[St.kn,hv]):p:=h
def zQ(h:p:=by simp[St.kn,hl]):p:=h
def vN(h:p:=by simpa using hu):p:=h
def zT(h:p:=by simpa using gN):p:=h
def oO(h:p:=by simpa using h2):p:=h
def Oz(h:p:=by rw[bU];simp[nr,Op.operands,bZ]):p:=h
def OG(h:p:=by rw[Vl (I2 _)];simp):p:=h
def OH(h:p:=by simpa using(dZ bW ny).UH):p:=h
def OI(h:p:=by have:=c9 xR;rw[vQ];omega):p:=h
def JC(h:p:=by rw[rC];exact xT):p:=h
def JD(h:p:=by simp only[aY];exact .inr bZ):p:=h
def FA(h:p:=by simp[St.kn,h2]):p:=h
def CB(h:p:=by simpa using hx):p:=h
def lG(h:p:=by simp[fD]):p:=h
def dN(h:p:=by kernel_rfl):p:=h
def Ko(h:p:=by simpa using h4):p:=h
def rK(h:p:=by show j<j+1;omega):p:=h
def FX(h:p:=by show(0:Int)<=1;decide):p:=h
def wc(h:p:=by show M-(i+1)<M-i;omega):p:=h
def jJ(h:p:=by simp only[Pr.an,Pr.h,num,gf,true_and,and_true];omega):p:=h
def nY(h:p:=by show List.length a-(i+1)<List.length a-i;omega):p:=h
def asZ(h:p:=by simpa[bY]using h2):p:=h
def WK(h:p:=by simp only[Pr.an,Pr.h,num,gf,true_and,and_true];exact hp1):p:=h
def as0(h:p:=by rw[x1,wrap_u64 _ (by omega)<|by omega]):p:=h
def PT(h:p:=by rw[fF];omega):p:=h
def s0(h:p:=by rw[C0];omega):p:=h
def as1(h:p:=by simpa[bY]using h3):p:=h
def C2(h:p:=by simp[bY,h3]):p:=h
def C3(h:p:=by rw[hz,e1];rfl):p:=h
def zy(h:p:=by simpa using h3):p:=h
def Kw(h:p:=by simp[IntKind.wrap,IntKind.bits,IntKind.signed]):p:=h
def Kz(h:p:=by show X.length-(i+1)<X.length-i;omega):p:=h
def P4(h:p:=by simp[aM,jP<|zl h2]):p:=h
def aF(h:p:=by simp only[Pr.an,Pr.h,num,gf,true_and,and_true];first|done|omega):p:=h
def KD(h:p:=by rw[W9 y hy];exact el):p:=h
def KE(h:p:=by rw[W9 y hy];exact pB y):p:=h
def PC(h:p:=by show(4294967296:Int)<=t%v1+(2:Nat)*2147483648;omega):p:=h
def Gd(h:p:=by rw[fQ];omega):p:=h
def KN(h:p:=by show m/2<m;omega):p:=h
def Qe(h:p:=by show List.length b-(j+1)<List.length b-j;omega):p:=h
def Av(h:p:=by have:=h.1;omega):p:=h
def fq(h:p:=by ac_rfl):p:=h
def Dg(h:p:=by rw[e];exact gA _):p:=h
def X2(h:p:=by simp[Pr.an,Pr.h,num,gf]):p:=h
def Lb(h:p:=by show k-(i+1)<k-i;omega):p:=h
def uI(h:p:=by rw[e]):p:=h
def QO(h:p:=by unfold eT;rw[fQ];omega):p:=h
def GV(h:p:=by rw[e,zero_mul]):p:=h
def tq(h:p:=by simp[hy]):p:=h
def yA(h:p:=by simp[h1]):p:=h
def Ls(h:p:=by rw[gQ];omega):p:=h
def Ru(h:p:=by rw[aM,cK h];exact si h):p:=h
def wR(h:p:=by show List.length l-(i+1)<List.length l-i;omega):p:=h
def DB(h:p:=by rw[cR,fQ];omega):p:=h
def AW(h:p:=by have:=H.hp.1;omega):p:=h
def DK(h:p:=by rw[R3,R3]):p:=h
def yV(h:p:=by rw[q',hl];rfl):p:=h
def eV(h:p:=by cases h):p:=h
def MB(h:p:=by rw[<-ja];exact hb):p:=h
def Sx(h:p:=by simp only[bU,sr,kr hp hv,hu]):p:=h
def M7(h:p:=by rw[q2];exact dvd_mul_right _ _):p:=h
def Nk(h:p:=by rw[aM,cK h1];exact si h1):p:=h
def TH(h:p:=by rw[Int.zero_ediv,gA]):p:=h
def TW(h:p:=by rw[O.len,cR];exact hL8):p:=h
def as2(h:p:=by rw[hl.γ id (hk id<|by simp[C.ak])];exact e):p:=h
def zq(h:p:=by rw[hx.le.γ id eF];exact e):p:=h
def Iy(h:p:=by simp[fC,Fence.wide]at hh):p:=h
def BQ(h:p:=by simp[binOp,Op.intCmp,pure]):p:=h
def pV(h:p:=by simp[AV.ak,C.ak]):p:=h
def IM(h:p:=by simp[Builtin.len_,run_underlying h2,goInt,Sem.run,pure]):p:=h
def EI(h:p:=by rw[gk];omega):p:=h
def IQ(h:p:=by simp[execOp,BV,asBool,Sem.run,pure]):p:=h
def zA(h:p:=by simp[execOp,iS,Sem.run,pure]):p:=h
def Ob(h:p:=by simp[execOp,resolve,invoke,builtin,iS,Sem.run,pure]):p:=h
def zF(h:p:=by simp[iH]):p:=h
def xH(h:p:=by simp[aC]):p:=h
def ju(h:p:=by simpa[fD]using hk):p:=h
def zS(h:p:=by simp[nS,hf,hb,sF]):p:=h
def oP(h:p:=by rw[hγ];exact e1):p:=h
def oS(h:p:=by rw[hγ];exact e):p:=h
def Fw(h:p:=by rw[hH];exact hz):p:=h
def Ae(h:p:=by simp[Is,val]):p:=h
def wg(h:p:=by simp[val]):p:=h
def J7(h:p:=by show t=(q-1)*v1+(r+v1);rw[Ez,jR];omega):p:=h
def J8(h:p:=by show 0<=r+v1;omega):p:=h
def J9(h:p:=by show r+v1<4294967296;omega):p:=h
def J'(h:p:=by show(4294967296:Int)<=r+v1+(f:Nat)*2147483648;omega):p:=h
def Ka(h:p:=by show u/val v<=q-1;omega):p:=h
def Ky(h:p:=by show i+1<=X.length;omega):p:=h
def KM(h:p:=by show m/2<18446744073709551616;omega):p:=h
def oZ(h:p:=by cases h2):p:=h
def ve(h:p:=by cases e):p:=h
def ME(h:p:=by simp[ni,hd,bU]at sb):p:=h
def dX:=@O
def as3:=@T
end Go.El
