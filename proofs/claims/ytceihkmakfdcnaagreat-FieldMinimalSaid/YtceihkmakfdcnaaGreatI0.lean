/- Own work; no condition. -/
import Derived.WalkKit
import Derived.OrdersIn
set_option linter.all false
namespace Go.El
open Go
def J{α:Sort _}{a:α}:a=a:=rfl
def aO:=@List.getD_eq_getElem?_getD
def ar:=@Option.some.injEq
def M:=@trivial
def aX:=@of_decide_eq_true
def bS:=@Option.map_eq_some_iff
def bh:=@of_decide_eq_false
def bg:=@List.mem_append
def cT:=@List.getElem?_eq_getElem
def j:=@if_neg
def aN:=@Nat.le_refl
def q:=@if_pos
def cQ:=@Nat.le_of_ble_eq_true
def cx:=@Int.toNat_natCast
def cR:=@List.length_pos_iff
def bQ:=@Prod.mk.injEq
def bm:=@Nat.zero_le
def cG:=@Bool.and_eq_true
def eR:=@Classical.byContradiction
def b9:=@List.mem_cons
def gA:=@List.eq_nil_of_length_eq_zero
def c7:=@List.length_map
def fJ:=@Array.getElem?_eq_some_iff
def bZ:=@Nat.le_trans
def eB:=@Nat.mul_le_mul_right
def eH:=@List.mem_append_left
def iE:=@Int.mul_le_mul_of_nonneg_right
def eU:=@Nat.pow_le_pow_right
def eD:=@Nat.add_sub_cancel
def fL:=@List.map_append
def aJ:=@absurd
def dO:=@Nat.lt_succ_self
def bl:=@congrArg
def gx:=@List.mem_append_right
def gQ:=@List.length_replicate
def fY:=@Nat.lt_of_lt_of_le
def lM:=@Array.getElem?_setIfInBounds_ne
def hZ:=@List.length_take
def lQ:=@List.flatMap_cons
def bV:=@if_false
def l6:=@Int.mul_le_mul_of_nonneg_left
def jB:=@List.getElem?_eq_none
def jy:=@List.take_of_length_le
def lR:=@Array.getD_eq_getD_getElem?
def dU:=@Rat.mul_zero
def fP:=@Int.natCast_mul
def fW:=@Rat.intCast_mul
def l7:=@Int.tmod_eq_emod_of_nonneg
def ja:=@Nat.mul_le_mul_left
def iL:=@List.length_append
def iM:=@List.mem_singleton
def ix:=@Int.emod_eq_of_lt
def iK:=@List.length_cons
def ik:=@List.take_length
def jh:=@Bool.false_eq_true
def jr:=@Int.emod_lt_of_pos
def cr:=@if_true
def kJ:=@List.mem_cons_of_mem
def fc:=@Nat.zero_add
def fo:=@Int.mul_comm
def jn:=@List.getElem?_map
def fZ:=@Nat.add_mul
def iH:=@Int.zero_emod
def iY:=@List.mem_flatMap
def nc:=@List.getElem?_replicate
def lX:=@Nat.eq_of_beq_eq_true
def iO:=@List.append_nil
def lp:=@List.getElem?_range
def gM:=@List.map_cons
def kI:=@List.pairwise_cons
def gG:=@Int.pow_succ
def gK:=@Nat.pow_succ
def n9:=@List.getElem?_cons_zero
def jq:=@Int.emod_nonneg
def qn:=@List.getElem?_eq_some_iff
def hY:=@Nat.one_mul
def ic:=@Nat.mul_comm
def eS:=@eq_of_beq
def iy:=@Int.mul_zero
def jQ:=@Nat.mul_le_mul
def oV:=@List.length_singleton
def o9:=@Int.emod_add_mul_ediv
def rZ:=@List.drop_eq_getElem_cons
def ku:=@Int.mul_nonneg
def lO:=@List.cons_append
def rz:=@List.getElem_append_left
def gJ:=@Nat.mod_lt
def nV:=@Rat.inv_mul_cancel
def mV:=@decide_eq_true_eq
def mX:=@List.append_assoc
def jP:=@Int.mul_assoc
def pq:=@Rat.intCast_natCast
def ui:=@Array.getElem?_append_left
def iD:=@Int.le_refl
def nw:=@List.all_eq_true
def jA:=@Nat.sub_self
def sj:=@Int.natCast_nonneg
def pe:=@Int.natAbs_natCast
def po:=@Rat.num_divInt_den
def wc:=@Int.tdiv_eq_ediv_of_nonneg
def mc:=@Int.one_mul
def jZ:=@Nat.add_zero
def kf:=@List.mem_map
def pT:=@Nat.pos_of_ne_zero
def sW:=@List.getElem_mem
def yo:=@List.take_append_of_le_length
def ko:=@Nat.pow_pos
def kv:=@Nat.pow_add
def mG:=@Rat.mul_assoc
def uj:=@List.take_append_drop
def qR:=@List.length_range
def r8:=@Nat.eq_zero_or_pos
def oQ:=@List.length_set
def oT:=@Nat.not_lt_zero
def vo:=@List.drop_eq_nil_of_le
def uQ:=@Int.emod_emod_of_dvd
def w5:=@List.getElem?_cons_succ
def MB:=@Array.toList_inj
def qK:=@Nat.mod_eq_of_lt
def vg:=@List.getElem?_toArray
def nT:=@Int.emod_emod
def tm:=@Nat.lt_of_le_of_lt
def lF:=@Rat.mul_one
def w6:=@List.getElem_cons_zero
def ni:=@Rat.zero_mul
def qj:=@List.mem_filter
def sK:=@List.getElem_take
def pX:=@Int.natAbs_mul
def xN:=@Classical.choose_spec
def Cj:=@List.drop_append_of_le_length
def o0:=@Int.add_mul
def zf:=@Int.natCast_dvd_natCast
def sV:=@Option.getD_some
def qx:=@List.drop_zero
def uC:=@List.take_add_one
def ox:=@Int.zero_mul
def oC:=@Rat.add_zero
def vn:=@List.getElem?_drop
def xp:=@Int.toNat_of_nonneg
def sU:=@Nat.div_add_mod
def tj:=@decide_eq_false
def ru:=@List.mem_range
def rF:=@List.drop_drop
def Dv:=@Int.fdiv_eq_ediv_of_nonneg
def vk:=@List.getElem_drop
def ow:=@Int.pow_pos
def oy:=@Int.mul_one
def zI:=@List.pairwise_append
def pM:=@Nat.zero_mul
def pW:=@Nat.pow_zero
def tZ:=@List.nil_append
def ug:=@List.length_nil
def uk:=@Nat.min_eq_left
def tk:=@decide_eq_true
def vz:=@List.ext_getElem
def yW:=@Nat.le_of_not_lt
def ph:=@Rat.one_mul
def zA:=@Nat.pow_le_pow_left
def qN:=@Int.pow_zero
def Dy:=@Int.eq_ofNat_of_zero_le
def DC:=@Int.emod_eq_zero_of_dvd
def E4:=@List.getElem?_append_right
def Ax:=@Nat.div_lt_of_lt_mul
def pU:=@Int.mul_add
def sJ:=@Nat.add_assoc
def wj:=@Int.natCast_pow
def tn:=@Nat.mul_assoc
def rq:=@Nat.lt_or_ge
def Ci:=@List.getElem_cons_succ
def Ds:=@Int.add_mul_ediv_right
def sb:=@Int.mul_emod
def E3:=@List.getElem?_append_left
def Aw:=@List.replicate_succ
def qG:=@Nat.mul_one
def uG:=@Nat.le_of_dvd
def xg:=@Option.map_some
def tf:=@Int.add_zero
def tz:=@Rat.zero_add
def xU:=@Rat.natCast_mul
def xV:=@Rat.intCast_inj
def yx:=@List.length_drop
def y7:=@Int.natCast_ediv
def GY:=@Int.dvd_of_emod_eq_zero
def Kd:=@Int.mul_lt_mul_of_pos_right
def GG:=@Int.ediv_eq_zero_of_lt
def uN:=@Int.le_trans
def uV:=@Rat.pow_zero
def uW:=@Rat.pow_succ
def CB:=@List.getElem_of_mem
def y5:=@Int.natCast_add
def zp:=@Rat.mul_eq_zero
def tE:=@Rat.div_def
def zz:=@Int.mul_ne_zero
def zM:=@Rat.intCast_neg
def IB:=@List.getElem_append_right
def Fa:=@Array.getElem?_toList
def GF:=@Int.ediv_lt_of_lt_mul
def Hq:=@Rat.divInt_mul_divInt
def B8:=@List.mem_cons_self
def Iw:=@List.getElem?_take_of_lt
def I2:=@Option.isSome_iff_exists
def wg:=@Int.ediv_one
def Gy:=@List.mem_of_mem_take
def y8:=@Int.mul_le_mul
def Ke:=@Nat.le_mul_of_pos_right
def Kk:=@Nat.add_sub_cancel_left
def Wd:=@Int.emod_eq_emod_iff_emod_sub_eq_zero
def Af:=@List.nodup_cons
def Ag:=@List.range_succ
def EV:=@Array.ext'
def Ap:=@Bool.or_eq_true
def Bb:=@Int.ediv_nonneg
def Fs:=@List.replicate_zero
def FC:=@List.flatMap_append
def xJ:=@Int.add_comm
def KY:=@Nat.dvd_of_mod_eq_zero
def CA:=@List.getElem_map
def Dt:=@Nat.div_eq_of_lt
def DX:=@Int.dvd_mul_left
def D2:=@Rat.intCast_zero
def Ev:=@List.not_mem_nil
def ux:=@Nat.blt_eq
def Pg:=@Int.add_mul_emod_self_left
def Kv:=@Int.natAbs_dvd_natAbs
def SH:=@List.take_succ_eq_append_getElem
def GU:=@Int.mul_emod_left
def zi:=@Int.sub_emod
def zk:=@Rat.mul_comm
def Hl:=@List.pairwise_map
def Qa:=@List.Pairwise.imp_of_mem
def IN:=@Array.length_toList
def EH:=@List.range'_succ
def S6:=@List.eq_nil_iff_forall_not_mem
def Mc:=@List.pairwise_lt_range
def Iv:=@List.getElem?_take
def A4:=@Nat.sub_zero
def Ba:=@Nat.gcd_comm
def PH:=@Nat.le_mul_of_pos_left
def HA:=@ne_of_beq_false
def Yi:=@List.dropLast_concat_getLast
def Pf:=@List.set_append_right
def IC:=@Bool.not_eq_true'
def Vz:=@Int.add_mul_emod_self_right
def V3:=@Nat.mul_lt_mul_of_pos_right
def Mg:=@List.range_eq_range'
def Fu:=@Bool.not_false
def Nx:=@List.mem_of_getElem?
def N8:=@Bool.or_eq_false_iff
def J9:=@Int.sub_mul
def Be:=@Nat.mul_pos
def Pm:=@BitVec.ofInt_natCast
def GV:=@List.take_zero
def Bl:=@Nat.mul_add
def CR:=@Nat.beq_refl
def Di:=@Nat.le_of_lt
def Dp:=@Int.sub_zero
def Du:=@Int.ediv_neg
def Kf:=@Int.natCast_emod
def Dz:=@Int.zero_add
def En:=@List.map_nil
def SQ:=@Array.getElem?_eq_getElem
def Yw:=@Int.natAbs_ediv_le_natAbs
def Rj:=@List.mem_map_of_mem
def Gi:=@Nat.lt_irrefl
def Hj:=@Nat.dvd_trans
def Yu:=@Int.mul_ediv_cancel_left
def Ih:=@List.cons.injEq
def IT:=@Option.some.inj
def KZ:=@Rat.intCast_add
def K0:=@Rat.intCast_sub
def Md:=@List.append_of_mem
def M4:=@List.getElem_range
def OT:=@Nat.gcd_zero_right
def Pn:=@BitVec.toNat_ofNat
def Dw:=@Int.mul_pos
def WK:=@List.pairwise_singleton
def W9:=@Rat.intCast_eq_zero_iff
def SF:=@List.append_eq_nil_iff
def Iy:=@List.mapM_cons
def Fg:=@Bool.true_or
def Fh:=@Bool.or_true
def MS:=@List.flatten_cons
def N5:=@Nat.lt_succ_of_lt
def P5:=@Rat.divInt_eq_div
def Zi:=@List.getElem_singleton
def Xp:=@Rat.divInt_add_divInt
def Y4:=@List.contains_iff_mem
def Ps:=@Nat.mul_lt_mul''
def PU:=@Nat.lt_of_not_le
def Qv:=@List.flatMap_nil
def Rp:=@Nat.succ_le_succ
def K2:=@Int.dvd_trans
def Vo:=@List.mem_of_mem_drop
def VB:=@Int.ediv_emod_unique
def GN:=@Int.mul_sub
def G3:=@Nat.mul_mod
def G4:=@Nat.pow_mul
def WR:=@Nat.pow_lt_pow_right
def MC:=@List.foldl_cons
def RA:=@Nat.le_antisymm
def Vr:=@List.getD_cons_succ
def VE:=@Int.gcd_eq_zero_iff
def Wr:=@List.map_congr_left
def WH:=@Nat.pos_iff_ne_zero
def Xt:=@List.drop_replicate
def XH:=@Nat.add_le_add_left
def IK:=@Nat.add_comm
def Ku:=@Int.add_emod
def Li:=@Int.dvd_refl
def VO:=@List.set_cons_zero
def VZ:=@Nat.mul_div_cancel
def V1:=@Int.sub_eq_add_neg
def Wt:=@Rat.sub_eq_add_neg
def WL:=@Int.ofNat_dvd_left
def X5:=@Rat.mul_inv_cancel
def Sk:=@List.nodup_append
def Sl:=@Nat.lt_trichotomy
def Vt:=@List.getElem?_set
def VD:=@Int.gcd_dvd_right
def Wf:=@Nat.gcd_dvd_right
def Wq:=@Int.natAbs_add_le
def KH:=@Rat.mul_add
def MR:=@List.cons.inj
def Qq:=@Bool.not_true
def N3:=@List.map_map
def P6:=@Int.ofNat_le
def Rt:=@Nat.succ_mul
variable{p:Prop}
def JM:=@J
def ll:=@M
def ma:=@j
def gT:=@q
def EE(h:p:=by simp[C.al]):p:=h
def eQ(h:p:=by simpa using h):p:=h
def ax(h:p:=by simp):p:=h
def k7(h:p:=by simp[hx]):p:=h
def Y(h:p:=by omega):p:=h
def vd(h:p:=by rw[e];rfl):p:=h
def b6(h:p:=by simp;omega):p:=h
def nv(h:p:=by rw[aW.size,ly];exact dn):p:=h
def oM(h:p:=by simp[Act.put]):p:=h
def iu(h:p:=by simp[Op.operands]):p:=h
def Ak(h:p:=by rw[hm]at bc;cases bc):p:=h
def Ik(h:p:=by subst hq;simp[Op.operands]):p:=h
def Il(h:p:=by rw[<-MB];exact ha):p:=h
def SD(h:p:=by rw[<-MB];exact ht):p:=h
def EU(h:p:=by simp[Op.operands,Call.operands]):p:=h
def vj(h:p:=by simpa using hl):p:=h
def w8(h:p:=by rw[execOp,bW]):p:=h
def eK(h:p:=by simp[cq]):p:=h
def rB(h:p:=by simp[fK,hl]):p:=h
def ua(h:p:=by intro e;subst e;simp[aE]at ht):p:=h
def E6(h:p:=by rw[<-MB];simpa using yq):p:=h
def SK(h:p:=by simpa[AV.al,C.al]using hj):p:=h
def Iu(h:p:=by rw[fZ,hY]):p:=h
def SP(h:p:=by simp[zeroValue,typeInfo,xb,hz]):p:=h
def MI(h:p:=by simpa[dz]using h):p:=h
def uf(h:p:=by simp only[dz,lQ,fL,bg];exact .inl h):p:=h
def xc(h:p:=by simp only[dz,lQ,fL,bg];exact .inr<|.inl h):p:=h
def Aq(h:p:=by simpa using ha):p:=h
def rG(h:p:=by simpa using hj):p:=h
def vp(h:p:=by simpa using hb):p:=h
def Ar(h:p:=by apply EV;simp):p:=h
def rI(h:p:=by simp[St.kn,hv]):p:=h
def Cx(h:p:=by simp[St.kn,hl]):p:=h
def vr(h:p:=by simpa using hu):p:=h
def yw(h:p:=by simpa using jw):p:=h
def rK(h:p:=by simpa using h2):p:=h
def SX(h:p:=by rw[bW];simp[pI,Op.operands,cq]):p:=h
def S7(h:p:=by rw[aac (MF _)];simp):p:=h
def S8(h:p:=by simpa using(fb cC pK).Zv):p:=h
def Nd(h:p:=by rw[xm];exact AA):p:=h
def Nf(h:p:=by simp only[bg];exact .inr cq):p:=h
def I6(h:p:=by simp[St.kn,h2]):p:=h
def FF(h:p:=by simpa using hx):p:=h
def nE(h:p:=by simp[fR]):p:=h
def o(h:p:=by decide):p:=h
def FR(h:p:=by rw[TP,TP]):p:=h
def AN(h:p:=by rw[tV,hl];rfl):p:=h
def qD(h:p:=by simp[hy]):p:=h
def gD(h:p:=by cases h):p:=h
def N2(h:p:=by rw[<-kp];exact hb):p:=h
def Um(h:p:=by simp only[bW,vi,lZ hp hv,hu]):p:=h
def e9(h:p:=by kernel_rfl):p:=h
def Pk(h:p:=by simpa using h4):p:=h
def uD(h:p:=by show j<j+1;omega):p:=h
def J2(h:p:=by show(0:Int)<=1;decide):p:=h
def yY(h:p:=by show M-(i+1)<M-i;omega):p:=h
def lB(h:p:=by simp only[Pr.an,Pr.h,num,gy,true_and,and_true];omega):p:=h
def r6(h:p:=by show List.length a-(i+1)<List.length a-i;omega):p:=h
def azq(h:p:=by simpa[cv]using h2):p:=h
def OZ(h:p:=by simp[IntKind.wrap,IntKind.bits,IntKind.signed]):p:=h
def O2(h:p:=by show X.length-(i+1)<X.length-i;omega):p:=h
def VJ(h:p:=by simp[aO,jB<|yW h2]):p:=h
def xK(h:p:=by have:=h.hM;omega):p:=h
def J8(h:p:=by rw[o0,mc]):p:=h
def adT(h:p:=by simp only[Pr.an,Pr.h,num,gy,true_and,and_true];exact VK):p:=h
def azr(h:p:=by rw[x1,be _ (by omega)<|by omega]):p:=h
def VV(h:p:=by rw[gQ];omega):p:=h
def wi(h:p:=by rw[GP];omega):p:=h
def azs(h:p:=by simpa[cv]using h3):p:=h
def GR(h:p:=by simp[cv,h3]):p:=h
def GS(h:p:=by rw[hz,e1];rfl):p:=h
def Cd(h:p:=by simpa using h3):p:=h
def aH(h:p:=by simp only[Pr.an,Pr.h,num,gy,true_and,and_true];first|done|omega):p:=h
def Po(h:p:=by rw[wu8 y hy];exact el):p:=h
def Pp(h:p:=by rw[wu8 y hy];exact sj y):p:=h
def VL(h:p:=by show(4294967296:Int)<=t%v1+(2:Nat)*2147483648;omega):p:=h
def Kg(h:p:=by rw[hZ];omega):p:=h
def Pu(h:p:=by show m/2<m;omega):p:=h
def V9(h:p:=by show List.length b-(j+1)<List.length b-j;omega):p:=h
def DE(h:p:=by have:=h.1;omega):p:=h
def fF(h:p:=by ac_rfl):p:=h
def G8(h:p:=by rw[e];exact iH _):p:=h
def KM(h:p:=by rw[e,dw]):p:=h
def zw(h:p:=by simp[h1]):p:=h
def DR(h:p:=by have:=H.hp.1;omega):p:=h
def Qe(h:p:=by show k-(i+1)<k-i;omega):p:=h
def age(h:p:=by simp[Pr.an,Pr.h,num,gy]):p:=h
def QC(h:p:=by show n-(i+1)<n-i;omega):p:=h
def XA(h:p:=by unfold gH;rw[hZ];omega):p:=h
def QQ(h:p:=by rw[iK];omega):p:=h
def XR(h:p:=by rw[aO,cT h];exact sW h):p:=h
def zO(h:p:=by show List.length l-(i+1)<List.length l-i;omega):p:=h
def HB(h:p:=by rw[c7,hZ];omega):p:=h
def Q7(h:p:=by decide+kernel):p:=h
def Q9(h:p:=by rw[q2];exact nU _ _):p:=h
def Rq(h:p:=by rw[aO,cT h1];exact sW h1):p:=h
def Yt(h:p:=by rw[Int.zero_ediv,iH]):p:=h
def YE(h:p:=by rw[O.len,c7];exact hL8):p:=h
def RS(h:p:=by simpa[AV.al,C.al]using bc):p:=h
def azt(h:p:=by rw[hl.γ id (hk id<|by simp[C.al])];exact e):p:=h
def B9(h:p:=by rw[hx.le.γ id bc];exact e):p:=h
def EG(h:p:=by simp[dC,Fence.wide]at hh):p:=h
def EO(h:p:=by simp[binOp,Op.intCmp,pure]):p:=h
def sI(h:p:=by simp[AV.al,C.al]):p:=h
def yj(h:p:=by cases bc):p:=h
def Mu(h:p:=by simp[Builtin.len_,run_underlying h2,goInt,Sem.run,pure]):p:=h
def Ii(h:p:=by rw[fZ];omega):p:=h
def Mw(h:p:=by simp[execOp,yl,asBool,Sem.run,pure]):p:=h
def Ch(h:p:=by simp[execOp,jx,Sem.run,pure]):p:=h
def SE(h:p:=by simp[execOp,resolve,invoke,builtin,jx,Sem.run,pure]):p:=h
def An(h:p:=by simp[ji]):p:=h
def yp(h:p:=by simp[aE]):p:=h
def MA(h:p:=by rw[EW hb,sL]):p:=h
def kK(h:p:=by simpa[fR]using hk):p:=h
def MK(h:p:=by show 1000000*st.nx+1000*i<=1000000*st.nx+1000*(i+1);omega):p:=h
def yv(h:p:=by simp[ob,hf,hb,qv]):p:=h
def rL(h:p:=by rw[hγ];exact e1):p:=h
def rO(h:p:=by rw[hγ];exact e):p:=h
def I3(h:p:=by rw[hH];exact hz):p:=h
def xy(h:p:=by cases e):p:=h
def N6(h:p:=by simp[oY,hd,bW]at uA):p:=h
def Dm(h:p:=by simp[OO,val]):p:=h
def y4(h:p:=by simp[val]):p:=h
def O1(h:p:=by show i+1<=X.length;omega):p:=h
def O5(h:p:=by show t=(q-1)*v1+(r+v1);rw[J9,mc];omega):p:=h
def O6(h:p:=by show 0<=r+v1;omega):p:=h
def O7(h:p:=by show r+v1<4294967296;omega):p:=h
def O8(h:p:=by show(4294967296:Int)<=r+v1+(f:Nat)*2147483648;omega):p:=h
def O9(h:p:=by show u/val v<=q-1;omega):p:=h
def Pt(h:p:=by show m/2<18446744073709551616;omega):p:=h
def sc(h:p:=by cases h2):p:=h
def azu:=@Y
def azv:=@o
end Go.El
