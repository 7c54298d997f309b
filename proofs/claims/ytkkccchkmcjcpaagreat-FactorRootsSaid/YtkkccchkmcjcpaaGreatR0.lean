/- Short names of theorems of the core, and of proofs that recur. Own work; no condition. -/
import Derived.WalkKit
import Derived.OrdersIn
set_option linter.defProp false
namespace Go.El
open Go
def ae{α:Sort _}{a:α}:a=a:=rfl
def ah:=@trivial
def aq:=@if_neg
def aw:=@if_pos
def az:=@congrArg
def aO:=@Option.some.injEq
def aY:=@List.getD_eq_getElem?_getD
def bc:=@of_decide_eq_true
def bw:=@Int.toNat_natCast
def bC:=@of_decide_eq_false
def bF:=@Nat.le_refl
def bK:=@Nat.zero_le
def bX:=@List.mem_append
def cq:=@Option.map_eq_some_iff
def ct:=@List.getElem?_eq_getElem
def cD:=@Prod.mk.injEq
def cM:=@if_true
def cP:=@if_false
def cT:=@Nat.le_of_ble_eq_true
def cX:=@List.length_pos_iff
def df:=@Int.zero_emod
def dx:=@List.mem_cons
def dG:=@Nat.le_trans
def dJ:=@List.length_map
def dY:=@Nat.mul_le_mul_right
def dZ:=@List.map_append
def eo:=@Int.mul_zero
def eQ:=@Bool.and_eq_true
def eR:=@Nat.zero_add
def fc:=@Int.mul_comm
def fk:=@List.length_cons
def fD:=@List.length_take
def fM:=@List.mem_append_left
def fN:=@Nat.lt_succ_self
def fO:=@Int.pow_succ
def fP:=@Nat.add_mul
def gn:=@Classical.byContradiction
def gq:=@Int.natCast_mul
def gJ:=@List.flatMap_cons
def gK:=@List.length_set
def gT:=@Int.emod_nonneg
def g9:=@Nat.mul_comm
def ik:=@List.eq_nil_of_length_eq_zero
def il:=@Int.emod_lt_of_pos
def iq:=@Nat.mod_lt
def iG:=@Nat.sub_self
def iU:=@Int.emod_eq_of_lt
def iV:=@List.take_length
def iW:=@Rat.intCast_mul
def iX:=@Nat.pow_succ
def iY:=@Int.one_mul
def iZ:=@Nat.one_mul
def ju:=@Int.mul_le_mul_of_nonneg_left
def jv:=@List.length_replicate
def jw:=@List.mem_singleton
def jx:=@Nat.add_sub_cancel
def jD:=@Int.mul_le_mul_of_nonneg_right
def jE:=@List.mem_flatMap
def jF:=@List.map_cons
def jG:=@Rat.mul_zero
def jH:=@Int.le_refl
def jO:=@Array.getElem?_eq_some_iff
def jP:=@Nat.pow_le_pow_right
def jY:=@List.mem_append_right
def jZ:=@List.pairwise_cons
def j3:=@List.getElem?_map
def j4:=@Int.mul_nonneg
def j5:=@Int.mul_assoc
def j6:=@Nat.add_zero
def kl:=@Nat.lt_of_lt_of_le
def ko:=@List.length_append
def kp:=@List.append_nil
def kq:=@decide_eq_false
def kJ:=@Int.zero_mul
def kR:=@List.mem_range
def kS:=@Int.emod_emod
def kT:=@Nat.mul_one
def lD:=@List.take_of_length_le
def lE:=@Nat.mul_le_mul_left
def lF:=@Int.add_mul
def mc:=@List.length_nil
def mh:=@Nat.pow_pos
def mM:=@List.getElem?_replicate
def mN:=@Bool.false_eq_true
def mO:=@List.getElem_mem
def mQ:=@List.cons_append
def mR:=@Int.mul_emod
def ni:=@List.getElem?_eq_none
def nj:=@List.append_assoc
def nk:=@Nat.mul_le_mul
def nl:=@Int.add_zero
def nm:=@Int.mul_one
def nN:=@Array.getElem?_setIfInBounds_ne
def nO:=@Int.natCast_nonneg
def nP:=@List.ext_getElem
def nQ:=@List.mem_map
def ot:=@List.getElem?_range
def ou:=@Rat.inv_mul_cancel
def ov:=@decide_eq_true
def oU:=@Int.emod_add_mul_ediv
def oV:=@Int.natAbs_natCast
def oW:=@Rat.num_divInt_den
def oX:=@Int.mul_add
def oY:=@Nat.pow_add
def pR:=@List.drop_eq_getElem_cons
def pS:=@List.set_append_right
def pT:=@Nat.pos_of_ne_zero
def pW:=@List.range_succ
def qZ:=@Int.tmod_eq_emod_of_nonneg
def q9:=@Nat.mod_eq_of_lt
def rf:=@Nat.le_of_dvd
def sf:=@Array.toList_inj
def si:=@List.getElem_map
def sj:=@Int.natAbs_mul
def sk:=@Rat.add_zero
def sn:=@Int.pow_pos
def tu:=@Rat.intCast_natCast
def tv:=@List.getElem?_drop
def tx:=@Nat.min_eq_left
def tA:=@Nat.add_assoc
def tB:=@Array.ext'
def uI:=@Nat.dvd_of_mod_eq_zero
def uJ:=@List.getElem_take
def uK:=@Int.natCast_pow
def uL:=@Rat.mul_assoc
def uM:=@Int.add_emod
def uN:=@Int.le_trans
def v5:=@Array.getD_eq_getD_getElem?
def v7:=@List.getElem?_eq_some_iff
def v8:=@List.mem_cons_of_mem
def v9:=@List.replicate_succ
def wa:=@List.replicate_zero
def wb:=@Nat.eq_zero_or_pos
def wc:=@List.take_add_one
def we:=@List.getElem_drop
def wg:=@List.all_eq_true
def wh:=@List.nil_append
def wi:=@List.drop_zero
def wj:=@Nat.lt_or_ge
def wm:=@Int.pow_zero
def wo:=@Rat.zero_mul
def xx:=@List.getElem_cons_zero
def xy:=@Classical.choose_spec
def xA:=@Int.emod_emod_of_dvd
def xB:=@Int.ediv_nonneg
def xC:=@List.mem_filter
def xD:=@Nat.div_add_mod
def xE:=@Rat.natCast_mul
def xF:=@List.drop_drop
def xG:=@Nat.mul_assoc
def xH:=@Int.add_comm
def xI:=@Nat.pow_zero
def xJ:=@Int.sub_emod
def xK:=@Int.sub_mul
def y8:=@List.getElem?_append_right
def y9:=@List.getElem_append_left
def za:=@List.flatMap_append
def zb:=@Nat.lt_of_le_of_lt
def zc:=@List.nodup_cons
def zd:=@Bool.or_eq_true
def ze:=@Int.natCast_add
def zf:=@List.Perm.refl
def zg:=@Int.ediv_one
def zh:=@Rat.pow_zero
def zi:=@Rat.pow_succ
def zj:=@Nat.mul_pos
def zk:=@Nat.pow_mul
def zm:=@Rat.one_mul
def AR:=@Int.emod_eq_emod_iff_emod_sub_eq_zero
def AS:=@List.take_append_of_le_length
def AT:=@Array.getElem?_append_left
def AU:=@Int.tdiv_eq_ediv_of_nonneg
def AW:=@List.getElem?_cons_zero
def AX:=@Nat.mod_eq_zero_of_dvd
def AY:=@List.take_append_drop
def AZ:=@List.pairwise_append
def A0:=@List.getElem_range
def A1:=@List.length_range
def A2:=@Int.natCast_ediv
def A3:=@Nat.not_lt_zero
def A4:=@Int.mul_le_mul
def A5:=@Nat.zero_mul
def A6:=@Nat.gcd_comm
def A7:=@Int.zero_add
def A8:=@Int.le_of_lt
def A9:=@Nat.sub_zero
def Ba:=@Int.mul_pos
def Bb:=@Rat.mul_one
def Bc:=@Rat.neg_neg
def C2:=@Int.fdiv_eq_ediv_of_nonneg
def C3:=@List.getElem?_take_of_lt
def C4:=@List.getElem?_cons_succ
def C5:=@Int.eq_ofNat_of_zero_le
def C6:=@Int.emod_eq_zero_of_dvd
def C7:=@Int.dvd_of_emod_eq_zero
def C8:=@Int.natCast_dvd_natCast
def C9:=@Int.add_mul_ediv_right
def C':=@Int.ediv_lt_of_lt_mul
def Da:=@Nat.eq_of_beq_eq_true
def Db:=@List.mem_cons_self
def Dc:=@List.append_of_mem
def Dd:=@List.set_cons_zero
def De:=@Option.getD_some
def Df:=@Nat.div_le_self
def Dg:=@Rat.mul_eq_zero
def Dh:=@Rat.intCast_inj
def Di:=@Int.sub_zero
def Dj:=@Int.ediv_neg
def Dk:=@Nat.mul_add
def Dm:=@Nat.pow_mod
def FV:=@List.getElem?_append_left
def FW:=@Nat.le_mul_of_pos_right
def FX:=@Nat.add_sub_cancel_left
def FY:=@List.getElem_cons_succ
def FZ:=@List.append_eq_nil_iff
def F1:=@Int.ediv_eq_zero_of_lt
def F2:=@Array.getElem?_toList
def F3:=@Int.natAbs_dvd_natAbs
def F4:=@Rat.divInt_mul_divInt
def F5:=@Int.toNat_of_nonneg
def F6:=@Nat.pow_le_pow_left
def F7:=@List.getElem?_set
def F8:=@Int.mul_emod_left
def F9:=@Nat.le_of_not_lt
def F':=@List.length_drop
def Ga:=@Nat.div_eq_of_lt
def Gb:=@Int.natCast_emod
def Gc:=@Option.some.inj
def Gd:=@Nat.mul_succ
def Ge:=@List.map_nil
def Gf:=@Rat.zero_add
def Gg:=@Int.pow_one
def Gi:=@Nat.mul_mod
def JL:=@List.take_succ_eq_append_getElem
def JM:=@List.drop_append_of_le_length
def JN:=@Int.mul_lt_mul_of_pos_right
def JO:=@Int.add_mul_emod_self_left
def JP:=@List.eq_of_mem_replicate
def JQ:=@List.drop_eq_nil_of_le
def JR:=@List.getElem?_toArray
def JS:=@List.set_cons_succ
def JT:=@Nat.gcd_zero_right
def JU:=@List.find?_eq_none
def JV:=@Nat.lt_trichotomy
def JW:=@Bool.not_eq_true'
def JX:=@List.pairwise_map
def JY:=@List.drop_length
def JZ:=@Rat.intCast_zero
def J0:=@Int.mul_ne_zero
def J1:=@Rat.intCast_sub
def J2:=@Rat.intCast_neg
def J3:=@Int.dvd_trans
def J4:=@Nat.add_comm
def J5:=@Int.sub_self
def J6:=@Nat.mul_zero
def J7:=@Int.dvd_refl
def J8:=@Int.mul_sub
def OG:=@List.pairwise_iff_getElem
def OH:=@List.pairwise_singleton
def OI:=@List.mem_of_mem_take
def OJ:=@Nat.div_lt_of_lt_mul
def OK:=@BitVec.ofInt_natCast
def OL:=@Int.gcd_eq_zero_iff
def ON:=@List.getElem?_take
def OO:=@BitVec.toNat_ofNat
def OP:=@Int.sub_eq_add_neg
def OQ:=@Rat.sub_eq_add_neg
def OR:=@Rat.divInt_eq_div
def OS:=@Int.dvd_mul_left
def OT:=@List.flatMap_nil
def OU:=@List.not_mem_nil
def OV:=@List.cons.injEq
def OW:=@Option.map_some
def OX:=@Rat.natCast_add
def OY:=@List.take_take
def OZ:=@List.take_zero
def O0:=@List.cons.inj
def O1:=@Nat.dvd_trans
def O2:=@Nat.le_of_lt
def O3:=@Bool.true_or
def O4:=@Bool.or_true
def O5:=@Nat.beq_refl
def O6:=@Nat.le_of_eq
def O7:=@Rat.mul_comm
def O8:=@Int.ofNat_le
def VR:=@Int.add_mul_emod_self_right
def VS:=@Nat.mul_lt_mul_of_pos_right
def VT:=@Array.getElem?_eq_getElem
def VU:=@List.Pairwise.imp_of_mem
def VV:=@Rat.intCast_eq_zero_iff
def VW:=@List.pairwise_lt_range
def VX:=@Nat.div_div_eq_div_mul
def VY:=@Nat.ble_eq_true_of_le
def VZ:=@Rat.divInt_add_divInt
def V0:=@List.contains_iff_mem
def V1:=@Int.ediv_emod_unique
def V2:=@List.getElem_of_mem
def V3:=@Array.length_toList
def V4:=@Nat.pos_iff_ne_zero
def V5:=@List.drop_replicate
def V6:=@Nat.mul_div_cancel
def V7:=@Nat.lt_or_gt_of_ne
def V8:=@List.nodup_append
def V9:=@Int.gcd_dvd_right
def Wa:=@Nat.gcd_dvd_right
def Wb:=@Int.mul_left_comm
def Wc:=@Int.dvd_mul_right
def af{p:Prop}(h:p:=by omega):p:=h
def ak{p:Prop}(h:p:=by decide):p:=h
def aR{p:Prop}(h:p:=by simp only[Pr.an,Pr.h,num,aA,true_and,and_true];first|done|omega):p:=h
def be{p:Prop}(h:p:=by simp):p:=h
def cd{p:Prop}(h:p:=by simpa using h):p:=h
def cz{p:Prop}(h:p:=by(repeat(refine(bH (by omega)).trans ?_));exact cr (by omega)):p:=h
def cO{p:Prop}(h:p:=by simp;omega):p:=h
def gI{p:Prop}(h:p:=by kernel_rfl):p:=h
def gR{p:Prop}(h:p:=by simpa using h2):p:=h
def iF{p:Prop}(h:p:=by simp[Op.operands]):p:=h
def jt{p:Prop}(h:p:=by simp[aS]):p:=h
def jN{p:Prop}(h:p:=by simp only[Pr.an,Pr.h,num,aA,true_and,and_true];omega):p:=h
def kI{p:Prop}(h:p:=by ac_rfl):p:=h
def lC{p:Prop}(h:p:=by simp[hx]):p:=h
def oT{p:Prop}(h:p:=by simp[hy]):p:=h
def pP{p:Prop}(h:p:=by show j<j+1;omega):p:=h
def pQ{p:Prop}(h:p:=by show a.length-(i+1)<a.length-i;omega):p:=h
def qY{p:Prop}(h:p:=by rw[aH.size,fW];exact aV):p:=h
def sc{p:Prop}(h:p:=by simp[Act.put]):p:=h
def se{p:Prop}(h:p:=by rw[e]):p:=h
def ts{p:Prop}(h:p:=by intro e;subst e;simp[a9]at ht):p:=h
def uG{p:Prop}(h:p:=by simp[gU,hl]):p:=h
def uH{p:Prop}(h:p:=by simpa using h4):p:=h
def vX{p:Prop}(h:p:=by apply tB;simp):p:=h
def vY{p:Prop}(h:p:=by rw[po];omega):p:=h
def vZ{p:Prop}(h:p:=by decide+kernel):p:=h
def xu{p:Prop}(h:p:=by have:=h.hM;omega):p:=h
def xv{p:Prop}(h:p:=by simpa using h3):p:=h
def xw{p:Prop}(h:p:=by have:=H.hp.1;omega):p:=h
def yW{p:Prop}(h:p:=by rw[execOp,b9]):p:=h
def yX{p:Prop}(h:p:=by simp only[dO,gJ,dZ,bX];exact .inl h):p:=h
def yY{p:Prop}(h:p:=by simp only[dO,gJ,dZ,bX];exact .inr (.inl h)):p:=h
def yZ{p:Prop}(h:p:=by simpa using hj):p:=h
def y5{p:Prop}(h:p:=by simp[bN,h3]):p:=h
def y6{p:Prop}(h:p:=by rw[hz,e1];rfl):p:=h
def y7{p:Prop}(h:p:=by rw[fD];omega):p:=h
def AQ{p:Prop}(h:p:=by rw[←dc]):p:=h
def C1{p:Prop}(h:p:=by simpa using hu):p:=h
def FJ{p:Prop}(h:p:=by simp[C.aD]):p:=h
def FK{p:Prop}(h:p:=by rw[hm]at al;cases al):p:=h
def FM{p:Prop}(h:p:=by simp[Op.operands,Call.operands]):p:=h
def FN{p:Prop}(h:p:=by simpa using hl):p:=h
def FO{p:Prop}(h:p:=by rw[←sf];simpa using p8):p:=h
def FP{p:Prop}(h:p:=by simpa using bh):p:=h
def FQ{p:Prop}(h:p:=by show M-(i+1)<M-i;omega):p:=h
def FR{p:Prop}(h:p:=by simpa[bN]using h3):p:=h
def FT{p:Prop}(h:p:=by rw[e];exact df _):p:=h
def FU{p:Prop}(h:p:=by show xs.length-(i+1)<xs.length-i;omega):p:=h
def JC{p:Prop}(h:p:=by rw[lF,iY]):p:=h
def JD{p:Prop}(h:p:=by subst hq;simp[Op.operands]):p:=h
def JE{p:Prop}(h:p:=by rw[←sf];exact ha):p:=h
def JF{p:Prop}(h:p:=by simp[St.kn,hv]):p:=h
def JG{p:Prop}(h:p:=by simp[St.kn,h2]):p:=h
def JH{p:Prop}(h:p:=by show(0:Int)≤1;decide):p:=h
def JI{p:Prop}(h:p:=by rw[e,zero_mul]):p:=h
def JJ{p:Prop}(h:p:=by rw[aY,ct h1];exact mO h1):p:=h
def JK{p:Prop}(h:p:=by rw[fk];omega):p:=h
def Oo{p:Prop}(h:p:=by simpa[bN]using h2):p:=h
def Oq{p:Prop}(h:p:=by rw[x1,wrap_u64 _ (by omega) (by omega)]):p:=h
def Ot{p:Prop}(h:p:=by rw[jv];omega):p:=h
def Ou{p:Prop}(h:p:=by simp[IntKind.wrap,IntKind.bits,IntKind.signed]):p:=h
def Ov{p:Prop}(h:p:=by show X.length-(i+1)<X.length-i;omega):p:=h
def Ow{p:Prop}(h:p:=by rw[vg y hy];exact el):p:=h
def Ox{p:Prop}(h:p:=by rw[vg y hy];exact nO y):p:=h
def Oy{p:Prop}(h:p:=by show b.length-(j+1)<b.length-j;omega):p:=h
def Oz{p:Prop}(h:p:=by rw[←h1];exact FW _ (mh (by decide))):p:=h
def OA{p:Prop}(h:p:=by show n-(i+1)<n-i;omega):p:=h
def OB{p:Prop}(h:p:=by show((i:Int)).toNat<_;omega):p:=h
def OC{p:Prop}(h:p:=by have:=h.hp.1;omega):p:=h
def OD{p:Prop}(h:p:=by show((t:Int)).toNat<_;rw[jr];omega):p:=h
def OE{p:Prop}(h:p:=by rw[EY (by omega)];exact mO _):p:=h
def OF{p:Prop}(h:p:=by show(1:Rat)≠0;decide):p:=h
def VB{p:Prop}(h:p:=by rw[←sf];exact ht):p:=h
def VC{p:Prop}(h:p:=by rw[b9];simp[o9,Op.operands,aS]):p:=h
def VD{p:Prop}(h:p:=by have:=cT sQ;rw[qj];omega):p:=h
def VE{p:Prop}(h:p:=by rw[wrap_u64 _ (by omega) (by omega)];omega):p:=h
def VF{p:Prop}(h:p:=by simp[aY,ni (F9 h2)]):p:=h
def VG{p:Prop}(h:p:=by rw[PS.sub_def,PS.add_assoc,PS.Rw,PS.add_zero]):p:=h
def VH{p:Prop}(h:p:=by(repeat(refine(bH (by omega)).trans ?_));refine(SI (by omega)).trans ?_;(repeat(refine(bH (by omega)).trans ?_));exact cr (by omega)):p:=h
def VI{p:Prop}(h:p:=by show l.length-(j+1)<l.length-j;omega):p:=h
def VJ{p:Prop}(h:p:=by show 1+i≤1000000*8;omega):p:=h
def VK{p:Prop}(h:p:=by show 3000000≤1000000*8;decide):p:=h
def VL{p:Prop}(h:p:=by show 1+i≤1000000*12;omega):p:=h
def VM{p:Prop}(h:p:=by show 3000000≤1000000*12;decide):p:=h
def VN{p:Prop}(h:p:=by simp only[Pr.an,Pr.h,num,aA,true_and,and_true];exact M6):p:=h
def VO{p:Prop}(h:p:=by(repeat(refine(bH (by omega)).trans ?_));exact TG (by omega)):p:=h
def VP{p:Prop}(h:p:=by unfold eh;rw[fD];omega):p:=h
def VQ{p:Prop}(h:p:=by show a.length-(j+1)<a.length-j;omega):p:=h
end Go.El
